import PyProof.Rows.All
import Wide.All
import OpenK.AllK
import Wide.FinOn
import HandS.ForMost
import HandS.Lambda
import HandS.Nested
import HandS.Conv
import HandS.SortKw
import KE.SortKeyHeap
import KE.SortKeyed
import HandS.EndTab
import PySem.Challenge.RW_seatrush_k07_mix_and_draw
set_option Elab.async false
set_option linter.all false
set_option maxRecDepth 100000
set_option maxHeartbeats 4000000
/-! HSa: sorted(.., key=f), f's keys pairs of ints, over the hand layer -/
namespace HS
open PySem PySem.Spec PyProof.Rows L2 LamX NdefX
open PySem.W (EachIs)
abbrev KI := V → Int × Int
abbrev kdI (k : KI) (x : V) : PyData := .tuple [.int (k x).1, .int (k x).2]
def leK (k : KI) (x y : V) : Bool := decide ((k x).1 < (k y).1 ∨ ((k x).1 = (k y).1 ∧ (k x).2 ≤ (k y).2))
theorem leK_is (k : KI) : PySem.W.dataLe false (kdI k) = leK k := PySem.W.dataLe_ii _ _
theorem each_vals : ∀ {xs : List V} {us : List Value}, Vals xs us → EachIs (fun u x => RelV x u) us xs
  | _, _, .nil => .nil
  | _, _, .cons r t => .cons r (each_vals t)
theorem vals_each : ∀ {us : List Value} {xs : List V}, EachIs (fun u x => RelV x u) us xs → Vals xs us
  | _, _, .nil => .nil
  | _, _, .cons r t => .cons r (vals_each t)
section
variable {X : Cx} {pins : List (Addr × Obj)} {σ : L2.St} {H : Hp} {s : Shared}
/-- a pair of ints that is tracked reads as such -/
theorem reads_pair {h : Heap} {t : Addr} {i j : Int} (hok : HOk X.prog X.w H h) (e : H t = some (.tup [.int i, .int j])) : Reads h (.ref t) (.tuple [.int i, .int j]) [] := by
  obtain ⟨_, its, r, o, ho, hc, n, hd⟩ := hok _ _ e
  obtain ⟨u1, u2, rfl, ri, rj⟩ := vals2 r
  obtain ⟨t1, rfl⟩ := ri
  obtain ⟨t2, rfl⟩ := rj
  exact .tuple (as := []) ho hc hd (.cons (as := []) (bs := []) (.int _ _) (.cons (as := []) (bs := []) (.int _ _) .nil))
/-- what one call of the key promises -/
def KeyTurn (X : Cx) (A : Around) (pins : List (Addr × Obj)) (σ : L2.St) (H : Hp) (f : Value) (k : KI) (xs : List V) : Prop :=
  ∀ (x : V) (v : Value) (pins' : List (Addr × Obj)) (H' : Hp) (s' : Shared), x ∈ xs → RelV x v → Same H H' → (∀ p ∈ pins, p ∈ pins') → Inv X pins' σ H' s' →
    wpAny (model X.prog X.w) A (call f [v]) (fun u s'' => ∃ H'' t, Inv X pins' σ H'' s'' ∧ Same H' H'' ∧ u = .ref t ∧ H'' t = some (.tup [.int (k x).1, .int (k x).2])) (fun _ _ => False) s'
/-- a list that nobody tracks is written -/
theorem inv_other {h' : Heap} {b : Addr} {tk : Nat} (I : Inv X pins σ H s) (hs : Heap.SameBut b s.heap h') (hn : H b = none) (hL : b ≠ X.env.locals) (h1 : X.s_0.heap.objs.size ≤ b) (h2 : ∀ x c, X.env.cells.lookup x = some c → c ≠ b) (h3 : ∀ p ∈ X.pn ++ pins, p.1 ≠ b) :
    Inv X pins σ H { s with heap := h', toks := tk } := I.turned (fun c o hc e => (hs.2 c hc).trans e) hn hL (.inr h1) h2 h3
theorem pin_cell {p : Addr × Obj} (I : Inv X pins σ H s) (hp : p ∈ X.pn ++ pins) : ∀ x c, X.env.cells.lookup x = some c → c ≠ p.1 := fun x c e q => by
  obtain ⟨e1, _, _, _, e2⟩ := I.pin p hp
  obtain ⟨v, o, ho, hd⟩ := I.cell x c e
  rw [q, e1] at ho
  cases ho
  exact e2 v hd
/-- the keys are asked, the list is sorted by them -/
theorem keyed_rest {A : Around} {a kS : Addr} {f : Value} {vs : List Value} {xs : List V} {k : KI} {e1 : Nat} {P : PySem.Fin → Shared → Prop} {E : Value → Shared → Prop}
    (I : Inv X ((kS, seqObj "list" #[] 0) :: (a, seqObj "list" #[] e1) :: pins) σ H s) (hka : kS ≠ a) (hsa : X.s_0.heap.objs.size ≤ a) (hsk : X.s_0.heap.objs.size ≤ kS) (hpa : ∀ p ∈ X.pn ++ pins, p.1 ≠ a) (hpk : ∀ p ∈ X.pn ++ pins, p.1 ≠ kS)
    (r : Vals xs vs) (hZ : vs.length ≤ sizeLine) (hu : A.units + 1 < cLine) (turn : KeyTurn X A pins σ H f k xs)
    (h : ∀ H' s', Same H H' → H' a = none → Inv X pins σ (upd H' a (.lst (xs.mergeSort (leK k)))) s' → P (.done (.ret .none)) s') : wpAny (model X.prog X.w) A (ksk_rest a f false vs.toArray e1 (.ref kS)) P E s := by
  unfold ksk_rest
  refine wpAny_bind (wpAny_rule ?_)
  rw [List.forIn_toArray]
  refine wpAny_bind (ksk_fold (fun i s' => ∃ (H' : Hp) (kA : Array Value) (e : Nat) (ts : List Addr), Inv X ((kS, seqObj "list" kA e) :: (a, seqObj "list" #[] e1) :: pins) σ H' s' ∧ Same H H' ∧ kA.toList = ts.map Value.ref ∧ ts.length = i ∧
      ∀ (j : Nat) (t : Addr), ts[j]? = some t → ∃ x, xs[j]? = some x ∧ H' t = some (.tup [.int (k x).1, .int (k x).2])) vs 0 s ⟨H, #[], 0, [], I, Same.refl H, rfl, rfl, fun j t e => by simp at e⟩ ?step ?done)
  case step =>
    rintro j v s' hv ⟨H', kA, e, ts, I', sm, ek, el, et⟩
    simp only [Nat.zero_add] at el ⊢
    have hj : j < vs.length := (List.getElem?_eq_some_iff.mp hv).1
    obtain ⟨x, hx⟩ : ∃ x, xs[j]? = some x := ⟨_, List.getElem?_eq_getElem (by rw [r.length]; exact hj)⟩
    obtain ⟨v', hv', rv⟩ := r.get hx
    rw [hv] at hv'
    cases hv'
    refine wpAny_bind (wpAny_attempt (wpAny_mono (turn _ v _ H' s' (List.mem_of_getElem? hx) rv sm (fun p hp => List.mem_cons_of_mem _ (List.mem_cons_of_mem _ hp)) I') (fun u s2 hq => ?_) fun _ _ z => z.elim))
    obtain ⟨H2, t, I2, sm2, rfl, ht⟩ := hq
    try dsimp only
    obtain ⟨nk, nn, nL, _, _⟩ := I2.pin (kS, seqObj "list" kA e) (by simp)
    have hsz : kA.size ≤ vs.length := by
      have := congrArg List.length ek
      rw [Array.length_toList, List.length_map] at this
      omega
    have hs := Heap.SameBut.update s2.heap kS (Obj.mapSeq (·.push (Value.ref t)))
    obtain ⟨c2, hc2⟩ : ∃ c2, (s2.heap.update kS (Obj.mapSeq (·.push (Value.ref t)))).get? kS = some (seqObj "list" (kA.push (.ref t)) c2) := ⟨_, get?_update_seq nk (·.push (Value.ref t))⟩
    refine wpAny_bind (listUpdate_at nk rfl ?_ (Nat.le_trans hsz hZ) (by rw [Array.size_push]; omega))
    have I3 : Inv X ((a, seqObj "list" #[] e1) :: pins) σ H2 s2 := I2.pins_of fun p hp => I2.pin p (List.mem_append_right _ (List.mem_cons_of_mem _ hp))
    have I4 : Inv X ((a, seqObj "list" #[] e1) :: pins) σ H2 { s2 with heap := s2.heap.update kS (Obj.mapSeq (·.push (Value.ref t))) } := inv_other (tk := s2.toks) I3 hs nn nL hsk (pin_cell I2 (p := (kS, seqObj "list" kA e)) (by simp)) fun p hp q => by
      rcases List.mem_append.mp hp with hp | hp
      · exact hpk p (List.mem_append_left _ hp) q
      · rcases List.mem_cons.mp hp with rfl | hp
        · exact hka q.symm
        · exact hpk p (List.mem_append_right _ hp) q
    refine wpAny_pure ⟨rfl, H2, kA.push (.ref t), c2, ts ++ [t], I4.pins_of fun p hp => ?_, sm.trans sm2, ?_, ?_, fun i u hi => ?_⟩
    · rcases List.mem_cons.mp hp with rfl | hp
      · exact ⟨hc2, nn, nL, (I2.pin (kS, seqObj "list" kA e) (by simp)).2.2.2.1, fun v z => by cases z⟩
      · exact I4.pin p (List.mem_append_right _ hp)
    · rw [Array.toList_push, ek, List.map_append]; rfl
    · rw [List.length_append, el]; rfl
    · by_cases hi2 : i < ts.length
      · rw [List.getElem?_append_left hi2] at hi
        obtain ⟨x, e1, e2⟩ := et i u hi
        exact ⟨x, e1, sm2 _ _ e2⟩
      · rw [List.getElem?_append_right (by omega)] at hi
        have hi3 : i = ts.length := by
          have := (List.getElem?_eq_some_iff.mp hi).1
          simp only [List.length_singleton] at this
          omega
        subst hi3
        simp only [Nat.sub_self, List.getElem?_cons_zero, Option.some.injEq] at hi
        subst hi
        rw [el]
        exact ⟨_, hx, ht⟩
  case done =>
    rintro s' ⟨H', kA, e, ts, I', sm, ek, el, et⟩
    rw [Nat.zero_add] at el
    try dsimp only
    obtain ⟨nk, nkn, nkL, _, _⟩ := I'.pin (kS, seqObj "list" kA e) (by simp)
    obtain ⟨na, nan, naL, _, _⟩ := I'.pin (a, seqObj "list" #[] e1) (by simp)
    have hxl : xs.length = vs.length := r.length
    have hk' : EachIs (fun v d => ∃ as, Reads s'.heap v d as) kA.toList (xs.map (kdI k)) := by
      rw [ek]
      have go : ∀ (ts : List Addr) (xs : List V), ts.length = xs.length → (∀ (j : Nat) (t : Addr), ts[j]? = some t → ∃ x, xs[j]? = some x ∧ H' t = some (.tup [.int (k x).1, .int (k x).2])) →
          EachIs (fun v d => ∃ as, Reads s'.heap v d as) (ts.map Value.ref) (xs.map (kdI k)) := by
        intro ts
        induction ts with
        | nil => intro xs hl _; cases xs with
          | nil => exact .nil
          | cons _ _ => cases hl
        | cons t ts ih =>
          intro xs hl hq
          cases xs with
          | nil => cases hl
          | cons x xs =>
            obtain ⟨x', e1, e2⟩ := hq 0 t rfl
            simp only [List.getElem?_cons_zero, Option.some.injEq] at e1
            subst e1
            exact .cons ⟨[], reads_pair I'.hok e2⟩ (ih xs (Nat.succ.inj hl) fun j u hj => hq (j + 1) u hj)
      exact go ts xs (by omega) et
    have hal : PySem.W.AllAlike (xs.map (kdI k)) := fun d hd d' hd' => by
      obtain ⟨x, _, rfl⟩ := List.mem_map.mp hd
      obtain ⟨y, _, rfl⟩ := List.mem_map.mp hd'
      rfl
    have hks : PySem.W.Sortable (xs.map (kdI k)) := .inl fun d hd => by
      obtain ⟨x, _, rfl⟩ := List.mem_map.mp hd
      exact ⟨_, _, rfl⟩
    have hsz : kA.size = vs.length := by
      have := congrArg List.length ek
      rw [Array.length_toList, List.length_map] at this
      omega
    refine wpAny_bind (listItems_at nk rfl ?_)
    have hdep : ∀ d ∈ xs.map (kdI k), A.units + d.depth < cLine := fun d hd => by
      obtain ⟨x, _, rfl⟩ := List.mem_map.mp hd
      exact hu
    have hid : ∀ b o, b ≠ kS → s'.heap.get? b = some o → (PySem.W.hideAll s'.heap [kS]).get? b = some o := fun b o hb e => PySem.W.hideAll_get _ e (by simpa using hb)
    refine PySem.W.keyH_end (h₁ := PySem.W.hideAll s'.heap [kS]) (fun b o _ e => PySem.W.of_hideAll _ e) (PySem.W.hideAll_none _ (by simp)) nk na hka (PySem.W.SortsAt.data hk' hal hks hdep) hsz hZ fun h' tk c kp hD => ?_
    have ko : EachIs (fun u x => RelV x u) (PySem.W.sortVals (PySem.W.dataKind s'.heap (xs.map (kdI k))) false kA.toList vs) (xs.mergeSort (leK k)) := by
      rw [← leK_is]
      exact PySem.W.keyedOut_each (rev := false) (kdI k) ⟨s'.heap, kA.toList, hal, rfl, hk'⟩ (each_vals r)
    have rv := vals_each ko
    have hol : (xs.mergeSort (leK k)).length ≤ sizeLine := by rw [List.length_mergeSort, hxl]; exact hZ
    have keep : ∀ b o, b ≠ a → b ≠ kS → s'.heap.get? b = some o → h'.get? b = some o := fun b o h1 h2 e => kp b o h1 (hid b o h2 e)
    have cell : ∀ b, b ∈ [kS, a] → ∀ x c, X.env.cells.lookup x = some c → c ≠ b := fun b hb => by
      rcases List.mem_cons.mp hb with rfl | hb
      · exact pin_cell I' (p := (b, seqObj "list" kA e)) (by simp)
      · obtain rfl : b = a := by simpa using hb
        exact pin_cell I' (p := (b, seqObj "list" #[] e1)) (by simp)
    have I0 : Inv X pins σ H' s' := I'.pins_of fun p hp => I'.pin p (List.mem_append_right _ (List.mem_cons_of_mem _ (List.mem_cons_of_mem _ hp)))
    refine h H' { s' with heap := h', toks := tk } sm nan (I0.step (g' := s'.gens) (d' := s'.drawn) (ch := [kS, a]) (fun b hb => ?_) (fun b o _ _ hc e _ => keep b o (fun q => hc (by simp [q])) (fun q => hc (by simp [q])) e)
      (fun b o _ _ hc e _ => ⟨o.slots, keep b o (fun q => hc (by simp [q])) (fun q => hc (by simp [q])) e⟩) (fun b o hc e n => by rw [upd_ne (fun q => hc (by simp [q]))]; exact n) (fun b o hc e => ⟨o, keep b o (fun q => hc (by simp [q])) (fun q => hc (by simp [q])) e⟩)
      (fun b xs e => by rw [upd_ne (ne_of_none e nan)]; exact e) (fun b o u e => by rw [upd_ne (ne_of_none e nan)]; exact e) (fun b ps e => ⟨#[], by rw [upd_ne (ne_of_none e nan), e]; simp⟩) (fun m hm => ?_) (fun b u e => ?_) I0.bare)
    · refine ⟨?_, ?_, cell b hb, ?_⟩
      · rcases List.mem_cons.mp hb with rfl | hb
        · exact .inr hsk
        · obtain rfl : b = a := by simpa using hb
          exact .inr hsa
      · rcases List.mem_cons.mp hb with rfl | hb
        · exact nkL
        · obtain rfl : b = a := by simpa using hb
          exact naL
      · intro p hp
        rcases List.mem_cons.mp hb with rfl | hb
        · exact hpk p hp
        · obtain rfl : b = a := by simpa using hb
          exact hpa p hp
    · obtain ⟨o, es, ep, ho, rr⟩ := hm
      exact ⟨o, es, ep, keep _ o (Ne.symm naL) (Ne.symm nkL) ho, rr⟩
    · by_cases hb : b = a
      · subst hb
        rw [upd_same] at e
        cases e
        exact ⟨hol, _, c, rv, hD⟩
      · rw [upd_ne hb] at e
        have hbk : b ≠ kS := ne_of_none e nkn
        refine (I0.hok b u e).stay (fun c v hc q => keep c v ?_ ?_ q) (fun c q => by rw [upd_ne (ne_of_none q nan)]; exact q) fun c xs q => by rw [upd_ne (ne_of_none q nan)]; exact q
        · rcases hc with rfl | hc
          · exact hb
          · exact ne_of_none hc nan
        · rcases hc with rfl | hc
          · exact hbk
          · exact ne_of_none hc nkn
end
end HS
/-! HSb: sorted(xs, key=lambda x: (.., ..)) as a rule -/
namespace HS
open PySem PySem.Spec PyProof.Rows L2 LamX NdefX
open PySem.W (EachIs)
section
variable {X : Cx} {pins : List (Addr × Obj)} {σ : L2.St} {H : Hp} {s : Shared}
/-- a new list of the items, sorted by keys -/
theorem sort_fresh {A : Around} {f : Value} {kw : List (Str × Value)} {vs : List Value} {xs : List V} {k : KI} {Q : Value → Shared → Prop} {E : Value → Shared → Prop} (I : Inv X pins σ H s) (r : Vals xs vs) (hZ : vs.length ≤ sizeLine) (hu : A.units + 4 < cLine)
    (ht : ∀ x, Builtin.«list.sort» ⟨[.ref x], kw⟩ = ksk_tree x f false) (ha2 : ∀ x, argsOk "list.sort" ⟨[x], kw⟩) (turn : KeyTurn X A.in1 pins σ H f k xs)
    (q : ∀ H' p s', Same H H' → H' p = none → Inv X pins σ (upd H' p (.lst (xs.mergeSort (leK k)))) s' → Q (.ref p) s') :
    wpAny (model X.prog X.w) A (newList vs >>= fun l => holding [l] (call (.builtin "list.sort") [l] kw) >>= fun _ => ret l) (fun fin s' => ∃ v, fin = .done (.ret v) ∧ Q v s') E s := by
  refine wpAny_bind (wpAny_newList ?_ hZ)
  have hb : s.heap.objs.size < (s.heap.push (seqObj "list" vs.toArray 0)).objs.size := by rw [size_push']; exact Nat.lt_succ_self _
  have ho : (s.heap.push (seqObj "list" vs.toArray 0)).get? s.heap.objs.size = some (seqObj "list" vs.toArray 0) := Heap.get?_push_size _ rfl
  refine wpAny_bind (wpAny_holding (wpAny_call_entry_kw slot_list_sort ⟨_, ho, rfl⟩ entry_list_sort ?_ (ha2 _)))
  show wpAny _ A.in1 (Builtin.«list.sort» ⟨[.ref s.heap.objs.size], kw⟩) _ _ _
  rw [ht]
  unfold ksk_tree
  generalize ha : s.heap.objs.size = a at hb ho ⊢
  refine wpAny_bind (listItems_at ho rfl ?_)
  refine wpAny_bind (listUpdate_at ho rfl ?_ (by rw [List.size_toArray]; exact hZ) (Nat.zero_le _))
  have s1 := Heap.SameBut.update (s.heap.push (seqObj "list" vs.toArray 0)) a (Obj.mapSeq fun _ => (#[] : Array Value))
  obtain ⟨e1, ho1⟩ : ∃ e1, ((s.heap.push (seqObj "list" vs.toArray 0)).update a (Obj.mapSeq fun _ => (#[] : Array Value))).get? a = some (seqObj "list" #[] e1) := ⟨_, get?_update_seq ho fun _ => #[]⟩
  have hz1 : ((s.heap.push (seqObj "list" vs.toArray 0)).update a (Obj.mapSeq fun _ => (#[] : Array Value))).objs.size = a + 1 := by rw [Heap.size_update, size_push', ha]
  generalize hg : (s.heap.push (seqObj "list" vs.toArray 0)).update a (Obj.mapSeq fun _ => (#[] : Array Value)) = g at s1 ho1 hz1 ⊢
  refine wpAny_bind (seqEpoch_at ho1 rfl ?_)
  refine wpAny_bind (wpAny_newTuple ?_ (by simpa using hZ))
  refine wpAny_bind (wpAny_newList ?_ (Nat.zero_le _))
  refine wpAny_holding ?_
  have kg : ∀ b o, s.heap.get? b = some o → g.get? b = some o := fun b o e => (s1.2 b (Nat.ne_of_lt (ha ▸ Heap.lt_size e))).trans (Heap.get?_push_of_some _ e)
  have hz2 : (g.push (seqObj "tuple" vs.toArray 0)).objs.size = a + 2 := by rw [size_push', hz1]
  have kh : ∀ b o, g.get? b = some o → ((g.push (seqObj "tuple" vs.toArray 0)).push (seqObj "list" #[] 0)).get? b = some o := fun b o e => Heap.get?_push_of_some _ (Heap.get?_push_of_some _ e)
  have I1 : Inv X pins σ H { s with heap := (g.push (seqObj "tuple" vs.toArray 0)).push (seqObj "list" #[] 0) } := I.kept (t' := s.toks) fun b o e => kh b o (kg b o e)
  have hk : ((g.push (seqObj "tuple" vs.toArray 0)).push (seqObj "list" #[] 0)).get? (a + 2) = some (seqObj "list" #[] 0) := by rw [← hz2]; exact Heap.get?_push_size _ rfl
  have fresh : ∀ b, a ≤ b → H b = none ∧ b ≠ X.env.locals ∧ b ∉ X.fs ∧ X.s_0.heap.objs.size ≤ b ∧ ∀ p ∈ X.pn ++ pins, p.1 ≠ b := fun b hb => by
    have hb' : s.heap.objs.size ≤ b := ha ▸ hb
    refine ⟨I.hok.fresh hb', fun z => ?_, I.nofs hb', Nat.le_trans I.sz hb', fun p hp z => ?_⟩
    · have := I.lt
      rw [← z] at this
      exact absurd this (Nat.not_lt.mpr hb')
    · have := Heap.lt_size (I.pin p hp).1
      rw [z] at this
      exact absurd this (Nat.not_lt.mpr hb')
  have fa := fresh a (Nat.le_refl _)
  have fk := fresh (a + 2) (by omega)
  have I2 : Inv X ((a + 2, seqObj "list" #[] 0) :: (a, seqObj "list" #[] e1) :: pins) σ H { s with heap := (g.push (seqObj "tuple" vs.toArray 0)).push (seqObj "list" #[] 0) } := I1.pins_of fun p hp => by
    rcases List.mem_cons.mp hp with rfl | hp
    · exact ⟨hk, fk.1, fk.2.1, fk.2.2.1, fun v z => by cases z⟩
    rcases List.mem_cons.mp hp with rfl | hp
    · exact ⟨kh _ _ ho1, fa.1, fa.2.1, fa.2.2.1, fun v z => by cases z⟩
    · exact I1.pin p (List.mem_append_right _ hp)
  have e2 : (vs.toArray.toList.toArray) = vs.toArray := by simp
  rw [hz2]
  refine keyed_rest I2 (show a + 2 ≠ a by omega) fa.2.2.2.1 fk.2.2.2.1 fa.2.2.2.2 fk.2.2.2.2 r hZ (by show A.units + 1 + 1 < _; omega) turn fun H' s' sm hn I' => ⟨_, rfl, wpAny_pure ⟨_, rfl, q H' a s' sm hn I'⟩⟩
/-- sorted of a list -/
theorem sorted_key_list {f : Value} {kw : List (Str × Value)} {l : Addr} {xs : List V} {k : KI} {Q : Value → Shared → Prop} {E : Value → Shared → Prop} (I : Inv X pins σ H s) (hs : SqL X.K H l xs) (hu : X.A.units + 8 < cLine)
    (ht : ∀ x, Builtin.«list.sort» ⟨[.ref x], kw⟩ = ksk_tree x f false) (ha1 : ∀ x, argsOk "sorted" ⟨[x], kw⟩) (ha2 : ∀ x, argsOk "list.sort" ⟨[x], kw⟩) (turn : KeyTurn X X.A.in1.in1 pins σ H f k xs)
    (q : ∀ H' p s', Same H H' → H' p = none → Inv X pins σ (upd H' p (.lst (xs.mergeSort (leK k)))) s' → Q (.ref p) s') : wpAny (model X.prog X.w) X.A (call (.builtin "sorted") [.ref l] kw) Q E s := by
  obtain ⟨its, rv, hl, hz⟩ := I.list hs
  refine call_function_entry_kw kind_sorted plain_sorted entry_sorted (ha1 _) ?_
  unfold Builtin.«sorted»
  refine wpAny_bind (m := checkCount "sorted" 1 1 _) (wpAny_pure ?_)
  have hz' : its.length ≤ sizeLine := by rw [← rv.length]; exact hz
  refine wpAny_bind (collect_list hl.isList ?_ hz')
  have keep : ∀ b o, s.heap.get? b = some o → ((s.heap.push (seqObj "list" #[] 0)).update s.heap.objs.size (Obj.mapSeq (· ++ its.toArray))).get? b = some o := fun b o e =>
    ((Heap.SameBut.update _ _ _).2 b (Nat.ne_of_lt (Heap.lt_size e))).trans (Heap.get?_push_of_some _ e)
  exact sort_fresh (I.kept (t' := s.toks) keep) rv hz' (by show X.A.units + 1 + 4 < _; omega) ht ha2 turn q
/-- sorted of a range -/
theorem sorted_key_range {f : Value} {kw : List (Str × Value)} {r : Addr} {a b : Int} {t u v : Tok} {k : KI} {Q : Value → Shared → Prop} {E : Value → Shared → Prop} (I : Inv X pins σ H s) (hh : X.A.handled = none) (hr : IsRange s.heap r a b 1 t u v) (hok : RgOk a b) (hu : X.A.units + 8 < cLine)
    (ht : ∀ x, Builtin.«list.sort» ⟨[.ref x], kw⟩ = ksk_tree x f false) (ha1 : ∀ x, argsOk "sorted" ⟨[x], kw⟩) (ha2 : ∀ x, argsOk "list.sort" ⟨[x], kw⟩) (turn : KeyTurn X X.A.in1.in1 pins σ H f k (rgV a b))
    (q : ∀ H' p s', Same H H' → H' p = none → Inv X pins σ (upd H' p (.lst ((rgV a b).mergeSort (leK k)))) s' → Q (.ref p) s') : wpAny (model X.prog X.w) X.A (call (.builtin "sorted") [.ref r] kw) Q E s := by
  obtain ⟨b1, b2, b3, b4, b5⟩ := hok
  refine call_function_entry_kw kind_sorted plain_sorted entry_sorted (ha1 _) ?_
  unfold Builtin.«sorted»
  refine wpAny_bind (m := checkCount "sorted" 1 1 _) (wpAny_pure ?_)
  refine wpAny_bind (collect_range (n := (b - a).toNat) hh hr (small_one b1 b2 b3 b4) (rangeSize_nat a b) b5 fun h' tk acc hk hi => ?_)
  have rv := vals_rg hi
  exact sort_fresh (I.kept (t' := tk) hk) rv (by rw [← rv.length, rgV_length, sizeLine_eq]; omega) (by show X.A.units + 1 + 4 < _; omega) ht ha2 turn q
end
end HS
/-! HSc: the key is a lambda of one parameter -/
namespace HS
open PySem PySem.Spec PyProof.Rows L2 LamX NdefX
open PySem.W (EachIs)
abbrev NFl (q : Str) (params : Arguments) (scope : Scope) (cl : List (Str × Addr)) (c' : Addr) : NF := ⟨"<lambda>", q, params, [], scope, cl, c'⟩
theorem extN_seq {K : PySem.W.Frag} {H H' : Hp} {a : Addr} {xs : List V} (e : ExtN H H') (h : SqL K H a xs) : SqL K H' a xs := by
  rcases h with (h | ⟨o, h⟩) | h
  · exact .inl (.inl (e _ _ h fun ps z => by cases z))
  · exact .inl (.inr ⟨o, e _ _ h fun ps z => by cases z⟩)
  · exact .inr h
section
variable {X : Cx} {pins : List (Addr × Obj)} {σ : L2.St} {H : Hp} {s : Shared}
/-- a function object is pinned -/
theorem pin_fn {f : Addr} {o : Obj} {fd : FuncData} (I : Inv X pins σ H s) (hf : s.heap.get? f = some o) (hd : o.data = .func fd) (hn : H f = none) (hfr : f ∉ frs X.stack) : Inv X ((f, o) :: pins) σ H s := I.pins_of fun p hp => by
  rcases List.mem_cons.mp hp with rfl | hp
  · refine ⟨hf, hn, fun z => ?_, fun z => ?_, fun v z => by rw [hd] at z; cases z⟩
    · obtain ⟨m, ⟨o', es, ep, ho, hd', _⟩, _⟩ := I.loc
      rw [← z, hf] at ho
      cases ho
      rw [hd] at hd'
      cases hd'
    · rcases I.ok.stk with e | ⟨e, hL⟩
      · exact hfr (by rw [e]; exact z)
      · refine hfr ?_
        rw [e]
        unfold frs
        rw [List.filterMap_cons, hL]
        exact List.mem_cons_of_mem _ z
  · exact I.pin p (List.mem_append_right _ hp)
theorem lam_turn {f c' : Addr} {params : Arguments} {body : Expr} {scope : Scope} {q : Str} {pm ctv : Value} {x : Str} {N fr : List Str} {js : List Nat} {k : KI} {xs : List V} {tb : TE} {j : Nat} {cl : List (Str × Addr)} {A : Around}
    (S : NScope N [x] fr scope) (cp : Caps X cl fr js) (hA : Room (j + 1) A) (hAf : A.frames = some X.stack)
    (hbind : ∀ (pm cv ctv v : Value), bindArgs (PySem.W.kla_fn "<lambda>" q params body scope cl pm cv ctv) ⟨[v], []⟩ = pure [(x, v)])
    (hbody : ∀ (A : Around) (outer : List Env) (s : Shared) (H : Hp), Room j (A.deeper (envF (NFl q params scope cl c') f s.heap.objs.size)) → PE (ncx CX0 X.prog X.w X.K X.mg X.base N (NFl q params scope cl c') f A outer s H E0) body tb)
    (hc : H c' = some (CodeO c' q))
    (ht : ∀ x ∈ xs, ∀ H3 Q', Same H H3 → (∀ t H4, Same H3 H4 → H4 t = some (.tup [.int (k x).1, .int (k x).2]) → Q' (.ref t) H4) → tb (startF N [x] (js.map (slotAt σ))) H3 Q') :
    KeyTurn X A ((f, PySem.W.kla_obj "<lambda>" q params body scope cl pm c' ctv) :: pins) σ H (.ref f) k xs := by
  intro y v pins' H' s' hy rv sm hp I'
  obtain ⟨hf, hfn, hfL, hfs, _⟩ := I'.pin (f, PySem.W.kla_obj "<lambda>" q params body scope cl pm c' ctv) (List.mem_append_right _ (hp _ List.mem_cons_self))
  obtain ⟨⟨oc, vs, t, hoc, hdc, hvc⟩, _, _⟩ := I'.hok c' _ (sm _ _ hc)
  have e0 : Env0 X.prog X.w X.K X.mg X.base A X.stack s' H' := by
    have := I'.env0
    exact ⟨hAf, this.mod, this.bs, this.bsz, this.funs, this.frf, this.hok, this.bare⟩
  have C : CellsAt cl fr (js.map (slotAt σ)) s'.heap H' := cells_of I' cp
  let Q' : VK := fun u H2 => ∃ t, u = .ref t ∧ Same H' H2 ∧ H2 t = some (.tup [.int (k y).1, .int (k y).2])
  have rc : codeAny (model X.prog X.w) A (.call (.ref f) ⟨[v], []⟩) (CR CX0 X.stack X.prog X.w H' s' Q' E0) s' := by
    refine PySem.W.kla_callFunE hA.depth hf rfl S.co S.gen rfl ⟨c', oc, vs, t, rfl, hoc, hdc, hvc⟩ ?_
    rw [hbind]
    refine wpAny_pure (wpAny_newFunctionEnv S.nocell (fun z hz => ?_) (fun h₁ hns hsb => ⟨I'.nolimit.fresh _ hsb, ?_⟩) S.kind)
    · obtain rfl : z = (x, v) := by simpa using hz
      exact S.par x (by simp)
    show codeAny _ _ (.expr body (envF (NFl q params scope cl c') f s'.heap.objs.size)) _ _
    have kp : ∀ b o, s'.heap.get? b = some o → h₁.get? b = some o := fun b o e => hsb.extBut b o (Nat.ne_of_lt (Heap.lt_size e)) (Heap.get?_push_of_some _ e)
    have J : Inv (ncx CX0 X.prog X.w X.K X.mg X.base N (NFl q params scope cl c') f A X.stack s' H' E0) [] (startF N [y] (js.map (slotAt σ))) H' { s' with heap := h₁, toks := s'.toks + [(x, v)].length } :=
      inv_startN (F := NFl q params scope cl c') (us := [v]) S hA.hd e0 rfl (.cons rv .nil) C hns kp
    refine PySem.W.kla_codeExpr (wpAny_mono ((hbody A X.stack s' H' (hA.deeper _)).run [] _ _ H' Q' J (ht y hy H' Q' sm fun t H4 sm4 e4 => ⟨t, rfl, sm4, e4⟩)) (fun u s2 hq => ?_) fun e s2 hq => hq)
    obtain ⟨w', H2, J2, rw2, q2⟩ := hq
    exact ⟨w', H2, J2.os, J2.bare, J2.base, J2.hok, rw2, q2⟩
  refine wpAny_call (codeAny_mono rc fun r s2 hq => ?_)
  cases r with
  | error e => exact (show False from hq).elim
  | ok fl =>
    cases fl with
    | ret u =>
      obtain ⟨w', H2, I2, r2, t, rfl, sm2, e2⟩ := I'.after hq
      exact ⟨H2, t, I2, sm2, r2, e2⟩
    | next => exact False.elim hq
    | brk => exact False.elim hq
    | cont => exact False.elim hq
/-- the reading of sorted(e, key=lambda ..): the items' keys are pairs of ints -/
def tSortL (K : PySem.W.Frag) (T : List (Addr × Str)) (N : List Str) (js : List Nat) (te tb : TE) : TE := fun σ H Q => te σ H fun v H1 => ∃ (a : Addr) (xs : List V) (k : KI), v = .ref a ∧ SqL K H1 a xs ∧ Tabs T H1 ∧
  ∀ H2, ExtN H1 H2 → Tabs T H2 → (∀ x ∈ xs, ∀ H3 Q', Same H2 H3 → (∀ t H4, Same H3 H4 → H4 t = some (.tup [.int (k x).1, .int (k x).2]) → Q' (.ref t) H4) → tb (startF N [x] (js.map (slotAt σ))) H3 Q') ∧
    ∀ H3 p, Same H2 H3 → H3 p = none → Q (.ref p) (upd H3 p (.lst (xs.mergeSort (leK k))))
/-- .. of sorted(range(..), key=lambda ..) -/
def tSortR (T : List (Addr × Str)) (N : List Str) (js : List Nat) (te : L2.St → Hp → (Int → Int → Hp → Prop) → Prop) (tb : TE) : TE := fun σ H Q => te σ H fun a b H1 => ∃ (k : KI), RgOk a b ∧ Tabs T H1 ∧
  ∀ H2, ExtN H1 H2 → Tabs T H2 → (∀ x ∈ rgV a b, ∀ H3 Q', Same H2 H3 → (∀ t H4, Same H3 H4 → H4 t = some (.tup [.int (k x).1, .int (k x).2]) → Q' (.ref t) H4) → tb (startF N [x] (js.map (slotAt σ))) H3 Q') ∧
    ∀ H3 p, Same H2 H3 → H3 p = none → Q (.ref p) (upd H3 p (.lst ((rgV a b).mergeSort (leK k))))
section
variable {e : Expr} {te tb : TE} {T : List (Addr × Str)} {c P : Addr} {params : Arguments} {body : Expr} {scope : Scope} {lpos kpos p pos : Pos} {x : Str} {N fr : List Str} {js : List Nat} {j : Nat}
/-- the lambda is made and is pinned -/
theorem lam_pinned {E : Value → Shared → Prop} {Q : Value → Shared → Prop} (I : Inv X pins σ H s) (TB : TabB X.base X.mg c P) (hcode : X.env.code = .ref c) (hm : (P, X.env.qual ++ "<lambda>") ∈ T) (hu : ∀ p ∈ T, p.1 = P → p.2 = X.env.qual ++ "<lambda>") (hT : Tabs T H)
    (hdef : defaultsOf params X.env = ([], [])) (hfree : ∀ y ∈ scope.names, y.2 = .free → X.env.scope.names.lookup y.1 = some .cell ∨ X.env.scope.names.lookup y.1 = some .free)
    (h : ∀ (f c' : Addr) (pm ctv : Value) (H1 : Hp) (s' : Shared), Inv X ((f, PySem.W.kla_obj "<lambda>" (X.env.qual ++ "<lambda>") params body scope (cloFrom X.env.cells scope.names []) pm c' ctv) :: pins) σ H1 s' → ExtN H H1 → Tabs T H1 → H1 c' = some (CodeO c' (X.env.qual ++ "<lambda>")) → Q (.ref f) s') :
    wpAny (model X.prog X.w) X.A (eval (.Lambda params body scope lpos) X.env) Q E s := by
  refine lam_make2 I TB hcode hm hu hT hdef (fun y hy e => (hfree y hy e).elim (fun z => I.ok.has _ (.inl z)) fun z => I.ok.has _ (.inr z)) fun f c' pm ctv H1 s' I1 eN T1 hf hfn hfr hco => ?_
  exact h f c' pm ctv H1 s' (pin_fn I1 hf rfl hfn hfr) eN T1 hco
theorem inv_drop {p : Addr × Obj} (I : Inv X (p :: pins) σ H s) : Inv X pins σ H s := I.pins_of fun q hq => I.pin q (List.mem_append_right _ (List.mem_cons_of_mem _ hq))
/-- sorted(e, key=lambda x: body) -/
theorem pe_sortedL (hg : Gl X "sorted") (hmg : X.mg "sorted" = none) (he : PE X e te) (TB : TabB X.base X.mg c P) (hcode : X.env.code = .ref c) (hm : (P, X.env.qual ++ "<lambda>") ∈ T) (hu : ∀ p ∈ T, p.1 = P → p.2 = X.env.qual ++ "<lambda>")
    (hdef : defaultsOf params X.env = ([], [])) (hfree : ∀ y ∈ scope.names, y.2 = .free → X.env.scope.names.lookup y.1 = some .cell ∨ X.env.scope.names.lookup y.1 = some .free)
    (S : NScope N [x] fr scope) (hfr : ∀ y ∈ fr, (y, NameKind.free) ∈ scope.names) (hjs : js.map (fun j => X.N[j]?) = fr.map some) (hr : Room (j + 3) X.A)
    (hbind : ∀ (cl : List (Str × Addr)) (pm cv ctv v : Value), bindArgs (PySem.W.kla_fn "<lambda>" (X.env.qual ++ "<lambda>") params body scope cl pm cv ctv) ⟨[v], []⟩ = pure [(x, v)])
    (hbody : ∀ (A : Around) (outer : List Env) (s : Shared) (H : Hp) (f c' : Addr), Room j (A.deeper (envF (NFl (X.env.qual ++ "<lambda>") params scope (cloFrom X.env.cells scope.names []) c') f s.heap.objs.size)) →
      PE (ncx CX0 X.prog X.w X.K X.mg X.base N (NFl (X.env.qual ++ "<lambda>") params scope (cloFrom X.env.cells scope.names []) c') f A outer s H E0) body tb)
    (na : starEach [e] X.env = (false, eval e X.env) :: starEach [] X.env := by rfl) (ha : backTo pos (starEach [e] X.env) = (false, eval e X.env) :: backTo pos (starEach [] X.env) := by rfl) (hpl : (backTo pos (starEach [e] X.env)).any (·.1) = false := by rfl) :
    PE X (.Call (.Name "sorted" p) [e] [⟨some "key", .Lambda params body scope lpos, kpos⟩] pos) (tSortL X.K T N js te tb) := by
  refine ⟨fun pins s σ H Q I h => ?_⟩
  refine wpAny_Call_Name_kw (ld_blt I hg hmg (u := .builtin "sorted") (by decide +kernel) ?_)
  refine PyProof.Rows.callWith_kw (args_cons (thn (he.run pins s σ H _ I h) fun u s1 ⟨v, H1, I1, r1, q1⟩ => args_nil ?_) na) ha hpl (by rfl) (by rfl)
  obtain ⟨a, xs, k, rfl, hs, hT, q⟩ := q1
  obtain rfl : u = Value.ref a := r1
  refine wpAny_evalAll_cons (wpAny_bind (lam_pinned I1 TB hcode hm hu hT hdef hfree fun f c' pm ctv H2 s2 I2 eN T2 hco => wpAny_bind (wpAny_standAt (wpAny_pure ?_))))
  refine wpAny_evalAll_nil ?_
  obtain ⟨q1, q2⟩ := q H2 eN T2
  refine sorted_key_list I2 (extN_seq eN hs) (by have := hr.un; omega) (fun x => ksk_t1 f x) (fun x => ksk_s1 _ _) (fun x => ksk_l1 _ _)
    (lam_turn S (Caps.made I2.ok hfree hfr hjs) (hr.mono (by omega) : Room (j + 1 + 1 + 1) X.A).in1.in1 I2.ok.frames (hbind _) (fun A outer s H hA => hbody A outer s H f c' hA) hco q1) fun H3 p s3 sm hn I3 => ?_
  exact ⟨.ref p, _, inv_drop I3, rfl, q2 H3 p sm hn⟩
/-- an expression that makes a range of its own -/
def PRN (X : Cx) (e : Expr) (t : L2.St → Hp → (Int → Int → Hp → Prop) → Prop) : Prop :=
  ∀ (pins : List (Addr × Obj)) (s : Shared) (σ : L2.St) (H : Hp) (Q : Int → Int → Hp → Prop), Inv X pins σ H s → t σ H Q →
    wpAny (model X.prog X.w) X.A (eval e X.env) (fun x s' => ∃ r a b t u v H' o, x = .ref r ∧ IsRange s'.heap r a b 1 t u v ∧ (∀ h : Heap, h.get? r = some o → IsRange h r a b 1 t u v) ∧ Inv X ((r, o) :: pins) σ H' s' ∧ Q a b H') X.xe s
theorem prn_1 {a : Expr} {ta : TE} {p pos : Pos} (hg : Gl X "range") (hm : X.mg "range" = none) (ha : PE X a ta) (na : starEach [a] X.env = (false, eval a X.env) :: starEach [] X.env := by rfl) : PRN X (.Call (.Name "range" p) [a] [] pos) (tRg1 ta) := by
  intro pins s σ H Q I h
  refine Call_ (ld_blt I hg hm boot_range (PyProof.Rows.callWith_type1 (one_arg ha I h (fun v s2 x H2 I2 r q => ?_) na) na))
  obtain ⟨n, rfl, q⟩ := q
  obtain ⟨t, rfl⟩ := r
  have I3 : Inv X pins σ H2 { s2 with heap := s2.heap.push { cls := .type "range", data := .fields #[.int 0 s2.toks, .int n t, .int 1 (s2.toks + 1)] }, toks := s2.toks + 1 + 1 } := I2.kept fun b u e => Heap.get?_push_of_some _ e
  refine call_range_1 ⟨_, 0, n, _, _, _, H2, { cls := .type "range", data := .fields #[.int 0 s2.toks, .int n t, .int 1 (s2.toks + 1)] }, rfl, IsRange.new _ _ _ _ _ _ _, fun h e => e, I3.pins_of fun p hp => ?_, q⟩
  rcases List.mem_cons.mp hp with rfl | hp
  · refine ⟨Heap.get?_push_size _ rfl, I2.hok.fresh (Nat.le_refl _), fun z => ?_, I2.nofs (Nat.le_refl _), fun v z => by cases z⟩
    have := I2.lt
    rw [← z] at this
    exact Nat.lt_irrefl _ this
  · exact I3.pin p (List.mem_append_right _ hp)
/-- sorted(range(..), key=lambda x: body) -/
theorem pe_sortedR {tr : L2.St → Hp → (Int → Int → Hp → Prop) → Prop} (hcalm : X.calm = true) (hg : Gl X "sorted") (hmg : X.mg "sorted" = none) (he : PRN X e tr) (TB : TabB X.base X.mg c P) (hcode : X.env.code = .ref c) (hm : (P, X.env.qual ++ "<lambda>") ∈ T) (hu : ∀ p ∈ T, p.1 = P → p.2 = X.env.qual ++ "<lambda>")
    (hdef : defaultsOf params X.env = ([], [])) (hfree : ∀ y ∈ scope.names, y.2 = .free → X.env.scope.names.lookup y.1 = some .cell ∨ X.env.scope.names.lookup y.1 = some .free)
    (S : NScope N [x] fr scope) (hfr : ∀ y ∈ fr, (y, NameKind.free) ∈ scope.names) (hjs : js.map (fun j => X.N[j]?) = fr.map some) (hr : Room (j + 3) X.A)
    (hbind : ∀ (cl : List (Str × Addr)) (pm cv ctv v : Value), bindArgs (PySem.W.kla_fn "<lambda>" (X.env.qual ++ "<lambda>") params body scope cl pm cv ctv) ⟨[v], []⟩ = pure [(x, v)])
    (hbody : ∀ (A : Around) (outer : List Env) (s : Shared) (H : Hp) (f c' : Addr), Room j (A.deeper (envF (NFl (X.env.qual ++ "<lambda>") params scope (cloFrom X.env.cells scope.names []) c') f s.heap.objs.size)) →
      PE (ncx CX0 X.prog X.w X.K X.mg X.base N (NFl (X.env.qual ++ "<lambda>") params scope (cloFrom X.env.cells scope.names []) c') f A outer s H E0) body tb)
    (na : starEach [e] X.env = (false, eval e X.env) :: starEach [] X.env := by rfl) (ha : backTo pos (starEach [e] X.env) = (false, eval e X.env) :: backTo pos (starEach [] X.env) := by rfl) (hpl : (backTo pos (starEach [e] X.env)).any (·.1) = false := by rfl) :
    PE X (.Call (.Name "sorted" p) [e] [⟨some "key", .Lambda params body scope lpos, kpos⟩] pos) (tSortR T N js tr tb) := by
  refine ⟨fun pins s σ H Q I h => ?_⟩
  refine wpAny_Call_Name_kw (ld_blt I hg hmg (u := .builtin "sorted") (by decide +kernel) ?_)
  refine PyProof.Rows.callWith_kw (args_cons (thn (he pins s σ H _ I h) fun u s1 ⟨r, a, b, t, u', v', H1, o, ex, hr', hro, I1, q⟩ => args_nil ?_) na) ha hpl (by rfl) (by rfl)
  subst ex
  obtain ⟨k, ok, hT, q⟩ := q
  refine wpAny_evalAll_cons (wpAny_bind (lam_pinned I1 TB hcode hm hu hT hdef hfree fun f c' pm ctv H2 s2 I2 eN T2 hco => wpAny_bind (wpAny_standAt (wpAny_pure ?_))))
  refine wpAny_evalAll_nil ?_
  obtain ⟨q1, q2⟩ := q H2 eN T2
  have hr2 : IsRange s2.heap r a b 1 t u' v' := hro _ (I2.pin (r, o) (by simp)).1
  refine sorted_key_range I2 (I2.ok.hd hcalm) hr2 ok (by have := hr.un; omega) (fun x => ksk_t1 f x) (fun x => ksk_s1 _ _) (fun x => ksk_l1 _ _)
    (lam_turn S (Caps.made I2.ok hfree hfr hjs) (hr.mono (by omega) : Room (j + 1 + 1 + 1) X.A).in1.in1 I2.ok.frames (hbind _) (fun A outer s H hA => hbody A outer s H f c' hA) hco q1) fun H3 p s3 sm hn I3 => ?_
  exact ⟨.ref p, _, inv_drop (inv_drop I3), rfl, q2 H3 p sm hn⟩
end
end
end HS
namespace L07
open PySem PySem.Spec PyProof.Rows L2 LamX NdefX HS
def topS (i : Nat) : Stmt := PySem.Challenge.pw_seatrush_k07_mix_and_draw.main.body.getD i (.Pass ⟨0, 0, 0, 0⟩)
abbrev sNums : Stmt := topS 5
abbrev sDraw : Stmt := topS 6
abbrev sTake : Stmt := topS 7
theorem scN : FnScope ["script", "row", "cell", "left", "k", "mixed"] ["script"] (defScope sNums) := ⟨rfl, rfl, rfl, by decide +kernel, rfl, by decide +kernel, by decide +kernel⟩
theorem scD : FnScope ["row", "at", "limit", "mixed"] ["row", "at", "limit"] (defScope sDraw) := ⟨rfl, rfl, rfl, by decide +kernel, rfl, by decide +kernel, by decide +kernel⟩
theorem scT : FnScope ["row", "spot", "limit"] ["row", "spot", "limit"] (defScope sTake) := ⟨rfl, rfl, rfl, by decide +kernel, rfl, by decide +kernel, by decide +kernel⟩
theorem same_new {H : Hp} {p : Addr} {o : HO} (h : H p = none) : Same H (upd H p o) := fun b x e => by
  rw [upd_ne (ne_of_none e h)]
  exact e
/-- a row of numbers: what the draws read -/
def RowAt (H : Hp) (p : Addr) (rs : List Int) : Prop := H p = some (.lst (rs.map V.int)) ∧ rs ≠ [] ∧ rs.length ≤ 5000
def spNums (K : PySem.W.Frag) : Sp := fun vs H Q _ => ∃ (a : Addr) (ns : List Int), vs = [.ref a] ∧ SqL K H a (ns.map V.int) ∧ ns.length ≤ 63 ∧ ∀ H' p rs, Same H H' → H p = none → RowAt H' p rs → Q (.ref p) H'
/-- 0 ≤ d < limit comes out; nothing changes -/
def spDraw : Sp := fun vs H Q _ => ∃ (p : Addr) (rs : List Int) (i : Nat) (lim : Int), vs = [.ref p, .int i, .int lim] ∧ RowAt H p rs ∧ i < 5000 ∧ 0 < lim ∧ lim < 2 ^ 30 ∧ ∀ d : Int, 0 ≤ d → d < lim → Q (.int d) H
/-- the place goes on by one -/
def spTake : Sp := fun vs H Q _ => ∃ (p sp : Addr) (rs : List Int) (i : Nat) (lim : Int), vs = [.ref p, .ref sp, .int lim] ∧ RowAt H p rs ∧ p ≠ sp ∧ H sp = some (.lst [.int i]) ∧ i < 4000 ∧ 0 < lim ∧ lim < 2 ^ 30 ∧ ∀ d : Int, 0 ≤ d → d < lim → Q (.int d) (upd H sp (.lst [.int ((i : Int) + 1)]))
section
variable {P : Program} {w : World} {K : PySem.W.Frag} {mg : Str → Option Value} {base : Heap}
theorem getI {rs : List Int} {i : Nat} (h : i < rs.length) : ∃ z : Int, (rs.map V.int)[i]? = some (.int z) := ⟨rs[i], by rw [List.getElem?_map, List.getElem?_eq_getElem h]; rfl⟩
theorem ok_nums {f : Addr} {fd : FuncData} (F : Fun K "_law_numbers" "_law_numbers" sNums f fd) (m_range : mg "range" = none) (m_int : mg "int" = none) (m_len : mg "len" = none) : FnOk P w K mg base CX0 1 f fd ["script"] (spNums K) := by
  refine F.ok scN (fun vs H Q E h => ?_) (fun cdv A outer s H vs Q E hr h => ?_)
  · obtain ⟨a, ns, rfl, _⟩ := h
    rfl
  · obtain ⟨a, ns, rfl, hS, hlen, q⟩ := h
    refine ⟨_, (pss_cons (ps_set (i := 1) scN.nd rfl (.inl rfl) (pe_lst pa_nil)) (pss_cons (ps_for PassesOwn.never rfl (pi_list (pe_slice sl_list (pv 0) po_none (po_some pe_int))) (pg_name (i := 2) scN.nd rfl (.inl rfl)) (pss_one (ps_if (pt_cmpR op_ge (pv 2) (pe_op op_pow pe_int pe_int) (nomark _)) (pss_cons (ps_set (i := 3) scN.nd rfl (.inl rfl) (pv 2)) (pss_one (ps_for PassesOwn.never rfl (pi_range1 (by rfl) m_range (pa_cons pe_int pa_nil)) (pg_name (i := 4) scN.nd rfl (.inl rfl)) (pss_cons (ps_if (pt_cmpR op_eq (pv 3) pe_int (nomark _)) (pss_one ps_break) pss_nil) (pss_cons (ps_expr (pe_bm PySem.F.plainAttrs_list PySem.F.slot_list_append PySem.F.type_list_append mt_append (pv 1) (pa_cons (pe_op op_mod (pe_callTy call_int1 (by rfl) m_int boot_int (pa_cons (pv 3) pa_nil)) pe_int) pa_nil))) (pss_one (ps_set (i := 3) scN.nd rfl (.inl rfl) (pe_op op_fdiv (pv 3) pe_int)))))))) (pss_one (ps_for PassesOwn.never rfl (pi_range1 (by rfl) m_range (pa_cons pe_int pa_nil)) (pg_name (i := 4) scN.nd rfl (.inl rfl)) (pss_cons (ps_set (i := 5) scN.nd rfl (.inl rfl) (pe_op op_mod (pe_callTy call_int1 (by rfl) m_int boot_int (pa_cons (pe_op op_add (pe_op op_add (pe_op op_mul (pv 2) pe_int) (pe_op op_mul (pv 4) pe_int)) pe_int) pa_nil)) pe_int)) (pss_one (ps_expr (pe_bm PySem.F.plainAttrs_list PySem.F.slot_list_append PySem.F.type_list_append mt_append (pv 1) (pa_cons (pe_op op_mod (pe_callTy call_int1 (by rfl) m_int boot_int (pa_cons (pe_op op_add (pe_op op_mul (pv 5) pe_int) (pv 4)) pa_nil)) pe_int) pa_nil)))))))))) (pss_cons (ps_if (pt_cmpR op_eq (pe_callB call_len_seq (by rfl) m_len PySem.boot_len (pa_cons (pv 1) pa_nil)) pe_int (nomark _)) (pss_one (ps_expr (pe_bm PySem.F.plainAttrs_list PySem.F.slot_list_append PySem.F.type_list_append mt_append (pv 1) (pa_cons pe_int pa_nil)))) pss_nil) (pss_one (ps_ret (pv 1)))))), ?_⟩
    -- row = []
    refine ⟨Nat.zero_le _, fun p np => ?_⟩
    have s1 : Same H (upd H p (.lst [])) := same_new np
    -- script[:63]
    refine ⟨.ref a, rfl, 63, rfl, a, ns.map V.int, rfl, s1.seq hS, fun c nc => ?_⟩
    generalize hcs : cutV (ns.map V.int) none (some 63) = cs at nc ⊢
    have hint : ∀ x ∈ cs, ∃ z : Int, x = .int z := fun x hx => by
      rw [← hcs] at hx
      have h1 : x ∈ ns.map V.int := List.mem_of_mem_drop (List.mem_of_mem_take hx)
      obtain ⟨z, _, e⟩ := List.mem_map.mp h1
      exact ⟨z, e.symm⟩
    have hcl : cs.length ≤ 63 := by
      rw [← hcs]
      exact Nat.le_trans (cutV_length _ _ _) (by rw [List.length_map]; exact hlen)
    have s2 : Same (upd H p (.lst [])) (upd (upd H p (.lst [])) c (.lst cs)) := same_new nc
    have npc : p ≠ c := ne_of_none (o := .lst []) upd_same nc
    have sH : ∀ H2, Same H H2 → ∀ o, Same H (upd H2 p o) := fun H2 s o b x e => by
      rw [upd_ne (ne_of_none e np)]
      exact s b x e
    refine ⟨c, rfl, ⟨_, .inl (.inl upd_same)⟩, for_list (K := K) (a := c) (xs := cs) (fun i σ H2 => ∃ (v2 v3 v4 v5 : Option V) (rs : List Int), σ = [some (.ref a), some (.ref p), v2, v3, v4, v5] ∧ Same H H2 ∧ H2 c = some (.lst cs) ∧ H2 p = some (.lst (rs.map V.int)) ∧ rs.length ≤ 60 * i)
      ⟨none, none, none, none, [], rfl, s1.trans s2, upd_same, by rw [upd_ne npc, upd_same]; rfl, Nat.le_refl _⟩ (fun i σ H2 _ ⟨_, _, _, _, _, _, _, hc, _⟩ => .inl (.inl hc)) ?_ ?_⟩
    · rintro i x σ H2 hi ⟨v2, v3, v4, v5, rs, rfl, sm, hc, hp, hl⟩
      have hi63 : i < 63 := Nat.lt_of_lt_of_le (List.getElem?_eq_some_iff.mp hi).1 hcl
      obtain ⟨z, rfl⟩ := hint x (List.mem_of_getElem? hi)
      refine ⟨_, rfl, 10, 18, rfl, rfl, ⟨by decide, by decide, by decide⟩, _, _, rfl, rfl, _, rfl, ite2 (fun _ => ?_) (fun _ => ?_)⟩
      · -- a large cell
        refine ⟨_, rfl, 60, rfl, by decide, by decide, for_range (n := 60) (fun j σ H3 => ∃ (v4 v5 : Option V) (y : Int) (us : List Int), σ = [some (.ref a), some (.ref p), some (.int z), some (.int y), v4, v5] ∧ Same H H3 ∧ H3 c = some (.lst cs) ∧ H3 p = some (.lst (us.map V.int)) ∧ us.length ≤ 60 * i + j)
          ⟨v4, v5, z, rs, rfl, sm, hc, hp, by omega⟩ ?_ ?_⟩
        · rintro j σ H3 hj ⟨w4, w5, y, us, rfl, sm3, hc3, hp3, hl3⟩
          refine ⟨_, rfl, rfl, _, rfl, ite2 (fun _ => ?_) (fun _ => ?_)⟩
          · exact ⟨_, _, _, _, us, rfl, sm3, hc3, hp3, by omega⟩
          · refine ⟨.ref p, rfl, .inl ⟨rfl, _, .inl (.inl hp3)⟩, _, rfl, .inl ⟨y, rfl, _, _, rfl, rfl, (by show (0 : Int) < 997; decide), p, _, _, rfl, rfl, hp3, ?_, ?_⟩⟩
            · rw [List.length_map, sizeLine_eq]; omega
            · refine ⟨_, rfl, _, _, rfl, rfl, ⟨by decide, by decide⟩, ⟨_, _, _, us ++ [y % 997], rfl, sH _ sm3 _, ?_, ?_, ?_⟩⟩
              · rw [upd_ne npc.symm]; exact hc3
              · rw [upd_same, List.map_append]; rfl
              · rw [List.length_append]; simp only [List.length_singleton]; omega
        · rintro σ H3 ⟨w4, w5, y, us, rfl, sm3, hc3, hp3, hl3⟩
          exact ⟨_, _, _, _, us, rfl, sm3, hc3, hp3, by omega⟩
      · -- a small one
        refine ⟨4, rfl, by decide, by decide, for_range (n := 4) (fun j σ H3 => ∃ (v3 v4 v5 : Option V) (us : List Int), σ = [some (.ref a), some (.ref p), some (.int z), v3, v4, v5] ∧ Same H H3 ∧ H3 c = some (.lst cs) ∧ H3 p = some (.lst (us.map V.int)) ∧ us.length ≤ 60 * i + j)
          ⟨v3, v4, v5, rs, rfl, sm, hc, hp, by omega⟩ ?_ ?_⟩
        · rintro j σ H3 hj ⟨w3, w4, w5, us, rfl, sm3, hc3, hp3, hl3⟩
          refine ⟨_, rfl, _, _, rfl, rfl, .inr ⟨by decide, by decide⟩, _, rfl, _, _, rfl, rfl, .inr ⟨by decide, by decide⟩, _, _, rfl, rfl, _, _, rfl, rfl, .inl ⟨_, rfl, _, _, rfl, rfl, (by show (0 : Int) < 2147483647; decide), ?_⟩⟩
          refine ⟨.ref p, rfl, .inl ⟨rfl, _, .inl (.inl hp3)⟩, _, rfl, _, _, rfl, rfl, .inr ⟨by decide, by decide⟩, _, rfl, _, _, rfl, rfl, .inl ⟨_, rfl, _, _, rfl, rfl, (by show (0 : Int) < 2147483629; decide), p, _, _, rfl, rfl, hp3, ?_, ?_⟩⟩
          · rw [List.length_map, sizeLine_eq]; omega
          · refine ⟨_, _, _, us ++ [((z * 48271 + (0 + (j : Int)) * 69621 + 11) % 2147483647 * 16807 + (0 + (j : Int))) % 2147483629], rfl, sH _ sm3 _, ?_, ?_, ?_⟩
            · rw [upd_ne npc.symm]; exact hc3
            · rw [upd_same, List.map_append]; rfl
            · rw [List.length_append]; simp only [List.length_singleton]; omega
        · rintro σ H3 ⟨w3, w4, w5, us, rfl, sm3, hc3, hp3, hl3⟩
          exact ⟨_, _, _, _, us, rfl, sm3, hc3, hp3, by omega⟩
    · rintro σ H2 ⟨v2, v3, v4, v5, rs, rfl, sm, hc, hp, hl⟩
      refine ⟨.ref p, rfl, p, _, rfl, .inl (.inl (.inl hp)), rfl, _, rfl, ite2 (fun _ => ?_) (fun e => ?_)⟩
      · refine ⟨.ref p, rfl, .inl ⟨rfl, _, .inl (.inl hp)⟩, p, _, _, rfl, rfl, hp, ?_, ?_⟩
        · rw [List.length_map, sizeLine_eq]; omega
        · refine ⟨.ref p, rfl, q _ p (rs ++ [0]) (sH _ sm _) np ⟨?_, by simp, ?_⟩⟩
          · rw [upd_same, List.map_append]; rfl
          · rw [List.length_append]; simp only [List.length_singleton]; omega
      · refine ⟨.ref p, rfl, q _ p rs sm np ⟨hp, fun z => e ?_, by omega⟩⟩
        subst z
        exact decide_eq_true rfl
theorem ok_draw {f : Addr} {fd : FuncData} (F : Fun K "_law_draw" "_law_draw" sDraw f fd) (m_int : mg "int" = none) (m_len : mg "len" = none) : FnOk P w K mg base CX0 1 f fd ["row", "at", "limit"] spDraw := by
  refine F.ok scD (fun vs H Q E h => ?_) (fun cdv A outer s H vs Q E hr h => ?_)
  · obtain ⟨p, rs, i, lim, rfl, _⟩ := h
    rfl
  · obtain ⟨p, rs, i, lim, rfl, ⟨hp, hne, hl⟩, hi, h0, h1, q⟩ := h
    have fin : ∀ z : Int, Q (.int (z % lim)) H := fun z => q _ (Int.emod_nonneg _ (by omega)) (Int.emod_lt_of_pos _ h0)
    have hS : SqL K H p (rs.map V.int) := .inl (.inl hp)
    have hpos : 0 < rs.length := List.length_pos_iff.mpr hne
    refine ⟨_, (pss_cons (ps_if (pt_cmpR op_lt (pv 1) (pe_callB call_len_seq (by rfl) m_len PySem.boot_len (pa_cons (pv 0) pa_nil)) (nomark _)) (pss_one (ps_ret (pe_op op_mod (pe_callTy call_int1 (by rfl) m_int boot_int (pa_cons (pe_ix ix_list (pv 0) (pv 1) (fun _ _ => rfl)) pa_nil)) (pv 2)))) pss_nil) (pss_cons (ps_set (i := 3) scD.nd rfl (.inl rfl) (pe_op op_mod (pe_callTy call_int1 (by rfl) m_int boot_int (pa_cons (pe_op op_add (pe_op op_add (pe_op op_mul (pe_ix ix_list (pv 0) (pe_op op_mod (pe_callTy call_int1 (by rfl) m_int boot_int (pa_cons (pv 1) pa_nil)) (pe_callB call_len_seq (by rfl) m_len PySem.boot_len (pa_cons (pv 0) pa_nil))) (fun _ _ => rfl)) pe_int) (pe_op op_mul (pv 1) pe_int)) pe_int) pa_nil)) pe_int)) (pss_one (ps_ret (pe_op op_mod (pe_callTy call_int1 (by rfl) m_int boot_int (pa_cons (pe_op op_mod (pe_callTy call_int1 (by rfl) m_int boot_int (pa_cons (pe_op op_add (pe_op op_mul (pv 3) pe_int) (pv 1)) pa_nil)) pe_int) pa_nil)) (pv 2)))))), ?_⟩
    refine ⟨_, rfl, .ref p, rfl, p, _, rfl, .inl hS, _, _, rfl, rfl, _, rfl, ite2 (fun e => ?_) (fun e => ?_)⟩
    · have hi' : i < rs.length := by
        have := of_decide_eq_true e
        rw [List.length_map] at this
        omega
      obtain ⟨z, hz⟩ := getI hi'
      exact ⟨.ref p, rfl, _, rfl, p, _, _, _, rfl, rfl, hS, atI_nat hz, .inl ⟨z, rfl, _, rfl, _, _, rfl, rfl, h0, fin _⟩⟩
    · have hm : (i : Int) % (((rs.map V.int).length : Nat) : Int) = ((i % rs.length : Nat) : Int) := by rw [List.length_map]; rfl
      obtain ⟨z, hz⟩ := getI (rs := rs) (Nat.mod_lt i hpos)
      refine ⟨.ref p, rfl, _, rfl, .inl ⟨_, rfl, .ref p, rfl, p, _, rfl, .inl hS, _, _, rfl, rfl, (by show (0 : Int) < ((rs.map V.int).length : Nat); rw [List.length_map]; omega), p, _, _, _, rfl, rfl, hS, (by rw [hm]; exact atI_nat hz), ?_⟩⟩
      refine ⟨_, _, rfl, rfl, .inr ⟨by decide, by decide⟩, _, rfl, _, _, rfl, rfl, .inr ⟨by decide, by decide⟩, _, _, rfl, rfl, _, _, rfl, rfl, .inl ⟨_, rfl, _, _, rfl, rfl, (by show (0 : Int) < 2147483399; decide), ?_⟩⟩
      exact ⟨_, rfl, _, _, rfl, rfl, .inr ⟨by decide, by decide⟩, _, rfl, _, _, rfl, rfl, .inl ⟨_, rfl, _, _, rfl, rfl, (by show (0 : Int) < 2147483647; decide), .inl ⟨_, rfl, _, rfl, _, _, rfl, rfl, h0, fin _⟩⟩⟩
theorem ok_take {f fD : Addr} {fd fdD : FuncData} (F : Fun K "_law_take" "_law_take" sTake f fd) (FD : Fun K "_law_draw" "_law_draw" sDraw fD fdD) (bD : Binds K fdD ["row", "at", "limit"] []) (gD : mg "_law_draw" = some (.ref fD)) (m_int : mg "int" = none) (m_len : mg "len" = none) :
    FnOk P w K mg base CX0 2 f fd ["row", "spot", "limit"] spTake := by
  have GD : FnOk P w K mg base CX0 1 fD fdD ["row", "at", "limit"] spDraw := ok_draw FD m_int m_len
  refine F.ok scT (fun vs H Q E h => ?_) (fun cdv A outer s H vs Q E hr h => ?_)
  · obtain ⟨p, sp, rs, i, lim, rfl, _⟩ := h
    rfl
  · obtain ⟨p, sp, rs, i, lim, rfl, hR, nps, hs, hi, h0, h1, q⟩ := h
    refine ⟨_, (pss_cons (ps_asg (pe_op op_add (pe_ix ix_list (pv 1) pe_int (fun _ _ => rfl)) pe_int) (pg_sub (pv 1) pe_int set_list)) (pss_one (ps_ret (pe_call GD hr (by rfl) gD FD.kp bD .nil pass0 (pa_cons (pv 0) (pa_cons (pe_op op_sub (pe_ix ix_list (pv 1) pe_int (fun _ _ => rfl)) pe_int) (pa_cons (pv 2) pa_nil))))))), ?_⟩
    have hS : SqL K H sp [.int i] := .inl (.inl hs)
    refine ⟨.ref sp, rfl, sp, _, _, _, rfl, rfl, hS, atI_nat (j := 0) rfl, _, _, rfl, rfl, .ref sp, rfl, sp, _, _, 0, rfl, rfl, hs, rfl, ?_⟩
    have hs2 : SqL K (upd H sp (.lst [.int ((i : Int) + 1)])) sp [.int ((i : Int) + 1)] := .inl (.inl upd_same)
    have hR2 : RowAt (upd H sp (.lst [.int ((i : Int) + 1)])) p rs := ⟨by rw [upd_ne nps]; exact hR.1, hR.2⟩
    refine ⟨.ref p, rfl, .ref sp, rfl, sp, _, _, _, rfl, rfl, hs2, atI_nat (j := 0) rfl, _, _, rfl, rfl, _, rfl, p, rs, i, lim, ?_, hR2, by omega, h0, h1, q⟩
    show [V.ref p, V.int ((i : Int) + 1 - 1), V.int lim] = _
    rw [show (i : Int) + 1 - 1 = i by omega]
end
end L07
namespace L07
open PySem PySem.Spec PyProof.Rows L2 LamX NdefX HS
abbrev sMix : Stmt := topS 2
abbrev sRow : Stmt := topS 3
abbrev sLmix : Stmt := topS 8
abbrev sLaw : Stmt := topS 9
theorem scM : FnScope ["seed", "p", "x", "_"] ["seed", "p"] (defScope sMix) := ⟨rfl, rfl, rfl, by decide +kernel, rfl, by decide +kernel, by decide +kernel⟩
theorem scX : FnScope ["seed", "p", "x", "prime", "k"] ["seed", "p"] (defScope sLmix) := ⟨rfl, rfl, rfl, by decide +kernel, rfl, by decide +kernel, by decide +kernel⟩
/-! ### the mathematics -/
def mstep (y : Int) : Int := (y * y + y + 12345) % 2305843009213693951
def m0 (seed p : Int) : Int := (p + 1) * 2654435761 + seed * 40503
def mixN (seed p : Int) : Nat → Int
  | 0 => m0 seed p
  | n + 1 => mstep (mixN seed p n)
def mixI (seed p : Int) : Int := mixN seed p 3
theorem mstep_in (y : Int) : 0 ≤ mstep y ∧ mstep y < 2305843009213693951 := ⟨Int.emod_nonneg _ (by decide), Int.emod_lt_of_pos _ (by decide)⟩
theorem mixN_in {seed p : Int} (h1 : 0 ≤ seed) (h2 : seed < 100000) (h3 : 0 ≤ p) (h4 : p < 1000) : ∀ n, -(2 ^ 64) < mixN seed p n ∧ mixN seed p n < 2 ^ 64
  | 0 => by show -(2 ^ 64) < m0 seed p ∧ m0 seed p < 2 ^ 64; unfold m0; omega
  | n + 1 => by
    have h := mstep_in (mixN seed p n)
    show -(2 ^ 64) < mstep _ ∧ mstep _ < 2 ^ 64
    omega
def spMix : Sp := fun vs H Q _ => ∃ seed p : Int, vs = [.int seed, .int p] ∧ 0 ≤ seed ∧ seed < 100000 ∧ 0 ≤ p ∧ p < 1000 ∧ Q (.int (mixI seed p)) H
section
variable {P : Program} {w : World} {K : PySem.W.Frag} {mg : Str → Option Value} {base : Heap}
theorem ok_mix {f : Addr} {fd : FuncData} {tR : Tok} (F : Fun K "mix" "mix" sMix f fd) (m_range : mg "range" = none) (gR : mg "REST" = some (.int 2305843009213693951 tR)) : FnOk P w K mg base CX0 1 f fd ["seed", "p"] spMix := by
  refine F.ok scM (fun vs H Q E h => ?_) (fun cdv A outer s H vs Q E hr h => ?_)
  · obtain ⟨seed, p, rfl, _⟩ := h
    rfl
  · obtain ⟨seed, p, rfl, h1, h2, h3, h4, q⟩ := h
    refine ⟨_, (pss_cons (ps_set (i := 2) scM.nd rfl (.inl rfl) (pe_op op_add (pe_op op_mul (pe_op op_add (pv 1) pe_int) pe_int) (pe_op op_mul (pv 0) pe_int))) (pss_cons (ps_for PassesOwn.never rfl (pi_range1 (by rfl) m_range (pa_cons pe_int pa_nil)) (pg_name (i := 3) scM.nd rfl (.inl rfl)) (pss_one (ps_set (i := 2) scM.nd rfl (.inl rfl) (pe_op op_mod (pe_op op_add (pe_op op_add (pe_op op_mul (pv 2) (pv 2)) (pv 2)) pe_int) (pe_glob (v := .int 2305843009213693951) rfl gR ⟨_, rfl⟩))))) (pss_one (ps_ret (pv 2))))), ?_⟩
    refine ⟨_, rfl, _, _, rfl, rfl, _, _, rfl, rfl, .inr ⟨by decide, by decide⟩, _, rfl, _, _, rfl, rfl, .inr ⟨by decide, by decide⟩, _, _, rfl, rfl, ?_⟩
    refine ⟨3, rfl, by decide, by decide, for_range (n := 3) (fun j σ H3 => ∃ v3 : Option V, σ = [some (.int seed), some (.int p), some (.int (mixN seed p j)), v3] ∧ H3 = H) ⟨none, rfl, rfl⟩ ?_ ?_⟩
    · rintro j σ H3 hj ⟨v3, rfl, rfl⟩
      refine ⟨_, rfl, _, rfl, _, _, rfl, rfl, .inl (mixN_in h1 h2 h3 h4 j), _, rfl, _, _, rfl, rfl, _, _, rfl, rfl, _, _, rfl, rfl, (by show (0 : Int) < 2305843009213693951; decide), _, rfl, rfl⟩
    · rintro σ H3 ⟨v3, rfl, rfl⟩
      exact ⟨_, rfl, q⟩
theorem ok_lmix {f : Addr} {fd : FuncData} (F : Fun K "_law_mix" "_law_mix" sLmix f fd) (m_range : mg "range" = none) (m_int : mg "int" = none) : FnOk P w K mg base CX0 1 f fd ["seed", "p"] spMix := by
  refine F.ok scX (fun vs H Q E h => ?_) (fun cdv A outer s H vs Q E hr h => ?_)
  · obtain ⟨seed, p, rfl, _⟩ := h
    rfl
  · obtain ⟨seed, p, rfl, h1, h2, h3, h4, q⟩ := h
    refine ⟨_, (pss_cons (ps_set (i := 2) scX.nd rfl (.inl rfl) (pe_op op_add (pe_op op_mul (pe_op op_add (pv 1) pe_int) pe_int) (pe_op op_mul (pv 0) pe_int))) (pss_cons (ps_set (i := 3) scX.nd rfl (.inl rfl) (pe_op op_sub (pe_op op_pow pe_int pe_int) pe_int)) (pss_cons (ps_for PassesOwn.never rfl (pi_range1 (by rfl) m_range (pa_cons pe_int pa_nil)) (pg_name (i := 4) scX.nd rfl (.inl rfl)) (pss_one (ps_set (i := 2) scX.nd rfl (.inl rfl) (pe_op op_mod (pe_callTy call_int1 (by rfl) m_int boot_int (pa_cons (pe_op op_add (pe_op op_add (pe_op op_mul (pv 2) (pv 2)) (pv 2)) pe_int) pa_nil)) (pv 3))))) (pss_one (ps_ret (pv 2)))))), ?_⟩
    refine ⟨_, rfl, _, _, rfl, rfl, _, _, rfl, rfl, .inr ⟨by decide, by decide⟩, _, rfl, _, _, rfl, rfl, .inr ⟨by decide, by decide⟩, _, _, rfl, rfl, ?_⟩
    refine ⟨2, 61, rfl, rfl, ⟨by decide, by decide, by decide⟩, _, _, rfl, rfl, ?_⟩
    refine ⟨3, rfl, by decide, by decide, for_range (n := 3) (fun j σ H3 => ∃ v4 : Option V, σ = [some (.int seed), some (.int p), some (.int (mixN seed p j)), some (.int 2305843009213693951), v4] ∧ H3 = H) ⟨none, rfl, rfl⟩ ?_ ?_⟩
    · rintro j σ H3 hj ⟨v4, rfl, rfl⟩
      refine ⟨_, rfl, _, rfl, _, _, rfl, rfl, .inl (mixN_in h1 h2 h3 h4 j), _, rfl, _, _, rfl, rfl, _, _, rfl, rfl, .inl ⟨_, rfl, _, rfl, _, _, rfl, rfl, (by show (0 : Int) < 2305843009213693951; decide), _, rfl, rfl⟩⟩
    · rintro σ H3 ⟨v4, rfl, rfl⟩
      exact ⟨_, rfl, q⟩
end
end L07
namespace L07
open PySem PySem.Spec PyProof.Rows L2 LamX NdefX HS
theorem scR : FnScope ["seed", "places"] ["seed", "places"] (defScope sRow) := ⟨rfl, rfl, rfl, by decide +kernel, rfl, by decide +kernel, by decide +kernel⟩
/-- a place's key in the draw -/
def kM (seed : Int) : KI := fun v => match v with
  | .int p => (mixI seed p, p)
  | _ => (0, 0)
def drawn (seed : Int) (ps : List Int) : List V := (ps.map V.int).mergeSort (leK (kM seed))
abbrev qRow : Str := "draw_row.<locals>." ++ "<lambda>"
abbrev qLaw : Str := "law.<locals>." ++ "<lambda>"
def spRow (K : PySem.W.Frag) (T : List (Addr × Str)) : Sp := fun vs H Q _ => ∃ (seed : Int) (t : Addr) (ps : List Int), vs = [.int seed, .ref t] ∧ SqT K H t (ps.map V.int) ∧ 0 ≤ seed ∧ seed < 100000 ∧ (∀ p ∈ ps, 0 ≤ p ∧ p < 1000) ∧ Tabs T H ∧
  ∀ H' r, ExtN H H' → H' r = some (.tup (drawn seed ps)) → Q (.ref r) H'
theorem extN_new {H : Hp} {p : Addr} {o : HO} (h : H p = none) : ExtN H (upd H p o) := ExtN.of (same_new h)
section
variable {P : Program} {w : World} {K : PySem.W.Frag} {mg : Str → Option Value} {base : Heap}
theorem ok_row {f fM c Pt : Addr} {fdM : FuncData} {T : List (Addr × Str)} {kV doc pm ct oc : Value} {an od : Option Addr} {osl : Array (Option Value)}
    (lk : K.lookup f = some ⟨oc, od, .func (PySem.W.fnOf "draw_row" "draw_row" (defArgs sRow) (defBody sRow) (defScope sRow) .none kV doc pm an (.ref c) ct), osl⟩) (hcd : PySem.W.codeIn K (.ref c) "draw_row" = true)
    (TB : TabB base mg c Pt) (hm : (Pt, qRow) ∈ T) (hu : ∀ p ∈ T, p.1 = Pt → p.2 = qRow)
    (FM : Fun K "mix" "mix" sMix fM fdM) (bM : Binds K fdM ["seed", "p"] []) (gM : mg "mix" = some (.ref fM)) (GM : FnOk P w K mg base CX0 1 fM fdM ["seed", "p"] spMix)
    (m_sorted : mg "sorted" = none) (m_list : mg "list" = none) (m_tuple : mg "tuple" = none) :
    FnOk P w K mg base CX0 5 f (PySem.W.fnOf "draw_row" "draw_row" (defArgs sRow) (defBody sRow) (defScope sRow) .none kV doc pm an (.ref c) ct) ["seed", "places"] (spRow K T) := by
  refine fn_of lk hcd scR (fun vs H Q E h => ?_) (fun A outer s H vs Q E hr h => ?_)
  · obtain ⟨seed, t, ps, rfl, _⟩ := h
    rfl
  · obtain ⟨seed, t, ps, rfl, hS, h1, h2, hps, hT, q⟩ := h
    refine ⟨_, pss_one (ps_ret (pe_tupleOf (by rfl) m_tuple (pe_sortedL (T := T) (c := c) (P := Pt) (x := "p") (N := ["p", "seed"]) (fr := ["seed"]) (js := [0]) (j := 1) (by rfl) m_sorted
      (pe_callTy call_list_of (by rfl) m_list boot_list (pa_cons (pv 1) pa_nil)) TB rfl hm hu rfl (ndef_free (sc := defScope sRow) (fr := ["seed"]) (by decide +kernel)) (nscope_by (by decide +kernel)) (ndef_fr (sc := defScope sRow) (by decide +kernel)) rfl hr (fun _ _ _ _ _ => by rfl)
      (fun A outer s H f c' hA => pe_tup (pa_cons (pe_call GM hA (by rfl) gM FM.kp bM .nil pass0 (pa_cons (pv 1) (pa_cons (pv 0) pa_nil))) (pa_cons (pv 0) pa_nil)))))), ?_⟩
    refine ⟨.ref t, rfl, t, _, rfl, .inr hS, fun l nl => ?_⟩
    refine ⟨l, _, kM seed, rfl, .inl (.inl upd_same), hT.ext (same_new nl), fun H2 eN T2 => ⟨fun x hx H3 Q' sm kq => ?_, fun H3 p sm np => ?_⟩⟩
    · obtain ⟨z, hz, rfl⟩ := List.mem_map.mp hx
      obtain ⟨z0, z1⟩ := hps z hz
      refine ⟨_, rfl, _, rfl, seed, z, rfl, h1, h2, z0, z1, _, rfl, (by show 2 ≤ sizeLine; decide), fun t nt => kq t _ (same_new nt) upd_same⟩
    · refine .inl ⟨p, _, rfl, .inl (.inl upd_same), fun r nr => q _ r ?_ upd_same⟩
      exact ((extN_new nl).trans eN).trans ((ExtN.of sm).trans ((extN_new np).trans (extN_new nr)))
end
end L07
namespace L07
open PySem PySem.Spec PyProof.Rows L2 LamX NdefX HS
abbrev NL : List Str := ["script", "row", "spot", "places", "due", "seed", "k"]
theorem scL : FnScope NL ["script"] (defScope sLaw) := ⟨rfl, rfl, rfl, by decide +kernel, rfl, by decide +kernel, by decide +kernel⟩
theorem dp_ints {K : PySem.W.Frag} {H : Hp} : ∀ l : List Int, DpAll K H (l.map V.int) (l.map PyData.int)
  | [] => .nil
  | i :: l => .cons (.int i) (dp_ints l)
theorem eqv_ints : ∀ l : List Int, PyData.eqvAll (l.map PyData.int) (l.map PyData.int) = true
  | [] => rfl
  | i :: l => by
    show (PyData.eqv (.int i) (.int i) && PyData.eqvAll (l.map PyData.int) (l.map PyData.int)) = true
    rw [eqv_ints l]
    show ((i == i) && true) = true
    simp
theorem drawn_ints (seed : Int) (ps : List Int) : ∃ zs : List Int, drawn seed ps = zs.map V.int := by
  have h : ∀ x ∈ drawn seed ps, ∃ z : Int, x = .int z := fun x hx => by
    obtain ⟨z, _, e⟩ := List.mem_map.mp (List.mem_mergeSort.mp hx)
    exact ⟨z, e.symm⟩
  generalize drawn seed ps = l at h
  induction l with
  | nil => exact ⟨[], rfl⟩
  | cons x l ih =>
    obtain ⟨zs, e⟩ := ih fun y hy => h y (List.mem_cons_of_mem _ hy)
    obtain ⟨z, rfl⟩ := h x List.mem_cons_self
    exact ⟨z :: zs, by rw [e]; rfl⟩
theorem shaped_ints (l : List Int) : SeqAt.shaped (.tuple (l.map PyData.int)) = true := by
  have h1 : ∀ l : List Int, PyData.canLayAll0 (l.map PyData.int) = true := by
    intro l
    induction l with
    | nil => rfl
    | cons i l ih =>
      show (PyData.canLay0 (.int i) && PyData.canLayAll0 (l.map PyData.int)) = true
      rw [ih]; rfl
  have h2 : ∀ l : List Int, PyData.depthAll (l.map PyData.int) = 0 := PySem.W.depth_ints
  show (PyData.canLay0 (.tuple (l.map PyData.int)) && decide ((PyData.tuple (l.map PyData.int)).depth ≤ 64)) = true
  rw [show PyData.canLay0 (.tuple (l.map PyData.int)) = PyData.canLayAll0 (l.map PyData.int) from rfl, h1, show (PyData.tuple (l.map PyData.int)).depth = PyData.depthAll (l.map PyData.int) + 1 from rfl, h2]
  rfl
def spLaw (K : PySem.W.Frag) (T : List (Addr × Str)) : Sp := fun vs H Q _ => ∃ (a : Addr) (ns : List Int), vs = [.ref a] ∧ SqL K H a (ns.map V.int) ∧ ns.length ≤ 63 ∧ Tabs T H ∧ ∀ H', Q (.bl true) H'
section
variable {P : Program} {w : World} {K : PySem.W.Frag} {mg : Str → Option Value} {base : Heap}
theorem ok_law {f fN fT fM fX fR c Pt : Addr} {fdN fdT fdM fdX fdR : FuncData} {T : List (Addr × Str)} {kV doc pm ct oc : Value} {an od : Option Addr} {osl : Array (Option Value)}
    (lk : K.lookup f = some ⟨oc, od, .func (PySem.W.fnOf "law" "law" (defArgs sLaw) (defBody sLaw) (defScope sLaw) .none kV doc pm an (.ref c) ct), osl⟩) (hcd : PySem.W.codeIn K (.ref c) "law" = true)
    (TB : TabB base mg c Pt) (hm : (Pt, qLaw) ∈ T) (hu : ∀ p ∈ T, p.1 = Pt → p.2 = qLaw)
    (kN : PySem.W.keepIn K (.ref fN) = true) (bN : Binds K fdN ["script"] []) (gN : mg "_law_numbers" = some (.ref fN)) (GN : FnOk P w K mg base CX0 1 fN fdN ["script"] (spNums K))
    (kT : PySem.W.keepIn K (.ref fT) = true) (bT : Binds K fdT ["row", "spot", "limit"] []) (gT : mg "_law_take" = some (.ref fT)) (GT : FnOk P w K mg base CX0 2 fT fdT ["row", "spot", "limit"] spTake)
    (kM' : PySem.W.keepIn K (.ref fM) = true) (bM : Binds K fdM ["seed", "p"] []) (gM : mg "mix" = some (.ref fM)) (GM : FnOk P w K mg base CX0 1 fM fdM ["seed", "p"] spMix)
    (kX : PySem.W.keepIn K (.ref fX) = true) (bX : Binds K fdX ["seed", "p"] []) (gX : mg "_law_mix" = some (.ref fX)) (GX : FnOk P w K mg base CX0 1 fX fdX ["seed", "p"] spMix)
    (kR : PySem.W.keepIn K (.ref fR) = true) (bR : Binds K fdR ["seed", "places"] []) (gR : mg "draw_row" = some (.ref fR)) (GR : FnOk P w K mg base CX0 5 fR fdR ["seed", "places"] (spRow K T))
    (m_sorted : mg "sorted" = none) (m_tuple : mg "tuple" = none) (m_range : mg "range" = none) :
    FnOk P w K mg base CX0 6 f (PySem.W.fnOf "law" "law" (defArgs sLaw) (defBody sLaw) (defScope sLaw) .none kV doc pm an (.ref c) ct) ["script"] (spLaw K T) := by
  refine fn_of lk hcd scL (fun vs H Q E h => ?_) (fun A outer s H vs Q E hr h => ?_)
  · obtain ⟨a, ns, rfl, _⟩ := h
    rfl
  · obtain ⟨a, ns, rfl, hS, hlen, hT, q⟩ := h
    refine ⟨_, pss_cons (ps_set (i := 1) scL.nd rfl (.inr rfl) (pe_call GN (hr.mono (by decide)) (by rfl) gN kN bN .nil pass0 (pa_cons (pv 0) pa_nil)))
      (pss_cons (ps_set (i := 2) scL.nd rfl (.inr rfl) (pe_lst (pa_cons pe_int pa_nil)))
      (pss_cons (ps_set (i := 5) scL.nd rfl (.inr rfl) (pe_call GT (hr.mono (by decide)) (by rfl) gT kT bT .nil pass0 (pa_cons (pv 1) (pa_cons (pv 2) (pa_cons pe_int pa_nil)))))
      (pss_cons (ps_setLc (i := 3) (own := [("k", 6)]) (g := gName 6) (tt := tYes) rfl scL.nd rfl rfl (sw_true rfl rfl rfl (by decide +kernel)) (pi_range1 (by rfl) m_range (pa_cons (pe_op op_add pe_int (pe_call GT (hr.mono (by decide)) (by rfl) gT kT bT .nil pass0 (pa_cons (pv 1) (pa_cons (pv 2) (pa_cons pe_int pa_nil))))) pa_nil))
          (blkOk_by (N := NL) (sc := defScope sLaw) (by decide +kernel)) (fun _ _ _ _ _ => pg_name (i := 6) scL.nd rfl (Or.inl rfl)) (fun _ _ _ _ _ => pts_nil)
          (fun _ _ _ _ _ => pe_op op_add (pe_op op_mul (pe_call GT (hr.mono (by decide)) (by rfl) gT kT bT .nil pass0 (pa_cons (pv 1) (pa_cons (pv 2) (pa_cons pe_int pa_nil)))) pe_int) (pv 6)))
      (pss_cons (ps_set (i := 4) scL.nd rfl (.inl rfl) (pe_sortedL (T := T) (c := c) (P := Pt) (x := "p") (N := ["p", "seed"]) (fr := ["seed"]) (js := [5]) (j := 1) (by rfl) m_sorted (pv 3) TB rfl hm hu rfl (ndef_free (sc := defScope sLaw) (fr := ["seed"]) (by decide +kernel)) (nscope_by (by decide +kernel)) (ndef_fr (sc := defScope sLaw) (by decide +kernel)) rfl (hr.mono (by decide)) (fun _ _ _ _ _ => by rfl)
          (fun A outer s H f c' hA => pe_tup (pa_cons (pe_call GX hA (by rfl) gX kX bX .nil pass0 (pa_cons (pv 1) (pa_cons (pv 0) pa_nil))) (pa_cons (pv 0) pa_nil)))))
      (pss_cons (ps_if (pt_cmpR op_ne (pe_call GM (hr.mono (by decide)) (by rfl) gM kM' bM .nil pass0 (pa_cons (pv 5) (pa_cons (pe_ix ix_list (pv 3) pe_int (fun _ _ => rfl)) pa_nil))) (pe_call GX (hr.mono (by decide)) (by rfl) gX kX bX .nil pass0 (pa_cons (pv 5) (pa_cons (pe_ix ix_list (pv 3) pe_int (fun _ _ => rfl)) pa_nil))) (nomark _)) (pss_one (ps_ret pe_bl)) pss_nil)
      (pss_one (ps_ret (pe_cmpR (op_eqD hr.units) (pe_call GR hr (by rfl) gR kR bR .nil pass0 (pa_cons (pv 5) (pa_cons (pe_tupleOf (by rfl) m_tuple (pv 3)) pa_nil))) (pe_tupleOf (by rfl) m_tuple (pv 4)) (nomark _))))))))), ?_⟩
    -- row, spot
    refine ⟨.ref a, rfl, a, ns, rfl, hS, hlen, fun H1 p rs s1 np hR => ?_⟩
    refine ⟨by decide, fun sp nsp => ?_⟩
    have nps : p ≠ sp := ne_of_none hR.1 nsp
    have s2 : Same H1 (upd H1 sp (.lst [.int 0])) := same_new nsp
    have hR2 : RowAt (upd H1 sp (.lst [.int 0])) p rs := ⟨s2 _ _ hR.1, hR.2⟩
    -- seed
    refine ⟨.ref p, rfl, .ref sp, rfl, p, sp, rs, 0, 100000, rfl, hR2, nps, upd_same, by decide, by decide, by decide, fun seed g1 g2 => ?_⟩
    generalize hH2 : upd (upd H1 sp (.lst [.int 0])) sp (.lst [.int (((0 : Nat) : Int) + 1)]) = H2
    have s12 : ∀ b o, b ≠ sp → H1 b = some o → H2 b = some o := fun b o hb e => by rw [← hH2, upd_ne hb, upd_ne hb]; exact e
    have e2 : H2 sp = some (.lst [.int ((1 : Nat) : Int)]) := by rw [← hH2]; exact upd_same
    have hR3 : RowAt H2 p rs := ⟨s12 _ _ nps hR.1, hR.2⟩
    have hT2 : Tabs T H2 := (hT.ext s1).ext fun b o e => s12 b o (ne_of_none e nsp) e
    -- the range
    refine ⟨.ref p, rfl, .ref sp, rfl, p, sp, rs, 1, 8, rfl, hR3, nps, e2, by decide, by decide, by decide, fun d g3 g4 => ?_⟩
    refine ⟨_, _, rfl, rfl, 1 + d, rfl, by omega, by omega, fun D nD => ?_⟩
    generalize hH3 : upd H2 sp (.lst [.int (((1 : Nat) : Int) + 1)]) = H3 at nD ⊢
    have s23 : ∀ b o, b ≠ sp → H2 b = some o → H3 b = some o := fun b o hb e => by rw [← hH3, upd_ne hb]; exact e
    have e3 : H3 sp = some (.lst [.int ((2 : Nat) : Int)]) := by rw [← hH3]; exact upd_same
    have hR4 : RowAt H3 p rs := ⟨s23 _ _ nps hR3.1, hR3.2⟩
    have hT3 : Tabs T H3 := fun x hx => by
      obtain ⟨ps, a1, a2, a3⟩ := hT2 x hx
      refine ⟨ps, s23 _ _ (ne_of a1 e2 (by intro z; cases z)) a1, a2, fun pos cv hc => ?_⟩
      obtain ⟨c0, b1, b2⟩ := a3 pos cv hc
      exact ⟨c0, b1, s23 _ _ (ne_of b2 e2 (by unfold CodeO; intro z; cases z)) b2⟩
    have nDp : p ≠ D := ne_of_none hR4.1 nD
    have nDs : sp ≠ D := ne_of_none e3 nD
    refine lc_range (lo := 0) (n := (1 + d).toNat) (fun i H => ∃ ps : List Int, H D = some (.lst (ps.map V.int)) ∧ ps.length = i ∧ (∀ x ∈ ps, 0 ≤ x ∧ x < 1000) ∧ RowAt H p rs ∧ H sp = some (.lst [.int ((2 + i : Nat) : Int)]) ∧ Tabs T H)
      ⟨[], upd_same, rfl, fun x hx => by simp at hx, ⟨by rw [upd_ne nDp]; exact hR4.1, hR4.2⟩, by rw [upd_ne nDs]; exact e3, hT3.ext (same_new nD)⟩ ?_ ?_
    · rintro i Hi hi ⟨ps, hD, hl, hb, hRi, hsi, hTi⟩
      have hi8 : i < 8 := by omega
      refine ⟨rfl, ?_⟩
      unfold tYes; dsimp only
      rw [if_pos rfl]
      refine ⟨.ref p, rfl, .ref sp, rfl, p, sp, rs, 2 + i, 50, rfl, hRi, nps, hsi, by omega, by decide, by decide, fun x g5 g6 => ?_⟩
      have nDs' : D ≠ sp := nDs.symm
      have tabs' : ∀ o, Tabs T (upd Hi sp o) := fun o x hx => by
        obtain ⟨qs, a1, a2, a3⟩ := hTi x hx
        refine ⟨qs, by rw [upd_ne (ne_of a1 hsi (by intro z; cases z))]; exact a1, a2, fun pos cv hc => ?_⟩
        obtain ⟨c0, b1, b2⟩ := a3 pos cv hc
        exact ⟨c0, b1, by rw [upd_ne (ne_of b2 hsi (by unfold CodeO; intro z; cases z))]; exact b2⟩
      have hD' : upd Hi sp (.lst [.int (((2 + i : Nat) : Int) + 1)]) D = some (.lst (ps.map V.int)) := by rw [upd_ne nDs']; exact hD
      refine ⟨_, _, rfl, rfl, .inr ⟨by decide, by decide⟩, _, rfl, _, _, rfl, rfl, _, hD', by rw [List.length_map, sizeLine_eq]; omega, ps ++ [x * 3 + (0 + (i : Int))], ?_, ?_, ?_, ⟨?_, hRi.2⟩, ?_, ?_⟩
      · rw [upd_same, List.map_append]; rfl
      · rw [List.length_append, hl]; rfl
      · intro y hy
        rcases List.mem_append.mp hy with hy | hy
        · exact hb y hy
        · obtain rfl : y = x * 3 + (0 + (i : Int)) := by simpa using hy
          omega
      · rw [upd_ne nDp, upd_ne nps]; exact hRi.1
      · rw [upd_ne nDs, upd_same]; rfl
      · intro x hx
        obtain ⟨qs, a1, a2, a3⟩ := tabs' (.lst [.int (((2 + i : Nat) : Int) + 1)]) x hx
        refine ⟨qs, by rw [upd_ne (ne_of a1 hD' (by intro z; cases z))]; exact a1, a2, fun pos cv hc => ?_⟩
        obtain ⟨c0, b1, b2⟩ := a3 pos cv hc
        exact ⟨c0, b1, by rw [upd_ne (ne_of b2 hD' (by unfold CodeO; intro z; cases z))]; exact b2⟩
    · rintro Hn ⟨ps, hD, hl, hb, hRn, hsn, hTn⟩
      have hpos : 0 < ps.length := by omega
      -- due
      refine ⟨.ref D, rfl, D, _, kM seed, rfl, .inl (.inl hD), hTn, fun H5 eN T5 => ⟨fun x hx H6 Q' sm kq => ?_, fun H6 r sm nr => ?_⟩⟩
      · obtain ⟨z, hz, rfl⟩ := List.mem_map.mp hx
        obtain ⟨z0, z1⟩ := hb z hz
        refine ⟨_, rfl, _, rfl, seed, z, rfl, g1, g2, z0, z1, _, rfl, (by show 2 ≤ sizeLine; decide), fun t nt => kq t _ (same_new nt) upd_same⟩
      · have hD6 : H6 D = some (.lst (ps.map V.int)) := sm _ _ (eN _ _ hD fun qs z => by cases z)
        have nDr : D ≠ r := ne_of_none hD6 nr
        have hD7 : (upd H6 r (.lst (drawn seed ps))) D = some (.lst (ps.map V.int)) := by rw [upd_ne nDr]; exact hD6
        have hT7 : Tabs T (upd H6 r (.lst (drawn seed ps))) := (T5.ext sm).ext (same_new nr)
        obtain ⟨z, hz⟩ := getI hpos
        obtain ⟨z', hz', ez⟩ := List.mem_map.mp (List.mem_of_getElem? hz)
        obtain rfl : z' = z := V.int.inj ez
        obtain ⟨z0, z1⟩ := hb z' hz'
        have hL7 : SqL K (upd H6 r (.lst (drawn seed ps))) D (ps.map V.int) := .inl (.inl hD7)
        refine ⟨_, rfl, .ref D, rfl, D, _, _, _, rfl, rfl, hL7, atI_nat (j := 0) hz, seed, z', rfl, g1, g2, z0, z1, ?_⟩
        refine ⟨_, rfl, .ref D, rfl, D, _, _, _, rfl, rfl, hL7, atI_nat (j := 0) hz, seed, z', rfl, g1, g2, z0, z1, ?_⟩
        refine ⟨rfl, _, rfl, iteNS rfl ?_⟩
        -- the same row
        refine ⟨_, rfl, .ref D, rfl, .inl ⟨D, _, rfl, hL7, fun t nt => ?_⟩⟩
        refine ⟨seed, t, ps, rfl, .inl (.inl upd_same), g1, g2, hb, hT7.ext (same_new nt), fun H8 u e8 hu8 => ?_⟩
        have hr8 : H8 r = some (.lst (drawn seed ps)) := e8 _ _ (by rw [upd_ne (ne_of_none (o := .lst (drawn seed ps)) upd_same nt)]; exact upd_same) fun qs z => by cases z
        refine ⟨.ref r, rfl, .inl ⟨r, _, rfl, .inl (.inl hr8), fun v nv => ?_⟩⟩
        obtain ⟨zs, hzs⟩ := drawn_ints seed ps
        rw [hzs] at hu8
        rw [hzs]
        have hu9 : upd H8 v (.tup (zs.map V.int)) u = some (.tup (zs.map V.int)) := by rw [upd_ne (ne_of_none hu8 nv)]; exact hu8
        refine ⟨.tuple (zs.map .int), .tuple (zs.map .int), .tup (.inl (.inl hu9)) (dp_ints zs), .tup (.inl (.inl upd_same)) (dp_ints zs), shaped_ints zs, shaped_ints zs, ?_⟩
        have : PyData.eqv (.tuple (zs.map .int)) (.tuple (zs.map .int)) = true := eqv_ints zs
        rw [this]
        exact q _
end
end L07
namespace L07
open PySem PySem.Spec PyProof.Rows L2 LamX NdefX HS
abbrev fob (st : Stmt) (nm : Str) (kV dc pm : Value) (an : Option Addr) (cd ct : Value) : FuncData := PySem.W.fnOf nm nm (defArgs st) (defBody st) (defScope st) .none kV dc pm an cd ct
theorem all_mk {l : PySem.W.OpenLaw} {w : World} {K : PySem.W.Frag} {h : Heap} {mg : Str → Option Value} {fa f2 f3 f5 f6 f7 f8 f9 c3 c9 P3 P9 : Addr} {tR : Tok} (X : K.In h) (G : h.Ns mainGlobals mg) (hfa : mg "law" = some (.ref fa))
    {od2 an2 od3 an3 od5 an5 od6 an6 od7 an7 od8 an8 od9 an9 : Option Addr} {sl2 sl3 sl5 sl6 sl7 sl8 sl9 : Array (Option Value)}
    {oc2 kV2 dc2 pm2 cd2 ct2 oc3 kV3 dc3 pm3 ct3 oc5 kV5 dc5 pm5 cd5 ct5 oc6 kV6 dc6 pm6 cd6 ct6 oc7 kV7 dc7 pm7 cd7 ct7 oc8 kV8 dc8 pm8 cd8 ct8 oc9 kV9 dc9 pm9 ct9 : Value}
    (a2 : PySem.W.nsIn K mainGlobals "mix" = some (some (.ref f2))) (l2 : K.lookup f2 = some ⟨oc2, od2, .func (fob sMix "mix" kV2 dc2 pm2 an2 cd2 ct2), sl2⟩) (i2 : PySem.W.codeIn K cd2 "mix" = true) (k2 : PySem.W.keepIn K (.ref f2) = true)
    (a3 : PySem.W.nsIn K mainGlobals "draw_row" = some (some (.ref f3))) (l3 : K.lookup f3 = some ⟨oc3, od3, .func (fob sRow "draw_row" kV3 dc3 pm3 an3 (.ref c3) ct3), sl3⟩) (i3 : PySem.W.codeIn K (.ref c3) "draw_row" = true) (k3 : PySem.W.keepIn K (.ref f3) = true)
    (a5 : PySem.W.nsIn K mainGlobals "_law_numbers" = some (some (.ref f5))) (l5 : K.lookup f5 = some ⟨oc5, od5, .func (fob sNums "_law_numbers" kV5 dc5 pm5 an5 cd5 ct5), sl5⟩) (i5 : PySem.W.codeIn K cd5 "_law_numbers" = true) (k5 : PySem.W.keepIn K (.ref f5) = true)
    (a6 : PySem.W.nsIn K mainGlobals "_law_draw" = some (some (.ref f6))) (l6 : K.lookup f6 = some ⟨oc6, od6, .func (fob sDraw "_law_draw" kV6 dc6 pm6 an6 cd6 ct6), sl6⟩) (i6 : PySem.W.codeIn K cd6 "_law_draw" = true) (k6 : PySem.W.keepIn K (.ref f6) = true)
    (a7 : PySem.W.nsIn K mainGlobals "_law_take" = some (some (.ref f7))) (l7 : K.lookup f7 = some ⟨oc7, od7, .func (fob sTake "_law_take" kV7 dc7 pm7 an7 cd7 ct7), sl7⟩) (i7 : PySem.W.codeIn K cd7 "_law_take" = true) (k7 : PySem.W.keepIn K (.ref f7) = true)
    (a8 : PySem.W.nsIn K mainGlobals "_law_mix" = some (some (.ref f8))) (l8 : K.lookup f8 = some ⟨oc8, od8, .func (fob sLmix "_law_mix" kV8 dc8 pm8 an8 cd8 ct8), sl8⟩) (i8 : PySem.W.codeIn K cd8 "_law_mix" = true) (k8 : PySem.W.keepIn K (.ref f8) = true)
    (a9 : PySem.W.nsIn K mainGlobals "law" = some (some (.ref f9))) (l9 : K.lookup f9 = some ⟨oc9, od9, .func (fob sLaw "law" kV9 dc9 pm9 an9 (.ref c9) ct9), sl9⟩) (i9 : PySem.W.codeIn K (.ref c9) "law" = true) (k9 : PySem.W.keepIn K (.ref f9) = true)
    (r1 : PySem.W.nsIn K mainGlobals "REST" = some (some (.int 2305843009213693951 tR)))
    (h3 : PySem.W.codeHdIn K c3 P3 = true) (o3 : K.lookup P3 = none) (y3 : h.get? P3 = some { cls := .none, data := .fields #[] })
    (h9 : PySem.W.codeHdIn K c9 P9 = true) (o9 : K.lookup P9 = none) (y9 : h.get? P9 = some { cls := .none, data := .fields #[] }) (ne : P3 ≠ P9)
    (z1 : PySem.W.nsIn K mainGlobals "range" = some none) (z2 : PySem.W.nsIn K mainGlobals "int" = some none) (z3 : PySem.W.nsIn K mainGlobals "len" = some none) (z4 : PySem.W.nsIn K mainGlobals "sorted" = some none) (z5 : PySem.W.nsIn K mainGlobals "list" = some none) (z6 : PySem.W.nsIn K mainGlobals "tuple" = some none) :
    LawAtS l w K CX0 6 63 "script" mg fa h := by
  have e := hfa.symm.trans (PySem.W.mg_of X G a9)
  cases e
  have F2 := fun_mk (st := sMix) l2 i2 k2
  have F5 := fun_mk (st := sNums) l5 i5 k5
  have F6 := fun_mk (st := sDraw) l6 i6 k6
  have F7 := fun_mk (st := sTake) l7 i7 k7
  have F8 := fun_mk (st := sLmix) l8 i8 k8
  have F3 := fun_mk (st := sRow) l3 i3 k3
  have b2 := F2.binds (ps := ["seed", "p"]) fun _ _ _ _ _ _ us hl => match us, hl with | [_, _], _ => rfl
  have b3 := F3.binds (ps := ["seed", "places"]) fun _ _ _ _ _ _ us hl => match us, hl with | [_, _], _ => rfl
  have b5 := F5.binds (ps := ["script"]) fun _ _ _ _ _ _ us hl => match us, hl with | [_], _ => rfl
  have b6 := F6.binds (ps := ["row", "at", "limit"]) fun _ _ _ _ _ _ us hl => match us, hl with | [_, _, _], _ => rfl
  have b7 := F7.binds (ps := ["row", "spot", "limit"]) fun _ _ _ _ _ _ us hl => match us, hl with | [_, _, _], _ => rfl
  have b8 := F8.binds (ps := ["seed", "p"]) fun _ _ _ _ _ _ us hl => match us, hl with | [_, _], _ => rfl
  have mR := PySem.W.mg_none_of X G z1
  have mI := PySem.W.mg_none_of X G z2
  have mL := PySem.W.mg_none_of X G z3
  have mS := PySem.W.mg_none_of X G z4
  have mLi := PySem.W.mg_none_of X G z5
  have mT := PySem.W.mg_none_of X G z6
  have g2 := PySem.W.mg_of X G a2
  have g3 := PySem.W.mg_of X G a3
  refine ⟨fob sLaw "law" kV9 dc9 pm9 an9 (.ref c9) ct9, [(c3, P3), (c9, P9)], spLaw K [(P3, qRow), (P9, qLaw)], ?_, ?_, ?_, fun s v => .of_eq rfl, fun H a ns hl _ hH hS => ⟨a, ns, rfl, hS, hl, ?_, fun _ => rfl⟩, fun base KB GB TB => ?_⟩
  · intro p hp
    rcases List.mem_cons.mp hp with rfl | hp
    · exact y3
    · obtain rfl : p = (c9, P9) := by simpa using hp
      exact y9
  · intro p hp
    rcases List.mem_cons.mp hp with rfl | hp
    · exact o3
    · obtain rfl : p = (c9, P9) := by simpa using hp
      exact o9
  · intro p hp
    rcases List.mem_cons.mp hp with rfl | hp
    · exact PySem.W.codeHd_of_K X h3
    · obtain rfl : p = (c9, P9) := by simpa using hp
      exact PySem.W.codeHd_of_K X h9
  · intro p hp
    rcases List.mem_cons.mp hp with rfl | hp
    · exact TabS.nil (hH (c3, P3) (by simp))
    · obtain rfl : p = (P9, qLaw) := by simpa using hp
      exact TabS.nil (hH (c9, P9) (by simp))
  · have t3 := TB (c3, P3) (by simp)
    have t9 := TB (c9, P9) (by simp)
    have GM := ok_mix (P := l.prog) (w := w) (base := base) F2 mR (PySem.W.mg_of X G r1)
    have GX := ok_lmix (P := l.prog) (w := w) (base := base) F8 mR mI
    have GR := ok_row (P := l.prog) (w := w) (T := [(P3, qRow), (P9, qLaw)]) l3 i3 t3 (by simp) (fun p hp hq => by
      rcases List.mem_cons.mp hp with rfl | hp
      · rfl
      · obtain rfl : p = (P9, qLaw) := by simpa using hp
        exact absurd hq.symm ne) F2 b2 g2 GM mS mLi mT
    exact ok_law (P := l.prog) (w := w) (T := [(P3, qRow), (P9, qLaw)]) l9 i9 t9 (by simp) (fun p hp hq => by
      rcases List.mem_cons.mp hp with rfl | hp
      · exact absurd hq ne
      · obtain rfl : p = (P9, qLaw) := by simpa using hp
        rfl) k5 b5 (PySem.W.mg_of X G a5) (ok_nums F5 mR mI mL) k7 b7 (PySem.W.mg_of X G a7) (ok_take F7 F6 b6 (PySem.W.mg_of X G a6) mI mL) k2 b2 g2 GM k8 b8 (PySem.W.mg_of X G a8) GX k3 b3 g3 GR mS mT mR
end L07
open PySem PySem.W PyProof.Rows
set_option maxRecDepth 100000 in
set_option maxHeartbeats 0 in
theorem PySem.Challenge.cw_seatrush_k07_mix_and_draw_holds : PySem.Challenge.rw_seatrush_k07_mix_and_draw.Holds := by
  w_on; o_law; k_head; (case hw => w_witness2)
  k_fill
  refine LamX.walk_ofTs (l := PySem.Challenge.rw_seatrush_k07_mix_and_draw) (n := 63) (k := 6) (x := "script") (CX := fun _ => L2.CX0) rfl (by decide) rfl ⟨rfl, by decide, by decide⟩ (fun w h Y => PySem.W.km_in_of Y) ?F (fun _ _ _ _ _ z => z)
  case F =>
    intro w mg fa h Y KX G hmg
    refine' L07.all_mk KX G hmg ?a2 ?l2 ?i2 ?k2 ?a3 ?l3 ?i3 ?k3 ?a5 ?l5 ?i5 ?k5 ?a6 ?l6 ?i6 ?k6 ?a7 ?l7 ?i7 ?k7 ?a8 ?l8 ?i8 ?k8 ?a9 ?l9 ?i9 ?k9 ?r1 ?h3 ?o3 ?y3 ?h9 ?o9 ?y9 ?ne ?z1 ?z2 ?z3 ?z4 ?z5 ?z6
    (case a2 => k_is); (case l2 => k_is); (case i2 => k_is); (case k2 => k_is)
    (case a3 => k_is); (case l3 => k_is); (case i3 => k_is); (case k3 => k_is)
    (case a5 => k_is); (case l5 => k_is); (case i5 => k_is); (case k5 => k_is)
    (case a6 => k_is); (case l6 => k_is); (case i6 => k_is); (case k6 => k_is)
    (case a7 => k_is); (case l7 => k_is); (case i7 => k_is); (case k7 => k_is)
    (case a8 => k_is); (case l8 => k_is); (case i8 => k_is); (case k8 => k_is)
    (case a9 => k_is); (case l9 => k_is); (case i9 => k_is); (case k9 => k_is)
    (case r1 => k_is)
    (case y3 => exact PySem.W.km_tabs_of Y _ (.head _)); (case h3 => kernel_rfl); (case o3 => kernel_rfl)
    (case y9 => exact PySem.W.km_tabs_of Y _ (.tail _ (.head _))); (case h9 => kernel_rfl); (case o9 => kernel_rfl); (case ne => decide)
    (case z1 => k_is); (case z2 => k_is); (case z3 => k_is); (case z4 => k_is); (case z5 => k_is); (case z6 => k_is)
