import PyProof.Rows.All
import Wide.All
import OpenK.AllK
import Wide.FinOn
import HandS.ForMost
import HandS.Lambda
import HandS.Nested
import HandS.Conv
import HandS.SortKw
import KE.SortKeyHeap
import KE.SortKeyed
import KE.KTupSum
import KE.DatumOrd
import KE.GoesNew
import KE.GoesMore
import HandS.Zip
import HandS.EndTab
import PySem.Challenge.RW_seatrush_k05_share
set_option Elab.async false
set_option linter.all false
set_option maxRecDepth 100000
set_option maxHeartbeats 4000000
/-! HSa: sorted(.., key=f), f's keys pairs of ints, over the hand layer -/
namespace HS
open PySem PySem.Spec PyProof.Rows L2 LamX NdefX
open PySem.W (EachIs)
abbrev KI := V → Int × Int
abbrev kdI (k : KI) (x : V) : PyData := .tuple [.int (k x).1, .int (k x).2]
def leK (k : KI) (x y : V) : Bool := decide ((k x).1 < (k y).1 ∨ ((k x).1 = (k y).1 ∧ (k x).2 ≤ (k y).2))
theorem leK_is (k : KI) : PySem.W.dataLe false (kdI k) = leK k := PySem.W.dataLe_ii _ _
theorem each_vals : ∀ {xs : List V} {us : List Value}, Vals xs us → EachIs (fun u x => RelV x u) us xs
  | _, _, .nil => .nil
  | _, _, .cons r t => .cons r (each_vals t)
theorem vals_each : ∀ {us : List Value} {xs : List V}, EachIs (fun u x => RelV x u) us xs → Vals xs us
  | _, _, .nil => .nil
  | _, _, .cons r t => .cons r (vals_each t)
section
variable {X : Cx} {pins : List (Addr × Obj)} {σ : L2.St} {H : Hp} {s : Shared}
/-- a pair of ints that is tracked reads as such -/
theorem reads_pair {h : Heap} {t : Addr} {i j : Int} (hok : HOk X.prog X.w H h) (e : H t = some (.tup [.int i, .int j])) : Reads h (.ref t) (.tuple [.int i, .int j]) [] := by
  obtain ⟨_, its, r, o, ho, hc, n, hd⟩ := hok _ _ e
  obtain ⟨u1, u2, rfl, ri, rj⟩ := vals2 r
  obtain ⟨t1, rfl⟩ := ri
  obtain ⟨t2, rfl⟩ := rj
  exact .tuple (as := []) ho hc hd (.cons (as := []) (bs := []) (.int _ _) (.cons (as := []) (bs := []) (.int _ _) .nil))
/-- what one call of the key promises -/
def KeyTurn (X : Cx) (A : Around) (pins : List (Addr × Obj)) (σ : L2.St) (H : Hp) (f : Value) (k : KI) (xs : List V) : Prop :=
  ∀ (x : V) (v : Value) (pins' : List (Addr × Obj)) (H' : Hp) (s' : Shared), x ∈ xs → RelV x v → Same H H' → (∀ p ∈ pins, p ∈ pins') → Inv X pins' σ H' s' →
    wpAny (model X.prog X.w) A (call f [v]) (fun u s'' => ∃ H'' t, Inv X pins' σ H'' s'' ∧ Same H' H'' ∧ u = .ref t ∧ H'' t = some (.tup [.int (k x).1, .int (k x).2])) (fun _ _ => False) s'
/-- a list that nobody tracks is written -/
theorem inv_other {h' : Heap} {b : Addr} {tk : Nat} (I : Inv X pins σ H s) (hs : Heap.SameBut b s.heap h') (hn : H b = none) (hL : b ≠ X.env.locals) (h1 : X.s_0.heap.objs.size ≤ b) (h2 : ∀ x c, X.env.cells.lookup x = some c → c ≠ b) (h3 : ∀ p ∈ X.pn ++ pins, p.1 ≠ b) :
    Inv X pins σ H { s with heap := h', toks := tk } := I.turned (fun c o hc e => (hs.2 c hc).trans e) hn hL (.inr h1) h2 h3
theorem pin_cell {p : Addr × Obj} (I : Inv X pins σ H s) (hp : p ∈ X.pn ++ pins) : ∀ x c, X.env.cells.lookup x = some c → c ≠ p.1 := fun x c e q => by
  obtain ⟨e1, _, _, _, e2⟩ := I.pin p hp
  obtain ⟨v, o, ho, hd⟩ := I.cell x c e
  rw [q, e1] at ho
  cases ho
  exact e2 v hd
/-- the keys are asked, the list is sorted by them -/
theorem keyed_rest {A : Around} {a kS : Addr} {f : Value} {vs : List Value} {xs : List V} {k : KI} {e1 : Nat} {P : PySem.Fin → Shared → Prop} {E : Value → Shared → Prop}
    (I : Inv X ((kS, seqObj "list" #[] 0) :: (a, seqObj "list" #[] e1) :: pins) σ H s) (hka : kS ≠ a) (hsa : X.s_0.heap.objs.size ≤ a) (hsk : X.s_0.heap.objs.size ≤ kS) (hpa : ∀ p ∈ X.pn ++ pins, p.1 ≠ a) (hpk : ∀ p ∈ X.pn ++ pins, p.1 ≠ kS)
    (r : Vals xs vs) (hZ : vs.length ≤ sizeLine) (hu : A.units + 1 < cLine) (turn : KeyTurn X A pins σ H f k xs)
    (h : ∀ H' s', Same H H' → H' a = none → Inv X pins σ (upd H' a (.lst (xs.mergeSort (leK k)))) s' → P (.done (.ret .none)) s') : wpAny (model X.prog X.w) A (ksk_rest a f false vs.toArray e1 (.ref kS)) P E s := by
  unfold ksk_rest
  refine wpAny_bind (wpAny_rule ?_)
  rw [List.forIn_toArray]
  refine wpAny_bind (ksk_fold (fun i s' => ∃ (H' : Hp) (kA : Array Value) (e : Nat) (ts : List Addr), Inv X ((kS, seqObj "list" kA e) :: (a, seqObj "list" #[] e1) :: pins) σ H' s' ∧ Same H H' ∧ kA.toList = ts.map Value.ref ∧ ts.length = i ∧
      ∀ (j : Nat) (t : Addr), ts[j]? = some t → ∃ x, xs[j]? = some x ∧ H' t = some (.tup [.int (k x).1, .int (k x).2])) vs 0 s ⟨H, #[], 0, [], I, Same.refl H, rfl, rfl, fun j t e => by simp at e⟩ ?step ?done)
  case step =>
    rintro j v s' hv ⟨H', kA, e, ts, I', sm, ek, el, et⟩
    simp only [Nat.zero_add] at el ⊢
    have hj : j < vs.length := (List.getElem?_eq_some_iff.mp hv).1
    obtain ⟨x, hx⟩ : ∃ x, xs[j]? = some x := ⟨_, List.getElem?_eq_getElem (by rw [r.length]; exact hj)⟩
    obtain ⟨v', hv', rv⟩ := r.get hx
    rw [hv] at hv'
    cases hv'
    refine wpAny_bind (wpAny_attempt (wpAny_mono (turn _ v _ H' s' (List.mem_of_getElem? hx) rv sm (fun p hp => List.mem_cons_of_mem _ (List.mem_cons_of_mem _ hp)) I') (fun u s2 hq => ?_) fun _ _ z => z.elim))
    obtain ⟨H2, t, I2, sm2, rfl, ht⟩ := hq
    try dsimp only
    obtain ⟨nk, nn, nL, _, _⟩ := I2.pin (kS, seqObj "list" kA e) (by simp)
    have hsz : kA.size ≤ vs.length := by
      have := congrArg List.length ek
      rw [Array.length_toList, List.length_map] at this
      omega
    have hs := Heap.SameBut.update s2.heap kS (Obj.mapSeq (·.push (Value.ref t)))
    obtain ⟨c2, hc2⟩ : ∃ c2, (s2.heap.update kS (Obj.mapSeq (·.push (Value.ref t)))).get? kS = some (seqObj "list" (kA.push (.ref t)) c2) := ⟨_, get?_update_seq nk (·.push (Value.ref t))⟩
    refine wpAny_bind (listUpdate_at nk rfl ?_ (Nat.le_trans hsz hZ) (by rw [Array.size_push]; omega))
    have I3 : Inv X ((a, seqObj "list" #[] e1) :: pins) σ H2 s2 := I2.pins_of fun p hp => I2.pin p (List.mem_append_right _ (List.mem_cons_of_mem _ hp))
    have I4 : Inv X ((a, seqObj "list" #[] e1) :: pins) σ H2 { s2 with heap := s2.heap.update kS (Obj.mapSeq (·.push (Value.ref t))) } := inv_other (tk := s2.toks) I3 hs nn nL hsk (pin_cell I2 (p := (kS, seqObj "list" kA e)) (by simp)) fun p hp q => by
      rcases List.mem_append.mp hp with hp | hp
      · exact hpk p (List.mem_append_left _ hp) q
      · rcases List.mem_cons.mp hp with rfl | hp
        · exact hka q.symm
        · exact hpk p (List.mem_append_right _ hp) q
    refine wpAny_pure ⟨rfl, H2, kA.push (.ref t), c2, ts ++ [t], I4.pins_of fun p hp => ?_, sm.trans sm2, ?_, ?_, fun i u hi => ?_⟩
    · rcases List.mem_cons.mp hp with rfl | hp
      · exact ⟨hc2, nn, nL, (I2.pin (kS, seqObj "list" kA e) (by simp)).2.2.2.1, fun v z => by cases z⟩
      · exact I4.pin p (List.mem_append_right _ hp)
    · rw [Array.toList_push, ek, List.map_append]; rfl
    · rw [List.length_append, el]; rfl
    · by_cases hi2 : i < ts.length
      · rw [List.getElem?_append_left hi2] at hi
        obtain ⟨x, e1, e2⟩ := et i u hi
        exact ⟨x, e1, sm2 _ _ e2⟩
      · rw [List.getElem?_append_right (by omega)] at hi
        have hi3 : i = ts.length := by
          have := (List.getElem?_eq_some_iff.mp hi).1
          simp only [List.length_singleton] at this
          omega
        subst hi3
        simp only [Nat.sub_self, List.getElem?_cons_zero, Option.some.injEq] at hi
        subst hi
        rw [el]
        exact ⟨_, hx, ht⟩
  case done =>
    rintro s' ⟨H', kA, e, ts, I', sm, ek, el, et⟩
    rw [Nat.zero_add] at el
    try dsimp only
    obtain ⟨nk, nkn, nkL, _, _⟩ := I'.pin (kS, seqObj "list" kA e) (by simp)
    obtain ⟨na, nan, naL, _, _⟩ := I'.pin (a, seqObj "list" #[] e1) (by simp)
    have hxl : xs.length = vs.length := r.length
    have hk' : EachIs (fun v d => ∃ as, Reads s'.heap v d as) kA.toList (xs.map (kdI k)) := by
      rw [ek]
      have go : ∀ (ts : List Addr) (xs : List V), ts.length = xs.length → (∀ (j : Nat) (t : Addr), ts[j]? = some t → ∃ x, xs[j]? = some x ∧ H' t = some (.tup [.int (k x).1, .int (k x).2])) →
          EachIs (fun v d => ∃ as, Reads s'.heap v d as) (ts.map Value.ref) (xs.map (kdI k)) := by
        intro ts
        induction ts with
        | nil => intro xs hl _; cases xs with
          | nil => exact .nil
          | cons _ _ => cases hl
        | cons t ts ih =>
          intro xs hl hq
          cases xs with
          | nil => cases hl
          | cons x xs =>
            obtain ⟨x', e1, e2⟩ := hq 0 t rfl
            simp only [List.getElem?_cons_zero, Option.some.injEq] at e1
            subst e1
            exact .cons ⟨[], reads_pair I'.hok e2⟩ (ih xs (Nat.succ.inj hl) fun j u hj => hq (j + 1) u hj)
      exact go ts xs (by omega) et
    have hal : PySem.W.AllAlike (xs.map (kdI k)) := fun d hd d' hd' => by
      obtain ⟨x, _, rfl⟩ := List.mem_map.mp hd
      obtain ⟨y, _, rfl⟩ := List.mem_map.mp hd'
      rfl
    have hks : PySem.W.Sortable (xs.map (kdI k)) := .inl fun d hd => by
      obtain ⟨x, _, rfl⟩ := List.mem_map.mp hd
      exact ⟨_, _, rfl⟩
    have hsz : kA.size = vs.length := by
      have := congrArg List.length ek
      rw [Array.length_toList, List.length_map] at this
      omega
    refine wpAny_bind (listItems_at nk rfl ?_)
    have hdep : ∀ d ∈ xs.map (kdI k), A.units + d.depth < cLine := fun d hd => by
      obtain ⟨x, _, rfl⟩ := List.mem_map.mp hd
      exact hu
    have hid : ∀ b o, b ≠ kS → s'.heap.get? b = some o → (PySem.W.hideAll s'.heap [kS]).get? b = some o := fun b o hb e => PySem.W.hideAll_get _ e (by simpa using hb)
    refine PySem.W.keyH_end (h₁ := PySem.W.hideAll s'.heap [kS]) (fun b o _ e => PySem.W.of_hideAll _ e) (PySem.W.hideAll_none _ (by simp)) nk na hka (PySem.W.SortsAt.data hk' hal hks hdep) hsz hZ fun h' tk c kp hD => ?_
    have ko : EachIs (fun u x => RelV x u) (PySem.W.sortVals (PySem.W.dataKind s'.heap (xs.map (kdI k))) false kA.toList vs) (xs.mergeSort (leK k)) := by
      rw [← leK_is]
      exact PySem.W.keyedOut_each (rev := false) (kdI k) ⟨s'.heap, kA.toList, hal, rfl, hk'⟩ (each_vals r)
    have rv := vals_each ko
    have hol : (xs.mergeSort (leK k)).length ≤ sizeLine := by rw [List.length_mergeSort, hxl]; exact hZ
    have keep : ∀ b o, b ≠ a → b ≠ kS → s'.heap.get? b = some o → h'.get? b = some o := fun b o h1 h2 e => kp b o h1 (hid b o h2 e)
    have cell : ∀ b, b ∈ [kS, a] → ∀ x c, X.env.cells.lookup x = some c → c ≠ b := fun b hb => by
      rcases List.mem_cons.mp hb with rfl | hb
      · exact pin_cell I' (p := (b, seqObj "list" kA e)) (by simp)
      · obtain rfl : b = a := by simpa using hb
        exact pin_cell I' (p := (b, seqObj "list" #[] e1)) (by simp)
    have I0 : Inv X pins σ H' s' := I'.pins_of fun p hp => I'.pin p (List.mem_append_right _ (List.mem_cons_of_mem _ (List.mem_cons_of_mem _ hp)))
    refine h H' { s' with heap := h', toks := tk } sm nan (I0.step (g' := s'.gens) (d' := s'.drawn) (ch := [kS, a]) (fun b hb => ?_) (fun b o _ _ hc e _ => keep b o (fun q => hc (by simp [q])) (fun q => hc (by simp [q])) e)
      (fun b o _ _ hc e _ => ⟨o.slots, keep b o (fun q => hc (by simp [q])) (fun q => hc (by simp [q])) e⟩) (fun b o hc e n => by rw [upd_ne (fun q => hc (by simp [q]))]; exact n) (fun b o hc e => ⟨o, keep b o (fun q => hc (by simp [q])) (fun q => hc (by simp [q])) e⟩)
      (fun b xs e => by rw [upd_ne (ne_of_none e nan)]; exact e) (fun b o u e => by rw [upd_ne (ne_of_none e nan)]; exact e) (fun b ps e => ⟨#[], by rw [upd_ne (ne_of_none e nan), e]; simp⟩) (fun m hm => ?_) (fun b u e => ?_) I0.bare)
    · refine ⟨?_, ?_, cell b hb, ?_⟩
      · rcases List.mem_cons.mp hb with rfl | hb
        · exact .inr hsk
        · obtain rfl : b = a := by simpa using hb
          exact .inr hsa
      · rcases List.mem_cons.mp hb with rfl | hb
        · exact nkL
        · obtain rfl : b = a := by simpa using hb
          exact naL
      · intro p hp
        rcases List.mem_cons.mp hb with rfl | hb
        · exact hpk p hp
        · obtain rfl : b = a := by simpa using hb
          exact hpa p hp
    · obtain ⟨o, es, ep, ho, rr⟩ := hm
      exact ⟨o, es, ep, keep _ o (Ne.symm naL) (Ne.symm nkL) ho, rr⟩
    · by_cases hb : b = a
      · subst hb
        rw [upd_same] at e
        cases e
        exact ⟨hol, _, c, rv, hD⟩
      · rw [upd_ne hb] at e
        have hbk : b ≠ kS := ne_of_none e nkn
        refine (I0.hok b u e).stay (fun c v hc q => keep c v ?_ ?_ q) (fun c q => by rw [upd_ne (ne_of_none q nan)]; exact q) fun c xs q => by rw [upd_ne (ne_of_none q nan)]; exact q
        · rcases hc with rfl | hc
          · exact hb
          · exact ne_of_none hc nan
        · rcases hc with rfl | hc
          · exact hbk
          · exact ne_of_none hc nkn
end
end HS
/-! HSb: sorted(xs, key=lambda x: (.., ..)) as a rule -/
namespace HS
open PySem PySem.Spec PyProof.Rows L2 LamX NdefX
open PySem.W (EachIs)
section
variable {X : Cx} {pins : List (Addr × Obj)} {σ : L2.St} {H : Hp} {s : Shared}
/-- a new list of the items, sorted by keys -/
theorem sort_fresh {A : Around} {f : Value} {kw : List (Str × Value)} {vs : List Value} {xs : List V} {k : KI} {Q : Value → Shared → Prop} {E : Value → Shared → Prop} (I : Inv X pins σ H s) (r : Vals xs vs) (hZ : vs.length ≤ sizeLine) (hu : A.units + 4 < cLine)
    (ht : ∀ x, Builtin.«list.sort» ⟨[.ref x], kw⟩ = ksk_tree x f false) (ha2 : ∀ x, argsOk "list.sort" ⟨[x], kw⟩) (turn : KeyTurn X A.in1 pins σ H f k xs)
    (q : ∀ H' p s', Same H H' → H' p = none → Inv X pins σ (upd H' p (.lst (xs.mergeSort (leK k)))) s' → Q (.ref p) s') :
    wpAny (model X.prog X.w) A (newList vs >>= fun l => holding [l] (call (.builtin "list.sort") [l] kw) >>= fun _ => ret l) (fun fin s' => ∃ v, fin = .done (.ret v) ∧ Q v s') E s := by
  refine wpAny_bind (wpAny_newList ?_ hZ)
  have hb : s.heap.objs.size < (s.heap.push (seqObj "list" vs.toArray 0)).objs.size := by rw [size_push']; exact Nat.lt_succ_self _
  have ho : (s.heap.push (seqObj "list" vs.toArray 0)).get? s.heap.objs.size = some (seqObj "list" vs.toArray 0) := Heap.get?_push_size _ rfl
  refine wpAny_bind (wpAny_holding (wpAny_call_entry_kw slot_list_sort ⟨_, ho, rfl⟩ entry_list_sort ?_ (ha2 _)))
  show wpAny _ A.in1 (Builtin.«list.sort» ⟨[.ref s.heap.objs.size], kw⟩) _ _ _
  rw [ht]
  unfold ksk_tree
  generalize ha : s.heap.objs.size = a at hb ho ⊢
  refine wpAny_bind (listItems_at ho rfl ?_)
  refine wpAny_bind (listUpdate_at ho rfl ?_ (by rw [List.size_toArray]; exact hZ) (Nat.zero_le _))
  have s1 := Heap.SameBut.update (s.heap.push (seqObj "list" vs.toArray 0)) a (Obj.mapSeq fun _ => (#[] : Array Value))
  obtain ⟨e1, ho1⟩ : ∃ e1, ((s.heap.push (seqObj "list" vs.toArray 0)).update a (Obj.mapSeq fun _ => (#[] : Array Value))).get? a = some (seqObj "list" #[] e1) := ⟨_, get?_update_seq ho fun _ => #[]⟩
  have hz1 : ((s.heap.push (seqObj "list" vs.toArray 0)).update a (Obj.mapSeq fun _ => (#[] : Array Value))).objs.size = a + 1 := by rw [Heap.size_update, size_push', ha]
  generalize hg : (s.heap.push (seqObj "list" vs.toArray 0)).update a (Obj.mapSeq fun _ => (#[] : Array Value)) = g at s1 ho1 hz1 ⊢
  refine wpAny_bind (seqEpoch_at ho1 rfl ?_)
  refine wpAny_bind (wpAny_newTuple ?_ (by simpa using hZ))
  refine wpAny_bind (wpAny_newList ?_ (Nat.zero_le _))
  refine wpAny_holding ?_
  have kg : ∀ b o, s.heap.get? b = some o → g.get? b = some o := fun b o e => (s1.2 b (Nat.ne_of_lt (ha ▸ Heap.lt_size e))).trans (Heap.get?_push_of_some _ e)
  have hz2 : (g.push (seqObj "tuple" vs.toArray 0)).objs.size = a + 2 := by rw [size_push', hz1]
  have kh : ∀ b o, g.get? b = some o → ((g.push (seqObj "tuple" vs.toArray 0)).push (seqObj "list" #[] 0)).get? b = some o := fun b o e => Heap.get?_push_of_some _ (Heap.get?_push_of_some _ e)
  have I1 : Inv X pins σ H { s with heap := (g.push (seqObj "tuple" vs.toArray 0)).push (seqObj "list" #[] 0) } := I.kept (t' := s.toks) fun b o e => kh b o (kg b o e)
  have hk : ((g.push (seqObj "tuple" vs.toArray 0)).push (seqObj "list" #[] 0)).get? (a + 2) = some (seqObj "list" #[] 0) := by rw [← hz2]; exact Heap.get?_push_size _ rfl
  have fresh : ∀ b, a ≤ b → H b = none ∧ b ≠ X.env.locals ∧ b ∉ X.fs ∧ X.s_0.heap.objs.size ≤ b ∧ ∀ p ∈ X.pn ++ pins, p.1 ≠ b := fun b hb => by
    have hb' : s.heap.objs.size ≤ b := ha ▸ hb
    refine ⟨I.hok.fresh hb', fun z => ?_, I.nofs hb', Nat.le_trans I.sz hb', fun p hp z => ?_⟩
    · have := I.lt
      rw [← z] at this
      exact absurd this (Nat.not_lt.mpr hb')
    · have := Heap.lt_size (I.pin p hp).1
      rw [z] at this
      exact absurd this (Nat.not_lt.mpr hb')
  have fa := fresh a (Nat.le_refl _)
  have fk := fresh (a + 2) (by omega)
  have I2 : Inv X ((a + 2, seqObj "list" #[] 0) :: (a, seqObj "list" #[] e1) :: pins) σ H { s with heap := (g.push (seqObj "tuple" vs.toArray 0)).push (seqObj "list" #[] 0) } := I1.pins_of fun p hp => by
    rcases List.mem_cons.mp hp with rfl | hp
    · exact ⟨hk, fk.1, fk.2.1, fk.2.2.1, fun v z => by cases z⟩
    rcases List.mem_cons.mp hp with rfl | hp
    · exact ⟨kh _ _ ho1, fa.1, fa.2.1, fa.2.2.1, fun v z => by cases z⟩
    · exact I1.pin p (List.mem_append_right _ hp)
  have e2 : (vs.toArray.toList.toArray) = vs.toArray := by simp
  rw [hz2]
  refine keyed_rest I2 (show a + 2 ≠ a by omega) fa.2.2.2.1 fk.2.2.2.1 fa.2.2.2.2 fk.2.2.2.2 r hZ (by show A.units + 1 + 1 < _; omega) turn fun H' s' sm hn I' => ⟨_, rfl, wpAny_pure ⟨_, rfl, q H' a s' sm hn I'⟩⟩
/-- sorted of a list -/
theorem sorted_key_list {f : Value} {kw : List (Str × Value)} {l : Addr} {xs : List V} {k : KI} {Q : Value → Shared → Prop} {E : Value → Shared → Prop} (I : Inv X pins σ H s) (hs : SqL X.K H l xs) (hu : X.A.units + 8 < cLine)
    (ht : ∀ x, Builtin.«list.sort» ⟨[.ref x], kw⟩ = ksk_tree x f false) (ha1 : ∀ x, argsOk "sorted" ⟨[x], kw⟩) (ha2 : ∀ x, argsOk "list.sort" ⟨[x], kw⟩) (turn : KeyTurn X X.A.in1.in1 pins σ H f k xs)
    (q : ∀ H' p s', Same H H' → H' p = none → Inv X pins σ (upd H' p (.lst (xs.mergeSort (leK k)))) s' → Q (.ref p) s') : wpAny (model X.prog X.w) X.A (call (.builtin "sorted") [.ref l] kw) Q E s := by
  obtain ⟨its, rv, hl, hz⟩ := I.list hs
  refine call_function_entry_kw kind_sorted plain_sorted entry_sorted (ha1 _) ?_
  unfold Builtin.«sorted»
  refine wpAny_bind (m := checkCount "sorted" 1 1 _) (wpAny_pure ?_)
  have hz' : its.length ≤ sizeLine := by rw [← rv.length]; exact hz
  refine wpAny_bind (collect_list hl.isList ?_ hz')
  have keep : ∀ b o, s.heap.get? b = some o → ((s.heap.push (seqObj "list" #[] 0)).update s.heap.objs.size (Obj.mapSeq (· ++ its.toArray))).get? b = some o := fun b o e =>
    ((Heap.SameBut.update _ _ _).2 b (Nat.ne_of_lt (Heap.lt_size e))).trans (Heap.get?_push_of_some _ e)
  exact sort_fresh (I.kept (t' := s.toks) keep) rv hz' (by show X.A.units + 1 + 4 < _; omega) ht ha2 turn q
/-- sorted of a range -/
theorem sorted_key_range {f : Value} {kw : List (Str × Value)} {r : Addr} {a b : Int} {t u v : Tok} {k : KI} {Q : Value → Shared → Prop} {E : Value → Shared → Prop} (I : Inv X pins σ H s) (hh : X.A.handled = none) (hr : IsRange s.heap r a b 1 t u v) (hok : RgOk a b) (hu : X.A.units + 8 < cLine)
    (ht : ∀ x, Builtin.«list.sort» ⟨[.ref x], kw⟩ = ksk_tree x f false) (ha1 : ∀ x, argsOk "sorted" ⟨[x], kw⟩) (ha2 : ∀ x, argsOk "list.sort" ⟨[x], kw⟩) (turn : KeyTurn X X.A.in1.in1 pins σ H f k (rgV a b))
    (q : ∀ H' p s', Same H H' → H' p = none → Inv X pins σ (upd H' p (.lst ((rgV a b).mergeSort (leK k)))) s' → Q (.ref p) s') : wpAny (model X.prog X.w) X.A (call (.builtin "sorted") [.ref r] kw) Q E s := by
  obtain ⟨b1, b2, b3, b4, b5⟩ := hok
  refine call_function_entry_kw kind_sorted plain_sorted entry_sorted (ha1 _) ?_
  unfold Builtin.«sorted»
  refine wpAny_bind (m := checkCount "sorted" 1 1 _) (wpAny_pure ?_)
  refine wpAny_bind (collect_range (n := (b - a).toNat) hh hr (small_one b1 b2 b3 b4) (rangeSize_nat a b) b5 fun h' tk acc hk hi => ?_)
  have rv := vals_rg hi
  exact sort_fresh (I.kept (t' := tk) hk) rv (by rw [← rv.length, rgV_length, sizeLine_eq]; omega) (by show X.A.units + 1 + 4 < _; omega) ht ha2 turn q
end
end HS
/-! HSc: the key is a lambda of one parameter -/
namespace HS
open PySem PySem.Spec PyProof.Rows L2 LamX NdefX
open PySem.W (EachIs)
abbrev NFl (q : Str) (params : Arguments) (scope : Scope) (cl : List (Str × Addr)) (c' : Addr) : NF := ⟨"<lambda>", q, params, [], scope, cl, c'⟩
theorem extN_seq {K : PySem.W.Frag} {H H' : Hp} {a : Addr} {xs : List V} (e : ExtN H H') (h : SqL K H a xs) : SqL K H' a xs := by
  rcases h with (h | ⟨o, h⟩) | h
  · exact .inl (.inl (e _ _ h fun ps z => by cases z))
  · exact .inl (.inr ⟨o, e _ _ h fun ps z => by cases z⟩)
  · exact .inr h
section
variable {X : Cx} {pins : List (Addr × Obj)} {σ : L2.St} {H : Hp} {s : Shared}
/-- a function object is pinned -/
theorem pin_fn {f : Addr} {o : Obj} {fd : FuncData} (I : Inv X pins σ H s) (hf : s.heap.get? f = some o) (hd : o.data = .func fd) (hn : H f = none) (hfr : f ∉ frs X.stack) : Inv X ((f, o) :: pins) σ H s := I.pins_of fun p hp => by
  rcases List.mem_cons.mp hp with rfl | hp
  · refine ⟨hf, hn, fun z => ?_, fun z => ?_, fun v z => by rw [hd] at z; cases z⟩
    · obtain ⟨m, ⟨o', es, ep, ho, hd', _⟩, _⟩ := I.loc
      rw [← z, hf] at ho
      cases ho
      rw [hd] at hd'
      cases hd'
    · rcases I.ok.stk with e | ⟨e, hL⟩
      · exact hfr (by rw [e]; exact z)
      · refine hfr ?_
        rw [e]
        unfold frs
        rw [List.filterMap_cons, hL]
        exact List.mem_cons_of_mem _ z
  · exact I.pin p (List.mem_append_right _ hp)
theorem lam_turn {f c' : Addr} {params : Arguments} {body : Expr} {scope : Scope} {q : Str} {pm ctv : Value} {x : Str} {N fr : List Str} {js : List Nat} {k : KI} {xs : List V} {tb : TE} {j : Nat} {cl : List (Str × Addr)} {A : Around}
    (S : NScope N [x] fr scope) (cp : Caps X cl fr js) (hA : Room (j + 1) A) (hAf : A.frames = some X.stack)
    (hbind : ∀ (pm cv ctv v : Value), bindArgs (PySem.W.kla_fn "<lambda>" q params body scope cl pm cv ctv) ⟨[v], []⟩ = pure [(x, v)])
    (hbody : ∀ (A : Around) (outer : List Env) (s : Shared) (H : Hp), Room j (A.deeper (envF (NFl q params scope cl c') f s.heap.objs.size)) → PE (ncx CX0 X.prog X.w X.K X.mg X.base N (NFl q params scope cl c') f A outer s H E0) body tb)
    (hc : H c' = some (CodeO c' q))
    (ht : ∀ x ∈ xs, ∀ H3 Q', Same H H3 → (∀ t H4, Same H3 H4 → H4 t = some (.tup [.int (k x).1, .int (k x).2]) → Q' (.ref t) H4) → tb (startF N [x] (js.map (slotAt σ))) H3 Q') :
    KeyTurn X A ((f, PySem.W.kla_obj "<lambda>" q params body scope cl pm c' ctv) :: pins) σ H (.ref f) k xs := by
  intro y v pins' H' s' hy rv sm hp I'
  obtain ⟨hf, hfn, hfL, hfs, _⟩ := I'.pin (f, PySem.W.kla_obj "<lambda>" q params body scope cl pm c' ctv) (List.mem_append_right _ (hp _ List.mem_cons_self))
  obtain ⟨⟨oc, vs, t, hoc, hdc, hvc⟩, _, _⟩ := I'.hok c' _ (sm _ _ hc)
  have e0 : Env0 X.prog X.w X.K X.mg X.base A X.stack s' H' := by
    have := I'.env0
    exact ⟨hAf, this.mod, this.bs, this.bsz, this.funs, this.frf, this.hok, this.bare⟩
  have C : CellsAt cl fr (js.map (slotAt σ)) s'.heap H' := cells_of I' cp
  let Q' : VK := fun u H2 => ∃ t, u = .ref t ∧ Same H' H2 ∧ H2 t = some (.tup [.int (k y).1, .int (k y).2])
  have rc : codeAny (model X.prog X.w) A (.call (.ref f) ⟨[v], []⟩) (CR CX0 X.stack X.prog X.w H' s' Q' E0) s' := by
    refine PySem.W.kla_callFunE hA.depth hf rfl S.co S.gen rfl ⟨c', oc, vs, t, rfl, hoc, hdc, hvc⟩ ?_
    rw [hbind]
    refine wpAny_pure (wpAny_newFunctionEnv S.nocell (fun z hz => ?_) (fun h₁ hns hsb => ⟨I'.nolimit.fresh _ hsb, ?_⟩) S.kind)
    · obtain rfl : z = (x, v) := by simpa using hz
      exact S.par x (by simp)
    show codeAny _ _ (.expr body (envF (NFl q params scope cl c') f s'.heap.objs.size)) _ _
    have kp : ∀ b o, s'.heap.get? b = some o → h₁.get? b = some o := fun b o e => hsb.extBut b o (Nat.ne_of_lt (Heap.lt_size e)) (Heap.get?_push_of_some _ e)
    have J : Inv (ncx CX0 X.prog X.w X.K X.mg X.base N (NFl q params scope cl c') f A X.stack s' H' E0) [] (startF N [y] (js.map (slotAt σ))) H' { s' with heap := h₁, toks := s'.toks + [(x, v)].length } :=
      inv_startN (F := NFl q params scope cl c') (us := [v]) S hA.hd e0 rfl (.cons rv .nil) C hns kp
    refine PySem.W.kla_codeExpr (wpAny_mono ((hbody A X.stack s' H' (hA.deeper _)).run [] _ _ H' Q' J (ht y hy H' Q' sm fun t H4 sm4 e4 => ⟨t, rfl, sm4, e4⟩)) (fun u s2 hq => ?_) fun e s2 hq => hq)
    obtain ⟨w', H2, J2, rw2, q2⟩ := hq
    exact ⟨w', H2, J2.os, J2.bare, J2.base, J2.hok, rw2, q2⟩
  refine wpAny_call (codeAny_mono rc fun r s2 hq => ?_)
  cases r with
  | error e => exact (show False from hq).elim
  | ok fl =>
    cases fl with
    | ret u =>
      obtain ⟨w', H2, I2, r2, t, rfl, sm2, e2⟩ := I'.after hq
      exact ⟨H2, t, I2, sm2, r2, e2⟩
    | next => exact False.elim hq
    | brk => exact False.elim hq
    | cont => exact False.elim hq
/-- the reading of sorted(e, key=lambda ..): the items' keys are pairs of ints -/
def tSortL (K : PySem.W.Frag) (T : List (Addr × Str)) (N : List Str) (js : List Nat) (te tb : TE) : TE := fun σ H Q => te σ H fun v H1 => ∃ (a : Addr) (xs : List V) (k : KI), v = .ref a ∧ SqL K H1 a xs ∧ Tabs T H1 ∧
  ∀ H2, ExtN H1 H2 → Tabs T H2 → (∀ x ∈ xs, ∀ H3 Q', Same H2 H3 → (∀ t H4, Same H3 H4 → H4 t = some (.tup [.int (k x).1, .int (k x).2]) → Q' (.ref t) H4) → tb (startF N [x] (js.map (slotAt σ))) H3 Q') ∧
    ∀ H3 p, Same H2 H3 → H3 p = none → Q (.ref p) (upd H3 p (.lst (xs.mergeSort (leK k))))
/-- .. of sorted(range(..), key=lambda ..) -/
def tSortR (T : List (Addr × Str)) (N : List Str) (js : List Nat) (te : L2.St → Hp → (Int → Int → Hp → Prop) → Prop) (tb : TE) : TE := fun σ H Q => te σ H fun a b H1 => ∃ (k : KI), RgOk a b ∧ Tabs T H1 ∧
  ∀ H2, ExtN H1 H2 → Tabs T H2 → (∀ x ∈ rgV a b, ∀ H3 Q', Same H2 H3 → (∀ t H4, Same H3 H4 → H4 t = some (.tup [.int (k x).1, .int (k x).2]) → Q' (.ref t) H4) → tb (startF N [x] (js.map (slotAt σ))) H3 Q') ∧
    ∀ H3 p, Same H2 H3 → H3 p = none → Q (.ref p) (upd H3 p (.lst ((rgV a b).mergeSort (leK k))))
section
variable {e : Expr} {te tb : TE} {T : List (Addr × Str)} {c P : Addr} {params : Arguments} {body : Expr} {scope : Scope} {lpos kpos p pos : Pos} {x : Str} {N fr : List Str} {js : List Nat} {j : Nat}
/-- the lambda is made and is pinned -/
theorem lam_pinned {E : Value → Shared → Prop} {Q : Value → Shared → Prop} (I : Inv X pins σ H s) (TB : TabB X.base X.mg c P) (hcode : X.env.code = .ref c) (hm : (P, X.env.qual ++ "<lambda>") ∈ T) (hu : ∀ p ∈ T, p.1 = P → p.2 = X.env.qual ++ "<lambda>") (hT : Tabs T H)
    (hdef : defaultsOf params X.env = ([], [])) (hfree : ∀ y ∈ scope.names, y.2 = .free → X.env.scope.names.lookup y.1 = some .cell ∨ X.env.scope.names.lookup y.1 = some .free)
    (h : ∀ (f c' : Addr) (pm ctv : Value) (H1 : Hp) (s' : Shared), Inv X ((f, PySem.W.kla_obj "<lambda>" (X.env.qual ++ "<lambda>") params body scope (cloFrom X.env.cells scope.names []) pm c' ctv) :: pins) σ H1 s' → ExtN H H1 → Tabs T H1 → H1 c' = some (CodeO c' (X.env.qual ++ "<lambda>")) → Q (.ref f) s') :
    wpAny (model X.prog X.w) X.A (eval (.Lambda params body scope lpos) X.env) Q E s := by
  refine lam_make2 I TB hcode hm hu hT hdef (fun y hy e => (hfree y hy e).elim (fun z => I.ok.has _ (.inl z)) fun z => I.ok.has _ (.inr z)) fun f c' pm ctv H1 s' I1 eN T1 hf hfn hfr hco => ?_
  exact h f c' pm ctv H1 s' (pin_fn I1 hf rfl hfn hfr) eN T1 hco
theorem inv_drop {p : Addr × Obj} (I : Inv X (p :: pins) σ H s) : Inv X pins σ H s := I.pins_of fun q hq => I.pin q (List.mem_append_right _ (List.mem_cons_of_mem _ hq))
/-- sorted(e, key=lambda x: body) -/
theorem pe_sortedL (hg : Gl X "sorted") (hmg : X.mg "sorted" = none) (he : PE X e te) (TB : TabB X.base X.mg c P) (hcode : X.env.code = .ref c) (hm : (P, X.env.qual ++ "<lambda>") ∈ T) (hu : ∀ p ∈ T, p.1 = P → p.2 = X.env.qual ++ "<lambda>")
    (hdef : defaultsOf params X.env = ([], [])) (hfree : ∀ y ∈ scope.names, y.2 = .free → X.env.scope.names.lookup y.1 = some .cell ∨ X.env.scope.names.lookup y.1 = some .free)
    (S : NScope N [x] fr scope) (hfr : ∀ y ∈ fr, (y, NameKind.free) ∈ scope.names) (hjs : js.map (fun j => X.N[j]?) = fr.map some) (hr : Room (j + 3) X.A)
    (hbind : ∀ (cl : List (Str × Addr)) (pm cv ctv v : Value), bindArgs (PySem.W.kla_fn "<lambda>" (X.env.qual ++ "<lambda>") params body scope cl pm cv ctv) ⟨[v], []⟩ = pure [(x, v)])
    (hbody : ∀ (A : Around) (outer : List Env) (s : Shared) (H : Hp) (f c' : Addr), Room j (A.deeper (envF (NFl (X.env.qual ++ "<lambda>") params scope (cloFrom X.env.cells scope.names []) c') f s.heap.objs.size)) →
      PE (ncx CX0 X.prog X.w X.K X.mg X.base N (NFl (X.env.qual ++ "<lambda>") params scope (cloFrom X.env.cells scope.names []) c') f A outer s H E0) body tb)
    (na : starEach [e] X.env = (false, eval e X.env) :: starEach [] X.env := by rfl) (ha : backTo pos (starEach [e] X.env) = (false, eval e X.env) :: backTo pos (starEach [] X.env) := by rfl) (hpl : (backTo pos (starEach [e] X.env)).any (·.1) = false := by rfl) :
    PE X (.Call (.Name "sorted" p) [e] [⟨some "key", .Lambda params body scope lpos, kpos⟩] pos) (tSortL X.K T N js te tb) := by
  refine ⟨fun pins s σ H Q I h => ?_⟩
  refine wpAny_Call_Name_kw (ld_blt I hg hmg (u := .builtin "sorted") (by decide +kernel) ?_)
  refine PyProof.Rows.callWith_kw (args_cons (thn (he.run pins s σ H _ I h) fun u s1 ⟨v, H1, I1, r1, q1⟩ => args_nil ?_) na) ha hpl (by rfl) (by rfl)
  obtain ⟨a, xs, k, rfl, hs, hT, q⟩ := q1
  obtain rfl : u = Value.ref a := r1
  refine wpAny_evalAll_cons (wpAny_bind (lam_pinned I1 TB hcode hm hu hT hdef hfree fun f c' pm ctv H2 s2 I2 eN T2 hco => wpAny_bind (wpAny_standAt (wpAny_pure ?_))))
  refine wpAny_evalAll_nil ?_
  obtain ⟨q1, q2⟩ := q H2 eN T2
  refine sorted_key_list I2 (extN_seq eN hs) (by have := hr.un; omega) (fun x => ksk_t1 f x) (fun x => ksk_s1 _ _) (fun x => ksk_l1 _ _)
    (lam_turn S (Caps.made I2.ok hfree hfr hjs) (hr.mono (by omega) : Room (j + 1 + 1 + 1) X.A).in1.in1 I2.ok.frames (hbind _) (fun A outer s H hA => hbody A outer s H f c' hA) hco q1) fun H3 p s3 sm hn I3 => ?_
  exact ⟨.ref p, _, inv_drop I3, rfl, q2 H3 p sm hn⟩
/-- an expression that makes a range of its own -/
def PRN (X : Cx) (e : Expr) (t : L2.St → Hp → (Int → Int → Hp → Prop) → Prop) : Prop :=
  ∀ (pins : List (Addr × Obj)) (s : Shared) (σ : L2.St) (H : Hp) (Q : Int → Int → Hp → Prop), Inv X pins σ H s → t σ H Q →
    wpAny (model X.prog X.w) X.A (eval e X.env) (fun x s' => ∃ r a b t u v H' o, x = .ref r ∧ IsRange s'.heap r a b 1 t u v ∧ (∀ h : Heap, h.get? r = some o → IsRange h r a b 1 t u v) ∧ Inv X ((r, o) :: pins) σ H' s' ∧ Q a b H') X.xe s
theorem prn_1 {a : Expr} {ta : TE} {p pos : Pos} (hg : Gl X "range") (hm : X.mg "range" = none) (ha : PE X a ta) (na : starEach [a] X.env = (false, eval a X.env) :: starEach [] X.env := by rfl) : PRN X (.Call (.Name "range" p) [a] [] pos) (tRg1 ta) := by
  intro pins s σ H Q I h
  refine Call_ (ld_blt I hg hm boot_range (PyProof.Rows.callWith_type1 (one_arg ha I h (fun v s2 x H2 I2 r q => ?_) na) na))
  obtain ⟨n, rfl, q⟩ := q
  obtain ⟨t, rfl⟩ := r
  have I3 : Inv X pins σ H2 { s2 with heap := s2.heap.push { cls := .type "range", data := .fields #[.int 0 s2.toks, .int n t, .int 1 (s2.toks + 1)] }, toks := s2.toks + 1 + 1 } := I2.kept fun b u e => Heap.get?_push_of_some _ e
  refine call_range_1 ⟨_, 0, n, _, _, _, H2, { cls := .type "range", data := .fields #[.int 0 s2.toks, .int n t, .int 1 (s2.toks + 1)] }, rfl, IsRange.new _ _ _ _ _ _ _, fun h e => e, I3.pins_of fun p hp => ?_, q⟩
  rcases List.mem_cons.mp hp with rfl | hp
  · refine ⟨Heap.get?_push_size _ rfl, I2.hok.fresh (Nat.le_refl _), fun z => ?_, I2.nofs (Nat.le_refl _), fun v z => by cases z⟩
    have := I2.lt
    rw [← z] at this
    exact Nat.lt_irrefl _ this
  · exact I3.pin p (List.mem_append_right _ hp)
/-- sorted(range(..), key=lambda x: body) -/
theorem pe_sortedR {tr : L2.St → Hp → (Int → Int → Hp → Prop) → Prop} (hcalm : X.calm = true) (hg : Gl X "sorted") (hmg : X.mg "sorted" = none) (he : PRN X e tr) (TB : TabB X.base X.mg c P) (hcode : X.env.code = .ref c) (hm : (P, X.env.qual ++ "<lambda>") ∈ T) (hu : ∀ p ∈ T, p.1 = P → p.2 = X.env.qual ++ "<lambda>")
    (hdef : defaultsOf params X.env = ([], [])) (hfree : ∀ y ∈ scope.names, y.2 = .free → X.env.scope.names.lookup y.1 = some .cell ∨ X.env.scope.names.lookup y.1 = some .free)
    (S : NScope N [x] fr scope) (hfr : ∀ y ∈ fr, (y, NameKind.free) ∈ scope.names) (hjs : js.map (fun j => X.N[j]?) = fr.map some) (hr : Room (j + 3) X.A)
    (hbind : ∀ (cl : List (Str × Addr)) (pm cv ctv v : Value), bindArgs (PySem.W.kla_fn "<lambda>" (X.env.qual ++ "<lambda>") params body scope cl pm cv ctv) ⟨[v], []⟩ = pure [(x, v)])
    (hbody : ∀ (A : Around) (outer : List Env) (s : Shared) (H : Hp) (f c' : Addr), Room j (A.deeper (envF (NFl (X.env.qual ++ "<lambda>") params scope (cloFrom X.env.cells scope.names []) c') f s.heap.objs.size)) →
      PE (ncx CX0 X.prog X.w X.K X.mg X.base N (NFl (X.env.qual ++ "<lambda>") params scope (cloFrom X.env.cells scope.names []) c') f A outer s H E0) body tb)
    (na : starEach [e] X.env = (false, eval e X.env) :: starEach [] X.env := by rfl) (ha : backTo pos (starEach [e] X.env) = (false, eval e X.env) :: backTo pos (starEach [] X.env) := by rfl) (hpl : (backTo pos (starEach [e] X.env)).any (·.1) = false := by rfl) :
    PE X (.Call (.Name "sorted" p) [e] [⟨some "key", .Lambda params body scope lpos, kpos⟩] pos) (tSortR T N js tr tb) := by
  refine ⟨fun pins s σ H Q I h => ?_⟩
  refine wpAny_Call_Name_kw (ld_blt I hg hmg (u := .builtin "sorted") (by decide +kernel) ?_)
  refine PyProof.Rows.callWith_kw (args_cons (thn (he pins s σ H _ I h) fun u s1 ⟨r, a, b, t, u', v', H1, o, ex, hr', hro, I1, q⟩ => args_nil ?_) na) ha hpl (by rfl) (by rfl)
  subst ex
  obtain ⟨k, ok, hT, q⟩ := q
  refine wpAny_evalAll_cons (wpAny_bind (lam_pinned I1 TB hcode hm hu hT hdef hfree fun f c' pm ctv H2 s2 I2 eN T2 hco => wpAny_bind (wpAny_standAt (wpAny_pure ?_))))
  refine wpAny_evalAll_nil ?_
  obtain ⟨q1, q2⟩ := q H2 eN T2
  have hr2 : IsRange s2.heap r a b 1 t u' v' := hro _ (I2.pin (r, o) (by simp)).1
  refine sorted_key_range I2 (I2.ok.hd hcalm) hr2 ok (by have := hr.un; omega) (fun x => ksk_t1 f x) (fun x => ksk_s1 _ _) (fun x => ksk_l1 _ _)
    (lam_turn S (Caps.made I2.ok hfree hfr hjs) (hr.mono (by omega) : Room (j + 1 + 1 + 1) X.A).in1.in1 I2.ok.frames (hbind _) (fun A outer s H hA => hbody A outer s H f c' hA) hco q1) fun H3 p s3 sm hn I3 => ?_
  exact ⟨.ref p, _, inv_drop (inv_drop I3), rfl, q2 H3 p sm hn⟩
end
end
end HS
set_option maxHeartbeats 400000
/-! HSe: sum, min, max of a tuple of ints; zip(tuple, list) -/
namespace HS
open PySem PySem.Spec PyProof.Rows L2 LamX NdefX
section
variable {X : Cx}
def rSumT (K : PySem.W.Frag) : List V → Hp → VK → Prop := fun vs H Q => ∃ (a : Addr) (ns : List Int), vs = [V.ref a] ∧ SqT K H a (ns.map V.int) ∧ Q (.int ns.sum) H
def rBestT (K : PySem.W.Frag) (G : Int → Int → Prop) : List V → Hp → VK → Prop := fun vs H Q => ∃ (a : Addr) (ns : List Int), vs = [V.ref a] ∧ SqT K H a (ns.map V.int) ∧ 0 < ns.length ∧ ∀ m, m ∈ ns → (∀ y, y ∈ ns → G m y) → Q (.int m) H
theorem cr_sumT (hc : X.calm = true) : CallR X (.builtin "sum") (rSumT X.K) := by
  intro pins s σ H vs us Q I r h
  obtain ⟨a, ns, rfl, hs, q⟩ := h
  obtain ⟨its, rv, hl, _⟩ := I.tuple hs
  rw [Vals.ref1 r]
  have hi := rv.ints
  have hl' : s.heap.IsTuple a its.toArray := hl
  obtain ⟨xs, e⟩ := hi.allInts.items
  have hn : numsOf (intItems xs).toList = ns := by rw [← e]; exact hi.numsOf
  rw [nums_intItems] at hn
  rw [e] at hl'
  refine PySem.W.ktm_sumG (I.ok.hd hc) hl' fun h' tk t' hk => ⟨.int ns.sum, H, I.kept hk, ⟨t', ?_⟩, q⟩
  rw [preSum_eq, List.take_of_length_le (by simp), hn]
theorem holdAll_ints {h : Heap} : ∀ {its : List Value} {ns : List Int}, Vals (ns.map V.int) its → PySem.W.HoldAll h its ns
  | [], [], _ => ⟨[], .nil⟩
  | [], _ :: _, r => nomatch r
  | _ :: _, [], r => nomatch r
  | v :: its, n :: ns, .cons ⟨t, e⟩ r => by
    obtain ⟨as, ra⟩ := holdAll_ints (h := h) r
    subst e
    exact ⟨[] ++ as, .cons (.int _ _) ra⟩
theorem fold_best (lt : Int → Int → Bool) (G : Int → Int → Prop) (g1 : ∀ a, G a a) (g2 : ∀ a b c, G a b → G b c → G a c) (g3 : ∀ a b, lt a b = true → G b a) (g4 : ∀ a b, lt a b ≠ true → G a b) :
    ∀ (xs : List Int) (x : Int), xs.foldl (fun a y => if lt a y = true then y else a) x ∈ x :: xs ∧ ∀ y ∈ x :: xs, G (xs.foldl (fun a y => if lt a y = true then y else a) x) y
  | [], x => by
    refine ⟨by simp, fun y hy => ?_⟩
    obtain rfl : y = x := by simpa using hy
    exact g1 _
  | z :: xs, x => by
    rw [List.foldl_cons]
    by_cases h : lt x z = true
    · rw [if_pos h]
      obtain ⟨a, b⟩ := fold_best lt G g1 g2 g3 g4 xs z
      refine ⟨List.mem_cons_of_mem _ a, fun y hy => ?_⟩
      rcases List.mem_cons.mp hy with rfl | hy
      · exact g2 _ _ _ (b z List.mem_cons_self) (g3 _ _ h)
      · exact b y hy
    · rw [if_neg h]
      obtain ⟨a, b⟩ := fold_best lt G g1 g2 g3 g4 xs x
      refine ⟨?_, fun y hy => ?_⟩
      · rcases List.mem_cons.mp a with a | a
        · rw [a]; exact List.mem_cons_self
        · exact List.mem_cons_of_mem _ (List.mem_cons_of_mem _ a)
      · rcases List.mem_cons.mp hy with rfl | hy
        · exact b y List.mem_cons_self
        · rcases List.mem_cons.mp hy with rfl | hy
          · exact g2 _ _ _ (b x List.mem_cons_self) (g4 _ _ h)
          · exact b y (List.mem_cons_of_mem _ hy)
theorem val_int {h : Heap} {v : Value} {m : Int} : PySem.W.Holds h v m → RelV (.int m) v := fun ⟨as, r⟩ => by
  cases r
  exact ⟨_, rfl⟩
theorem cr_minT (hc : X.calm = true) (hu : X.A.units + 1 < cLine) : CallR X (.builtin "min") (rBestT X.K (· ≤ ·)) := by
  intro pins s σ H vs us Q I r h
  obtain ⟨a, ns, rfl, hs, hne, q⟩ := h
  obtain ⟨its, rv, hl, _⟩ := I.tuple hs
  rw [Vals.ref1 r]
  cases ns with
  | nil => exact absurd hne (Nat.lt_irrefl _)
  | cons x xs =>
    refine PySem.W.min_tuple_datum (α := Int) (I.ok.hd hc) (show s.heap.IsTuple a its.toArray from hl) (holdAll_ints rv) hu fun i v h' tk hi hH hk => ⟨.int (PySem.W.minOf x xs), H, I.kept hk, val_int hH, ?_⟩
    obtain ⟨m1, m2⟩ := fold_best (fun a y => PySem.W.DatumOrd.lt y a) (· ≤ ·) (fun a => Int.le_refl a) (fun a b c => Int.le_trans) (fun a b h => by have h' : decide (b < a) = true := h; exact Int.le_of_lt (of_decide_eq_true h')) (fun a b h => by have h' : ¬ (decide (b < a) = true) := h; simp only [decide_eq_true_eq] at h'; omega) xs x
    exact q _ m1 m2
theorem cr_maxT (hc : X.calm = true) (hu : X.A.units + 1 < cLine) : CallR X (.builtin "max") (rBestT X.K (· ≥ ·)) := by
  intro pins s σ H vs us Q I r h
  obtain ⟨a, ns, rfl, hs, hne, q⟩ := h
  obtain ⟨its, rv, hl, _⟩ := I.tuple hs
  rw [Vals.ref1 r]
  cases ns with
  | nil => exact absurd hne (Nat.lt_irrefl _)
  | cons x xs =>
    refine PySem.W.max_tuple_datum (α := Int) (I.ok.hd hc) (show s.heap.IsTuple a its.toArray from hl) (holdAll_ints rv) hu fun i v h' tk hi hH hk => ⟨.int (PySem.W.maxOf x xs), H, I.kept hk, val_int hH, ?_⟩
    obtain ⟨m1, m2⟩ := fold_best (fun a y => PySem.W.DatumOrd.lt a y) (· ≥ ·) (fun a => Int.le_refl a) (fun a b c h1 h2 => Int.le_trans h2 h1) (fun a b h => by have h' : decide (a < b) = true := h; exact Int.le_of_lt (of_decide_eq_true h')) (fun a b h => by have h' : ¬ (decide (a < b) = true) := h; simp only [decide_eq_true_eq] at h'; show b ≤ a; omega) xs x
    exact q _ m1 m2
end
/-- zip of the tuple at a and the list at b -/
def ItzTL (K : PySem.W.Frag) (a b : Addr) : It :=
  ⟨fun i H => ∃ (xs ys : List V), SqT K H a xs ∧ SqL K H b ys ∧ i < xs.length ∧ i < ys.length,
    fun i H v H' => ∃ T x y, v = .ref T ∧ H T = none ∧ H' = upd H T (.tup [x, y]) ∧ (∀ xs, SqT K H a xs → xs[i]? = some x) ∧ ∀ ys, SqL K H b ys → ys[i]? = some y,
    fun i H => ∃ xs ys : List V, SqT K H a xs ∧ SqL K H b ys ∧ i = min xs.length ys.length⟩
theorem turn_zipTL {P : Program} {w : World} {K : PySem.W.Frag} {elts : List Expr} {kk : Nat} {tpos : Pos} {a b N : Addr} (ha : a < N) (hb : b < N) :
    Turn P w K (.Tuple elts kk tpos) (ItzTL K a b) [N + 4, N + 2, N + 3, N, N + 1] (N + 4)
      (fun i h => IsZip h (N + 4) (N + 2) (N + 3) .none ∧ IsTupOf2 h (N + 2) (.ref N) (.ref (N + 1)) ∧ (∃ x y, IsTupOf2 h (N + 3) x y) ∧ h.IsTupleIter N a i ∧ h.IsListIter (N + 1) b i) where
  mem := by simp
  obj := fun i h st c hc => by
    obtain ⟨hz, hTI, ⟨x, y, hTO⟩, ⟨o1, e1, _, d1⟩, ⟨o2, e2, _, d2⟩⟩ := st
    have e' : c = N + 4 ∨ c = N + 2 ∨ c = N + 3 ∨ c = N ∨ c = N + 1 := by simpa using hc
    rcases e' with q | q | q | q | q
    · rw [q]; exact ⟨_, hz, fun v q => nomatch q⟩
    · rw [q]; exact ⟨_, hTI, fun v q => nomatch q⟩
    · rw [q]; exact ⟨_, hTO, fun v q => nomatch q⟩
    · rw [q]; exact ⟨o1, e1, fun v q => by rw [d1] at q; cases q⟩
    · rw [q]; exact ⟨o2, e2, fun v q => by rw [d2] at q; cases q⟩
  keep := fun i h h' st k => by
    obtain ⟨hz, hTI, ⟨x, y, hTO⟩, h1, h2⟩ := st
    exact ⟨k _ (by simp) _ hz, k _ (by simp) _ hTI, ⟨x, y, k _ (by simp) _ hTO⟩, h1.at fun o q => k _ (by simp) o q, h2.at fun o q => k _ (by simp) o q⟩
  item := by
    intro X hP hw hK hc i pins s σ H E I hf st hg
    subst hP hw hK
    obtain ⟨xs, ys, hqx, hqy, hx, hy⟩ := hg
    obtain ⟨its, rv, p, _⟩ := I.tuple hqx
    obtain ⟨its2, rv2, p2, _⟩ := I.list hqy
    obtain ⟨hz, hTI, hTO, h1, h2⟩ := st
    have hh : X.A.in1.handled = none := I.ok.hd hc
    have l1 := rv.length
    have l2 := rv2.length
    have G := GoesN.zip2 (prog := X.prog) (w := X.w) (A := X.A) (elts := elts) (x1 := kk) (pos := tpos) (zip_sep2 (N := N) (fp1 := [a]) (fp2 := [b]) (fun c hc => (show c = a by simpa using hc) ▸ ha) (fun c hc => (show c = b by simpa using hc) ▸ hb))
      (Draws.tuple hh N a (Nat.ne_of_lt ha) its.toArray) (Draws.list hh (N + 1) b (Nat.ne_of_lt (Nat.lt_succ_of_lt hb)) its2.toArray)
    have hN5 : ∀ c, c ∈ [N + 4, N + 2, N + 3, N, N + 1] → c < s.heap.objs.size := fun c hcm => by
      have e' : c = N + 4 ∨ c = N + 2 ∨ c = N + 3 ∨ c = N ∨ c = N + 1 := by simpa using hcm
      obtain ⟨_, _, hTO⟩ := hTO
      obtain ⟨_, e1, _⟩ := h1
      obtain ⟨_, e2, _⟩ := h2
      rcases e' with q | q | q | q | q
      · rw [q]; exact Heap.lt_size hz
      · rw [q]; exact Heap.lt_size hTI
      · rw [q]; exact Heap.lt_size hTO
      · rw [q]; exact Heap.lt_size e1
      · rw [q]; exact Heap.lt_size e2
    refine G.goes i s _ E (by simp only [List.size_toArray]; omega) ⟨hz, hTI, hTO, ⟨h1, p⟩, ⟨h2, p2.isList⟩⟩ fun v h' tk hY st' hk htk => ?_
    obtain ⟨T, u, u2, rfl, hT, hu, hu2, hTt⟩ := hY
    obtain ⟨o, ho, hoc, n, hod⟩ := hTt
    have hu' : its[i]? = some u := by simpa using hu
    have hu2' : its2[i]? = some u2 := by simpa using hu2
    have hxg : xs[i]? = some xs[i] := List.getElem?_eq_getElem hx
    have hyg : ys[i]? = some ys[i] := List.getElem?_eq_getElem hy
    obtain ⟨v1, e1, r1⟩ := rv.get hxg
    rw [hu'] at e1
    cases e1
    obtain ⟨v2, e2, r2⟩ := rv2.get hyg
    rw [hu2'] at e2
    cases e2
    have new : ObjOk X.prog X.w (upd H T (.tup [xs[i], ys[i]])) h' T (.tup [xs[i], ys[i]]) :=
      ⟨by show 2 ≤ sizeLine; decide, [u, u2], .cons r1 (.cons r2 .nil), ⟨o, ho, hoc, n, hod⟩⟩
    have I1 : Inv X pins σ (upd H T (.tup [xs[i], ys[i]])) { s with heap := h', toks := tk } :=
      I.turnedNew (ch := [N + 4, N + 2, N + 3, N, N + 1]) (fun c o hb q => hk c o (fun z => hb (by
        have z' : c = N + 4 ∨ c = N + 3 ∨ c = N ∨ c = N + 1 := by simpa using z
        rcases z' with z | z | z | z <;> simp [z])) q) hf hT new
    refine ⟨.ref T, _, I1, rfl, ⟨T, _, _, rfl, I.hok.fresh hT, rfl, fun l hl => by rw [I.tuple_inj hl hqx]; exact hxg, fun l hl => by rw [I.list_inj hl hqy]; exact hyg⟩, ?_, fun c hcm => ?_⟩
    · obtain ⟨s1, s2, s3, s4, s5⟩ := st'
      exact ⟨s1, s2, s3, s4.1, s5.1⟩
    · rw [upd_ne (Nat.ne_of_lt (Nat.lt_of_lt_of_le (hN5 c hcm) hT))]
      exact (hf c hcm).1
  done := by
    intro X hP hw hK hc i pins s σ H E I hf st hg
    subst hP hw hK
    obtain ⟨xs, ys, hqx, hqy, hend⟩ := hg
    obtain ⟨its, rv, p, _⟩ := I.tuple hqx
    obtain ⟨its2, rv2, p2, _⟩ := I.list hqy
    obtain ⟨hz, hTI, hTO, h1, h2⟩ := st
    have hh : X.A.in1.handled = none := I.ok.hd hc
    have l1 := rv.length
    have l2 := rv2.length
    have G := GoesN.zip2 (prog := X.prog) (w := X.w) (A := X.A) (elts := elts) (x1 := kk) (pos := tpos) (zip_sep2 (N := N) (fp1 := [a]) (fp2 := [b]) (fun c hc => (show c = a by simpa using hc) ▸ ha) (fun c hc => (show c = b by simpa using hc) ▸ hb))
      (Draws.tuple hh N a (Nat.ne_of_lt ha) its.toArray) (Draws.list hh (N + 1) b (Nat.ne_of_lt (Nat.lt_succ_of_lt hb)) its2.toArray)
    have hi : i = min its.toArray.size its2.toArray.size := by simp only [List.size_toArray]; omega
    subst hi
    refine G.stops s (fun s1 => Inv X pins σ H s1) E ⟨hz, hTI, hTO, ⟨h1, p⟩, ⟨h2, p2.isList⟩⟩ ?_
    intro h' tk hk htk
    exact I.turnedL (ch := [N + 4, N + 2, N + 3, N, N + 1]) (fun c o hb q => hk c o (fun z => hb (by
        have z' : c = N + 4 ∨ c = N + 3 ∨ c = N ∨ c = N + 1 := by simpa using z
        rcases z' with z | z | z | z <;> simp [z])) q) hf
  self := fun A i s Q E st h => wpAny_pyIter_zip st.1 h
def iZipTL (K : PySem.W.Frag) (ta : TA) : TI := fun σ H R => ta σ H fun vs H1 => ∃ a b xs ys, vs = [.ref a, .ref b] ∧ SqT K H1 a xs ∧ SqL K H1 b ys ∧ R (ItzTL K a b) H1
theorem zipTL_in {X : Cx} {elts : List Expr} {kk : Nat} {tpos : Pos} {pins : List (Addr × Obj)} {s1 : Shared} {σ : L2.St} {H1 : Hp} {R : It → Hp → Prop} {a b : Addr} {xs ys : List V} (I1 : Inv X pins σ H1 s1) (hqx : SqT X.K H1 a xs) (hqy : SqL X.K H1 b ys) (q : R (ItzTL X.K a b) H1) :
    wpAny (model X.prog X.w) X.A (call (.type "zip") [.ref a, .ref b]) (fun v s2 => wpAny (model X.prog X.w) X.A (pyIter v) (PIE X pins σ (.Tuple elts kk tpos) R) X.xe s2) X.xe s1 := by
  obtain ⟨its, rv, p1, _⟩ := I1.tuple hqx
  obtain ⟨its2, rv2, p2, _⟩ := I1.list hqy
  obtain ⟨o1, ho1, _⟩ := id p1
  refine zip_begins2 (begins_tuple a its.toArray) (begins_list b its2.toArray) p1 p2.isList fun h' hz hTI hTO h1 h2 hsz hk => wpAny_pyIter_zip hz ?_
  have I2 : Inv X pins σ H1 { s1 with heap := h' } := I1.kept (t' := s1.toks) hk
  have hfp : ∀ c ∈ [s1.heap.objs.size + 4, s1.heap.objs.size + 2, s1.heap.objs.size + 3, s1.heap.objs.size, s1.heap.objs.size + 1], FpOk X pins H1 c := fun c hcm => by
    have hle : s1.heap.objs.size ≤ c := by
      have e' : c = s1.heap.objs.size + 4 ∨ c = s1.heap.objs.size + 2 ∨ c = s1.heap.objs.size + 3 ∨ c = s1.heap.objs.size ∨ c = s1.heap.objs.size + 1 := by simpa using hcm
      rcases e' with z | z | z | z | z
      · rw [z]; exact Nat.le_add_right _ _
      · rw [z]; exact Nat.le_add_right _ _
      · rw [z]; exact Nat.le_add_right _ _
      · rw [z]; exact Nat.le_refl _
      · rw [z]; exact Nat.le_add_right _ _
    exact I1.fpOk hle (I1.hok.fresh hle)
  exact ⟨s1.heap.objs.size + 4, _, _, _, H1, rfl, I2, turn_zipTL (N := s1.heap.objs.size) (Heap.lt_size ho1) p2.lt, ⟨hz, hTI, ⟨_, _, hTO⟩, ⟨_, h1, rfl, rfl⟩, ⟨_, h2, rfl, rfl⟩⟩, hfp, q⟩
theorem pi_zipTL {X : Cx} {e e2 : Expr} {ta : TA} {p pos tpos : Pos} {elts : List Expr} {kk : Nat} (hg : Gl X "zip") (hm : X.mg "zip" = none) (ha : PA X [e, e2] ta)
    (hs : starEach [e, e2] X.env = (false, eval e X.env) :: starEach [e2] X.env := by rfl) (hpl : (backTo pos (starEach [e2] X.env)).any (·.1) = false := by rfl) :
    PI X (.Tuple elts kk tpos) (.Call (.Name "zip" p) [e, e2] [] pos) (iZipTL X.K ta) := by
  refine ⟨fun pins s σ H R I h => ?_⟩
  refine Call_ (ld_blt I hg hm PyProof.Rows.boot_zip (PyProof.Rows.callWith_type1 (thn (ha.run pos pins s σ H _ I h) fun us s1 ⟨vs, H1, I1, r1, q1⟩ => ?_) hs hpl))
  obtain ⟨a, b, xs, ys, rfl, hqx, hqy, q⟩ := q1
  cases r1 with
  | cons r rr => cases rr with
    | cons r' rr =>
      cases rr
      cases r
      cases r'
      exact zipTL_in I1 hqx hqy q
/-- a comprehension over zip of a tuple and a list of one length -/
theorem lc_zipTL {K : PySem.W.Frag} {a b : Addr} {xs ys : List V} {g : TG} {tt : TT} {te : TE} {vs : List Nat} {σ : L2.St} {H1 : Hp} {D : Addr} {Qd : Hp → Prop} (he : xs.length = ys.length) (Pv : Nat → Hp → Prop) (h0 : Pv 0 (upd H1 D (.lst []))) (hl : ∀ i H, Pv i H → SqT K H a xs ∧ SqL K H b ys)
    (hs : ∀ i x y T H, xs[i]? = some x → ys[i]? = some y → H T = none → Pv i H → g (.ref T) (wipe σ vs) (upd H T (.tup [x, y])) fun σ2 H2 => wipe σ2 vs = wipe σ vs ∧ tt σ2 H2 fun b H3 =>
      if b = true then te σ2 H3 fun y H4 => ∃ acc, H4 D = some (.lst acc) ∧ acc.length < sizeLine ∧ Pv (i + 1) (upd H4 D (.lst (acc ++ [y]))) else Pv (i + 1) H3) (hd : ∀ H, Pv xs.length H → Qd H) :
    ∃ W : Nat → Nat → Hp → Prop, (∃ m, W 0 m (upd H1 D (.lst []))) ∧ ∀ i m H, W i m H →
      ((ItzTL K a b).stop i H ∧ Qd H) ∨ ((ItzTL K a b).go i H ∧ ∃ Nx : Hp → Prop, (∀ H', Nx H' → ∃ m', m' < m ∧ W (i + 1) m' H') ∧ ∀ x H', (ItzTL K a b).yld i H x H' → g x (wipe σ vs) H' fun σ2 H2 => wipe σ2 vs = wipe σ vs ∧ tt σ2 H2 fun b H3 =>
        if b = true then te σ2 H3 fun y H4 => ∃ acc, H4 D = some (.lst acc) ∧ acc.length < sizeLine ∧ Nx (upd H4 D (.lst (acc ++ [y]))) else Nx H3) := by
  refine ⟨fun i m H => m = xs.length - i ∧ i ≤ xs.length ∧ Pv i H, ⟨xs.length, by simp, Nat.zero_le _, h0⟩, ?_⟩
  rintro i m H ⟨rfl, hi, p⟩
  obtain ⟨q1, q2⟩ := hl i H p
  by_cases hlt : i < xs.length
  · refine .inr ⟨⟨xs, ys, q1, q2, hlt, he ▸ hlt⟩, Pv (i + 1), fun H' p' => ⟨xs.length - (i + 1), by omega, rfl, hlt, p'⟩, fun v H' y => ?_⟩
    obtain ⟨T, x, y, rfl, hT, rfl, h1, h2⟩ := y
    exact hs i x y T H (h1 _ q1) (h2 _ q2) hT p
  · have e : i = xs.length := by omega
    subst e
    exact .inl ⟨⟨xs, ys, q1, q2, by omega⟩, hd H p⟩
end HS
set_option maxHeartbeats 400000
/-! H05m: the largest rest, in plain Lean -/
namespace L05
open PySem PySem.Spec PyProof.Rows L2 LamX NdefX HS
def baseL (t : Int) (ws : List Int) : List Int := ws.map fun x => t * x / ws.sum
def restL (t : Int) (ws : List Int) : List Int := ws.map fun x => t * x - t * x / ws.sum * ws.sum
def leftI (t : Int) (ws : List Int) : Int := t - (baseL t ws).sum
def kS (rs : List Int) : KI := fun v => match v with
  | .int k => (-(rs.getD k.toNat 0), k)
  | _ => (0, 0)
def bump (ps : List Int) : V → List Int
  | .int k => ps.set k.toNat (ps.getD k.toNat 0 + 1)
  | _ => ps
def orderL (rs : List Int) (n : Nat) : List V := (rgV 0 n).mergeSort (leK (kS rs))
def chosen (t : Int) (ws : List Int) : List V := cutV (orderL (restL t ws) ws.length) none (some (leftI t ws))
def shareF (t : Int) (ws : List Int) : List Int := (chosen t ws).foldl bump (baseL t ws)
/-! ### sums -/
theorem sum_le {α : Type} (f : α → Int) (c : Int) : ∀ l : List α, (∀ j ∈ l, f j ≤ c) → (l.map f).sum ≤ l.length * c
  | [], _ => by simp
  | x :: l, h => by
    have h1 := h x List.mem_cons_self
    have h2 := sum_le f c l fun j hj => h j (List.mem_cons_of_mem _ hj)
    rw [List.map_cons, List.sum_cons, List.length_cons]
    have : ((l.length + 1 : Nat) : Int) * c = l.length * c + c := by rw [Int.natCast_add, Int.add_mul]; simp
    rw [this]
    omega
theorem sum_perm {α : Type} (f : α → Int) {l m : List α} (h : l.Perm m) : (l.map f).sum = (m.map f).sum := by
  induction h with
  | nil => rfl
  | cons x _ ih => simp only [List.map_cons, List.sum_cons, ih]
  | swap x y l => simp only [List.map_cons, List.sum_cons]; omega
  | trans _ _ h1 h2 => exact h1.trans h2
theorem sum_lin (t W : Int) : ∀ l : List Int, (l.map fun x => t * x - t * x / W * W).sum = t * l.sum - (l.map fun x => t * x / W).sum * W
  | [] => by simp
  | x :: l => by
    have h := sum_lin t W l
    simp only [List.map_cons, List.sum_cons, h, Int.mul_add, Int.add_mul]
    omega
theorem sum_get (rs : List Int) : ((List.range rs.length).map fun j => rs.getD j 0).sum = rs.sum := by
  have : (List.range rs.length).map (fun j => rs.getD j 0) = rs := by
    refine List.ext_getElem (by simp) fun i h1 h2 => ?_
    simp at h1
    simp [List.getD_eq_getElem?_getD, List.getElem?_eq_getElem h2]
  rw [this]
theorem sum_pos : ∀ {ws : List Int}, ws ≠ [] → (∀ x ∈ ws, 1 ≤ x) → 0 < ws.sum
  | [], h, _ => absurd rfl h
  | [x], _, h => by have := h x List.mem_cons_self; simp; omega
  | x :: y :: l, _, h => by
    have h1 := h x List.mem_cons_self
    have h2 := sum_pos (ws := y :: l) (by simp) fun z hz => h z (List.mem_cons_of_mem _ hz)
    rw [List.sum_cons]
    omega
theorem sum_nn : ∀ {ws : List Int}, (∀ x ∈ ws, 0 ≤ x) → 0 ≤ ws.sum
  | [], _ => by simp
  | x :: l, h => by
    have h1 := h x List.mem_cons_self
    have h2 := sum_nn (ws := l) fun z hz => h z (List.mem_cons_of_mem _ hz)
    rw [List.sum_cons]
    omega
/-! ### bumps -/
theorem bump_length (ps : List Int) (v : V) : (bump ps v).length = ps.length := by cases v <;> simp [bump]
theorem fold_length : ∀ (l : List V) (ps : List Int), (l.foldl bump ps).length = ps.length
  | [], _ => rfl
  | v :: l, ps => by rw [List.foldl_cons, fold_length l, bump_length]
theorem set_sum : ∀ (ps : List Int) (k : Nat), k < ps.length → (ps.set k (ps.getD k 0 + 1)).sum = ps.sum + 1
  | [], _, h => absurd h (Nat.not_lt_zero _)
  | x :: ps, 0, _ => by simp; omega
  | x :: ps, k + 1, h => by
    have h2 := set_sum ps k (by simpa using h)
    simp only [List.set_cons_succ, List.sum_cons, List.getD_cons_succ, h2]
    omega
theorem fold_sum : ∀ (js : List Nat) (ps : List Int), (∀ j ∈ js, j < ps.length) → ((js.map fun j : Nat => V.int j).foldl bump ps).sum = ps.sum + js.length
  | [], _, _ => by simp
  | j :: js, ps, h => by
    have h1 : bump ps (.int j) = ps.set j (ps.getD j 0 + 1) := by simp [bump]
    rw [List.map_cons, List.foldl_cons, fold_sum js _ fun i hi => by rw [bump_length]; exact h i (List.mem_cons_of_mem _ hi), h1, set_sum ps j (h j List.mem_cons_self), List.length_cons]
    omega
theorem fold_get : ∀ (js : List Nat) (ps : List Int) (k : Nat), (∀ j ∈ js, j < ps.length) → js.Nodup → k < ps.length → ((js.map fun j : Nat => V.int j).foldl bump ps).getD k 0 = ps.getD k 0 + (if k ∈ js then 1 else 0)
  | [], ps, k, _, _, _ => by simp
  | j :: js, ps, k, h, nd, hk => by
    have h1 : bump ps (.int j) = ps.set j (ps.getD j 0 + 1) := by simp [bump]
    have hj := h j List.mem_cons_self
    obtain ⟨n1, n2⟩ := List.nodup_cons.mp nd
    rw [List.map_cons, List.foldl_cons, fold_get js _ k (fun i hi => by rw [bump_length]; exact h i (List.mem_cons_of_mem _ hi)) n2 (by rw [bump_length]; exact hk), h1]
    by_cases e : k = j
    · subst e
      rw [if_neg n1, if_pos List.mem_cons_self]
      simp [List.getD_eq_getElem?_getD, List.getElem?_set, hk]
    · have h2 : (ps.set j (ps.getD j 0 + 1)).getD k 0 = ps.getD k 0 := by simp [List.getD_eq_getElem?_getD, List.getElem?_set, Ne.symm e]
      rw [h2]
      by_cases m : k ∈ js
      · rw [if_pos m, if_pos (List.mem_cons_of_mem _ m)]
      · rw [if_neg m, if_neg (fun q => (List.mem_cons.mp q).elim e m)]
/-! ### the order -/
theorem leK_trans (k : KI) (a b c : V) (h1 : leK k a b = true) (h2 : leK k b c = true) : leK k a c = true := by
  have h1 := of_decide_eq_true h1
  have h2 := of_decide_eq_true h2
  exact decide_eq_true (by omega)
theorem leK_total (k : KI) (a b : V) : (leK k a b || leK k b a) = true := by
  rw [Bool.or_eq_true]
  by_cases h : (k a).1 < (k b).1 ∨ ((k a).1 = (k b).1 ∧ (k a).2 ≤ (k b).2)
  · exact .inl (decide_eq_true h)
  · exact .inr (decide_eq_true (by omega))
def unI : V → Nat
  | .int k => k.toNat
  | _ => 0
/-- the order as places -/
theorem order_is (rs : List Int) : ∃ js : List Nat, orderL rs rs.length = js.map (fun j : Nat => V.int j) ∧ js.Perm (List.range rs.length) ∧ js.Pairwise fun a b => rs.getD b 0 ≤ rs.getD a 0 := by
  have hr : rgV 0 rs.length = (List.range rs.length).map (fun j : Nat => V.int j) := by
    unfold rgV
    simp
  have hp : (orderL rs rs.length).Perm ((List.range rs.length).map (fun j : Nat => V.int j)) := hr ▸ List.mergeSort_perm _ _
  have hs : (orderL rs rs.length).Pairwise fun a b => leK (kS rs) a b = true := List.pairwise_mergeSort (leK_trans _) (leK_total _) _
  have h1 : orderL rs rs.length = ((orderL rs rs.length).map unI).map (fun j : Nat => V.int j) := by
    rw [List.map_map]
    refine (List.map_id _).symm.trans (List.map_congr_left fun v hv => ?_)
    obtain ⟨j, _, rfl⟩ := List.mem_map.mp (hp.mem_iff.mp hv)
    simp [unI]
  refine ⟨(orderL rs rs.length).map unI, h1, ?_, ?_⟩
  · have := hp.map unI
    rw [List.map_map] at this
    have e : (List.range rs.length).map (unI ∘ fun j : Nat => V.int j) = List.range rs.length := by
      refine (List.map_congr_left fun j _ => ?_).trans (List.map_id _)
      simp [unI]
    rw [e] at this
    exact this
  · rw [h1] at hs
    refine (List.pairwise_map.mp hs).imp fun {a b} h => ?_
    have h := of_decide_eq_true h
    simp only [kS, Int.toNat_natCast] at h
    omega
theorem getD_mem {rs : List Int} {j : Nat} (h : j < rs.length) : rs.getD j 0 ∈ rs := by
  rw [List.getD_eq_getElem?_getD, List.getElem?_eq_getElem h]
  exact List.getElem_mem h
/-! ### the share -/
theorem rest_in {t : Int} {ws : List Int} (hW : 0 < ws.sum) : ∀ r ∈ restL t ws, 0 ≤ r ∧ r ≤ ws.sum - 1 := fun r hr => by
  obtain ⟨x, _, rfl⟩ := List.mem_map.mp hr
  have h1 := Int.emod_nonneg (t * x) (Int.ne_of_gt hW)
  have h2 := Int.emod_lt_of_pos (t * x) hW
  have h3 := Int.mul_ediv_add_emod (t * x) ws.sum
  rw [Int.mul_comm] at h3
  constructor
  · show 0 ≤ t * x - t * x / ws.sum * ws.sum
    omega
  · show t * x - t * x / ws.sum * ws.sum ≤ ws.sum - 1
    omega
theorem rest_sum (t : Int) (ws : List Int) : (restL t ws).sum = leftI t ws * ws.sum := by
  unfold restL leftI baseL
  rw [sum_lin, Int.sub_mul]
theorem left_in {t : Int} {ws : List Int} (hW : 0 < ws.sum) : 0 ≤ leftI t ws ∧ leftI t ws ≤ ws.length := by
  have h1 := rest_in (t := t) hW
  have h2 : 0 ≤ (restL t ws).sum := sum_nn fun x hx => (h1 x hx).1
  have h3 := sum_le id (ws.sum - 1) (restL t ws) fun j hj => (h1 j hj).2
  rw [List.map_id, show (restL t ws).length = ws.length from List.length_map _] at h3
  rw [rest_sum] at h2 h3
  constructor
  · refine Int.not_lt.mp fun h => ?_
    have := Int.mul_neg_of_neg_of_pos h hW
    omega
  · refine Int.not_lt.mp fun h => ?_
    have h4 : ((ws.length : Int) + 1) * ws.sum ≤ leftI t ws * ws.sum := Int.mul_le_mul_of_nonneg_right (by omega) (Int.le_of_lt hW)
    have h5 : (ws.length : Int) * (ws.sum - 1) ≤ (ws.length : Int) * ws.sum := Int.mul_le_mul_of_nonneg_left (by omega) (by omega)
    rw [Int.add_mul, Int.one_mul] at h4
    omega
theorem cut_left {t : Int} {ws : List Int} (hW : 0 < ws.sum) (xs : List V) (hx : xs.length = ws.length) : cutV xs none (some (leftI t ws)) = xs.take (leftI t ws).toNat := by
  obtain ⟨h1, h2⟩ := left_in (t := t) hW
  unfold cutV
  rw [HT.sIx_none, List.drop_zero, Nat.sub_zero, show leftI t ws = ((leftI t ws).toNat : Int) by omega, HT.sIx_nat, Int.toNat_natCast, Nat.min_eq_left (by omega)]
theorem chosen_is {t : Int} {ws : List Int} (hW : 0 < ws.sum) : ∃ js : List Nat, chosen t ws = js.map (fun j : Nat => V.int j) ∧ js.length = (leftI t ws).toNat ∧ js.Nodup ∧ ∀ j ∈ js, j < ws.length ∧ 0 < (restL t ws).getD j 0 := by
  have hl : (restL t ws).length = ws.length := List.length_map _
  obtain ⟨js, e, hp, hs⟩ := order_is (restL t ws)
  have hjl : js.length = ws.length := by rw [hp.length_eq, List.length_range, hl]
  obtain ⟨l1, l2⟩ := left_in (t := t) hW
  refine ⟨js.take (leftI t ws).toNat, ?_, ?_, ?_, fun j hj => ?_⟩
  · unfold chosen
    rw [cut_left hW _ (by rw [← hl, e, List.length_map, hjl, hl]), ← hl, e, List.map_take]
  · rw [List.length_take, hjl]; omega
  · exact (hp.nodup_iff.mpr List.nodup_range).sublist (List.take_sublist _ _)
  · have hm : j < (restL t ws).length := List.mem_range.mp (hp.mem_iff.mp (List.mem_of_mem_take hj))
    refine ⟨hl ▸ hm, Int.not_le.mp fun h0 => ?_⟩
    obtain ⟨i, hi, ei⟩ := List.mem_iff_getElem.mp hj
    rw [List.length_take] at hi
    have hi2 : i < js.length := by omega
    have ei : js[i] = j := by rw [← ei, List.getElem_take]
    have hin := rest_in (t := t) hW
    have h1 : (((js.take i)).map fun j => (restL t ws).getD j 0).sum ≤ (js.take i).length * (ws.sum - 1) := sum_le _ _ _ fun a ha => (hin _ (getD_mem (List.mem_range.mp (hp.mem_iff.mp (List.mem_of_mem_take ha))))).2
    have h2 : (((js.drop i)).map fun j => (restL t ws).getD j 0).sum ≤ (js.drop i).length * 0 := sum_le _ _ _ fun a ha => by
      rw [List.drop_eq_getElem_cons hi2, ei] at ha
      rcases List.mem_cons.mp ha with rfl | ha
      · exact h0
      · have h5 : js.drop i = j :: js.drop (i + 1) := by rw [List.drop_eq_getElem_cons hi2, ei]
        have h6 : (j :: js.drop (i + 1)).Pairwise fun a b => (restL t ws).getD b 0 ≤ (restL t ws).getD a 0 := h5 ▸ hs.sublist (List.drop_sublist _ _)
        exact Int.le_trans ((List.pairwise_cons.mp h6).1 a ha) h0
    have h3 : (js.map fun j => (restL t ws).getD j 0).sum = leftI t ws * ws.sum := by rw [sum_perm _ hp, sum_get, rest_sum]
    have h4 : (js.map fun j => (restL t ws).getD j 0).sum = ((js.take i).map fun j => (restL t ws).getD j 0).sum + ((js.drop i).map fun j => (restL t ws).getD j 0).sum := by
      rw [← List.sum_append, ← List.map_append, List.take_append_drop]
    rw [h4] at h3
    rw [Int.mul_zero] at h2
    have h7 : ((js.take i).length : Int) = i := by rw [List.length_take]; omega
    rw [h7] at h1
    have h8 : ((i : Int) + 1) * ws.sum ≤ leftI t ws * ws.sum := Int.mul_le_mul_of_nonneg_right (by omega) (Int.le_of_lt hW)
    have h9 : (i : Int) * (ws.sum - 1) ≤ (i : Int) * ws.sum := Int.mul_le_mul_of_nonneg_left (by omega) (by omega)
    rw [Int.add_mul, Int.one_mul] at h8
    omega
theorem share_length (t : Int) (ws : List Int) : (shareF t ws).length = ws.length := by
  unfold shareF
  rw [fold_length]
  exact List.length_map _
theorem share_sum {t : Int} {ws : List Int} (hW : 0 < ws.sum) : (shareF t ws).sum = t := by
  obtain ⟨js, e, hl, _, h⟩ := chosen_is (t := t) hW
  obtain ⟨l1, _⟩ := left_in (t := t) hW
  unfold shareF
  rw [e, fold_sum js _ fun j hj => by rw [show (baseL t ws).length = ws.length from List.length_map _]; exact (h j hj).1, hl]
  unfold leftI at *
  omega
theorem share_near {t : Int} {ws : List Int} (hW : 0 < ws.sum) {k : Nat} (hk : k < ws.length) : -ws.sum < (shareF t ws).getD k 0 * ws.sum - t * ws.getD k 0 ∧ (shareF t ws).getD k 0 * ws.sum - t * ws.getD k 0 < ws.sum := by
  obtain ⟨js, e, hl, nd, h⟩ := chosen_is (t := t) hW
  have hb : (baseL t ws).length = ws.length := List.length_map _
  have hr : (restL t ws).length = ws.length := List.length_map _
  have e1 : (shareF t ws).getD k 0 = (baseL t ws).getD k 0 + (if k ∈ js then 1 else 0) := by
    unfold shareF
    rw [e]
    exact fold_get js _ k (fun j hj => by rw [hb]; exact (h j hj).1) nd (by rw [hb]; exact hk)
  have e2 : (restL t ws).getD k 0 = t * ws.getD k 0 - (baseL t ws).getD k 0 * ws.sum := by
    unfold restL baseL
    simp [List.getD_eq_getElem?_getD, hk]
  have h1 := rest_in (t := t) hW _ (getD_mem (hr ▸ hk))
  rw [e1]
  by_cases m : k ∈ js
  · have h2 := (h k m).2
    rw [if_pos m, Int.add_mul, Int.one_mul]
    omega
  · rw [if_neg m, Int.add_zero]
    omega
theorem share_a : shareF 10 [1, 1, 1] = [4, 3, 3] := by
  simp [shareF, chosen, orderL, cutV, HT.sIx, leftI, baseL, restL, rgV, List.range, List.range.loop, bump, leK, kS, List.mergeSort, List.MergeSort.Internal.splitInTwo, List.merge]
theorem share_b : shareF 0 [1, 2] = [0, 0] := by
  simp [shareF, chosen, orderL, cutV, HT.sIx, leftI, baseL, restL, rgV, List.range, List.range.loop, bump, leK, kS, List.mergeSort, List.MergeSort.Internal.splitInTwo, List.merge]
theorem share_c : shareF 7 [1, 2] = [2, 5] := by
  simp [shareF, chosen, orderL, cutV, HT.sIx, leftI, baseL, restL, rgV, List.range, List.range.loop, bump, leK, kS, List.mergeSort, List.MergeSort.Internal.splitInTwo, List.merge]
theorem share_d : shareF 5 [1, 1, 1] = [2, 2, 1] := by
  simp [shareF, chosen, orderL, cutV, HT.sIx, leftI, baseL, restL, rgV, List.range, List.range.loop, bump, leK, kS, List.mergeSort, List.MergeSort.Internal.splitInTwo, List.merge]
end L05
namespace L05
open PySem PySem.Spec PyProof.Rows L2 LamX NdefX HS
def topS (i : Nat) : Stmt := PySem.Challenge.pw_seatrush_k05_share.main.body.getD i (.Pass ⟨0, 0, 0, 0⟩)
abbrev sNums : Stmt := topS 7
abbrev sDraw : Stmt := topS 8
abbrev sTake : Stmt := topS 9
theorem scN : FnScope ["script", "row", "cell", "left", "k", "mixed"] ["script"] (defScope sNums) := ⟨rfl, rfl, rfl, by decide +kernel, rfl, by decide +kernel, by decide +kernel⟩
theorem scD : FnScope ["row", "at", "limit", "mixed"] ["row", "at", "limit"] (defScope sDraw) := ⟨rfl, rfl, rfl, by decide +kernel, rfl, by decide +kernel, by decide +kernel⟩
theorem scT : FnScope ["row", "spot", "limit"] ["row", "spot", "limit"] (defScope sTake) := ⟨rfl, rfl, rfl, by decide +kernel, rfl, by decide +kernel, by decide +kernel⟩
theorem same_new {H : Hp} {p : Addr} {o : HO} (h : H p = none) : Same H (upd H p o) := fun b x e => by
  rw [upd_ne (ne_of_none e h)]
  exact e
/-- a row of numbers: what the draws read -/
def RowAt (H : Hp) (p : Addr) (rs : List Int) : Prop := H p = some (.lst (rs.map V.int)) ∧ rs ≠ [] ∧ rs.length ≤ 5000
def spNums (K : PySem.W.Frag) : Sp := fun vs H Q _ => ∃ (a : Addr) (ns : List Int), vs = [.ref a] ∧ SqL K H a (ns.map V.int) ∧ ns.length ≤ 63 ∧ ∀ H' p rs, Same H H' → H p = none → RowAt H' p rs → Q (.ref p) H'
/-- 0 ≤ d < limit comes out; nothing changes -/
def spDraw : Sp := fun vs H Q _ => ∃ (p : Addr) (rs : List Int) (i : Nat) (lim : Int), vs = [.ref p, .int i, .int lim] ∧ RowAt H p rs ∧ i < 5000 ∧ 0 < lim ∧ lim < 2 ^ 30 ∧ ∀ d : Int, 0 ≤ d → d < lim → Q (.int d) H
/-- the place goes on by one -/
def spTake : Sp := fun vs H Q _ => ∃ (p sp : Addr) (rs : List Int) (i : Nat) (lim : Int), vs = [.ref p, .ref sp, .int lim] ∧ RowAt H p rs ∧ p ≠ sp ∧ H sp = some (.lst [.int i]) ∧ i < 4000 ∧ 0 < lim ∧ lim < 2 ^ 30 ∧ ∀ d : Int, 0 ≤ d → d < lim → Q (.int d) (upd H sp (.lst [.int ((i : Int) + 1)]))
section
variable {P : Program} {w : World} {K : PySem.W.Frag} {mg : Str → Option Value} {base : Heap}
theorem getI {rs : List Int} {i : Nat} (h : i < rs.length) : ∃ z : Int, (rs.map V.int)[i]? = some (.int z) := ⟨rs[i], by rw [List.getElem?_map, List.getElem?_eq_getElem h]; rfl⟩
theorem ok_nums {f : Addr} {fd : FuncData} (F : Fun K "_law_numbers" "_law_numbers" sNums f fd) (m_range : mg "range" = none) (m_int : mg "int" = none) (m_len : mg "len" = none) : FnOk P w K mg base CX0 1 f fd ["script"] (spNums K) := by
  refine F.ok scN (fun vs H Q E h => ?_) (fun cdv A outer s H vs Q E hr h => ?_)
  · obtain ⟨a, ns, rfl, _⟩ := h
    rfl
  · obtain ⟨a, ns, rfl, hS, hlen, q⟩ := h
    refine ⟨_, (pss_cons (ps_set (i := 1) scN.nd rfl (.inl rfl) (pe_lst pa_nil)) (pss_cons (ps_for PassesOwn.never rfl (pi_list (pe_slice sl_list (pv 0) po_none (po_some pe_int))) (pg_name (i := 2) scN.nd rfl (.inl rfl)) (pss_one (ps_if (pt_cmpR op_ge (pv 2) (pe_op op_pow pe_int pe_int) (nomark _)) (pss_cons (ps_set (i := 3) scN.nd rfl (.inl rfl) (pv 2)) (pss_one (ps_for PassesOwn.never rfl (pi_range1 (by rfl) m_range (pa_cons pe_int pa_nil)) (pg_name (i := 4) scN.nd rfl (.inl rfl)) (pss_cons (ps_if (pt_cmpR op_eq (pv 3) pe_int (nomark _)) (pss_one ps_break) pss_nil) (pss_cons (ps_expr (pe_bm PySem.F.plainAttrs_list PySem.F.slot_list_append PySem.F.type_list_append mt_append (pv 1) (pa_cons (pe_op op_mod (pe_callTy call_int1 (by rfl) m_int boot_int (pa_cons (pv 3) pa_nil)) pe_int) pa_nil))) (pss_one (ps_set (i := 3) scN.nd rfl (.inl rfl) (pe_op op_fdiv (pv 3) pe_int)))))))) (pss_one (ps_for PassesOwn.never rfl (pi_range1 (by rfl) m_range (pa_cons pe_int pa_nil)) (pg_name (i := 4) scN.nd rfl (.inl rfl)) (pss_cons (ps_set (i := 5) scN.nd rfl (.inl rfl) (pe_op op_mod (pe_callTy call_int1 (by rfl) m_int boot_int (pa_cons (pe_op op_add (pe_op op_add (pe_op op_mul (pv 2) pe_int) (pe_op op_mul (pv 4) pe_int)) pe_int) pa_nil)) pe_int)) (pss_one (ps_expr (pe_bm PySem.F.plainAttrs_list PySem.F.slot_list_append PySem.F.type_list_append mt_append (pv 1) (pa_cons (pe_op op_mod (pe_callTy call_int1 (by rfl) m_int boot_int (pa_cons (pe_op op_add (pe_op op_mul (pv 5) pe_int) (pv 4)) pa_nil)) pe_int) pa_nil)))))))))) (pss_cons (ps_if (pt_cmpR op_eq (pe_callB call_len_seq (by rfl) m_len PySem.boot_len (pa_cons (pv 1) pa_nil)) pe_int (nomark _)) (pss_one (ps_expr (pe_bm PySem.F.plainAttrs_list PySem.F.slot_list_append PySem.F.type_list_append mt_append (pv 1) (pa_cons pe_int pa_nil)))) pss_nil) (pss_one (ps_ret (pv 1)))))), ?_⟩
    -- row = []
    refine ⟨Nat.zero_le _, fun p np => ?_⟩
    have s1 : Same H (upd H p (.lst [])) := same_new np
    -- script[:63]
    refine ⟨.ref a, rfl, 63, rfl, a, ns.map V.int, rfl, s1.seq hS, fun c nc => ?_⟩
    generalize hcs : cutV (ns.map V.int) none (some 63) = cs at nc ⊢
    have hint : ∀ x ∈ cs, ∃ z : Int, x = .int z := fun x hx => by
      rw [← hcs] at hx
      have h1 : x ∈ ns.map V.int := List.mem_of_mem_drop (List.mem_of_mem_take hx)
      obtain ⟨z, _, e⟩ := List.mem_map.mp h1
      exact ⟨z, e.symm⟩
    have hcl : cs.length ≤ 63 := by
      rw [← hcs]
      exact Nat.le_trans (cutV_length _ _ _) (by rw [List.length_map]; exact hlen)
    have s2 : Same (upd H p (.lst [])) (upd (upd H p (.lst [])) c (.lst cs)) := same_new nc
    have npc : p ≠ c := ne_of_none (o := .lst []) upd_same nc
    have sH : ∀ H2, Same H H2 → ∀ o, Same H (upd H2 p o) := fun H2 s o b x e => by
      rw [upd_ne (ne_of_none e np)]
      exact s b x e
    refine ⟨c, rfl, ⟨_, .inl (.inl upd_same)⟩, for_list (K := K) (a := c) (xs := cs) (fun i σ H2 => ∃ (v2 v3 v4 v5 : Option V) (rs : List Int), σ = [some (.ref a), some (.ref p), v2, v3, v4, v5] ∧ Same H H2 ∧ H2 c = some (.lst cs) ∧ H2 p = some (.lst (rs.map V.int)) ∧ rs.length ≤ 60 * i)
      ⟨none, none, none, none, [], rfl, s1.trans s2, upd_same, by rw [upd_ne npc, upd_same]; rfl, Nat.le_refl _⟩ (fun i σ H2 _ ⟨_, _, _, _, _, _, _, hc, _⟩ => .inl (.inl hc)) ?_ ?_⟩
    · rintro i x σ H2 hi ⟨v2, v3, v4, v5, rs, rfl, sm, hc, hp, hl⟩
      have hi63 : i < 63 := Nat.lt_of_lt_of_le (List.getElem?_eq_some_iff.mp hi).1 hcl
      obtain ⟨z, rfl⟩ := hint x (List.mem_of_getElem? hi)
      refine ⟨_, rfl, 10, 18, rfl, rfl, ⟨by decide, by decide, by decide⟩, _, _, rfl, rfl, _, rfl, ite2 (fun _ => ?_) (fun _ => ?_)⟩
      · -- a large cell
        refine ⟨_, rfl, 60, rfl, by decide, by decide, for_range (n := 60) (fun j σ H3 => ∃ (v4 v5 : Option V) (y : Int) (us : List Int), σ = [some (.ref a), some (.ref p), some (.int z), some (.int y), v4, v5] ∧ Same H H3 ∧ H3 c = some (.lst cs) ∧ H3 p = some (.lst (us.map V.int)) ∧ us.length ≤ 60 * i + j)
          ⟨v4, v5, z, rs, rfl, sm, hc, hp, by omega⟩ ?_ ?_⟩
        · rintro j σ H3 hj ⟨w4, w5, y, us, rfl, sm3, hc3, hp3, hl3⟩
          refine ⟨_, rfl, rfl, _, rfl, ite2 (fun _ => ?_) (fun _ => ?_)⟩
          · exact ⟨_, _, _, _, us, rfl, sm3, hc3, hp3, by omega⟩
          · refine ⟨.ref p, rfl, .inl ⟨rfl, _, .inl (.inl hp3)⟩, _, rfl, .inl ⟨y, rfl, _, _, rfl, rfl, (by show (0 : Int) < 997; decide), p, _, _, rfl, rfl, hp3, ?_, ?_⟩⟩
            · rw [List.length_map, sizeLine_eq]; omega
            · refine ⟨_, rfl, _, _, rfl, rfl, ⟨by decide, by decide⟩, ⟨_, _, _, us ++ [y % 997], rfl, sH _ sm3 _, ?_, ?_, ?_⟩⟩
              · rw [upd_ne npc.symm]; exact hc3
              · rw [upd_same, List.map_append]; rfl
              · rw [List.length_append]; simp only [List.length_singleton]; omega
        · rintro σ H3 ⟨w4, w5, y, us, rfl, sm3, hc3, hp3, hl3⟩
          exact ⟨_, _, _, _, us, rfl, sm3, hc3, hp3, by omega⟩
      · -- a small one
        refine ⟨4, rfl, by decide, by decide, for_range (n := 4) (fun j σ H3 => ∃ (v3 v4 v5 : Option V) (us : List Int), σ = [some (.ref a), some (.ref p), some (.int z), v3, v4, v5] ∧ Same H H3 ∧ H3 c = some (.lst cs) ∧ H3 p = some (.lst (us.map V.int)) ∧ us.length ≤ 60 * i + j)
          ⟨v3, v4, v5, rs, rfl, sm, hc, hp, by omega⟩ ?_ ?_⟩
        · rintro j σ H3 hj ⟨w3, w4, w5, us, rfl, sm3, hc3, hp3, hl3⟩
          refine ⟨_, rfl, _, _, rfl, rfl, .inr ⟨by decide, by decide⟩, _, rfl, _, _, rfl, rfl, .inr ⟨by decide, by decide⟩, _, _, rfl, rfl, _, _, rfl, rfl, .inl ⟨_, rfl, _, _, rfl, rfl, (by show (0 : Int) < 2147483647; decide), ?_⟩⟩
          refine ⟨.ref p, rfl, .inl ⟨rfl, _, .inl (.inl hp3)⟩, _, rfl, _, _, rfl, rfl, .inr ⟨by decide, by decide⟩, _, rfl, _, _, rfl, rfl, .inl ⟨_, rfl, _, _, rfl, rfl, (by show (0 : Int) < 2147483629; decide), p, _, _, rfl, rfl, hp3, ?_, ?_⟩⟩
          · rw [List.length_map, sizeLine_eq]; omega
          · refine ⟨_, _, _, us ++ [((z * 48271 + (0 + (j : Int)) * 69621 + 11) % 2147483647 * 16807 + (0 + (j : Int))) % 2147483629], rfl, sH _ sm3 _, ?_, ?_, ?_⟩
            · rw [upd_ne npc.symm]; exact hc3
            · rw [upd_same, List.map_append]; rfl
            · rw [List.length_append]; simp only [List.length_singleton]; omega
        · rintro σ H3 ⟨w3, w4, w5, us, rfl, sm3, hc3, hp3, hl3⟩
          exact ⟨_, _, _, _, us, rfl, sm3, hc3, hp3, by omega⟩
    · rintro σ H2 ⟨v2, v3, v4, v5, rs, rfl, sm, hc, hp, hl⟩
      refine ⟨.ref p, rfl, p, _, rfl, .inl (.inl (.inl hp)), rfl, _, rfl, ite2 (fun _ => ?_) (fun e => ?_)⟩
      · refine ⟨.ref p, rfl, .inl ⟨rfl, _, .inl (.inl hp)⟩, p, _, _, rfl, rfl, hp, ?_, ?_⟩
        · rw [List.length_map, sizeLine_eq]; omega
        · refine ⟨.ref p, rfl, q _ p (rs ++ [0]) (sH _ sm _) np ⟨?_, by simp, ?_⟩⟩
          · rw [upd_same, List.map_append]; rfl
          · rw [List.length_append]; simp only [List.length_singleton]; omega
      · refine ⟨.ref p, rfl, q _ p rs sm np ⟨hp, fun z => e ?_, by omega⟩⟩
        subst z
        exact decide_eq_true rfl
theorem ok_draw {f : Addr} {fd : FuncData} (F : Fun K "_law_draw" "_law_draw" sDraw f fd) (m_int : mg "int" = none) (m_len : mg "len" = none) : FnOk P w K mg base CX0 1 f fd ["row", "at", "limit"] spDraw := by
  refine F.ok scD (fun vs H Q E h => ?_) (fun cdv A outer s H vs Q E hr h => ?_)
  · obtain ⟨p, rs, i, lim, rfl, _⟩ := h
    rfl
  · obtain ⟨p, rs, i, lim, rfl, ⟨hp, hne, hl⟩, hi, h0, h1, q⟩ := h
    have fin : ∀ z : Int, Q (.int (z % lim)) H := fun z => q _ (Int.emod_nonneg _ (by omega)) (Int.emod_lt_of_pos _ h0)
    have hS : SqL K H p (rs.map V.int) := .inl (.inl hp)
    have hpos : 0 < rs.length := List.length_pos_iff.mpr hne
    refine ⟨_, (pss_cons (ps_if (pt_cmpR op_lt (pv 1) (pe_callB call_len_seq (by rfl) m_len PySem.boot_len (pa_cons (pv 0) pa_nil)) (nomark _)) (pss_one (ps_ret (pe_op op_mod (pe_callTy call_int1 (by rfl) m_int boot_int (pa_cons (pe_ix ix_list (pv 0) (pv 1) (fun _ _ => rfl)) pa_nil)) (pv 2)))) pss_nil) (pss_cons (ps_set (i := 3) scD.nd rfl (.inl rfl) (pe_op op_mod (pe_callTy call_int1 (by rfl) m_int boot_int (pa_cons (pe_op op_add (pe_op op_add (pe_op op_mul (pe_ix ix_list (pv 0) (pe_op op_mod (pe_callTy call_int1 (by rfl) m_int boot_int (pa_cons (pv 1) pa_nil)) (pe_callB call_len_seq (by rfl) m_len PySem.boot_len (pa_cons (pv 0) pa_nil))) (fun _ _ => rfl)) pe_int) (pe_op op_mul (pv 1) pe_int)) pe_int) pa_nil)) pe_int)) (pss_one (ps_ret (pe_op op_mod (pe_callTy call_int1 (by rfl) m_int boot_int (pa_cons (pe_op op_mod (pe_callTy call_int1 (by rfl) m_int boot_int (pa_cons (pe_op op_add (pe_op op_mul (pv 3) pe_int) (pv 1)) pa_nil)) pe_int) pa_nil)) (pv 2)))))), ?_⟩
    refine ⟨_, rfl, .ref p, rfl, p, _, rfl, .inl hS, _, _, rfl, rfl, _, rfl, ite2 (fun e => ?_) (fun e => ?_)⟩
    · have hi' : i < rs.length := by
        have := of_decide_eq_true e
        rw [List.length_map] at this
        omega
      obtain ⟨z, hz⟩ := getI hi'
      exact ⟨.ref p, rfl, _, rfl, p, _, _, _, rfl, rfl, hS, atI_nat hz, .inl ⟨z, rfl, _, rfl, _, _, rfl, rfl, h0, fin _⟩⟩
    · have hm : (i : Int) % (((rs.map V.int).length : Nat) : Int) = ((i % rs.length : Nat) : Int) := by rw [List.length_map]; rfl
      obtain ⟨z, hz⟩ := getI (rs := rs) (Nat.mod_lt i hpos)
      refine ⟨.ref p, rfl, _, rfl, .inl ⟨_, rfl, .ref p, rfl, p, _, rfl, .inl hS, _, _, rfl, rfl, (by show (0 : Int) < ((rs.map V.int).length : Nat); rw [List.length_map]; omega), p, _, _, _, rfl, rfl, hS, (by rw [hm]; exact atI_nat hz), ?_⟩⟩
      refine ⟨_, _, rfl, rfl, .inr ⟨by decide, by decide⟩, _, rfl, _, _, rfl, rfl, .inr ⟨by decide, by decide⟩, _, _, rfl, rfl, _, _, rfl, rfl, .inl ⟨_, rfl, _, _, rfl, rfl, (by show (0 : Int) < 2147483399; decide), ?_⟩⟩
      exact ⟨_, rfl, _, _, rfl, rfl, .inr ⟨by decide, by decide⟩, _, rfl, _, _, rfl, rfl, .inl ⟨_, rfl, _, _, rfl, rfl, (by show (0 : Int) < 2147483647; decide), .inl ⟨_, rfl, _, rfl, _, _, rfl, rfl, h0, fin _⟩⟩⟩
theorem ok_take {f fD : Addr} {fd fdD : FuncData} (F : Fun K "_law_take" "_law_take" sTake f fd) (FD : Fun K "_law_draw" "_law_draw" sDraw fD fdD) (bD : Binds K fdD ["row", "at", "limit"] []) (gD : mg "_law_draw" = some (.ref fD)) (m_int : mg "int" = none) (m_len : mg "len" = none) :
    FnOk P w K mg base CX0 2 f fd ["row", "spot", "limit"] spTake := by
  have GD : FnOk P w K mg base CX0 1 fD fdD ["row", "at", "limit"] spDraw := ok_draw FD m_int m_len
  refine F.ok scT (fun vs H Q E h => ?_) (fun cdv A outer s H vs Q E hr h => ?_)
  · obtain ⟨p, sp, rs, i, lim, rfl, _⟩ := h
    rfl
  · obtain ⟨p, sp, rs, i, lim, rfl, hR, nps, hs, hi, h0, h1, q⟩ := h
    refine ⟨_, (pss_cons (ps_asg (pe_op op_add (pe_ix ix_list (pv 1) pe_int (fun _ _ => rfl)) pe_int) (pg_sub (pv 1) pe_int set_list)) (pss_one (ps_ret (pe_call GD (hr.mono (by decide)) (by rfl) gD FD.kp bD .nil pass0 (pa_cons (pv 0) (pa_cons (pe_op op_sub (pe_ix ix_list (pv 1) pe_int (fun _ _ => rfl)) pe_int) (pa_cons (pv 2) pa_nil))))))), ?_⟩
    have hS : SqL K H sp [.int i] := .inl (.inl hs)
    refine ⟨.ref sp, rfl, sp, _, _, _, rfl, rfl, hS, atI_nat (j := 0) rfl, _, _, rfl, rfl, .ref sp, rfl, sp, _, _, 0, rfl, rfl, hs, rfl, ?_⟩
    have hs2 : SqL K (upd H sp (.lst [.int ((i : Int) + 1)])) sp [.int ((i : Int) + 1)] := .inl (.inl upd_same)
    have hR2 : RowAt (upd H sp (.lst [.int ((i : Int) + 1)])) p rs := ⟨by rw [upd_ne nps]; exact hR.1, hR.2⟩
    refine ⟨.ref p, rfl, .ref sp, rfl, sp, _, _, _, rfl, rfl, hs2, atI_nat (j := 0) rfl, _, _, rfl, rfl, _, rfl, p, rs, i, lim, ?_, hR2, by omega, h0, h1, q⟩
    show [V.ref p, V.int ((i : Int) + 1 - 1), V.int lim] = _
    rw [show (i : Int) + 1 - 1 = i by omega]
end
end L05
set_option maxHeartbeats 1000000
namespace L05
open PySem PySem.Spec PyProof.Rows L2 LamX NdefX HS
abbrev sShare : Stmt := topS 5
abbrev NS : List Str := ["total", "weights", "whole", "parts", "left", "place", "rests", "weight", "part"]
theorem scS : FnScope NS ["total", "weights"] (defScope sShare) := ⟨rfl, rfl, rfl, by decide +kernel, rfl, by decide +kernel, by decide +kernel⟩
abbrev qShare : Str := "share.<locals>." ++ "<lambda>"
theorem extN_new {H : Hp} {p : Addr} {o : HO} (h : H p = none) : ExtN H (upd H p o) := ExtN.of (same_new h)
theorem extN_put {H Hn : Hp} {p : Addr} {o : HO} (e : ExtN H Hn) (h : H p = none) : ExtN H (upd Hn p o) := fun b x hb n => by
  rw [upd_ne (ne_of_none hb h)]
  exact e b x hb n
theorem tabs_put {T : List (Addr × Str)} {H : Hp} {b : Addr} {xs : List V} {o : HO} (hT : Tabs T H) (hb : H b = some (.lst xs)) : Tabs T (upd H b o) := fun x hx => by
  obtain ⟨qs, a1, a2, a3⟩ := hT x hx
  refine ⟨qs, by rw [upd_ne (ne_of a1 hb (by intro z; cases z))]; exact a1, a2, fun pos cv hc => ?_⟩
  obtain ⟨c0, b1, b2⟩ := a3 pos cv hc
  exact ⟨c0, b1, by rw [upd_ne (ne_of b2 hb (by unfold CodeO; intro z; cases z))]; exact b2⟩
theorem extN_tup {K : PySem.W.Frag} {H H' : Hp} {a : Addr} {xs : List V} (e : ExtN H H') (h : SqT K H a xs) : SqT K H' a xs := by
  rcases h with (h | ⟨o, h⟩) | h
  · exact .inl (.inl (e _ _ h fun ps z => by cases z))
  · exact .inl (.inr ⟨o, e _ _ h fun ps z => by cases z⟩)
  · exact .inr h
theorem iteDF {c A B : Prop} [Decidable c] (hc : ¬ c) (h : B) : if decide c = true then A else B := by
  rw [if_neg (by simpa using hc)]
  exact h
theorem get_int {ns : List Int} {i : Nat} {x : V} (h : (ns.map V.int)[i]? = some x) : ∃ z, ns[i]? = some z ∧ x = .int z := by
  rw [List.getElem?_map, Option.map_eq_some_iff] at h
  obtain ⟨z, h1, h2⟩ := h
  exact ⟨z, h1, h2.symm⟩
theorem take_next {α : Type} {ns : List α} {i : Nat} {z : α} (h : ns[i]? = some z) : ns.take (i + 1) = ns.take i ++ [z] := by
  rw [List.take_succ, h]
  rfl
theorem ps_no {X : Cx} {st : Stmt} : PS X st (fun _ _ _ => False) := ⟨fun _ _ _ _ _ _ h => False.elim h⟩
def spShare (K : PySem.W.Frag) (T : List (Addr × Str)) : Sp := fun vs H Q _ => ∃ (t : Int) (a : Addr) (ws : List Int), vs = [.int t, .ref a] ∧ SqT K H a (ws.map V.int) ∧ 0 ≤ t ∧ t ≤ 100000 ∧ ws ≠ [] ∧ ws.length ≤ 10 ∧ (∀ x ∈ ws, 1 ≤ x ∧ x ≤ 1000) ∧ Tabs T H ∧
  ∀ H' r, ExtN H H' → Tabs T H' → H' r = some (.tup ((shareF t ws).map V.int)) → Q (.ref r) H'
section
variable {P : Program} {w : World} {K : PySem.W.Frag} {mg : Str → Option Value} {base : Heap}
theorem ok_share {f c Pt : Addr} {T : List (Addr × Str)} {kV doc pm ct oc : Value} {an od : Option Addr} {osl : Array (Option Value)} {tM : Tok}
    (lk : K.lookup f = some ⟨oc, od, .func (PySem.W.fnOf "share" "share" (defArgs sShare) (defBody sShare) (defScope sShare) .none kV doc pm an (.ref c) ct), osl⟩) (hcd : PySem.W.codeIn K (.ref c) "share" = true)
    (TB : TabB base mg c Pt) (hm : (Pt, qShare) ∈ T) (hu : ∀ p ∈ T, p.1 = Pt → p.2 = qShare) (gM : mg "MOST_WEIGHTS" = some (.int 4000 tM))
    (m_sorted : mg "sorted" = none) (m_tuple : mg "tuple" = none) (m_range : mg "range" = none) (m_len : mg "len" = none) (m_sum : mg "sum" = none) (m_min : mg "min" = none) (m_max : mg "max" = none) (m_zip : mg "zip" = none) :
    FnOk P w K mg base CX0 4 f (PySem.W.fnOf "share" "share" (defArgs sShare) (defBody sShare) (defScope sShare) .none kV doc pm an (.ref c) ct) ["total", "weights"] (spShare K T) := by
  refine fn_of lk hcd scS (fun vs H Q E h => ?_) (fun A outer s H vs Q E hr h => ?_)
  · obtain ⟨t, a, ws, rfl, _⟩ := h
    rfl
  · obtain ⟨t, a, ws, rfl, hS, h1, h2, hne, hl, hws, hT, q⟩ := h
    refine ⟨_, PSs.nox (pss_cons (ps_if (pw_or (pt_cmpR op_lt (pv 0) pe_int (nomark _)) (pw_or (pt_cmpR op_lt (pe_callB call_len_seq (by rfl) m_len PySem.boot_len (pa_cons (pv 1) pa_nil)) pe_int (nomark _)) (pw_or1 (pt_cmpR op_gt (pe_callB call_len_seq (by rfl) m_len PySem.boot_len (pa_cons (pv 1) pa_nil)) (pe_glob (v := .int 4000) (by rfl) gM ⟨_, rfl⟩) (nomark _))))).pt (pss_one ps_no) pss_nil)
      (pss_cons (ps_if (pw_or (pt_cmpR op_lt (pe_callB (cr_minT rfl (Nat.lt_of_le_of_lt (Nat.add_le_add_left (by decide) _) hr.units)) (by rfl) m_min (by decide +kernel) (pa_cons (pv 1) pa_nil)) pe_int (nomark _)) (pw_or1 (pt_cmpR op_eq (pe_callB (cr_maxT rfl (Nat.lt_of_le_of_lt (Nat.add_le_add_left (by decide) _) hr.units)) (by rfl) m_max (by decide +kernel) (pa_cons (pv 1) pa_nil)) pe_int (nomark _)))).pt (pss_one ps_no) pss_nil)
      (pss_cons (ps_set (i := 2) scS.nd rfl (.inr rfl) (pe_callB (cr_sumT rfl) (by rfl) m_sum (by decide +kernel) (pa_cons (pv 1) pa_nil)))
      (pss_cons (ps_setLc (i := 3) (own := [("weight", 7)]) (g := gName 7) (tt := tYes) rfl scS.nd rfl rfl (sw_true rfl rfl rfl (by decide +kernel)) (pi_tup (pv 1)) (blkOk_by (N := NS) (sc := defScope sShare) (by decide +kernel)) (fun _ _ _ _ _ => pg_name (i := 7) scS.nd rfl (Or.inl rfl)) (fun _ _ _ _ _ => pts_nil)
          (fun _ _ _ _ _ => pe_op op_fdiv (pe_op op_mul (pv 0) (pv 7)) (pv 2)))
      (pss_cons (ps_set (i := 6) scS.nd rfl (.inr rfl) (pe_lc (own := [("weight", 7), ("part", 8)]) (g := gTup K 2 (gCons (gName 7) (gCons (gName 8) gNil))) (tt := tYes) rfl scS.nd (pi_zipTL (by rfl) m_zip (pa_cons (pv 1) (pa_cons (pv 3) pa_nil))) (blkOk_by (N := NS) (sc := defScope sShare) (by decide +kernel)) (fun _ _ _ _ _ => pg_tup rfl (pgs_cons (pg_name (i := 7) scS.nd rfl (Or.inl rfl)) (pgs_cons (pg_name (i := 8) scS.nd rfl (Or.inl rfl)) pgs_nil))) (fun _ _ _ _ _ => pts_nil)
          (fun _ _ _ _ _ => pe_op op_sub (pe_op op_mul (pv 0) (pv 7)) (pe_op op_mul (pv 8) (pv 2)))))
      (pss_cons (ps_set (i := 4) scS.nd rfl (.inl rfl) (pe_op op_sub (pv 0) (pe_callB (cr_sum rfl) (by rfl) m_sum (by decide +kernel) (pa_cons (pv 3) pa_nil))))
      (pss_cons (ps_for PassesOwn.never rfl (pi_list (pe_slice sl_list (pe_sortedR (T := T) (c := c) (P := Pt) (x := "k") (N := ["k", "rests"]) (fr := ["rests"]) (js := [6]) (j := 0) rfl (by rfl) m_sorted (prn_1 (by rfl) m_range (pe_callB call_len_seq (by rfl) m_len PySem.boot_len (pa_cons (pv 3) pa_nil))) TB rfl hm hu rfl (ndef_free (sc := defScope sShare) (fr := ["rests"]) (by decide +kernel)) (nscope_by (by decide +kernel)) (ndef_fr (sc := defScope sShare) (by decide +kernel)) rfl (hr.mono (by decide)) (fun _ _ _ _ _ => by rfl)
          (fun A outer s H f c' hA => pe_tup (pa_cons (pe_un un_neg (pe_ix (r := rIxL K) ix_list (pv 1) (pv 0) (fun _ _ => rfl))) (pa_cons (pv 0) pa_nil)))) po_none (po_some (pv 4)))) (pg_name (i := 5) scS.nd rfl (Or.inl rfl)) (pss_one (ps_asg (pe_op op_add (pe_ix ix_list (pv 3) (pv 5) (fun _ _ => rfl)) pe_int) (pg_sub (pv 3) (pv 5) set_list))))
      (pss_one (ps_ret (pe_tupleOf (by rfl) m_tuple (pv 3))))))))))), ?_⟩
    have hW : 0 < ws.sum := sum_pos hne fun x hx => (hws x hx).1
    have hW2 : ws.sum < 1073741824 := by
      have := sum_le id 1000 ws fun x hx => (hws x hx).2
      rw [List.map_id] at this
      omega
    have hL : (ws.map V.int).length = ws.length := List.length_map _
    have hpos : 0 < ws.length := List.length_pos_iff.mpr hne
    refine ⟨_, rfl, _, _, rfl, rfl, _, rfl, iteDF ((by omega)) ?_⟩
    refine ⟨.ref a, rfl, a, _, rfl, .inr hS, _, _, rfl, rfl, _, rfl, iteDF ((by rw [hL]; omega)) ?_⟩
    refine ⟨.ref a, rfl, a, _, rfl, .inr hS, _, _, rfl, rfl, _, rfl, iteDF ((by rw [hL]; omega)) ?_⟩
    refine ⟨.ref a, rfl, a, ws, rfl, hS, hpos, fun mn hmn _ => ⟨_, _, rfl, rfl, _, rfl, iteDF ((by have := (hws mn hmn).1; omega)) ?_⟩⟩
    refine ⟨.ref a, rfl, a, ws, rfl, hS, hpos, fun mx hmx _ => ⟨rfl, _, rfl, iteDF ((by have := (hws mx hmx).1; intro z; cases z; omega)) ?_⟩⟩
    refine ⟨.ref a, rfl, a, ws, rfl, hS, ?_⟩
    -- parts
    refine ⟨.ref a, rfl, a, rfl, ⟨_, hS⟩, fun D nD => ?_⟩
    refine lc_tup (K := K) (a := a) (xs := ws.map V.int) (fun i Hi => ExtN H Hi ∧ Tabs T Hi ∧ Hi D = some (.lst (((ws.take i).map fun x => t * x / ws.sum).map V.int)))
      ⟨extN_new nD, hT.ext (same_new nD), upd_same⟩ (fun i Hi _ h => extN_tup h.1 hS) ?_ ?_
    · rintro i x Hi hx ⟨e1, T1, hD⟩
      obtain ⟨z, hz, rfl⟩ := get_int hx
      have hi : i < ws.length := (List.getElem?_eq_some_iff.mp hz).1
      refine ⟨rfl, ?_⟩
      unfold tYes; dsimp only
      rw [if_pos rfl]
      refine ⟨_, rfl, _, rfl, _, _, rfl, rfl, .inl ⟨by omega, by omega⟩, _, rfl, _, _, rfl, rfl, ⟨hW, hW2⟩, _, hD, ?_, extN_put e1 nD, tabs_put T1 hD, ?_⟩
      · simp only [List.length_map, List.length_take, sizeLine_eq]; omega
      · rw [upd_same, take_next hz]
        simp
    · rintro Hn ⟨e1, T1, hD⟩
      rw [hL, List.take_of_length_le (Nat.le_refl _)] at hD
      have hD : Hn D = some (.lst ((baseL t ws).map V.int)) := hD
      have hbl : (baseL t ws).length = ws.length := List.length_map _
      -- rests
      refine ⟨.ref a, rfl, .ref D, rfl, a, D, _, _, rfl, extN_tup e1 hS, .inl (.inl hD), fun R nR => ?_⟩
      refine lc_zipTL (K := K) (xs := ws.map V.int) (ys := (baseL t ws).map V.int) (by rw [List.length_map, List.length_map, hbl]) (fun i Hi => ExtN Hn Hi ∧ Tabs T Hi ∧ Hi R = some (.lst (((ws.take i).map fun x => t * x - t * x / ws.sum * ws.sum).map V.int)))
        ⟨extN_new nR, T1.ext (same_new nR), upd_same⟩ (fun i Hi h => ⟨extN_tup (e1.trans h.1) hS, extN_seq h.1 (.inl (.inl hD))⟩) ?_ ?_
      · rintro i x y U Hi hx hy nU ⟨e2, T2, hR⟩
        obtain ⟨z, hz, rfl⟩ := get_int hx
        obtain ⟨z2, hz2, rfl⟩ := get_int hy
        have hi : i < ws.length := (List.getElem?_eq_some_iff.mp hz).1
        have ez : z2 = t * z / ws.sum := by
          unfold baseL at hz2
          rw [List.getElem?_map, hz] at hz2
          exact (Option.some.inj hz2).symm
        subst ez
        have nRU : R ≠ U := ne_of_none hR nU
        have hR' : (upd Hi U (.tup [.int z, .int (t * z / ws.sum)])) R = some (.lst (((ws.take i).map fun x => t * x - t * x / ws.sum * ws.sum).map V.int)) := by rw [upd_ne nRU]; exact hR
        refine ⟨U, _, rfl, .inl (.inl upd_same), rfl, _, _, rfl, _, _, rfl, rfl, rfl, ?_⟩
        unfold tYes; dsimp only
        rw [if_pos rfl]
        refine ⟨_, rfl, _, rfl, _, _, rfl, rfl, .inl ⟨by omega, by omega⟩, _, rfl, _, rfl, _, _, rfl, rfl, .inr ?_, _, _, rfl, rfl, _, hR', ?_, extN_put (e2.trans (extN_new nU)) nR, tabs_put (T2.ext (same_new nU)) hR', ?_⟩
        · constructor <;> omega
        · simp only [List.length_map, List.length_take, sizeLine_eq]; omega
        · rw [upd_same, take_next hz]
          simp
      · rintro Hm ⟨e2, T2, hR⟩
        rw [hL, List.take_of_length_le (Nat.le_refl _)] at hR
        have hR : Hm R = some (.lst ((restL t ws).map V.int)) := hR
        have hrl : (restL t ws).length = ws.length := List.length_map _
        have hD2 : Hm D = some (.lst ((baseL t ws).map V.int)) := e2 _ _ hD fun ps z => by cases z
        -- left
        refine ⟨_, rfl, .ref D, rfl, D, _, rfl, .inl (.inl hD2), _, _, rfl, rfl, ?_⟩
        -- the order
        refine ⟨.ref D, rfl, D, _, rfl, .inl (.inl (.inl hD2)), _, rfl, kS (restL t ws), .of_le (by decide) (by rw [List.length_map, hbl]; omega) (by decide) (by omega), T2, fun H5 e5 T5 => ⟨fun x hx H6 Q' sm kq => ?_, fun H6 p6 sm np => ?_⟩⟩
        · unfold rgV at hx
          obtain ⟨j, hj, rfl⟩ := List.mem_map.mp hx
          rw [List.mem_range, List.length_map, hbl, Int.sub_zero, Int.toNat_natCast] at hj
          have ej : (0 : Int) + (j : Nat) = (j : Int) := Int.zero_add _
          rw [ej] at kq ⊢
          have hg : ((restL t ws).map V.int)[j]? = some (.int ((restL t ws).getD j 0)) := by
            rw [List.getElem?_map, List.getD_eq_getElem?_getD, List.getElem?_eq_getElem (hrl ▸ hj)]
            rfl
          have hR6 : H6 R = some (.lst ((restL t ws).map V.int)) := sm _ _ (e5 _ _ hR fun ps z => by cases z)
          refine ⟨.ref R, rfl, _, rfl, R, _, _, _, rfl, rfl, .inl (.inl hR6), atI_nat hg, _, rfl, _, rfl, (by show 2 ≤ sizeLine; decide), fun t nt => kq t _ (same_new nt) ?_⟩
          rw [upd_same]
          simp [kS]
        · have nDR : D ≠ R := ne_of_none hD nR
          have eH : ExtN H H6 := (e1.trans e2).trans (e5.trans (ExtN.of sm))
          have T6 : Tabs T H6 := T5.ext sm
          have hD6 : H6 D = some (.lst ((baseL t ws).map V.int)) := sm _ _ (e5 _ _ hD2 fun ps z => by cases z)
          have hx : (rgV 0 (((baseL t ws).map V.int).length : Nat)).mergeSort (leK (kS (restL t ws))) = orderL (restL t ws) ws.length := by
            rw [List.length_map, hbl]
            rfl
          rw [hx]
          refine ⟨_, rfl, _, rfl, p6, _, rfl, .inl (.inl upd_same), fun c nc => ?_⟩
          have hcs : cutV (orderL (restL t ws) ws.length) none (some (t - (baseL t ws).sum)) = chosen t ws := rfl
          rw [hcs]
          have nDp : D ≠ p6 := ne_of_none hD6 np
          have hD7 : (upd H6 p6 (.lst (orderL (restL t ws) ws.length))) D = some (.lst ((baseL t ws).map V.int)) := by rw [upd_ne nDp]; exact hD6
          have nDc : D ≠ c := ne_of_none hD7 nc
          obtain ⟨js, ejs, hjl, _, hjs⟩ := chosen_is (t := t) hW
          refine ⟨c, rfl, ⟨_, .inl (.inl upd_same)⟩, for_list (K := K) (a := c) (xs := chosen t ws) (fun i σ Hi => ∃ v5 : Option V, σ = [some (.int t), some (.ref a), some (.int ws.sum), some (.ref D), some (.int (leftI t ws)), v5, some (.ref R), none, none] ∧ ExtN H Hi ∧ Tabs T Hi ∧ Hi c = some (.lst (chosen t ws)) ∧ Hi D = some (.lst ((((chosen t ws).take i).foldl bump (baseL t ws)).map V.int)))
            ⟨none, rfl, eH.trans ((extN_new np).trans (extN_new nc)), (T6.ext (same_new np)).ext (same_new nc), upd_same, by rw [upd_ne nDc]; exact hD7⟩ (fun i σ Hi _ ⟨_, _, _, _, hc, _⟩ => .inl (.inl hc)) ?_ ?_⟩
          · rintro i x σ Hi hx ⟨v5, rfl, e7, T7, hc7, hD8⟩
            have hx2 := hx
            rw [ejs, List.getElem?_map, Option.map_eq_some_iff] at hx2
            obtain ⟨j, hj, rfl⟩ := hx2
            have hjn : j < ws.length := (hjs j (List.mem_of_getElem? hj)).1
            generalize hps : ((chosen t ws).take i).foldl bump (baseL t ws) = ps at hD8
            have hpl : ps.length = ws.length := by rw [← hps, fold_length, hbl]
            have hg : (ps.map V.int)[j]? = some (.int (ps.getD j 0)) := by
              rw [List.getElem?_map, List.getD_eq_getElem?_getD, List.getElem?_eq_getElem (hpl ▸ hjn)]
              rfl
            have hix : ixN (ps.map V.int).length (j : Int) = some j := by
              unfold ixN
              rw [if_pos (by omega), if_pos (by rw [List.length_map]; omega), Int.toNat_natCast]
            refine ⟨.ref D, rfl, _, rfl, D, _, _, _, rfl, rfl, .inl (.inl hD8), atI_nat hg, _, _, rfl, rfl, .ref D, rfl, _, rfl, D, _, _, j, rfl, rfl, hD8, hix, ?_⟩
            refine ⟨_, rfl, extN_put e7 nD, tabs_put T7 hD8, ?_, ?_⟩
            · rw [upd_ne (fun z => nDc z.symm)]; exact hc7
            · rw [upd_same, take_next hx, List.foldl_append, hps]
              simp [bump, List.map_set]
          · rintro σ Hi ⟨v5, rfl, e7, T7, hc7, hD8⟩
            rw [List.take_of_length_le (Nat.le_refl _)] at hD8
            have hD8 : Hi D = some (.lst ((shareF t ws).map V.int)) := hD8
            exact ⟨.ref D, rfl, .inl ⟨D, _, rfl, .inl (.inl hD8), fun r nr => q _ r (e7.trans (extN_new nr)) (T7.ext (same_new nr)) upd_same⟩⟩
end
end L05
set_option maxHeartbeats 1000000
namespace L05
open PySem PySem.Spec PyProof.Rows L2 LamX NdefX HS
abbrev sFirst : Stmt := topS 10
abbrev sMore : Stmt := topS 11
abbrev sLaw : Stmt := topS 12
abbrev NF1 : List Str := ["script", "row", "spot", "total", "k", "weights", "kept", "told", "whole"]
theorem scF : FnScope NF1 ["script"] (defScope sFirst) := ⟨rfl, rfl, rfl, by decide +kernel, rfl, by decide +kernel, by decide +kernel⟩
theorem scO : FnScope ["script"] ["script"] (defScope sMore) := ⟨rfl, rfl, rfl, by decide +kernel, rfl, by decide +kernel, by decide +kernel⟩
theorem scL : FnScope ["script"] ["script"] (defScope sLaw) := ⟨rfl, rfl, rfl, by decide +kernel, rfl, by decide +kernel, by decide +kernel⟩
theorem dp_ints {K : PySem.W.Frag} {H : Hp} : ∀ l : List Int, DpAll K H (l.map V.int) (l.map PyData.int)
  | [] => .nil
  | i :: l => .cons (.int i) (dp_ints l)
theorem eqv_ints : ∀ l : List Int, PyData.eqvAll (l.map PyData.int) (l.map PyData.int) = true
  | [] => rfl
  | i :: l => by
    show (PyData.eqv (.int i) (.int i) && PyData.eqvAll (l.map PyData.int) (l.map PyData.int)) = true
    rw [eqv_ints l]
    show ((i == i) && true) = true
    simp
theorem lay_ints : ∀ l : List Int, PyData.canLayAll0 (l.map PyData.int) = true
  | [] => rfl
  | i :: l => by
    show (PyData.canLay0 (.int i) && PyData.canLayAll0 (l.map PyData.int)) = true
    rw [lay_ints l]; rfl
theorem shaped_tup (l : List Int) : SeqAt.shaped (.tuple (l.map PyData.int)) = true := by
  have h2 : PyData.depthAll (l.map PyData.int) = 0 := PySem.W.depth_ints l
  show (PyData.canLay0 (.tuple (l.map PyData.int)) && decide ((PyData.tuple (l.map PyData.int)).depth ≤ 64)) = true
  rw [show PyData.canLay0 (.tuple (l.map PyData.int)) = PyData.canLayAll0 (l.map PyData.int) from rfl, lay_ints, show (PyData.tuple (l.map PyData.int)).depth = PyData.depthAll (l.map PyData.int) + 1 from rfl, h2]
  rfl
theorem shaped_lst (l : List Int) : SeqAt.shaped (.list (l.map PyData.int)) = true := by
  have h2 : PyData.depthAll (l.map PyData.int) = 0 := PySem.W.depth_ints l
  show (PyData.canLay0 (.list (l.map PyData.int)) && decide ((PyData.list (l.map PyData.int)).depth ≤ 64)) = true
  rw [show PyData.canLay0 (.list (l.map PyData.int)) = PyData.canLayAll0 (l.map PyData.int) from rfl, lay_ints, show (PyData.list (l.map PyData.int)).depth = PyData.depthAll (l.map PyData.int) + 1 from rfl, h2]
  rfl
theorem iteB {b : Bool} {A B : Prop} (hb : b = false) (h : B) : if b = true then A else B := by
  rw [hb]
  exact iteF h
/-- the row, the place, the tables -/
def At (T : List (Addr × Str)) (p sp : Addr) (rs : List Int) (i : Nat) (H : Hp) : Prop := RowAt H p rs ∧ H sp = some (.lst [.int i]) ∧ Tabs T H
theorem At.next {T : List (Addr × Str)} {p sp : Addr} {rs : List Int} {i : Nat} {H : Hp} (h : At T p sp rs i H) (n : p ≠ sp) : At T p sp rs (i + 1) (upd H sp (.lst [.int ((i : Int) + 1)])) :=
  ⟨⟨by rw [upd_ne n]; exact h.1.1, h.1.2⟩, by rw [upd_same]; rfl, tabs_put h.2.2 h.2.1⟩
theorem At.put {T : List (Addr × Str)} {p sp D : Addr} {rs : List Int} {i : Nat} {H : Hp} {xs : List V} {o : HO} (h : At T p sp rs i H) (hD : H D = some (.lst xs)) (n1 : p ≠ D) (n2 : sp ≠ D) : At T p sp rs i (upd H D o) :=
  ⟨⟨by rw [upd_ne n1]; exact h.1.1, h.1.2⟩, by rw [upd_ne n2]; exact h.2.1, tabs_put h.2.2 hD⟩
theorem At.new {T : List (Addr × Str)} {p sp D : Addr} {rs : List Int} {i : Nat} {H : Hp} {o : HO} (h : At T p sp rs i H) (hD : H D = none) : At T p sp rs i (upd H D o) :=
  ⟨⟨same_new hD _ _ h.1.1, h.1.2⟩, same_new hD _ _ h.2.1, h.2.2.ext (same_new hD)⟩
def spFirst (K : PySem.W.Frag) (T : List (Addr × Str)) : Sp := fun vs H Q _ => ∃ (a : Addr) (ns : List Int), vs = [.ref a] ∧ SqL K H a (ns.map V.int) ∧ ns.length ≤ 63 ∧ Tabs T H ∧ ∀ H', Tabs T H' → Q (.bl true) H'
def spMore (T : List (Addr × Str)) : Sp := fun vs H Q _ => ∃ a : Addr, vs = [.ref a] ∧ Tabs T H ∧ ∀ H', Q (.bl true) H'
section
variable {P : Program} {w : World} {K : PySem.W.Frag} {mg : Str → Option Value} {base : Heap}
theorem ok_more {f fS : Addr} {fd fdS : FuncData} {T : List (Addr × Str)} (F : Fun K "_law_more" "_law_more" sMore f fd)
    (kS' : PySem.W.keepIn K (.ref fS) = true) (bS : Binds K fdS ["total", "weights"] []) (gS : mg "share" = some (.ref fS)) (GS : FnOk P w K mg base CX0 4 fS fdS ["total", "weights"] (spShare K T)) :
    FnOk P w K mg base CX0 5 f fd ["script"] (spMore T) := by
  refine F.ok scO (fun vs H Q E h => ?_) (fun cdv A outer s H vs Q E hr h => ?_)
  · obtain ⟨a, rfl, _⟩ := h
    rfl
  · obtain ⟨a, rfl, hT, q⟩ := h
    refine ⟨_, pss_one (ps_ret (pe_and (pe_cmpR (op_eqD hr.units) (pe_call GS hr (by rfl) gS kS' bS .nil pass0 (pa_cons pe_int (pa_cons (pe_tup (pa_cons pe_int (pa_cons pe_int pa_nil))) pa_nil))) (pe_tup (pa_cons pe_int (pa_cons pe_int pa_nil))) (nomark _))
      (pe_one (pe_cmpR (op_eqD hr.units) (pe_call GS hr (by rfl) gS kS' bS .nil pass0 (pa_cons pe_int (pa_cons (pe_tup (pa_cons pe_int (pa_cons pe_int (pa_cons pe_int pa_nil)))) pa_nil))) (pe_tup (pa_cons pe_int (pa_cons pe_int (pa_cons pe_int pa_nil)))) (nomark _))))), ?_⟩
    refine ⟨(by show 2 ≤ sizeLine; decide), fun t nt => ?_⟩
    refine ⟨7, t, [1, 2], rfl, .inl (.inl upd_same), by decide, by decide, by simp, by decide, by decide, hT.ext (same_new nt), fun H2 u e2 T2 hu => ?_⟩
    refine ⟨(by show 2 ≤ sizeLine; decide), fun v nv => ?_⟩
    have hu2 : (upd H2 v (.tup [.int 2, .int 5])) u = some (.tup (([2, 5] : List Int).map V.int)) := by rw [upd_ne (ne_of_none hu nv), hu, share_c]
    refine ⟨.tuple (([2, 5] : List Int).map .int), .tuple (([2, 5] : List Int).map .int), .tup (.inl (.inl hu2)) (dp_ints _), .tup (.inl (.inl upd_same)) (dp_ints [2, 5]), shaped_tup _, shaped_tup _, _, rfl, ?_⟩
    have T3 := T2.ext (same_new (o := .tup [.int 2, .int 5]) nv)
    show if true = true then _ else _
    refine iteT ?_
    refine ⟨(by show 3 ≤ sizeLine; decide), fun t' nt' => ?_⟩
    refine ⟨5, t', [1, 1, 1], rfl, .inl (.inl upd_same), by decide, by decide, by simp, by decide, by decide, T3.ext (same_new nt'), fun H4 u4 e4 T4 hu4 => ?_⟩
    refine ⟨(by show 3 ≤ sizeLine; decide), fun v' nv' => ?_⟩
    have hu5 : (upd H4 v' (.tup [.int 2, .int 2, .int 1])) u4 = some (.tup (([2, 2, 1] : List Int).map V.int)) := by rw [upd_ne (ne_of_none hu4 nv'), hu4, share_d]
    exact ⟨.tuple (([2, 2, 1] : List Int).map .int), .tuple (([2, 2, 1] : List Int).map .int), .tup (.inl (.inl hu5)) (dp_ints _), .tup (.inl (.inl upd_same)) (dp_ints [2, 2, 1]), shaped_tup _, shaped_tup _, q _⟩
end
end L05
set_option maxHeartbeats 1000000
namespace L05
open PySem PySem.Spec PyProof.Rows L2 LamX NdefX HS
section
variable {P : Program} {w : World} {K : PySem.W.Frag} {mg : Str → Option Value} {base : Heap}
theorem ok_first {f fN fT fS : Addr} {fd fdN fdT fdS : FuncData} {T : List (Addr × Str)} (F : Fun K "_law_first" "_law_first" sFirst f fd)
    (kN : PySem.W.keepIn K (.ref fN) = true) (bN : Binds K fdN ["script"] []) (gN : mg "_law_numbers" = some (.ref fN)) (GN : FnOk P w K mg base CX0 1 fN fdN ["script"] (spNums K))
    (kT : PySem.W.keepIn K (.ref fT) = true) (bT : Binds K fdT ["row", "spot", "limit"] []) (gT : mg "_law_take" = some (.ref fT)) (GT : FnOk P w K mg base CX0 2 fT fdT ["row", "spot", "limit"] spTake)
    (kS' : PySem.W.keepIn K (.ref fS) = true) (bS : Binds K fdS ["total", "weights"] []) (gS : mg "share" = some (.ref fS)) (GS : FnOk P w K mg base CX0 4 fS fdS ["total", "weights"] (spShare K T))
    (m_range : mg "range" = none) (m_list : mg "list" = none) (m_tuple : mg "tuple" = none) (m_len : mg "len" = none) (m_sum : mg "sum" = none) (m_abs : mg "abs" = none) :
    FnOk P w K mg base CX0 5 f fd ["script"] (spFirst K T) := by
  refine F.ok scF (fun vs H Q E h => ?_) (fun cdv A outer s H vs Q E hr h => ?_)
  · obtain ⟨a, ns, rfl, _⟩ := h
    rfl
  · obtain ⟨a, ns, rfl, hS, hlen, hT, q⟩ := h
    refine ⟨_, pss_cons (ps_set (i := 1) scF.nd rfl (.inr rfl) (pe_call GN (hr.mono (by decide)) (by rfl) gN kN bN .nil pass0 (pa_cons (pv 0) pa_nil)))
      (pss_cons (ps_set (i := 2) scF.nd rfl (.inr rfl) (pe_lst (pa_cons pe_int pa_nil)))
      (pss_cons (ps_set (i := 3) scF.nd rfl (.inl rfl) (pe_call GT (hr.mono (by decide)) (by rfl) gT kT bT .nil pass0 (pa_cons (pv 1) (pa_cons (pv 2) (pa_cons pe_int pa_nil)))))
      (pss_cons (ps_setLc (i := 5) (own := [("k", 4)]) (g := gName 4) (tt := tYes) rfl scF.nd rfl rfl (sw_true rfl rfl rfl (by decide +kernel)) (pi_range1 (by rfl) m_range (pa_cons (pe_op op_add pe_int (pe_call GT (hr.mono (by decide)) (by rfl) gT kT bT .nil pass0 (pa_cons (pv 1) (pa_cons (pv 2) (pa_cons pe_int pa_nil))))) pa_nil))
          (blkOk_by (N := NF1) (sc := defScope sFirst) (by decide +kernel)) (fun _ _ _ _ _ => pg_name (i := 4) scF.nd rfl (Or.inl rfl)) (fun _ _ _ _ _ => pts_nil)
          (fun _ _ _ _ _ => pe_op op_add pe_int (pe_call GT (hr.mono (by decide)) (by rfl) gT kT bT .nil pass0 (pa_cons (pv 1) (pa_cons (pv 2) (pa_cons pe_int pa_nil))))))
      (pss_cons (ps_set (i := 6) scF.nd rfl (.inl rfl) (pe_callTy call_list_of (by rfl) m_list boot_list (pa_cons (pv 5) pa_nil)))
      (pss_cons (ps_set (i := 7) scF.nd rfl (.inl rfl) (pe_call GS hr (by rfl) gS kS' bS .nil pass0 (pa_cons (pv 3) (pa_cons (pe_tupleOf (by rfl) m_tuple (pv 5)) pa_nil))))
      (pss_cons (ps_if (pw_or (pt_cmpR (op_neD hr.units) (pv 5) (pv 6) (nomark _)) (pw_or (pt_cmpR op_ne (pe_callB call_len_seq (by rfl) m_len PySem.boot_len (pa_cons (pv 7) pa_nil)) (pe_callB call_len_seq (by rfl) m_len PySem.boot_len (pa_cons (pv 5) pa_nil)) (nomark _)) (pw_or1 (pt_cmpR op_ne (pe_callB (cr_sumT rfl) (by rfl) m_sum (by decide +kernel) (pa_cons (pv 7) pa_nil)) (pv 3) (nomark _))))).pt (pss_one (ps_ret pe_bl)) pss_nil)
      (pss_cons (ps_set (i := 8) scF.nd rfl (.inl rfl) (pe_callB (cr_sum rfl) (by rfl) m_sum (by decide +kernel) (pa_cons (pv 5) pa_nil)))
      (pss_cons (ps_for PassesOwn.never rfl (pi_range1 (by rfl) m_range (pa_cons (pe_callB call_len_seq (by rfl) m_len PySem.boot_len (pa_cons (pv 7) pa_nil)) pa_nil)) (pg_name (i := 4) scF.nd rfl (Or.inl rfl))
          (pss_one (ps_if (pt_cmpR op_ge (pe_callB call_abs (by rfl) m_abs (by decide +kernel) (pa_cons (pe_op op_sub (pe_op op_mul (pe_ix ix_tup (pv 7) (pv 4) (fun _ _ => rfl)) (pv 8)) (pe_op op_mul (pv 3) (pe_ix ix_list (pv 5) (pv 4) (fun _ _ => rfl)))) pa_nil)) (pv 8) (nomark _)) (pss_one (ps_ret pe_bl)) pss_nil)))
      (pss_one (ps_ret (pe_and (pe_cmpR (op_eqD hr.units) (pe_call GS hr (by rfl) gS kS' bS .nil pass0 (pa_cons pe_int (pa_cons (pe_tup (pa_cons pe_int (pa_cons pe_int (pa_cons pe_int pa_nil)))) pa_nil))) (pe_tup (pa_cons pe_int (pa_cons pe_int (pa_cons pe_int pa_nil)))) (nomark _))
        (pe_one (pe_cmpR (op_eqD hr.units) (pe_call GS hr (by rfl) gS kS' bS .nil pass0 (pa_cons pe_int (pa_cons (pe_tup (pa_cons pe_int (pa_cons pe_int pa_nil))) pa_nil))) (pe_tup (pa_cons pe_int (pa_cons pe_int pa_nil))) (nomark _)))))))))))))), ?_⟩
    refine ⟨.ref a, rfl, a, ns, rfl, hS, hlen, fun H1 p rs s1 np hR => ?_⟩
    refine ⟨by decide, fun sp nsp => ?_⟩
    have nps : p ≠ sp := ne_of_none hR.1 nsp
    have A0 : At T p sp rs 0 (upd H1 sp (.lst [.int 0])) := ⟨⟨same_new nsp _ _ hR.1, hR.2⟩, upd_same, (hT.ext s1).ext (same_new nsp)⟩
    refine ⟨.ref p, rfl, .ref sp, rfl, p, sp, rs, 0, 100000, rfl, A0.1, nps, A0.2.1, by decide, by decide, by decide, fun tot g1 g2 => ?_⟩
    have A1 := A0.next nps
    refine ⟨.ref p, rfl, .ref sp, rfl, p, sp, rs, 1, 10, rfl, A1.1, nps, A1.2.1, by decide, by decide, by decide, fun d g3 g4 => ?_⟩
    have A2 := A1.next nps
    generalize upd (upd (upd H1 sp (.lst [.int 0])) sp (.lst [.int (((0 : Nat) : Int) + 1)])) sp (.lst [.int (((0 + 1 : Nat) : Int) + 1)]) = H3 at A2
    refine ⟨_, _, rfl, rfl, 1 + d, rfl, by omega, by omega, fun D nD => ?_⟩
    have nDp : p ≠ D := ne_of_none A2.1.1 nD
    have nDs : sp ≠ D := ne_of_none A2.2.1 nD
    refine lc_range (lo := 0) (n := (1 + d).toNat) (fun i H => ∃ ps : List Int, H D = some (.lst (ps.map V.int)) ∧ ps.length = i ∧ (∀ x ∈ ps, 1 ≤ x ∧ x ≤ 1000) ∧ At T p sp rs (2 + i) H)
      ⟨[], upd_same, rfl, fun x hx => by simp at hx, A2.new nD⟩ ?_ ?_
    · rintro i Hi hi ⟨ps, hD, hl, hb, Ai⟩
      have hi8 : i < 10 := by omega
      refine ⟨rfl, ?_⟩
      unfold tYes; dsimp only
      rw [if_pos rfl]
      refine ⟨.ref p, rfl, .ref sp, rfl, p, sp, rs, 2 + i, 1000, rfl, Ai.1, nps, Ai.2.1, by omega, by decide, by decide, fun x g5 g6 => ?_⟩
      have hD' : upd Hi sp (.lst [.int (((2 + i : Nat) : Int) + 1)]) D = some (.lst (ps.map V.int)) := by rw [upd_ne nDs.symm]; exact hD
      refine ⟨_, _, rfl, rfl, _, hD', by rw [List.length_map, sizeLine_eq]; omega, ps ++ [1 + x], ?_, ?_, ?_, (Ai.next nps).put hD' nDp nDs⟩
      · rw [upd_same, List.map_append]; rfl
      · rw [List.length_append, hl]; rfl
      · intro y hy
        rcases List.mem_append.mp hy with hy | hy
        · exact hb y hy
        · obtain rfl : y = 1 + x := by simpa using hy
          omega
    · rintro Hn ⟨ps, hD, hl, hb, An⟩
      have hpos : ps ≠ [] := fun z => by rw [z] at hl; simp at hl; omega
      have hl10 : ps.length ≤ 10 := by omega
      have hW : 0 < ps.sum := sum_pos hpos fun x hx => (hb x hx).1
      have hW2 : ps.sum ≤ 10000 := by
        have := sum_le id 1000 ps fun x hx => (hb x hx).2
        rw [List.map_id] at this
        omega
      -- kept
      refine ⟨.ref D, rfl, D, _, rfl, .inl (.inl (.inl hD)), fun l nl => ?_⟩
      have hDl : D ≠ l := ne_of_none hD nl
      have hD2 : (upd Hn l (.lst (ps.map V.int))) D = some (.lst (ps.map V.int)) := by rw [upd_ne hDl]; exact hD
      have hl2 : (upd Hn l (.lst (ps.map V.int))) l = some (.lst (ps.map V.int)) := upd_same
      have T2 : Tabs T (upd Hn l (.lst (ps.map V.int))) := An.2.2.ext (same_new nl)
      generalize upd Hn l (.lst (ps.map V.int)) = H4 at hD2 hl2 T2
      -- told
      refine ⟨_, rfl, .ref D, rfl, .inl ⟨D, _, rfl, .inl (.inl hD2), fun t nt => ?_⟩⟩
      refine ⟨tot, t, ps, rfl, .inl (.inl upd_same), g1, by omega, hpos, hl10, hb, T2.ext (same_new nt), fun H8 u e8 T8 hu8 => ?_⟩
      have hD8 : H8 D = some (.lst (ps.map V.int)) := e8 _ _ (same_new nt _ _ hD2) fun ps z => by cases z
      have hl8 : H8 l = some (.lst (ps.map V.int)) := e8 _ _ (same_new nt _ _ hl2) fun ps z => by cases z
      have hsl := share_length tot ps
      refine ⟨.ref D, rfl, .ref l, rfl, .list (ps.map .int), .list (ps.map .int), .lst (.inl (.inl hD8)) (dp_ints ps), .lst (.inl (.inl hl8)) (dp_ints ps), shaped_lst ps, shaped_lst ps, _, rfl, iteB (by show (!PyData.eqvAll (ps.map .int) (ps.map .int)) = false; rw [eqv_ints]; rfl) ?_⟩
      refine ⟨.ref u, rfl, u, _, rfl, .inr (.inl (.inl hu8)), .ref D, rfl, D, _, rfl, .inl (.inl (.inl hD8)), rfl, _, rfl, iteNS (by rw [List.length_map, List.length_map, hsl]) ?_⟩
      refine ⟨.ref u, rfl, u, _, rfl, .inl (.inl hu8), _, rfl, rfl, _, rfl, iteNS (by rw [share_sum hW]) ?_⟩
      refine ⟨.ref D, rfl, D, ps, rfl, .inl (.inl hD8), ?_⟩
      -- near
      refine ⟨.ref u, rfl, u, _, rfl, .inr (.inl (.inl hu8)), _, rfl, by rw [List.length_map, hsl]; omega, by rw [List.length_map, hsl]; omega, ?_⟩
      have hn : (((((shareF tot ps).map V.int).length : Nat) : Int)).toNat = ps.length := by rw [List.length_map, hsl]; rfl
      rw [hn]
      refine for_range (lo := 0) (n := ps.length) (fun j σ Hj => ∃ v4 : Option V, σ = [some (.ref a), some (.ref p), some (.ref sp), some (.int tot), v4, some (.ref D), some (.ref l), some (.ref u), some (.int ps.sum)] ∧ Hj = H8) ⟨none, rfl, rfl⟩ ?_ ?_
      · rintro j σ Hj hj ⟨v4, rfl, rfl⟩
        obtain ⟨n1, n2⟩ := share_near (t := tot) hW hj
        have q1 : ((shareF tot ps).map V.int)[j]? = some (.int ((shareF tot ps).getD j 0)) := by
          rw [List.getElem?_map, List.getD_eq_getElem?_getD, List.getElem?_eq_getElem (hsl ▸ hj)]
          rfl
        have q2 : (ps.map V.int)[j]? = some (.int (ps.getD j 0)) := by
          rw [List.getElem?_map, List.getD_eq_getElem?_getD, List.getElem?_eq_getElem hj]
          rfl
        have ej : (0 : Int) + (j : Nat) = (j : Int) := Int.zero_add _
        rw [ej]
        refine ⟨.ref u, rfl, _, rfl, u, _, _, _, rfl, rfl, .inl (.inl hu8), atI_nat q1, _, rfl, _, _, rfl, rfl, .inr ⟨by omega, by omega⟩, _, rfl, .ref D, rfl, _, rfl, D, _, _, _, rfl, rfl, .inl (.inl hD8), atI_nat q2, _, _, rfl, rfl, .inl ⟨by omega, by omega⟩, _, _, rfl, rfl, ?_⟩
        refine ⟨_, rfl, _, rfl, _, _, rfl, rfl, _, rfl, iteDF ?_ ⟨_, rfl, rfl⟩⟩
        split <;> omega
      · rintro σ Hj ⟨v4, rfl, rfl⟩
        refine ⟨(by show 3 ≤ sizeLine; decide), fun t' nt' => ?_⟩
        refine ⟨10, t', [1, 1, 1], rfl, .inl (.inl upd_same), by decide, by decide, by simp, by decide, by decide, T8.ext (same_new nt'), fun H2 u e2 T2 hu => ?_⟩
        refine ⟨(by show 3 ≤ sizeLine; decide), fun v nv => ?_⟩
        have hu2 : (upd H2 v (.tup [.int 4, .int 3, .int 3])) u = some (.tup (([4, 3, 3] : List Int).map V.int)) := by rw [upd_ne (ne_of_none hu nv), hu, share_a]
        refine ⟨.tuple (([4, 3, 3] : List Int).map .int), .tuple (([4, 3, 3] : List Int).map .int), .tup (.inl (.inl hu2)) (dp_ints _), .tup (.inl (.inl upd_same)) (dp_ints [4, 3, 3]), shaped_tup _, shaped_tup _, _, rfl, ?_⟩
        have T3 := T2.ext (same_new (o := .tup [.int 4, .int 3, .int 3]) nv)
        show if true = true then _ else _
        refine iteT ?_
        refine ⟨(by show 2 ≤ sizeLine; decide), fun t2 nt2 => ?_⟩
        refine ⟨0, t2, [1, 2], rfl, .inl (.inl upd_same), by decide, by decide, by simp, by decide, by decide, T3.ext (same_new nt2), fun H4 u4 e4 T4 hu4 => ?_⟩
        refine ⟨(by show 2 ≤ sizeLine; decide), fun v' nv' => ?_⟩
        have hu5 : (upd H4 v' (.tup [.int 0, .int 0])) u4 = some (.tup (([0, 0] : List Int).map V.int)) := by rw [upd_ne (ne_of_none hu4 nv'), hu4, share_b]
        exact ⟨.tuple (([0, 0] : List Int).map .int), .tuple (([0, 0] : List Int).map .int), .tup (.inl (.inl hu5)) (dp_ints _), .tup (.inl (.inl upd_same)) (dp_ints [0, 0]), shaped_tup _, shaped_tup _, q _ (T4.ext (same_new nv'))⟩
end
end L05
namespace L05
open PySem PySem.Spec PyProof.Rows L2 LamX NdefX HS
def spLaw (K : PySem.W.Frag) (T : List (Addr × Str)) : Sp := fun vs H Q _ => ∃ (a : Addr) (ns : List Int), vs = [.ref a] ∧ SqL K H a (ns.map V.int) ∧ ns.length ≤ 63 ∧ Tabs T H ∧ ∀ H', Q (.bl true) H'
theorem ok_law {P : Program} {w : World} {K : PySem.W.Frag} {mg : Str → Option Value} {base : Heap} {f f1 f2 : Addr} {fd fd1 fd2 : FuncData} {T : List (Addr × Str)} (F : Fun K "law" "law" sLaw f fd)
    (k1 : PySem.W.keepIn K (.ref f1) = true) (b1 : Binds K fd1 ["script"] []) (g1 : mg "_law_first" = some (.ref f1)) (G1 : FnOk P w K mg base CX0 5 f1 fd1 ["script"] (spFirst K T))
    (k2 : PySem.W.keepIn K (.ref f2) = true) (b2 : Binds K fd2 ["script"] []) (g2 : mg "_law_more" = some (.ref f2)) (G2 : FnOk P w K mg base CX0 5 f2 fd2 ["script"] (spMore T)) :
    FnOk P w K mg base CX0 6 f fd ["script"] (spLaw K T) := by
  refine F.ok scL (fun vs H Q E h => ?_) (fun cdv A outer s H vs Q E hr h => ?_)
  · obtain ⟨a, ns, rfl, _⟩ := h
    rfl
  · obtain ⟨a, ns, rfl, hS, hlen, hT, q⟩ := h
    refine ⟨_, pss_one (ps_ret (pe_and (pe_call G1 hr (by rfl) g1 k1 b1 .nil pass0 (pa_cons (pv 0) pa_nil)) (pe_one (pe_call G2 hr (by rfl) g2 k2 b2 .nil pass0 (pa_cons (pv 0) pa_nil))))), ?_⟩
    refine ⟨.ref a, rfl, a, ns, rfl, hS, hlen, hT, fun H1 T1 => ⟨true, rfl, ?_⟩⟩
    refine iteT ?_
    exact ⟨.ref a, rfl, a, rfl, T1, fun H2 => q H2⟩
abbrev fob (st : Stmt) (nm : Str) (kV dc pm : Value) (an : Option Addr) (cd ct : Value) : FuncData := PySem.W.fnOf nm nm (defArgs st) (defBody st) (defScope st) .none kV dc pm an cd ct
theorem all_mk {l : PySem.W.OpenLaw} {w : World} {K : PySem.W.Frag} {h : Heap} {mg : Str → Option Value} {fa f5 f7 f8 f9 f10 f11 f12 c5 P5 : Addr} {tR : Tok} (X : K.In h) (G : h.Ns mainGlobals mg) (hfa : mg "law" = some (.ref fa))
    {od5 an5 od7 an7 od8 an8 od9 an9 od10 an10 od11 an11 od12 an12 : Option Addr} {sl5 sl7 sl8 sl9 sl10 sl11 sl12 : Array (Option Value)}
    {oc5 kV5 dc5 pm5 ct5 oc7 kV7 dc7 pm7 ct7 cd7 oc8 kV8 dc8 pm8 ct8 cd8 oc9 kV9 dc9 pm9 ct9 cd9 oc10 kV10 dc10 pm10 ct10 cd10 oc11 kV11 dc11 pm11 ct11 cd11 oc12 kV12 dc12 pm12 ct12 cd12 : Value}
    (a5 : PySem.W.nsIn K mainGlobals "share" = some (some (.ref f5))) (l5 : K.lookup f5 = some ⟨oc5, od5, .func (fob sShare "share" kV5 dc5 pm5 an5 (.ref c5) ct5), sl5⟩) (i5 : PySem.W.codeIn K (.ref c5) "share" = true) (k5 : PySem.W.keepIn K (.ref f5) = true)
    (a7 : PySem.W.nsIn K mainGlobals "_law_numbers" = some (some (.ref f7))) (l7 : K.lookup f7 = some ⟨oc7, od7, .func (fob sNums "_law_numbers" kV7 dc7 pm7 an7 cd7 ct7), sl7⟩) (i7 : PySem.W.codeIn K cd7 "_law_numbers" = true) (k7 : PySem.W.keepIn K (.ref f7) = true)
    (a8 : PySem.W.nsIn K mainGlobals "_law_draw" = some (some (.ref f8))) (l8 : K.lookup f8 = some ⟨oc8, od8, .func (fob sDraw "_law_draw" kV8 dc8 pm8 an8 cd8 ct8), sl8⟩) (i8 : PySem.W.codeIn K cd8 "_law_draw" = true) (k8 : PySem.W.keepIn K (.ref f8) = true)
    (a9 : PySem.W.nsIn K mainGlobals "_law_take" = some (some (.ref f9))) (l9 : K.lookup f9 = some ⟨oc9, od9, .func (fob sTake "_law_take" kV9 dc9 pm9 an9 cd9 ct9), sl9⟩) (i9 : PySem.W.codeIn K cd9 "_law_take" = true) (k9 : PySem.W.keepIn K (.ref f9) = true)
    (a10 : PySem.W.nsIn K mainGlobals "_law_first" = some (some (.ref f10))) (l10 : K.lookup f10 = some ⟨oc10, od10, .func (fob sFirst "_law_first" kV10 dc10 pm10 an10 cd10 ct10), sl10⟩) (i10 : PySem.W.codeIn K cd10 "_law_first" = true) (k10 : PySem.W.keepIn K (.ref f10) = true)
    (a11 : PySem.W.nsIn K mainGlobals "_law_more" = some (some (.ref f11))) (l11 : K.lookup f11 = some ⟨oc11, od11, .func (fob sMore "_law_more" kV11 dc11 pm11 an11 cd11 ct11), sl11⟩) (i11 : PySem.W.codeIn K cd11 "_law_more" = true) (k11 : PySem.W.keepIn K (.ref f11) = true)
    (a12 : PySem.W.nsIn K mainGlobals "law" = some (some (.ref f12))) (l12 : K.lookup f12 = some ⟨oc12, od12, .func (fob sLaw "law" kV12 dc12 pm12 an12 cd12 ct12), sl12⟩) (i12 : PySem.W.codeIn K cd12 "law" = true) (k12 : PySem.W.keepIn K (.ref f12) = true)
    (r1 : PySem.W.nsIn K mainGlobals "MOST_WEIGHTS" = some (some (.int 4000 tR)))
    (h5 : PySem.W.codeHdIn K c5 P5 = true) (o5 : K.lookup P5 = none) (y5 : h.get? P5 = some { cls := .none, data := .fields #[] })
    (z0 : PySem.W.nsIn K mainGlobals "range" = some none) (z1 : PySem.W.nsIn K mainGlobals "int" = some none) (z2 : PySem.W.nsIn K mainGlobals "len" = some none) (z3 : PySem.W.nsIn K mainGlobals "sorted" = some none) (z4 : PySem.W.nsIn K mainGlobals "list" = some none) (z5 : PySem.W.nsIn K mainGlobals "tuple" = some none) (z6 : PySem.W.nsIn K mainGlobals "sum" = some none) (z7 : PySem.W.nsIn K mainGlobals "min" = some none) (z8 : PySem.W.nsIn K mainGlobals "max" = some none) (z9 : PySem.W.nsIn K mainGlobals "zip" = some none) (z10 : PySem.W.nsIn K mainGlobals "abs" = some none) :
    LawAtS l w K CX0 6 63 "script" mg fa h := by
  have e := hfa.symm.trans (PySem.W.mg_of X G a12)
  cases e
  have F5 := fun_mk (st := sShare) l5 i5 k5
  have b5 := F5.binds (ps := ["total", "weights"]) fun _ _ _ _ _ _ us hl => match us, hl with | [_, _], _ => rfl
  have F7 := fun_mk (st := sNums) l7 i7 k7
  have b7 := F7.binds (ps := ["script"]) fun _ _ _ _ _ _ us hl => match us, hl with | [_], _ => rfl
  have F8 := fun_mk (st := sDraw) l8 i8 k8
  have b8 := F8.binds (ps := ["row", "at", "limit"]) fun _ _ _ _ _ _ us hl => match us, hl with | [_, _, _], _ => rfl
  have F9 := fun_mk (st := sTake) l9 i9 k9
  have b9 := F9.binds (ps := ["row", "spot", "limit"]) fun _ _ _ _ _ _ us hl => match us, hl with | [_, _, _], _ => rfl
  have F10 := fun_mk (st := sFirst) l10 i10 k10
  have b10 := F10.binds (ps := ["script"]) fun _ _ _ _ _ _ us hl => match us, hl with | [_], _ => rfl
  have F11 := fun_mk (st := sMore) l11 i11 k11
  have b11 := F11.binds (ps := ["script"]) fun _ _ _ _ _ _ us hl => match us, hl with | [_], _ => rfl
  have F12 := fun_mk (st := sLaw) l12 i12 k12
  have b12 := F12.binds (ps := ["script"]) fun _ _ _ _ _ _ us hl => match us, hl with | [_], _ => rfl
  have m_range := PySem.W.mg_none_of X G z0
  have m_int := PySem.W.mg_none_of X G z1
  have m_len := PySem.W.mg_none_of X G z2
  have m_sorted := PySem.W.mg_none_of X G z3
  have m_list := PySem.W.mg_none_of X G z4
  have m_tuple := PySem.W.mg_none_of X G z5
  have m_sum := PySem.W.mg_none_of X G z6
  have m_min := PySem.W.mg_none_of X G z7
  have m_max := PySem.W.mg_none_of X G z8
  have m_zip := PySem.W.mg_none_of X G z9
  have m_abs := PySem.W.mg_none_of X G z10
  have g5 := PySem.W.mg_of X G a5
  refine ⟨fob sLaw "law" kV12 dc12 pm12 an12 cd12 ct12, [(c5, P5)], spLaw K [(P5, qShare)], ?_, ?_, ?_, fun s v => .of_eq rfl, fun H a ns hl _ hH hS => ⟨a, ns, rfl, hS, hl, ?_, fun _ => rfl⟩, fun base KB GB TB => ?_⟩
  · intro p hp
    obtain rfl : p = (c5, P5) := by simpa using hp
    exact y5
  · intro p hp
    obtain rfl : p = (c5, P5) := by simpa using hp
    exact o5
  · intro p hp
    obtain rfl : p = (c5, P5) := by simpa using hp
    exact PySem.W.codeHd_of_K X h5
  · intro p hp
    obtain rfl : p = (P5, qShare) := by simpa using hp
    exact TabS.nil (hH (c5, P5) (by simp))
  · have t5 := TB (c5, P5) (by simp)
    have GS := ok_share (P := l.prog) (w := w) (T := [(P5, qShare)]) l5 i5 t5 (by simp) (fun p hp hq => by
      obtain rfl : p = (P5, qShare) := by simpa using hp
      rfl) (PySem.W.mg_of X G r1) m_sorted m_tuple m_range m_len m_sum m_min m_max m_zip
    have GF := ok_first (P := l.prog) (w := w) (base := base) (T := [(P5, qShare)]) F10 k7 b7 (PySem.W.mg_of X G a7) (ok_nums F7 m_range m_int m_len) k9 b9 (PySem.W.mg_of X G a9) (ok_take F9 F8 b8 (PySem.W.mg_of X G a8) m_int m_len) k5 b5 g5 GS m_range m_list m_tuple m_len m_sum m_abs
    have GO := ok_more (P := l.prog) (w := w) (base := base) (T := [(P5, qShare)]) F11 k5 b5 g5 GS
    exact ok_law (P := l.prog) (w := w) (base := base) F12 k10 b10 (PySem.W.mg_of X G a10) GF k11 b11 (PySem.W.mg_of X G a11) GO
end L05
open PySem PySem.W PyProof.Rows
set_option maxRecDepth 100000 in
set_option maxHeartbeats 0 in
theorem PySem.Challenge.cw_seatrush_k05_share_holds : PySem.Challenge.rw_seatrush_k05_share.Holds := by
  w_on; o_law; k_head; (case hw => w_witness2)
  k_fill
  refine LamX.walk_ofTs (l := PySem.Challenge.rw_seatrush_k05_share) (n := 63) (k := 6) (x := "script") (CX := fun _ => L2.CX0) rfl (by decide) rfl ⟨rfl, by decide, by decide⟩ (fun w h Y => PySem.W.km_in_of Y) ?F (fun _ _ _ _ _ z => z)
  case F =>
    intro w mg fa h Y KX G hmg
    refine' L05.all_mk KX G hmg ?a5 ?l5 ?i5 ?k5 ?a7 ?l7 ?i7 ?k7 ?a8 ?l8 ?i8 ?k8 ?a9 ?l9 ?i9 ?k9 ?a10 ?l10 ?i10 ?k10 ?a11 ?l11 ?i11 ?k11 ?a12 ?l12 ?i12 ?k12 ?r1 ?h5 ?o5 ?y5 ?z0 ?z1 ?z2 ?z3 ?z4 ?z5 ?z6 ?z7 ?z8 ?z9 ?z10
    (case a5 => k_is); (case l5 => k_is); (case i5 => k_is); (case k5 => k_is)
    (case a7 => k_is); (case l7 => k_is); (case i7 => k_is); (case k7 => k_is)
    (case a8 => k_is); (case l8 => k_is); (case i8 => k_is); (case k8 => k_is)
    (case a9 => k_is); (case l9 => k_is); (case i9 => k_is); (case k9 => k_is)
    (case a10 => k_is); (case l10 => k_is); (case i10 => k_is); (case k10 => k_is)
    (case a11 => k_is); (case l11 => k_is); (case i11 => k_is); (case k11 => k_is)
    (case a12 => k_is); (case l12 => k_is); (case i12 => k_is); (case k12 => k_is)
    (case r1 => k_is)
    (case y5 => exact PySem.W.km_tabs_of Y _ (.head _)); (case h5 => kernel_rfl); (case o5 => kernel_rfl)
    (case z0 => k_is); (case z1 => k_is); (case z2 => k_is); (case z3 => k_is); (case z4 => k_is); (case z5 => k_is); (case z6 => k_is); (case z7 => k_is); (case z8 => k_is); (case z9 => k_is); (case z10 => k_is)
