import PyProof.Rows.All
import Wide.All
import OpenK.AllK
import Wide.FinOn
import PySem.Challenge.RW_seatrush_k06_share_refused
open PySem PySem.W PySem.W.X PyProof.Rows
set_option Elab.async false
set_option maxRecDepth 100000 in
set_option maxHeartbeats 0 in
theorem PySem.Challenge.cw_seatrush_k06_share_refused_holds : PySem.Challenge.rw_seatrush_k06_share_refused.Holds := by
  open_z
