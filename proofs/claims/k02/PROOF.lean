import PyProof.Rows.All
import Wide.All
import OpenK.AllK
import Wide.FinOn
import PySem.Challenge.RW_recallrow_k02_templates_refused
open PySem PySem.W PySem.W.X PyProof.Rows
set_option Elab.async false
set_option maxRecDepth 100000 in
set_option maxHeartbeats 0 in
theorem PySem.Challenge.cw_recallrow_k02_templates_refused_holds : PySem.Challenge.rw_recallrow_k02_templates_refused.Holds := by
  open_z
