import PyProof.Rows.All
import Wide.All
import OpenK.AllK
import Wide.FinOn
import PySem.Challenge.RW_tastehouse_k38_refusals_stand_alone
open PySem PySem.W PySem.W.X PyProof.Rows
set_option Elab.async false
set_option maxRecDepth 100000 in
set_option maxHeartbeats 0 in
theorem PySem.Challenge.cw_tastehouse_k38_refusals_stand_alone_holds : PySem.Challenge.rw_tastehouse_k38_refusals_stand_alone.Holds := by
  open_z
