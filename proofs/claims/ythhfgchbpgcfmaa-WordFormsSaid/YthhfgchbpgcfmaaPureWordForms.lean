/-
  The pure statement of the law WordForms: its printed function answers true, with rounds enough, for every input of its kinds.
-/
import Derived.Test.YthhfgchbpgcfmaaWB
namespace Go.Proofs.Ythhfgchbpgcfmaa.Pure
open Go.RowKit Go.Proofs.Ythhfgchbpgcfmaa.QWord

theorem WordForms : tappetlaw01_WordForms.Pure := WB.WordForms

end Go.Proofs.Ythhfgchbpgcfmaa.Pure
