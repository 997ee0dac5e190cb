/-
  The pure statement of the law WordUndone: its printed function answers true, with rounds enough, for every input of its kinds.
-/
import Derived.Test.YthhfgchbpgcfmaaWB
namespace Go.Proofs.Ythhfgchbpgcfmaa.Pure
open Go.RowKit Go.Proofs.Ythhfgchbpgcfmaa.QWord

theorem WordUndone : tappetlaw01_WordUndone.Pure := WB.WordUndone

end Go.Proofs.Ythhfgchbpgcfmaa.Pure
