/-
  The pure statement of the law WordBack: its printed function answers true, with rounds enough, for every input of its kinds.
-/
import Derived.Test.YthhfgchbpgcfmaaWB
namespace Go.Proofs.Ythhfgchbpgcfmaa.Pure
open Go.RowKit Go.Proofs.Ythhfgchbpgcfmaa.QWord

theorem WordBack : tappetlaw01_WordBack.Pure := WB.WordBack

end Go.Proofs.Ythhfgchbpgcfmaa.Pure
