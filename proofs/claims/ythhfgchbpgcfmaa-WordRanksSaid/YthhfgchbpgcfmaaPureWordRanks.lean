/-
  The pure statement of the law WordRanks: its printed function answers true, with rounds enough, for every input of its kinds.
-/
import Derived.Test.YthhfgchbpgcfmaaWB
namespace Go.Proofs.Ythhfgchbpgcfmaa.Pure
open Go.RowKit Go.Proofs.Ythhfgchbpgcfmaa.QWord

theorem WordRanks : tappetlaw01_WordRanks.Pure := WB.WordRanks

end Go.Proofs.Ythhfgchbpgcfmaa.Pure
