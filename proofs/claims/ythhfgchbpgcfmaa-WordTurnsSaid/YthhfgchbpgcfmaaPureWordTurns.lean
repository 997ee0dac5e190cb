/-
  The pure statement of the law WordTurns: its printed function answers true, with rounds enough, for every input of its kinds.
-/
import Derived.Test.YthhfgchbpgcfmaaWB
namespace Go.Proofs.Ythhfgchbpgcfmaa.Pure
open Go.RowKit Go.Proofs.Ythhfgchbpgcfmaa.QWord

theorem WordTurns : tappetlaw01_WordTurns.Pure := WB.WordTurns

end Go.Proofs.Ythhfgchbpgcfmaa.Pure
