/-
  The pure statement of the law WordReckons: its printed function answers true, with rounds enough, for every input of its kinds.
-/
import Derived.Test.YthhfgchbpgcfmaaWB
namespace Go.Proofs.Ythhfgchbpgcfmaa.Pure
open Go.RowKit Go.Proofs.Ythhfgchbpgcfmaa.QWord

theorem WordReckons : tappetlaw01_WordReckons.Pure := WB.WordReckons

end Go.Proofs.Ythhfgchbpgcfmaa.Pure
