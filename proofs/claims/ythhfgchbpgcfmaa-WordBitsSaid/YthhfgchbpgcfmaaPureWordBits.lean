/-
  The pure statement of the law WordBits: its printed function answers true, with rounds enough, for every input of its kinds.
-/
import Derived.Test.YthhfgchbpgcfmaaWB
namespace Go.Proofs.Ythhfgchbpgcfmaa.Pure
open Go.RowKit Go.Proofs.Ythhfgchbpgcfmaa.QWord

theorem WordBits : tappetlaw01_WordBits.Pure := WB.WordBits

end Go.Proofs.Ythhfgchbpgcfmaa.Pure
