/-
  The pure statement of the law WordParts: its printed function answers true, with rounds enough, for every input of its kinds.
-/
import Derived.Test.YthhfgchbpgcfmaaWB
namespace Go.Proofs.Ythhfgchbpgcfmaa.Pure
open Go.RowKit Go.Proofs.Ythhfgchbpgcfmaa.QWord

theorem WordParts : tappetlaw01_WordParts.Pure := WB.WordParts

end Go.Proofs.Ythhfgchbpgcfmaa.Pure
