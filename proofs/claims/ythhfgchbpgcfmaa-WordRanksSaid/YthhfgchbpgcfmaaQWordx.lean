-- written by wip/xprint.py out of the translation's own print; Lean checks it
import Derived.Test.YthhfgchbpgcfmaaQWordx0
import Derived.Test.YthhfgchbpgcfmaaQWordx1
import Derived.Test.YthhfgchbpgcfmaaQWordx2
import Derived.Test.YthhfgchbpgcfmaaQWordx3
import Derived.Test.YthhfgchbpgcfmaaQWordx4
import Derived.Test.YthhfgchbpgcfmaaQWordx5
import Derived.Test.YthhfgchbpgcfmaaQWordx6
import Derived.Test.YthhfgchbpgcfmaaQWordx7
namespace Go.Proofs.Ythhfgchbpgcfmaa.QWord
open Go.RowKit Go.Proofs.YthhfgchbpgcfmaaW.PrintWords Go.Proofs.YthhfgchbpgcfmaaW.PrintLast Go.Proofs.YthhfgchbpgcfmaaW.PrintMore
attribute [local go_sem] max2_int min2_int max_two min_two max_three min_three max_four min_four   -- for this text's walks alone
set_option linter.unusedVariables false
set_option linter.unusedSimpArgs false

end Go.Proofs.Ythhfgchbpgcfmaa.QWord
