/- GraphRaw: what the functions of the package graph return for any graphs and edges is what the reference returns. No condition. -/
import Derived.Test.YtnphfkceoklkkaaGr9
import Derived.Test.YtnphfkceoklkkaaGr10
set_option linter.unusedSimpArgs false
set_option linter.unusedVariables false
set_option linter.unusedSectionVars false
namespace Go.Proofs.Ytnphfkceoklkkaa
open Go

theorem graphRaw : Rows.GraphRawSaid := raw_over fun g o x _ _ => law11_GraphRaw_ok g o x

end Go.Proofs.Ytnphfkceoklkkaa
