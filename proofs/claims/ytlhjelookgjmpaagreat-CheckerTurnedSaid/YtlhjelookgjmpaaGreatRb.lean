/- Two laws together. -/
import Derived.Test.YtlhjelookgjmpaaGreatRb14
import Derived.Test.YtlhjelookgjmpaaGreatRb15
set_option linter.unusedSimpArgs false
set_option linter.unusedVariables false
set_option linter.unusedSectionVars false

