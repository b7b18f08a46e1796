-- Written by this session's xprint.py (the kit's print, with contracts proved by hand).
import Derived.Test.YtigfeafenjfdlaaX1x0
import Derived.Test.YtigfeafenjfdlaaX1x1
import Derived.Test.YtigfeafenjfdlaaX1x2
import Derived.Test.YtigfeafenjfdlaaX1x3
import Derived.Test.YtigfeafenjfdlaaX1x4
import Derived.Test.YtigfeafenjfdlaaX1x5
import Derived.Test.YtigfeafenjfdlaaX1x6
import Derived.Test.YtigfeafenjfdlaaX1x7
namespace Go.Proofs.Ytigfeafenjfdlaa.X1
open Go.RowKit Go.Proofs.YtigfeafenjfdlaaW.PrintWords Go.Proofs.YtigfeafenjfdlaaW.PrintLast Go.Proofs.YtigfeafenjfdlaaW.PrintMore
attribute [local go_sem] max2_int min2_int max_two min_two max_three min_three max_four min_four   -- for this text's walks alone
set_option linter.unusedVariables false
set_option linter.unusedSimpArgs false

end Go.Proofs.Ytigfeafenjfdlaa.X1
