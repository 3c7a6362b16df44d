/- One part of this proof, by a program of this session (turned from the kit printer): what Go functions answer, as plain Lean functions, with the proof that the calls answer so. -/
import Derived.Test.YtlilbddpelbngaaPDivx0
import Derived.Test.YtlilbddpelbngaaPDivx1
import Derived.Test.YtlilbddpelbngaaPDivx2
import Derived.Test.YtlilbddpelbngaaPDivx3
namespace Go.Proofs.Ytlilbddpelbngaa.PDiv
open Go.RowKit Go.Proofs.YtlilbddpelbngaaW.PrintWords Go.Proofs.YtlilbddpelbngaaW.PrintLast Go.Proofs.YtlilbddpelbngaaW.PrintMore
attribute [local go_sem] max2_int min2_int max_two min_two max_three min_three max_four min_four   -- for this text's walks alone
set_option linter.unusedVariables false
set_option linter.unusedSimpArgs false

end Go.Proofs.Ytlilbddpelbngaa.PDiv
