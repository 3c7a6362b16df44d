/- The examples of chapter 1 hold: the law returns true (no condition). -/
import Derived.Test.YtlilbddpelbngaaPAllx
import Derived.Test.YtlilbddpelbngaaOps
namespace Go.Proofs.Ytlilbddpelbngaa.Pure
set_option linter.unusedVariables false
set_option linter.unusedSimpArgs false
open Go.RowKit Go.Proofs.Ytlilbddpelbngaa.PAll Go.Proofs.Ytlilbddpelbngaa.M Go.Proofs.YtlilbddpelbngaaW.PrintWords Go.Proofs.YtlilbddpelbngaaW.PrintLast Go.Proofs.YtlilbddpelbngaaW.PrintMore

theorem WordExamples : fullinglaw1_WordExamples.Pure := ⟨40, examples_k⟩
end Go.Proofs.Ytlilbddpelbngaa.Pure
