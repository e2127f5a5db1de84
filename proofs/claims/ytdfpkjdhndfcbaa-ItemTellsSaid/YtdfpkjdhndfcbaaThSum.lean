/- What the printed functions over numbers of 128 bits (wide.Int) answer, in whole numbers: the small ones, the sum. For numbers that are ones of 128 bits. -/
import Derived.Test.YtdfpkjdhndfcbaaThBase

namespace Go.Proofs.Ytdfpkjdhndfcbaa.Th
open Go.RowKit Go.Proofs.Ytdfpkjdhndfcbaa.Print Go.Proofs.YtdfpkjdhndfcbaaW.PrintWords Go.Proofs.YtdfpkjdhndfcbaaW.PrintLast Go.Proofs.YtdfpkjdhndfcbaaW.PrintMore Go.Proofs.Ytdfpkjdhndfcbaa.Bits
set_option linter.unusedVariables false
set_option linter.unusedSimpArgs false
end Go.Proofs.Ytdfpkjdhndfcbaa.Th
