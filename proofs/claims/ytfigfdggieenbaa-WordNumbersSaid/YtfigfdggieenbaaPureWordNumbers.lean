/- WordNumbers: the closed sentence of chapter 10 answers true. No condition. -/
import Derived.Test.YtfigfdggieenbaaPWordNumbersx3
import Derived.KernelRfl
namespace Go.Proofs.Ytfigfdggieenbaa.Pure
open Go.RowKit Go.Proofs.Ytfigfdggieenbaa.PWordNumbers Go.Proofs.YtfigfdggieenbaaW.PrintWords Go.Proofs.YtfigfdggieenbaaW.PrintLast

theorem WordNumbers : engramlaw10_WordNumbers.Pure := ⟨5000, by kernel_rfl⟩

end Go.Proofs.Ytfigfdggieenbaa.Pure
