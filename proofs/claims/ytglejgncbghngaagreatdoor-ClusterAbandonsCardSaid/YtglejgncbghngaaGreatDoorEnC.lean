/- A part of the proof: what a machine of our own over the model's code answers is what the model does; no condition. -/
import Derived.Test.YtglejgncbghngaaGreatDoorEnB
set_option linter.all false
open Go Go.Av Go.Proofs
set_option maxRecDepth 1000000
set_option linter.all false
namespace Go.Av
variable [Tok]
theorem c62_6 : allT (checkE Tryz.prog fsB 100000 GG TTAb 20 62 (.tu 6)) l62_6 = true := by kernel_rfl
end Go.Av


open Go Go.Av Go.Proofs
set_option maxRecDepth 1000000
set_option linter.all false
namespace Go.Av
variable [Tok]
theorem c62_7 : allT (checkE Tryz.prog fsB 100000 GG TTAb 20 62 (.tu 6)) l62_7 = true := by kernel_rfl
end Go.Av


open Go Go.Av Go.Proofs
set_option maxRecDepth 1000000
set_option linter.all false
namespace Go.Av
variable [Tok]
theorem c65_0 : allT (checkE Tryz.prog fsB 100000 GG TTAb 20 65 (.tu 6)) l65_0 = true := by kernel_rfl
end Go.Av


open Go Go.Av Go.Proofs
set_option maxRecDepth 1000000
set_option linter.all false
namespace Go.Av
variable [Tok]
theorem c65_1 : allT (checkE Tryz.prog fsB 100000 GG TTAb 20 65 (.tu 6)) l65_1 = true := by kernel_rfl
end Go.Av


open Go Go.Av Go.Proofs
set_option maxRecDepth 1000000
set_option linter.all false
namespace Go.Av
variable [Tok]
theorem c65_2 : allT (checkE Tryz.prog fsB 100000 GG TTAb 20 65 (.tu 6)) l65_2 = true := by kernel_rfl
end Go.Av


open Go Go.Av Go.Proofs
set_option maxRecDepth 1000000
set_option linter.all false
namespace Go.Av
variable [Tok]
theorem c65_3 : allT (checkE Tryz.prog fsB 100000 GG TTAb 20 65 (.tu 6)) l65_3 = true := by kernel_rfl
end Go.Av


open Go Go.Av Go.Proofs
set_option maxRecDepth 1000000
set_option linter.all false
namespace Go.Av
variable [Tok]
theorem c65_4 : allT (checkE Tryz.prog fsB 100000 GG TTAb 20 65 (.tu 6)) l65_4 = true := by kernel_rfl
end Go.Av
