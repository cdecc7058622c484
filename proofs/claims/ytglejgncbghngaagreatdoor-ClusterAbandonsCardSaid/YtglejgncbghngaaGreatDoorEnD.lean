/- A part of the proof: what a machine of our own over the model's code answers is what the model does; no condition. -/
import Derived.Test.YtglejgncbghngaaGreatDoorEnB
set_option linter.all false
open Go Go.Av Go.Proofs
set_option maxRecDepth 1000000
set_option linter.all false
namespace Go.Av
variable [Tok]
theorem c65_5 : allT (checkE Tryz.prog fsB 100000 GG TTAb 20 65 (.tu 6)) l65_5 = true := by kernel_rfl
end Go.Av


open Go Go.Av Go.Proofs
set_option maxRecDepth 1000000
set_option linter.all false
namespace Go.Av
variable [Tok]
theorem c65_6 : allT (checkE Tryz.prog fsB 100000 GG TTAb 20 65 (.tu 6)) l65_6 = true := by kernel_rfl
end Go.Av


open Go Go.Av Go.Proofs
set_option maxRecDepth 1000000
set_option linter.all false
namespace Go.Av
variable [Tok]
theorem c65_7 : allT (checkE Tryz.prog fsB 100000 GG TTAb 20 65 (.tu 6)) l65_7 = true := by kernel_rfl
end Go.Av


open Go Go.Av Go.Proofs
set_option maxRecDepth 1000000
set_option linter.all false
namespace Go.Av
variable [Tok]
theorem c65_8 : allT (checkE Tryz.prog fsB 100000 GG TTAb 20 65 (.tu 6)) l65_8 = true := by kernel_rfl
end Go.Av


open Go Go.Av Go.Proofs
set_option maxRecDepth 1000000
set_option linter.all false
namespace Go.Av
variable [Tok]
theorem c65_9 : allT (checkE Tryz.prog fsB 100000 GG TTAb 20 65 (.tu 6)) l65_9 = true := by kernel_rfl
end Go.Av


open Go Go.Av Go.Proofs
set_option maxRecDepth 1000000
set_option linter.all false
namespace Go.Av
variable [Tok]
theorem c65_10 : allT (checkE Tryz.prog fsB 100000 GG TTAb 20 65 (.tu 6)) l65_10 = true := by kernel_rfl
end Go.Av


open Go Go.Av Go.Proofs
set_option maxRecDepth 1000000
set_option linter.all false
namespace Go.Av
variable [Tok]
theorem c65_11 : allT (checkE Tryz.prog fsB 100000 GG TTAb 20 65 (.tu 6)) l65_11 = true := by kernel_rfl
end Go.Av
