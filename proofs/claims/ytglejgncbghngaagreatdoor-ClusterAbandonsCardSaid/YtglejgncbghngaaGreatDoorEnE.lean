/- A part of the proof: what a machine of our own over the model's code answers is what the model does; no condition. -/
import Derived.Test.YtglejgncbghngaaGreatDoorEnB
set_option linter.all false
open Go Go.Av Go.Proofs
set_option maxRecDepth 1000000
set_option linter.all false
namespace Go.Av
variable [Tok]
theorem c65_12 : allT (checkE Tryz.prog fsB 100000 GG TTAb 20 65 (.tu 6)) l65_12 = true := by kernel_rfl
end Go.Av


open Go Go.Av Go.Proofs
set_option maxRecDepth 1000000
set_option linter.all false
namespace Go.Av
variable [Tok]
theorem c65_13 : allT (checkE Tryz.prog fsB 100000 GG TTAb 20 65 (.tu 6)) l65_13 = true := by kernel_rfl
end Go.Av


open Go Go.Av Go.Proofs
set_option maxRecDepth 1000000
set_option linter.all false
namespace Go.Av
variable [Tok]
theorem c65_14 : allT (checkE Tryz.prog fsB 100000 GG TTAb 20 65 (.tu 6)) l65_14 = true := by kernel_rfl
end Go.Av


open Go Go.Av Go.Proofs
set_option maxRecDepth 1000000
set_option linter.all false
namespace Go.Av
variable [Tok]
theorem c65_15 : allT (checkE Tryz.prog fsB 100000 GG TTAb 20 65 (.tu 6)) l65_15 = true := by kernel_rfl
end Go.Av


open Go Go.Av Go.Proofs
set_option maxRecDepth 1000000
set_option linter.all false
namespace Go.Av
variable [Tok]
theorem c65_16 : allT (checkE Tryz.prog fsB 100000 GG TTAb 20 65 (.tu 6)) l65_16 = true := by kernel_rfl
end Go.Av


open Go Go.Av Go.Proofs
set_option maxRecDepth 1000000
set_option linter.all false
namespace Go.Av
variable [Tok]
theorem c65_17 : allT (checkE Tryz.prog fsB 100000 GG TTAb 20 65 (.tu 6)) l65_17 = true := by kernel_rfl
end Go.Av


open Go Go.Av Go.Proofs
set_option maxRecDepth 1000000
set_option linter.all false
namespace Go.Av
variable [Tok]
theorem c65_18 : allT (checkE Tryz.prog fsB 100000 GG TTAb 20 65 (.tu 6)) l65_18 = true := by kernel_rfl
end Go.Av


open Go Go.Av Go.Proofs
set_option maxRecDepth 1000000
set_option linter.all false
namespace Go.Av
variable [Tok]
theorem c65_19 : allT (checkE Tryz.prog fsB 100000 GG TTAb 20 65 (.tu 6)) l65_19 = true := by kernel_rfl
end Go.Av


open Go Go.Av Go.Proofs
set_option maxRecDepth 1000000
set_option linter.all false
namespace Go.Av
variable [Tok]
theorem c65_20 : allT (checkE Tryz.prog fsB 100000 GG TTAb 20 65 (.tu 6)) l65_20 = true := by kernel_rfl
end Go.Av
