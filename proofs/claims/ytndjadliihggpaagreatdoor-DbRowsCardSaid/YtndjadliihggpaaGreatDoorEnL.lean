/- A part of the proof: what a machine of our own over the model's code answers is what the model does; no condition. -/
import Derived.Test.YtndjadliihggpaaGreatDoorEnB
set_option linter.all false
open Go Go.Av Go.Proofs
set_option maxRecDepth 1000000
set_option linter.all false
namespace Go.Av
variable [Tok]
theorem c12_44 : allT (checkE Tryz.prog fsDr3 100000 GG TTDr 20 12 (.tu 11)) l12_44 = true := by kernel_rfl
end Go.Av


open Go Go.Av Go.Proofs
set_option maxRecDepth 1000000
set_option linter.all false
namespace Go.Av
variable [Tok]
theorem c12_45 : allT (checkE Tryz.prog fsDr3 100000 GG TTDr 20 12 (.tu 11)) l12_45 = true := by kernel_rfl
end Go.Av


open Go Go.Av Go.Proofs
set_option maxRecDepth 1000000
set_option linter.all false
namespace Go.Av
variable [Tok]
theorem c12_46 : allT (checkE Tryz.prog fsDr3 100000 GG TTDr 20 12 (.tu 11)) l12_46 = true := by kernel_rfl
end Go.Av


open Go Go.Av Go.Proofs
set_option maxRecDepth 1000000
set_option linter.all false
namespace Go.Av
variable [Tok]
theorem c12_47 : allT (checkE Tryz.prog fsDr3 100000 GG TTDr 20 12 (.tu 11)) l12_47 = true := by kernel_rfl
end Go.Av


open Go Go.Av Go.Proofs
set_option maxRecDepth 1000000
set_option linter.all false
namespace Go.Av
variable [Tok]
theorem c12_48 : allT (checkE Tryz.prog fsDr3 100000 GG TTDr 20 12 (.tu 11)) l12_48 = true := by kernel_rfl
end Go.Av
