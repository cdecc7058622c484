/- A part of the proof: what a machine of our own over the model's code answers is what the model does; no condition. -/
import Derived.Test.YtnokndchdkdhbaaGreatDoorMaA
set_option linter.all false
open Go Go.Av Go.Proofs
set_option maxRecDepth 1000000
set_option linter.all false
namespace Go.Av
variable [Tok]
theorem c15_15 : allR (checkE Tryz.prog fsMa1 100000 GG TTMa 20 15 (.sl 2)) l15_15 = true := by kernel_rfl
end Go.Av


open Go Go.Av Go.Proofs
set_option maxRecDepth 1000000
set_option linter.all false
namespace Go.Av
variable [Tok]
theorem c15_16 : allR (checkE Tryz.prog fsMa1 100000 GG TTMa 20 15 (.sl 2)) l15_16 = true := by kernel_rfl
end Go.Av


open Go Go.Av Go.Proofs
set_option maxRecDepth 1000000
set_option linter.all false
namespace Go.Av
variable [Tok]
theorem c15_17 : allR (checkE Tryz.prog fsMa1 100000 GG TTMa 20 15 (.sl 2)) l15_17 = true := by kernel_rfl
end Go.Av


open Go Go.Av Go.Proofs
set_option maxRecDepth 1000000
set_option linter.all false
namespace Go.Av
variable [Tok]
theorem c14_0 : allR (checkE Tryz.prog fsMa1 100000 GG TTMa 20 14 (.sl 15)) l14_0 = true := by kernel_rfl
end Go.Av


open Go Go.Av Go.Proofs
set_option maxRecDepth 1000000
set_option linter.all false
namespace Go.Av
variable [Tok]
theorem c240_0 : allR (checkE Tryz.prog fsMa1 100000 GG TTMa 20 240 (.tu 7)) l240_0 = true := by kernel_rfl
end Go.Av


open Go Go.Av Go.Proofs
set_option maxRecDepth 1000000
set_option linter.all false
namespace Go.Av
variable [Tok]
theorem c50_0 : allR (checkE Tryz.prog fsMa1 100000 GG TTMa 20 50 (.tu 9)) l50_0 = true := by kernel_rfl
end Go.Av


open Go Go.Av Go.Proofs
set_option maxRecDepth 1000000
set_option linter.all false
namespace Go.Av
variable [Tok]
theorem c53_0 : allR (checkE Tryz.prog fsMa1 100000 GG TTMa 20 53 (.sl 15)) l53_0 = true := by kernel_rfl
end Go.Av


open Go Go.Av Go.Proofs
set_option maxRecDepth 1000000
set_option linter.all false
namespace Go.Av
variable [Tok]
theorem c8_0 : allR (checkE Tryz.prog fsMa1 100000 GG TTMa 20 8 (.tu 7)) l8_0 = true := by kernel_rfl
end Go.Av
