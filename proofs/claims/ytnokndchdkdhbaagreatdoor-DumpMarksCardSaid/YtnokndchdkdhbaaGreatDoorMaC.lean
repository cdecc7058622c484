/- A part of the proof: what a machine of our own over the model's code answers is what the model does; no condition. -/
import Derived.Test.YtnokndchdkdhbaaGreatDoorMaA
set_option linter.all false
open Go Go.Av Go.Proofs
set_option maxRecDepth 1000000
set_option linter.all false
namespace Go.Av
variable [Tok]
theorem c15_8 : allR (checkE Tryz.prog fsMa1 100000 GG TTMa 20 15 (.sl 2)) l15_8 = true := by kernel_rfl
end Go.Av


open Go Go.Av Go.Proofs
set_option maxRecDepth 1000000
set_option linter.all false
namespace Go.Av
variable [Tok]
theorem c15_9 : allR (checkE Tryz.prog fsMa1 100000 GG TTMa 20 15 (.sl 2)) l15_9 = true := by kernel_rfl
end Go.Av


open Go Go.Av Go.Proofs
set_option maxRecDepth 1000000
set_option linter.all false
namespace Go.Av
variable [Tok]
theorem c15_10 : allR (checkE Tryz.prog fsMa1 100000 GG TTMa 20 15 (.sl 2)) l15_10 = true := by kernel_rfl
end Go.Av


open Go Go.Av Go.Proofs
set_option maxRecDepth 1000000
set_option linter.all false
namespace Go.Av
variable [Tok]
theorem c15_11 : allR (checkE Tryz.prog fsMa1 100000 GG TTMa 20 15 (.sl 2)) l15_11 = true := by kernel_rfl
end Go.Av


open Go Go.Av Go.Proofs
set_option maxRecDepth 1000000
set_option linter.all false
namespace Go.Av
variable [Tok]
theorem c15_12 : allR (checkE Tryz.prog fsMa1 100000 GG TTMa 20 15 (.sl 2)) l15_12 = true := by kernel_rfl
end Go.Av


open Go Go.Av Go.Proofs
set_option maxRecDepth 1000000
set_option linter.all false
namespace Go.Av
variable [Tok]
theorem c15_13 : allR (checkE Tryz.prog fsMa1 100000 GG TTMa 20 15 (.sl 2)) l15_13 = true := by kernel_rfl
end Go.Av


open Go Go.Av Go.Proofs
set_option maxRecDepth 1000000
set_option linter.all false
namespace Go.Av
variable [Tok]
theorem c15_14 : allR (checkE Tryz.prog fsMa1 100000 GG TTMa 20 15 (.sl 2)) l15_14 = true := by kernel_rfl
end Go.Av
