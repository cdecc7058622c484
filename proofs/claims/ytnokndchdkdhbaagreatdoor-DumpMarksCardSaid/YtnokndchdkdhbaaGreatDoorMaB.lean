/- A part of the proof: what a machine of our own over the model's code answers is what the model does; no condition. -/
import Derived.Test.YtnokndchdkdhbaaGreatDoorMaA
set_option linter.all false
open Go Go.Av Go.Proofs
set_option maxRecDepth 1000000
set_option linter.all false
namespace Go.Av
variable [Tok]
theorem c15_0 : allR (checkE Tryz.prog fsMa1 100000 GG TTMa 20 15 (.sl 2)) l15_0 = true := by kernel_rfl
end Go.Av


open Go Go.Av Go.Proofs
set_option maxRecDepth 1000000
set_option linter.all false
namespace Go.Av
variable [Tok]
theorem c15_1 : allR (checkE Tryz.prog fsMa1 100000 GG TTMa 20 15 (.sl 2)) l15_1 = true := by kernel_rfl
end Go.Av


open Go Go.Av Go.Proofs
set_option maxRecDepth 1000000
set_option linter.all false
namespace Go.Av
variable [Tok]
theorem c15_2 : allR (checkE Tryz.prog fsMa1 100000 GG TTMa 20 15 (.sl 2)) l15_2 = true := by kernel_rfl
end Go.Av


open Go Go.Av Go.Proofs
set_option maxRecDepth 1000000
set_option linter.all false
namespace Go.Av
variable [Tok]
theorem c15_3 : allR (checkE Tryz.prog fsMa1 100000 GG TTMa 20 15 (.sl 2)) l15_3 = true := by kernel_rfl
end Go.Av


open Go Go.Av Go.Proofs
set_option maxRecDepth 1000000
set_option linter.all false
namespace Go.Av
variable [Tok]
theorem c15_4 : allR (checkE Tryz.prog fsMa1 100000 GG TTMa 20 15 (.sl 2)) l15_4 = true := by kernel_rfl
end Go.Av


open Go Go.Av Go.Proofs
set_option maxRecDepth 1000000
set_option linter.all false
namespace Go.Av
variable [Tok]
theorem c15_5 : allR (checkE Tryz.prog fsMa1 100000 GG TTMa 20 15 (.sl 2)) l15_5 = true := by kernel_rfl
end Go.Av


open Go Go.Av Go.Proofs
set_option maxRecDepth 1000000
set_option linter.all false
namespace Go.Av
variable [Tok]
theorem c15_6 : allR (checkE Tryz.prog fsMa1 100000 GG TTMa 20 15 (.sl 2)) l15_6 = true := by kernel_rfl
end Go.Av


open Go Go.Av Go.Proofs
set_option maxRecDepth 1000000
set_option linter.all false
namespace Go.Av
variable [Tok]
theorem c15_7 : allR (checkE Tryz.prog fsMa1 100000 GG TTMa 20 15 (.sl 2)) l15_7 = true := by kernel_rfl
end Go.Av
