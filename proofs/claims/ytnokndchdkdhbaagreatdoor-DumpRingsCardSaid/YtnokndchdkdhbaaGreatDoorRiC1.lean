/- A part of the proof: what a machine of our own over the model's code answers is what the model does; no condition. -/
import Derived.Test.YtnokndchdkdhbaaGreatDoorRiA1
set_option linter.all false
open Go Go.Av Go.Proofs
set_option maxRecDepth 1000000
set_option linter.all false
namespace Go.Av
variable [Tok]
theorem c53_9 : allR (checkE Tryz.prog fsB 100000 GG TTRi 20 53 (.sl 15)) l53_9 = true := by kernel_rfl
end Go.Av


open Go Go.Av Go.Proofs
set_option maxRecDepth 1000000
set_option linter.all false
namespace Go.Av
variable [Tok]
theorem c53_10 : allR (checkE Tryz.prog fsB 100000 GG TTRi 20 53 (.sl 15)) l53_10 = true := by kernel_rfl
end Go.Av


open Go Go.Av Go.Proofs
set_option maxRecDepth 1000000
set_option linter.all false
namespace Go.Av
variable [Tok]
theorem c53_11 : allR (checkE Tryz.prog fsB 100000 GG TTRi 20 53 (.sl 15)) l53_11 = true := by kernel_rfl
end Go.Av


open Go Go.Av Go.Proofs
set_option maxRecDepth 1000000
set_option linter.all false
namespace Go.Av
variable [Tok]
theorem c53_12 : allR (checkE Tryz.prog fsB 100000 GG TTRi 20 53 (.sl 15)) l53_12 = true := by kernel_rfl
end Go.Av


open Go Go.Av Go.Proofs
set_option maxRecDepth 1000000
set_option linter.all false
namespace Go.Av
variable [Tok]
theorem c53_13 : allR (checkE Tryz.prog fsB 100000 GG TTRi 20 53 (.sl 15)) l53_13 = true := by kernel_rfl
end Go.Av


open Go Go.Av Go.Proofs
set_option maxRecDepth 1000000
set_option linter.all false
namespace Go.Av
variable [Tok]
theorem c53_14 : allR (checkE Tryz.prog fsB 100000 GG TTRi 20 53 (.sl 15)) l53_14 = true := by kernel_rfl
end Go.Av


open Go Go.Av Go.Proofs
set_option maxRecDepth 1000000
set_option linter.all false
namespace Go.Av
variable [Tok]
theorem c53_15 : allR (checkE Tryz.prog fsB 100000 GG TTRi 20 53 (.sl 15)) l53_15 = true := by kernel_rfl
end Go.Av


open Go Go.Av Go.Proofs
set_option maxRecDepth 1000000
set_option linter.all false
namespace Go.Av
variable [Tok]
theorem c53_16 : allR (checkE Tryz.prog fsB 100000 GG TTRi 20 53 (.sl 15)) l53_16 = true := by kernel_rfl
end Go.Av


open Go Go.Av Go.Proofs
set_option maxRecDepth 1000000
set_option linter.all false
namespace Go.Av
variable [Tok]
theorem c53_17 : allR (checkE Tryz.prog fsB 100000 GG TTRi 20 53 (.sl 15)) l53_17 = true := by kernel_rfl
end Go.Av


open Go Go.Av Go.Proofs
set_option maxRecDepth 1000000
set_option linter.all false
namespace Go.Av
variable [Tok]
theorem c53_18 : allR (checkE Tryz.prog fsB 100000 GG TTRi 20 53 (.sl 15)) l53_18 = true := by kernel_rfl
end Go.Av


open Go Go.Av Go.Proofs
set_option maxRecDepth 1000000
set_option linter.all false
namespace Go.Av
variable [Tok]
theorem c53_19 : allR (checkE Tryz.prog fsB 100000 GG TTRi 20 53 (.sl 15)) l53_19 = true := by kernel_rfl
end Go.Av


open Go Go.Av Go.Proofs
set_option maxRecDepth 1000000
set_option linter.all false
namespace Go.Av
variable [Tok]
theorem c53_20 : allR (checkE Tryz.prog fsB 100000 GG TTRi 20 53 (.sl 15)) l53_20 = true := by kernel_rfl
end Go.Av


open Go Go.Av Go.Proofs
set_option maxRecDepth 1000000
set_option linter.all false
namespace Go.Av
variable [Tok]
theorem c53_21 : allR (checkE Tryz.prog fsB 100000 GG TTRi 20 53 (.sl 15)) l53_21 = true := by kernel_rfl
end Go.Av
