/- A part of the proof: what a machine of our own over the model's code answers is what the model does; no condition. -/
import Derived.Test.YtnokndchdkdhbaaGreatDoorRiA1
set_option linter.all false
open Go Go.Av Go.Proofs
set_option maxRecDepth 1000000
set_option linter.all false
namespace Go.Av
variable [Tok]
theorem c53_22 : allR (checkE Tryz.prog fsB 100000 GG TTRi 20 53 (.sl 15)) l53_22 = true := by kernel_rfl
end Go.Av


open Go Go.Av Go.Proofs
set_option maxRecDepth 1000000
set_option linter.all false
namespace Go.Av
variable [Tok]
theorem c53_23 : allR (checkE Tryz.prog fsB 100000 GG TTRi 20 53 (.sl 15)) l53_23 = true := by kernel_rfl
end Go.Av


open Go Go.Av Go.Proofs
set_option maxRecDepth 1000000
set_option linter.all false
namespace Go.Av
variable [Tok]
theorem c53_24 : allR (checkE Tryz.prog fsB 100000 GG TTRi 20 53 (.sl 15)) l53_24 = true := by kernel_rfl
end Go.Av


open Go Go.Av Go.Proofs
set_option maxRecDepth 1000000
set_option linter.all false
namespace Go.Av
variable [Tok]
theorem c53_25 : allR (checkE Tryz.prog fsB 100000 GG TTRi 20 53 (.sl 15)) l53_25 = true := by kernel_rfl
end Go.Av


open Go Go.Av Go.Proofs
set_option maxRecDepth 1000000
set_option linter.all false
namespace Go.Av
variable [Tok]
theorem c53_26 : allR (checkE Tryz.prog fsB 100000 GG TTRi 20 53 (.sl 15)) l53_26 = true := by kernel_rfl
end Go.Av


open Go Go.Av Go.Proofs
set_option maxRecDepth 1000000
set_option linter.all false
namespace Go.Av
variable [Tok]
theorem c53_27 : allR (checkE Tryz.prog fsB 100000 GG TTRi 20 53 (.sl 15)) l53_27 = true := by kernel_rfl
end Go.Av


open Go Go.Av Go.Proofs
set_option maxRecDepth 1000000
set_option linter.all false
namespace Go.Av
variable [Tok]
theorem c53_28 : allR (checkE Tryz.prog fsB 100000 GG TTRi 20 53 (.sl 15)) l53_28 = true := by kernel_rfl
end Go.Av


open Go Go.Av Go.Proofs
set_option maxRecDepth 1000000
set_option linter.all false
namespace Go.Av
variable [Tok]
theorem c53_29 : allR (checkE Tryz.prog fsB 100000 GG TTRi 20 53 (.sl 15)) l53_29 = true := by kernel_rfl
end Go.Av


open Go Go.Av Go.Proofs
set_option maxRecDepth 1000000
set_option linter.all false
namespace Go.Av
variable [Tok]
theorem c53_30 : allR (checkE Tryz.prog fsB 100000 GG TTRi 20 53 (.sl 15)) l53_30 = true := by kernel_rfl
end Go.Av


open Go Go.Av Go.Proofs
set_option maxRecDepth 1000000
set_option linter.all false
namespace Go.Av
variable [Tok]
theorem c53_31 : allR (checkE Tryz.prog fsB 100000 GG TTRi 20 53 (.sl 15)) l53_31 = true := by kernel_rfl
end Go.Av


open Go Go.Av Go.Proofs
set_option maxRecDepth 1000000
set_option linter.all false
namespace Go.Av
variable [Tok]
theorem c53_32 : allR (checkE Tryz.prog fsB 100000 GG TTRi 20 53 (.sl 15)) l53_32 = true := by kernel_rfl
end Go.Av


open Go Go.Av Go.Proofs
set_option maxRecDepth 1000000
set_option linter.all false
namespace Go.Av
variable [Tok]
theorem c53_33 : allR (checkE Tryz.prog fsB 100000 GG TTRi 20 53 (.sl 15)) l53_33 = true := by kernel_rfl
end Go.Av


open Go Go.Av Go.Proofs
set_option maxRecDepth 1000000
set_option linter.all false
namespace Go.Av
variable [Tok]
theorem c53_34 : allR (checkE Tryz.prog fsB 100000 GG TTRi 20 53 (.sl 15)) l53_34 = true := by kernel_rfl
end Go.Av
