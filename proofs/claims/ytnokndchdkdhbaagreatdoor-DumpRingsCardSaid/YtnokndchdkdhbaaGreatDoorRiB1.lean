/- A part of the proof: what a machine of our own over the model's code answers is what the model does; no condition. -/
import Derived.Test.YtnokndchdkdhbaaGreatDoorRiA1
set_option linter.all false
open Go Go.Av Go.Proofs
set_option maxRecDepth 1000000
set_option linter.all false
namespace Go.Av
variable [Tok]
theorem c10_7 : allR (checkE Tryz.prog fsB 100000 GG TTRi 20 10 (.sl 18)) l10_7 = true := by kernel_rfl
end Go.Av


open Go Go.Av Go.Proofs
set_option maxRecDepth 1000000
set_option linter.all false
namespace Go.Av
variable [Tok]
theorem c10_8 : allR (checkE Tryz.prog fsB 100000 GG TTRi 20 10 (.sl 18)) l10_8 = true := by kernel_rfl
end Go.Av


open Go Go.Av Go.Proofs
set_option maxRecDepth 1000000
set_option linter.all false
namespace Go.Av
variable [Tok]
theorem c10_9 : allR (checkE Tryz.prog fsB 100000 GG TTRi 20 10 (.sl 18)) l10_9 = true := by kernel_rfl
end Go.Av


open Go Go.Av Go.Proofs
set_option maxRecDepth 1000000
set_option linter.all false
namespace Go.Av
variable [Tok]
theorem c10_10 : allR (checkE Tryz.prog fsB 100000 GG TTRi 20 10 (.sl 18)) l10_10 = true := by kernel_rfl
end Go.Av


open Go Go.Av Go.Proofs
set_option maxRecDepth 1000000
set_option linter.all false
namespace Go.Av
variable [Tok]
theorem c53_0 : allR (checkE Tryz.prog fsB 100000 GG TTRi 20 53 (.sl 15)) l53_0 = true := by kernel_rfl
end Go.Av


open Go Go.Av Go.Proofs
set_option maxRecDepth 1000000
set_option linter.all false
namespace Go.Av
variable [Tok]
theorem c53_1 : allR (checkE Tryz.prog fsB 100000 GG TTRi 20 53 (.sl 15)) l53_1 = true := by kernel_rfl
end Go.Av


open Go Go.Av Go.Proofs
set_option maxRecDepth 1000000
set_option linter.all false
namespace Go.Av
variable [Tok]
theorem c53_2 : allR (checkE Tryz.prog fsB 100000 GG TTRi 20 53 (.sl 15)) l53_2 = true := by kernel_rfl
end Go.Av


open Go Go.Av Go.Proofs
set_option maxRecDepth 1000000
set_option linter.all false
namespace Go.Av
variable [Tok]
theorem c53_3 : allR (checkE Tryz.prog fsB 100000 GG TTRi 20 53 (.sl 15)) l53_3 = true := by kernel_rfl
end Go.Av


open Go Go.Av Go.Proofs
set_option maxRecDepth 1000000
set_option linter.all false
namespace Go.Av
variable [Tok]
theorem c53_4 : allR (checkE Tryz.prog fsB 100000 GG TTRi 20 53 (.sl 15)) l53_4 = true := by kernel_rfl
end Go.Av


open Go Go.Av Go.Proofs
set_option maxRecDepth 1000000
set_option linter.all false
namespace Go.Av
variable [Tok]
theorem c53_5 : allR (checkE Tryz.prog fsB 100000 GG TTRi 20 53 (.sl 15)) l53_5 = true := by kernel_rfl
end Go.Av


open Go Go.Av Go.Proofs
set_option maxRecDepth 1000000
set_option linter.all false
namespace Go.Av
variable [Tok]
theorem c53_6 : allR (checkE Tryz.prog fsB 100000 GG TTRi 20 53 (.sl 15)) l53_6 = true := by kernel_rfl
end Go.Av


open Go Go.Av Go.Proofs
set_option maxRecDepth 1000000
set_option linter.all false
namespace Go.Av
variable [Tok]
theorem c53_7 : allR (checkE Tryz.prog fsB 100000 GG TTRi 20 53 (.sl 15)) l53_7 = true := by kernel_rfl
end Go.Av


open Go Go.Av Go.Proofs
set_option maxRecDepth 1000000
set_option linter.all false
namespace Go.Av
variable [Tok]
theorem c53_8 : allR (checkE Tryz.prog fsB 100000 GG TTRi 20 53 (.sl 15)) l53_8 = true := by kernel_rfl
end Go.Av
