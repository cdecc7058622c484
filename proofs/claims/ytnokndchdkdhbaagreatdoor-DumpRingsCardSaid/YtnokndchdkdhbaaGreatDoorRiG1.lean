/- A part of the proof: what a machine of our own over the model's code answers is what the model does; no condition. -/
import Derived.Test.YtnokndchdkdhbaaGreatDoorRiE1
set_option linter.all false
open Go Go.Av Go.Proofs
set_option maxRecDepth 1000000
set_option linter.all false
namespace Go.Av
variable [Tok]
theorem c8_15 : allR (checkE Tryz.prog fsRi1 100000 GG TTRi 20 8 (.tu 7)) l8_15 = true := by kernel_rfl
end Go.Av


open Go Go.Av Go.Proofs
set_option maxRecDepth 1000000
set_option linter.all false
namespace Go.Av
variable [Tok]
theorem c8_16 : allR (checkE Tryz.prog fsRi1 100000 GG TTRi 20 8 (.tu 7)) l8_16 = true := by kernel_rfl
end Go.Av


open Go Go.Av Go.Proofs
set_option maxRecDepth 1000000
set_option linter.all false
namespace Go.Av
variable [Tok]
theorem c8_17 : allR (checkE Tryz.prog fsRi1 100000 GG TTRi 20 8 (.tu 7)) l8_17 = true := by kernel_rfl
end Go.Av


open Go Go.Av Go.Proofs
set_option maxRecDepth 1000000
set_option linter.all false
namespace Go.Av
variable [Tok]
theorem c8_18 : allR (checkE Tryz.prog fsRi1 100000 GG TTRi 20 8 (.tu 7)) l8_18 = true := by kernel_rfl
end Go.Av


open Go Go.Av Go.Proofs
set_option maxRecDepth 1000000
set_option linter.all false
namespace Go.Av
variable [Tok]
theorem c8_19 : allR (checkE Tryz.prog fsRi1 100000 GG TTRi 20 8 (.tu 7)) l8_19 = true := by kernel_rfl
end Go.Av


open Go Go.Av Go.Proofs
set_option maxRecDepth 1000000
set_option linter.all false
namespace Go.Av
variable [Tok]
theorem c8_20 : allR (checkE Tryz.prog fsRi1 100000 GG TTRi 20 8 (.tu 7)) l8_20 = true := by kernel_rfl
end Go.Av


open Go Go.Av Go.Proofs
set_option maxRecDepth 1000000
set_option linter.all false
namespace Go.Av
variable [Tok]
theorem c8_21 : allR (checkE Tryz.prog fsRi1 100000 GG TTRi 20 8 (.tu 7)) l8_21 = true := by kernel_rfl
end Go.Av


open Go Go.Av Go.Proofs
set_option maxRecDepth 1000000
set_option linter.all false
namespace Go.Av
variable [Tok]
theorem c8_22 : allR (checkE Tryz.prog fsRi1 100000 GG TTRi 20 8 (.tu 7)) l8_22 = true := by kernel_rfl
end Go.Av


open Go Go.Av Go.Proofs
set_option maxRecDepth 1000000
set_option linter.all false
namespace Go.Av
variable [Tok]
theorem c8_23 : allR (checkE Tryz.prog fsRi1 100000 GG TTRi 20 8 (.tu 7)) l8_23 = true := by kernel_rfl
end Go.Av


open Go Go.Av Go.Proofs
set_option maxRecDepth 1000000
set_option linter.all false
namespace Go.Av
variable [Tok]
theorem c8_24 : allR (checkE Tryz.prog fsRi1 100000 GG TTRi 20 8 (.tu 7)) l8_24 = true := by kernel_rfl
end Go.Av


open Go Go.Av Go.Proofs
set_option maxRecDepth 1000000
set_option linter.all false
namespace Go.Av
variable [Tok]
theorem c8_25 : allR (checkE Tryz.prog fsRi1 100000 GG TTRi 20 8 (.tu 7)) l8_25 = true := by kernel_rfl
end Go.Av


open Go Go.Av Go.Proofs
set_option maxRecDepth 1000000
set_option linter.all false
namespace Go.Av
variable [Tok]
theorem c8_26 : allR (checkE Tryz.prog fsRi1 100000 GG TTRi 20 8 (.tu 7)) l8_26 = true := by kernel_rfl
end Go.Av


open Go Go.Av Go.Proofs
set_option maxRecDepth 1000000
set_option linter.all false
namespace Go.Av
variable [Tok]
theorem c8_27 : allR (checkE Tryz.prog fsRi1 100000 GG TTRi 20 8 (.tu 7)) l8_27 = true := by kernel_rfl
end Go.Av
