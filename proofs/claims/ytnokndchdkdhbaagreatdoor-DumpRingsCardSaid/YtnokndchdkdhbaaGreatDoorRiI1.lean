/- A part of the proof: what a machine of our own over the model's code answers is what the model does; no condition. -/
import Derived.Test.YtnokndchdkdhbaaGreatDoorRiE1
set_option linter.all false
open Go Go.Av Go.Proofs
set_option maxRecDepth 1000000
set_option linter.all false
namespace Go.Av
variable [Tok]
theorem c50_13 : allR (checkE Tryz.prog fsRi1 100000 GG TTRi 20 50 (.tu 9)) l50_13 = true := by kernel_rfl
end Go.Av


open Go Go.Av Go.Proofs
set_option maxRecDepth 1000000
set_option linter.all false
namespace Go.Av
variable [Tok]
theorem c50_14 : allR (checkE Tryz.prog fsRi1 100000 GG TTRi 20 50 (.tu 9)) l50_14 = true := by kernel_rfl
end Go.Av


open Go Go.Av Go.Proofs
set_option maxRecDepth 1000000
set_option linter.all false
namespace Go.Av
variable [Tok]
theorem c50_15 : allR (checkE Tryz.prog fsRi1 100000 GG TTRi 20 50 (.tu 9)) l50_15 = true := by kernel_rfl
end Go.Av


open Go Go.Av Go.Proofs
set_option maxRecDepth 1000000
set_option linter.all false
namespace Go.Av
variable [Tok]
theorem c50_16 : allR (checkE Tryz.prog fsRi1 100000 GG TTRi 20 50 (.tu 9)) l50_16 = true := by kernel_rfl
end Go.Av


open Go Go.Av Go.Proofs
set_option maxRecDepth 1000000
set_option linter.all false
namespace Go.Av
variable [Tok]
theorem c50_17 : allR (checkE Tryz.prog fsRi1 100000 GG TTRi 20 50 (.tu 9)) l50_17 = true := by kernel_rfl
end Go.Av


open Go Go.Av Go.Proofs
set_option maxRecDepth 1000000
set_option linter.all false
namespace Go.Av
variable [Tok]
theorem c50_18 : allR (checkE Tryz.prog fsRi1 100000 GG TTRi 20 50 (.tu 9)) l50_18 = true := by kernel_rfl
end Go.Av


open Go Go.Av Go.Proofs
set_option maxRecDepth 1000000
set_option linter.all false
namespace Go.Av
variable [Tok]
theorem c50_19 : allR (checkE Tryz.prog fsRi1 100000 GG TTRi 20 50 (.tu 9)) l50_19 = true := by kernel_rfl
end Go.Av


open Go Go.Av Go.Proofs
set_option maxRecDepth 1000000
set_option linter.all false
namespace Go.Av
variable [Tok]
theorem c50_20 : allR (checkE Tryz.prog fsRi1 100000 GG TTRi 20 50 (.tu 9)) l50_20 = true := by kernel_rfl
end Go.Av


open Go Go.Av Go.Proofs
set_option maxRecDepth 1000000
set_option linter.all false
namespace Go.Av
variable [Tok]
theorem c50_21 : allR (checkE Tryz.prog fsRi1 100000 GG TTRi 20 50 (.tu 9)) l50_21 = true := by kernel_rfl
end Go.Av


open Go Go.Av Go.Proofs
set_option maxRecDepth 1000000
set_option linter.all false
namespace Go.Av
variable [Tok]
theorem c50_22 : allR (checkE Tryz.prog fsRi1 100000 GG TTRi 20 50 (.tu 9)) l50_22 = true := by kernel_rfl
end Go.Av


open Go Go.Av Go.Proofs
set_option maxRecDepth 1000000
set_option linter.all false
namespace Go.Av
variable [Tok]
theorem c50_23 : allR (checkE Tryz.prog fsRi1 100000 GG TTRi 20 50 (.tu 9)) l50_23 = true := by kernel_rfl
end Go.Av


open Go Go.Av Go.Proofs
set_option maxRecDepth 1000000
set_option linter.all false
namespace Go.Av
variable [Tok]
theorem c240_0 : allR (checkE Tryz.prog fsRi1 100000 GG TTRi 20 240 (.tu 7)) l240_0 = true := by kernel_rfl
end Go.Av


open Go Go.Av Go.Proofs
set_option maxRecDepth 1000000
set_option linter.all false
namespace Go.Av
variable [Tok]
theorem c240_1 : allR (checkE Tryz.prog fsRi1 100000 GG TTRi 20 240 (.tu 7)) l240_1 = true := by kernel_rfl
end Go.Av
