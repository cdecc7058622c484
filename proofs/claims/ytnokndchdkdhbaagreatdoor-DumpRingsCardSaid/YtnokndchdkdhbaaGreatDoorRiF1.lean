/- A part of the proof: what a machine of our own over the model's code answers is what the model does; no condition. -/
import Derived.Test.YtnokndchdkdhbaaGreatDoorRiE1
set_option linter.all false
open Go Go.Av Go.Proofs
set_option maxRecDepth 1000000
set_option linter.all false
namespace Go.Av
variable [Tok]
theorem c8_2 : allR (checkE Tryz.prog fsRi1 100000 GG TTRi 20 8 (.tu 7)) l8_2 = true := by kernel_rfl
end Go.Av


open Go Go.Av Go.Proofs
set_option maxRecDepth 1000000
set_option linter.all false
namespace Go.Av
variable [Tok]
theorem c8_3 : allR (checkE Tryz.prog fsRi1 100000 GG TTRi 20 8 (.tu 7)) l8_3 = true := by kernel_rfl
end Go.Av


open Go Go.Av Go.Proofs
set_option maxRecDepth 1000000
set_option linter.all false
namespace Go.Av
variable [Tok]
theorem c8_4 : allR (checkE Tryz.prog fsRi1 100000 GG TTRi 20 8 (.tu 7)) l8_4 = true := by kernel_rfl
end Go.Av


open Go Go.Av Go.Proofs
set_option maxRecDepth 1000000
set_option linter.all false
namespace Go.Av
variable [Tok]
theorem c8_5 : allR (checkE Tryz.prog fsRi1 100000 GG TTRi 20 8 (.tu 7)) l8_5 = true := by kernel_rfl
end Go.Av


open Go Go.Av Go.Proofs
set_option maxRecDepth 1000000
set_option linter.all false
namespace Go.Av
variable [Tok]
theorem c8_6 : allR (checkE Tryz.prog fsRi1 100000 GG TTRi 20 8 (.tu 7)) l8_6 = true := by kernel_rfl
end Go.Av


open Go Go.Av Go.Proofs
set_option maxRecDepth 1000000
set_option linter.all false
namespace Go.Av
variable [Tok]
theorem c8_7 : allR (checkE Tryz.prog fsRi1 100000 GG TTRi 20 8 (.tu 7)) l8_7 = true := by kernel_rfl
end Go.Av


open Go Go.Av Go.Proofs
set_option maxRecDepth 1000000
set_option linter.all false
namespace Go.Av
variable [Tok]
theorem c8_8 : allR (checkE Tryz.prog fsRi1 100000 GG TTRi 20 8 (.tu 7)) l8_8 = true := by kernel_rfl
end Go.Av


open Go Go.Av Go.Proofs
set_option maxRecDepth 1000000
set_option linter.all false
namespace Go.Av
variable [Tok]
theorem c8_9 : allR (checkE Tryz.prog fsRi1 100000 GG TTRi 20 8 (.tu 7)) l8_9 = true := by kernel_rfl
end Go.Av


open Go Go.Av Go.Proofs
set_option maxRecDepth 1000000
set_option linter.all false
namespace Go.Av
variable [Tok]
theorem c8_10 : allR (checkE Tryz.prog fsRi1 100000 GG TTRi 20 8 (.tu 7)) l8_10 = true := by kernel_rfl
end Go.Av


open Go Go.Av Go.Proofs
set_option maxRecDepth 1000000
set_option linter.all false
namespace Go.Av
variable [Tok]
theorem c8_11 : allR (checkE Tryz.prog fsRi1 100000 GG TTRi 20 8 (.tu 7)) l8_11 = true := by kernel_rfl
end Go.Av


open Go Go.Av Go.Proofs
set_option maxRecDepth 1000000
set_option linter.all false
namespace Go.Av
variable [Tok]
theorem c8_12 : allR (checkE Tryz.prog fsRi1 100000 GG TTRi 20 8 (.tu 7)) l8_12 = true := by kernel_rfl
end Go.Av


open Go Go.Av Go.Proofs
set_option maxRecDepth 1000000
set_option linter.all false
namespace Go.Av
variable [Tok]
theorem c8_13 : allR (checkE Tryz.prog fsRi1 100000 GG TTRi 20 8 (.tu 7)) l8_13 = true := by kernel_rfl
end Go.Av


open Go Go.Av Go.Proofs
set_option maxRecDepth 1000000
set_option linter.all false
namespace Go.Av
variable [Tok]
theorem c8_14 : allR (checkE Tryz.prog fsRi1 100000 GG TTRi 20 8 (.tu 7)) l8_14 = true := by kernel_rfl
end Go.Av
