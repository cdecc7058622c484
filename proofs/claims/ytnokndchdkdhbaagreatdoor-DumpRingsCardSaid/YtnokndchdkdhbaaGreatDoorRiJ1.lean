/- A part of the proof: what a machine of our own over the model's code answers is what the model does; no condition. -/
import Derived.Test.YtnokndchdkdhbaaGreatDoorRiE1
set_option linter.all false
open Go Go.Av Go.Proofs
set_option maxRecDepth 1000000
set_option linter.all false
namespace Go.Av
variable [Tok]
theorem c240_2 : allR (checkE Tryz.prog fsRi1 100000 GG TTRi 20 240 (.tu 7)) l240_2 = true := by kernel_rfl
end Go.Av


open Go Go.Av Go.Proofs
set_option maxRecDepth 1000000
set_option linter.all false
namespace Go.Av
variable [Tok]
theorem c240_3 : allR (checkE Tryz.prog fsRi1 100000 GG TTRi 20 240 (.tu 7)) l240_3 = true := by kernel_rfl
end Go.Av


open Go Go.Av Go.Proofs
set_option maxRecDepth 1000000
set_option linter.all false
namespace Go.Av
variable [Tok]
theorem c240_4 : allR (checkE Tryz.prog fsRi1 100000 GG TTRi 20 240 (.tu 7)) l240_4 = true := by kernel_rfl
end Go.Av


open Go Go.Av Go.Proofs
set_option maxRecDepth 1000000
set_option linter.all false
namespace Go.Av
variable [Tok]
theorem c240_5 : allR (checkE Tryz.prog fsRi1 100000 GG TTRi 20 240 (.tu 7)) l240_5 = true := by kernel_rfl
end Go.Av


open Go Go.Av Go.Proofs
set_option maxRecDepth 1000000
set_option linter.all false
namespace Go.Av
variable [Tok]
theorem c240_6 : allR (checkE Tryz.prog fsRi1 100000 GG TTRi 20 240 (.tu 7)) l240_6 = true := by kernel_rfl
end Go.Av


open Go Go.Av Go.Proofs
set_option maxRecDepth 1000000
set_option linter.all false
namespace Go.Av
variable [Tok]
theorem c240_7 : allR (checkE Tryz.prog fsRi1 100000 GG TTRi 20 240 (.tu 7)) l240_7 = true := by kernel_rfl
end Go.Av


open Go Go.Av Go.Proofs
set_option maxRecDepth 1000000
set_option linter.all false
namespace Go.Av
variable [Tok]
theorem c240_8 : allR (checkE Tryz.prog fsRi1 100000 GG TTRi 20 240 (.tu 7)) l240_8 = true := by kernel_rfl
end Go.Av


open Go Go.Av Go.Proofs
set_option maxRecDepth 1000000
set_option linter.all false
namespace Go.Av
variable [Tok]
theorem c240_9 : allR (checkE Tryz.prog fsRi1 100000 GG TTRi 20 240 (.tu 7)) l240_9 = true := by kernel_rfl
end Go.Av


open Go Go.Av Go.Proofs
set_option maxRecDepth 1000000
set_option linter.all false
namespace Go.Av
variable [Tok]
theorem c240_10 : allR (checkE Tryz.prog fsRi1 100000 GG TTRi 20 240 (.tu 7)) l240_10 = true := by kernel_rfl
end Go.Av


open Go Go.Av Go.Proofs
set_option maxRecDepth 1000000
set_option linter.all false
namespace Go.Av
variable [Tok]
theorem c240_11 : allR (checkE Tryz.prog fsRi1 100000 GG TTRi 20 240 (.tu 7)) l240_11 = true := by kernel_rfl
end Go.Av


open Go Go.Av Go.Proofs
set_option maxRecDepth 1000000
set_option linter.all false
namespace Go.Av
variable [Tok]
theorem c14_0 : allR (checkE Tryz.prog fsRi1 100000 GG TTRi 20 14 (.sl 15)) l14_0 = true := by kernel_rfl
end Go.Av


open Go Go.Av Go.Proofs
set_option maxRecDepth 1000000
set_option linter.all false
namespace Go.Av
variable [Tok]
theorem c14_1 : allR (checkE Tryz.prog fsRi1 100000 GG TTRi 20 14 (.sl 15)) l14_1 = true := by kernel_rfl
end Go.Av


open Go Go.Av Go.Proofs
set_option maxRecDepth 1000000
set_option linter.all false
namespace Go.Av
variable [Tok]
theorem c14_2 : allR (checkE Tryz.prog fsRi1 100000 GG TTRi 20 14 (.sl 15)) l14_2 = true := by kernel_rfl
end Go.Av
