/- A part of the proof: what a machine of our own over the model's code answers is what the model does; no condition. -/
import Derived.Test.YtnokndchdkdhbaaGreatDoorRiQ1
set_option linter.all false
open Go Go.Av Go.Proofs
set_option maxRecDepth 1000000
set_option linter.all false
namespace Go.Av
variable [Tok]
theorem c11_13 : allR (checkE Tryz.prog fsRi4 100000 GG TTRi 20 11 (.tu 19)) l11_13 = true := by kernel_rfl
end Go.Av


open Go Go.Av Go.Proofs
set_option maxRecDepth 1000000
set_option linter.all false
namespace Go.Av
variable [Tok]
theorem c11_14 : allR (checkE Tryz.prog fsRi4 100000 GG TTRi 20 11 (.tu 19)) l11_14 = true := by kernel_rfl
end Go.Av


open Go Go.Av Go.Proofs
set_option maxRecDepth 1000000
set_option linter.all false
namespace Go.Av
variable [Tok]
theorem c11_15 : allR (checkE Tryz.prog fsRi4 100000 GG TTRi 20 11 (.tu 19)) l11_15 = true := by kernel_rfl
end Go.Av


open Go Go.Av Go.Proofs
set_option maxRecDepth 1000000
set_option linter.all false
namespace Go.Av
variable [Tok]
theorem c11_16 : allR (checkE Tryz.prog fsRi4 100000 GG TTRi 20 11 (.tu 19)) l11_16 = true := by kernel_rfl
end Go.Av


open Go Go.Av Go.Proofs
set_option maxRecDepth 1000000
set_option linter.all false
namespace Go.Av
variable [Tok]
theorem c11_17 : allR (checkE Tryz.prog fsRi4 100000 GG TTRi 20 11 (.tu 19)) l11_17 = true := by kernel_rfl
end Go.Av


open Go Go.Av Go.Proofs
set_option maxRecDepth 1000000
set_option linter.all false
namespace Go.Av
variable [Tok]
theorem c11_18 : allR (checkE Tryz.prog fsRi4 100000 GG TTRi 20 11 (.tu 19)) l11_18 = true := by kernel_rfl
end Go.Av


open Go Go.Av Go.Proofs
set_option maxRecDepth 1000000
set_option linter.all false
namespace Go.Av
variable [Tok]
theorem c11_19 : allR (checkE Tryz.prog fsRi4 100000 GG TTRi 20 11 (.tu 19)) l11_19 = true := by kernel_rfl
end Go.Av


open Go Go.Av Go.Proofs
set_option maxRecDepth 1000000
set_option linter.all false
namespace Go.Av
variable [Tok]
theorem c11_2 : allR (checkE Tryz.prog fsRi4 100000 GG TTRi 20 11 (.tu 19)) l11_2 = true := by kernel_rfl
end Go.Av


open Go Go.Av Go.Proofs
set_option maxRecDepth 1000000
set_option linter.all false
namespace Go.Av
variable [Tok]
theorem c11_20 : allR (checkE Tryz.prog fsRi4 100000 GG TTRi 20 11 (.tu 19)) l11_20 = true := by kernel_rfl
end Go.Av


open Go Go.Av Go.Proofs
set_option maxRecDepth 1000000
set_option linter.all false
namespace Go.Av
variable [Tok]
theorem c11_21 : allR (checkE Tryz.prog fsRi4 100000 GG TTRi 20 11 (.tu 19)) l11_21 = true := by kernel_rfl
end Go.Av


open Go Go.Av Go.Proofs
set_option maxRecDepth 1000000
set_option linter.all false
namespace Go.Av
variable [Tok]
theorem c11_22 : allR (checkE Tryz.prog fsRi4 100000 GG TTRi 20 11 (.tu 19)) l11_22 = true := by kernel_rfl
end Go.Av


open Go Go.Av Go.Proofs
set_option maxRecDepth 1000000
set_option linter.all false
namespace Go.Av
variable [Tok]
theorem c11_23 : allR (checkE Tryz.prog fsRi4 100000 GG TTRi 20 11 (.tu 19)) l11_23 = true := by kernel_rfl
end Go.Av


open Go Go.Av Go.Proofs
set_option maxRecDepth 1000000
set_option linter.all false
namespace Go.Av
variable [Tok]
theorem c11_24 : allR (checkE Tryz.prog fsRi4 100000 GG TTRi 20 11 (.tu 19)) l11_24 = true := by kernel_rfl
end Go.Av
