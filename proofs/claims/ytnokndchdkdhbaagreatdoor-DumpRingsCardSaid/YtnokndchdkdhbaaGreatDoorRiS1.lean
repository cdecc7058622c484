/- A part of the proof: what a machine of our own over the model's code answers is what the model does; no condition. -/
import Derived.Test.YtnokndchdkdhbaaGreatDoorRiQ1
set_option linter.all false
open Go Go.Av Go.Proofs
set_option maxRecDepth 1000000
set_option linter.all false
namespace Go.Av
variable [Tok]
theorem c11_25 : allR (checkE Tryz.prog fsRi4 100000 GG TTRi 20 11 (.tu 19)) l11_25 = true := by kernel_rfl
end Go.Av


open Go Go.Av Go.Proofs
set_option maxRecDepth 1000000
set_option linter.all false
namespace Go.Av
variable [Tok]
theorem c11_26 : allR (checkE Tryz.prog fsRi4 100000 GG TTRi 20 11 (.tu 19)) l11_26 = true := by kernel_rfl
end Go.Av


open Go Go.Av Go.Proofs
set_option maxRecDepth 1000000
set_option linter.all false
namespace Go.Av
variable [Tok]
theorem c11_27 : allR (checkE Tryz.prog fsRi4 100000 GG TTRi 20 11 (.tu 19)) l11_27 = true := by kernel_rfl
end Go.Av


open Go Go.Av Go.Proofs
set_option maxRecDepth 1000000
set_option linter.all false
namespace Go.Av
variable [Tok]
theorem c11_28 : allR (checkE Tryz.prog fsRi4 100000 GG TTRi 20 11 (.tu 19)) l11_28 = true := by kernel_rfl
end Go.Av


open Go Go.Av Go.Proofs
set_option maxRecDepth 1000000
set_option linter.all false
namespace Go.Av
variable [Tok]
theorem c11_29 : allR (checkE Tryz.prog fsRi4 100000 GG TTRi 20 11 (.tu 19)) l11_29 = true := by kernel_rfl
end Go.Av


open Go Go.Av Go.Proofs
set_option maxRecDepth 1000000
set_option linter.all false
namespace Go.Av
variable [Tok]
theorem c11_3 : allR (checkE Tryz.prog fsRi4 100000 GG TTRi 20 11 (.tu 19)) l11_3 = true := by kernel_rfl
end Go.Av


open Go Go.Av Go.Proofs
set_option maxRecDepth 1000000
set_option linter.all false
namespace Go.Av
variable [Tok]
theorem c11_30 : allR (checkE Tryz.prog fsRi4 100000 GG TTRi 20 11 (.tu 19)) l11_30 = true := by kernel_rfl
end Go.Av


open Go Go.Av Go.Proofs
set_option maxRecDepth 1000000
set_option linter.all false
namespace Go.Av
variable [Tok]
theorem c11_31 : allR (checkE Tryz.prog fsRi4 100000 GG TTRi 20 11 (.tu 19)) l11_31 = true := by kernel_rfl
end Go.Av


open Go Go.Av Go.Proofs
set_option maxRecDepth 1000000
set_option linter.all false
namespace Go.Av
variable [Tok]
theorem c11_32 : allR (checkE Tryz.prog fsRi4 100000 GG TTRi 20 11 (.tu 19)) l11_32 = true := by kernel_rfl
end Go.Av


open Go Go.Av Go.Proofs
set_option maxRecDepth 1000000
set_option linter.all false
namespace Go.Av
variable [Tok]
theorem c11_33 : allR (checkE Tryz.prog fsRi4 100000 GG TTRi 20 11 (.tu 19)) l11_33 = true := by kernel_rfl
end Go.Av


open Go Go.Av Go.Proofs
set_option maxRecDepth 1000000
set_option linter.all false
namespace Go.Av
variable [Tok]
theorem c11_34 : allR (checkE Tryz.prog fsRi4 100000 GG TTRi 20 11 (.tu 19)) l11_34 = true := by kernel_rfl
end Go.Av


open Go Go.Av Go.Proofs
set_option maxRecDepth 1000000
set_option linter.all false
namespace Go.Av
variable [Tok]
theorem c11_35 : allR (checkE Tryz.prog fsRi4 100000 GG TTRi 20 11 (.tu 19)) l11_35 = true := by kernel_rfl
end Go.Av


open Go Go.Av Go.Proofs
set_option maxRecDepth 1000000
set_option linter.all false
namespace Go.Av
variable [Tok]
theorem c11_36 : allR (checkE Tryz.prog fsRi4 100000 GG TTRi 20 11 (.tu 19)) l11_36 = true := by kernel_rfl
end Go.Av
