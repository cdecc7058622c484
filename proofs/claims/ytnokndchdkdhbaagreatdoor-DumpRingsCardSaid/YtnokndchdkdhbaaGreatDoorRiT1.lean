/- A part of the proof: what a machine of our own over the model's code answers is what the model does; no condition. -/
import Derived.Test.YtnokndchdkdhbaaGreatDoorRiQ1
set_option linter.all false
open Go Go.Av Go.Proofs
set_option maxRecDepth 1000000
set_option linter.all false
namespace Go.Av
variable [Tok]
theorem c11_37 : allR (checkE Tryz.prog fsRi4 100000 GG TTRi 20 11 (.tu 19)) l11_37 = true := by kernel_rfl
end Go.Av


open Go Go.Av Go.Proofs
set_option maxRecDepth 1000000
set_option linter.all false
namespace Go.Av
variable [Tok]
theorem c11_38 : allR (checkE Tryz.prog fsRi4 100000 GG TTRi 20 11 (.tu 19)) l11_38 = true := by kernel_rfl
end Go.Av


open Go Go.Av Go.Proofs
set_option maxRecDepth 1000000
set_option linter.all false
namespace Go.Av
variable [Tok]
theorem c11_39 : allR (checkE Tryz.prog fsRi4 100000 GG TTRi 20 11 (.tu 19)) l11_39 = true := by kernel_rfl
end Go.Av


open Go Go.Av Go.Proofs
set_option maxRecDepth 1000000
set_option linter.all false
namespace Go.Av
variable [Tok]
theorem c11_4 : allR (checkE Tryz.prog fsRi4 100000 GG TTRi 20 11 (.tu 19)) l11_4 = true := by kernel_rfl
end Go.Av


open Go Go.Av Go.Proofs
set_option maxRecDepth 1000000
set_option linter.all false
namespace Go.Av
variable [Tok]
theorem c11_40 : allR (checkE Tryz.prog fsRi4 100000 GG TTRi 20 11 (.tu 19)) l11_40 = true := by kernel_rfl
end Go.Av


open Go Go.Av Go.Proofs
set_option maxRecDepth 1000000
set_option linter.all false
namespace Go.Av
variable [Tok]
theorem c11_41 : allR (checkE Tryz.prog fsRi4 100000 GG TTRi 20 11 (.tu 19)) l11_41 = true := by kernel_rfl
end Go.Av


open Go Go.Av Go.Proofs
set_option maxRecDepth 1000000
set_option linter.all false
namespace Go.Av
variable [Tok]
theorem c11_42 : allR (checkE Tryz.prog fsRi4 100000 GG TTRi 20 11 (.tu 19)) l11_42 = true := by kernel_rfl
end Go.Av


open Go Go.Av Go.Proofs
set_option maxRecDepth 1000000
set_option linter.all false
namespace Go.Av
variable [Tok]
theorem c11_43 : allR (checkE Tryz.prog fsRi4 100000 GG TTRi 20 11 (.tu 19)) l11_43 = true := by kernel_rfl
end Go.Av


open Go Go.Av Go.Proofs
set_option maxRecDepth 1000000
set_option linter.all false
namespace Go.Av
variable [Tok]
theorem c11_44 : allR (checkE Tryz.prog fsRi4 100000 GG TTRi 20 11 (.tu 19)) l11_44 = true := by kernel_rfl
end Go.Av


open Go Go.Av Go.Proofs
set_option maxRecDepth 1000000
set_option linter.all false
namespace Go.Av
variable [Tok]
theorem c11_45 : allR (checkE Tryz.prog fsRi4 100000 GG TTRi 20 11 (.tu 19)) l11_45 = true := by kernel_rfl
end Go.Av


open Go Go.Av Go.Proofs
set_option maxRecDepth 1000000
set_option linter.all false
namespace Go.Av
variable [Tok]
theorem c11_46 : allR (checkE Tryz.prog fsRi4 100000 GG TTRi 20 11 (.tu 19)) l11_46 = true := by kernel_rfl
end Go.Av


open Go Go.Av Go.Proofs
set_option maxRecDepth 1000000
set_option linter.all false
namespace Go.Av
variable [Tok]
theorem c11_47 : allR (checkE Tryz.prog fsRi4 100000 GG TTRi 20 11 (.tu 19)) l11_47 = true := by kernel_rfl
end Go.Av


open Go Go.Av Go.Proofs
set_option maxRecDepth 1000000
set_option linter.all false
namespace Go.Av
variable [Tok]
theorem c11_48 : allR (checkE Tryz.prog fsRi4 100000 GG TTRi 20 11 (.tu 19)) l11_48 = true := by kernel_rfl
end Go.Av
