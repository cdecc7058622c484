/- A part of the proof: what a machine of our own over the model's code answers is what the model does; no condition. -/
import Derived.Test.YtnokndchdkdhbaaGreatDoorRiK1
set_option linter.all false
open Go Go.Av Go.Proofs
set_option maxRecDepth 1000000
set_option linter.all false
namespace Go.Av
variable [Tok]
theorem c49_30 : allR (checkE Tryz.prog fsRi3 100000 GG TTRi 20 49 (.tu 16)) l49_30 = true := by kernel_rfl
end Go.Av


open Go Go.Av Go.Proofs
set_option maxRecDepth 1000000
set_option linter.all false
namespace Go.Av
variable [Tok]
theorem c49_31 : allR (checkE Tryz.prog fsRi3 100000 GG TTRi 20 49 (.tu 16)) l49_31 = true := by kernel_rfl
end Go.Av


open Go Go.Av Go.Proofs
set_option maxRecDepth 1000000
set_option linter.all false
namespace Go.Av
variable [Tok]
theorem c49_32 : allR (checkE Tryz.prog fsRi3 100000 GG TTRi 20 49 (.tu 16)) l49_32 = true := by kernel_rfl
end Go.Av


open Go Go.Av Go.Proofs
set_option maxRecDepth 1000000
set_option linter.all false
namespace Go.Av
variable [Tok]
theorem c49_33 : allR (checkE Tryz.prog fsRi3 100000 GG TTRi 20 49 (.tu 16)) l49_33 = true := by kernel_rfl
end Go.Av


open Go Go.Av Go.Proofs
set_option maxRecDepth 1000000
set_option linter.all false
namespace Go.Av
variable [Tok]
theorem c49_34 : allR (checkE Tryz.prog fsRi3 100000 GG TTRi 20 49 (.tu 16)) l49_34 = true := by kernel_rfl
end Go.Av


open Go Go.Av Go.Proofs
set_option maxRecDepth 1000000
set_option linter.all false
namespace Go.Av
variable [Tok]
theorem c49_35 : allR (checkE Tryz.prog fsRi3 100000 GG TTRi 20 49 (.tu 16)) l49_35 = true := by kernel_rfl
end Go.Av


open Go Go.Av Go.Proofs
set_option maxRecDepth 1000000
set_option linter.all false
namespace Go.Av
variable [Tok]
theorem c49_36 : allR (checkE Tryz.prog fsRi3 100000 GG TTRi 20 49 (.tu 16)) l49_36 = true := by kernel_rfl
end Go.Av


open Go Go.Av Go.Proofs
set_option maxRecDepth 1000000
set_option linter.all false
namespace Go.Av
variable [Tok]
theorem c49_37 : allR (checkE Tryz.prog fsRi3 100000 GG TTRi 20 49 (.tu 16)) l49_37 = true := by kernel_rfl
end Go.Av


open Go Go.Av Go.Proofs
set_option maxRecDepth 1000000
set_option linter.all false
namespace Go.Av
variable [Tok]
theorem c49_38 : allR (checkE Tryz.prog fsRi3 100000 GG TTRi 20 49 (.tu 16)) l49_38 = true := by kernel_rfl
end Go.Av


open Go Go.Av Go.Proofs
set_option maxRecDepth 1000000
set_option linter.all false
namespace Go.Av
variable [Tok]
theorem c49_39 : allR (checkE Tryz.prog fsRi3 100000 GG TTRi 20 49 (.tu 16)) l49_39 = true := by kernel_rfl
end Go.Av


open Go Go.Av Go.Proofs
set_option maxRecDepth 1000000
set_option linter.all false
namespace Go.Av
variable [Tok]
theorem c49_40 : allR (checkE Tryz.prog fsRi3 100000 GG TTRi 20 49 (.tu 16)) l49_40 = true := by kernel_rfl
end Go.Av


open Go Go.Av Go.Proofs
set_option maxRecDepth 1000000
set_option linter.all false
namespace Go.Av
variable [Tok]
theorem c49_41 : allR (checkE Tryz.prog fsRi3 100000 GG TTRi 20 49 (.tu 16)) l49_41 = true := by kernel_rfl
end Go.Av


open Go Go.Av Go.Proofs
set_option maxRecDepth 1000000
set_option linter.all false
namespace Go.Av
variable [Tok]
theorem c49_42 : allR (checkE Tryz.prog fsRi3 100000 GG TTRi 20 49 (.tu 16)) l49_42 = true := by kernel_rfl
end Go.Av
