/- A part of the proof: what a machine of our own over the model's code answers is what the model does; no condition. -/
import Derived.Test.YtnokndchdkdhbaaGreatDoorRiK1
set_option linter.all false
open Go Go.Av Go.Proofs
set_option maxRecDepth 1000000
set_option linter.all false
namespace Go.Av
variable [Tok]
theorem c49_17 : allR (checkE Tryz.prog fsRi3 100000 GG TTRi 20 49 (.tu 16)) l49_17 = true := by kernel_rfl
end Go.Av


open Go Go.Av Go.Proofs
set_option maxRecDepth 1000000
set_option linter.all false
namespace Go.Av
variable [Tok]
theorem c49_18 : allR (checkE Tryz.prog fsRi3 100000 GG TTRi 20 49 (.tu 16)) l49_18 = true := by kernel_rfl
end Go.Av


open Go Go.Av Go.Proofs
set_option maxRecDepth 1000000
set_option linter.all false
namespace Go.Av
variable [Tok]
theorem c49_19 : allR (checkE Tryz.prog fsRi3 100000 GG TTRi 20 49 (.tu 16)) l49_19 = true := by kernel_rfl
end Go.Av


open Go Go.Av Go.Proofs
set_option maxRecDepth 1000000
set_option linter.all false
namespace Go.Av
variable [Tok]
theorem c49_20 : allR (checkE Tryz.prog fsRi3 100000 GG TTRi 20 49 (.tu 16)) l49_20 = true := by kernel_rfl
end Go.Av


open Go Go.Av Go.Proofs
set_option maxRecDepth 1000000
set_option linter.all false
namespace Go.Av
variable [Tok]
theorem c49_21 : allR (checkE Tryz.prog fsRi3 100000 GG TTRi 20 49 (.tu 16)) l49_21 = true := by kernel_rfl
end Go.Av


open Go Go.Av Go.Proofs
set_option maxRecDepth 1000000
set_option linter.all false
namespace Go.Av
variable [Tok]
theorem c49_22 : allR (checkE Tryz.prog fsRi3 100000 GG TTRi 20 49 (.tu 16)) l49_22 = true := by kernel_rfl
end Go.Av


open Go Go.Av Go.Proofs
set_option maxRecDepth 1000000
set_option linter.all false
namespace Go.Av
variable [Tok]
theorem c49_23 : allR (checkE Tryz.prog fsRi3 100000 GG TTRi 20 49 (.tu 16)) l49_23 = true := by kernel_rfl
end Go.Av


open Go Go.Av Go.Proofs
set_option maxRecDepth 1000000
set_option linter.all false
namespace Go.Av
variable [Tok]
theorem c49_24 : allR (checkE Tryz.prog fsRi3 100000 GG TTRi 20 49 (.tu 16)) l49_24 = true := by kernel_rfl
end Go.Av


open Go Go.Av Go.Proofs
set_option maxRecDepth 1000000
set_option linter.all false
namespace Go.Av
variable [Tok]
theorem c49_25 : allR (checkE Tryz.prog fsRi3 100000 GG TTRi 20 49 (.tu 16)) l49_25 = true := by kernel_rfl
end Go.Av


open Go Go.Av Go.Proofs
set_option maxRecDepth 1000000
set_option linter.all false
namespace Go.Av
variable [Tok]
theorem c49_26 : allR (checkE Tryz.prog fsRi3 100000 GG TTRi 20 49 (.tu 16)) l49_26 = true := by kernel_rfl
end Go.Av


open Go Go.Av Go.Proofs
set_option maxRecDepth 1000000
set_option linter.all false
namespace Go.Av
variable [Tok]
theorem c49_27 : allR (checkE Tryz.prog fsRi3 100000 GG TTRi 20 49 (.tu 16)) l49_27 = true := by kernel_rfl
end Go.Av


open Go Go.Av Go.Proofs
set_option maxRecDepth 1000000
set_option linter.all false
namespace Go.Av
variable [Tok]
theorem c49_28 : allR (checkE Tryz.prog fsRi3 100000 GG TTRi 20 49 (.tu 16)) l49_28 = true := by kernel_rfl
end Go.Av


open Go Go.Av Go.Proofs
set_option maxRecDepth 1000000
set_option linter.all false
namespace Go.Av
variable [Tok]
theorem c49_29 : allR (checkE Tryz.prog fsRi3 100000 GG TTRi 20 49 (.tu 16)) l49_29 = true := by kernel_rfl
end Go.Av
