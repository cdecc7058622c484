/- A part of the proof: what a machine of our own over the model's code answers is what the model does; no condition. -/
import Derived.Test.YtnokndchdkdhbaaGreatDoorRiK1
set_option linter.all false
open Go Go.Av Go.Proofs
set_option maxRecDepth 1000000
set_option linter.all false
namespace Go.Av
variable [Tok]
theorem c49_4 : allR (checkE Tryz.prog fsRi3 100000 GG TTRi 20 49 (.tu 16)) l49_4 = true := by kernel_rfl
end Go.Av


open Go Go.Av Go.Proofs
set_option maxRecDepth 1000000
set_option linter.all false
namespace Go.Av
variable [Tok]
theorem c49_5 : allR (checkE Tryz.prog fsRi3 100000 GG TTRi 20 49 (.tu 16)) l49_5 = true := by kernel_rfl
end Go.Av


open Go Go.Av Go.Proofs
set_option maxRecDepth 1000000
set_option linter.all false
namespace Go.Av
variable [Tok]
theorem c49_6 : allR (checkE Tryz.prog fsRi3 100000 GG TTRi 20 49 (.tu 16)) l49_6 = true := by kernel_rfl
end Go.Av


open Go Go.Av Go.Proofs
set_option maxRecDepth 1000000
set_option linter.all false
namespace Go.Av
variable [Tok]
theorem c49_7 : allR (checkE Tryz.prog fsRi3 100000 GG TTRi 20 49 (.tu 16)) l49_7 = true := by kernel_rfl
end Go.Av


open Go Go.Av Go.Proofs
set_option maxRecDepth 1000000
set_option linter.all false
namespace Go.Av
variable [Tok]
theorem c49_8 : allR (checkE Tryz.prog fsRi3 100000 GG TTRi 20 49 (.tu 16)) l49_8 = true := by kernel_rfl
end Go.Av


open Go Go.Av Go.Proofs
set_option maxRecDepth 1000000
set_option linter.all false
namespace Go.Av
variable [Tok]
theorem c49_9 : allR (checkE Tryz.prog fsRi3 100000 GG TTRi 20 49 (.tu 16)) l49_9 = true := by kernel_rfl
end Go.Av


open Go Go.Av Go.Proofs
set_option maxRecDepth 1000000
set_option linter.all false
namespace Go.Av
variable [Tok]
theorem c49_10 : allR (checkE Tryz.prog fsRi3 100000 GG TTRi 20 49 (.tu 16)) l49_10 = true := by kernel_rfl
end Go.Av


open Go Go.Av Go.Proofs
set_option maxRecDepth 1000000
set_option linter.all false
namespace Go.Av
variable [Tok]
theorem c49_11 : allR (checkE Tryz.prog fsRi3 100000 GG TTRi 20 49 (.tu 16)) l49_11 = true := by kernel_rfl
end Go.Av


open Go Go.Av Go.Proofs
set_option maxRecDepth 1000000
set_option linter.all false
namespace Go.Av
variable [Tok]
theorem c49_12 : allR (checkE Tryz.prog fsRi3 100000 GG TTRi 20 49 (.tu 16)) l49_12 = true := by kernel_rfl
end Go.Av


open Go Go.Av Go.Proofs
set_option maxRecDepth 1000000
set_option linter.all false
namespace Go.Av
variable [Tok]
theorem c49_13 : allR (checkE Tryz.prog fsRi3 100000 GG TTRi 20 49 (.tu 16)) l49_13 = true := by kernel_rfl
end Go.Av


open Go Go.Av Go.Proofs
set_option maxRecDepth 1000000
set_option linter.all false
namespace Go.Av
variable [Tok]
theorem c49_14 : allR (checkE Tryz.prog fsRi3 100000 GG TTRi 20 49 (.tu 16)) l49_14 = true := by kernel_rfl
end Go.Av


open Go Go.Av Go.Proofs
set_option maxRecDepth 1000000
set_option linter.all false
namespace Go.Av
variable [Tok]
theorem c49_15 : allR (checkE Tryz.prog fsRi3 100000 GG TTRi 20 49 (.tu 16)) l49_15 = true := by kernel_rfl
end Go.Av


open Go Go.Av Go.Proofs
set_option maxRecDepth 1000000
set_option linter.all false
namespace Go.Av
variable [Tok]
theorem c49_16 : allR (checkE Tryz.prog fsRi3 100000 GG TTRi 20 49 (.tu 16)) l49_16 = true := by kernel_rfl
end Go.Av
