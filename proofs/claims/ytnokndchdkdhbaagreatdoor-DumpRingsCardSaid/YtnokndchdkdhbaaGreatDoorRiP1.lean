/- A part of the proof: what a machine of our own over the model's code answers is what the model does; no condition. -/
import Derived.Test.YtnokndchdkdhbaaGreatDoorRiK1
set_option linter.all false
open Go Go.Av Go.Proofs
set_option maxRecDepth 1000000
set_option linter.all false
namespace Go.Av
variable [Tok]
theorem c51_6 : allR (checkE Tryz.prog fsRi3 100000 GG TTRi 20 51 (.tu 14)) l51_6 = true := by kernel_rfl
end Go.Av


open Go Go.Av Go.Proofs
set_option maxRecDepth 1000000
set_option linter.all false
namespace Go.Av
variable [Tok]
theorem c51_7 : allR (checkE Tryz.prog fsRi3 100000 GG TTRi 20 51 (.tu 14)) l51_7 = true := by kernel_rfl
end Go.Av


open Go Go.Av Go.Proofs
set_option maxRecDepth 1000000
set_option linter.all false
namespace Go.Av
variable [Tok]
theorem c51_8 : allR (checkE Tryz.prog fsRi3 100000 GG TTRi 20 51 (.tu 14)) l51_8 = true := by kernel_rfl
end Go.Av


open Go Go.Av Go.Proofs
set_option maxRecDepth 1000000
set_option linter.all false
namespace Go.Av
variable [Tok]
theorem c51_9 : allR (checkE Tryz.prog fsRi3 100000 GG TTRi 20 51 (.tu 14)) l51_9 = true := by kernel_rfl
end Go.Av


open Go Go.Av Go.Proofs
set_option maxRecDepth 1000000
set_option linter.all false
namespace Go.Av
variable [Tok]
theorem c51_10 : allR (checkE Tryz.prog fsRi3 100000 GG TTRi 20 51 (.tu 14)) l51_10 = true := by kernel_rfl
end Go.Av


open Go Go.Av Go.Proofs
set_option maxRecDepth 1000000
set_option linter.all false
namespace Go.Av
variable [Tok]
theorem c51_11 : allR (checkE Tryz.prog fsRi3 100000 GG TTRi 20 51 (.tu 14)) l51_11 = true := by kernel_rfl
end Go.Av


open Go Go.Av Go.Proofs
set_option maxRecDepth 1000000
set_option linter.all false
namespace Go.Av
variable [Tok]
theorem c51_12 : allR (checkE Tryz.prog fsRi3 100000 GG TTRi 20 51 (.tu 14)) l51_12 = true := by kernel_rfl
end Go.Av


open Go Go.Av Go.Proofs
set_option maxRecDepth 1000000
set_option linter.all false
namespace Go.Av
variable [Tok]
theorem c51_13 : allR (checkE Tryz.prog fsRi3 100000 GG TTRi 20 51 (.tu 14)) l51_13 = true := by kernel_rfl
end Go.Av


open Go Go.Av Go.Proofs
set_option maxRecDepth 1000000
set_option linter.all false
namespace Go.Av
variable [Tok]
theorem c51_14 : allR (checkE Tryz.prog fsRi3 100000 GG TTRi 20 51 (.tu 14)) l51_14 = true := by kernel_rfl
end Go.Av


open Go Go.Av Go.Proofs
set_option maxRecDepth 1000000
set_option linter.all false
namespace Go.Av
variable [Tok]
theorem c51_15 : allR (checkE Tryz.prog fsRi3 100000 GG TTRi 20 51 (.tu 14)) l51_15 = true := by kernel_rfl
end Go.Av


open Go Go.Av Go.Proofs
set_option maxRecDepth 1000000
set_option linter.all false
namespace Go.Av
variable [Tok]
theorem c51_16 : allR (checkE Tryz.prog fsRi3 100000 GG TTRi 20 51 (.tu 14)) l51_16 = true := by kernel_rfl
end Go.Av


open Go Go.Av Go.Proofs
set_option maxRecDepth 1000000
set_option linter.all false
namespace Go.Av
variable [Tok]
theorem c51_17 : allR (checkE Tryz.prog fsRi3 100000 GG TTRi 20 51 (.tu 14)) l51_17 = true := by kernel_rfl
end Go.Av


open Go Go.Av Go.Proofs
set_option maxRecDepth 1000000
set_option linter.all false
namespace Go.Av
variable [Tok]
theorem c51_18 : allR (checkE Tryz.prog fsRi3 100000 GG TTRi 20 51 (.tu 14)) l51_18 = true := by kernel_rfl
end Go.Av
