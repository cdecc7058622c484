/- A part of the proof: what a machine of our own over the model's code answers is what the model does; no condition. -/
import Derived.Test.YtnokndchdkdhbaaGreatDoorRiK1
set_option linter.all false
open Go Go.Av Go.Proofs
set_option maxRecDepth 1000000
set_option linter.all false
namespace Go.Av
variable [Tok]
theorem c49_43 : allR (checkE Tryz.prog fsRi3 100000 GG TTRi 20 49 (.tu 16)) l49_43 = true := by kernel_rfl
end Go.Av


open Go Go.Av Go.Proofs
set_option maxRecDepth 1000000
set_option linter.all false
namespace Go.Av
variable [Tok]
theorem c49_44 : allR (checkE Tryz.prog fsRi3 100000 GG TTRi 20 49 (.tu 16)) l49_44 = true := by kernel_rfl
end Go.Av


open Go Go.Av Go.Proofs
set_option maxRecDepth 1000000
set_option linter.all false
namespace Go.Av
variable [Tok]
theorem c49_45 : allR (checkE Tryz.prog fsRi3 100000 GG TTRi 20 49 (.tu 16)) l49_45 = true := by kernel_rfl
end Go.Av


open Go Go.Av Go.Proofs
set_option maxRecDepth 1000000
set_option linter.all false
namespace Go.Av
variable [Tok]
theorem c49_46 : allR (checkE Tryz.prog fsRi3 100000 GG TTRi 20 49 (.tu 16)) l49_46 = true := by kernel_rfl
end Go.Av


open Go Go.Av Go.Proofs
set_option maxRecDepth 1000000
set_option linter.all false
namespace Go.Av
variable [Tok]
theorem c49_47 : allR (checkE Tryz.prog fsRi3 100000 GG TTRi 20 49 (.tu 16)) l49_47 = true := by kernel_rfl
end Go.Av


open Go Go.Av Go.Proofs
set_option maxRecDepth 1000000
set_option linter.all false
namespace Go.Av
variable [Tok]
theorem c49_48 : allR (checkE Tryz.prog fsRi3 100000 GG TTRi 20 49 (.tu 16)) l49_48 = true := by kernel_rfl
end Go.Av


open Go Go.Av Go.Proofs
set_option maxRecDepth 1000000
set_option linter.all false
namespace Go.Av
variable [Tok]
theorem c49_49 : allR (checkE Tryz.prog fsRi3 100000 GG TTRi 20 49 (.tu 16)) l49_49 = true := by kernel_rfl
end Go.Av


open Go Go.Av Go.Proofs
set_option maxRecDepth 1000000
set_option linter.all false
namespace Go.Av
variable [Tok]
theorem c51_0 : allR (checkE Tryz.prog fsRi3 100000 GG TTRi 20 51 (.tu 14)) l51_0 = true := by kernel_rfl
end Go.Av


open Go Go.Av Go.Proofs
set_option maxRecDepth 1000000
set_option linter.all false
namespace Go.Av
variable [Tok]
theorem c51_1 : allR (checkE Tryz.prog fsRi3 100000 GG TTRi 20 51 (.tu 14)) l51_1 = true := by kernel_rfl
end Go.Av


open Go Go.Av Go.Proofs
set_option maxRecDepth 1000000
set_option linter.all false
namespace Go.Av
variable [Tok]
theorem c51_2 : allR (checkE Tryz.prog fsRi3 100000 GG TTRi 20 51 (.tu 14)) l51_2 = true := by kernel_rfl
end Go.Av


open Go Go.Av Go.Proofs
set_option maxRecDepth 1000000
set_option linter.all false
namespace Go.Av
variable [Tok]
theorem c51_3 : allR (checkE Tryz.prog fsRi3 100000 GG TTRi 20 51 (.tu 14)) l51_3 = true := by kernel_rfl
end Go.Av


open Go Go.Av Go.Proofs
set_option maxRecDepth 1000000
set_option linter.all false
namespace Go.Av
variable [Tok]
theorem c51_4 : allR (checkE Tryz.prog fsRi3 100000 GG TTRi 20 51 (.tu 14)) l51_4 = true := by kernel_rfl
end Go.Av


open Go Go.Av Go.Proofs
set_option maxRecDepth 1000000
set_option linter.all false
namespace Go.Av
variable [Tok]
theorem c51_5 : allR (checkE Tryz.prog fsRi3 100000 GG TTRi 20 51 (.tu 14)) l51_5 = true := by kernel_rfl
end Go.Av
