/- A part of the proof: what a machine of our own over the model's code answers is what the model does; no condition. -/
import Derived.Test.YtnokndchdkdhbaaGreatDoorRiE1
set_option linter.all false
open Go Go.Av Go.Proofs
set_option maxRecDepth 1000000
set_option linter.all false
namespace Go.Av
variable [Tok]
theorem c50_0 : allR (checkE Tryz.prog fsRi1 100000 GG TTRi 20 50 (.tu 9)) l50_0 = true := by kernel_rfl
end Go.Av


open Go Go.Av Go.Proofs
set_option maxRecDepth 1000000
set_option linter.all false
namespace Go.Av
variable [Tok]
theorem c50_1 : allR (checkE Tryz.prog fsRi1 100000 GG TTRi 20 50 (.tu 9)) l50_1 = true := by kernel_rfl
end Go.Av


open Go Go.Av Go.Proofs
set_option maxRecDepth 1000000
set_option linter.all false
namespace Go.Av
variable [Tok]
theorem c50_2 : allR (checkE Tryz.prog fsRi1 100000 GG TTRi 20 50 (.tu 9)) l50_2 = true := by kernel_rfl
end Go.Av


open Go Go.Av Go.Proofs
set_option maxRecDepth 1000000
set_option linter.all false
namespace Go.Av
variable [Tok]
theorem c50_3 : allR (checkE Tryz.prog fsRi1 100000 GG TTRi 20 50 (.tu 9)) l50_3 = true := by kernel_rfl
end Go.Av


open Go Go.Av Go.Proofs
set_option maxRecDepth 1000000
set_option linter.all false
namespace Go.Av
variable [Tok]
theorem c50_4 : allR (checkE Tryz.prog fsRi1 100000 GG TTRi 20 50 (.tu 9)) l50_4 = true := by kernel_rfl
end Go.Av


open Go Go.Av Go.Proofs
set_option maxRecDepth 1000000
set_option linter.all false
namespace Go.Av
variable [Tok]
theorem c50_5 : allR (checkE Tryz.prog fsRi1 100000 GG TTRi 20 50 (.tu 9)) l50_5 = true := by kernel_rfl
end Go.Av


open Go Go.Av Go.Proofs
set_option maxRecDepth 1000000
set_option linter.all false
namespace Go.Av
variable [Tok]
theorem c50_6 : allR (checkE Tryz.prog fsRi1 100000 GG TTRi 20 50 (.tu 9)) l50_6 = true := by kernel_rfl
end Go.Av


open Go Go.Av Go.Proofs
set_option maxRecDepth 1000000
set_option linter.all false
namespace Go.Av
variable [Tok]
theorem c50_7 : allR (checkE Tryz.prog fsRi1 100000 GG TTRi 20 50 (.tu 9)) l50_7 = true := by kernel_rfl
end Go.Av


open Go Go.Av Go.Proofs
set_option maxRecDepth 1000000
set_option linter.all false
namespace Go.Av
variable [Tok]
theorem c50_8 : allR (checkE Tryz.prog fsRi1 100000 GG TTRi 20 50 (.tu 9)) l50_8 = true := by kernel_rfl
end Go.Av


open Go Go.Av Go.Proofs
set_option maxRecDepth 1000000
set_option linter.all false
namespace Go.Av
variable [Tok]
theorem c50_9 : allR (checkE Tryz.prog fsRi1 100000 GG TTRi 20 50 (.tu 9)) l50_9 = true := by kernel_rfl
end Go.Av


open Go Go.Av Go.Proofs
set_option maxRecDepth 1000000
set_option linter.all false
namespace Go.Av
variable [Tok]
theorem c50_10 : allR (checkE Tryz.prog fsRi1 100000 GG TTRi 20 50 (.tu 9)) l50_10 = true := by kernel_rfl
end Go.Av


open Go Go.Av Go.Proofs
set_option maxRecDepth 1000000
set_option linter.all false
namespace Go.Av
variable [Tok]
theorem c50_11 : allR (checkE Tryz.prog fsRi1 100000 GG TTRi 20 50 (.tu 9)) l50_11 = true := by kernel_rfl
end Go.Av


open Go Go.Av Go.Proofs
set_option maxRecDepth 1000000
set_option linter.all false
namespace Go.Av
variable [Tok]
theorem c50_12 : allR (checkE Tryz.prog fsRi1 100000 GG TTRi 20 50 (.tu 9)) l50_12 = true := by kernel_rfl
end Go.Av
