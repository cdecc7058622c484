/- A part of the proof: what a machine of our own over the model's code answers is what the model does; no condition. -/
import Derived.Test.YtndjadliihggpaaGreatDoorKnT
set_option linter.all false
open Go Go.Av Go.Proofs
set_option maxRecDepth 1000000
namespace Go.Av
theorem t_0 : isTr (call Tryz.prog (fsT 26 0) 100000 3 [.tok 0] (hG Tryz.prog GG)) = true := by kernel_rfl
theorem t_1 : isTr (call Tryz.prog (fsT 26 1) 100000 3 [.tok 0] (hG Tryz.prog GG)) = true := by kernel_rfl
theorem t_2 : isTr (call Tryz.prog (fsT 26 2) 100000 3 [.tok 0] (hG Tryz.prog GG)) = true := by kernel_rfl
theorem t_3 : isTr (call Tryz.prog (fsT 26 3) 100000 3 [.tok 0] (hG Tryz.prog GG)) = true := by kernel_rfl
theorem t_4 : isTr (call Tryz.prog (fsT 26 4) 100000 3 [.tok 0] (hG Tryz.prog GG)) = true := by kernel_rfl
theorem t_5 : isTr (call Tryz.prog (fsT 26 5) 100000 3 [.tok 0] (hG Tryz.prog GG)) = true := by kernel_rfl
theorem t_6 : isTr (call Tryz.prog (fsT 26 6) 100000 3 [.tok 0] (hG Tryz.prog GG)) = true := by kernel_rfl
end Go.Av


open Go Go.Av Go.Proofs
set_option maxRecDepth 1000000
namespace Go.Av
theorem t_7 : isTr (call Tryz.prog (fsT 26 7) 100000 3 [.tok 0] (hG Tryz.prog GG)) = true := by kernel_rfl
theorem t_8 : isTr (call Tryz.prog (fsT 26 8) 100000 3 [.tok 0] (hG Tryz.prog GG)) = true := by kernel_rfl
theorem t_9 : isTr (call Tryz.prog (fsT 26 9) 100000 3 [.tok 0] (hG Tryz.prog GG)) = true := by kernel_rfl
theorem t_10 : isTr (call Tryz.prog (fsT 26 10) 100000 3 [.tok 0] (hG Tryz.prog GG)) = true := by kernel_rfl
theorem t_11 : isTr (call Tryz.prog (fsT 26 11) 100000 3 [.tok 0] (hG Tryz.prog GG)) = true := by kernel_rfl
theorem t_12 : isTr (call Tryz.prog (fsT 26 12) 100000 3 [.tok 0] (hG Tryz.prog GG)) = true := by kernel_rfl
theorem t_13 : isTr (call Tryz.prog (fsT 26 13) 100000 3 [.tok 0] (hG Tryz.prog GG)) = true := by kernel_rfl
end Go.Av


open Go Go.Av Go.Proofs
set_option maxRecDepth 1000000
namespace Go.Av
theorem t_14 : isTr (call Tryz.prog (fsT 26 14) 100000 3 [.tok 0] (hG Tryz.prog GG)) = true := by kernel_rfl
theorem t_15 : isTr (call Tryz.prog (fsT 26 15) 100000 3 [.tok 0] (hG Tryz.prog GG)) = true := by kernel_rfl
theorem t_16 : isTr (call Tryz.prog (fsT 26 16) 100000 3 [.tok 0] (hG Tryz.prog GG)) = true := by kernel_rfl
theorem t_17 : isTr (call Tryz.prog (fsT 26 17) 100000 3 [.tok 0] (hG Tryz.prog GG)) = true := by kernel_rfl
theorem t_18 : isTr (call Tryz.prog (fsT 26 18) 100000 3 [.tok 0] (hG Tryz.prog GG)) = true := by kernel_rfl
theorem t_19 : isTr (call Tryz.prog (fsT 26 19) 100000 3 [.tok 0] (hG Tryz.prog GG)) = true := by kernel_rfl
theorem t_20 : isTr (call Tryz.prog (fsT 26 20) 100000 3 [.tok 0] (hG Tryz.prog GG)) = true := by kernel_rfl
end Go.Av


open Go Go.Av Go.Proofs
set_option maxRecDepth 1000000
namespace Go.Av
theorem t_21 : isTr (call Tryz.prog (fsT 26 21) 100000 3 [.tok 0] (hG Tryz.prog GG)) = true := by kernel_rfl
theorem t_22 : isTr (call Tryz.prog (fsT 26 22) 100000 3 [.tok 0] (hG Tryz.prog GG)) = true := by kernel_rfl
theorem t_23 : isTr (call Tryz.prog (fsT 26 23) 100000 3 [.tok 0] (hG Tryz.prog GG)) = true := by kernel_rfl
theorem t_24 : isTr (call Tryz.prog (fsT 26 24) 100000 3 [.tok 0] (hG Tryz.prog GG)) = true := by kernel_rfl
theorem t_25 : isTr (call Tryz.prog (fsT 26 25) 100000 3 [.tok 0] (hG Tryz.prog GG)) = true := by kernel_rfl
end Go.Av
