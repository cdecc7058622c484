/- A part of the proof: what a machine of our own over the model's code answers is what the model does; no condition. -/
import Derived.Test.YtndjadliihggpaaGreatDoorLiG
set_option linter.all false
open Go Go.Av Go.Proofs
set_option maxRecDepth 1000000
namespace Go.Av
theorem t_0 : isTr (call Tryz.prog (fsT [⟨0, 5, 0⟩, ⟨1, 5, 0⟩]) 100000 6 [.tok 0, .tok 1, .b true] (hG Tryz.prog GG)) = true := by kernel_rfl
theorem t_1 : isTr (call Tryz.prog (fsT [⟨0, 5, 0⟩, ⟨1, 5, 0⟩]) 100000 6 [.tok 0, .tok 1, .b false] (hG Tryz.prog GG)) = true := by kernel_rfl
theorem t_2 : isTr (call Tryz.prog (fsT [⟨0, 5, 0⟩, ⟨1, 5, 1⟩]) 100000 6 [.tok 0, .tok 1, .b true] (hG Tryz.prog GG)) = true := by kernel_rfl
theorem t_3 : isTr (call Tryz.prog (fsT [⟨0, 5, 0⟩, ⟨1, 5, 1⟩]) 100000 6 [.tok 0, .tok 1, .b false] (hG Tryz.prog GG)) = true := by kernel_rfl
theorem t_4 : isTr (call Tryz.prog (fsT [⟨0, 5, 0⟩, ⟨1, 5, 2⟩]) 100000 6 [.tok 0, .tok 1, .b true] (hG Tryz.prog GG)) = true := by kernel_rfl
theorem t_5 : isTr (call Tryz.prog (fsT [⟨0, 5, 0⟩, ⟨1, 5, 2⟩]) 100000 6 [.tok 0, .tok 1, .b false] (hG Tryz.prog GG)) = true := by kernel_rfl
theorem t_6 : isTr (call Tryz.prog (fsT [⟨0, 5, 0⟩, ⟨1, 5, 3⟩]) 100000 6 [.tok 0, .tok 1, .b true] (hG Tryz.prog GG)) = true := by kernel_rfl
theorem t_7 : isTr (call Tryz.prog (fsT [⟨0, 5, 0⟩, ⟨1, 5, 3⟩]) 100000 6 [.tok 0, .tok 1, .b false] (hG Tryz.prog GG)) = true := by kernel_rfl
theorem t_8 : isTr (call Tryz.prog (fsT [⟨0, 5, 0⟩, ⟨1, 5, 4⟩]) 100000 6 [.tok 0, .tok 1, .b true] (hG Tryz.prog GG)) = true := by kernel_rfl
theorem t_9 : isTr (call Tryz.prog (fsT [⟨0, 5, 0⟩, ⟨1, 5, 4⟩]) 100000 6 [.tok 0, .tok 1, .b false] (hG Tryz.prog GG)) = true := by kernel_rfl
end Go.Av


open Go Go.Av Go.Proofs
set_option maxRecDepth 1000000
namespace Go.Av
theorem t_10 : isTr (call Tryz.prog (fsT [⟨0, 5, 1⟩, ⟨1, 5, 0⟩]) 100000 6 [.tok 0, .tok 1, .b true] (hG Tryz.prog GG)) = true := by kernel_rfl
theorem t_11 : isTr (call Tryz.prog (fsT [⟨0, 5, 1⟩, ⟨1, 5, 0⟩]) 100000 6 [.tok 0, .tok 1, .b false] (hG Tryz.prog GG)) = true := by kernel_rfl
theorem t_12 : isTr (call Tryz.prog (fsT [⟨0, 5, 1⟩, ⟨1, 5, 1⟩]) 100000 6 [.tok 0, .tok 1, .b true] (hG Tryz.prog GG)) = true := by kernel_rfl
theorem t_13 : isTr (call Tryz.prog (fsT [⟨0, 5, 1⟩, ⟨1, 5, 1⟩]) 100000 6 [.tok 0, .tok 1, .b false] (hG Tryz.prog GG)) = true := by kernel_rfl
theorem t_14 : isTr (call Tryz.prog (fsT [⟨0, 5, 1⟩, ⟨1, 5, 2⟩]) 100000 6 [.tok 0, .tok 1, .b true] (hG Tryz.prog GG)) = true := by kernel_rfl
theorem t_15 : isTr (call Tryz.prog (fsT [⟨0, 5, 1⟩, ⟨1, 5, 2⟩]) 100000 6 [.tok 0, .tok 1, .b false] (hG Tryz.prog GG)) = true := by kernel_rfl
theorem t_16 : isTr (call Tryz.prog (fsT [⟨0, 5, 1⟩, ⟨1, 5, 3⟩]) 100000 6 [.tok 0, .tok 1, .b true] (hG Tryz.prog GG)) = true := by kernel_rfl
theorem t_17 : isTr (call Tryz.prog (fsT [⟨0, 5, 1⟩, ⟨1, 5, 3⟩]) 100000 6 [.tok 0, .tok 1, .b false] (hG Tryz.prog GG)) = true := by kernel_rfl
theorem t_18 : isTr (call Tryz.prog (fsT [⟨0, 5, 1⟩, ⟨1, 5, 4⟩]) 100000 6 [.tok 0, .tok 1, .b true] (hG Tryz.prog GG)) = true := by kernel_rfl
theorem t_19 : isTr (call Tryz.prog (fsT [⟨0, 5, 1⟩, ⟨1, 5, 4⟩]) 100000 6 [.tok 0, .tok 1, .b false] (hG Tryz.prog GG)) = true := by kernel_rfl
end Go.Av


open Go Go.Av Go.Proofs
set_option maxRecDepth 1000000
namespace Go.Av
theorem t_20 : isTr (call Tryz.prog (fsT [⟨0, 5, 2⟩, ⟨1, 5, 0⟩]) 100000 6 [.tok 0, .tok 1, .b true] (hG Tryz.prog GG)) = true := by kernel_rfl
theorem t_21 : isTr (call Tryz.prog (fsT [⟨0, 5, 2⟩, ⟨1, 5, 0⟩]) 100000 6 [.tok 0, .tok 1, .b false] (hG Tryz.prog GG)) = true := by kernel_rfl
theorem t_22 : isTr (call Tryz.prog (fsT [⟨0, 5, 2⟩, ⟨1, 5, 1⟩]) 100000 6 [.tok 0, .tok 1, .b true] (hG Tryz.prog GG)) = true := by kernel_rfl
theorem t_23 : isTr (call Tryz.prog (fsT [⟨0, 5, 2⟩, ⟨1, 5, 1⟩]) 100000 6 [.tok 0, .tok 1, .b false] (hG Tryz.prog GG)) = true := by kernel_rfl
theorem t_24 : isTr (call Tryz.prog (fsT [⟨0, 5, 2⟩, ⟨1, 5, 2⟩]) 100000 6 [.tok 0, .tok 1, .b true] (hG Tryz.prog GG)) = true := by kernel_rfl
theorem t_25 : isTr (call Tryz.prog (fsT [⟨0, 5, 2⟩, ⟨1, 5, 2⟩]) 100000 6 [.tok 0, .tok 1, .b false] (hG Tryz.prog GG)) = true := by kernel_rfl
theorem t_26 : isTr (call Tryz.prog (fsT [⟨0, 5, 2⟩, ⟨1, 5, 3⟩]) 100000 6 [.tok 0, .tok 1, .b true] (hG Tryz.prog GG)) = true := by kernel_rfl
theorem t_27 : isTr (call Tryz.prog (fsT [⟨0, 5, 2⟩, ⟨1, 5, 3⟩]) 100000 6 [.tok 0, .tok 1, .b false] (hG Tryz.prog GG)) = true := by kernel_rfl
theorem t_28 : isTr (call Tryz.prog (fsT [⟨0, 5, 2⟩, ⟨1, 5, 4⟩]) 100000 6 [.tok 0, .tok 1, .b true] (hG Tryz.prog GG)) = true := by kernel_rfl
theorem t_29 : isTr (call Tryz.prog (fsT [⟨0, 5, 2⟩, ⟨1, 5, 4⟩]) 100000 6 [.tok 0, .tok 1, .b false] (hG Tryz.prog GG)) = true := by kernel_rfl
end Go.Av


open Go Go.Av Go.Proofs
set_option maxRecDepth 1000000
namespace Go.Av
theorem t_30 : isTr (call Tryz.prog (fsT [⟨0, 5, 3⟩, ⟨1, 5, 0⟩]) 100000 6 [.tok 0, .tok 1, .b true] (hG Tryz.prog GG)) = true := by kernel_rfl
theorem t_31 : isTr (call Tryz.prog (fsT [⟨0, 5, 3⟩, ⟨1, 5, 0⟩]) 100000 6 [.tok 0, .tok 1, .b false] (hG Tryz.prog GG)) = true := by kernel_rfl
theorem t_32 : isTr (call Tryz.prog (fsT [⟨0, 5, 3⟩, ⟨1, 5, 1⟩]) 100000 6 [.tok 0, .tok 1, .b true] (hG Tryz.prog GG)) = true := by kernel_rfl
theorem t_33 : isTr (call Tryz.prog (fsT [⟨0, 5, 3⟩, ⟨1, 5, 1⟩]) 100000 6 [.tok 0, .tok 1, .b false] (hG Tryz.prog GG)) = true := by kernel_rfl
theorem t_34 : isTr (call Tryz.prog (fsT [⟨0, 5, 3⟩, ⟨1, 5, 2⟩]) 100000 6 [.tok 0, .tok 1, .b true] (hG Tryz.prog GG)) = true := by kernel_rfl
theorem t_35 : isTr (call Tryz.prog (fsT [⟨0, 5, 3⟩, ⟨1, 5, 2⟩]) 100000 6 [.tok 0, .tok 1, .b false] (hG Tryz.prog GG)) = true := by kernel_rfl
theorem t_36 : isTr (call Tryz.prog (fsT [⟨0, 5, 3⟩, ⟨1, 5, 3⟩]) 100000 6 [.tok 0, .tok 1, .b true] (hG Tryz.prog GG)) = true := by kernel_rfl
theorem t_37 : isTr (call Tryz.prog (fsT [⟨0, 5, 3⟩, ⟨1, 5, 3⟩]) 100000 6 [.tok 0, .tok 1, .b false] (hG Tryz.prog GG)) = true := by kernel_rfl
theorem t_38 : isTr (call Tryz.prog (fsT [⟨0, 5, 3⟩, ⟨1, 5, 4⟩]) 100000 6 [.tok 0, .tok 1, .b true] (hG Tryz.prog GG)) = true := by kernel_rfl
theorem t_39 : isTr (call Tryz.prog (fsT [⟨0, 5, 3⟩, ⟨1, 5, 4⟩]) 100000 6 [.tok 0, .tok 1, .b false] (hG Tryz.prog GG)) = true := by kernel_rfl
end Go.Av


open Go Go.Av Go.Proofs
set_option maxRecDepth 1000000
namespace Go.Av
theorem t_40 : isTr (call Tryz.prog (fsT [⟨0, 5, 4⟩, ⟨1, 5, 0⟩]) 100000 6 [.tok 0, .tok 1, .b true] (hG Tryz.prog GG)) = true := by kernel_rfl
theorem t_41 : isTr (call Tryz.prog (fsT [⟨0, 5, 4⟩, ⟨1, 5, 0⟩]) 100000 6 [.tok 0, .tok 1, .b false] (hG Tryz.prog GG)) = true := by kernel_rfl
theorem t_42 : isTr (call Tryz.prog (fsT [⟨0, 5, 4⟩, ⟨1, 5, 1⟩]) 100000 6 [.tok 0, .tok 1, .b true] (hG Tryz.prog GG)) = true := by kernel_rfl
theorem t_43 : isTr (call Tryz.prog (fsT [⟨0, 5, 4⟩, ⟨1, 5, 1⟩]) 100000 6 [.tok 0, .tok 1, .b false] (hG Tryz.prog GG)) = true := by kernel_rfl
theorem t_44 : isTr (call Tryz.prog (fsT [⟨0, 5, 4⟩, ⟨1, 5, 2⟩]) 100000 6 [.tok 0, .tok 1, .b true] (hG Tryz.prog GG)) = true := by kernel_rfl
theorem t_45 : isTr (call Tryz.prog (fsT [⟨0, 5, 4⟩, ⟨1, 5, 2⟩]) 100000 6 [.tok 0, .tok 1, .b false] (hG Tryz.prog GG)) = true := by kernel_rfl
theorem t_46 : isTr (call Tryz.prog (fsT [⟨0, 5, 4⟩, ⟨1, 5, 3⟩]) 100000 6 [.tok 0, .tok 1, .b true] (hG Tryz.prog GG)) = true := by kernel_rfl
theorem t_47 : isTr (call Tryz.prog (fsT [⟨0, 5, 4⟩, ⟨1, 5, 3⟩]) 100000 6 [.tok 0, .tok 1, .b false] (hG Tryz.prog GG)) = true := by kernel_rfl
theorem t_48 : isTr (call Tryz.prog (fsT [⟨0, 5, 4⟩, ⟨1, 5, 4⟩]) 100000 6 [.tok 0, .tok 1, .b true] (hG Tryz.prog GG)) = true := by kernel_rfl
theorem t_49 : isTr (call Tryz.prog (fsT [⟨0, 5, 4⟩, ⟨1, 5, 4⟩]) 100000 6 [.tok 0, .tok 1, .b false] (hG Tryz.prog GG)) = true := by kernel_rfl
end Go.Av
