/- A part of the proof: what a machine of our own over the model's code answers is what the model does; no condition. -/
import Derived.Test.YtnokndchdkdhbaaGreatDoorMaE
set_option linter.all false
open Go Go.Av Go.Proofs
set_option maxRecDepth 1000000
set_option linter.all false
namespace Go.Av
theorem Mat_0 [Tok] : isTr (call Tryz.prog (fsMaT [⟨0, 30, 0⟩, ⟨1, 4, 0⟩]) 100000 4 [.tok 0, .tok 1] (hG Tryz.prog GG)) = true := by kernel_rfl
theorem Mat_1 [Tok] : isTr (call Tryz.prog (fsMaT [⟨0, 30, 0⟩, ⟨1, 4, 1⟩]) 100000 4 [.tok 0, .tok 1] (hG Tryz.prog GG)) = true := by kernel_rfl
theorem Mat_2 [Tok] : isTr (call Tryz.prog (fsMaT [⟨0, 30, 0⟩, ⟨1, 4, 2⟩]) 100000 4 [.tok 0, .tok 1] (hG Tryz.prog GG)) = true := by kernel_rfl
theorem Mat_3 [Tok] : isTr (call Tryz.prog (fsMaT [⟨0, 30, 0⟩, ⟨1, 4, 3⟩]) 100000 4 [.tok 0, .tok 1] (hG Tryz.prog GG)) = true := by kernel_rfl
theorem Mat_4 [Tok] : isTr (call Tryz.prog (fsMaT [⟨0, 30, 1⟩, ⟨1, 4, 0⟩]) 100000 4 [.tok 0, .tok 1] (hG Tryz.prog GG)) = true := by kernel_rfl
theorem Mat_5 [Tok] : isTr (call Tryz.prog (fsMaT [⟨0, 30, 1⟩, ⟨1, 4, 1⟩]) 100000 4 [.tok 0, .tok 1] (hG Tryz.prog GG)) = true := by kernel_rfl
theorem Mat_6 [Tok] : isTr (call Tryz.prog (fsMaT [⟨0, 30, 1⟩, ⟨1, 4, 2⟩]) 100000 4 [.tok 0, .tok 1] (hG Tryz.prog GG)) = true := by kernel_rfl
theorem Mat_7 [Tok] : isTr (call Tryz.prog (fsMaT [⟨0, 30, 1⟩, ⟨1, 4, 3⟩]) 100000 4 [.tok 0, .tok 1] (hG Tryz.prog GG)) = true := by kernel_rfl
theorem Mat_8 [Tok] : isTr (call Tryz.prog (fsMaT [⟨0, 30, 2⟩, ⟨1, 4, 0⟩]) 100000 4 [.tok 0, .tok 1] (hG Tryz.prog GG)) = true := by kernel_rfl
theorem Mat_9 [Tok] : isTr (call Tryz.prog (fsMaT [⟨0, 30, 2⟩, ⟨1, 4, 1⟩]) 100000 4 [.tok 0, .tok 1] (hG Tryz.prog GG)) = true := by kernel_rfl
theorem Mat_10 [Tok] : isTr (call Tryz.prog (fsMaT [⟨0, 30, 2⟩, ⟨1, 4, 2⟩]) 100000 4 [.tok 0, .tok 1] (hG Tryz.prog GG)) = true := by kernel_rfl
theorem Mat_11 [Tok] : isTr (call Tryz.prog (fsMaT [⟨0, 30, 2⟩, ⟨1, 4, 3⟩]) 100000 4 [.tok 0, .tok 1] (hG Tryz.prog GG)) = true := by kernel_rfl
theorem Mat_12 [Tok] : isTr (call Tryz.prog (fsMaT [⟨0, 30, 3⟩, ⟨1, 4, 0⟩]) 100000 4 [.tok 0, .tok 1] (hG Tryz.prog GG)) = true := by kernel_rfl
theorem Mat_13 [Tok] : isTr (call Tryz.prog (fsMaT [⟨0, 30, 3⟩, ⟨1, 4, 1⟩]) 100000 4 [.tok 0, .tok 1] (hG Tryz.prog GG)) = true := by kernel_rfl
theorem Mat_14 [Tok] : isTr (call Tryz.prog (fsMaT [⟨0, 30, 3⟩, ⟨1, 4, 2⟩]) 100000 4 [.tok 0, .tok 1] (hG Tryz.prog GG)) = true := by kernel_rfl
theorem Mat_15 [Tok] : isTr (call Tryz.prog (fsMaT [⟨0, 30, 3⟩, ⟨1, 4, 3⟩]) 100000 4 [.tok 0, .tok 1] (hG Tryz.prog GG)) = true := by kernel_rfl
theorem Mat_16 [Tok] : isTr (call Tryz.prog (fsMaT [⟨0, 30, 4⟩, ⟨1, 4, 0⟩]) 100000 4 [.tok 0, .tok 1] (hG Tryz.prog GG)) = true := by kernel_rfl
theorem Mat_17 [Tok] : isTr (call Tryz.prog (fsMaT [⟨0, 30, 4⟩, ⟨1, 4, 1⟩]) 100000 4 [.tok 0, .tok 1] (hG Tryz.prog GG)) = true := by kernel_rfl
theorem Mat_18 [Tok] : isTr (call Tryz.prog (fsMaT [⟨0, 30, 4⟩, ⟨1, 4, 2⟩]) 100000 4 [.tok 0, .tok 1] (hG Tryz.prog GG)) = true := by kernel_rfl
theorem Mat_19 [Tok] : isTr (call Tryz.prog (fsMaT [⟨0, 30, 4⟩, ⟨1, 4, 3⟩]) 100000 4 [.tok 0, .tok 1] (hG Tryz.prog GG)) = true := by kernel_rfl
theorem Mat_20 [Tok] : isTr (call Tryz.prog (fsMaT [⟨0, 30, 5⟩, ⟨1, 4, 0⟩]) 100000 4 [.tok 0, .tok 1] (hG Tryz.prog GG)) = true := by kernel_rfl
theorem Mat_21 [Tok] : isTr (call Tryz.prog (fsMaT [⟨0, 30, 5⟩, ⟨1, 4, 1⟩]) 100000 4 [.tok 0, .tok 1] (hG Tryz.prog GG)) = true := by kernel_rfl
theorem Mat_22 [Tok] : isTr (call Tryz.prog (fsMaT [⟨0, 30, 5⟩, ⟨1, 4, 2⟩]) 100000 4 [.tok 0, .tok 1] (hG Tryz.prog GG)) = true := by kernel_rfl
theorem Mat_23 [Tok] : isTr (call Tryz.prog (fsMaT [⟨0, 30, 5⟩, ⟨1, 4, 3⟩]) 100000 4 [.tok 0, .tok 1] (hG Tryz.prog GG)) = true := by kernel_rfl
theorem Mat_24 [Tok] : isTr (call Tryz.prog (fsMaT [⟨0, 30, 6⟩, ⟨1, 4, 0⟩]) 100000 4 [.tok 0, .tok 1] (hG Tryz.prog GG)) = true := by kernel_rfl
theorem Mat_25 [Tok] : isTr (call Tryz.prog (fsMaT [⟨0, 30, 6⟩, ⟨1, 4, 1⟩]) 100000 4 [.tok 0, .tok 1] (hG Tryz.prog GG)) = true := by kernel_rfl
theorem Mat_26 [Tok] : isTr (call Tryz.prog (fsMaT [⟨0, 30, 6⟩, ⟨1, 4, 2⟩]) 100000 4 [.tok 0, .tok 1] (hG Tryz.prog GG)) = true := by kernel_rfl
theorem Mat_27 [Tok] : isTr (call Tryz.prog (fsMaT [⟨0, 30, 6⟩, ⟨1, 4, 3⟩]) 100000 4 [.tok 0, .tok 1] (hG Tryz.prog GG)) = true := by kernel_rfl
theorem Mat_28 [Tok] : isTr (call Tryz.prog (fsMaT [⟨0, 30, 7⟩, ⟨1, 4, 0⟩]) 100000 4 [.tok 0, .tok 1] (hG Tryz.prog GG)) = true := by kernel_rfl
theorem Mat_29 [Tok] : isTr (call Tryz.prog (fsMaT [⟨0, 30, 7⟩, ⟨1, 4, 1⟩]) 100000 4 [.tok 0, .tok 1] (hG Tryz.prog GG)) = true := by kernel_rfl
theorem Mat_30 [Tok] : isTr (call Tryz.prog (fsMaT [⟨0, 30, 7⟩, ⟨1, 4, 2⟩]) 100000 4 [.tok 0, .tok 1] (hG Tryz.prog GG)) = true := by kernel_rfl
theorem Mat_31 [Tok] : isTr (call Tryz.prog (fsMaT [⟨0, 30, 7⟩, ⟨1, 4, 3⟩]) 100000 4 [.tok 0, .tok 1] (hG Tryz.prog GG)) = true := by kernel_rfl
theorem Mat_32 [Tok] : isTr (call Tryz.prog (fsMaT [⟨0, 30, 8⟩, ⟨1, 4, 0⟩]) 100000 4 [.tok 0, .tok 1] (hG Tryz.prog GG)) = true := by kernel_rfl
theorem Mat_33 [Tok] : isTr (call Tryz.prog (fsMaT [⟨0, 30, 8⟩, ⟨1, 4, 1⟩]) 100000 4 [.tok 0, .tok 1] (hG Tryz.prog GG)) = true := by kernel_rfl
theorem Mat_34 [Tok] : isTr (call Tryz.prog (fsMaT [⟨0, 30, 8⟩, ⟨1, 4, 2⟩]) 100000 4 [.tok 0, .tok 1] (hG Tryz.prog GG)) = true := by kernel_rfl
theorem Mat_35 [Tok] : isTr (call Tryz.prog (fsMaT [⟨0, 30, 8⟩, ⟨1, 4, 3⟩]) 100000 4 [.tok 0, .tok 1] (hG Tryz.prog GG)) = true := by kernel_rfl
theorem Mat_36 [Tok] : isTr (call Tryz.prog (fsMaT [⟨0, 30, 9⟩, ⟨1, 4, 0⟩]) 100000 4 [.tok 0, .tok 1] (hG Tryz.prog GG)) = true := by kernel_rfl
theorem Mat_37 [Tok] : isTr (call Tryz.prog (fsMaT [⟨0, 30, 9⟩, ⟨1, 4, 1⟩]) 100000 4 [.tok 0, .tok 1] (hG Tryz.prog GG)) = true := by kernel_rfl
theorem Mat_38 [Tok] : isTr (call Tryz.prog (fsMaT [⟨0, 30, 9⟩, ⟨1, 4, 2⟩]) 100000 4 [.tok 0, .tok 1] (hG Tryz.prog GG)) = true := by kernel_rfl
theorem Mat_39 [Tok] : isTr (call Tryz.prog (fsMaT [⟨0, 30, 9⟩, ⟨1, 4, 3⟩]) 100000 4 [.tok 0, .tok 1] (hG Tryz.prog GG)) = true := by kernel_rfl
end Go.Av
