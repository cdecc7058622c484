/- A part of the proof: what a machine of our own over the model's code answers is what the model does; no condition. -/
import Derived.Test.YtnokndchdkdhbaaGreatDoorMaE
set_option linter.all false
open Go Go.Av Go.Proofs
set_option maxRecDepth 1000000
set_option linter.all false
namespace Go.Av
theorem Mat_40 [Tok] : isTr (call Tryz.prog (fsMaT [⟨0, 30, 10⟩, ⟨1, 4, 0⟩]) 100000 4 [.tok 0, .tok 1] (hG Tryz.prog GG)) = true := by kernel_rfl
theorem Mat_41 [Tok] : isTr (call Tryz.prog (fsMaT [⟨0, 30, 10⟩, ⟨1, 4, 1⟩]) 100000 4 [.tok 0, .tok 1] (hG Tryz.prog GG)) = true := by kernel_rfl
theorem Mat_42 [Tok] : isTr (call Tryz.prog (fsMaT [⟨0, 30, 10⟩, ⟨1, 4, 2⟩]) 100000 4 [.tok 0, .tok 1] (hG Tryz.prog GG)) = true := by kernel_rfl
theorem Mat_43 [Tok] : isTr (call Tryz.prog (fsMaT [⟨0, 30, 10⟩, ⟨1, 4, 3⟩]) 100000 4 [.tok 0, .tok 1] (hG Tryz.prog GG)) = true := by kernel_rfl
theorem Mat_44 [Tok] : isTr (call Tryz.prog (fsMaT [⟨0, 30, 11⟩, ⟨1, 4, 0⟩]) 100000 4 [.tok 0, .tok 1] (hG Tryz.prog GG)) = true := by kernel_rfl
theorem Mat_45 [Tok] : isTr (call Tryz.prog (fsMaT [⟨0, 30, 11⟩, ⟨1, 4, 1⟩]) 100000 4 [.tok 0, .tok 1] (hG Tryz.prog GG)) = true := by kernel_rfl
theorem Mat_46 [Tok] : isTr (call Tryz.prog (fsMaT [⟨0, 30, 11⟩, ⟨1, 4, 2⟩]) 100000 4 [.tok 0, .tok 1] (hG Tryz.prog GG)) = true := by kernel_rfl
theorem Mat_47 [Tok] : isTr (call Tryz.prog (fsMaT [⟨0, 30, 11⟩, ⟨1, 4, 3⟩]) 100000 4 [.tok 0, .tok 1] (hG Tryz.prog GG)) = true := by kernel_rfl
theorem Mat_48 [Tok] : isTr (call Tryz.prog (fsMaT [⟨0, 30, 12⟩, ⟨1, 4, 0⟩]) 100000 4 [.tok 0, .tok 1] (hG Tryz.prog GG)) = true := by kernel_rfl
theorem Mat_49 [Tok] : isTr (call Tryz.prog (fsMaT [⟨0, 30, 12⟩, ⟨1, 4, 1⟩]) 100000 4 [.tok 0, .tok 1] (hG Tryz.prog GG)) = true := by kernel_rfl
theorem Mat_50 [Tok] : isTr (call Tryz.prog (fsMaT [⟨0, 30, 12⟩, ⟨1, 4, 2⟩]) 100000 4 [.tok 0, .tok 1] (hG Tryz.prog GG)) = true := by kernel_rfl
theorem Mat_51 [Tok] : isTr (call Tryz.prog (fsMaT [⟨0, 30, 12⟩, ⟨1, 4, 3⟩]) 100000 4 [.tok 0, .tok 1] (hG Tryz.prog GG)) = true := by kernel_rfl
theorem Mat_52 [Tok] : isTr (call Tryz.prog (fsMaT [⟨0, 30, 13⟩, ⟨1, 4, 0⟩]) 100000 4 [.tok 0, .tok 1] (hG Tryz.prog GG)) = true := by kernel_rfl
theorem Mat_53 [Tok] : isTr (call Tryz.prog (fsMaT [⟨0, 30, 13⟩, ⟨1, 4, 1⟩]) 100000 4 [.tok 0, .tok 1] (hG Tryz.prog GG)) = true := by kernel_rfl
theorem Mat_54 [Tok] : isTr (call Tryz.prog (fsMaT [⟨0, 30, 13⟩, ⟨1, 4, 2⟩]) 100000 4 [.tok 0, .tok 1] (hG Tryz.prog GG)) = true := by kernel_rfl
theorem Mat_55 [Tok] : isTr (call Tryz.prog (fsMaT [⟨0, 30, 13⟩, ⟨1, 4, 3⟩]) 100000 4 [.tok 0, .tok 1] (hG Tryz.prog GG)) = true := by kernel_rfl
theorem Mat_56 [Tok] : isTr (call Tryz.prog (fsMaT [⟨0, 30, 14⟩, ⟨1, 4, 0⟩]) 100000 4 [.tok 0, .tok 1] (hG Tryz.prog GG)) = true := by kernel_rfl
theorem Mat_57 [Tok] : isTr (call Tryz.prog (fsMaT [⟨0, 30, 14⟩, ⟨1, 4, 1⟩]) 100000 4 [.tok 0, .tok 1] (hG Tryz.prog GG)) = true := by kernel_rfl
theorem Mat_58 [Tok] : isTr (call Tryz.prog (fsMaT [⟨0, 30, 14⟩, ⟨1, 4, 2⟩]) 100000 4 [.tok 0, .tok 1] (hG Tryz.prog GG)) = true := by kernel_rfl
theorem Mat_59 [Tok] : isTr (call Tryz.prog (fsMaT [⟨0, 30, 14⟩, ⟨1, 4, 3⟩]) 100000 4 [.tok 0, .tok 1] (hG Tryz.prog GG)) = true := by kernel_rfl
theorem Mat_60 [Tok] : isTr (call Tryz.prog (fsMaT [⟨0, 30, 15⟩, ⟨1, 4, 0⟩]) 100000 4 [.tok 0, .tok 1] (hG Tryz.prog GG)) = true := by kernel_rfl
theorem Mat_61 [Tok] : isTr (call Tryz.prog (fsMaT [⟨0, 30, 15⟩, ⟨1, 4, 1⟩]) 100000 4 [.tok 0, .tok 1] (hG Tryz.prog GG)) = true := by kernel_rfl
theorem Mat_62 [Tok] : isTr (call Tryz.prog (fsMaT [⟨0, 30, 15⟩, ⟨1, 4, 2⟩]) 100000 4 [.tok 0, .tok 1] (hG Tryz.prog GG)) = true := by kernel_rfl
theorem Mat_63 [Tok] : isTr (call Tryz.prog (fsMaT [⟨0, 30, 15⟩, ⟨1, 4, 3⟩]) 100000 4 [.tok 0, .tok 1] (hG Tryz.prog GG)) = true := by kernel_rfl
theorem Mat_64 [Tok] : isTr (call Tryz.prog (fsMaT [⟨0, 30, 16⟩, ⟨1, 4, 0⟩]) 100000 4 [.tok 0, .tok 1] (hG Tryz.prog GG)) = true := by kernel_rfl
theorem Mat_65 [Tok] : isTr (call Tryz.prog (fsMaT [⟨0, 30, 16⟩, ⟨1, 4, 1⟩]) 100000 4 [.tok 0, .tok 1] (hG Tryz.prog GG)) = true := by kernel_rfl
theorem Mat_66 [Tok] : isTr (call Tryz.prog (fsMaT [⟨0, 30, 16⟩, ⟨1, 4, 2⟩]) 100000 4 [.tok 0, .tok 1] (hG Tryz.prog GG)) = true := by kernel_rfl
theorem Mat_67 [Tok] : isTr (call Tryz.prog (fsMaT [⟨0, 30, 16⟩, ⟨1, 4, 3⟩]) 100000 4 [.tok 0, .tok 1] (hG Tryz.prog GG)) = true := by kernel_rfl
theorem Mat_68 [Tok] : isTr (call Tryz.prog (fsMaT [⟨0, 30, 17⟩, ⟨1, 4, 0⟩]) 100000 4 [.tok 0, .tok 1] (hG Tryz.prog GG)) = true := by kernel_rfl
theorem Mat_69 [Tok] : isTr (call Tryz.prog (fsMaT [⟨0, 30, 17⟩, ⟨1, 4, 1⟩]) 100000 4 [.tok 0, .tok 1] (hG Tryz.prog GG)) = true := by kernel_rfl
theorem Mat_70 [Tok] : isTr (call Tryz.prog (fsMaT [⟨0, 30, 17⟩, ⟨1, 4, 2⟩]) 100000 4 [.tok 0, .tok 1] (hG Tryz.prog GG)) = true := by kernel_rfl
theorem Mat_71 [Tok] : isTr (call Tryz.prog (fsMaT [⟨0, 30, 17⟩, ⟨1, 4, 3⟩]) 100000 4 [.tok 0, .tok 1] (hG Tryz.prog GG)) = true := by kernel_rfl
theorem Mat_72 [Tok] : isTr (call Tryz.prog (fsMaT [⟨0, 30, 18⟩, ⟨1, 4, 0⟩]) 100000 4 [.tok 0, .tok 1] (hG Tryz.prog GG)) = true := by kernel_rfl
theorem Mat_73 [Tok] : isTr (call Tryz.prog (fsMaT [⟨0, 30, 18⟩, ⟨1, 4, 1⟩]) 100000 4 [.tok 0, .tok 1] (hG Tryz.prog GG)) = true := by kernel_rfl
theorem Mat_74 [Tok] : isTr (call Tryz.prog (fsMaT [⟨0, 30, 18⟩, ⟨1, 4, 2⟩]) 100000 4 [.tok 0, .tok 1] (hG Tryz.prog GG)) = true := by kernel_rfl
theorem Mat_75 [Tok] : isTr (call Tryz.prog (fsMaT [⟨0, 30, 18⟩, ⟨1, 4, 3⟩]) 100000 4 [.tok 0, .tok 1] (hG Tryz.prog GG)) = true := by kernel_rfl
theorem Mat_76 [Tok] : isTr (call Tryz.prog (fsMaT [⟨0, 30, 19⟩, ⟨1, 4, 0⟩]) 100000 4 [.tok 0, .tok 1] (hG Tryz.prog GG)) = true := by kernel_rfl
theorem Mat_77 [Tok] : isTr (call Tryz.prog (fsMaT [⟨0, 30, 19⟩, ⟨1, 4, 1⟩]) 100000 4 [.tok 0, .tok 1] (hG Tryz.prog GG)) = true := by kernel_rfl
theorem Mat_78 [Tok] : isTr (call Tryz.prog (fsMaT [⟨0, 30, 19⟩, ⟨1, 4, 2⟩]) 100000 4 [.tok 0, .tok 1] (hG Tryz.prog GG)) = true := by kernel_rfl
theorem Mat_79 [Tok] : isTr (call Tryz.prog (fsMaT [⟨0, 30, 19⟩, ⟨1, 4, 3⟩]) 100000 4 [.tok 0, .tok 1] (hG Tryz.prog GG)) = true := by kernel_rfl
end Go.Av
