/- A part of the proof: what a machine of our own over the model's code answers is what the model does; no condition. -/
import Derived.Test.YtnokndchdkdhbaaGreatDoorMaE
set_option linter.all false
open Go Go.Av Go.Proofs
set_option maxRecDepth 1000000
set_option linter.all false
namespace Go.Av
theorem Mat_80 [Tok] : isTr (call Tryz.prog (fsMaT [⟨0, 30, 20⟩, ⟨1, 4, 0⟩]) 100000 4 [.tok 0, .tok 1] (hG Tryz.prog GG)) = true := by kernel_rfl
theorem Mat_81 [Tok] : isTr (call Tryz.prog (fsMaT [⟨0, 30, 20⟩, ⟨1, 4, 1⟩]) 100000 4 [.tok 0, .tok 1] (hG Tryz.prog GG)) = true := by kernel_rfl
theorem Mat_82 [Tok] : isTr (call Tryz.prog (fsMaT [⟨0, 30, 20⟩, ⟨1, 4, 2⟩]) 100000 4 [.tok 0, .tok 1] (hG Tryz.prog GG)) = true := by kernel_rfl
theorem Mat_83 [Tok] : isTr (call Tryz.prog (fsMaT [⟨0, 30, 20⟩, ⟨1, 4, 3⟩]) 100000 4 [.tok 0, .tok 1] (hG Tryz.prog GG)) = true := by kernel_rfl
theorem Mat_84 [Tok] : isTr (call Tryz.prog (fsMaT [⟨0, 30, 21⟩, ⟨1, 4, 0⟩]) 100000 4 [.tok 0, .tok 1] (hG Tryz.prog GG)) = true := by kernel_rfl
theorem Mat_85 [Tok] : isTr (call Tryz.prog (fsMaT [⟨0, 30, 21⟩, ⟨1, 4, 1⟩]) 100000 4 [.tok 0, .tok 1] (hG Tryz.prog GG)) = true := by kernel_rfl
theorem Mat_86 [Tok] : isTr (call Tryz.prog (fsMaT [⟨0, 30, 21⟩, ⟨1, 4, 2⟩]) 100000 4 [.tok 0, .tok 1] (hG Tryz.prog GG)) = true := by kernel_rfl
theorem Mat_87 [Tok] : isTr (call Tryz.prog (fsMaT [⟨0, 30, 21⟩, ⟨1, 4, 3⟩]) 100000 4 [.tok 0, .tok 1] (hG Tryz.prog GG)) = true := by kernel_rfl
theorem Mat_88 [Tok] : isTr (call Tryz.prog (fsMaT [⟨0, 30, 22⟩, ⟨1, 4, 0⟩]) 100000 4 [.tok 0, .tok 1] (hG Tryz.prog GG)) = true := by kernel_rfl
theorem Mat_89 [Tok] : isTr (call Tryz.prog (fsMaT [⟨0, 30, 22⟩, ⟨1, 4, 1⟩]) 100000 4 [.tok 0, .tok 1] (hG Tryz.prog GG)) = true := by kernel_rfl
theorem Mat_90 [Tok] : isTr (call Tryz.prog (fsMaT [⟨0, 30, 22⟩, ⟨1, 4, 2⟩]) 100000 4 [.tok 0, .tok 1] (hG Tryz.prog GG)) = true := by kernel_rfl
theorem Mat_91 [Tok] : isTr (call Tryz.prog (fsMaT [⟨0, 30, 22⟩, ⟨1, 4, 3⟩]) 100000 4 [.tok 0, .tok 1] (hG Tryz.prog GG)) = true := by kernel_rfl
theorem Mat_92 [Tok] : isTr (call Tryz.prog (fsMaT [⟨0, 30, 23⟩, ⟨1, 4, 0⟩]) 100000 4 [.tok 0, .tok 1] (hG Tryz.prog GG)) = true := by kernel_rfl
theorem Mat_93 [Tok] : isTr (call Tryz.prog (fsMaT [⟨0, 30, 23⟩, ⟨1, 4, 1⟩]) 100000 4 [.tok 0, .tok 1] (hG Tryz.prog GG)) = true := by kernel_rfl
theorem Mat_94 [Tok] : isTr (call Tryz.prog (fsMaT [⟨0, 30, 23⟩, ⟨1, 4, 2⟩]) 100000 4 [.tok 0, .tok 1] (hG Tryz.prog GG)) = true := by kernel_rfl
theorem Mat_95 [Tok] : isTr (call Tryz.prog (fsMaT [⟨0, 30, 23⟩, ⟨1, 4, 3⟩]) 100000 4 [.tok 0, .tok 1] (hG Tryz.prog GG)) = true := by kernel_rfl
theorem Mat_96 [Tok] : isTr (call Tryz.prog (fsMaT [⟨0, 30, 24⟩, ⟨1, 4, 0⟩]) 100000 4 [.tok 0, .tok 1] (hG Tryz.prog GG)) = true := by kernel_rfl
theorem Mat_97 [Tok] : isTr (call Tryz.prog (fsMaT [⟨0, 30, 24⟩, ⟨1, 4, 1⟩]) 100000 4 [.tok 0, .tok 1] (hG Tryz.prog GG)) = true := by kernel_rfl
theorem Mat_98 [Tok] : isTr (call Tryz.prog (fsMaT [⟨0, 30, 24⟩, ⟨1, 4, 2⟩]) 100000 4 [.tok 0, .tok 1] (hG Tryz.prog GG)) = true := by kernel_rfl
theorem Mat_99 [Tok] : isTr (call Tryz.prog (fsMaT [⟨0, 30, 24⟩, ⟨1, 4, 3⟩]) 100000 4 [.tok 0, .tok 1] (hG Tryz.prog GG)) = true := by kernel_rfl
theorem Mat_100 [Tok] : isTr (call Tryz.prog (fsMaT [⟨0, 30, 25⟩, ⟨1, 4, 0⟩]) 100000 4 [.tok 0, .tok 1] (hG Tryz.prog GG)) = true := by kernel_rfl
theorem Mat_101 [Tok] : isTr (call Tryz.prog (fsMaT [⟨0, 30, 25⟩, ⟨1, 4, 1⟩]) 100000 4 [.tok 0, .tok 1] (hG Tryz.prog GG)) = true := by kernel_rfl
theorem Mat_102 [Tok] : isTr (call Tryz.prog (fsMaT [⟨0, 30, 25⟩, ⟨1, 4, 2⟩]) 100000 4 [.tok 0, .tok 1] (hG Tryz.prog GG)) = true := by kernel_rfl
theorem Mat_103 [Tok] : isTr (call Tryz.prog (fsMaT [⟨0, 30, 25⟩, ⟨1, 4, 3⟩]) 100000 4 [.tok 0, .tok 1] (hG Tryz.prog GG)) = true := by kernel_rfl
theorem Mat_104 [Tok] : isTr (call Tryz.prog (fsMaT [⟨0, 30, 26⟩, ⟨1, 4, 0⟩]) 100000 4 [.tok 0, .tok 1] (hG Tryz.prog GG)) = true := by kernel_rfl
theorem Mat_105 [Tok] : isTr (call Tryz.prog (fsMaT [⟨0, 30, 26⟩, ⟨1, 4, 1⟩]) 100000 4 [.tok 0, .tok 1] (hG Tryz.prog GG)) = true := by kernel_rfl
theorem Mat_106 [Tok] : isTr (call Tryz.prog (fsMaT [⟨0, 30, 26⟩, ⟨1, 4, 2⟩]) 100000 4 [.tok 0, .tok 1] (hG Tryz.prog GG)) = true := by kernel_rfl
theorem Mat_107 [Tok] : isTr (call Tryz.prog (fsMaT [⟨0, 30, 26⟩, ⟨1, 4, 3⟩]) 100000 4 [.tok 0, .tok 1] (hG Tryz.prog GG)) = true := by kernel_rfl
theorem Mat_108 [Tok] : isTr (call Tryz.prog (fsMaT [⟨0, 30, 27⟩, ⟨1, 4, 0⟩]) 100000 4 [.tok 0, .tok 1] (hG Tryz.prog GG)) = true := by kernel_rfl
theorem Mat_109 [Tok] : isTr (call Tryz.prog (fsMaT [⟨0, 30, 27⟩, ⟨1, 4, 1⟩]) 100000 4 [.tok 0, .tok 1] (hG Tryz.prog GG)) = true := by kernel_rfl
theorem Mat_110 [Tok] : isTr (call Tryz.prog (fsMaT [⟨0, 30, 27⟩, ⟨1, 4, 2⟩]) 100000 4 [.tok 0, .tok 1] (hG Tryz.prog GG)) = true := by kernel_rfl
theorem Mat_111 [Tok] : isTr (call Tryz.prog (fsMaT [⟨0, 30, 27⟩, ⟨1, 4, 3⟩]) 100000 4 [.tok 0, .tok 1] (hG Tryz.prog GG)) = true := by kernel_rfl
theorem Mat_112 [Tok] : isTr (call Tryz.prog (fsMaT [⟨0, 30, 28⟩, ⟨1, 4, 0⟩]) 100000 4 [.tok 0, .tok 1] (hG Tryz.prog GG)) = true := by kernel_rfl
theorem Mat_113 [Tok] : isTr (call Tryz.prog (fsMaT [⟨0, 30, 28⟩, ⟨1, 4, 1⟩]) 100000 4 [.tok 0, .tok 1] (hG Tryz.prog GG)) = true := by kernel_rfl
theorem Mat_114 [Tok] : isTr (call Tryz.prog (fsMaT [⟨0, 30, 28⟩, ⟨1, 4, 2⟩]) 100000 4 [.tok 0, .tok 1] (hG Tryz.prog GG)) = true := by kernel_rfl
theorem Mat_115 [Tok] : isTr (call Tryz.prog (fsMaT [⟨0, 30, 28⟩, ⟨1, 4, 3⟩]) 100000 4 [.tok 0, .tok 1] (hG Tryz.prog GG)) = true := by kernel_rfl
theorem Mat_116 [Tok] : isTr (call Tryz.prog (fsMaT [⟨0, 30, 29⟩, ⟨1, 4, 0⟩]) 100000 4 [.tok 0, .tok 1] (hG Tryz.prog GG)) = true := by kernel_rfl
theorem Mat_117 [Tok] : isTr (call Tryz.prog (fsMaT [⟨0, 30, 29⟩, ⟨1, 4, 1⟩]) 100000 4 [.tok 0, .tok 1] (hG Tryz.prog GG)) = true := by kernel_rfl
theorem Mat_118 [Tok] : isTr (call Tryz.prog (fsMaT [⟨0, 30, 29⟩, ⟨1, 4, 2⟩]) 100000 4 [.tok 0, .tok 1] (hG Tryz.prog GG)) = true := by kernel_rfl
theorem Mat_119 [Tok] : isTr (call Tryz.prog (fsMaT [⟨0, 30, 29⟩, ⟨1, 4, 3⟩]) 100000 4 [.tok 0, .tok 1] (hG Tryz.prog GG)) = true := by kernel_rfl
end Go.Av
