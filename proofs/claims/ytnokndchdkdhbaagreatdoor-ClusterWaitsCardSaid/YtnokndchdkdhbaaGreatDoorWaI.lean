/- A part of the proof: what a machine of our own over the model's code answers is what the model does; no condition. -/
import Derived.Test.YtnokndchdkdhbaaGreatDoorWaA
set_option linter.all false
open Go Go.Av Go.Proofs
set_option maxRecDepth 1000000
set_option linter.all false
namespace Go.Av
theorem Wat_6 [Tok] : isTr (call Tryz.prog (fsWaT [⟨0, 5, 1⟩, ⟨1, 6, 0⟩]) 100000 5 [.tok 0, .tok 1] (hG Tryz.prog GG)) = true := by kernel_rfl
theorem Wat_7 [Tok] : isTr (call Tryz.prog (fsWaT [⟨0, 5, 1⟩, ⟨1, 6, 1⟩]) 100000 5 [.tok 0, .tok 1] (hG Tryz.prog GG)) = true := by kernel_rfl
theorem Wat_8 [Tok] : isTr (call Tryz.prog (fsWaT [⟨0, 5, 1⟩, ⟨1, 6, 2⟩]) 100000 5 [.tok 0, .tok 1] (hG Tryz.prog GG)) = true := by kernel_rfl
end Go.Av
