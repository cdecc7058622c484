/- A part of the proof: what a machine of our own over the model's code answers is what the model does; no condition. -/
import Derived.Test.YtnokndchdkdhbaaGreatDoorWaA
set_option linter.all false
open Go Go.Av Go.Proofs
set_option maxRecDepth 1000000
set_option linter.all false
namespace Go.Av
theorem Wat_15 [Tok] : isTr (call Tryz.prog (fsWaT [⟨0, 5, 2⟩, ⟨1, 6, 3⟩]) 100000 5 [.tok 0, .tok 1] (hG Tryz.prog GG)) = true := by kernel_rfl
theorem Wat_16 [Tok] : isTr (call Tryz.prog (fsWaT [⟨0, 5, 2⟩, ⟨1, 6, 4⟩]) 100000 5 [.tok 0, .tok 1] (hG Tryz.prog GG)) = true := by kernel_rfl
theorem Wat_17 [Tok] : isTr (call Tryz.prog (fsWaT [⟨0, 5, 2⟩, ⟨1, 6, 5⟩]) 100000 5 [.tok 0, .tok 1] (hG Tryz.prog GG)) = true := by kernel_rfl
end Go.Av
