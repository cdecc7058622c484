/- A part of the proof: what a machine of our own over the model's code answers is what the model does; no condition. -/
import Derived.Test.YtndjadliihggpaaGreatDoorDrT
set_option linter.all false
open Go Go.Av Go.Proofs
set_option maxRecDepth 1000000
set_option linter.all false
namespace Go.Av
theorem Drt_8 [Tok] : isTr (call Tryz.prog (fsDrT [⟨0, 10, 0⟩, ⟨1, 10, 8⟩]) 100000 5 [.tok 0, .tok 1] (hG Tryz.prog GG)) = true := by kernel_rfl
theorem Drt_9 [Tok] : isTr (call Tryz.prog (fsDrT [⟨0, 10, 0⟩, ⟨1, 10, 9⟩]) 100000 5 [.tok 0, .tok 1] (hG Tryz.prog GG)) = true := by kernel_rfl
theorem Drt_10 [Tok] : isTr (call Tryz.prog (fsDrT [⟨0, 10, 1⟩, ⟨1, 10, 0⟩]) 100000 5 [.tok 0, .tok 1] (hG Tryz.prog GG)) = true := by kernel_rfl
theorem Drt_11 [Tok] : isTr (call Tryz.prog (fsDrT [⟨0, 10, 1⟩, ⟨1, 10, 1⟩]) 100000 5 [.tok 0, .tok 1] (hG Tryz.prog GG)) = true := by kernel_rfl
end Go.Av
