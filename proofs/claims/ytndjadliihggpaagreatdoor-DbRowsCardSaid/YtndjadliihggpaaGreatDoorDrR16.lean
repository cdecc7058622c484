/- A part of the proof: what a machine of our own over the model's code answers is what the model does; no condition. -/
import Derived.Test.YtndjadliihggpaaGreatDoorDrT
set_option linter.all false
open Go Go.Av Go.Proofs
set_option maxRecDepth 1000000
set_option linter.all false
namespace Go.Av
theorem Drt_64 [Tok] : isTr (call Tryz.prog (fsDrT [⟨0, 10, 6⟩, ⟨1, 10, 4⟩]) 100000 5 [.tok 0, .tok 1] (hG Tryz.prog GG)) = true := by kernel_rfl
theorem Drt_65 [Tok] : isTr (call Tryz.prog (fsDrT [⟨0, 10, 6⟩, ⟨1, 10, 5⟩]) 100000 5 [.tok 0, .tok 1] (hG Tryz.prog GG)) = true := by kernel_rfl
theorem Drt_66 [Tok] : isTr (call Tryz.prog (fsDrT [⟨0, 10, 6⟩, ⟨1, 10, 6⟩]) 100000 5 [.tok 0, .tok 1] (hG Tryz.prog GG)) = true := by kernel_rfl
theorem Drt_67 [Tok] : isTr (call Tryz.prog (fsDrT [⟨0, 10, 6⟩, ⟨1, 10, 7⟩]) 100000 5 [.tok 0, .tok 1] (hG Tryz.prog GG)) = true := by kernel_rfl
end Go.Av
