/- A part of the proof: what a machine of our own over the model's code answers is what the model does; no condition. -/
import Derived.Test.YtglejgncbghngaaGreatDoorAbT
set_option linter.all false
open Go Go.Av Go.Proofs
set_option maxRecDepth 1000000
set_option linter.all false
namespace Go.Av
theorem Abt_5 [Tok] : isTr (call Tryz.prog (fsAbT0 [⟨0, 5, 0⟩, ⟨1, 30, 5⟩]) 100000 3 [.tok 0, .tok 1] (hG Tryz.prog GG)) = true := by kernel_rfl
theorem Abt_6 [Tok] : isTr (call Tryz.prog (fsAbT0 [⟨0, 5, 0⟩, ⟨1, 30, 6⟩]) 100000 3 [.tok 0, .tok 1] (hG Tryz.prog GG)) = true := by kernel_rfl
theorem Abt_7 [Tok] : isTr (call Tryz.prog (fsAbT0 [⟨0, 5, 0⟩, ⟨1, 30, 7⟩]) 100000 3 [.tok 0, .tok 1] (hG Tryz.prog GG)) = true := by kernel_rfl
theorem Abt_8 [Tok] : isTr (call Tryz.prog (fsAbT0 [⟨0, 5, 0⟩, ⟨1, 30, 8⟩]) 100000 3 [.tok 0, .tok 1] (hG Tryz.prog GG)) = true := by kernel_rfl
theorem Abt_9 [Tok] : isTr (call Tryz.prog (fsAbT0 [⟨0, 5, 0⟩, ⟨1, 30, 9⟩]) 100000 3 [.tok 0, .tok 1] (hG Tryz.prog GG)) = true := by kernel_rfl
end Go.Av
