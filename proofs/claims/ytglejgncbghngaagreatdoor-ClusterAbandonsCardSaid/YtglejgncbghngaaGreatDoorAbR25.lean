/- A part of the proof: what a machine of our own over the model's code answers is what the model does; no condition. -/
import Derived.Test.YtglejgncbghngaaGreatDoorAbT
set_option linter.all false
open Go Go.Av Go.Proofs
set_option maxRecDepth 1000000
set_option linter.all false
namespace Go.Av
theorem Abt_125 [Tok] : isTr (call Tryz.prog (fsAbT4 [⟨0, 5, 4⟩, ⟨1, 30, 5⟩]) 100000 3 [.tok 0, .tok 1] (hG Tryz.prog GG)) = true := by kernel_rfl
theorem Abt_126 [Tok] : isTr (call Tryz.prog (fsAbT4 [⟨0, 5, 4⟩, ⟨1, 30, 6⟩]) 100000 3 [.tok 0, .tok 1] (hG Tryz.prog GG)) = true := by kernel_rfl
theorem Abt_127 [Tok] : isTr (call Tryz.prog (fsAbT4 [⟨0, 5, 4⟩, ⟨1, 30, 7⟩]) 100000 3 [.tok 0, .tok 1] (hG Tryz.prog GG)) = true := by kernel_rfl
theorem Abt_128 [Tok] : isTr (call Tryz.prog (fsAbT4 [⟨0, 5, 4⟩, ⟨1, 30, 8⟩]) 100000 3 [.tok 0, .tok 1] (hG Tryz.prog GG)) = true := by kernel_rfl
theorem Abt_129 [Tok] : isTr (call Tryz.prog (fsAbT4 [⟨0, 5, 4⟩, ⟨1, 30, 9⟩]) 100000 3 [.tok 0, .tok 1] (hG Tryz.prog GG)) = true := by kernel_rfl
end Go.Av
