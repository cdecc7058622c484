/- A part of the proof: what a machine of our own over the model's code answers is what the model does; no condition. -/
import Derived.Test.YtglejgncbghngaaGreatDoorAbT
set_option linter.all false
open Go Go.Av Go.Proofs
set_option maxRecDepth 1000000
set_option linter.all false
namespace Go.Av
theorem Abt_95 [Tok] : isTr (call Tryz.prog (fsAbT3 [⟨0, 5, 3⟩, ⟨1, 30, 5⟩]) 100000 3 [.tok 0, .tok 1] (hG Tryz.prog GG)) = true := by kernel_rfl
theorem Abt_96 [Tok] : isTr (call Tryz.prog (fsAbT3 [⟨0, 5, 3⟩, ⟨1, 30, 6⟩]) 100000 3 [.tok 0, .tok 1] (hG Tryz.prog GG)) = true := by kernel_rfl
theorem Abt_97 [Tok] : isTr (call Tryz.prog (fsAbT3 [⟨0, 5, 3⟩, ⟨1, 30, 7⟩]) 100000 3 [.tok 0, .tok 1] (hG Tryz.prog GG)) = true := by kernel_rfl
theorem Abt_98 [Tok] : isTr (call Tryz.prog (fsAbT3 [⟨0, 5, 3⟩, ⟨1, 30, 8⟩]) 100000 3 [.tok 0, .tok 1] (hG Tryz.prog GG)) = true := by kernel_rfl
theorem Abt_99 [Tok] : isTr (call Tryz.prog (fsAbT3 [⟨0, 5, 3⟩, ⟨1, 30, 9⟩]) 100000 3 [.tok 0, .tok 1] (hG Tryz.prog GG)) = true := by kernel_rfl
end Go.Av
