/- A part of the proof: what a machine of our own over the model's code answers is what the model does; no condition. -/
import Derived.Test.YtglejgncbghngaaGreatDoorAbT
set_option linter.all false
open Go Go.Av Go.Proofs
set_option maxRecDepth 1000000
set_option linter.all false
namespace Go.Av
theorem Abt_25 [Tok] : isTr (call Tryz.prog (fsAbT0 [⟨0, 5, 0⟩, ⟨1, 30, 25⟩]) 100000 3 [.tok 0, .tok 1] (hG Tryz.prog GG)) = true := by kernel_rfl
theorem Abt_26 [Tok] : isTr (call Tryz.prog (fsAbT0 [⟨0, 5, 0⟩, ⟨1, 30, 26⟩]) 100000 3 [.tok 0, .tok 1] (hG Tryz.prog GG)) = true := by kernel_rfl
theorem Abt_27 [Tok] : isTr (call Tryz.prog (fsAbT0 [⟨0, 5, 0⟩, ⟨1, 30, 27⟩]) 100000 3 [.tok 0, .tok 1] (hG Tryz.prog GG)) = true := by kernel_rfl
theorem Abt_28 [Tok] : isTr (call Tryz.prog (fsAbT0 [⟨0, 5, 0⟩, ⟨1, 30, 28⟩]) 100000 3 [.tok 0, .tok 1] (hG Tryz.prog GG)) = true := by kernel_rfl
theorem Abt_29 [Tok] : isTr (call Tryz.prog (fsAbT0 [⟨0, 5, 0⟩, ⟨1, 30, 29⟩]) 100000 3 [.tok 0, .tok 1] (hG Tryz.prog GG)) = true := by kernel_rfl
end Go.Av
