/- A part of the proof: what a machine of our own over the model's code answers is what the model does; no condition. -/
import Derived.Test.YtglejgncbghngaaGreatDoorAbT
set_option linter.all false
open Go Go.Av Go.Proofs
set_option maxRecDepth 1000000
set_option linter.all false
namespace Go.Av
theorem Abt_30 [Tok] : isTr (call Tryz.prog (fsAbT1 [⟨0, 5, 1⟩, ⟨1, 30, 0⟩]) 100000 3 [.tok 0, .tok 1] (hG Tryz.prog GG)) = true := by kernel_rfl
theorem Abt_31 [Tok] : isTr (call Tryz.prog (fsAbT1 [⟨0, 5, 1⟩, ⟨1, 30, 1⟩]) 100000 3 [.tok 0, .tok 1] (hG Tryz.prog GG)) = true := by kernel_rfl
theorem Abt_32 [Tok] : isTr (call Tryz.prog (fsAbT1 [⟨0, 5, 1⟩, ⟨1, 30, 2⟩]) 100000 3 [.tok 0, .tok 1] (hG Tryz.prog GG)) = true := by kernel_rfl
theorem Abt_33 [Tok] : isTr (call Tryz.prog (fsAbT1 [⟨0, 5, 1⟩, ⟨1, 30, 3⟩]) 100000 3 [.tok 0, .tok 1] (hG Tryz.prog GG)) = true := by kernel_rfl
theorem Abt_34 [Tok] : isTr (call Tryz.prog (fsAbT1 [⟨0, 5, 1⟩, ⟨1, 30, 4⟩]) 100000 3 [.tok 0, .tok 1] (hG Tryz.prog GG)) = true := by kernel_rfl
end Go.Av
