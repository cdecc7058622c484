/- A part of the proof: what a machine of our own over the model's code answers is what the model does; no condition. -/
import Derived.Test.YtglejgncbghngaaGreatDoorAbT
set_option linter.all false
open Go Go.Av Go.Proofs
set_option maxRecDepth 1000000
set_option linter.all false
namespace Go.Av
theorem Abt_20 [Tok] : isTr (call Tryz.prog (fsAbT0 [⟨0, 5, 0⟩, ⟨1, 30, 20⟩]) 100000 3 [.tok 0, .tok 1] (hG Tryz.prog GG)) = true := by kernel_rfl
theorem Abt_21 [Tok] : isTr (call Tryz.prog (fsAbT0 [⟨0, 5, 0⟩, ⟨1, 30, 21⟩]) 100000 3 [.tok 0, .tok 1] (hG Tryz.prog GG)) = true := by kernel_rfl
theorem Abt_22 [Tok] : isTr (call Tryz.prog (fsAbT0 [⟨0, 5, 0⟩, ⟨1, 30, 22⟩]) 100000 3 [.tok 0, .tok 1] (hG Tryz.prog GG)) = true := by kernel_rfl
theorem Abt_23 [Tok] : isTr (call Tryz.prog (fsAbT0 [⟨0, 5, 0⟩, ⟨1, 30, 23⟩]) 100000 3 [.tok 0, .tok 1] (hG Tryz.prog GG)) = true := by kernel_rfl
theorem Abt_24 [Tok] : isTr (call Tryz.prog (fsAbT0 [⟨0, 5, 0⟩, ⟨1, 30, 24⟩]) 100000 3 [.tok 0, .tok 1] (hG Tryz.prog GG)) = true := by kernel_rfl
end Go.Av
