/- A part of the proof: what a machine of our own over the model's code answers is what the model does; no condition. -/
import Derived.Test.YtglejgncbghngaaGreatDoorAbT
set_option linter.all false
open Go Go.Av Go.Proofs
set_option maxRecDepth 1000000
set_option linter.all false
namespace Go.Av
theorem Abt_100 [Tok] : isTr (call Tryz.prog (fsAbT3 [⟨0, 5, 3⟩, ⟨1, 30, 10⟩]) 100000 3 [.tok 0, .tok 1] (hG Tryz.prog GG)) = true := by kernel_rfl
theorem Abt_101 [Tok] : isTr (call Tryz.prog (fsAbT3 [⟨0, 5, 3⟩, ⟨1, 30, 11⟩]) 100000 3 [.tok 0, .tok 1] (hG Tryz.prog GG)) = true := by kernel_rfl
theorem Abt_102 [Tok] : isTr (call Tryz.prog (fsAbT3 [⟨0, 5, 3⟩, ⟨1, 30, 12⟩]) 100000 3 [.tok 0, .tok 1] (hG Tryz.prog GG)) = true := by kernel_rfl
theorem Abt_103 [Tok] : isTr (call Tryz.prog (fsAbT3 [⟨0, 5, 3⟩, ⟨1, 30, 13⟩]) 100000 3 [.tok 0, .tok 1] (hG Tryz.prog GG)) = true := by kernel_rfl
theorem Abt_104 [Tok] : isTr (call Tryz.prog (fsAbT3 [⟨0, 5, 3⟩, ⟨1, 30, 14⟩]) 100000 3 [.tok 0, .tok 1] (hG Tryz.prog GG)) = true := by kernel_rfl
end Go.Av
