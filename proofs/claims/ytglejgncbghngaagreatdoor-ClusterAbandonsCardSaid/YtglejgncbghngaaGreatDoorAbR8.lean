/- A part of the proof: what a machine of our own over the model's code answers is what the model does; no condition. -/
import Derived.Test.YtglejgncbghngaaGreatDoorAbT
set_option linter.all false
open Go Go.Av Go.Proofs
set_option maxRecDepth 1000000
set_option linter.all false
namespace Go.Av
theorem Abt_40 [Tok] : isTr (call Tryz.prog (fsAbT1 [⟨0, 5, 1⟩, ⟨1, 30, 10⟩]) 100000 3 [.tok 0, .tok 1] (hG Tryz.prog GG)) = true := by kernel_rfl
theorem Abt_41 [Tok] : isTr (call Tryz.prog (fsAbT1 [⟨0, 5, 1⟩, ⟨1, 30, 11⟩]) 100000 3 [.tok 0, .tok 1] (hG Tryz.prog GG)) = true := by kernel_rfl
theorem Abt_42 [Tok] : isTr (call Tryz.prog (fsAbT1 [⟨0, 5, 1⟩, ⟨1, 30, 12⟩]) 100000 3 [.tok 0, .tok 1] (hG Tryz.prog GG)) = true := by kernel_rfl
theorem Abt_43 [Tok] : isTr (call Tryz.prog (fsAbT1 [⟨0, 5, 1⟩, ⟨1, 30, 13⟩]) 100000 3 [.tok 0, .tok 1] (hG Tryz.prog GG)) = true := by kernel_rfl
theorem Abt_44 [Tok] : isTr (call Tryz.prog (fsAbT1 [⟨0, 5, 1⟩, ⟨1, 30, 14⟩]) 100000 3 [.tok 0, .tok 1] (hG Tryz.prog GG)) = true := by kernel_rfl
end Go.Av
