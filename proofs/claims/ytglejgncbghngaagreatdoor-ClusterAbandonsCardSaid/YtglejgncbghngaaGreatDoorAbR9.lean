/- A part of the proof: what a machine of our own over the model's code answers is what the model does; no condition. -/
import Derived.Test.YtglejgncbghngaaGreatDoorAbT
set_option linter.all false
open Go Go.Av Go.Proofs
set_option maxRecDepth 1000000
set_option linter.all false
namespace Go.Av
theorem Abt_45 [Tok] : isTr (call Tryz.prog (fsAbT1 [⟨0, 5, 1⟩, ⟨1, 30, 15⟩]) 100000 3 [.tok 0, .tok 1] (hG Tryz.prog GG)) = true := by kernel_rfl
theorem Abt_46 [Tok] : isTr (call Tryz.prog (fsAbT1 [⟨0, 5, 1⟩, ⟨1, 30, 16⟩]) 100000 3 [.tok 0, .tok 1] (hG Tryz.prog GG)) = true := by kernel_rfl
theorem Abt_47 [Tok] : isTr (call Tryz.prog (fsAbT1 [⟨0, 5, 1⟩, ⟨1, 30, 17⟩]) 100000 3 [.tok 0, .tok 1] (hG Tryz.prog GG)) = true := by kernel_rfl
theorem Abt_48 [Tok] : isTr (call Tryz.prog (fsAbT1 [⟨0, 5, 1⟩, ⟨1, 30, 18⟩]) 100000 3 [.tok 0, .tok 1] (hG Tryz.prog GG)) = true := by kernel_rfl
theorem Abt_49 [Tok] : isTr (call Tryz.prog (fsAbT1 [⟨0, 5, 1⟩, ⟨1, 30, 19⟩]) 100000 3 [.tok 0, .tok 1] (hG Tryz.prog GG)) = true := by kernel_rfl
end Go.Av
