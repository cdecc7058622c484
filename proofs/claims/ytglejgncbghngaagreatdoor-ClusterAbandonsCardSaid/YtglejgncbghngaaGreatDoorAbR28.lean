/- A part of the proof: what a machine of our own over the model's code answers is what the model does; no condition. -/
import Derived.Test.YtglejgncbghngaaGreatDoorAbT
set_option linter.all false
open Go Go.Av Go.Proofs
set_option maxRecDepth 1000000
set_option linter.all false
namespace Go.Av
theorem Abt_140 [Tok] : isTr (call Tryz.prog (fsAbT4 [⟨0, 5, 4⟩, ⟨1, 30, 20⟩]) 100000 3 [.tok 0, .tok 1] (hG Tryz.prog GG)) = true := by kernel_rfl
theorem Abt_141 [Tok] : isTr (call Tryz.prog (fsAbT4 [⟨0, 5, 4⟩, ⟨1, 30, 21⟩]) 100000 3 [.tok 0, .tok 1] (hG Tryz.prog GG)) = true := by kernel_rfl
theorem Abt_142 [Tok] : isTr (call Tryz.prog (fsAbT4 [⟨0, 5, 4⟩, ⟨1, 30, 22⟩]) 100000 3 [.tok 0, .tok 1] (hG Tryz.prog GG)) = true := by kernel_rfl
theorem Abt_143 [Tok] : isTr (call Tryz.prog (fsAbT4 [⟨0, 5, 4⟩, ⟨1, 30, 23⟩]) 100000 3 [.tok 0, .tok 1] (hG Tryz.prog GG)) = true := by kernel_rfl
theorem Abt_144 [Tok] : isTr (call Tryz.prog (fsAbT4 [⟨0, 5, 4⟩, ⟨1, 30, 24⟩]) 100000 3 [.tok 0, .tok 1] (hG Tryz.prog GG)) = true := by kernel_rfl
end Go.Av
