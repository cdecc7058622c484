/- A part of the proof: what a machine of our own over the model's code answers is what the model does; no condition. -/
import Derived.Test.YtglejgncbghngaaGreatDoorAbT
set_option linter.all false
open Go Go.Av Go.Proofs
set_option maxRecDepth 1000000
set_option linter.all false
namespace Go.Av
theorem Abt_145 [Tok] : isTr (call Tryz.prog (fsAbT4 [⟨0, 5, 4⟩, ⟨1, 30, 25⟩]) 100000 3 [.tok 0, .tok 1] (hG Tryz.prog GG)) = true := by kernel_rfl
theorem Abt_146 [Tok] : isTr (call Tryz.prog (fsAbT4 [⟨0, 5, 4⟩, ⟨1, 30, 26⟩]) 100000 3 [.tok 0, .tok 1] (hG Tryz.prog GG)) = true := by kernel_rfl
theorem Abt_147 [Tok] : isTr (call Tryz.prog (fsAbT4 [⟨0, 5, 4⟩, ⟨1, 30, 27⟩]) 100000 3 [.tok 0, .tok 1] (hG Tryz.prog GG)) = true := by kernel_rfl
theorem Abt_148 [Tok] : isTr (call Tryz.prog (fsAbT4 [⟨0, 5, 4⟩, ⟨1, 30, 28⟩]) 100000 3 [.tok 0, .tok 1] (hG Tryz.prog GG)) = true := by kernel_rfl
theorem Abt_149 [Tok] : isTr (call Tryz.prog (fsAbT4 [⟨0, 5, 4⟩, ⟨1, 30, 29⟩]) 100000 3 [.tok 0, .tok 1] (hG Tryz.prog GG)) = true := by kernel_rfl
end Go.Av
