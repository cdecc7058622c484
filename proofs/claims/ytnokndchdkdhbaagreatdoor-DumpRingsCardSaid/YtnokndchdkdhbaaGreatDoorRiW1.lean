/- A part of the proof: what a machine of our own over the model's code answers is what the model does; no condition. -/
import Derived.Test.YtnokndchdkdhbaaGreatDoorRiV1
set_option linter.all false
open Go Go.Av Go.Proofs
set_option maxRecDepth 1000000
set_option linter.all false
namespace Go.Av
theorem Rit_16 [Tok] : isTr (call Tryz.prog (fsRiT [⟨0, 5, 4⟩, ⟨1, 4, 0⟩]) 100000 3 [.tok 0, .tok 1] (hG Tryz.prog GG)) = true := by kernel_rfl
end Go.Av


open Go Go.Av Go.Proofs
set_option maxRecDepth 1000000
set_option linter.all false
namespace Go.Av
theorem Rit_17 [Tok] : isTr (call Tryz.prog (fsRiT [⟨0, 5, 4⟩, ⟨1, 4, 1⟩]) 100000 3 [.tok 0, .tok 1] (hG Tryz.prog GG)) = true := by kernel_rfl
end Go.Av


open Go Go.Av Go.Proofs
set_option maxRecDepth 1000000
set_option linter.all false
namespace Go.Av
theorem Rit_18 [Tok] : isTr (call Tryz.prog (fsRiT [⟨0, 5, 4⟩, ⟨1, 4, 2⟩]) 100000 3 [.tok 0, .tok 1] (hG Tryz.prog GG)) = true := by kernel_rfl
end Go.Av


open Go Go.Av Go.Proofs
set_option maxRecDepth 1000000
set_option linter.all false
namespace Go.Av
theorem Rit_19 [Tok] : isTr (call Tryz.prog (fsRiT [⟨0, 5, 4⟩, ⟨1, 4, 3⟩]) 100000 3 [.tok 0, .tok 1] (hG Tryz.prog GG)) = true := by kernel_rfl
end Go.Av


open Go Go.Av Go.Proofs
set_option maxRecDepth 1000000
set_option linter.all false
namespace Go.Av
theorem Rit_2 [Tok] : isTr (call Tryz.prog (fsRiT [⟨0, 5, 0⟩, ⟨1, 4, 2⟩]) 100000 3 [.tok 0, .tok 1] (hG Tryz.prog GG)) = true := by kernel_rfl
end Go.Av


open Go Go.Av Go.Proofs
set_option maxRecDepth 1000000
set_option linter.all false
namespace Go.Av
theorem Rit_3 [Tok] : isTr (call Tryz.prog (fsRiT [⟨0, 5, 0⟩, ⟨1, 4, 3⟩]) 100000 3 [.tok 0, .tok 1] (hG Tryz.prog GG)) = true := by kernel_rfl
end Go.Av


open Go Go.Av Go.Proofs
set_option maxRecDepth 1000000
set_option linter.all false
namespace Go.Av
theorem Rit_4 [Tok] : isTr (call Tryz.prog (fsRiT [⟨0, 5, 1⟩, ⟨1, 4, 0⟩]) 100000 3 [.tok 0, .tok 1] (hG Tryz.prog GG)) = true := by kernel_rfl
end Go.Av


open Go Go.Av Go.Proofs
set_option maxRecDepth 1000000
set_option linter.all false
namespace Go.Av
theorem Rit_5 [Tok] : isTr (call Tryz.prog (fsRiT [⟨0, 5, 1⟩, ⟨1, 4, 1⟩]) 100000 3 [.tok 0, .tok 1] (hG Tryz.prog GG)) = true := by kernel_rfl
end Go.Av


open Go Go.Av Go.Proofs
set_option maxRecDepth 1000000
set_option linter.all false
namespace Go.Av
theorem Rit_6 [Tok] : isTr (call Tryz.prog (fsRiT [⟨0, 5, 1⟩, ⟨1, 4, 2⟩]) 100000 3 [.tok 0, .tok 1] (hG Tryz.prog GG)) = true := by kernel_rfl
end Go.Av


open Go Go.Av Go.Proofs
set_option maxRecDepth 1000000
set_option linter.all false
namespace Go.Av
theorem Rit_7 [Tok] : isTr (call Tryz.prog (fsRiT [⟨0, 5, 1⟩, ⟨1, 4, 3⟩]) 100000 3 [.tok 0, .tok 1] (hG Tryz.prog GG)) = true := by kernel_rfl
end Go.Av


open Go Go.Av Go.Proofs
set_option maxRecDepth 1000000
set_option linter.all false
namespace Go.Av
theorem Rit_8 [Tok] : isTr (call Tryz.prog (fsRiT [⟨0, 5, 2⟩, ⟨1, 4, 0⟩]) 100000 3 [.tok 0, .tok 1] (hG Tryz.prog GG)) = true := by kernel_rfl
end Go.Av


open Go Go.Av Go.Proofs
set_option maxRecDepth 1000000
set_option linter.all false
namespace Go.Av
theorem Rit_9 [Tok] : isTr (call Tryz.prog (fsRiT [⟨0, 5, 2⟩, ⟨1, 4, 1⟩]) 100000 3 [.tok 0, .tok 1] (hG Tryz.prog GG)) = true := by kernel_rfl
end Go.Av
