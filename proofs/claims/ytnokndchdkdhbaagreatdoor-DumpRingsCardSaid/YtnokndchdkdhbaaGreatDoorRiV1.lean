/- A part of the proof: what a machine of our own over the model's code answers is what the model does; no condition. -/
import Derived.Test.YtnokndchdkdhbaaGreatDoorRiQ1
import Derived.Test.YtnokndchdkdhbaaGreatDoorRiR1
import Derived.Test.YtnokndchdkdhbaaGreatDoorRiS1
import Derived.Test.YtnokndchdkdhbaaGreatDoorRiT1
import Derived.Test.YtnokndchdkdhbaaGreatDoorRiU1
set_option linter.all false
open Go Go.Av Go.Proofs
set_option maxRecDepth 1000000
set_option linter.all false
namespace Go.Av
variable [Tok]
theorem c11_9 : allR (checkE Tryz.prog fsRi4 100000 GG TTRi 20 11 (.tu 19)) l11_9 = true := by kernel_rfl
end Go.Av


open Go Go.Av Go.Proofs
set_option maxRecDepth 1000000
set_option linter.all false
namespace Go.Av
variable [Tok]
noncomputable def fsRi5 (k : Nat) : Option AFun := ifb (Nat.beq k 11) (some (.sem (pureF GG TTRi 20 [.sl 15, .sl 18, .flat] (memoF l11)))) (fsRi4 k)
theorem p11 : PureOk Tryz.prog GG 11 (memoF l11) := memo_pure tz_mixed fsRi4_ok (fun e he => by
  exact allAnd (l := l11) (by unfold l11; exact Riapp (Riapp (Riapp (Riapp (Riapp (Riapp (Riapp (Riapp (Riapp (Riapp (Riapp (Riapp (Riapp (Riapp (Riapp (Riapp (Riapp (Riapp (Riapp (Riapp (Riapp (Riapp (Riapp (Riapp (Riapp (Riapp (Riapp (Riapp (Riapp (Riapp (Riapp (Riapp (Riapp (Riapp (Riapp (Riapp (Riapp (Riapp (Riapp (Riapp (Riapp (Riapp (Riapp (Riapp (Riapp (Riapp (Riapp (Riapp (Riapp (Riapp (Riapp (Riapp (Riapp (Riapp (Riapp (Riapp (Riapp (c11_0) c11_1) c11_2) c11_3) c11_4) c11_5) c11_6) c11_7) c11_8) c11_9) c11_10) c11_11) c11_12) c11_13) c11_14) c11_15) c11_16) c11_17) c11_18) c11_19) c11_20) c11_21) c11_22) c11_23) c11_24) c11_25) c11_26) c11_27) c11_28) c11_29) c11_30) c11_31) c11_32) c11_33) c11_34) c11_35) c11_36) c11_37) c11_38) c11_39) c11_40) c11_41) c11_42) c11_43) c11_44) c11_45) c11_46) c11_47) c11_48) c11_49) c11_50) c11_51) c11_52) c11_53) c11_54) c11_55) c11_56) c11_57) e he)
theorem fsRi5_ok : FsOk Tryz.prog fsRi5 := by
  intro k fn h
  unfold fsRi5 at h
  rcases ifb_or h with ⟨h1, h⟩ | ⟨_, h⟩
  · cases h; rw [Nat.eq_of_beq_eq_true h1]; exact .sem (pure_sem p11 tz_lt)
  exact fsRi4_ok k fn h
end Go.Av


open Go Go.Av Go.Proofs
set_option maxRecDepth 1000000
set_option linter.all false
namespace Go.Av
variable [Tok]
theorem c6_0 : allR (checkE Tryz.prog fsRi5 100000 GG TTRi 20 6 (.flat)) l6_0 = true := by kernel_rfl
end Go.Av


open Go Go.Av Go.Proofs
set_option maxRecDepth 1000000
set_option linter.all false
namespace Go.Av
variable [Tok]
noncomputable def fsRi6 (k : Nat) : Option AFun := ifb (Nat.beq k 6) (some (.sem (pureF GG TTRi 20 [] (memoF l6)))) (fsRi5 k)
theorem p6 : PureOk Tryz.prog GG 6 (memoF l6) := memo_pure tz_mixed fsRi5_ok (fun e he => by
  exact allAnd c6_0 e he)
theorem fsRi6_ok : FsOk Tryz.prog fsRi6 := by
  intro k fn h
  unfold fsRi6 at h
  rcases ifb_or h with ⟨h1, h⟩ | ⟨_, h⟩
  · cases h; rw [Nat.eq_of_beq_eq_true h1]; exact .sem (pure_sem p6 tz_lt)
  exact fsRi5_ok k fn h
end Go.Av


open Go Go.Av Go.Proofs
set_option maxRecDepth 1000000
set_option linter.all false
namespace Go.Av
noncomputable def fsRiT [Tok] (l : List Rem) (k : Nat) : Option AFun := ifb (Nat.beq k 7) (some (.sem (withinL l))) (fsRi6 k)
end Go.Av


open Go Go.Av Go.Proofs
set_option maxRecDepth 1000000
set_option linter.all false
namespace Go.Av
theorem Rit_0 [Tok] : isTr (call Tryz.prog (fsRiT [⟨0, 5, 0⟩, ⟨1, 4, 0⟩]) 100000 3 [.tok 0, .tok 1] (hG Tryz.prog GG)) = true := by kernel_rfl
end Go.Av


open Go Go.Av Go.Proofs
set_option maxRecDepth 1000000
set_option linter.all false
namespace Go.Av
theorem Rit_1 [Tok] : isTr (call Tryz.prog (fsRiT [⟨0, 5, 0⟩, ⟨1, 4, 1⟩]) 100000 3 [.tok 0, .tok 1] (hG Tryz.prog GG)) = true := by kernel_rfl
end Go.Av


open Go Go.Av Go.Proofs
set_option maxRecDepth 1000000
set_option linter.all false
namespace Go.Av
theorem Rit_10 [Tok] : isTr (call Tryz.prog (fsRiT [⟨0, 5, 2⟩, ⟨1, 4, 2⟩]) 100000 3 [.tok 0, .tok 1] (hG Tryz.prog GG)) = true := by kernel_rfl
end Go.Av


open Go Go.Av Go.Proofs
set_option maxRecDepth 1000000
set_option linter.all false
namespace Go.Av
theorem Rit_11 [Tok] : isTr (call Tryz.prog (fsRiT [⟨0, 5, 2⟩, ⟨1, 4, 3⟩]) 100000 3 [.tok 0, .tok 1] (hG Tryz.prog GG)) = true := by kernel_rfl
end Go.Av


open Go Go.Av Go.Proofs
set_option maxRecDepth 1000000
set_option linter.all false
namespace Go.Av
theorem Rit_12 [Tok] : isTr (call Tryz.prog (fsRiT [⟨0, 5, 3⟩, ⟨1, 4, 0⟩]) 100000 3 [.tok 0, .tok 1] (hG Tryz.prog GG)) = true := by kernel_rfl
end Go.Av


open Go Go.Av Go.Proofs
set_option maxRecDepth 1000000
set_option linter.all false
namespace Go.Av
theorem Rit_13 [Tok] : isTr (call Tryz.prog (fsRiT [⟨0, 5, 3⟩, ⟨1, 4, 1⟩]) 100000 3 [.tok 0, .tok 1] (hG Tryz.prog GG)) = true := by kernel_rfl
end Go.Av


open Go Go.Av Go.Proofs
set_option maxRecDepth 1000000
set_option linter.all false
namespace Go.Av
theorem Rit_14 [Tok] : isTr (call Tryz.prog (fsRiT [⟨0, 5, 3⟩, ⟨1, 4, 2⟩]) 100000 3 [.tok 0, .tok 1] (hG Tryz.prog GG)) = true := by kernel_rfl
end Go.Av


open Go Go.Av Go.Proofs
set_option maxRecDepth 1000000
set_option linter.all false
namespace Go.Av
theorem Rit_15 [Tok] : isTr (call Tryz.prog (fsRiT [⟨0, 5, 3⟩, ⟨1, 4, 3⟩]) 100000 3 [.tok 0, .tok 1] (hG Tryz.prog GG)) = true := by kernel_rfl
end Go.Av
