/- A part of the proof: what a machine of our own over the model's code answers is what the model does; no condition. -/
import Derived.Test.YtnokndchdkdhbaaGreatDoorRiK1
import Derived.Test.YtnokndchdkdhbaaGreatDoorRiL1
import Derived.Test.YtnokndchdkdhbaaGreatDoorRiM1
import Derived.Test.YtnokndchdkdhbaaGreatDoorRiN1
import Derived.Test.YtnokndchdkdhbaaGreatDoorRiO1
import Derived.Test.YtnokndchdkdhbaaGreatDoorRiP1
set_option linter.all false
open Go Go.Av Go.Proofs
set_option maxRecDepth 1000000
set_option linter.all false
namespace Go.Av
variable [Tok]
theorem c51_19 : allR (checkE Tryz.prog fsRi3 100000 GG TTRi 20 51 (.tu 14)) l51_19 = true := by kernel_rfl
end Go.Av


open Go Go.Av Go.Proofs
set_option maxRecDepth 1000000
set_option linter.all false
namespace Go.Av
variable [Tok]
theorem c51_20 : allR (checkE Tryz.prog fsRi3 100000 GG TTRi 20 51 (.tu 14)) l51_20 = true := by kernel_rfl
end Go.Av


open Go Go.Av Go.Proofs
set_option maxRecDepth 1000000
set_option linter.all false
namespace Go.Av
variable [Tok]
theorem c51_21 : allR (checkE Tryz.prog fsRi3 100000 GG TTRi 20 51 (.tu 14)) l51_21 = true := by kernel_rfl
end Go.Av


open Go Go.Av Go.Proofs
set_option maxRecDepth 1000000
set_option linter.all false
namespace Go.Av
variable [Tok]
theorem c51_22 : allR (checkE Tryz.prog fsRi3 100000 GG TTRi 20 51 (.tu 14)) l51_22 = true := by kernel_rfl
end Go.Av


open Go Go.Av Go.Proofs
set_option maxRecDepth 1000000
set_option linter.all false
namespace Go.Av
variable [Tok]
theorem c51_23 : allR (checkE Tryz.prog fsRi3 100000 GG TTRi 20 51 (.tu 14)) l51_23 = true := by kernel_rfl
end Go.Av


open Go Go.Av Go.Proofs
set_option maxRecDepth 1000000
set_option linter.all false
namespace Go.Av
variable [Tok]
theorem c51_24 : allR (checkE Tryz.prog fsRi3 100000 GG TTRi 20 51 (.tu 14)) l51_24 = true := by kernel_rfl
end Go.Av


open Go Go.Av Go.Proofs
set_option maxRecDepth 1000000
set_option linter.all false
namespace Go.Av
variable [Tok]
theorem c24_0 : allR (checkE Tryz.prog fsRi3 100000 GG TTRi 20 24 (.tu 16)) l24_0 = true := by kernel_rfl
end Go.Av


open Go Go.Av Go.Proofs
set_option maxRecDepth 1000000
set_option linter.all false
namespace Go.Av
variable [Tok]
noncomputable def fsRi4 (k : Nat) : Option AFun := ifb (Nat.beq k 49) (some (.sem (pureF GG TTRi 20 [.sl 15] (memoF l49)))) (ifb (Nat.beq k 51) (some (.sem (pureF GG TTRi 20 [.sl 10, .sl 8] (memoF l51)))) (ifb (Nat.beq k 24) (some (.sem (pureF GG TTRi 20 [.sl 15] (memoF l24)))) (fsRi3 k)))
theorem p49 : PureOk Tryz.prog GG 49 (memoF l49) := memo_pure tz_mixed fsRi3_ok (fun e he => by
  exact allAnd (l := l49) (by unfold l49; exact Riapp (Riapp (Riapp (Riapp (Riapp (Riapp (Riapp (Riapp (Riapp (Riapp (Riapp (Riapp (Riapp (Riapp (Riapp (Riapp (Riapp (Riapp (Riapp (Riapp (Riapp (Riapp (Riapp (Riapp (Riapp (Riapp (Riapp (Riapp (Riapp (Riapp (Riapp (Riapp (Riapp (Riapp (Riapp (Riapp (Riapp (Riapp (Riapp (Riapp (Riapp (Riapp (Riapp (Riapp (Riapp (Riapp (Riapp (Riapp (Riapp (c49_0) c49_1) c49_2) c49_3) c49_4) c49_5) c49_6) c49_7) c49_8) c49_9) c49_10) c49_11) c49_12) c49_13) c49_14) c49_15) c49_16) c49_17) c49_18) c49_19) c49_20) c49_21) c49_22) c49_23) c49_24) c49_25) c49_26) c49_27) c49_28) c49_29) c49_30) c49_31) c49_32) c49_33) c49_34) c49_35) c49_36) c49_37) c49_38) c49_39) c49_40) c49_41) c49_42) c49_43) c49_44) c49_45) c49_46) c49_47) c49_48) c49_49) e he)
theorem p51 : PureOk Tryz.prog GG 51 (memoF l51) := memo_pure tz_mixed fsRi3_ok (fun e he => by
  exact allAnd (l := l51) (by unfold l51; exact Riapp (Riapp (Riapp (Riapp (Riapp (Riapp (Riapp (Riapp (Riapp (Riapp (Riapp (Riapp (Riapp (Riapp (Riapp (Riapp (Riapp (Riapp (Riapp (Riapp (Riapp (Riapp (Riapp (Riapp (c51_0) c51_1) c51_2) c51_3) c51_4) c51_5) c51_6) c51_7) c51_8) c51_9) c51_10) c51_11) c51_12) c51_13) c51_14) c51_15) c51_16) c51_17) c51_18) c51_19) c51_20) c51_21) c51_22) c51_23) c51_24) e he)
theorem p24 : PureOk Tryz.prog GG 24 (memoF l24) := memo_pure tz_mixed fsRi3_ok (fun e he => by
  exact allAnd c24_0 e he)
theorem fsRi4_ok : FsOk Tryz.prog fsRi4 := by
  intro k fn h
  unfold fsRi4 at h
  rcases ifb_or h with ⟨h1, h⟩ | ⟨_, h⟩
  · cases h; rw [Nat.eq_of_beq_eq_true h1]; exact .sem (pure_sem p49 tz_lt)
  rcases ifb_or h with ⟨h1, h⟩ | ⟨_, h⟩
  · cases h; rw [Nat.eq_of_beq_eq_true h1]; exact .sem (pure_sem p51 tz_lt)
  rcases ifb_or h with ⟨h1, h⟩ | ⟨_, h⟩
  · cases h; rw [Nat.eq_of_beq_eq_true h1]; exact .sem (pure_sem p24 tz_lt)
  exact fsRi3_ok k fn h
end Go.Av


open Go Go.Av Go.Proofs
set_option maxRecDepth 1000000
set_option linter.all false
namespace Go.Av
variable [Tok]
theorem c11_0 : allR (checkE Tryz.prog fsRi4 100000 GG TTRi 20 11 (.tu 19)) l11_0 = true := by kernel_rfl
end Go.Av


open Go Go.Av Go.Proofs
set_option maxRecDepth 1000000
set_option linter.all false
namespace Go.Av
variable [Tok]
theorem c11_1 : allR (checkE Tryz.prog fsRi4 100000 GG TTRi 20 11 (.tu 19)) l11_1 = true := by kernel_rfl
end Go.Av


open Go Go.Av Go.Proofs
set_option maxRecDepth 1000000
set_option linter.all false
namespace Go.Av
variable [Tok]
theorem c11_10 : allR (checkE Tryz.prog fsRi4 100000 GG TTRi 20 11 (.tu 19)) l11_10 = true := by kernel_rfl
end Go.Av


open Go Go.Av Go.Proofs
set_option maxRecDepth 1000000
set_option linter.all false
namespace Go.Av
variable [Tok]
theorem c11_11 : allR (checkE Tryz.prog fsRi4 100000 GG TTRi 20 11 (.tu 19)) l11_11 = true := by kernel_rfl
end Go.Av


open Go Go.Av Go.Proofs
set_option maxRecDepth 1000000
set_option linter.all false
namespace Go.Av
variable [Tok]
theorem c11_12 : allR (checkE Tryz.prog fsRi4 100000 GG TTRi 20 11 (.tu 19)) l11_12 = true := by kernel_rfl
end Go.Av
