/- A part of the proof: what a machine of our own over the model's code answers is what the model does; no condition. -/
import Derived.Test.YtnokndchdkdhbaaGreatDoorRiA1
import Derived.Test.YtnokndchdkdhbaaGreatDoorRiB1
import Derived.Test.YtnokndchdkdhbaaGreatDoorRiC1
import Derived.Test.YtnokndchdkdhbaaGreatDoorRiD1
set_option linter.all false
open Go Go.Av Go.Proofs
set_option maxRecDepth 1000000
set_option linter.all false
namespace Go.Av
variable [Tok]
theorem c53_35 : allR (checkE Tryz.prog fsB 100000 GG TTRi 20 53 (.sl 15)) l53_35 = true := by kernel_rfl
end Go.Av


open Go Go.Av Go.Proofs
set_option maxRecDepth 1000000
set_option linter.all false
namespace Go.Av
variable [Tok]
theorem c53_36 : allR (checkE Tryz.prog fsB 100000 GG TTRi 20 53 (.sl 15)) l53_36 = true := by kernel_rfl
end Go.Av


open Go Go.Av Go.Proofs
set_option maxRecDepth 1000000
set_option linter.all false
namespace Go.Av
variable [Tok]
theorem c588_0 : allR (checkE Tryz.prog fsB 100000 GG TTRi 20 588 (.sl 0)) l588_0 = true := by kernel_rfl
end Go.Av


open Go Go.Av Go.Proofs
set_option maxRecDepth 1000000
set_option linter.all false
namespace Go.Av
variable [Tok]
theorem c525_0 : allR (checkE Tryz.prog fsB 100000 GG TTRi 20 525 (.sl 0)) l525_0 = true := by kernel_rfl
end Go.Av


open Go Go.Av Go.Proofs
set_option maxRecDepth 1000000
set_option linter.all false
namespace Go.Av
variable [Tok]
theorem c12_0 : allR (checkE Tryz.prog fsB 100000 GG TTRi 20 12 (.tu 19)) l12_0 = true := by kernel_rfl
end Go.Av


open Go Go.Av Go.Proofs
set_option maxRecDepth 1000000
set_option linter.all false
namespace Go.Av
variable [Tok]
theorem c12_1 : allR (checkE Tryz.prog fsB 100000 GG TTRi 20 12 (.tu 19)) l12_1 = true := by kernel_rfl
end Go.Av


open Go Go.Av Go.Proofs
set_option maxRecDepth 1000000
set_option linter.all false
namespace Go.Av
variable [Tok]
theorem c12_2 : allR (checkE Tryz.prog fsB 100000 GG TTRi 20 12 (.tu 19)) l12_2 = true := by kernel_rfl
end Go.Av


open Go Go.Av Go.Proofs
set_option maxRecDepth 1000000
set_option linter.all false
namespace Go.Av
variable [Tok]
theorem c12_3 : allR (checkE Tryz.prog fsB 100000 GG TTRi 20 12 (.tu 19)) l12_3 = true := by kernel_rfl
end Go.Av


open Go Go.Av Go.Proofs
set_option maxRecDepth 1000000
set_option linter.all false
namespace Go.Av
variable [Tok]
theorem c12_4 : allR (checkE Tryz.prog fsB 100000 GG TTRi 20 12 (.tu 19)) l12_4 = true := by kernel_rfl
end Go.Av


open Go Go.Av Go.Proofs
set_option maxRecDepth 1000000
set_option linter.all false
namespace Go.Av
variable [Tok]
theorem c12_5 : allR (checkE Tryz.prog fsB 100000 GG TTRi 20 12 (.tu 19)) l12_5 = true := by kernel_rfl
end Go.Av


open Go Go.Av Go.Proofs
set_option maxRecDepth 1000000
set_option linter.all false
namespace Go.Av
variable [Tok]
noncomputable def fsRi1 (k : Nat) : Option AFun := ifb (Nat.beq k 204) (some (.sem (pureF GG TTRi 20 [.flat] (memoF l204)))) (ifb (Nat.beq k 58) (some (.sem (pureF GG TTRi 20 [.ag 6] (memoF l58)))) (ifb (Nat.beq k 10) (some (.sem (pureF GG TTRi 20 [.sl 10, .flat] (memoF l10)))) (ifb (Nat.beq k 53) (some (.sem (pureF GG TTRi 20 [.sl 10] (memoF l53)))) (ifb (Nat.beq k 588) (some (.sem (pureF GG TTRi 20 [] (memoF l588)))) (ifb (Nat.beq k 525) (some (.sem (pureF GG TTRi 20 [] (memoF l525)))) (ifb (Nat.beq k 12) (some (.sem (pureF GG TTRi 20 [.sl 15, .sl 18] (memoF l12)))) (fsB k)))))))
theorem p204 : PureOk Tryz.prog GG 204 (memoF l204) := memo_pure tz_mixed fsB_ok (fun e he => by
  exact allAnd (l := l204) (by unfold l204; exact Riapp (Riapp (c204_0) c204_1) c204_2) e he)
theorem p58 : PureOk Tryz.prog GG 58 (memoF l58) := memo_pure tz_mixed fsB_ok (fun e he => by
  exact allAnd c58_0 e he)
theorem p10 : PureOk Tryz.prog GG 10 (memoF l10) := memo_pure tz_mixed fsB_ok (fun e he => by
  exact allAnd (l := l10) (by unfold l10; exact Riapp (Riapp (Riapp (Riapp (Riapp (Riapp (Riapp (Riapp (Riapp (Riapp (c10_0) c10_1) c10_2) c10_3) c10_4) c10_5) c10_6) c10_7) c10_8) c10_9) c10_10) e he)
theorem p53 : PureOk Tryz.prog GG 53 (memoF l53) := memo_pure tz_mixed fsB_ok (fun e he => by
  exact allAnd (l := l53) (by unfold l53; exact Riapp (Riapp (Riapp (Riapp (Riapp (Riapp (Riapp (Riapp (Riapp (Riapp (Riapp (Riapp (Riapp (Riapp (Riapp (Riapp (Riapp (Riapp (Riapp (Riapp (Riapp (Riapp (Riapp (Riapp (Riapp (Riapp (Riapp (Riapp (Riapp (Riapp (Riapp (Riapp (Riapp (Riapp (Riapp (Riapp (c53_0) c53_1) c53_2) c53_3) c53_4) c53_5) c53_6) c53_7) c53_8) c53_9) c53_10) c53_11) c53_12) c53_13) c53_14) c53_15) c53_16) c53_17) c53_18) c53_19) c53_20) c53_21) c53_22) c53_23) c53_24) c53_25) c53_26) c53_27) c53_28) c53_29) c53_30) c53_31) c53_32) c53_33) c53_34) c53_35) c53_36) e he)
theorem p588 : PureOk Tryz.prog GG 588 (memoF l588) := memo_pure tz_mixed fsB_ok (fun e he => by
  exact allAnd c588_0 e he)
theorem p525 : PureOk Tryz.prog GG 525 (memoF l525) := memo_pure tz_mixed fsB_ok (fun e he => by
  exact allAnd c525_0 e he)
theorem p12 : PureOk Tryz.prog GG 12 (memoF l12) := memo_pure tz_mixed fsB_ok (fun e he => by
  exact allAnd (l := l12) (by unfold l12; exact Riapp (Riapp (Riapp (Riapp (Riapp (c12_0) c12_1) c12_2) c12_3) c12_4) c12_5) e he)
theorem fsRi1_ok : FsOk Tryz.prog fsRi1 := by
  intro k fn h
  unfold fsRi1 at h
  rcases ifb_or h with ⟨h1, h⟩ | ⟨_, h⟩
  · cases h; rw [Nat.eq_of_beq_eq_true h1]; exact .sem (pure_sem p204 tz_lt)
  rcases ifb_or h with ⟨h1, h⟩ | ⟨_, h⟩
  · cases h; rw [Nat.eq_of_beq_eq_true h1]; exact .sem (pure_sem p58 tz_lt)
  rcases ifb_or h with ⟨h1, h⟩ | ⟨_, h⟩
  · cases h; rw [Nat.eq_of_beq_eq_true h1]; exact .sem (pure_sem p10 tz_lt)
  rcases ifb_or h with ⟨h1, h⟩ | ⟨_, h⟩
  · cases h; rw [Nat.eq_of_beq_eq_true h1]; exact .sem (pure_sem p53 tz_lt)
  rcases ifb_or h with ⟨h1, h⟩ | ⟨_, h⟩
  · cases h; rw [Nat.eq_of_beq_eq_true h1]; exact .sem (pure_sem p588 tz_lt)
  rcases ifb_or h with ⟨h1, h⟩ | ⟨_, h⟩
  · cases h; rw [Nat.eq_of_beq_eq_true h1]; exact .sem (pure_sem p525 tz_lt)
  rcases ifb_or h with ⟨h1, h⟩ | ⟨_, h⟩
  · cases h; rw [Nat.eq_of_beq_eq_true h1]; exact .sem (pure_sem p12 tz_lt)
  exact fsB_ok k fn h
end Go.Av


open Go Go.Av Go.Proofs
set_option maxRecDepth 1000000
set_option linter.all false
namespace Go.Av
variable [Tok]
theorem c8_0 : allR (checkE Tryz.prog fsRi1 100000 GG TTRi 20 8 (.tu 7)) l8_0 = true := by kernel_rfl
end Go.Av


open Go Go.Av Go.Proofs
set_option maxRecDepth 1000000
set_option linter.all false
namespace Go.Av
variable [Tok]
theorem c8_1 : allR (checkE Tryz.prog fsRi1 100000 GG TTRi 20 8 (.tu 7)) l8_1 = true := by kernel_rfl
end Go.Av
