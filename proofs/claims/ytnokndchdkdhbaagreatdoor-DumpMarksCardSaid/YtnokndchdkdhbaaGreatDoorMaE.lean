/- A part of the proof: what a machine of our own over the model's code answers is what the model does; no condition. -/
import Derived.Test.YtnokndchdkdhbaaGreatDoorMaD
import Derived.Test.YtnokndchdkdhbaaGreatDoorMaB
import Derived.Test.YtnokndchdkdhbaaGreatDoorMaC
set_option linter.all false
open Go Go.Av Go.Proofs
set_option maxRecDepth 1000000
set_option linter.all false
namespace Go.Av
variable [Tok]
noncomputable def fsMa2 (k : Nat) : Option AFun := ifb (Nat.beq k 8) (some (.sem (pureF GG TTMa 20 [.flat] (memoF l8)))) (ifb (Nat.beq k 15) (some (.sem (pureF GG TTMa 20 [.sl 15, .sl 18] (memoF l15)))) (ifb (Nat.beq k 53) (some (.sem (pureF GG TTMa 20 [.sl 10] (memoF l53)))) (ifb (Nat.beq k 50) (some (.sem (pureF GG TTMa 20 [.flat] (memoF l50)))) (ifb (Nat.beq k 240) (some (.sem (pureF GG TTMa 20 [.flat] (memoF l240)))) (ifb (Nat.beq k 14) (some (.sem (pureF GG TTMa 20 [.sl 10] (memoF l14)))) (fsMa1 k))))))
theorem p8 : PureOk Tryz.prog GG 8 (memoF l8) := memo_pure tz_mixed fsMa1_ok (fun e he => by
  exact allAnd c8_0 e he)
theorem p15 : PureOk Tryz.prog GG 15 (memoF l15) := memo_pure tz_mixed fsMa1_ok (fun e he => by
  simp only [l15, List.mem_append, or_assoc] at he
  rcases he with h | h | h | h | h | h | h | h | h | h | h | h | h | h | h | h | h | h
  · exact allAnd c15_0 e h
  · exact allAnd c15_1 e h
  · exact allAnd c15_2 e h
  · exact allAnd c15_3 e h
  · exact allAnd c15_4 e h
  · exact allAnd c15_5 e h
  · exact allAnd c15_6 e h
  · exact allAnd c15_7 e h
  · exact allAnd c15_8 e h
  · exact allAnd c15_9 e h
  · exact allAnd c15_10 e h
  · exact allAnd c15_11 e h
  · exact allAnd c15_12 e h
  · exact allAnd c15_13 e h
  · exact allAnd c15_14 e h
  · exact allAnd c15_15 e h
  · exact allAnd c15_16 e h
  · exact allAnd c15_17 e h)
theorem p53 : PureOk Tryz.prog GG 53 (memoF l53) := memo_pure tz_mixed fsMa1_ok (fun e he => by
  exact allAnd c53_0 e he)
theorem p50 : PureOk Tryz.prog GG 50 (memoF l50) := memo_pure tz_mixed fsMa1_ok (fun e he => by
  exact allAnd c50_0 e he)
theorem p240 : PureOk Tryz.prog GG 240 (memoF l240) := memo_pure tz_mixed fsMa1_ok (fun e he => by
  exact allAnd c240_0 e he)
theorem p14 : PureOk Tryz.prog GG 14 (memoF l14) := memo_pure tz_mixed fsMa1_ok (fun e he => by
  exact allAnd c14_0 e he)
theorem fsMa2_ok : FsOk Tryz.prog fsMa2 := by
  intro k fn h
  unfold fsMa2 at h
  rcases ifb_or h with ⟨h1, h⟩ | ⟨_, h⟩
  · cases h; rw [Nat.eq_of_beq_eq_true h1]; exact .sem (pure_sem p8 tz_lt)
  rcases ifb_or h with ⟨h1, h⟩ | ⟨_, h⟩
  · cases h; rw [Nat.eq_of_beq_eq_true h1]; exact .sem (pure_sem p15 tz_lt)
  rcases ifb_or h with ⟨h1, h⟩ | ⟨_, h⟩
  · cases h; rw [Nat.eq_of_beq_eq_true h1]; exact .sem (pure_sem p53 tz_lt)
  rcases ifb_or h with ⟨h1, h⟩ | ⟨_, h⟩
  · cases h; rw [Nat.eq_of_beq_eq_true h1]; exact .sem (pure_sem p50 tz_lt)
  rcases ifb_or h with ⟨h1, h⟩ | ⟨_, h⟩
  · cases h; rw [Nat.eq_of_beq_eq_true h1]; exact .sem (pure_sem p240 tz_lt)
  rcases ifb_or h with ⟨h1, h⟩ | ⟨_, h⟩
  · cases h; rw [Nat.eq_of_beq_eq_true h1]; exact .sem (pure_sem p14 tz_lt)
  exact fsMa1_ok k fn h
end Go.Av


open Go Go.Av Go.Proofs
set_option maxRecDepth 1000000
set_option linter.all false
namespace Go.Av
variable [Tok]
theorem c102_0 : allR (checkE Tryz.prog fsMa2 100000 GG TTMa 20 102 (.flat)) l102_0 = true := by kernel_rfl
end Go.Av


open Go Go.Av Go.Proofs
set_option maxRecDepth 1000000
set_option linter.all false
namespace Go.Av
variable [Tok]
theorem c248_0 : allR (checkE Tryz.prog fsMa2 100000 GG TTMa 20 248 (.flat)) l248_0 = true := by kernel_rfl
end Go.Av


open Go Go.Av Go.Proofs
set_option maxRecDepth 1000000
set_option linter.all false
namespace Go.Av
variable [Tok]
theorem c49_0 : allR (checkE Tryz.prog fsMa2 100000 GG TTMa 20 49 (.tu 16)) l49_0 = true := by kernel_rfl
end Go.Av


open Go Go.Av Go.Proofs
set_option maxRecDepth 1000000
set_option linter.all false
namespace Go.Av
variable [Tok]
theorem c49_1 : allR (checkE Tryz.prog fsMa2 100000 GG TTMa 20 49 (.tu 16)) l49_1 = true := by kernel_rfl
end Go.Av


open Go Go.Av Go.Proofs
set_option maxRecDepth 1000000
set_option linter.all false
namespace Go.Av
variable [Tok]
theorem c49_2 : allR (checkE Tryz.prog fsMa2 100000 GG TTMa 20 49 (.tu 16)) l49_2 = true := by kernel_rfl
end Go.Av


open Go Go.Av Go.Proofs
set_option maxRecDepth 1000000
set_option linter.all false
namespace Go.Av
variable [Tok]
noncomputable def fsMa3 (k : Nat) : Option AFun := ifb (Nat.beq k 102) (some (.sem (pureF GG TTMa 20 [.ag 17] (memoF l102)))) (ifb (Nat.beq k 49) (some (.sem (pureF GG TTMa 20 [.sl 15] (memoF l49)))) (ifb (Nat.beq k 248) (some (.sem (pureF GG TTMa 20 [.ag 17] (memoF l248)))) (fsMa2 k)))
theorem p102 : PureOk Tryz.prog GG 102 (memoF l102) := memo_pure tz_mixed fsMa2_ok (fun e he => by
  exact allAnd c102_0 e he)
theorem p49 : PureOk Tryz.prog GG 49 (memoF l49) := memo_pure tz_mixed fsMa2_ok (fun e he => by
  simp only [l49, List.mem_append, or_assoc] at he
  rcases he with h | h | h
  · exact allAnd c49_0 e h
  · exact allAnd c49_1 e h
  · exact allAnd c49_2 e h)
theorem p248 : PureOk Tryz.prog GG 248 (memoF l248) := memo_pure tz_mixed fsMa2_ok (fun e he => by
  exact allAnd c248_0 e he)
theorem fsMa3_ok : FsOk Tryz.prog fsMa3 := by
  intro k fn h
  unfold fsMa3 at h
  rcases ifb_or h with ⟨h1, h⟩ | ⟨_, h⟩
  · cases h; rw [Nat.eq_of_beq_eq_true h1]; exact .sem (pure_sem p102 tz_lt)
  rcases ifb_or h with ⟨h1, h⟩ | ⟨_, h⟩
  · cases h; rw [Nat.eq_of_beq_eq_true h1]; exact .sem (pure_sem p49 tz_lt)
  rcases ifb_or h with ⟨h1, h⟩ | ⟨_, h⟩
  · cases h; rw [Nat.eq_of_beq_eq_true h1]; exact .sem (pure_sem p248 tz_lt)
  exact fsMa2_ok k fn h
end Go.Av


open Go Go.Av Go.Proofs
set_option maxRecDepth 1000000
set_option linter.all false
namespace Go.Av
variable [Tok]
theorem c24_0 : allR (checkE Tryz.prog fsMa3 100000 GG TTMa 20 24 (.tu 16)) l24_0 = true := by kernel_rfl
end Go.Av


open Go Go.Av Go.Proofs
set_option maxRecDepth 1000000
set_option linter.all false
namespace Go.Av
variable [Tok]
theorem c51_0 : allR (checkE Tryz.prog fsMa3 100000 GG TTMa 20 51 (.tu 14)) l51_0 = true := by kernel_rfl
end Go.Av


open Go Go.Av Go.Proofs
set_option maxRecDepth 1000000
set_option linter.all false
namespace Go.Av
variable [Tok]
noncomputable def fsMa4 (k : Nat) : Option AFun := ifb (Nat.beq k 51) (some (.sem (pureF GG TTMa 20 [.sl 10, .sl 8] (memoF l51)))) (ifb (Nat.beq k 24) (some (.sem (pureF GG TTMa 20 [.sl 15] (memoF l24)))) (fsMa3 k))
theorem p51 : PureOk Tryz.prog GG 51 (memoF l51) := memo_pure tz_mixed fsMa3_ok (fun e he => by
  exact allAnd c51_0 e he)
theorem p24 : PureOk Tryz.prog GG 24 (memoF l24) := memo_pure tz_mixed fsMa3_ok (fun e he => by
  exact allAnd c24_0 e he)
theorem fsMa4_ok : FsOk Tryz.prog fsMa4 := by
  intro k fn h
  unfold fsMa4 at h
  rcases ifb_or h with ⟨h1, h⟩ | ⟨_, h⟩
  · cases h; rw [Nat.eq_of_beq_eq_true h1]; exact .sem (pure_sem p51 tz_lt)
  rcases ifb_or h with ⟨h1, h⟩ | ⟨_, h⟩
  · cases h; rw [Nat.eq_of_beq_eq_true h1]; exact .sem (pure_sem p24 tz_lt)
  exact fsMa3_ok k fn h
end Go.Av


open Go Go.Av Go.Proofs
set_option maxRecDepth 1000000
set_option linter.all false
namespace Go.Av
variable [Tok]
theorem c6_0 : allR (checkE Tryz.prog fsMa4 100000 GG TTMa 20 6 (.flat)) l6_0 = true := by kernel_rfl
end Go.Av


open Go Go.Av Go.Proofs
set_option maxRecDepth 1000000
set_option linter.all false
namespace Go.Av
variable [Tok]
noncomputable def fsMa5 (k : Nat) : Option AFun := ifb (Nat.beq k 6) (some (.sem (pureF GG TTMa 20 [] (memoF l6)))) (fsMa4 k)
theorem p6 : PureOk Tryz.prog GG 6 (memoF l6) := memo_pure tz_mixed fsMa4_ok (fun e he => by
  exact allAnd c6_0 e he)
theorem fsMa5_ok : FsOk Tryz.prog fsMa5 := by
  intro k fn h
  unfold fsMa5 at h
  rcases ifb_or h with ⟨h1, h⟩ | ⟨_, h⟩
  · cases h; rw [Nat.eq_of_beq_eq_true h1]; exact .sem (pure_sem p6 tz_lt)
  exact fsMa4_ok k fn h
end Go.Av


open Go Go.Av Go.Proofs
set_option maxRecDepth 1000000
set_option linter.all false
namespace Go.Av
noncomputable def fsMaT [Tok] (l : List Rem) (k : Nat) : Option AFun := ifb (Nat.beq k 7) (some (.sem (withinL l))) (fsMa5 k)
end Go.Av
