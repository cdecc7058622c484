/- A part of the proof: what a machine of our own over the model's code answers is what the model does; no condition. -/
import Derived.Test.YtglejgncbghngaaGreatDoorEnB
import Derived.Test.YtglejgncbghngaaGreatDoorEnC
import Derived.Test.YtglejgncbghngaaGreatDoorEnD
import Derived.Test.YtglejgncbghngaaGreatDoorEnE
set_option linter.all false
open Go Go.Av Go.Proofs
set_option maxRecDepth 1000000
set_option linter.all false
namespace Go.Av
variable [Tok]
theorem c65_21 : allT (checkE Tryz.prog fsB 100000 GG TTAb 20 65 (.tu 6)) l65_21 = true := by kernel_rfl
end Go.Av


open Go Go.Av Go.Proofs
set_option maxRecDepth 1000000
set_option linter.all false
namespace Go.Av
variable [Tok]
theorem c31_0 : allT (checkE Tryz.prog fsB 100000 GG TTAb 20 31 (.tu 13)) l31_0 = true := by kernel_rfl
end Go.Av


open Go Go.Av Go.Proofs
set_option maxRecDepth 1000000
set_option linter.all false
namespace Go.Av
variable [Tok]
theorem c87_0 : allT (checkE Tryz.prog fsB 100000 GG TTAb 20 87 (.tu 1)) l87_0 = true := by kernel_rfl
end Go.Av


open Go Go.Av Go.Proofs
set_option maxRecDepth 1000000
set_option linter.all false
namespace Go.Av
variable [Tok]
theorem c168_0 : allT (checkE Tryz.prog fsB 100000 GG TTAb 20 168 (.tu 7)) l168_0 = true := by kernel_rfl
end Go.Av


open Go Go.Av Go.Proofs
set_option maxRecDepth 1000000
set_option linter.all false
namespace Go.Av
variable [Tok]
theorem c168_1 : allT (checkE Tryz.prog fsB 100000 GG TTAb 20 168 (.tu 7)) l168_1 = true := by kernel_rfl
end Go.Av


open Go Go.Av Go.Proofs
set_option maxRecDepth 1000000
set_option linter.all false
namespace Go.Av
variable [Tok]
theorem c168_2 : allT (checkE Tryz.prog fsB 100000 GG TTAb 20 168 (.tu 7)) l168_2 = true := by kernel_rfl
end Go.Av


open Go Go.Av Go.Proofs
set_option maxRecDepth 1000000
set_option linter.all false
namespace Go.Av
variable [Tok]
theorem c168_3 : allT (checkE Tryz.prog fsB 100000 GG TTAb 20 168 (.tu 7)) l168_3 = true := by kernel_rfl
end Go.Av


open Go Go.Av Go.Proofs
set_option maxRecDepth 1000000
set_option linter.all false
namespace Go.Av
variable [Tok]
theorem c39_0 : allR (checkE Tryz.prog fsB 100000 GG TTAb 20 39 (.ag 21)) l39_0 = true := by kernel_rfl
end Go.Av


open Go Go.Av Go.Proofs
set_option maxRecDepth 1000000
set_option linter.all false
namespace Go.Av
variable [Tok]
noncomputable def fsAb1 (k : Nat) : Option AFun := ifb (Nat.beq k 60) (some (.sem (pureF GG TTAb 20 [.flat, .flat, .flat] (memoF l60)))) (ifb (Nat.beq k 515) (some (.sem (pureF GG TTAb 20 [] (memoF l515)))) (ifb (Nat.beq k 391) (some (.sem (pureF GG TTAb 20 [] (memoF l391)))) (ifb (Nat.beq k 27) (some (.sem (pureF GG TTAb 20 [.flat, .flat, .sl 14] (memoF l27)))) (ifb (Nat.beq k 29) (some (.sem (pureF GG TTAb 20 [.ag 21, .sl 0] (memoT l29)))) (ifb (Nat.beq k 62) (some (.sem (pureF GG TTAb 20 [.ag 4] (memoT l62)))) (ifb (Nat.beq k 65) (some (.sem (pureF GG TTAb 20 [.ag 4, .ag 5] (memoT l65)))) (ifb (Nat.beq k 31) (some (.sem (pureF GG TTAb 20 [.ag 12, .flat] (memoT l31)))) (ifb (Nat.beq k 87) (some (.sem (pureF GG TTAb 20 [.ag 22, .flat] (memoT l87)))) (ifb (Nat.beq k 168) (some (.sem (pureF GG TTAb 20 [.ag 4, .flat] (memoT l168)))) (ifb (Nat.beq k 39) (some (.sem (pureF GG TTAb 20 [.flat] (memoF l39)))) (fsB k)))))))))))
theorem p60 : PureOk Tryz.prog GG 60 (memoF l60) := memo_pure tz_mixed fsB_ok (fun e he => by
  exact allAnd c60_0 e he)
theorem p515 : PureOk Tryz.prog GG 515 (memoF l515) := memo_pure tz_mixed fsB_ok (fun e he => by
  exact allAnd c515_0 e he)
theorem p391 : PureOk Tryz.prog GG 391 (memoF l391) := memo_pure tz_mixed fsB_ok (fun e he => by
  exact allAnd c391_0 e he)
theorem p27 : PureOk Tryz.prog GG 27 (memoF l27) := memo_pure tz_mixed fsB_ok (fun e he => by
  exact allAnd c27_0 e he)
theorem p29 : PureOk Tryz.prog GG 29 (memoT l29) := memoT_pure tz_mixed fsB_ok (by unfold l29; exact c29_0)
theorem p62 : PureOk Tryz.prog GG 62 (memoT l62) := memoT_pure tz_mixed fsB_ok (by unfold l62; exact allT_node (allT_node (allT_node (c62_0) (c62_1)) (allT_node (c62_2) (c62_3))) (allT_node (allT_node (c62_4) (c62_5)) (allT_node (c62_6) (c62_7))))
theorem p65 : PureOk Tryz.prog GG 65 (memoT l65) := memoT_pure tz_mixed fsB_ok (by unfold l65; exact allT_node (allT_node (allT_node (allT_node (c65_0) (c65_1)) (allT_node (allT_node (c65_2) (c65_3)) (c65_4))) (allT_node (allT_node (c65_5) (c65_6)) (allT_node (allT_node (c65_7) (c65_8)) (c65_9)))) (allT_node (allT_node (allT_node (allT_node (c65_10) (c65_11)) (allT_node (c65_12) (c65_13))) (allT_node (allT_node (c65_14) (c65_15)) (allT_node (c65_16) (c65_17)))) (allT_node (allT_node (c65_18) (c65_19)) (allT_node (c65_20) (c65_21)))))
theorem p31 : PureOk Tryz.prog GG 31 (memoT l31) := memoT_pure tz_mixed fsB_ok (by unfold l31; exact c31_0)
theorem p87 : PureOk Tryz.prog GG 87 (memoT l87) := memoT_pure tz_mixed fsB_ok (by unfold l87; exact c87_0)
theorem p168 : PureOk Tryz.prog GG 168 (memoT l168) := memoT_pure tz_mixed fsB_ok (by unfold l168; exact allT_node (allT_node (c168_0) (c168_1)) (allT_node (c168_2) (c168_3)))
theorem p39 : PureOk Tryz.prog GG 39 (memoF l39) := memo_pure tz_mixed fsB_ok (fun e he => by
  exact allAnd c39_0 e he)
theorem fsAb1_ok : FsOk Tryz.prog fsAb1 := by
  intro k fn h
  unfold fsAb1 at h
  rcases ifb_or h with ⟨h1, h⟩ | ⟨_, h⟩
  · cases h; rw [Nat.eq_of_beq_eq_true h1]; exact .sem (pure_sem p60 tz_lt)
  rcases ifb_or h with ⟨h1, h⟩ | ⟨_, h⟩
  · cases h; rw [Nat.eq_of_beq_eq_true h1]; exact .sem (pure_sem p515 tz_lt)
  rcases ifb_or h with ⟨h1, h⟩ | ⟨_, h⟩
  · cases h; rw [Nat.eq_of_beq_eq_true h1]; exact .sem (pure_sem p391 tz_lt)
  rcases ifb_or h with ⟨h1, h⟩ | ⟨_, h⟩
  · cases h; rw [Nat.eq_of_beq_eq_true h1]; exact .sem (pure_sem p27 tz_lt)
  rcases ifb_or h with ⟨h1, h⟩ | ⟨_, h⟩
  · cases h; rw [Nat.eq_of_beq_eq_true h1]; exact .sem (pure_sem p29 tz_lt)
  rcases ifb_or h with ⟨h1, h⟩ | ⟨_, h⟩
  · cases h; rw [Nat.eq_of_beq_eq_true h1]; exact .sem (pure_sem p62 tz_lt)
  rcases ifb_or h with ⟨h1, h⟩ | ⟨_, h⟩
  · cases h; rw [Nat.eq_of_beq_eq_true h1]; exact .sem (pure_sem p65 tz_lt)
  rcases ifb_or h with ⟨h1, h⟩ | ⟨_, h⟩
  · cases h; rw [Nat.eq_of_beq_eq_true h1]; exact .sem (pure_sem p31 tz_lt)
  rcases ifb_or h with ⟨h1, h⟩ | ⟨_, h⟩
  · cases h; rw [Nat.eq_of_beq_eq_true h1]; exact .sem (pure_sem p87 tz_lt)
  rcases ifb_or h with ⟨h1, h⟩ | ⟨_, h⟩
  · cases h; rw [Nat.eq_of_beq_eq_true h1]; exact .sem (pure_sem p168 tz_lt)
  rcases ifb_or h with ⟨h1, h⟩ | ⟨_, h⟩
  · cases h; rw [Nat.eq_of_beq_eq_true h1]; exact .sem (pure_sem p39 tz_lt)
  exact fsB_ok k fn h
end Go.Av


open Go Go.Av Go.Proofs
set_option maxRecDepth 1000000
set_option linter.all false
namespace Go.Av
variable [Tok]
theorem c26_0 : allR (checkE Tryz.prog fsAb1 100000 GG TTAb 20 26 (.tu 25)) l26_0 = true := by kernel_rfl
end Go.Av


open Go Go.Av Go.Proofs
set_option maxRecDepth 1000000
set_option linter.all false
namespace Go.Av
variable [Tok]
theorem c164_0 : allT (checkE Tryz.prog fsAb1 100000 GG TTAb 20 164 (.tu 24)) l164_0 = true := by kernel_rfl
end Go.Av


open Go Go.Av Go.Proofs
set_option maxRecDepth 1000000
set_option linter.all false
namespace Go.Av
variable [Tok]
theorem c32_0 : allT (checkE Tryz.prog fsAb1 100000 GG TTAb 20 32 (.ag 21)) l32_0 = true := by kernel_rfl
end Go.Av
