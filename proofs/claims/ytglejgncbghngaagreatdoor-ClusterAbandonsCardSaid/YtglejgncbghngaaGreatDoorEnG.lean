/- A part of the proof: what a machine of our own over the model's code answers is what the model does; no condition. -/
import Derived.Test.YtglejgncbghngaaGreatDoorEnF
set_option linter.all false
open Go Go.Av Go.Proofs
set_option maxRecDepth 1000000
set_option linter.all false
namespace Go.Av
variable [Tok]
theorem c32_1 : allT (checkE Tryz.prog fsAb1 100000 GG TTAb 20 32 (.ag 21)) l32_1 = true := by kernel_rfl
end Go.Av


open Go Go.Av Go.Proofs
set_option maxRecDepth 1000000
set_option linter.all false
namespace Go.Av
variable [Tok]
theorem c32_2 : allT (checkE Tryz.prog fsAb1 100000 GG TTAb 20 32 (.ag 21)) l32_2 = true := by kernel_rfl
end Go.Av


open Go Go.Av Go.Proofs
set_option maxRecDepth 1000000
set_option linter.all false
namespace Go.Av
variable [Tok]
noncomputable def fsAb2 (k : Nat) : Option AFun := ifb (Nat.beq k 26) (some (.sem (pureF GG TTAb 20 [.flat] (memoF l26)))) (ifb (Nat.beq k 164) (some (.sem (pureF GG TTAb 20 [.flat] (memoT l164)))) (ifb (Nat.beq k 32) (some (.sem (pureF GG TTAb 20 [.ag 21, .sl 0, .ag 11] (memoT l32)))) (fsAb1 k)))
theorem p26 : PureOk Tryz.prog GG 26 (memoF l26) := memo_pure tz_mixed fsAb1_ok (fun e he => by
  exact allAnd c26_0 e he)
theorem p164 : PureOk Tryz.prog GG 164 (memoT l164) := memoT_pure tz_mixed fsAb1_ok (by unfold l164; exact c164_0)
theorem p32 : PureOk Tryz.prog GG 32 (memoT l32) := memoT_pure tz_mixed fsAb1_ok (by unfold l32; exact allT_node (allT_node (c32_0) (c32_1)) (c32_2))
theorem fsAb2_ok : FsOk Tryz.prog fsAb2 := by
  intro k fn h
  unfold fsAb2 at h
  rcases ifb_or h with ⟨h1, h⟩ | ⟨_, h⟩
  · cases h; rw [Nat.eq_of_beq_eq_true h1]; exact .sem (pure_sem p26 tz_lt)
  rcases ifb_or h with ⟨h1, h⟩ | ⟨_, h⟩
  · cases h; rw [Nat.eq_of_beq_eq_true h1]; exact .sem (pure_sem p164 tz_lt)
  rcases ifb_or h with ⟨h1, h⟩ | ⟨_, h⟩
  · cases h; rw [Nat.eq_of_beq_eq_true h1]; exact .sem (pure_sem p32 tz_lt)
  exact fsAb1_ok k fn h
end Go.Av


open Go Go.Av Go.Proofs
set_option maxRecDepth 1000000
set_option linter.all false
namespace Go.Av
variable [Tok]
theorem c78_0 : allT (checkE Tryz.prog fsAb2 100000 GG TTAb 20 78 (.ag 12)) l78_0 = true := by kernel_rfl
end Go.Av


open Go Go.Av Go.Proofs
set_option maxRecDepth 1000000
set_option linter.all false
namespace Go.Av
variable [Tok]
noncomputable def fsAb3 (k : Nat) : Option AFun := ifb (Nat.beq k 78) (some (.sem (pureF GG TTAb 20 [.flat, .sl 0] (memoT l78)))) (fsAb2 k)
theorem p78 : PureOk Tryz.prog GG 78 (memoT l78) := memoT_pure tz_mixed fsAb2_ok (by unfold l78; exact c78_0)
theorem fsAb3_ok : FsOk Tryz.prog fsAb3 := by
  intro k fn h
  unfold fsAb3 at h
  rcases ifb_or h with ⟨h1, h⟩ | ⟨_, h⟩
  · cases h; rw [Nat.eq_of_beq_eq_true h1]; exact .sem (pure_sem p78 tz_lt)
  exact fsAb2_ok k fn h
end Go.Av


open Go Go.Av Go.Proofs
set_option maxRecDepth 1000000
set_option linter.all false
namespace Go.Av
variable [Tok]
def l5_0 : List Ent := [⟨[], .b true⟩]
theorem c5_0 : allR (checkE Tryz.prog fsAb3 100000 GG TTAb 20 5 (.flat)) l5_0 = true := by kernel_rfl
end Go.Av


open Go Go.Av Go.Proofs
set_option maxRecDepth 1000000
set_option linter.all false
namespace Go.Av
variable [Tok]
noncomputable def fsAb4 (k : Nat) : Option AFun := ifb (Nat.beq k 5) (some (.sem (pureF GG TTAb 20 [] (memoF l5_0)))) (fsAb3 k)
theorem p5 : PureOk Tryz.prog GG 5 (memoF l5_0) := memo_pure tz_mixed fsAb3_ok (fun e he => by
  exact allAnd c5_0 e he)
theorem fsAb4_ok : FsOk Tryz.prog fsAb4 := by
  intro k fn h
  unfold fsAb4 at h
  rcases ifb_or h with ⟨h1, h⟩ | ⟨_, h⟩
  · cases h; rw [Nat.eq_of_beq_eq_true h1]; exact .sem (pure_sem p5 tz_lt)
  exact fsAb3_ok k fn h
end Go.Av
