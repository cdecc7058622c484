/- A part of the proof: what a machine of our own over the model's code answers is what the model does; no condition. -/
import Derived.Test.YtndjadliihggpaaGreatDoorLiE
set_option linter.all false
open Go Go.Av Go.Proofs
set_option maxRecDepth 1000000
namespace Go.Av
variable [Tok]
theorem c415_0 : allR (checkE Tryz.prog fsB 100000 GG TT 20 415 (.sl 0)) l415_0 = true := by kernel_rfl
end Go.Av


open Go Go.Av Go.Proofs
set_option maxRecDepth 1000000
namespace Go.Av
variable [Tok]
theorem c387_0 : allR (checkE Tryz.prog fsB 100000 GG TT 20 387 (.sl 0)) l387_0 = true := by kernel_rfl
end Go.Av


open Go Go.Av Go.Proofs
set_option maxRecDepth 1000000
namespace Go.Av
variable [Tok]
theorem c144_0 : allR (checkE Tryz.prog fsB 100000 GG TT 20 144 (.flat)) l144_0 = true := by kernel_rfl
end Go.Av


open Go Go.Av Go.Proofs
set_option maxRecDepth 1000000
namespace Go.Av
variable [Tok]
noncomputable def fs1 (k : Nat) : Option AFun := ifb (Nat.beq k 415) (some (.sem (pureF GG TT 20 [] (memoF l415)))) (ifb (Nat.beq k 387) (some (.sem (pureF GG TT 20 [] (memoF l387)))) (ifb (Nat.beq k 144) (some (.sem (pureF GG TT 20 [.flat] (memoF l144)))) (fsB k)))
theorem p415 : PureOk Tryz.prog GG 415 (memoF l415) := memo_pure tz_mixed fsB_ok (fun e he => by
  exact allAnd c415_0 e he)
theorem p387 : PureOk Tryz.prog GG 387 (memoF l387) := memo_pure tz_mixed fsB_ok (fun e he => by
  exact allAnd c387_0 e he)
theorem p144 : PureOk Tryz.prog GG 144 (memoF l144) := memo_pure tz_mixed fsB_ok (fun e he => by
  exact allAnd c144_0 e he)
theorem fs1_ok : FsOk Tryz.prog fs1 := by
  intro k fn h
  unfold fs1 at h
  rcases ifb_or h with ⟨h1, h⟩ | ⟨_, h⟩
  · cases h; rw [Nat.eq_of_beq_eq_true h1]; exact .sem (pure_sem p415 tz_lt)
  rcases ifb_or h with ⟨h1, h⟩ | ⟨_, h⟩
  · cases h; rw [Nat.eq_of_beq_eq_true h1]; exact .sem (pure_sem p387 tz_lt)
  rcases ifb_or h with ⟨h1, h⟩ | ⟨_, h⟩
  · cases h; rw [Nat.eq_of_beq_eq_true h1]; exact .sem (pure_sem p144 tz_lt)
  exact fsB_ok k fn h
end Go.Av


open Go Go.Av Go.Proofs
set_option maxRecDepth 1000000
namespace Go.Av
variable [Tok]
theorem c11_0 : allR (checkE Tryz.prog fs1 100000 GG TT 20 11 (.tu 12)) l11_0 = true := by kernel_rfl
end Go.Av


open Go Go.Av Go.Proofs
set_option maxRecDepth 1000000
namespace Go.Av
variable [Tok]
theorem c11_1 : allR (checkE Tryz.prog fs1 100000 GG TT 20 11 (.tu 12)) l11_1 = true := by kernel_rfl
end Go.Av


open Go Go.Av Go.Proofs
set_option maxRecDepth 1000000
namespace Go.Av
variable [Tok]
theorem c11_2 : allR (checkE Tryz.prog fs1 100000 GG TT 20 11 (.tu 12)) l11_2 = true := by kernel_rfl
end Go.Av


open Go Go.Av Go.Proofs
set_option maxRecDepth 1000000
namespace Go.Av
variable [Tok]
theorem c11_3 : allR (checkE Tryz.prog fs1 100000 GG TT 20 11 (.tu 12)) l11_3 = true := by kernel_rfl
end Go.Av
