/- A part of the proof: what a machine of our own over the model's code answers is what the model does; no condition. -/
import Derived.Test.YtndjadliihggpaaGreatDoorEnA
set_option linter.all false
open Go Go.Av Go.Proofs
set_option maxRecDepth 1000000
set_option linter.all false
namespace Go.Av
variable [Tok]
theorem c109_0 : allT (checkE Tryz.prog fsDr1 100000 GG TTDr 20 109 (.tu 7)) l109_0 = true := by kernel_rfl
end Go.Av


open Go Go.Av Go.Proofs
set_option maxRecDepth 1000000
set_option linter.all false
namespace Go.Av
variable [Tok]
theorem c109_1 : allT (checkE Tryz.prog fsDr1 100000 GG TTDr 20 109 (.tu 7)) l109_1 = true := by kernel_rfl
end Go.Av


open Go Go.Av Go.Proofs
set_option maxRecDepth 1000000
set_option linter.all false
namespace Go.Av
variable [Tok]
theorem c25_0 : allR (checkE Tryz.prog fsDr1 100000 GG TTDr 20 25 (.sl 13)) l25_0 = true := by kernel_rfl
end Go.Av


open Go Go.Av Go.Proofs
set_option maxRecDepth 1000000
set_option linter.all false
namespace Go.Av
variable [Tok]
noncomputable def fsDr2 (k : Nat) : Option AFun := ifb (Nat.beq k 11) (some (.sem (pureF GG TTDr 20 [.flat] (memoU l11)))) (ifb (Nat.beq k 109) (some (.sem (pureF GG TTDr 20 [.flat] (memoU l109)))) (ifb (Nat.beq k 25) (some (.sem (pureF GG TTDr 20 [.sl 8] (memoF l25)))) (fsDr1 k)))
theorem p11 : PureOk Tryz.prog GG 11 (memoU l11) := memoU_pure tz_mixed fsDr1_ok (by unfold l11; exact allT_node (c11_0) (c11_1))
theorem p109 : PureOk Tryz.prog GG 109 (memoU l109) := memoU_pure tz_mixed fsDr1_ok (by unfold l109; exact allT_node (c109_0) (c109_1))
theorem p25 : PureOk Tryz.prog GG 25 (memoF l25) := memo_pure tz_mixed fsDr1_ok (fun e he => by
  exact allAnd c25_0 e he)
theorem fsDr2_ok : FsOk Tryz.prog fsDr2 := by
  intro k fn h
  unfold fsDr2 at h
  rcases ifb_or h with ⟨h1, h⟩ | ⟨_, h⟩
  · cases h; rw [Nat.eq_of_beq_eq_true h1]; exact .sem (pure_sem p11 tz_lt)
  rcases ifb_or h with ⟨h1, h⟩ | ⟨_, h⟩
  · cases h; rw [Nat.eq_of_beq_eq_true h1]; exact .sem (pure_sem p109 tz_lt)
  rcases ifb_or h with ⟨h1, h⟩ | ⟨_, h⟩
  · cases h; rw [Nat.eq_of_beq_eq_true h1]; exact .sem (pure_sem p25 tz_lt)
  exact fsDr1_ok k fn h
end Go.Av


open Go Go.Av Go.Proofs
set_option maxRecDepth 1000000
set_option linter.all false
namespace Go.Av
variable [Tok]
theorem c13_0 : allT (checkE Tryz.prog fsDr2 100000 GG TTDr 20 13 (.ag 6)) l13_0 = true := by kernel_rfl
end Go.Av


open Go Go.Av Go.Proofs
set_option maxRecDepth 1000000
set_option linter.all false
namespace Go.Av
variable [Tok]
theorem c117_0 : allT (checkE Tryz.prog fsDr2 100000 GG TTDr 20 117 (.flat)) l117_0 = true := by kernel_rfl
end Go.Av


open Go Go.Av Go.Proofs
set_option maxRecDepth 1000000
set_option linter.all false
namespace Go.Av
variable [Tok]
theorem c33_0 : allR (checkE Tryz.prog fsDr2 100000 GG TTDr 20 33 (.flat)) l33_0 = true := by kernel_rfl
end Go.Av


open Go Go.Av Go.Proofs
set_option maxRecDepth 1000000
set_option linter.all false
namespace Go.Av
variable [Tok]
noncomputable def fsDr3 (k : Nat) : Option AFun := ifb (Nat.beq k 13) (some (.sem (pureF GG TTDr 20 [.flat] (memoU l13)))) (ifb (Nat.beq k 117) (some (.sem (pureF GG TTDr 20 [.ag 12] (memoU l117)))) (ifb (Nat.beq k 33) (some (.sem (pureF GG TTDr 20 [.ag 12] (memoF l33)))) (fsDr2 k)))
theorem p13 : PureOk Tryz.prog GG 13 (memoU l13) := memoU_pure tz_mixed fsDr2_ok (by unfold l13; exact c13_0)
theorem p117 : PureOk Tryz.prog GG 117 (memoU l117) := memoU_pure tz_mixed fsDr2_ok (by unfold l117; exact c117_0)
theorem p33 : PureOk Tryz.prog GG 33 (memoF l33) := memo_pure tz_mixed fsDr2_ok (fun e he => by
  exact allAnd c33_0 e he)
theorem fsDr3_ok : FsOk Tryz.prog fsDr3 := by
  intro k fn h
  unfold fsDr3 at h
  rcases ifb_or h with ⟨h1, h⟩ | ⟨_, h⟩
  · cases h; rw [Nat.eq_of_beq_eq_true h1]; exact .sem (pure_sem p13 tz_lt)
  rcases ifb_or h with ⟨h1, h⟩ | ⟨_, h⟩
  · cases h; rw [Nat.eq_of_beq_eq_true h1]; exact .sem (pure_sem p117 tz_lt)
  rcases ifb_or h with ⟨h1, h⟩ | ⟨_, h⟩
  · cases h; rw [Nat.eq_of_beq_eq_true h1]; exact .sem (pure_sem p33 tz_lt)
  exact fsDr2_ok k fn h
end Go.Av
