/- A part of the proof: what a machine of our own over the model's code answers is what the model does; no condition. -/
import Derived.Test.YtndjadliihggpaaGreatDoorLiC
import Derived.Test.YtndjadliihggpaaGreatDoorLiD
set_option linter.all false
open Go Go.Av Go.Proofs
set_option maxRecDepth 1000000
namespace Go.Av
variable [Tok]
theorem c12_4 : allR (checkE Tryz.prog fs3 100000 GG TT 20 12 (.tu 11)) l12_4 = true := by kernel_rfl
end Go.Av


open Go Go.Av Go.Proofs
set_option maxRecDepth 1000000
namespace Go.Av
variable [Tok]
theorem c12_5 : allR (checkE Tryz.prog fs3 100000 GG TT 20 12 (.tu 11)) l12_5 = true := by kernel_rfl
end Go.Av


open Go Go.Av Go.Proofs
set_option maxRecDepth 1000000
namespace Go.Av
variable [Tok]
theorem c12_6 : allR (checkE Tryz.prog fs3 100000 GG TT 20 12 (.tu 11)) l12_6 = true := by kernel_rfl
end Go.Av


open Go Go.Av Go.Proofs
set_option maxRecDepth 1000000
namespace Go.Av
variable [Tok]
theorem c12_7 : allR (checkE Tryz.prog fs3 100000 GG TT 20 12 (.tu 11)) l12_7 = true := by kernel_rfl
end Go.Av


open Go Go.Av Go.Proofs
set_option maxRecDepth 1000000
namespace Go.Av
variable [Tok]
theorem c25_0 : allR (checkE Tryz.prog fs3 100000 GG TT 20 25 (.sl 10)) l25_0 = true := by kernel_rfl
end Go.Av


open Go Go.Av Go.Proofs
set_option maxRecDepth 1000000
namespace Go.Av
variable [Tok]
theorem c24_0 : allR (checkE Tryz.prog fs3 100000 GG TT 20 24 (.tu 13)) l24_0 = true := by kernel_rfl
end Go.Av


open Go Go.Av Go.Proofs
set_option maxRecDepth 1000000
namespace Go.Av
variable [Tok]
noncomputable def fs4 (k : Nat) : Option AFun := ifb (Nat.beq k 12) (some (.sem (pureF GG TT 20 [.sl 7, .ag 6] (memoF l12)))) (ifb (Nat.beq k 25) (some (.sem (pureF GG TT 20 [.sl 7] (memoF l25)))) (ifb (Nat.beq k 24) (some (.sem (pureF GG TT 20 [.sl 10] (memoF l24)))) (fs3 k)))
theorem p12 : PureOk Tryz.prog GG 12 (memoF l12) := memo_pure tz_mixed fs3_ok (fun e he => by
  simp only [l12, List.mem_append, or_assoc] at he
  rcases he with h | h | h | h | h | h | h | h
  · exact allAnd c12_0 e h
  · exact allAnd c12_1 e h
  · exact allAnd c12_2 e h
  · exact allAnd c12_3 e h
  · exact allAnd c12_4 e h
  · exact allAnd c12_5 e h
  · exact allAnd c12_6 e h
  · exact allAnd c12_7 e h)
theorem p25 : PureOk Tryz.prog GG 25 (memoF l25) := memo_pure tz_mixed fs3_ok (fun e he => by
  exact allAnd c25_0 e he)
theorem p24 : PureOk Tryz.prog GG 24 (memoF l24) := memo_pure tz_mixed fs3_ok (fun e he => by
  exact allAnd c24_0 e he)
theorem fs4_ok : FsOk Tryz.prog fs4 := by
  intro k fn h
  unfold fs4 at h
  rcases ifb_or h with ⟨h1, h⟩ | ⟨_, h⟩
  · cases h; rw [Nat.eq_of_beq_eq_true h1]; exact .sem (pure_sem p12 tz_lt)
  rcases ifb_or h with ⟨h1, h⟩ | ⟨_, h⟩
  · cases h; rw [Nat.eq_of_beq_eq_true h1]; exact .sem (pure_sem p25 tz_lt)
  rcases ifb_or h with ⟨h1, h⟩ | ⟨_, h⟩
  · cases h; rw [Nat.eq_of_beq_eq_true h1]; exact .sem (pure_sem p24 tz_lt)
  exact fs3_ok k fn h
end Go.Av


open Go Go.Av Go.Proofs
set_option maxRecDepth 1000000
namespace Go.Av
variable [Tok]
theorem c9_0 : allR (checkE Tryz.prog fs4 100000 GG TT 20 9 (.flat)) l9_0 = true := by kernel_rfl
end Go.Av


open Go Go.Av Go.Proofs
set_option maxRecDepth 1000000
namespace Go.Av
variable [Tok]
noncomputable def fs5 (k : Nat) : Option AFun := ifb (Nat.beq k 9) (some (.sem (pureF GG TT 20 [] (memoF l9)))) (fs4 k)
theorem p9 : PureOk Tryz.prog GG 9 (memoF l9) := memo_pure tz_mixed fs4_ok (fun e he => by
  exact allAnd c9_0 e he)
theorem fs5_ok : FsOk Tryz.prog fs5 := by
  intro k fn h
  unfold fs5 at h
  rcases ifb_or h with ⟨h1, h⟩ | ⟨_, h⟩
  · cases h; rw [Nat.eq_of_beq_eq_true h1]; exact .sem (pure_sem p9 tz_lt)
  exact fs4_ok k fn h
end Go.Av


open Go Go.Av Go.Proofs
set_option maxRecDepth 1000000
namespace Go.Av
noncomputable def fsT (l : List Rem) (k : Nat) : Option AFun := ifb (Nat.beq k 10) (some (.sem (withinL l))) (fs5 k)
end Go.Av
