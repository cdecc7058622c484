/- A part of the proof: what a machine of our own over the model's code answers is what the model does; no condition. -/
import Derived.Test.YtndjadliihggpaaGreatDoorLiB
set_option linter.all false
open Go Go.Av Go.Proofs
set_option maxRecDepth 1000000
namespace Go.Av
variable [Tok]
theorem c109_0 : allR (checkE Tryz.prog fs1 100000 GG TT 20 109 (.tu 12)) l109_0 = true := by kernel_rfl
end Go.Av


open Go Go.Av Go.Proofs
set_option maxRecDepth 1000000
namespace Go.Av
variable [Tok]
theorem c128_0 : allR (checkE Tryz.prog fs1 100000 GG TT 20 128 (.flat)) l128_0 = true := by kernel_rfl
end Go.Av


open Go Go.Av Go.Proofs
set_option maxRecDepth 1000000
namespace Go.Av
variable [Tok]
noncomputable def fs2 (k : Nat) : Option AFun := ifb (Nat.beq k 11) (some (.sem (pureF GG TT 20 [.flat] (memoF l11)))) (ifb (Nat.beq k 109) (some (.sem (pureF GG TT 20 [.flat] (memoF l109)))) (ifb (Nat.beq k 128) (some (.sem (pureF GG TT 20 [.ag 6] (memoF l128)))) (fs1 k)))
theorem p11 : PureOk Tryz.prog GG 11 (memoF l11) := memo_pure tz_mixed fs1_ok (fun e he => by
  simp only [l11, List.mem_append, or_assoc] at he
  rcases he with h | h | h | h
  · exact allAnd c11_0 e h
  · exact allAnd c11_1 e h
  · exact allAnd c11_2 e h
  · exact allAnd c11_3 e h)
theorem p109 : PureOk Tryz.prog GG 109 (memoF l109) := memo_pure tz_mixed fs1_ok (fun e he => by
  exact allAnd c109_0 e he)
theorem p128 : PureOk Tryz.prog GG 128 (memoF l128) := memo_pure tz_mixed fs1_ok (fun e he => by
  exact allAnd c128_0 e he)
theorem fs2_ok : FsOk Tryz.prog fs2 := by
  intro k fn h
  unfold fs2 at h
  rcases ifb_or h with ⟨h1, h⟩ | ⟨_, h⟩
  · cases h; rw [Nat.eq_of_beq_eq_true h1]; exact .sem (pure_sem p11 tz_lt)
  rcases ifb_or h with ⟨h1, h⟩ | ⟨_, h⟩
  · cases h; rw [Nat.eq_of_beq_eq_true h1]; exact .sem (pure_sem p109 tz_lt)
  rcases ifb_or h with ⟨h1, h⟩ | ⟨_, h⟩
  · cases h; rw [Nat.eq_of_beq_eq_true h1]; exact .sem (pure_sem p128 tz_lt)
  exact fs1_ok k fn h
end Go.Av


open Go Go.Av Go.Proofs
set_option maxRecDepth 1000000
namespace Go.Av
variable [Tok]
theorem c117_0 : allR (checkE Tryz.prog fs2 100000 GG TT 20 117 (.flat)) l117_0 = true := by kernel_rfl
end Go.Av


open Go Go.Av Go.Proofs
set_option maxRecDepth 1000000
namespace Go.Av
variable [Tok]
theorem c13_0 : allR (checkE Tryz.prog fs2 100000 GG TT 20 13 (.ag 6)) l13_0 = true := by kernel_rfl
end Go.Av


open Go Go.Av Go.Proofs
set_option maxRecDepth 1000000
namespace Go.Av
variable [Tok]
theorem c13_1 : allR (checkE Tryz.prog fs2 100000 GG TT 20 13 (.ag 6)) l13_1 = true := by kernel_rfl
end Go.Av


open Go Go.Av Go.Proofs
set_option maxRecDepth 1000000
namespace Go.Av
variable [Tok]
theorem c13_2 : allR (checkE Tryz.prog fs2 100000 GG TT 20 13 (.ag 6)) l13_2 = true := by kernel_rfl
end Go.Av


open Go Go.Av Go.Proofs
set_option maxRecDepth 1000000
namespace Go.Av
variable [Tok]
theorem c13_3 : allR (checkE Tryz.prog fs2 100000 GG TT 20 13 (.ag 6)) l13_3 = true := by kernel_rfl
end Go.Av


open Go Go.Av Go.Proofs
set_option maxRecDepth 1000000
namespace Go.Av
variable [Tok]
theorem c13_4 : allR (checkE Tryz.prog fs2 100000 GG TT 20 13 (.ag 6)) l13_4 = true := by kernel_rfl
end Go.Av


open Go Go.Av Go.Proofs
set_option maxRecDepth 1000000
namespace Go.Av
variable [Tok]
noncomputable def fs3 (k : Nat) : Option AFun := ifb (Nat.beq k 117) (some (.sem (pureF GG TT 20 [.ag 5] (memoF l117)))) (ifb (Nat.beq k 13) (some (.sem (pureF GG TT 20 [.flat] (memoF l13)))) (fs2 k))
theorem p117 : PureOk Tryz.prog GG 117 (memoF l117) := memo_pure tz_mixed fs2_ok (fun e he => by
  exact allAnd c117_0 e he)
theorem p13 : PureOk Tryz.prog GG 13 (memoF l13) := memo_pure tz_mixed fs2_ok (fun e he => by
  simp only [l13, List.mem_append, or_assoc] at he
  rcases he with h | h | h | h | h
  · exact allAnd c13_0 e h
  · exact allAnd c13_1 e h
  · exact allAnd c13_2 e h
  · exact allAnd c13_3 e h
  · exact allAnd c13_4 e h)
theorem fs3_ok : FsOk Tryz.prog fs3 := by
  intro k fn h
  unfold fs3 at h
  rcases ifb_or h with ⟨h1, h⟩ | ⟨_, h⟩
  · cases h; rw [Nat.eq_of_beq_eq_true h1]; exact .sem (pure_sem p117 tz_lt)
  rcases ifb_or h with ⟨h1, h⟩ | ⟨_, h⟩
  · cases h; rw [Nat.eq_of_beq_eq_true h1]; exact .sem (pure_sem p13 tz_lt)
  exact fs2_ok k fn h
end Go.Av
