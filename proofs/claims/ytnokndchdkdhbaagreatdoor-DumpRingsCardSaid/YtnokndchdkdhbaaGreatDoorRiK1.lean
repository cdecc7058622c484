/- A part of the proof: what a machine of our own over the model's code answers is what the model does; no condition. -/
import Derived.Test.YtnokndchdkdhbaaGreatDoorRiE1
import Derived.Test.YtnokndchdkdhbaaGreatDoorRiF1
import Derived.Test.YtnokndchdkdhbaaGreatDoorRiG1
import Derived.Test.YtnokndchdkdhbaaGreatDoorRiH1
import Derived.Test.YtnokndchdkdhbaaGreatDoorRiI1
import Derived.Test.YtnokndchdkdhbaaGreatDoorRiJ1
set_option linter.all false
open Go Go.Av Go.Proofs
set_option maxRecDepth 1000000
set_option linter.all false
namespace Go.Av
variable [Tok]
theorem c14_3 : allR (checkE Tryz.prog fsRi1 100000 GG TTRi 20 14 (.sl 15)) l14_3 = true := by kernel_rfl
end Go.Av


open Go Go.Av Go.Proofs
set_option maxRecDepth 1000000
set_option linter.all false
namespace Go.Av
variable [Tok]
theorem c14_4 : allR (checkE Tryz.prog fsRi1 100000 GG TTRi 20 14 (.sl 15)) l14_4 = true := by kernel_rfl
end Go.Av


open Go Go.Av Go.Proofs
set_option maxRecDepth 1000000
set_option linter.all false
namespace Go.Av
variable [Tok]
theorem c14_5 : allR (checkE Tryz.prog fsRi1 100000 GG TTRi 20 14 (.sl 15)) l14_5 = true := by kernel_rfl
end Go.Av


open Go Go.Av Go.Proofs
set_option maxRecDepth 1000000
set_option linter.all false
namespace Go.Av
variable [Tok]
theorem c14_6 : allR (checkE Tryz.prog fsRi1 100000 GG TTRi 20 14 (.sl 15)) l14_6 = true := by kernel_rfl
end Go.Av


open Go Go.Av Go.Proofs
set_option maxRecDepth 1000000
set_option linter.all false
namespace Go.Av
variable [Tok]
noncomputable def fsRi2 (k : Nat) : Option AFun := ifb (Nat.beq k 8) (some (.sem (pureF GG TTRi 20 [.flat] (memoF l8)))) (ifb (Nat.beq k 50) (some (.sem (pureF GG TTRi 20 [.flat] (memoF l50)))) (ifb (Nat.beq k 240) (some (.sem (pureF GG TTRi 20 [.flat] (memoF l240)))) (ifb (Nat.beq k 14) (some (.sem (pureF GG TTRi 20 [.sl 10] (memoF l14)))) (fsRi1 k))))
theorem p8 : PureOk Tryz.prog GG 8 (memoF l8) := memo_pure tz_mixed fsRi1_ok (fun e he => by
  exact allAnd (l := l8) (by unfold l8; exact Riapp (Riapp (Riapp (Riapp (Riapp (Riapp (Riapp (Riapp (Riapp (Riapp (Riapp (Riapp (Riapp (Riapp (Riapp (Riapp (Riapp (Riapp (Riapp (Riapp (Riapp (Riapp (Riapp (Riapp (Riapp (Riapp (Riapp (c8_0) c8_1) c8_2) c8_3) c8_4) c8_5) c8_6) c8_7) c8_8) c8_9) c8_10) c8_11) c8_12) c8_13) c8_14) c8_15) c8_16) c8_17) c8_18) c8_19) c8_20) c8_21) c8_22) c8_23) c8_24) c8_25) c8_26) c8_27) e he)
theorem p50 : PureOk Tryz.prog GG 50 (memoF l50) := memo_pure tz_mixed fsRi1_ok (fun e he => by
  exact allAnd (l := l50) (by unfold l50; exact Riapp (Riapp (Riapp (Riapp (Riapp (Riapp (Riapp (Riapp (Riapp (Riapp (Riapp (Riapp (Riapp (Riapp (Riapp (Riapp (Riapp (Riapp (Riapp (Riapp (Riapp (Riapp (Riapp (c50_0) c50_1) c50_2) c50_3) c50_4) c50_5) c50_6) c50_7) c50_8) c50_9) c50_10) c50_11) c50_12) c50_13) c50_14) c50_15) c50_16) c50_17) c50_18) c50_19) c50_20) c50_21) c50_22) c50_23) e he)
theorem p240 : PureOk Tryz.prog GG 240 (memoF l240) := memo_pure tz_mixed fsRi1_ok (fun e he => by
  exact allAnd (l := l240) (by unfold l240; exact Riapp (Riapp (Riapp (Riapp (Riapp (Riapp (Riapp (Riapp (Riapp (Riapp (Riapp (c240_0) c240_1) c240_2) c240_3) c240_4) c240_5) c240_6) c240_7) c240_8) c240_9) c240_10) c240_11) e he)
theorem p14 : PureOk Tryz.prog GG 14 (memoF l14) := memo_pure tz_mixed fsRi1_ok (fun e he => by
  exact allAnd (l := l14) (by unfold l14; exact Riapp (Riapp (Riapp (Riapp (Riapp (Riapp (c14_0) c14_1) c14_2) c14_3) c14_4) c14_5) c14_6) e he)
theorem fsRi2_ok : FsOk Tryz.prog fsRi2 := by
  intro k fn h
  unfold fsRi2 at h
  rcases ifb_or h with ⟨h1, h⟩ | ⟨_, h⟩
  · cases h; rw [Nat.eq_of_beq_eq_true h1]; exact .sem (pure_sem p8 tz_lt)
  rcases ifb_or h with ⟨h1, h⟩ | ⟨_, h⟩
  · cases h; rw [Nat.eq_of_beq_eq_true h1]; exact .sem (pure_sem p50 tz_lt)
  rcases ifb_or h with ⟨h1, h⟩ | ⟨_, h⟩
  · cases h; rw [Nat.eq_of_beq_eq_true h1]; exact .sem (pure_sem p240 tz_lt)
  rcases ifb_or h with ⟨h1, h⟩ | ⟨_, h⟩
  · cases h; rw [Nat.eq_of_beq_eq_true h1]; exact .sem (pure_sem p14 tz_lt)
  exact fsRi1_ok k fn h
end Go.Av


open Go Go.Av Go.Proofs
set_option maxRecDepth 1000000
set_option linter.all false
namespace Go.Av
variable [Tok]
theorem c102_0 : allR (checkE Tryz.prog fsRi2 100000 GG TTRi 20 102 (.flat)) l102_0 = true := by kernel_rfl
end Go.Av


open Go Go.Av Go.Proofs
set_option maxRecDepth 1000000
set_option linter.all false
namespace Go.Av
variable [Tok]
theorem c102_1 : allR (checkE Tryz.prog fsRi2 100000 GG TTRi 20 102 (.flat)) l102_1 = true := by kernel_rfl
end Go.Av


open Go Go.Av Go.Proofs
set_option maxRecDepth 1000000
set_option linter.all false
namespace Go.Av
variable [Tok]
theorem c248_0 : allR (checkE Tryz.prog fsRi2 100000 GG TTRi 20 248 (.flat)) l248_0 = true := by kernel_rfl
end Go.Av


open Go Go.Av Go.Proofs
set_option maxRecDepth 1000000
set_option linter.all false
namespace Go.Av
variable [Tok]
noncomputable def fsRi3 (k : Nat) : Option AFun := ifb (Nat.beq k 102) (some (.sem (pureF GG TTRi 20 [.ag 17] (memoF l102)))) (ifb (Nat.beq k 248) (some (.sem (pureF GG TTRi 20 [.ag 17] (memoF l248)))) (fsRi2 k))
theorem p102 : PureOk Tryz.prog GG 102 (memoF l102) := memo_pure tz_mixed fsRi2_ok (fun e he => by
  exact allAnd (l := l102) (by unfold l102; exact Riapp (c102_0) c102_1) e he)
theorem p248 : PureOk Tryz.prog GG 248 (memoF l248) := memo_pure tz_mixed fsRi2_ok (fun e he => by
  exact allAnd c248_0 e he)
theorem fsRi3_ok : FsOk Tryz.prog fsRi3 := by
  intro k fn h
  unfold fsRi3 at h
  rcases ifb_or h with ⟨h1, h⟩ | ⟨_, h⟩
  · cases h; rw [Nat.eq_of_beq_eq_true h1]; exact .sem (pure_sem p102 tz_lt)
  rcases ifb_or h with ⟨h1, h⟩ | ⟨_, h⟩
  · cases h; rw [Nat.eq_of_beq_eq_true h1]; exact .sem (pure_sem p248 tz_lt)
  exact fsRi2_ok k fn h
end Go.Av


open Go Go.Av Go.Proofs
set_option maxRecDepth 1000000
set_option linter.all false
namespace Go.Av
variable [Tok]
theorem c49_0 : allR (checkE Tryz.prog fsRi3 100000 GG TTRi 20 49 (.tu 16)) l49_0 = true := by kernel_rfl
end Go.Av


open Go Go.Av Go.Proofs
set_option maxRecDepth 1000000
set_option linter.all false
namespace Go.Av
variable [Tok]
theorem c49_1 : allR (checkE Tryz.prog fsRi3 100000 GG TTRi 20 49 (.tu 16)) l49_1 = true := by kernel_rfl
end Go.Av


open Go Go.Av Go.Proofs
set_option maxRecDepth 1000000
set_option linter.all false
namespace Go.Av
variable [Tok]
theorem c49_2 : allR (checkE Tryz.prog fsRi3 100000 GG TTRi 20 49 (.tu 16)) l49_2 = true := by kernel_rfl
end Go.Av


open Go Go.Av Go.Proofs
set_option maxRecDepth 1000000
set_option linter.all false
namespace Go.Av
variable [Tok]
theorem c49_3 : allR (checkE Tryz.prog fsRi3 100000 GG TTRi 20 49 (.tu 16)) l49_3 = true := by kernel_rfl
end Go.Av
