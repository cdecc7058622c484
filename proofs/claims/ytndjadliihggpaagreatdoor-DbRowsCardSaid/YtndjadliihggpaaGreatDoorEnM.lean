/- A part of the proof: what a machine of our own over the model's code answers is what the model does; no condition. -/
import Derived.Test.YtndjadliihggpaaGreatDoorEnB
import Derived.Test.YtndjadliihggpaaGreatDoorEnC
import Derived.Test.YtndjadliihggpaaGreatDoorEnD
import Derived.Test.YtndjadliihggpaaGreatDoorEnE
import Derived.Test.YtndjadliihggpaaGreatDoorEnF
import Derived.Test.YtndjadliihggpaaGreatDoorEnG
import Derived.Test.YtndjadliihggpaaGreatDoorEnH
import Derived.Test.YtndjadliihggpaaGreatDoorEnI
import Derived.Test.YtndjadliihggpaaGreatDoorEnJ
import Derived.Test.YtndjadliihggpaaGreatDoorEnK
import Derived.Test.YtndjadliihggpaaGreatDoorEnL
set_option linter.all false
open Go Go.Av Go.Proofs
set_option maxRecDepth 1000000
set_option linter.all false
namespace Go.Av
variable [Tok]
theorem c12_49 : allT (checkE Tryz.prog fsDr3 100000 GG TTDr 20 12 (.tu 11)) l12_49 = true := by kernel_rfl
end Go.Av


open Go Go.Av Go.Proofs
set_option maxRecDepth 1000000
set_option linter.all false
namespace Go.Av
variable [Tok]
theorem c24_0 : allR (checkE Tryz.prog fsDr3 100000 GG TTDr 20 24 (.tu 14)) l24_0 = true := by kernel_rfl
end Go.Av


open Go Go.Av Go.Proofs
set_option maxRecDepth 1000000
set_option linter.all false
namespace Go.Av
variable [Tok]
noncomputable def fsDr4 (k : Nat) : Option AFun := ifb (Nat.beq k 12) (some (.sem (pureF GG TTDr 20 [.sl 8, .ag 6] (memoU l12)))) (ifb (Nat.beq k 24) (some (.sem (pureF GG TTDr 20 [.sl 13] (memoF l24)))) (fsDr3 k))
theorem p12 : PureOk Tryz.prog GG 12 (memoU l12) := memoU_pure tz_mixed fsDr3_ok (by unfold l12; exact allT_node (allT_node (allT_node (allT_node (allT_node (c12_0) (c12_1)) (c12_2)) (allT_node (allT_node (allT_node (c12_3) (c12_4)) (allT_node (c12_5) (c12_6))) (allT_node (allT_node (c12_7) (c12_8)) (allT_node (c12_9) (allT_node (c12_10) (c12_11)))))) (allT_node (allT_node (allT_node (allT_node (allT_node (c12_12) (c12_13)) (c12_14)) (c12_15)) (allT_node (c12_16) (c12_17))) (allT_node (allT_node (allT_node (c12_18) (c12_19)) (c12_20)) (allT_node (allT_node (c12_21) (c12_22)) (c12_23))))) (allT_node (allT_node (allT_node (allT_node (allT_node (c12_24) (c12_25)) (c12_26)) (allT_node (allT_node (c12_27) (c12_28)) (c12_29))) (allT_node (allT_node (allT_node (c12_30) (c12_31)) (allT_node (allT_node (c12_32) (c12_33)) (c12_34))) (allT_node (allT_node (c12_35) (c12_36)) (allT_node (c12_37) (c12_38))))) (allT_node (allT_node (allT_node (allT_node (c12_39) (c12_40)) (allT_node (c12_41) (c12_42))) (allT_node (c12_43) (allT_node (c12_44) (c12_45)))) (allT_node (allT_node (c12_46) (c12_47)) (allT_node (c12_48) (c12_49))))))
theorem p24 : PureOk Tryz.prog GG 24 (memoF l24) := memo_pure tz_mixed fsDr3_ok (fun e he => by
  exact allAnd c24_0 e he)
theorem fsDr4_ok : FsOk Tryz.prog fsDr4 := by
  intro k fn h
  unfold fsDr4 at h
  rcases ifb_or h with ⟨h1, h⟩ | ⟨_, h⟩
  · cases h; rw [Nat.eq_of_beq_eq_true h1]; exact .sem (pure_sem p12 tz_lt)
  rcases ifb_or h with ⟨h1, h⟩ | ⟨_, h⟩
  · cases h; rw [Nat.eq_of_beq_eq_true h1]; exact .sem (pure_sem p24 tz_lt)
  exact fsDr3_ok k fn h
end Go.Av


open Go Go.Av Go.Proofs
set_option maxRecDepth 1000000
set_option linter.all false
namespace Go.Av
variable [Tok]
theorem c9_0 : allR (checkE Tryz.prog fsDr4 100000 GG TTDr 20 9 (.flat)) l9_0 = true := by kernel_rfl
end Go.Av


open Go Go.Av Go.Proofs
set_option maxRecDepth 1000000
set_option linter.all false
namespace Go.Av
variable [Tok]
noncomputable def fsDr5 (k : Nat) : Option AFun := ifb (Nat.beq k 9) (some (.sem (pureF GG TTDr 20 [] (memoF l9)))) (fsDr4 k)
theorem p9 : PureOk Tryz.prog GG 9 (memoF l9) := memo_pure tz_mixed fsDr4_ok (fun e he => by
  exact allAnd c9_0 e he)
theorem fsDr5_ok : FsOk Tryz.prog fsDr5 := by
  intro k fn h
  unfold fsDr5 at h
  rcases ifb_or h with ⟨h1, h⟩ | ⟨_, h⟩
  · cases h; rw [Nat.eq_of_beq_eq_true h1]; exact .sem (pure_sem p9 tz_lt)
  exact fsDr4_ok k fn h
end Go.Av
