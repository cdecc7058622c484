/- A part of the proof: what a machine of our own over the model's code answers is what the model does; no condition. -/
import Derived.Test.YtglejgncbghngaaGreatDoorIoB
import Derived.Test.YtglejgncbghngaaGreatDoorEnG
set_option linter.all false
open Go Go.Av Go.Proofs
set_option maxRecDepth 1000000
set_option linter.all false
namespace Go.Av
theorem y11_4_5 [Tok] : allR (checkIk Tryz.prog fsAb3 100000 GG 11) i11_4_5 = true := by kernel_rfl
end Go.Av


open Go Go.Av Go.Proofs
set_option maxRecDepth 1000000
set_option linter.all false
namespace Go.Av
theorem y11_4_6 [Tok] : allR (checkIk Tryz.prog fsAb3 100000 GG 11) i11_4_6 = true := by kernel_rfl
end Go.Av


open Go Go.Av Go.Proofs
set_option maxRecDepth 1000000
set_option linter.all false
namespace Go.Av
noncomputable def fsAbI4 [Tok] (k : Nat) : Option AFun := ifb (Nat.beq k 8) (some (.sem (ioKOr GG [(0,0),(1,1),(2,0),(3,0)] i8_4 Tryz.prog fsAb3 100000 8))) (ifb (Nat.beq k 11) (some (.sem (ioKOr GG [(0,0),(1,1),(2,0),(3,0)] i11_4 Tryz.prog fsAb3 100000 11))) (fsAb4 k))
theorem fsAbI4_ok [Tok] : FsOk Tryz.prog fsAbI4 := by
  intro k fn h
  unfold fsAbI4 at h
  rcases ifb_or h with ⟨h1, h⟩ | ⟨_, h⟩
  · cases h; rw [Nat.eq_of_beq_eq_true h1]; exact .sem (ioKOr_sem tz_mixed fsAb3_ok tz_lt (fun e he => allAnd (l := i8_4) (by unfold i8_4; exact Abapp (Abapp (y8_4_0) y8_4_1) y8_4_2) e he))
  rcases ifb_or h with ⟨h1, h⟩ | ⟨_, h⟩
  · cases h; rw [Nat.eq_of_beq_eq_true h1]; exact .sem (ioKOr_sem tz_mixed fsAb3_ok tz_lt (fun e he => allAnd (l := i11_4) (by unfold i11_4; exact Abapp (Abapp (Abapp (Abapp (Abapp (Abapp (y11_4_0) y11_4_1) y11_4_2) y11_4_3) y11_4_4) y11_4_5) y11_4_6) e he))
  exact fsAb4_ok k fn h
end Go.Av
