/- A part of the proof: what a machine of our own over the model's code answers is what the model does; no condition. -/
import Derived.Test.YtglejgncbghngaaGreatDoorAwB
import Derived.Test.YtglejgncbghngaaGreatDoorProg
import Derived.KernelRfl
import Derived.WalkKit
import Derived.Lib.Hide
set_option linter.all false
open Go Go.Av Go.Proofs
set_option maxRecDepth 1000000
namespace Go.Av
variable [Tok]
theorem tz_mixed : Tryz.prog.follows .mixedOrders = true := by kernel_rfl
theorem tz_gor : noGor Tryz.prog = true := by kernel_rfl
theorem tz_cmp : Bare Tryz.prog 231 Extern.BytealgCompare.compare := ⟨_, Tryz.func231, by kernel_rfl, by kernel_rfl, by kernel_rfl, by kernel_rfl⟩
theorem tz_idx : Bare Tryz.prog 638 Extern.BytealgIndexByte.indexByte := ⟨_, Tryz.func638, by kernel_rfl, by kernel_rfl, by kernel_rfl, by kernel_rfl⟩
noncomputable def fsB (k : Nat) : Option AFun := ifb (Nat.beq k 231) (some (.sem cmpA)) (ifb (Nat.beq k 638) (some (.sem idxA)) (ownF Tryz.prog k))
theorem fsB_ok : FsOk Tryz.prog fsB := by
  intro k fn h
  unfold fsB at h
  rcases ifb_or h with ⟨h1, h⟩ | ⟨_, h⟩
  · cases h; rw [Nat.eq_of_beq_eq_true h1]; exact .sem (cmp_sem tz_cmp)
  rcases ifb_or h with ⟨h1, h⟩ | ⟨_, h⟩
  · cases h; rw [Nat.eq_of_beq_eq_true h1]; exact .sem (idx_sem tz_idx)
  exact ownF_ok tz_gor h
def asc : List Nat := (List.range 256).map fun i => if i == 9 || i == 10 || i == 11 || i == 12 || i == 13 || i == 32 then 1 else 0
def GG : Nat × List Nat := (1, asc)
theorem tz_lt : GG.1 < Tryz.prog.globals.size := of_decide_eq_true (by kernel_rfl)
end Go.Av


namespace Go.Proofs
open Go
theorem tmod_lt' (n m : Int) (hm : 0 < m) : -m < n.tmod m ∧ n.tmod m < m := by
  constructor
  · have := Int.lt_tmod_of_pos n hm; omega
  · exact Int.tmod_lt_of_pos n hm
theorem emod_tmod (n m : Int) : n % m = (n.tmod m) % m := by
  conv => lhs; rw [← Int.mul_tdiv_add_tmod n m]
  rw [Int.add_comm, Int.add_mul_emod_self_left]
theorem within_any10 (n m : Int) (w : World) (hm : 0 < m) (hm2 : m < 1000000) (hn1 : -9223372036854775808 ≤ n) (hn2 : n < 9223372036854775808) :
    Calls Tryz.prog 10 #[.int .i64 n, .int .i64 m] w fun e w' => e = .returned (.int .i64 (n % m)) ∧ w' = w := by
  obtain ⟨hl, hu⟩ := tmod_lt' n m hm
  have he := emod_tmod n m
  have HE := Lib.hid he
  clear he
  go_enter Tryz.func10, Tryz.ntmps10
  go_wp2
  · go_ret
    refine ⟨?_, rfl⟩
    have h0 : n.tmod m < 0 := by assumption
    have e2 : n % m = n.tmod m + m := by
      rw [HE.out, ← Int.add_emod_right, Int.emod_eq_of_lt (by omega) (by omega)]
    rw [e2]; rfl
  · go_ret
    refine ⟨?_, rfl⟩
    have h0 : 0 ≤ n.tmod m := by assumption
    rw [HE.out, Int.emod_eq_of_lt h0 hu]; rfl
open Go.Av in
theorem within_ok10 : WithinOk Tryz.prog 10 := by
  letI := tokL []
  exact ⟨Go.Av.enters_of tz_gor Tryz.func10 (by kernel_rfl), fun n m w h1 h2 h3 => within_any10 n m w h1 h2 h3.1 h3.2⟩
theorem within_any18 (n m : Int) (w : World) (hm : 0 < m) (hm2 : m < 1000000) (hn1 : -9223372036854775808 ≤ n) (hn2 : n < 9223372036854775808) :
    Calls Tryz.prog 18 #[.int .i64 n, .int .i64 m] w fun e w' => e = .returned (.int .i64 (n % m)) ∧ w' = w := by
  obtain ⟨hl, hu⟩ := tmod_lt' n m hm
  have he := emod_tmod n m
  have HE := Lib.hid he
  clear he
  go_enter Tryz.func18, Tryz.ntmps18
  go_wp2
  · go_ret
    refine ⟨?_, rfl⟩
    have h0 : n.tmod m < 0 := by assumption
    have e2 : n % m = n.tmod m + m := by
      rw [HE.out, ← Int.add_emod_right, Int.emod_eq_of_lt (by omega) (by omega)]
    rw [e2]; rfl
  · go_ret
    refine ⟨?_, rfl⟩
    have h0 : 0 ≤ n.tmod m := by assumption
    rw [HE.out, Int.emod_eq_of_lt h0 hu]; rfl
open Go.Av in
theorem within_ok18 : WithinOk Tryz.prog 18 := by
  letI := tokL []
  exact ⟨Go.Av.enters_of tz_gor Tryz.func18 (by kernel_rfl), fun n m w h1 h2 h3 => within_any18 n m w h1 h2 h3.1 h3.2⟩
theorem within_any22 (n m : Int) (w : World) (hm : 0 < m) (hm2 : m < 1000000) (hn1 : -9223372036854775808 ≤ n) (hn2 : n < 9223372036854775808) :
    Calls Tryz.prog 22 #[.int .i64 n, .int .i64 m] w fun e w' => e = .returned (.int .i64 (n % m)) ∧ w' = w := by
  obtain ⟨hl, hu⟩ := tmod_lt' n m hm
  have he := emod_tmod n m
  have HE := Lib.hid he
  clear he
  go_enter Tryz.func22, Tryz.ntmps22
  go_wp2
  · go_ret
    refine ⟨?_, rfl⟩
    have h0 : n.tmod m < 0 := by assumption
    have e2 : n % m = n.tmod m + m := by
      rw [HE.out, ← Int.add_emod_right, Int.emod_eq_of_lt (by omega) (by omega)]
    rw [e2]; rfl
  · go_ret
    refine ⟨?_, rfl⟩
    have h0 : 0 ≤ n.tmod m := by assumption
    rw [HE.out, Int.emod_eq_of_lt h0 hu]; rfl
open Go.Av in
theorem within_ok22 : WithinOk Tryz.prog 22 := by
  letI := tokL []
  exact ⟨Go.Av.enters_of tz_gor Tryz.func22 (by kernel_rfl), fun n m w h1 h2 h3 => within_any22 n m w h1 h2 h3.1 h3.2⟩
end Go.Proofs
