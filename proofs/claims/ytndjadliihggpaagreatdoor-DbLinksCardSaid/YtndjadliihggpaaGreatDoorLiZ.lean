/- Whatever the inputs, DbLinks of federationlaw5 returns true and leaves its inputs as they were; the listed variables of Go's library hold what the program's text lays (the card ties them). -/
import Derived.Test.YtndjadliihggpaaGreatDoorLiF
import Derived.Test.YtndjadliihggpaaGreatDoorLiR
set_option linter.all false
open Go Go.Av Go.Proofs
set_option maxRecDepth 1000000
namespace Go.Av
theorem fsT_ok (n0 n1 : Int) (l : List Rem) (hl : ∀ e ∈ l, 0 < e.m ∧ e.m < 1000000 ∧ inI64 (List.getD [n0, n1] e.k 0) ∧ List.getD [n0, n1] e.k 0 % e.m = e.r) : letI := tokL [n0, n1]; FsOk Tryz.prog (fsT l) := by
  letI := tokL [n0, n1]
  intro k fn h
  unfold fsT at h
  rcases ifb_or h with ⟨h1, h⟩ | ⟨_, h⟩
  · cases h; rw [Nat.eq_of_beq_eq_true h1]; exact .sem (within_sem within_ok hl)
  exact fs5_ok k fn h
theorem law_run (n0 n1 : Int) (b0 : Bool) (h0 : inI64 n0) (h1 : inI64 n1) {W : World} (hW : GlobW Tryz.prog GG W) :
    Calls Tryz.prog 6 #[.int .i64 n0, .int .i64 n1, .bool b0] W fun e W' => e = .returned (.bool true) ∧ Kept W W' := by
  letI := tokL [n0, n1]
  have hen : ∀ (args : Array Value) (w : World), (callFunc 6 args).run Tryz.prog w = .ok (.enter 6 args) w := enters_of tz_gor Tryz.func6 (by kernel_rfl)
  have c0 : n0 % 5 = 0 ∨ n0 % 5 = 1 ∨ n0 % 5 = 2 ∨ n0 % 5 = 3 ∨ n0 % 5 = 4 := by omega
  have c1 : n1 % 5 = 0 ∨ n1 % 5 = 1 ∨ n1 % 5 = 2 ∨ n1 % 5 = 3 ∨ n1 % 5 = 4 := by omega
  rcases c0 with g0 | g0 | g0 | g0 | g0
  ·
    rcases c1 with g1 | g1 | g1 | g1 | g1
    ·
      cases b0 with
      | true =>
        exact top_run tz_mixed (fsT_ok n0 n1 [⟨0, 5, 0⟩, ⟨1, 5, 0⟩] (fun e he => by simp only [List.mem_cons, List.mem_nil_iff, or_false] at he; rcases he with rfl | rfl <;> first | exact ⟨by decide, by decide, h0, g0⟩ | exact ⟨by decide, by decide, h1, g1⟩)) t_0 (fun _ => VRL.cons (by simp only [VR]; rfl) (VRL.cons (by simp only [VR]; rfl) (VRL.cons (by simp only [VR]) (VRL.nil)))) hen hW
      | false =>
        exact top_run tz_mixed (fsT_ok n0 n1 [⟨0, 5, 0⟩, ⟨1, 5, 0⟩] (fun e he => by simp only [List.mem_cons, List.mem_nil_iff, or_false] at he; rcases he with rfl | rfl <;> first | exact ⟨by decide, by decide, h0, g0⟩ | exact ⟨by decide, by decide, h1, g1⟩)) t_1 (fun _ => VRL.cons (by simp only [VR]; rfl) (VRL.cons (by simp only [VR]; rfl) (VRL.cons (by simp only [VR]) (VRL.nil)))) hen hW
    ·
      cases b0 with
      | true =>
        exact top_run tz_mixed (fsT_ok n0 n1 [⟨0, 5, 0⟩, ⟨1, 5, 1⟩] (fun e he => by simp only [List.mem_cons, List.mem_nil_iff, or_false] at he; rcases he with rfl | rfl <;> first | exact ⟨by decide, by decide, h0, g0⟩ | exact ⟨by decide, by decide, h1, g1⟩)) t_2 (fun _ => VRL.cons (by simp only [VR]; rfl) (VRL.cons (by simp only [VR]; rfl) (VRL.cons (by simp only [VR]) (VRL.nil)))) hen hW
      | false =>
        exact top_run tz_mixed (fsT_ok n0 n1 [⟨0, 5, 0⟩, ⟨1, 5, 1⟩] (fun e he => by simp only [List.mem_cons, List.mem_nil_iff, or_false] at he; rcases he with rfl | rfl <;> first | exact ⟨by decide, by decide, h0, g0⟩ | exact ⟨by decide, by decide, h1, g1⟩)) t_3 (fun _ => VRL.cons (by simp only [VR]; rfl) (VRL.cons (by simp only [VR]; rfl) (VRL.cons (by simp only [VR]) (VRL.nil)))) hen hW
    ·
      cases b0 with
      | true =>
        exact top_run tz_mixed (fsT_ok n0 n1 [⟨0, 5, 0⟩, ⟨1, 5, 2⟩] (fun e he => by simp only [List.mem_cons, List.mem_nil_iff, or_false] at he; rcases he with rfl | rfl <;> first | exact ⟨by decide, by decide, h0, g0⟩ | exact ⟨by decide, by decide, h1, g1⟩)) t_4 (fun _ => VRL.cons (by simp only [VR]; rfl) (VRL.cons (by simp only [VR]; rfl) (VRL.cons (by simp only [VR]) (VRL.nil)))) hen hW
      | false =>
        exact top_run tz_mixed (fsT_ok n0 n1 [⟨0, 5, 0⟩, ⟨1, 5, 2⟩] (fun e he => by simp only [List.mem_cons, List.mem_nil_iff, or_false] at he; rcases he with rfl | rfl <;> first | exact ⟨by decide, by decide, h0, g0⟩ | exact ⟨by decide, by decide, h1, g1⟩)) t_5 (fun _ => VRL.cons (by simp only [VR]; rfl) (VRL.cons (by simp only [VR]; rfl) (VRL.cons (by simp only [VR]) (VRL.nil)))) hen hW
    ·
      cases b0 with
      | true =>
        exact top_run tz_mixed (fsT_ok n0 n1 [⟨0, 5, 0⟩, ⟨1, 5, 3⟩] (fun e he => by simp only [List.mem_cons, List.mem_nil_iff, or_false] at he; rcases he with rfl | rfl <;> first | exact ⟨by decide, by decide, h0, g0⟩ | exact ⟨by decide, by decide, h1, g1⟩)) t_6 (fun _ => VRL.cons (by simp only [VR]; rfl) (VRL.cons (by simp only [VR]; rfl) (VRL.cons (by simp only [VR]) (VRL.nil)))) hen hW
      | false =>
        exact top_run tz_mixed (fsT_ok n0 n1 [⟨0, 5, 0⟩, ⟨1, 5, 3⟩] (fun e he => by simp only [List.mem_cons, List.mem_nil_iff, or_false] at he; rcases he with rfl | rfl <;> first | exact ⟨by decide, by decide, h0, g0⟩ | exact ⟨by decide, by decide, h1, g1⟩)) t_7 (fun _ => VRL.cons (by simp only [VR]; rfl) (VRL.cons (by simp only [VR]; rfl) (VRL.cons (by simp only [VR]) (VRL.nil)))) hen hW
    ·
      cases b0 with
      | true =>
        exact top_run tz_mixed (fsT_ok n0 n1 [⟨0, 5, 0⟩, ⟨1, 5, 4⟩] (fun e he => by simp only [List.mem_cons, List.mem_nil_iff, or_false] at he; rcases he with rfl | rfl <;> first | exact ⟨by decide, by decide, h0, g0⟩ | exact ⟨by decide, by decide, h1, g1⟩)) t_8 (fun _ => VRL.cons (by simp only [VR]; rfl) (VRL.cons (by simp only [VR]; rfl) (VRL.cons (by simp only [VR]) (VRL.nil)))) hen hW
      | false =>
        exact top_run tz_mixed (fsT_ok n0 n1 [⟨0, 5, 0⟩, ⟨1, 5, 4⟩] (fun e he => by simp only [List.mem_cons, List.mem_nil_iff, or_false] at he; rcases he with rfl | rfl <;> first | exact ⟨by decide, by decide, h0, g0⟩ | exact ⟨by decide, by decide, h1, g1⟩)) t_9 (fun _ => VRL.cons (by simp only [VR]; rfl) (VRL.cons (by simp only [VR]; rfl) (VRL.cons (by simp only [VR]) (VRL.nil)))) hen hW
  ·
    rcases c1 with g1 | g1 | g1 | g1 | g1
    ·
      cases b0 with
      | true =>
        exact top_run tz_mixed (fsT_ok n0 n1 [⟨0, 5, 1⟩, ⟨1, 5, 0⟩] (fun e he => by simp only [List.mem_cons, List.mem_nil_iff, or_false] at he; rcases he with rfl | rfl <;> first | exact ⟨by decide, by decide, h0, g0⟩ | exact ⟨by decide, by decide, h1, g1⟩)) t_10 (fun _ => VRL.cons (by simp only [VR]; rfl) (VRL.cons (by simp only [VR]; rfl) (VRL.cons (by simp only [VR]) (VRL.nil)))) hen hW
      | false =>
        exact top_run tz_mixed (fsT_ok n0 n1 [⟨0, 5, 1⟩, ⟨1, 5, 0⟩] (fun e he => by simp only [List.mem_cons, List.mem_nil_iff, or_false] at he; rcases he with rfl | rfl <;> first | exact ⟨by decide, by decide, h0, g0⟩ | exact ⟨by decide, by decide, h1, g1⟩)) t_11 (fun _ => VRL.cons (by simp only [VR]; rfl) (VRL.cons (by simp only [VR]; rfl) (VRL.cons (by simp only [VR]) (VRL.nil)))) hen hW
    ·
      cases b0 with
      | true =>
        exact top_run tz_mixed (fsT_ok n0 n1 [⟨0, 5, 1⟩, ⟨1, 5, 1⟩] (fun e he => by simp only [List.mem_cons, List.mem_nil_iff, or_false] at he; rcases he with rfl | rfl <;> first | exact ⟨by decide, by decide, h0, g0⟩ | exact ⟨by decide, by decide, h1, g1⟩)) t_12 (fun _ => VRL.cons (by simp only [VR]; rfl) (VRL.cons (by simp only [VR]; rfl) (VRL.cons (by simp only [VR]) (VRL.nil)))) hen hW
      | false =>
        exact top_run tz_mixed (fsT_ok n0 n1 [⟨0, 5, 1⟩, ⟨1, 5, 1⟩] (fun e he => by simp only [List.mem_cons, List.mem_nil_iff, or_false] at he; rcases he with rfl | rfl <;> first | exact ⟨by decide, by decide, h0, g0⟩ | exact ⟨by decide, by decide, h1, g1⟩)) t_13 (fun _ => VRL.cons (by simp only [VR]; rfl) (VRL.cons (by simp only [VR]; rfl) (VRL.cons (by simp only [VR]) (VRL.nil)))) hen hW
    ·
      cases b0 with
      | true =>
        exact top_run tz_mixed (fsT_ok n0 n1 [⟨0, 5, 1⟩, ⟨1, 5, 2⟩] (fun e he => by simp only [List.mem_cons, List.mem_nil_iff, or_false] at he; rcases he with rfl | rfl <;> first | exact ⟨by decide, by decide, h0, g0⟩ | exact ⟨by decide, by decide, h1, g1⟩)) t_14 (fun _ => VRL.cons (by simp only [VR]; rfl) (VRL.cons (by simp only [VR]; rfl) (VRL.cons (by simp only [VR]) (VRL.nil)))) hen hW
      | false =>
        exact top_run tz_mixed (fsT_ok n0 n1 [⟨0, 5, 1⟩, ⟨1, 5, 2⟩] (fun e he => by simp only [List.mem_cons, List.mem_nil_iff, or_false] at he; rcases he with rfl | rfl <;> first | exact ⟨by decide, by decide, h0, g0⟩ | exact ⟨by decide, by decide, h1, g1⟩)) t_15 (fun _ => VRL.cons (by simp only [VR]; rfl) (VRL.cons (by simp only [VR]; rfl) (VRL.cons (by simp only [VR]) (VRL.nil)))) hen hW
    ·
      cases b0 with
      | true =>
        exact top_run tz_mixed (fsT_ok n0 n1 [⟨0, 5, 1⟩, ⟨1, 5, 3⟩] (fun e he => by simp only [List.mem_cons, List.mem_nil_iff, or_false] at he; rcases he with rfl | rfl <;> first | exact ⟨by decide, by decide, h0, g0⟩ | exact ⟨by decide, by decide, h1, g1⟩)) t_16 (fun _ => VRL.cons (by simp only [VR]; rfl) (VRL.cons (by simp only [VR]; rfl) (VRL.cons (by simp only [VR]) (VRL.nil)))) hen hW
      | false =>
        exact top_run tz_mixed (fsT_ok n0 n1 [⟨0, 5, 1⟩, ⟨1, 5, 3⟩] (fun e he => by simp only [List.mem_cons, List.mem_nil_iff, or_false] at he; rcases he with rfl | rfl <;> first | exact ⟨by decide, by decide, h0, g0⟩ | exact ⟨by decide, by decide, h1, g1⟩)) t_17 (fun _ => VRL.cons (by simp only [VR]; rfl) (VRL.cons (by simp only [VR]; rfl) (VRL.cons (by simp only [VR]) (VRL.nil)))) hen hW
    ·
      cases b0 with
      | true =>
        exact top_run tz_mixed (fsT_ok n0 n1 [⟨0, 5, 1⟩, ⟨1, 5, 4⟩] (fun e he => by simp only [List.mem_cons, List.mem_nil_iff, or_false] at he; rcases he with rfl | rfl <;> first | exact ⟨by decide, by decide, h0, g0⟩ | exact ⟨by decide, by decide, h1, g1⟩)) t_18 (fun _ => VRL.cons (by simp only [VR]; rfl) (VRL.cons (by simp only [VR]; rfl) (VRL.cons (by simp only [VR]) (VRL.nil)))) hen hW
      | false =>
        exact top_run tz_mixed (fsT_ok n0 n1 [⟨0, 5, 1⟩, ⟨1, 5, 4⟩] (fun e he => by simp only [List.mem_cons, List.mem_nil_iff, or_false] at he; rcases he with rfl | rfl <;> first | exact ⟨by decide, by decide, h0, g0⟩ | exact ⟨by decide, by decide, h1, g1⟩)) t_19 (fun _ => VRL.cons (by simp only [VR]; rfl) (VRL.cons (by simp only [VR]; rfl) (VRL.cons (by simp only [VR]) (VRL.nil)))) hen hW
  ·
    rcases c1 with g1 | g1 | g1 | g1 | g1
    ·
      cases b0 with
      | true =>
        exact top_run tz_mixed (fsT_ok n0 n1 [⟨0, 5, 2⟩, ⟨1, 5, 0⟩] (fun e he => by simp only [List.mem_cons, List.mem_nil_iff, or_false] at he; rcases he with rfl | rfl <;> first | exact ⟨by decide, by decide, h0, g0⟩ | exact ⟨by decide, by decide, h1, g1⟩)) t_20 (fun _ => VRL.cons (by simp only [VR]; rfl) (VRL.cons (by simp only [VR]; rfl) (VRL.cons (by simp only [VR]) (VRL.nil)))) hen hW
      | false =>
        exact top_run tz_mixed (fsT_ok n0 n1 [⟨0, 5, 2⟩, ⟨1, 5, 0⟩] (fun e he => by simp only [List.mem_cons, List.mem_nil_iff, or_false] at he; rcases he with rfl | rfl <;> first | exact ⟨by decide, by decide, h0, g0⟩ | exact ⟨by decide, by decide, h1, g1⟩)) t_21 (fun _ => VRL.cons (by simp only [VR]; rfl) (VRL.cons (by simp only [VR]; rfl) (VRL.cons (by simp only [VR]) (VRL.nil)))) hen hW
    ·
      cases b0 with
      | true =>
        exact top_run tz_mixed (fsT_ok n0 n1 [⟨0, 5, 2⟩, ⟨1, 5, 1⟩] (fun e he => by simp only [List.mem_cons, List.mem_nil_iff, or_false] at he; rcases he with rfl | rfl <;> first | exact ⟨by decide, by decide, h0, g0⟩ | exact ⟨by decide, by decide, h1, g1⟩)) t_22 (fun _ => VRL.cons (by simp only [VR]; rfl) (VRL.cons (by simp only [VR]; rfl) (VRL.cons (by simp only [VR]) (VRL.nil)))) hen hW
      | false =>
        exact top_run tz_mixed (fsT_ok n0 n1 [⟨0, 5, 2⟩, ⟨1, 5, 1⟩] (fun e he => by simp only [List.mem_cons, List.mem_nil_iff, or_false] at he; rcases he with rfl | rfl <;> first | exact ⟨by decide, by decide, h0, g0⟩ | exact ⟨by decide, by decide, h1, g1⟩)) t_23 (fun _ => VRL.cons (by simp only [VR]; rfl) (VRL.cons (by simp only [VR]; rfl) (VRL.cons (by simp only [VR]) (VRL.nil)))) hen hW
    ·
      cases b0 with
      | true =>
        exact top_run tz_mixed (fsT_ok n0 n1 [⟨0, 5, 2⟩, ⟨1, 5, 2⟩] (fun e he => by simp only [List.mem_cons, List.mem_nil_iff, or_false] at he; rcases he with rfl | rfl <;> first | exact ⟨by decide, by decide, h0, g0⟩ | exact ⟨by decide, by decide, h1, g1⟩)) t_24 (fun _ => VRL.cons (by simp only [VR]; rfl) (VRL.cons (by simp only [VR]; rfl) (VRL.cons (by simp only [VR]) (VRL.nil)))) hen hW
      | false =>
        exact top_run tz_mixed (fsT_ok n0 n1 [⟨0, 5, 2⟩, ⟨1, 5, 2⟩] (fun e he => by simp only [List.mem_cons, List.mem_nil_iff, or_false] at he; rcases he with rfl | rfl <;> first | exact ⟨by decide, by decide, h0, g0⟩ | exact ⟨by decide, by decide, h1, g1⟩)) t_25 (fun _ => VRL.cons (by simp only [VR]; rfl) (VRL.cons (by simp only [VR]; rfl) (VRL.cons (by simp only [VR]) (VRL.nil)))) hen hW
    ·
      cases b0 with
      | true =>
        exact top_run tz_mixed (fsT_ok n0 n1 [⟨0, 5, 2⟩, ⟨1, 5, 3⟩] (fun e he => by simp only [List.mem_cons, List.mem_nil_iff, or_false] at he; rcases he with rfl | rfl <;> first | exact ⟨by decide, by decide, h0, g0⟩ | exact ⟨by decide, by decide, h1, g1⟩)) t_26 (fun _ => VRL.cons (by simp only [VR]; rfl) (VRL.cons (by simp only [VR]; rfl) (VRL.cons (by simp only [VR]) (VRL.nil)))) hen hW
      | false =>
        exact top_run tz_mixed (fsT_ok n0 n1 [⟨0, 5, 2⟩, ⟨1, 5, 3⟩] (fun e he => by simp only [List.mem_cons, List.mem_nil_iff, or_false] at he; rcases he with rfl | rfl <;> first | exact ⟨by decide, by decide, h0, g0⟩ | exact ⟨by decide, by decide, h1, g1⟩)) t_27 (fun _ => VRL.cons (by simp only [VR]; rfl) (VRL.cons (by simp only [VR]; rfl) (VRL.cons (by simp only [VR]) (VRL.nil)))) hen hW
    ·
      cases b0 with
      | true =>
        exact top_run tz_mixed (fsT_ok n0 n1 [⟨0, 5, 2⟩, ⟨1, 5, 4⟩] (fun e he => by simp only [List.mem_cons, List.mem_nil_iff, or_false] at he; rcases he with rfl | rfl <;> first | exact ⟨by decide, by decide, h0, g0⟩ | exact ⟨by decide, by decide, h1, g1⟩)) t_28 (fun _ => VRL.cons (by simp only [VR]; rfl) (VRL.cons (by simp only [VR]; rfl) (VRL.cons (by simp only [VR]) (VRL.nil)))) hen hW
      | false =>
        exact top_run tz_mixed (fsT_ok n0 n1 [⟨0, 5, 2⟩, ⟨1, 5, 4⟩] (fun e he => by simp only [List.mem_cons, List.mem_nil_iff, or_false] at he; rcases he with rfl | rfl <;> first | exact ⟨by decide, by decide, h0, g0⟩ | exact ⟨by decide, by decide, h1, g1⟩)) t_29 (fun _ => VRL.cons (by simp only [VR]; rfl) (VRL.cons (by simp only [VR]; rfl) (VRL.cons (by simp only [VR]) (VRL.nil)))) hen hW
  ·
    rcases c1 with g1 | g1 | g1 | g1 | g1
    ·
      cases b0 with
      | true =>
        exact top_run tz_mixed (fsT_ok n0 n1 [⟨0, 5, 3⟩, ⟨1, 5, 0⟩] (fun e he => by simp only [List.mem_cons, List.mem_nil_iff, or_false] at he; rcases he with rfl | rfl <;> first | exact ⟨by decide, by decide, h0, g0⟩ | exact ⟨by decide, by decide, h1, g1⟩)) t_30 (fun _ => VRL.cons (by simp only [VR]; rfl) (VRL.cons (by simp only [VR]; rfl) (VRL.cons (by simp only [VR]) (VRL.nil)))) hen hW
      | false =>
        exact top_run tz_mixed (fsT_ok n0 n1 [⟨0, 5, 3⟩, ⟨1, 5, 0⟩] (fun e he => by simp only [List.mem_cons, List.mem_nil_iff, or_false] at he; rcases he with rfl | rfl <;> first | exact ⟨by decide, by decide, h0, g0⟩ | exact ⟨by decide, by decide, h1, g1⟩)) t_31 (fun _ => VRL.cons (by simp only [VR]; rfl) (VRL.cons (by simp only [VR]; rfl) (VRL.cons (by simp only [VR]) (VRL.nil)))) hen hW
    ·
      cases b0 with
      | true =>
        exact top_run tz_mixed (fsT_ok n0 n1 [⟨0, 5, 3⟩, ⟨1, 5, 1⟩] (fun e he => by simp only [List.mem_cons, List.mem_nil_iff, or_false] at he; rcases he with rfl | rfl <;> first | exact ⟨by decide, by decide, h0, g0⟩ | exact ⟨by decide, by decide, h1, g1⟩)) t_32 (fun _ => VRL.cons (by simp only [VR]; rfl) (VRL.cons (by simp only [VR]; rfl) (VRL.cons (by simp only [VR]) (VRL.nil)))) hen hW
      | false =>
        exact top_run tz_mixed (fsT_ok n0 n1 [⟨0, 5, 3⟩, ⟨1, 5, 1⟩] (fun e he => by simp only [List.mem_cons, List.mem_nil_iff, or_false] at he; rcases he with rfl | rfl <;> first | exact ⟨by decide, by decide, h0, g0⟩ | exact ⟨by decide, by decide, h1, g1⟩)) t_33 (fun _ => VRL.cons (by simp only [VR]; rfl) (VRL.cons (by simp only [VR]; rfl) (VRL.cons (by simp only [VR]) (VRL.nil)))) hen hW
    ·
      cases b0 with
      | true =>
        exact top_run tz_mixed (fsT_ok n0 n1 [⟨0, 5, 3⟩, ⟨1, 5, 2⟩] (fun e he => by simp only [List.mem_cons, List.mem_nil_iff, or_false] at he; rcases he with rfl | rfl <;> first | exact ⟨by decide, by decide, h0, g0⟩ | exact ⟨by decide, by decide, h1, g1⟩)) t_34 (fun _ => VRL.cons (by simp only [VR]; rfl) (VRL.cons (by simp only [VR]; rfl) (VRL.cons (by simp only [VR]) (VRL.nil)))) hen hW
      | false =>
        exact top_run tz_mixed (fsT_ok n0 n1 [⟨0, 5, 3⟩, ⟨1, 5, 2⟩] (fun e he => by simp only [List.mem_cons, List.mem_nil_iff, or_false] at he; rcases he with rfl | rfl <;> first | exact ⟨by decide, by decide, h0, g0⟩ | exact ⟨by decide, by decide, h1, g1⟩)) t_35 (fun _ => VRL.cons (by simp only [VR]; rfl) (VRL.cons (by simp only [VR]; rfl) (VRL.cons (by simp only [VR]) (VRL.nil)))) hen hW
    ·
      cases b0 with
      | true =>
        exact top_run tz_mixed (fsT_ok n0 n1 [⟨0, 5, 3⟩, ⟨1, 5, 3⟩] (fun e he => by simp only [List.mem_cons, List.mem_nil_iff, or_false] at he; rcases he with rfl | rfl <;> first | exact ⟨by decide, by decide, h0, g0⟩ | exact ⟨by decide, by decide, h1, g1⟩)) t_36 (fun _ => VRL.cons (by simp only [VR]; rfl) (VRL.cons (by simp only [VR]; rfl) (VRL.cons (by simp only [VR]) (VRL.nil)))) hen hW
      | false =>
        exact top_run tz_mixed (fsT_ok n0 n1 [⟨0, 5, 3⟩, ⟨1, 5, 3⟩] (fun e he => by simp only [List.mem_cons, List.mem_nil_iff, or_false] at he; rcases he with rfl | rfl <;> first | exact ⟨by decide, by decide, h0, g0⟩ | exact ⟨by decide, by decide, h1, g1⟩)) t_37 (fun _ => VRL.cons (by simp only [VR]; rfl) (VRL.cons (by simp only [VR]; rfl) (VRL.cons (by simp only [VR]) (VRL.nil)))) hen hW
    ·
      cases b0 with
      | true =>
        exact top_run tz_mixed (fsT_ok n0 n1 [⟨0, 5, 3⟩, ⟨1, 5, 4⟩] (fun e he => by simp only [List.mem_cons, List.mem_nil_iff, or_false] at he; rcases he with rfl | rfl <;> first | exact ⟨by decide, by decide, h0, g0⟩ | exact ⟨by decide, by decide, h1, g1⟩)) t_38 (fun _ => VRL.cons (by simp only [VR]; rfl) (VRL.cons (by simp only [VR]; rfl) (VRL.cons (by simp only [VR]) (VRL.nil)))) hen hW
      | false =>
        exact top_run tz_mixed (fsT_ok n0 n1 [⟨0, 5, 3⟩, ⟨1, 5, 4⟩] (fun e he => by simp only [List.mem_cons, List.mem_nil_iff, or_false] at he; rcases he with rfl | rfl <;> first | exact ⟨by decide, by decide, h0, g0⟩ | exact ⟨by decide, by decide, h1, g1⟩)) t_39 (fun _ => VRL.cons (by simp only [VR]; rfl) (VRL.cons (by simp only [VR]; rfl) (VRL.cons (by simp only [VR]) (VRL.nil)))) hen hW
  ·
    rcases c1 with g1 | g1 | g1 | g1 | g1
    ·
      cases b0 with
      | true =>
        exact top_run tz_mixed (fsT_ok n0 n1 [⟨0, 5, 4⟩, ⟨1, 5, 0⟩] (fun e he => by simp only [List.mem_cons, List.mem_nil_iff, or_false] at he; rcases he with rfl | rfl <;> first | exact ⟨by decide, by decide, h0, g0⟩ | exact ⟨by decide, by decide, h1, g1⟩)) t_40 (fun _ => VRL.cons (by simp only [VR]; rfl) (VRL.cons (by simp only [VR]; rfl) (VRL.cons (by simp only [VR]) (VRL.nil)))) hen hW
      | false =>
        exact top_run tz_mixed (fsT_ok n0 n1 [⟨0, 5, 4⟩, ⟨1, 5, 0⟩] (fun e he => by simp only [List.mem_cons, List.mem_nil_iff, or_false] at he; rcases he with rfl | rfl <;> first | exact ⟨by decide, by decide, h0, g0⟩ | exact ⟨by decide, by decide, h1, g1⟩)) t_41 (fun _ => VRL.cons (by simp only [VR]; rfl) (VRL.cons (by simp only [VR]; rfl) (VRL.cons (by simp only [VR]) (VRL.nil)))) hen hW
    ·
      cases b0 with
      | true =>
        exact top_run tz_mixed (fsT_ok n0 n1 [⟨0, 5, 4⟩, ⟨1, 5, 1⟩] (fun e he => by simp only [List.mem_cons, List.mem_nil_iff, or_false] at he; rcases he with rfl | rfl <;> first | exact ⟨by decide, by decide, h0, g0⟩ | exact ⟨by decide, by decide, h1, g1⟩)) t_42 (fun _ => VRL.cons (by simp only [VR]; rfl) (VRL.cons (by simp only [VR]; rfl) (VRL.cons (by simp only [VR]) (VRL.nil)))) hen hW
      | false =>
        exact top_run tz_mixed (fsT_ok n0 n1 [⟨0, 5, 4⟩, ⟨1, 5, 1⟩] (fun e he => by simp only [List.mem_cons, List.mem_nil_iff, or_false] at he; rcases he with rfl | rfl <;> first | exact ⟨by decide, by decide, h0, g0⟩ | exact ⟨by decide, by decide, h1, g1⟩)) t_43 (fun _ => VRL.cons (by simp only [VR]; rfl) (VRL.cons (by simp only [VR]; rfl) (VRL.cons (by simp only [VR]) (VRL.nil)))) hen hW
    ·
      cases b0 with
      | true =>
        exact top_run tz_mixed (fsT_ok n0 n1 [⟨0, 5, 4⟩, ⟨1, 5, 2⟩] (fun e he => by simp only [List.mem_cons, List.mem_nil_iff, or_false] at he; rcases he with rfl | rfl <;> first | exact ⟨by decide, by decide, h0, g0⟩ | exact ⟨by decide, by decide, h1, g1⟩)) t_44 (fun _ => VRL.cons (by simp only [VR]; rfl) (VRL.cons (by simp only [VR]; rfl) (VRL.cons (by simp only [VR]) (VRL.nil)))) hen hW
      | false =>
        exact top_run tz_mixed (fsT_ok n0 n1 [⟨0, 5, 4⟩, ⟨1, 5, 2⟩] (fun e he => by simp only [List.mem_cons, List.mem_nil_iff, or_false] at he; rcases he with rfl | rfl <;> first | exact ⟨by decide, by decide, h0, g0⟩ | exact ⟨by decide, by decide, h1, g1⟩)) t_45 (fun _ => VRL.cons (by simp only [VR]; rfl) (VRL.cons (by simp only [VR]; rfl) (VRL.cons (by simp only [VR]) (VRL.nil)))) hen hW
    ·
      cases b0 with
      | true =>
        exact top_run tz_mixed (fsT_ok n0 n1 [⟨0, 5, 4⟩, ⟨1, 5, 3⟩] (fun e he => by simp only [List.mem_cons, List.mem_nil_iff, or_false] at he; rcases he with rfl | rfl <;> first | exact ⟨by decide, by decide, h0, g0⟩ | exact ⟨by decide, by decide, h1, g1⟩)) t_46 (fun _ => VRL.cons (by simp only [VR]; rfl) (VRL.cons (by simp only [VR]; rfl) (VRL.cons (by simp only [VR]) (VRL.nil)))) hen hW
      | false =>
        exact top_run tz_mixed (fsT_ok n0 n1 [⟨0, 5, 4⟩, ⟨1, 5, 3⟩] (fun e he => by simp only [List.mem_cons, List.mem_nil_iff, or_false] at he; rcases he with rfl | rfl <;> first | exact ⟨by decide, by decide, h0, g0⟩ | exact ⟨by decide, by decide, h1, g1⟩)) t_47 (fun _ => VRL.cons (by simp only [VR]; rfl) (VRL.cons (by simp only [VR]; rfl) (VRL.cons (by simp only [VR]) (VRL.nil)))) hen hW
    ·
      cases b0 with
      | true =>
        exact top_run tz_mixed (fsT_ok n0 n1 [⟨0, 5, 4⟩, ⟨1, 5, 4⟩] (fun e he => by simp only [List.mem_cons, List.mem_nil_iff, or_false] at he; rcases he with rfl | rfl <;> first | exact ⟨by decide, by decide, h0, g0⟩ | exact ⟨by decide, by decide, h1, g1⟩)) t_48 (fun _ => VRL.cons (by simp only [VR]; rfl) (VRL.cons (by simp only [VR]; rfl) (VRL.cons (by simp only [VR]) (VRL.nil)))) hen hW
      | false =>
        exact top_run tz_mixed (fsT_ok n0 n1 [⟨0, 5, 4⟩, ⟨1, 5, 4⟩] (fun e he => by simp only [List.mem_cons, List.mem_nil_iff, or_false] at he; rcases he with rfl | rfl <;> first | exact ⟨by decide, by decide, h0, g0⟩ | exact ⟨by decide, by decide, h1, g1⟩)) t_49 (fun _ => VRL.cons (by simp only [VR]; rfl) (VRL.cons (by simp only [VR]; rfl) (VRL.cons (by simp only [VR]) (VRL.nil)))) hen hW
end Go.Av


namespace Go.Proofs.YtndjadliihggpaaGreatDoor
open Go Go.ChangeShapes Go.WideShapes Go.ChangeAt Go.RowKit
set_option maxRecDepth 100000
theorem dbLinks_lifted (os : Os) (started : os.Started) (H : Type) (enc : TypeId × Value → H) :
    ReturnsInHanded {} Tryz.checked os 6 .any (fun w args => (Rows.dbLinksSpec.pre enc Tryz.prog Tryz.f6 [] false w args ∧ laidMetH Tryz.prog Rows.dbLinksRow.laid w) ∧ sizedMet enc Tryz.prog Tryz.f6 (OpenSpec.ofChange Rows.dbLinksSpec) false w args)
      (Rows.dbLinksSpec.post enc Tryz.prog Tryz.f6 false true false false) := by
  refine returns_shaped (C := Tryz.checked) (X := fun w _ => laidMetH Tryz.prog Rows.dbLinksRow.laid w) (fun _ _ _ hh h => h.of_heap hh) own started (by kernel_rfl) Tryz.func6
    (ChangeSpec.witness_shaped (enc := enc) (C := Tryz.checked) (os := os) (X := fun w _ => laidMetH Tryz.prog Rows.dbLinksRow.laid w) false (World.laidAll Tryz.prog os Rows.dbLinksRow.laid) #[.int .i64 0, .int .i64 0, .bool false] 8 (World.laidAll_os _ _ _)
      (World.shaped_of_ZipB (by kernel_rfl) (by kernel_rfl)) (by kernel_rfl) (by kernel_rfl) (by kernel_rfl)
      (by rw [MakeChecks.laidMetH_plain _ _ _ (by kernel_rfl)]; exact laidMet_laidAll _ (by kernel_rfl) (by kernel_rfl))) ?_
  intro W base args ds gs before hshape hval0 hW hL
  have hval : ∀ (j : Nat) t v, Tryz.f6.params[j]? = some t → args[j]? = some v → Value.okWide Tryz.prog W .any base t v := hval0
  have hW' := hW
  obtain ⟨p, q, hA0, hV, rfl, _, _⟩ := hW
  have hA : DataW.TrodAll enc Tryz.prog W 0 (fun _ => true) true Tryz.f6.params.toList args.toList ds p := hA0
  rw [Tryz.params6] at hA hval
  obtain ⟨v0, v1, v2, d0, d1, d2, p0, p1, p2, rfl, rfl, rfl, q0, q1, q2⟩ := trodAll_three hA
  obtain ⟨rfl, rfl⟩ := trodVars_none hV
  obtain ⟨n0, rfl, rfl, rfl, w0⟩ := open_int Tryz.underlying3 (hval 0 3 v0 rfl rfl) q0
  obtain ⟨n1, rfl, rfl, rfl, w1⟩ := open_int Tryz.underlying3 (hval 1 3 v1 rfl rfl) q1
  obtain ⟨b0, rfl, rfl, rfl⟩ := open_bool Tryz.underlying4 (hval 2 4 v2 rfl rfl) q2
  have hL' := hL
  rw [MakeChecks.laidMetH_plain _ _ _ (by kernel_rfl)] at hL'
  have hr := Lib.laidMet.reads hL' (n := "strings.asciiSpace") (d := Rows.laid_strings_asciiSpace) (by simp [Rows.dbLinksRow])
  refine (Go.Av.law_run n0 n1 b0 (in_word w0) (in_word w1) (letI := Go.Av.tokL []; Go.Av.glob_of (size_of hshape) hr)).mono fun e W' ⟨he, hk⟩ => ?_
  subst he
  exact ⟨_, rfl, _, _, _, [], [], [], hW', trodAll_mk1 (shut_bool Tryz.underlying4 _), trodAll_mk3 (shut_int Tryz.underlying3 w0) (shut_int Tryz.underlying3 w1) (shut_bool Tryz.underlying4 _), rfl, hk.but _, fun h => by cases h⟩
theorem dbLinks_said : Rows.DbLinksSaid :=
  OpenClaim.holds_of_wide 6 Tryz.f6 rfl rfl rfl rfl rfl rfl rfl ⟨rfl, rfl, rfl, rfl, rfl⟩ rfl rfl rfl rfl rfl dbLinks_named Tryz.func6 dbLinks_closed
    (of_decide_eq_true (by kernel_rfl)) (by unfold Func.isWrapper; rw [if_neg (of_decide_eq_false (by kernel_rfl))]; exact ⟨rfl, rfl⟩) (fun os started H enc _ => dbLinks_lifted os started H enc)
theorem DbLinks_holds : Rows.DbLinksCardSaid :=
  Claim7.holds_tied_plain_at .later [] [.data, .data, .data, .data, .listed, .data, .pinned] true (true, "57101cddd19b5ffcfc9093984309bb36c54567d4e789da2cbc2610a6136134c6") false
    dbLinks_said (fun _ h => by cases h) (by kernel_rfl) (fun _ h => by cases h) dbLinks_row_tie rfl ⟨rfl, rfl⟩ (by kernel_rfl) rfl
    (fun f fn hf hfn => by
      obtain rfl : f = 6 := Option.some.inj (dbLinks_named.symm.trans hf) |>.symm
      obtain rfl : fn = Tryz.f6 := (Option.some.inj (Tryz.func6.symm.trans hfn)).symm
      exact ⟨by kernel_rfl, fun j t ht => by
        rw [Tryz.params6] at ht
        have hm : t ∈ [3, 3, 4] := by simpa using Array.mem_of_getElem? ht
        have hall : ([3, 3, 4].all fun u => !Tryz.prog.wantsStandIn u) = true := by kernel_rfl
        exact (show Tryz.prog.wantsStandIn t = false by simpa using List.all_eq_true.1 hall t hm)⟩)
    (goes_false _ rfl)
end Go.Proofs.YtndjadliihggpaaGreatDoor
