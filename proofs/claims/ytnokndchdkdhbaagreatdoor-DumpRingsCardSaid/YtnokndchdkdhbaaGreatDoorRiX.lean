/- A part of the proof: what a machine of our own over the model's code answers is what the model does; no condition. -/
import Derived.Test.YtnokndchdkdhbaaGreatDoorCoB
import Derived.Test.YtnokndchdkdhbaaGreatDoorRiV1
import Derived.Test.YtnokndchdkdhbaaGreatDoorRiW1
set_option linter.all false
open Go Go.Av Go.Proofs
set_option maxRecDepth 1000000
set_option linter.all false
namespace Go.Av
theorem fsRiT_ok (n0 n1 : Int) (l : List Rem) (hl : ∀ e ∈ l, 0 < e.m ∧ e.m < 1000000 ∧ inI64 (List.getD [n0, n1] e.k 0) ∧ List.getD [n0, n1] e.k 0 % e.m = e.r) : letI := tokL [n0, n1]; FsOk Tryz.prog (fsRiT l) := by
  letI := tokL [n0, n1]
  intro k fn h
  unfold fsRiT at h
  rcases ifb_or h with ⟨h1, h⟩ | ⟨_, h⟩
  · cases h; rw [Nat.eq_of_beq_eq_true h1]; exact .sem (within_sem within_ok7 hl)
  exact fsRi6_ok k fn h
theorem Rilaw_run (n0 n1 : Int) (h0 : inI64 n0) (h1 : inI64 n1) {W : World} (hW : GlobW Tryz.prog GG W) :
    Calls Tryz.prog 3 #[.int .i64 n0, .int .i64 n1] W fun e W' => e = .returned (.bool true) ∧ Kept W W' := by
  letI := tokL [n0, n1]
  have hen : ∀ (args : Array Value) (w : World), (callFunc 3 args).run Tryz.prog w = .ok (.enter 3 args) w := enters_of tz_gor Tryz.func3 (by kernel_rfl)
  have c0 : n0 % 5 = 0 ∨ n0 % 5 = 1 ∨ n0 % 5 = 2 ∨ n0 % 5 = 3 ∨ n0 % 5 = 4 := by omega
  have c1 : n1 % 4 = 0 ∨ n1 % 4 = 1 ∨ n1 % 4 = 2 ∨ n1 % 4 = 3 := by omega
  have ha : ∀ σ : Sg, VRL σ [.tok 0, .tok 1] (#[.int .i64 n0, .int .i64 n1] : Array Value).toList := fun _ => VRL.cons (by simp only [VR]; rfl) (VRL.cons (by simp only [VR]; rfl) (VRL.nil))
  have hl : ∀ r0 r1 : Int, n0 % 5 = r0 → n1 % 4 = r1 → ∀ e ∈ ([⟨0, 5, r0⟩, ⟨1, 4, r1⟩] : List Rem), 0 < e.m ∧ e.m < 1000000 ∧ inI64 (List.getD [n0, n1] e.k 0) ∧ List.getD [n0, n1] e.k 0 % e.m = e.r := by
    intro r0 r1 g0 g1 e he
    simp only [List.mem_cons, List.mem_nil_iff, or_false] at he
    rcases he with rfl | rfl
    · exact ⟨(by show (0 : Int) < 5; decide), (by show (5 : Int) < 1000000; decide), h0, g0⟩
    · exact ⟨(by show (0 : Int) < 4; decide), (by show (4 : Int) < 1000000; decide), h1, g1⟩
  rcases c0 with g0 | g0 | g0 | g0 | g0
  ·
    rcases c1 with g1 | g1 | g1 | g1
    ·
      exact top_run tz_mixed (fsRiT_ok n0 n1 _ (hl 0 0 g0 g1)) Rit_0 ha hen hW
    ·
      exact top_run tz_mixed (fsRiT_ok n0 n1 _ (hl 0 1 g0 g1)) Rit_1 ha hen hW
    ·
      exact top_run tz_mixed (fsRiT_ok n0 n1 _ (hl 0 2 g0 g1)) Rit_2 ha hen hW
    ·
      exact top_run tz_mixed (fsRiT_ok n0 n1 _ (hl 0 3 g0 g1)) Rit_3 ha hen hW
  ·
    rcases c1 with g1 | g1 | g1 | g1
    ·
      exact top_run tz_mixed (fsRiT_ok n0 n1 _ (hl 1 0 g0 g1)) Rit_4 ha hen hW
    ·
      exact top_run tz_mixed (fsRiT_ok n0 n1 _ (hl 1 1 g0 g1)) Rit_5 ha hen hW
    ·
      exact top_run tz_mixed (fsRiT_ok n0 n1 _ (hl 1 2 g0 g1)) Rit_6 ha hen hW
    ·
      exact top_run tz_mixed (fsRiT_ok n0 n1 _ (hl 1 3 g0 g1)) Rit_7 ha hen hW
  ·
    rcases c1 with g1 | g1 | g1 | g1
    ·
      exact top_run tz_mixed (fsRiT_ok n0 n1 _ (hl 2 0 g0 g1)) Rit_8 ha hen hW
    ·
      exact top_run tz_mixed (fsRiT_ok n0 n1 _ (hl 2 1 g0 g1)) Rit_9 ha hen hW
    ·
      exact top_run tz_mixed (fsRiT_ok n0 n1 _ (hl 2 2 g0 g1)) Rit_10 ha hen hW
    ·
      exact top_run tz_mixed (fsRiT_ok n0 n1 _ (hl 2 3 g0 g1)) Rit_11 ha hen hW
  ·
    rcases c1 with g1 | g1 | g1 | g1
    ·
      exact top_run tz_mixed (fsRiT_ok n0 n1 _ (hl 3 0 g0 g1)) Rit_12 ha hen hW
    ·
      exact top_run tz_mixed (fsRiT_ok n0 n1 _ (hl 3 1 g0 g1)) Rit_13 ha hen hW
    ·
      exact top_run tz_mixed (fsRiT_ok n0 n1 _ (hl 3 2 g0 g1)) Rit_14 ha hen hW
    ·
      exact top_run tz_mixed (fsRiT_ok n0 n1 _ (hl 3 3 g0 g1)) Rit_15 ha hen hW
  ·
    rcases c1 with g1 | g1 | g1 | g1
    ·
      exact top_run tz_mixed (fsRiT_ok n0 n1 _ (hl 4 0 g0 g1)) Rit_16 ha hen hW
    ·
      exact top_run tz_mixed (fsRiT_ok n0 n1 _ (hl 4 1 g0 g1)) Rit_17 ha hen hW
    ·
      exact top_run tz_mixed (fsRiT_ok n0 n1 _ (hl 4 2 g0 g1)) Rit_18 ha hen hW
    ·
      exact top_run tz_mixed (fsRiT_ok n0 n1 _ (hl 4 3 g0 g1)) Rit_19 ha hen hW
end Go.Av
