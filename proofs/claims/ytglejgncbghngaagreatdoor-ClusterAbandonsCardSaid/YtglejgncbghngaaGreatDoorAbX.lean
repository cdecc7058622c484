/- A part of the proof: what a machine of our own over the model's code answers is what the model does; no condition. -/
import Derived.Test.YtglejgncbghngaaGreatDoorCoB
import Derived.Test.YtglejgncbghngaaGreatDoorAbR0
import Derived.Test.YtglejgncbghngaaGreatDoorAbR1
import Derived.Test.YtglejgncbghngaaGreatDoorAbR2
import Derived.Test.YtglejgncbghngaaGreatDoorAbR3
import Derived.Test.YtglejgncbghngaaGreatDoorAbR4
import Derived.Test.YtglejgncbghngaaGreatDoorAbR5
import Derived.Test.YtglejgncbghngaaGreatDoorAbR6
import Derived.Test.YtglejgncbghngaaGreatDoorAbR7
import Derived.Test.YtglejgncbghngaaGreatDoorAbR8
import Derived.Test.YtglejgncbghngaaGreatDoorAbR9
import Derived.Test.YtglejgncbghngaaGreatDoorAbR10
import Derived.Test.YtglejgncbghngaaGreatDoorAbR11
import Derived.Test.YtglejgncbghngaaGreatDoorAbR12
import Derived.Test.YtglejgncbghngaaGreatDoorAbR13
import Derived.Test.YtglejgncbghngaaGreatDoorAbR14
import Derived.Test.YtglejgncbghngaaGreatDoorAbR15
import Derived.Test.YtglejgncbghngaaGreatDoorAbR16
import Derived.Test.YtglejgncbghngaaGreatDoorAbR17
import Derived.Test.YtglejgncbghngaaGreatDoorAbR18
import Derived.Test.YtglejgncbghngaaGreatDoorAbR19
import Derived.Test.YtglejgncbghngaaGreatDoorAbR20
import Derived.Test.YtglejgncbghngaaGreatDoorAbR21
import Derived.Test.YtglejgncbghngaaGreatDoorAbR22
import Derived.Test.YtglejgncbghngaaGreatDoorAbR23
import Derived.Test.YtglejgncbghngaaGreatDoorAbR24
import Derived.Test.YtglejgncbghngaaGreatDoorAbR25
import Derived.Test.YtglejgncbghngaaGreatDoorAbR26
import Derived.Test.YtglejgncbghngaaGreatDoorAbR27
import Derived.Test.YtglejgncbghngaaGreatDoorAbR28
import Derived.Test.YtglejgncbghngaaGreatDoorAbR29
set_option linter.all false
open Go Go.Av Go.Proofs
set_option maxRecDepth 1000000
set_option linter.all false
namespace Go.Av
theorem fsAbT0_ok (n0 n1 : Int) (l : List Rem) (hl : ∀ e ∈ l, 0 < e.m ∧ e.m < 1000000 ∧ inI64 (List.getD [n0, n1] e.k 0) ∧ List.getD [n0, n1] e.k 0 % e.m = e.r) : letI := tokL [n0, n1]; FsOk Tryz.prog (fsAbT0 l) := by
  letI := tokL [n0, n1]
  intro k fn h
  unfold fsAbT0 at h
  rcases ifb_or h with ⟨h1, h⟩ | ⟨_, h⟩
  · cases h; rw [Nat.eq_of_beq_eq_true h1]; exact .sem (within_sem within_ok10 hl)
  rcases ifb_or h with ⟨h1, h⟩ | ⟨_, h⟩
  · cases h; rw [Nat.eq_of_beq_eq_true h1]; exact .sem (within_sem within_ok22 hl)
  exact fsAbI0_ok k fn h
theorem fsAbT1_ok (n0 n1 : Int) (l : List Rem) (hl : ∀ e ∈ l, 0 < e.m ∧ e.m < 1000000 ∧ inI64 (List.getD [n0, n1] e.k 0) ∧ List.getD [n0, n1] e.k 0 % e.m = e.r) : letI := tokL [n0, n1]; FsOk Tryz.prog (fsAbT1 l) := by
  letI := tokL [n0, n1]
  intro k fn h
  unfold fsAbT1 at h
  rcases ifb_or h with ⟨h1, h⟩ | ⟨_, h⟩
  · cases h; rw [Nat.eq_of_beq_eq_true h1]; exact .sem (within_sem within_ok10 hl)
  rcases ifb_or h with ⟨h1, h⟩ | ⟨_, h⟩
  · cases h; rw [Nat.eq_of_beq_eq_true h1]; exact .sem (within_sem within_ok22 hl)
  exact fsAbI1_ok k fn h
theorem fsAbT2_ok (n0 n1 : Int) (l : List Rem) (hl : ∀ e ∈ l, 0 < e.m ∧ e.m < 1000000 ∧ inI64 (List.getD [n0, n1] e.k 0) ∧ List.getD [n0, n1] e.k 0 % e.m = e.r) : letI := tokL [n0, n1]; FsOk Tryz.prog (fsAbT2 l) := by
  letI := tokL [n0, n1]
  intro k fn h
  unfold fsAbT2 at h
  rcases ifb_or h with ⟨h1, h⟩ | ⟨_, h⟩
  · cases h; rw [Nat.eq_of_beq_eq_true h1]; exact .sem (within_sem within_ok10 hl)
  rcases ifb_or h with ⟨h1, h⟩ | ⟨_, h⟩
  · cases h; rw [Nat.eq_of_beq_eq_true h1]; exact .sem (within_sem within_ok22 hl)
  exact fsAbI2_ok k fn h
theorem fsAbT3_ok (n0 n1 : Int) (l : List Rem) (hl : ∀ e ∈ l, 0 < e.m ∧ e.m < 1000000 ∧ inI64 (List.getD [n0, n1] e.k 0) ∧ List.getD [n0, n1] e.k 0 % e.m = e.r) : letI := tokL [n0, n1]; FsOk Tryz.prog (fsAbT3 l) := by
  letI := tokL [n0, n1]
  intro k fn h
  unfold fsAbT3 at h
  rcases ifb_or h with ⟨h1, h⟩ | ⟨_, h⟩
  · cases h; rw [Nat.eq_of_beq_eq_true h1]; exact .sem (within_sem within_ok10 hl)
  rcases ifb_or h with ⟨h1, h⟩ | ⟨_, h⟩
  · cases h; rw [Nat.eq_of_beq_eq_true h1]; exact .sem (within_sem within_ok22 hl)
  exact fsAbI3_ok k fn h
theorem fsAbT4_ok (n0 n1 : Int) (l : List Rem) (hl : ∀ e ∈ l, 0 < e.m ∧ e.m < 1000000 ∧ inI64 (List.getD [n0, n1] e.k 0) ∧ List.getD [n0, n1] e.k 0 % e.m = e.r) : letI := tokL [n0, n1]; FsOk Tryz.prog (fsAbT4 l) := by
  letI := tokL [n0, n1]
  intro k fn h
  unfold fsAbT4 at h
  rcases ifb_or h with ⟨h1, h⟩ | ⟨_, h⟩
  · cases h; rw [Nat.eq_of_beq_eq_true h1]; exact .sem (within_sem within_ok10 hl)
  rcases ifb_or h with ⟨h1, h⟩ | ⟨_, h⟩
  · cases h; rw [Nat.eq_of_beq_eq_true h1]; exact .sem (within_sem within_ok22 hl)
  exact fsAbI4_ok k fn h
theorem Ablaw_run (n0 n1 : Int) (h0 : inI64 n0) (h1 : inI64 n1) {W : World} (hW : GlobW Tryz.prog GG W) :
    Calls Tryz.prog 3 #[.int .i64 n0, .int .i64 n1] W fun e W' => e = .returned (.bool true) ∧ Kept W W' := by
  letI := tokL [n0, n1]
  have hen : ∀ (args : Array Value) (w : World), (callFunc 3 args).run Tryz.prog w = .ok (.enter 3 args) w := enters_of tz_gor Tryz.func3 (by kernel_rfl)
  have c0 : n0 % 5 = 0 ∨ n0 % 5 = 1 ∨ n0 % 5 = 2 ∨ n0 % 5 = 3 ∨ n0 % 5 = 4 := by omega
  have c1 : n1 % 30 = 0 ∨ n1 % 30 = 1 ∨ n1 % 30 = 2 ∨ n1 % 30 = 3 ∨ n1 % 30 = 4 ∨ n1 % 30 = 5 ∨ n1 % 30 = 6 ∨ n1 % 30 = 7 ∨ n1 % 30 = 8 ∨ n1 % 30 = 9 ∨ n1 % 30 = 10 ∨ n1 % 30 = 11 ∨ n1 % 30 = 12 ∨ n1 % 30 = 13 ∨ n1 % 30 = 14 ∨ n1 % 30 = 15 ∨ n1 % 30 = 16 ∨ n1 % 30 = 17 ∨ n1 % 30 = 18 ∨ n1 % 30 = 19 ∨ n1 % 30 = 20 ∨ n1 % 30 = 21 ∨ n1 % 30 = 22 ∨ n1 % 30 = 23 ∨ n1 % 30 = 24 ∨ n1 % 30 = 25 ∨ n1 % 30 = 26 ∨ n1 % 30 = 27 ∨ n1 % 30 = 28 ∨ n1 % 30 = 29 := by omega
  have ha : ∀ σ : Sg, VRL σ [.tok 0, .tok 1] (#[.int .i64 n0, .int .i64 n1] : Array Value).toList := fun _ => VRL.cons (by simp only [VR]; rfl) (VRL.cons (by simp only [VR]; rfl) (VRL.nil))
  have hl : ∀ r0 r1 : Int, n0 % 5 = r0 → n1 % 30 = r1 → ∀ e ∈ ([⟨0, 5, r0⟩, ⟨1, 30, r1⟩] : List Rem), 0 < e.m ∧ e.m < 1000000 ∧ inI64 (List.getD [n0, n1] e.k 0) ∧ List.getD [n0, n1] e.k 0 % e.m = e.r := by
    intro r0 r1 g0 g1 e he
    simp only [List.mem_cons, List.mem_nil_iff, or_false] at he
    rcases he with rfl | rfl
    · exact ⟨(by show (0 : Int) < 5; decide), (by show (5 : Int) < 1000000; decide), h0, g0⟩
    · exact ⟨(by show (0 : Int) < 30; decide), (by show (30 : Int) < 1000000; decide), h1, g1⟩
  rcases c0 with g0 | g0 | g0 | g0 | g0
  ·
    rcases c1 with g1 | g1 | g1 | g1 | g1 | g1 | g1 | g1 | g1 | g1 | g1 | g1 | g1 | g1 | g1 | g1 | g1 | g1 | g1 | g1 | g1 | g1 | g1 | g1 | g1 | g1 | g1 | g1 | g1 | g1
    ·
      exact top_run tz_mixed (fsAbT0_ok n0 n1 _ (hl 0 0 g0 g1)) Abt_0 ha hen hW
    ·
      exact top_run tz_mixed (fsAbT0_ok n0 n1 _ (hl 0 1 g0 g1)) Abt_1 ha hen hW
    ·
      exact top_run tz_mixed (fsAbT0_ok n0 n1 _ (hl 0 2 g0 g1)) Abt_2 ha hen hW
    ·
      exact top_run tz_mixed (fsAbT0_ok n0 n1 _ (hl 0 3 g0 g1)) Abt_3 ha hen hW
    ·
      exact top_run tz_mixed (fsAbT0_ok n0 n1 _ (hl 0 4 g0 g1)) Abt_4 ha hen hW
    ·
      exact top_run tz_mixed (fsAbT0_ok n0 n1 _ (hl 0 5 g0 g1)) Abt_5 ha hen hW
    ·
      exact top_run tz_mixed (fsAbT0_ok n0 n1 _ (hl 0 6 g0 g1)) Abt_6 ha hen hW
    ·
      exact top_run tz_mixed (fsAbT0_ok n0 n1 _ (hl 0 7 g0 g1)) Abt_7 ha hen hW
    ·
      exact top_run tz_mixed (fsAbT0_ok n0 n1 _ (hl 0 8 g0 g1)) Abt_8 ha hen hW
    ·
      exact top_run tz_mixed (fsAbT0_ok n0 n1 _ (hl 0 9 g0 g1)) Abt_9 ha hen hW
    ·
      exact top_run tz_mixed (fsAbT0_ok n0 n1 _ (hl 0 10 g0 g1)) Abt_10 ha hen hW
    ·
      exact top_run tz_mixed (fsAbT0_ok n0 n1 _ (hl 0 11 g0 g1)) Abt_11 ha hen hW
    ·
      exact top_run tz_mixed (fsAbT0_ok n0 n1 _ (hl 0 12 g0 g1)) Abt_12 ha hen hW
    ·
      exact top_run tz_mixed (fsAbT0_ok n0 n1 _ (hl 0 13 g0 g1)) Abt_13 ha hen hW
    ·
      exact top_run tz_mixed (fsAbT0_ok n0 n1 _ (hl 0 14 g0 g1)) Abt_14 ha hen hW
    ·
      exact top_run tz_mixed (fsAbT0_ok n0 n1 _ (hl 0 15 g0 g1)) Abt_15 ha hen hW
    ·
      exact top_run tz_mixed (fsAbT0_ok n0 n1 _ (hl 0 16 g0 g1)) Abt_16 ha hen hW
    ·
      exact top_run tz_mixed (fsAbT0_ok n0 n1 _ (hl 0 17 g0 g1)) Abt_17 ha hen hW
    ·
      exact top_run tz_mixed (fsAbT0_ok n0 n1 _ (hl 0 18 g0 g1)) Abt_18 ha hen hW
    ·
      exact top_run tz_mixed (fsAbT0_ok n0 n1 _ (hl 0 19 g0 g1)) Abt_19 ha hen hW
    ·
      exact top_run tz_mixed (fsAbT0_ok n0 n1 _ (hl 0 20 g0 g1)) Abt_20 ha hen hW
    ·
      exact top_run tz_mixed (fsAbT0_ok n0 n1 _ (hl 0 21 g0 g1)) Abt_21 ha hen hW
    ·
      exact top_run tz_mixed (fsAbT0_ok n0 n1 _ (hl 0 22 g0 g1)) Abt_22 ha hen hW
    ·
      exact top_run tz_mixed (fsAbT0_ok n0 n1 _ (hl 0 23 g0 g1)) Abt_23 ha hen hW
    ·
      exact top_run tz_mixed (fsAbT0_ok n0 n1 _ (hl 0 24 g0 g1)) Abt_24 ha hen hW
    ·
      exact top_run tz_mixed (fsAbT0_ok n0 n1 _ (hl 0 25 g0 g1)) Abt_25 ha hen hW
    ·
      exact top_run tz_mixed (fsAbT0_ok n0 n1 _ (hl 0 26 g0 g1)) Abt_26 ha hen hW
    ·
      exact top_run tz_mixed (fsAbT0_ok n0 n1 _ (hl 0 27 g0 g1)) Abt_27 ha hen hW
    ·
      exact top_run tz_mixed (fsAbT0_ok n0 n1 _ (hl 0 28 g0 g1)) Abt_28 ha hen hW
    ·
      exact top_run tz_mixed (fsAbT0_ok n0 n1 _ (hl 0 29 g0 g1)) Abt_29 ha hen hW
  ·
    rcases c1 with g1 | g1 | g1 | g1 | g1 | g1 | g1 | g1 | g1 | g1 | g1 | g1 | g1 | g1 | g1 | g1 | g1 | g1 | g1 | g1 | g1 | g1 | g1 | g1 | g1 | g1 | g1 | g1 | g1 | g1
    ·
      exact top_run tz_mixed (fsAbT1_ok n0 n1 _ (hl 1 0 g0 g1)) Abt_30 ha hen hW
    ·
      exact top_run tz_mixed (fsAbT1_ok n0 n1 _ (hl 1 1 g0 g1)) Abt_31 ha hen hW
    ·
      exact top_run tz_mixed (fsAbT1_ok n0 n1 _ (hl 1 2 g0 g1)) Abt_32 ha hen hW
    ·
      exact top_run tz_mixed (fsAbT1_ok n0 n1 _ (hl 1 3 g0 g1)) Abt_33 ha hen hW
    ·
      exact top_run tz_mixed (fsAbT1_ok n0 n1 _ (hl 1 4 g0 g1)) Abt_34 ha hen hW
    ·
      exact top_run tz_mixed (fsAbT1_ok n0 n1 _ (hl 1 5 g0 g1)) Abt_35 ha hen hW
    ·
      exact top_run tz_mixed (fsAbT1_ok n0 n1 _ (hl 1 6 g0 g1)) Abt_36 ha hen hW
    ·
      exact top_run tz_mixed (fsAbT1_ok n0 n1 _ (hl 1 7 g0 g1)) Abt_37 ha hen hW
    ·
      exact top_run tz_mixed (fsAbT1_ok n0 n1 _ (hl 1 8 g0 g1)) Abt_38 ha hen hW
    ·
      exact top_run tz_mixed (fsAbT1_ok n0 n1 _ (hl 1 9 g0 g1)) Abt_39 ha hen hW
    ·
      exact top_run tz_mixed (fsAbT1_ok n0 n1 _ (hl 1 10 g0 g1)) Abt_40 ha hen hW
    ·
      exact top_run tz_mixed (fsAbT1_ok n0 n1 _ (hl 1 11 g0 g1)) Abt_41 ha hen hW
    ·
      exact top_run tz_mixed (fsAbT1_ok n0 n1 _ (hl 1 12 g0 g1)) Abt_42 ha hen hW
    ·
      exact top_run tz_mixed (fsAbT1_ok n0 n1 _ (hl 1 13 g0 g1)) Abt_43 ha hen hW
    ·
      exact top_run tz_mixed (fsAbT1_ok n0 n1 _ (hl 1 14 g0 g1)) Abt_44 ha hen hW
    ·
      exact top_run tz_mixed (fsAbT1_ok n0 n1 _ (hl 1 15 g0 g1)) Abt_45 ha hen hW
    ·
      exact top_run tz_mixed (fsAbT1_ok n0 n1 _ (hl 1 16 g0 g1)) Abt_46 ha hen hW
    ·
      exact top_run tz_mixed (fsAbT1_ok n0 n1 _ (hl 1 17 g0 g1)) Abt_47 ha hen hW
    ·
      exact top_run tz_mixed (fsAbT1_ok n0 n1 _ (hl 1 18 g0 g1)) Abt_48 ha hen hW
    ·
      exact top_run tz_mixed (fsAbT1_ok n0 n1 _ (hl 1 19 g0 g1)) Abt_49 ha hen hW
    ·
      exact top_run tz_mixed (fsAbT1_ok n0 n1 _ (hl 1 20 g0 g1)) Abt_50 ha hen hW
    ·
      exact top_run tz_mixed (fsAbT1_ok n0 n1 _ (hl 1 21 g0 g1)) Abt_51 ha hen hW
    ·
      exact top_run tz_mixed (fsAbT1_ok n0 n1 _ (hl 1 22 g0 g1)) Abt_52 ha hen hW
    ·
      exact top_run tz_mixed (fsAbT1_ok n0 n1 _ (hl 1 23 g0 g1)) Abt_53 ha hen hW
    ·
      exact top_run tz_mixed (fsAbT1_ok n0 n1 _ (hl 1 24 g0 g1)) Abt_54 ha hen hW
    ·
      exact top_run tz_mixed (fsAbT1_ok n0 n1 _ (hl 1 25 g0 g1)) Abt_55 ha hen hW
    ·
      exact top_run tz_mixed (fsAbT1_ok n0 n1 _ (hl 1 26 g0 g1)) Abt_56 ha hen hW
    ·
      exact top_run tz_mixed (fsAbT1_ok n0 n1 _ (hl 1 27 g0 g1)) Abt_57 ha hen hW
    ·
      exact top_run tz_mixed (fsAbT1_ok n0 n1 _ (hl 1 28 g0 g1)) Abt_58 ha hen hW
    ·
      exact top_run tz_mixed (fsAbT1_ok n0 n1 _ (hl 1 29 g0 g1)) Abt_59 ha hen hW
  ·
    rcases c1 with g1 | g1 | g1 | g1 | g1 | g1 | g1 | g1 | g1 | g1 | g1 | g1 | g1 | g1 | g1 | g1 | g1 | g1 | g1 | g1 | g1 | g1 | g1 | g1 | g1 | g1 | g1 | g1 | g1 | g1
    ·
      exact top_run tz_mixed (fsAbT2_ok n0 n1 _ (hl 2 0 g0 g1)) Abt_60 ha hen hW
    ·
      exact top_run tz_mixed (fsAbT2_ok n0 n1 _ (hl 2 1 g0 g1)) Abt_61 ha hen hW
    ·
      exact top_run tz_mixed (fsAbT2_ok n0 n1 _ (hl 2 2 g0 g1)) Abt_62 ha hen hW
    ·
      exact top_run tz_mixed (fsAbT2_ok n0 n1 _ (hl 2 3 g0 g1)) Abt_63 ha hen hW
    ·
      exact top_run tz_mixed (fsAbT2_ok n0 n1 _ (hl 2 4 g0 g1)) Abt_64 ha hen hW
    ·
      exact top_run tz_mixed (fsAbT2_ok n0 n1 _ (hl 2 5 g0 g1)) Abt_65 ha hen hW
    ·
      exact top_run tz_mixed (fsAbT2_ok n0 n1 _ (hl 2 6 g0 g1)) Abt_66 ha hen hW
    ·
      exact top_run tz_mixed (fsAbT2_ok n0 n1 _ (hl 2 7 g0 g1)) Abt_67 ha hen hW
    ·
      exact top_run tz_mixed (fsAbT2_ok n0 n1 _ (hl 2 8 g0 g1)) Abt_68 ha hen hW
    ·
      exact top_run tz_mixed (fsAbT2_ok n0 n1 _ (hl 2 9 g0 g1)) Abt_69 ha hen hW
    ·
      exact top_run tz_mixed (fsAbT2_ok n0 n1 _ (hl 2 10 g0 g1)) Abt_70 ha hen hW
    ·
      exact top_run tz_mixed (fsAbT2_ok n0 n1 _ (hl 2 11 g0 g1)) Abt_71 ha hen hW
    ·
      exact top_run tz_mixed (fsAbT2_ok n0 n1 _ (hl 2 12 g0 g1)) Abt_72 ha hen hW
    ·
      exact top_run tz_mixed (fsAbT2_ok n0 n1 _ (hl 2 13 g0 g1)) Abt_73 ha hen hW
    ·
      exact top_run tz_mixed (fsAbT2_ok n0 n1 _ (hl 2 14 g0 g1)) Abt_74 ha hen hW
    ·
      exact top_run tz_mixed (fsAbT2_ok n0 n1 _ (hl 2 15 g0 g1)) Abt_75 ha hen hW
    ·
      exact top_run tz_mixed (fsAbT2_ok n0 n1 _ (hl 2 16 g0 g1)) Abt_76 ha hen hW
    ·
      exact top_run tz_mixed (fsAbT2_ok n0 n1 _ (hl 2 17 g0 g1)) Abt_77 ha hen hW
    ·
      exact top_run tz_mixed (fsAbT2_ok n0 n1 _ (hl 2 18 g0 g1)) Abt_78 ha hen hW
    ·
      exact top_run tz_mixed (fsAbT2_ok n0 n1 _ (hl 2 19 g0 g1)) Abt_79 ha hen hW
    ·
      exact top_run tz_mixed (fsAbT2_ok n0 n1 _ (hl 2 20 g0 g1)) Abt_80 ha hen hW
    ·
      exact top_run tz_mixed (fsAbT2_ok n0 n1 _ (hl 2 21 g0 g1)) Abt_81 ha hen hW
    ·
      exact top_run tz_mixed (fsAbT2_ok n0 n1 _ (hl 2 22 g0 g1)) Abt_82 ha hen hW
    ·
      exact top_run tz_mixed (fsAbT2_ok n0 n1 _ (hl 2 23 g0 g1)) Abt_83 ha hen hW
    ·
      exact top_run tz_mixed (fsAbT2_ok n0 n1 _ (hl 2 24 g0 g1)) Abt_84 ha hen hW
    ·
      exact top_run tz_mixed (fsAbT2_ok n0 n1 _ (hl 2 25 g0 g1)) Abt_85 ha hen hW
    ·
      exact top_run tz_mixed (fsAbT2_ok n0 n1 _ (hl 2 26 g0 g1)) Abt_86 ha hen hW
    ·
      exact top_run tz_mixed (fsAbT2_ok n0 n1 _ (hl 2 27 g0 g1)) Abt_87 ha hen hW
    ·
      exact top_run tz_mixed (fsAbT2_ok n0 n1 _ (hl 2 28 g0 g1)) Abt_88 ha hen hW
    ·
      exact top_run tz_mixed (fsAbT2_ok n0 n1 _ (hl 2 29 g0 g1)) Abt_89 ha hen hW
  ·
    rcases c1 with g1 | g1 | g1 | g1 | g1 | g1 | g1 | g1 | g1 | g1 | g1 | g1 | g1 | g1 | g1 | g1 | g1 | g1 | g1 | g1 | g1 | g1 | g1 | g1 | g1 | g1 | g1 | g1 | g1 | g1
    ·
      exact top_run tz_mixed (fsAbT3_ok n0 n1 _ (hl 3 0 g0 g1)) Abt_90 ha hen hW
    ·
      exact top_run tz_mixed (fsAbT3_ok n0 n1 _ (hl 3 1 g0 g1)) Abt_91 ha hen hW
    ·
      exact top_run tz_mixed (fsAbT3_ok n0 n1 _ (hl 3 2 g0 g1)) Abt_92 ha hen hW
    ·
      exact top_run tz_mixed (fsAbT3_ok n0 n1 _ (hl 3 3 g0 g1)) Abt_93 ha hen hW
    ·
      exact top_run tz_mixed (fsAbT3_ok n0 n1 _ (hl 3 4 g0 g1)) Abt_94 ha hen hW
    ·
      exact top_run tz_mixed (fsAbT3_ok n0 n1 _ (hl 3 5 g0 g1)) Abt_95 ha hen hW
    ·
      exact top_run tz_mixed (fsAbT3_ok n0 n1 _ (hl 3 6 g0 g1)) Abt_96 ha hen hW
    ·
      exact top_run tz_mixed (fsAbT3_ok n0 n1 _ (hl 3 7 g0 g1)) Abt_97 ha hen hW
    ·
      exact top_run tz_mixed (fsAbT3_ok n0 n1 _ (hl 3 8 g0 g1)) Abt_98 ha hen hW
    ·
      exact top_run tz_mixed (fsAbT3_ok n0 n1 _ (hl 3 9 g0 g1)) Abt_99 ha hen hW
    ·
      exact top_run tz_mixed (fsAbT3_ok n0 n1 _ (hl 3 10 g0 g1)) Abt_100 ha hen hW
    ·
      exact top_run tz_mixed (fsAbT3_ok n0 n1 _ (hl 3 11 g0 g1)) Abt_101 ha hen hW
    ·
      exact top_run tz_mixed (fsAbT3_ok n0 n1 _ (hl 3 12 g0 g1)) Abt_102 ha hen hW
    ·
      exact top_run tz_mixed (fsAbT3_ok n0 n1 _ (hl 3 13 g0 g1)) Abt_103 ha hen hW
    ·
      exact top_run tz_mixed (fsAbT3_ok n0 n1 _ (hl 3 14 g0 g1)) Abt_104 ha hen hW
    ·
      exact top_run tz_mixed (fsAbT3_ok n0 n1 _ (hl 3 15 g0 g1)) Abt_105 ha hen hW
    ·
      exact top_run tz_mixed (fsAbT3_ok n0 n1 _ (hl 3 16 g0 g1)) Abt_106 ha hen hW
    ·
      exact top_run tz_mixed (fsAbT3_ok n0 n1 _ (hl 3 17 g0 g1)) Abt_107 ha hen hW
    ·
      exact top_run tz_mixed (fsAbT3_ok n0 n1 _ (hl 3 18 g0 g1)) Abt_108 ha hen hW
    ·
      exact top_run tz_mixed (fsAbT3_ok n0 n1 _ (hl 3 19 g0 g1)) Abt_109 ha hen hW
    ·
      exact top_run tz_mixed (fsAbT3_ok n0 n1 _ (hl 3 20 g0 g1)) Abt_110 ha hen hW
    ·
      exact top_run tz_mixed (fsAbT3_ok n0 n1 _ (hl 3 21 g0 g1)) Abt_111 ha hen hW
    ·
      exact top_run tz_mixed (fsAbT3_ok n0 n1 _ (hl 3 22 g0 g1)) Abt_112 ha hen hW
    ·
      exact top_run tz_mixed (fsAbT3_ok n0 n1 _ (hl 3 23 g0 g1)) Abt_113 ha hen hW
    ·
      exact top_run tz_mixed (fsAbT3_ok n0 n1 _ (hl 3 24 g0 g1)) Abt_114 ha hen hW
    ·
      exact top_run tz_mixed (fsAbT3_ok n0 n1 _ (hl 3 25 g0 g1)) Abt_115 ha hen hW
    ·
      exact top_run tz_mixed (fsAbT3_ok n0 n1 _ (hl 3 26 g0 g1)) Abt_116 ha hen hW
    ·
      exact top_run tz_mixed (fsAbT3_ok n0 n1 _ (hl 3 27 g0 g1)) Abt_117 ha hen hW
    ·
      exact top_run tz_mixed (fsAbT3_ok n0 n1 _ (hl 3 28 g0 g1)) Abt_118 ha hen hW
    ·
      exact top_run tz_mixed (fsAbT3_ok n0 n1 _ (hl 3 29 g0 g1)) Abt_119 ha hen hW
  ·
    rcases c1 with g1 | g1 | g1 | g1 | g1 | g1 | g1 | g1 | g1 | g1 | g1 | g1 | g1 | g1 | g1 | g1 | g1 | g1 | g1 | g1 | g1 | g1 | g1 | g1 | g1 | g1 | g1 | g1 | g1 | g1
    ·
      exact top_run tz_mixed (fsAbT4_ok n0 n1 _ (hl 4 0 g0 g1)) Abt_120 ha hen hW
    ·
      exact top_run tz_mixed (fsAbT4_ok n0 n1 _ (hl 4 1 g0 g1)) Abt_121 ha hen hW
    ·
      exact top_run tz_mixed (fsAbT4_ok n0 n1 _ (hl 4 2 g0 g1)) Abt_122 ha hen hW
    ·
      exact top_run tz_mixed (fsAbT4_ok n0 n1 _ (hl 4 3 g0 g1)) Abt_123 ha hen hW
    ·
      exact top_run tz_mixed (fsAbT4_ok n0 n1 _ (hl 4 4 g0 g1)) Abt_124 ha hen hW
    ·
      exact top_run tz_mixed (fsAbT4_ok n0 n1 _ (hl 4 5 g0 g1)) Abt_125 ha hen hW
    ·
      exact top_run tz_mixed (fsAbT4_ok n0 n1 _ (hl 4 6 g0 g1)) Abt_126 ha hen hW
    ·
      exact top_run tz_mixed (fsAbT4_ok n0 n1 _ (hl 4 7 g0 g1)) Abt_127 ha hen hW
    ·
      exact top_run tz_mixed (fsAbT4_ok n0 n1 _ (hl 4 8 g0 g1)) Abt_128 ha hen hW
    ·
      exact top_run tz_mixed (fsAbT4_ok n0 n1 _ (hl 4 9 g0 g1)) Abt_129 ha hen hW
    ·
      exact top_run tz_mixed (fsAbT4_ok n0 n1 _ (hl 4 10 g0 g1)) Abt_130 ha hen hW
    ·
      exact top_run tz_mixed (fsAbT4_ok n0 n1 _ (hl 4 11 g0 g1)) Abt_131 ha hen hW
    ·
      exact top_run tz_mixed (fsAbT4_ok n0 n1 _ (hl 4 12 g0 g1)) Abt_132 ha hen hW
    ·
      exact top_run tz_mixed (fsAbT4_ok n0 n1 _ (hl 4 13 g0 g1)) Abt_133 ha hen hW
    ·
      exact top_run tz_mixed (fsAbT4_ok n0 n1 _ (hl 4 14 g0 g1)) Abt_134 ha hen hW
    ·
      exact top_run tz_mixed (fsAbT4_ok n0 n1 _ (hl 4 15 g0 g1)) Abt_135 ha hen hW
    ·
      exact top_run tz_mixed (fsAbT4_ok n0 n1 _ (hl 4 16 g0 g1)) Abt_136 ha hen hW
    ·
      exact top_run tz_mixed (fsAbT4_ok n0 n1 _ (hl 4 17 g0 g1)) Abt_137 ha hen hW
    ·
      exact top_run tz_mixed (fsAbT4_ok n0 n1 _ (hl 4 18 g0 g1)) Abt_138 ha hen hW
    ·
      exact top_run tz_mixed (fsAbT4_ok n0 n1 _ (hl 4 19 g0 g1)) Abt_139 ha hen hW
    ·
      exact top_run tz_mixed (fsAbT4_ok n0 n1 _ (hl 4 20 g0 g1)) Abt_140 ha hen hW
    ·
      exact top_run tz_mixed (fsAbT4_ok n0 n1 _ (hl 4 21 g0 g1)) Abt_141 ha hen hW
    ·
      exact top_run tz_mixed (fsAbT4_ok n0 n1 _ (hl 4 22 g0 g1)) Abt_142 ha hen hW
    ·
      exact top_run tz_mixed (fsAbT4_ok n0 n1 _ (hl 4 23 g0 g1)) Abt_143 ha hen hW
    ·
      exact top_run tz_mixed (fsAbT4_ok n0 n1 _ (hl 4 24 g0 g1)) Abt_144 ha hen hW
    ·
      exact top_run tz_mixed (fsAbT4_ok n0 n1 _ (hl 4 25 g0 g1)) Abt_145 ha hen hW
    ·
      exact top_run tz_mixed (fsAbT4_ok n0 n1 _ (hl 4 26 g0 g1)) Abt_146 ha hen hW
    ·
      exact top_run tz_mixed (fsAbT4_ok n0 n1 _ (hl 4 27 g0 g1)) Abt_147 ha hen hW
    ·
      exact top_run tz_mixed (fsAbT4_ok n0 n1 _ (hl 4 28 g0 g1)) Abt_148 ha hen hW
    ·
      exact top_run tz_mixed (fsAbT4_ok n0 n1 _ (hl 4 29 g0 g1)) Abt_149 ha hen hW
end Go.Av
