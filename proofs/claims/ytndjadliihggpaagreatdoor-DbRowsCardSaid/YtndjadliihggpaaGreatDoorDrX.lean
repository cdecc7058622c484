/- A part of the proof: what a machine of our own over the model's code answers is what the model does; no condition. -/
import Derived.Test.YtndjadliihggpaaGreatDoorCoB
import Derived.Test.YtndjadliihggpaaGreatDoorDrR0
import Derived.Test.YtndjadliihggpaaGreatDoorDrR1
import Derived.Test.YtndjadliihggpaaGreatDoorDrR2
import Derived.Test.YtndjadliihggpaaGreatDoorDrR3
import Derived.Test.YtndjadliihggpaaGreatDoorDrR4
import Derived.Test.YtndjadliihggpaaGreatDoorDrR5
import Derived.Test.YtndjadliihggpaaGreatDoorDrR6
import Derived.Test.YtndjadliihggpaaGreatDoorDrR7
import Derived.Test.YtndjadliihggpaaGreatDoorDrR8
import Derived.Test.YtndjadliihggpaaGreatDoorDrR9
import Derived.Test.YtndjadliihggpaaGreatDoorDrR10
import Derived.Test.YtndjadliihggpaaGreatDoorDrR11
import Derived.Test.YtndjadliihggpaaGreatDoorDrR12
import Derived.Test.YtndjadliihggpaaGreatDoorDrR13
import Derived.Test.YtndjadliihggpaaGreatDoorDrR14
import Derived.Test.YtndjadliihggpaaGreatDoorDrR15
import Derived.Test.YtndjadliihggpaaGreatDoorDrR16
import Derived.Test.YtndjadliihggpaaGreatDoorDrR17
import Derived.Test.YtndjadliihggpaaGreatDoorDrR18
import Derived.Test.YtndjadliihggpaaGreatDoorDrR19
import Derived.Test.YtndjadliihggpaaGreatDoorDrR20
import Derived.Test.YtndjadliihggpaaGreatDoorDrR21
import Derived.Test.YtndjadliihggpaaGreatDoorDrR22
import Derived.Test.YtndjadliihggpaaGreatDoorDrR23
import Derived.Test.YtndjadliihggpaaGreatDoorDrR24
set_option linter.all false
open Go Go.Av Go.Proofs
set_option maxRecDepth 1000000
set_option linter.all false
namespace Go.Av
theorem fsDrT_ok (n0 n1 : Int) (l : List Rem) (hl : ∀ e ∈ l, 0 < e.m ∧ e.m < 1000000 ∧ inI64 (List.getD [n0, n1] e.k 0) ∧ List.getD [n0, n1] e.k 0 % e.m = e.r) : letI := tokL [n0, n1]; FsOk Tryz.prog (fsDrT l) := by
  letI := tokL [n0, n1]
  intro k fn h
  unfold fsDrT at h
  rcases ifb_or h with ⟨h1, h⟩ | ⟨_, h⟩
  · cases h; rw [Nat.eq_of_beq_eq_true h1]; exact .sem (within_sem within_ok hl)
  exact fsDr5_ok k fn h
theorem Drlaw_run (n0 n1 : Int) (h0 : inI64 n0) (h1 : inI64 n1) {W : World} (hW : GlobW Tryz.prog GG W) :
    Calls Tryz.prog 5 #[.int .i64 n0, .int .i64 n1] W fun e W' => e = .returned (.bool true) ∧ Kept W W' := by
  letI := tokL [n0, n1]
  have hen : ∀ (args : Array Value) (w : World), (callFunc 5 args).run Tryz.prog w = .ok (.enter 5 args) w := enters_of tz_gor Tryz.func5 (by kernel_rfl)
  have c0 : n0 % 10 = 0 ∨ n0 % 10 = 1 ∨ n0 % 10 = 2 ∨ n0 % 10 = 3 ∨ n0 % 10 = 4 ∨ n0 % 10 = 5 ∨ n0 % 10 = 6 ∨ n0 % 10 = 7 ∨ n0 % 10 = 8 ∨ n0 % 10 = 9 := by omega
  have c1 : n1 % 10 = 0 ∨ n1 % 10 = 1 ∨ n1 % 10 = 2 ∨ n1 % 10 = 3 ∨ n1 % 10 = 4 ∨ n1 % 10 = 5 ∨ n1 % 10 = 6 ∨ n1 % 10 = 7 ∨ n1 % 10 = 8 ∨ n1 % 10 = 9 := by omega
  have ha : ∀ σ : Sg, VRL σ [.tok 0, .tok 1] (#[.int .i64 n0, .int .i64 n1] : Array Value).toList := fun _ => VRL.cons (by simp only [VR]; rfl) (VRL.cons (by simp only [VR]; rfl) (VRL.nil))
  have hl : ∀ r0 r1 : Int, n0 % 10 = r0 → n1 % 10 = r1 → ∀ e ∈ ([⟨0, 10, r0⟩, ⟨1, 10, r1⟩] : List Rem), 0 < e.m ∧ e.m < 1000000 ∧ inI64 (List.getD [n0, n1] e.k 0) ∧ List.getD [n0, n1] e.k 0 % e.m = e.r := by
    intro r0 r1 g0 g1 e he
    simp only [List.mem_cons, List.mem_nil_iff, or_false] at he
    rcases he with rfl | rfl
    · exact ⟨(by show (0 : Int) < 10; decide), (by show (10 : Int) < 1000000; decide), h0, g0⟩
    · exact ⟨(by show (0 : Int) < 10; decide), (by show (10 : Int) < 1000000; decide), h1, g1⟩
  rcases c0 with g0 | g0 | g0 | g0 | g0 | g0 | g0 | g0 | g0 | g0
  ·
    rcases c1 with g1 | g1 | g1 | g1 | g1 | g1 | g1 | g1 | g1 | g1
    ·
      exact top_run tz_mixed (fsDrT_ok n0 n1 _ (hl 0 0 g0 g1)) Drt_0 ha hen hW
    ·
      exact top_run tz_mixed (fsDrT_ok n0 n1 _ (hl 0 1 g0 g1)) Drt_1 ha hen hW
    ·
      exact top_run tz_mixed (fsDrT_ok n0 n1 _ (hl 0 2 g0 g1)) Drt_2 ha hen hW
    ·
      exact top_run tz_mixed (fsDrT_ok n0 n1 _ (hl 0 3 g0 g1)) Drt_3 ha hen hW
    ·
      exact top_run tz_mixed (fsDrT_ok n0 n1 _ (hl 0 4 g0 g1)) Drt_4 ha hen hW
    ·
      exact top_run tz_mixed (fsDrT_ok n0 n1 _ (hl 0 5 g0 g1)) Drt_5 ha hen hW
    ·
      exact top_run tz_mixed (fsDrT_ok n0 n1 _ (hl 0 6 g0 g1)) Drt_6 ha hen hW
    ·
      exact top_run tz_mixed (fsDrT_ok n0 n1 _ (hl 0 7 g0 g1)) Drt_7 ha hen hW
    ·
      exact top_run tz_mixed (fsDrT_ok n0 n1 _ (hl 0 8 g0 g1)) Drt_8 ha hen hW
    ·
      exact top_run tz_mixed (fsDrT_ok n0 n1 _ (hl 0 9 g0 g1)) Drt_9 ha hen hW
  ·
    rcases c1 with g1 | g1 | g1 | g1 | g1 | g1 | g1 | g1 | g1 | g1
    ·
      exact top_run tz_mixed (fsDrT_ok n0 n1 _ (hl 1 0 g0 g1)) Drt_10 ha hen hW
    ·
      exact top_run tz_mixed (fsDrT_ok n0 n1 _ (hl 1 1 g0 g1)) Drt_11 ha hen hW
    ·
      exact top_run tz_mixed (fsDrT_ok n0 n1 _ (hl 1 2 g0 g1)) Drt_12 ha hen hW
    ·
      exact top_run tz_mixed (fsDrT_ok n0 n1 _ (hl 1 3 g0 g1)) Drt_13 ha hen hW
    ·
      exact top_run tz_mixed (fsDrT_ok n0 n1 _ (hl 1 4 g0 g1)) Drt_14 ha hen hW
    ·
      exact top_run tz_mixed (fsDrT_ok n0 n1 _ (hl 1 5 g0 g1)) Drt_15 ha hen hW
    ·
      exact top_run tz_mixed (fsDrT_ok n0 n1 _ (hl 1 6 g0 g1)) Drt_16 ha hen hW
    ·
      exact top_run tz_mixed (fsDrT_ok n0 n1 _ (hl 1 7 g0 g1)) Drt_17 ha hen hW
    ·
      exact top_run tz_mixed (fsDrT_ok n0 n1 _ (hl 1 8 g0 g1)) Drt_18 ha hen hW
    ·
      exact top_run tz_mixed (fsDrT_ok n0 n1 _ (hl 1 9 g0 g1)) Drt_19 ha hen hW
  ·
    rcases c1 with g1 | g1 | g1 | g1 | g1 | g1 | g1 | g1 | g1 | g1
    ·
      exact top_run tz_mixed (fsDrT_ok n0 n1 _ (hl 2 0 g0 g1)) Drt_20 ha hen hW
    ·
      exact top_run tz_mixed (fsDrT_ok n0 n1 _ (hl 2 1 g0 g1)) Drt_21 ha hen hW
    ·
      exact top_run tz_mixed (fsDrT_ok n0 n1 _ (hl 2 2 g0 g1)) Drt_22 ha hen hW
    ·
      exact top_run tz_mixed (fsDrT_ok n0 n1 _ (hl 2 3 g0 g1)) Drt_23 ha hen hW
    ·
      exact top_run tz_mixed (fsDrT_ok n0 n1 _ (hl 2 4 g0 g1)) Drt_24 ha hen hW
    ·
      exact top_run tz_mixed (fsDrT_ok n0 n1 _ (hl 2 5 g0 g1)) Drt_25 ha hen hW
    ·
      exact top_run tz_mixed (fsDrT_ok n0 n1 _ (hl 2 6 g0 g1)) Drt_26 ha hen hW
    ·
      exact top_run tz_mixed (fsDrT_ok n0 n1 _ (hl 2 7 g0 g1)) Drt_27 ha hen hW
    ·
      exact top_run tz_mixed (fsDrT_ok n0 n1 _ (hl 2 8 g0 g1)) Drt_28 ha hen hW
    ·
      exact top_run tz_mixed (fsDrT_ok n0 n1 _ (hl 2 9 g0 g1)) Drt_29 ha hen hW
  ·
    rcases c1 with g1 | g1 | g1 | g1 | g1 | g1 | g1 | g1 | g1 | g1
    ·
      exact top_run tz_mixed (fsDrT_ok n0 n1 _ (hl 3 0 g0 g1)) Drt_30 ha hen hW
    ·
      exact top_run tz_mixed (fsDrT_ok n0 n1 _ (hl 3 1 g0 g1)) Drt_31 ha hen hW
    ·
      exact top_run tz_mixed (fsDrT_ok n0 n1 _ (hl 3 2 g0 g1)) Drt_32 ha hen hW
    ·
      exact top_run tz_mixed (fsDrT_ok n0 n1 _ (hl 3 3 g0 g1)) Drt_33 ha hen hW
    ·
      exact top_run tz_mixed (fsDrT_ok n0 n1 _ (hl 3 4 g0 g1)) Drt_34 ha hen hW
    ·
      exact top_run tz_mixed (fsDrT_ok n0 n1 _ (hl 3 5 g0 g1)) Drt_35 ha hen hW
    ·
      exact top_run tz_mixed (fsDrT_ok n0 n1 _ (hl 3 6 g0 g1)) Drt_36 ha hen hW
    ·
      exact top_run tz_mixed (fsDrT_ok n0 n1 _ (hl 3 7 g0 g1)) Drt_37 ha hen hW
    ·
      exact top_run tz_mixed (fsDrT_ok n0 n1 _ (hl 3 8 g0 g1)) Drt_38 ha hen hW
    ·
      exact top_run tz_mixed (fsDrT_ok n0 n1 _ (hl 3 9 g0 g1)) Drt_39 ha hen hW
  ·
    rcases c1 with g1 | g1 | g1 | g1 | g1 | g1 | g1 | g1 | g1 | g1
    ·
      exact top_run tz_mixed (fsDrT_ok n0 n1 _ (hl 4 0 g0 g1)) Drt_40 ha hen hW
    ·
      exact top_run tz_mixed (fsDrT_ok n0 n1 _ (hl 4 1 g0 g1)) Drt_41 ha hen hW
    ·
      exact top_run tz_mixed (fsDrT_ok n0 n1 _ (hl 4 2 g0 g1)) Drt_42 ha hen hW
    ·
      exact top_run tz_mixed (fsDrT_ok n0 n1 _ (hl 4 3 g0 g1)) Drt_43 ha hen hW
    ·
      exact top_run tz_mixed (fsDrT_ok n0 n1 _ (hl 4 4 g0 g1)) Drt_44 ha hen hW
    ·
      exact top_run tz_mixed (fsDrT_ok n0 n1 _ (hl 4 5 g0 g1)) Drt_45 ha hen hW
    ·
      exact top_run tz_mixed (fsDrT_ok n0 n1 _ (hl 4 6 g0 g1)) Drt_46 ha hen hW
    ·
      exact top_run tz_mixed (fsDrT_ok n0 n1 _ (hl 4 7 g0 g1)) Drt_47 ha hen hW
    ·
      exact top_run tz_mixed (fsDrT_ok n0 n1 _ (hl 4 8 g0 g1)) Drt_48 ha hen hW
    ·
      exact top_run tz_mixed (fsDrT_ok n0 n1 _ (hl 4 9 g0 g1)) Drt_49 ha hen hW
  ·
    rcases c1 with g1 | g1 | g1 | g1 | g1 | g1 | g1 | g1 | g1 | g1
    ·
      exact top_run tz_mixed (fsDrT_ok n0 n1 _ (hl 5 0 g0 g1)) Drt_50 ha hen hW
    ·
      exact top_run tz_mixed (fsDrT_ok n0 n1 _ (hl 5 1 g0 g1)) Drt_51 ha hen hW
    ·
      exact top_run tz_mixed (fsDrT_ok n0 n1 _ (hl 5 2 g0 g1)) Drt_52 ha hen hW
    ·
      exact top_run tz_mixed (fsDrT_ok n0 n1 _ (hl 5 3 g0 g1)) Drt_53 ha hen hW
    ·
      exact top_run tz_mixed (fsDrT_ok n0 n1 _ (hl 5 4 g0 g1)) Drt_54 ha hen hW
    ·
      exact top_run tz_mixed (fsDrT_ok n0 n1 _ (hl 5 5 g0 g1)) Drt_55 ha hen hW
    ·
      exact top_run tz_mixed (fsDrT_ok n0 n1 _ (hl 5 6 g0 g1)) Drt_56 ha hen hW
    ·
      exact top_run tz_mixed (fsDrT_ok n0 n1 _ (hl 5 7 g0 g1)) Drt_57 ha hen hW
    ·
      exact top_run tz_mixed (fsDrT_ok n0 n1 _ (hl 5 8 g0 g1)) Drt_58 ha hen hW
    ·
      exact top_run tz_mixed (fsDrT_ok n0 n1 _ (hl 5 9 g0 g1)) Drt_59 ha hen hW
  ·
    rcases c1 with g1 | g1 | g1 | g1 | g1 | g1 | g1 | g1 | g1 | g1
    ·
      exact top_run tz_mixed (fsDrT_ok n0 n1 _ (hl 6 0 g0 g1)) Drt_60 ha hen hW
    ·
      exact top_run tz_mixed (fsDrT_ok n0 n1 _ (hl 6 1 g0 g1)) Drt_61 ha hen hW
    ·
      exact top_run tz_mixed (fsDrT_ok n0 n1 _ (hl 6 2 g0 g1)) Drt_62 ha hen hW
    ·
      exact top_run tz_mixed (fsDrT_ok n0 n1 _ (hl 6 3 g0 g1)) Drt_63 ha hen hW
    ·
      exact top_run tz_mixed (fsDrT_ok n0 n1 _ (hl 6 4 g0 g1)) Drt_64 ha hen hW
    ·
      exact top_run tz_mixed (fsDrT_ok n0 n1 _ (hl 6 5 g0 g1)) Drt_65 ha hen hW
    ·
      exact top_run tz_mixed (fsDrT_ok n0 n1 _ (hl 6 6 g0 g1)) Drt_66 ha hen hW
    ·
      exact top_run tz_mixed (fsDrT_ok n0 n1 _ (hl 6 7 g0 g1)) Drt_67 ha hen hW
    ·
      exact top_run tz_mixed (fsDrT_ok n0 n1 _ (hl 6 8 g0 g1)) Drt_68 ha hen hW
    ·
      exact top_run tz_mixed (fsDrT_ok n0 n1 _ (hl 6 9 g0 g1)) Drt_69 ha hen hW
  ·
    rcases c1 with g1 | g1 | g1 | g1 | g1 | g1 | g1 | g1 | g1 | g1
    ·
      exact top_run tz_mixed (fsDrT_ok n0 n1 _ (hl 7 0 g0 g1)) Drt_70 ha hen hW
    ·
      exact top_run tz_mixed (fsDrT_ok n0 n1 _ (hl 7 1 g0 g1)) Drt_71 ha hen hW
    ·
      exact top_run tz_mixed (fsDrT_ok n0 n1 _ (hl 7 2 g0 g1)) Drt_72 ha hen hW
    ·
      exact top_run tz_mixed (fsDrT_ok n0 n1 _ (hl 7 3 g0 g1)) Drt_73 ha hen hW
    ·
      exact top_run tz_mixed (fsDrT_ok n0 n1 _ (hl 7 4 g0 g1)) Drt_74 ha hen hW
    ·
      exact top_run tz_mixed (fsDrT_ok n0 n1 _ (hl 7 5 g0 g1)) Drt_75 ha hen hW
    ·
      exact top_run tz_mixed (fsDrT_ok n0 n1 _ (hl 7 6 g0 g1)) Drt_76 ha hen hW
    ·
      exact top_run tz_mixed (fsDrT_ok n0 n1 _ (hl 7 7 g0 g1)) Drt_77 ha hen hW
    ·
      exact top_run tz_mixed (fsDrT_ok n0 n1 _ (hl 7 8 g0 g1)) Drt_78 ha hen hW
    ·
      exact top_run tz_mixed (fsDrT_ok n0 n1 _ (hl 7 9 g0 g1)) Drt_79 ha hen hW
  ·
    rcases c1 with g1 | g1 | g1 | g1 | g1 | g1 | g1 | g1 | g1 | g1
    ·
      exact top_run tz_mixed (fsDrT_ok n0 n1 _ (hl 8 0 g0 g1)) Drt_80 ha hen hW
    ·
      exact top_run tz_mixed (fsDrT_ok n0 n1 _ (hl 8 1 g0 g1)) Drt_81 ha hen hW
    ·
      exact top_run tz_mixed (fsDrT_ok n0 n1 _ (hl 8 2 g0 g1)) Drt_82 ha hen hW
    ·
      exact top_run tz_mixed (fsDrT_ok n0 n1 _ (hl 8 3 g0 g1)) Drt_83 ha hen hW
    ·
      exact top_run tz_mixed (fsDrT_ok n0 n1 _ (hl 8 4 g0 g1)) Drt_84 ha hen hW
    ·
      exact top_run tz_mixed (fsDrT_ok n0 n1 _ (hl 8 5 g0 g1)) Drt_85 ha hen hW
    ·
      exact top_run tz_mixed (fsDrT_ok n0 n1 _ (hl 8 6 g0 g1)) Drt_86 ha hen hW
    ·
      exact top_run tz_mixed (fsDrT_ok n0 n1 _ (hl 8 7 g0 g1)) Drt_87 ha hen hW
    ·
      exact top_run tz_mixed (fsDrT_ok n0 n1 _ (hl 8 8 g0 g1)) Drt_88 ha hen hW
    ·
      exact top_run tz_mixed (fsDrT_ok n0 n1 _ (hl 8 9 g0 g1)) Drt_89 ha hen hW
  ·
    rcases c1 with g1 | g1 | g1 | g1 | g1 | g1 | g1 | g1 | g1 | g1
    ·
      exact top_run tz_mixed (fsDrT_ok n0 n1 _ (hl 9 0 g0 g1)) Drt_90 ha hen hW
    ·
      exact top_run tz_mixed (fsDrT_ok n0 n1 _ (hl 9 1 g0 g1)) Drt_91 ha hen hW
    ·
      exact top_run tz_mixed (fsDrT_ok n0 n1 _ (hl 9 2 g0 g1)) Drt_92 ha hen hW
    ·
      exact top_run tz_mixed (fsDrT_ok n0 n1 _ (hl 9 3 g0 g1)) Drt_93 ha hen hW
    ·
      exact top_run tz_mixed (fsDrT_ok n0 n1 _ (hl 9 4 g0 g1)) Drt_94 ha hen hW
    ·
      exact top_run tz_mixed (fsDrT_ok n0 n1 _ (hl 9 5 g0 g1)) Drt_95 ha hen hW
    ·
      exact top_run tz_mixed (fsDrT_ok n0 n1 _ (hl 9 6 g0 g1)) Drt_96 ha hen hW
    ·
      exact top_run tz_mixed (fsDrT_ok n0 n1 _ (hl 9 7 g0 g1)) Drt_97 ha hen hW
    ·
      exact top_run tz_mixed (fsDrT_ok n0 n1 _ (hl 9 8 g0 g1)) Drt_98 ha hen hW
    ·
      exact top_run tz_mixed (fsDrT_ok n0 n1 _ (hl 9 9 g0 g1)) Drt_99 ha hen hW
end Go.Av
