/- A part of the proof: what a machine of our own over the model's code answers is what the model does; no condition. -/
import Derived.Test.YtnokndchdkdhbaaGreatDoorCoB
import Derived.Test.YtnokndchdkdhbaaGreatDoorMaG
import Derived.Test.YtnokndchdkdhbaaGreatDoorMaH
import Derived.Test.YtnokndchdkdhbaaGreatDoorMaI
set_option linter.all false
open Go Go.Av Go.Proofs
set_option maxRecDepth 1000000
set_option linter.all false
namespace Go.Av
theorem fsMaT_ok (n0 n1 : Int) (l : List Rem) (hl : ∀ e ∈ l, 0 < e.m ∧ e.m < 1000000 ∧ inI64 (List.getD [n0, n1] e.k 0) ∧ List.getD [n0, n1] e.k 0 % e.m = e.r) : letI := tokL [n0, n1]; FsOk Tryz.prog (fsMaT l) := by
  letI := tokL [n0, n1]
  intro k fn h
  unfold fsMaT at h
  rcases ifb_or h with ⟨h1, h⟩ | ⟨_, h⟩
  · cases h; rw [Nat.eq_of_beq_eq_true h1]; exact .sem (within_sem within_ok7 hl)
  exact fsMa5_ok k fn h
theorem Malaw_run (n0 n1 : Int) (h0 : inI64 n0) (h1 : inI64 n1) {W : World} (hW : GlobW Tryz.prog GG W) :
    Calls Tryz.prog 4 #[.int .i64 n0, .int .i64 n1] W fun e W' => e = .returned (.bool true) ∧ Kept W W' := by
  letI := tokL [n0, n1]
  have hen : ∀ (args : Array Value) (w : World), (callFunc 4 args).run Tryz.prog w = .ok (.enter 4 args) w := enters_of tz_gor Tryz.func4 (by kernel_rfl)
  have c0 : n0 % 30 = 0 ∨ n0 % 30 = 1 ∨ n0 % 30 = 2 ∨ n0 % 30 = 3 ∨ n0 % 30 = 4 ∨ n0 % 30 = 5 ∨ n0 % 30 = 6 ∨ n0 % 30 = 7 ∨ n0 % 30 = 8 ∨ n0 % 30 = 9 ∨ n0 % 30 = 10 ∨ n0 % 30 = 11 ∨ n0 % 30 = 12 ∨ n0 % 30 = 13 ∨ n0 % 30 = 14 ∨ n0 % 30 = 15 ∨ n0 % 30 = 16 ∨ n0 % 30 = 17 ∨ n0 % 30 = 18 ∨ n0 % 30 = 19 ∨ n0 % 30 = 20 ∨ n0 % 30 = 21 ∨ n0 % 30 = 22 ∨ n0 % 30 = 23 ∨ n0 % 30 = 24 ∨ n0 % 30 = 25 ∨ n0 % 30 = 26 ∨ n0 % 30 = 27 ∨ n0 % 30 = 28 ∨ n0 % 30 = 29 := by omega
  have c1 : n1 % 4 = 0 ∨ n1 % 4 = 1 ∨ n1 % 4 = 2 ∨ n1 % 4 = 3 := by omega
  have ha : ∀ σ : Sg, VRL σ [.tok 0, .tok 1] (#[.int .i64 n0, .int .i64 n1] : Array Value).toList := fun _ => VRL.cons (by simp only [VR]; rfl) (VRL.cons (by simp only [VR]; rfl) (VRL.nil))
  have hl : ∀ r0 r1 : Int, n0 % 30 = r0 → n1 % 4 = r1 → ∀ e ∈ ([⟨0, 30, r0⟩, ⟨1, 4, r1⟩] : List Rem), 0 < e.m ∧ e.m < 1000000 ∧ inI64 (List.getD [n0, n1] e.k 0) ∧ List.getD [n0, n1] e.k 0 % e.m = e.r := by
    intro r0 r1 g0 g1 e he
    simp only [List.mem_cons, List.mem_nil_iff, or_false] at he
    rcases he with rfl | rfl
    · exact ⟨(by show (0 : Int) < 30; decide), (by show (30 : Int) < 1000000; decide), h0, g0⟩
    · exact ⟨(by show (0 : Int) < 4; decide), (by show (4 : Int) < 1000000; decide), h1, g1⟩
  rcases c0 with g0 | g0 | g0 | g0 | g0 | g0 | g0 | g0 | g0 | g0 | g0 | g0 | g0 | g0 | g0 | g0 | g0 | g0 | g0 | g0 | g0 | g0 | g0 | g0 | g0 | g0 | g0 | g0 | g0 | g0
  ·
    rcases c1 with g1 | g1 | g1 | g1
    ·
      exact top_run tz_mixed (fsMaT_ok n0 n1 _ (hl 0 0 g0 g1)) Mat_0 ha hen hW
    ·
      exact top_run tz_mixed (fsMaT_ok n0 n1 _ (hl 0 1 g0 g1)) Mat_1 ha hen hW
    ·
      exact top_run tz_mixed (fsMaT_ok n0 n1 _ (hl 0 2 g0 g1)) Mat_2 ha hen hW
    ·
      exact top_run tz_mixed (fsMaT_ok n0 n1 _ (hl 0 3 g0 g1)) Mat_3 ha hen hW
  ·
    rcases c1 with g1 | g1 | g1 | g1
    ·
      exact top_run tz_mixed (fsMaT_ok n0 n1 _ (hl 1 0 g0 g1)) Mat_4 ha hen hW
    ·
      exact top_run tz_mixed (fsMaT_ok n0 n1 _ (hl 1 1 g0 g1)) Mat_5 ha hen hW
    ·
      exact top_run tz_mixed (fsMaT_ok n0 n1 _ (hl 1 2 g0 g1)) Mat_6 ha hen hW
    ·
      exact top_run tz_mixed (fsMaT_ok n0 n1 _ (hl 1 3 g0 g1)) Mat_7 ha hen hW
  ·
    rcases c1 with g1 | g1 | g1 | g1
    ·
      exact top_run tz_mixed (fsMaT_ok n0 n1 _ (hl 2 0 g0 g1)) Mat_8 ha hen hW
    ·
      exact top_run tz_mixed (fsMaT_ok n0 n1 _ (hl 2 1 g0 g1)) Mat_9 ha hen hW
    ·
      exact top_run tz_mixed (fsMaT_ok n0 n1 _ (hl 2 2 g0 g1)) Mat_10 ha hen hW
    ·
      exact top_run tz_mixed (fsMaT_ok n0 n1 _ (hl 2 3 g0 g1)) Mat_11 ha hen hW
  ·
    rcases c1 with g1 | g1 | g1 | g1
    ·
      exact top_run tz_mixed (fsMaT_ok n0 n1 _ (hl 3 0 g0 g1)) Mat_12 ha hen hW
    ·
      exact top_run tz_mixed (fsMaT_ok n0 n1 _ (hl 3 1 g0 g1)) Mat_13 ha hen hW
    ·
      exact top_run tz_mixed (fsMaT_ok n0 n1 _ (hl 3 2 g0 g1)) Mat_14 ha hen hW
    ·
      exact top_run tz_mixed (fsMaT_ok n0 n1 _ (hl 3 3 g0 g1)) Mat_15 ha hen hW
  ·
    rcases c1 with g1 | g1 | g1 | g1
    ·
      exact top_run tz_mixed (fsMaT_ok n0 n1 _ (hl 4 0 g0 g1)) Mat_16 ha hen hW
    ·
      exact top_run tz_mixed (fsMaT_ok n0 n1 _ (hl 4 1 g0 g1)) Mat_17 ha hen hW
    ·
      exact top_run tz_mixed (fsMaT_ok n0 n1 _ (hl 4 2 g0 g1)) Mat_18 ha hen hW
    ·
      exact top_run tz_mixed (fsMaT_ok n0 n1 _ (hl 4 3 g0 g1)) Mat_19 ha hen hW
  ·
    rcases c1 with g1 | g1 | g1 | g1
    ·
      exact top_run tz_mixed (fsMaT_ok n0 n1 _ (hl 5 0 g0 g1)) Mat_20 ha hen hW
    ·
      exact top_run tz_mixed (fsMaT_ok n0 n1 _ (hl 5 1 g0 g1)) Mat_21 ha hen hW
    ·
      exact top_run tz_mixed (fsMaT_ok n0 n1 _ (hl 5 2 g0 g1)) Mat_22 ha hen hW
    ·
      exact top_run tz_mixed (fsMaT_ok n0 n1 _ (hl 5 3 g0 g1)) Mat_23 ha hen hW
  ·
    rcases c1 with g1 | g1 | g1 | g1
    ·
      exact top_run tz_mixed (fsMaT_ok n0 n1 _ (hl 6 0 g0 g1)) Mat_24 ha hen hW
    ·
      exact top_run tz_mixed (fsMaT_ok n0 n1 _ (hl 6 1 g0 g1)) Mat_25 ha hen hW
    ·
      exact top_run tz_mixed (fsMaT_ok n0 n1 _ (hl 6 2 g0 g1)) Mat_26 ha hen hW
    ·
      exact top_run tz_mixed (fsMaT_ok n0 n1 _ (hl 6 3 g0 g1)) Mat_27 ha hen hW
  ·
    rcases c1 with g1 | g1 | g1 | g1
    ·
      exact top_run tz_mixed (fsMaT_ok n0 n1 _ (hl 7 0 g0 g1)) Mat_28 ha hen hW
    ·
      exact top_run tz_mixed (fsMaT_ok n0 n1 _ (hl 7 1 g0 g1)) Mat_29 ha hen hW
    ·
      exact top_run tz_mixed (fsMaT_ok n0 n1 _ (hl 7 2 g0 g1)) Mat_30 ha hen hW
    ·
      exact top_run tz_mixed (fsMaT_ok n0 n1 _ (hl 7 3 g0 g1)) Mat_31 ha hen hW
  ·
    rcases c1 with g1 | g1 | g1 | g1
    ·
      exact top_run tz_mixed (fsMaT_ok n0 n1 _ (hl 8 0 g0 g1)) Mat_32 ha hen hW
    ·
      exact top_run tz_mixed (fsMaT_ok n0 n1 _ (hl 8 1 g0 g1)) Mat_33 ha hen hW
    ·
      exact top_run tz_mixed (fsMaT_ok n0 n1 _ (hl 8 2 g0 g1)) Mat_34 ha hen hW
    ·
      exact top_run tz_mixed (fsMaT_ok n0 n1 _ (hl 8 3 g0 g1)) Mat_35 ha hen hW
  ·
    rcases c1 with g1 | g1 | g1 | g1
    ·
      exact top_run tz_mixed (fsMaT_ok n0 n1 _ (hl 9 0 g0 g1)) Mat_36 ha hen hW
    ·
      exact top_run tz_mixed (fsMaT_ok n0 n1 _ (hl 9 1 g0 g1)) Mat_37 ha hen hW
    ·
      exact top_run tz_mixed (fsMaT_ok n0 n1 _ (hl 9 2 g0 g1)) Mat_38 ha hen hW
    ·
      exact top_run tz_mixed (fsMaT_ok n0 n1 _ (hl 9 3 g0 g1)) Mat_39 ha hen hW
  ·
    rcases c1 with g1 | g1 | g1 | g1
    ·
      exact top_run tz_mixed (fsMaT_ok n0 n1 _ (hl 10 0 g0 g1)) Mat_40 ha hen hW
    ·
      exact top_run tz_mixed (fsMaT_ok n0 n1 _ (hl 10 1 g0 g1)) Mat_41 ha hen hW
    ·
      exact top_run tz_mixed (fsMaT_ok n0 n1 _ (hl 10 2 g0 g1)) Mat_42 ha hen hW
    ·
      exact top_run tz_mixed (fsMaT_ok n0 n1 _ (hl 10 3 g0 g1)) Mat_43 ha hen hW
  ·
    rcases c1 with g1 | g1 | g1 | g1
    ·
      exact top_run tz_mixed (fsMaT_ok n0 n1 _ (hl 11 0 g0 g1)) Mat_44 ha hen hW
    ·
      exact top_run tz_mixed (fsMaT_ok n0 n1 _ (hl 11 1 g0 g1)) Mat_45 ha hen hW
    ·
      exact top_run tz_mixed (fsMaT_ok n0 n1 _ (hl 11 2 g0 g1)) Mat_46 ha hen hW
    ·
      exact top_run tz_mixed (fsMaT_ok n0 n1 _ (hl 11 3 g0 g1)) Mat_47 ha hen hW
  ·
    rcases c1 with g1 | g1 | g1 | g1
    ·
      exact top_run tz_mixed (fsMaT_ok n0 n1 _ (hl 12 0 g0 g1)) Mat_48 ha hen hW
    ·
      exact top_run tz_mixed (fsMaT_ok n0 n1 _ (hl 12 1 g0 g1)) Mat_49 ha hen hW
    ·
      exact top_run tz_mixed (fsMaT_ok n0 n1 _ (hl 12 2 g0 g1)) Mat_50 ha hen hW
    ·
      exact top_run tz_mixed (fsMaT_ok n0 n1 _ (hl 12 3 g0 g1)) Mat_51 ha hen hW
  ·
    rcases c1 with g1 | g1 | g1 | g1
    ·
      exact top_run tz_mixed (fsMaT_ok n0 n1 _ (hl 13 0 g0 g1)) Mat_52 ha hen hW
    ·
      exact top_run tz_mixed (fsMaT_ok n0 n1 _ (hl 13 1 g0 g1)) Mat_53 ha hen hW
    ·
      exact top_run tz_mixed (fsMaT_ok n0 n1 _ (hl 13 2 g0 g1)) Mat_54 ha hen hW
    ·
      exact top_run tz_mixed (fsMaT_ok n0 n1 _ (hl 13 3 g0 g1)) Mat_55 ha hen hW
  ·
    rcases c1 with g1 | g1 | g1 | g1
    ·
      exact top_run tz_mixed (fsMaT_ok n0 n1 _ (hl 14 0 g0 g1)) Mat_56 ha hen hW
    ·
      exact top_run tz_mixed (fsMaT_ok n0 n1 _ (hl 14 1 g0 g1)) Mat_57 ha hen hW
    ·
      exact top_run tz_mixed (fsMaT_ok n0 n1 _ (hl 14 2 g0 g1)) Mat_58 ha hen hW
    ·
      exact top_run tz_mixed (fsMaT_ok n0 n1 _ (hl 14 3 g0 g1)) Mat_59 ha hen hW
  ·
    rcases c1 with g1 | g1 | g1 | g1
    ·
      exact top_run tz_mixed (fsMaT_ok n0 n1 _ (hl 15 0 g0 g1)) Mat_60 ha hen hW
    ·
      exact top_run tz_mixed (fsMaT_ok n0 n1 _ (hl 15 1 g0 g1)) Mat_61 ha hen hW
    ·
      exact top_run tz_mixed (fsMaT_ok n0 n1 _ (hl 15 2 g0 g1)) Mat_62 ha hen hW
    ·
      exact top_run tz_mixed (fsMaT_ok n0 n1 _ (hl 15 3 g0 g1)) Mat_63 ha hen hW
  ·
    rcases c1 with g1 | g1 | g1 | g1
    ·
      exact top_run tz_mixed (fsMaT_ok n0 n1 _ (hl 16 0 g0 g1)) Mat_64 ha hen hW
    ·
      exact top_run tz_mixed (fsMaT_ok n0 n1 _ (hl 16 1 g0 g1)) Mat_65 ha hen hW
    ·
      exact top_run tz_mixed (fsMaT_ok n0 n1 _ (hl 16 2 g0 g1)) Mat_66 ha hen hW
    ·
      exact top_run tz_mixed (fsMaT_ok n0 n1 _ (hl 16 3 g0 g1)) Mat_67 ha hen hW
  ·
    rcases c1 with g1 | g1 | g1 | g1
    ·
      exact top_run tz_mixed (fsMaT_ok n0 n1 _ (hl 17 0 g0 g1)) Mat_68 ha hen hW
    ·
      exact top_run tz_mixed (fsMaT_ok n0 n1 _ (hl 17 1 g0 g1)) Mat_69 ha hen hW
    ·
      exact top_run tz_mixed (fsMaT_ok n0 n1 _ (hl 17 2 g0 g1)) Mat_70 ha hen hW
    ·
      exact top_run tz_mixed (fsMaT_ok n0 n1 _ (hl 17 3 g0 g1)) Mat_71 ha hen hW
  ·
    rcases c1 with g1 | g1 | g1 | g1
    ·
      exact top_run tz_mixed (fsMaT_ok n0 n1 _ (hl 18 0 g0 g1)) Mat_72 ha hen hW
    ·
      exact top_run tz_mixed (fsMaT_ok n0 n1 _ (hl 18 1 g0 g1)) Mat_73 ha hen hW
    ·
      exact top_run tz_mixed (fsMaT_ok n0 n1 _ (hl 18 2 g0 g1)) Mat_74 ha hen hW
    ·
      exact top_run tz_mixed (fsMaT_ok n0 n1 _ (hl 18 3 g0 g1)) Mat_75 ha hen hW
  ·
    rcases c1 with g1 | g1 | g1 | g1
    ·
      exact top_run tz_mixed (fsMaT_ok n0 n1 _ (hl 19 0 g0 g1)) Mat_76 ha hen hW
    ·
      exact top_run tz_mixed (fsMaT_ok n0 n1 _ (hl 19 1 g0 g1)) Mat_77 ha hen hW
    ·
      exact top_run tz_mixed (fsMaT_ok n0 n1 _ (hl 19 2 g0 g1)) Mat_78 ha hen hW
    ·
      exact top_run tz_mixed (fsMaT_ok n0 n1 _ (hl 19 3 g0 g1)) Mat_79 ha hen hW
  ·
    rcases c1 with g1 | g1 | g1 | g1
    ·
      exact top_run tz_mixed (fsMaT_ok n0 n1 _ (hl 20 0 g0 g1)) Mat_80 ha hen hW
    ·
      exact top_run tz_mixed (fsMaT_ok n0 n1 _ (hl 20 1 g0 g1)) Mat_81 ha hen hW
    ·
      exact top_run tz_mixed (fsMaT_ok n0 n1 _ (hl 20 2 g0 g1)) Mat_82 ha hen hW
    ·
      exact top_run tz_mixed (fsMaT_ok n0 n1 _ (hl 20 3 g0 g1)) Mat_83 ha hen hW
  ·
    rcases c1 with g1 | g1 | g1 | g1
    ·
      exact top_run tz_mixed (fsMaT_ok n0 n1 _ (hl 21 0 g0 g1)) Mat_84 ha hen hW
    ·
      exact top_run tz_mixed (fsMaT_ok n0 n1 _ (hl 21 1 g0 g1)) Mat_85 ha hen hW
    ·
      exact top_run tz_mixed (fsMaT_ok n0 n1 _ (hl 21 2 g0 g1)) Mat_86 ha hen hW
    ·
      exact top_run tz_mixed (fsMaT_ok n0 n1 _ (hl 21 3 g0 g1)) Mat_87 ha hen hW
  ·
    rcases c1 with g1 | g1 | g1 | g1
    ·
      exact top_run tz_mixed (fsMaT_ok n0 n1 _ (hl 22 0 g0 g1)) Mat_88 ha hen hW
    ·
      exact top_run tz_mixed (fsMaT_ok n0 n1 _ (hl 22 1 g0 g1)) Mat_89 ha hen hW
    ·
      exact top_run tz_mixed (fsMaT_ok n0 n1 _ (hl 22 2 g0 g1)) Mat_90 ha hen hW
    ·
      exact top_run tz_mixed (fsMaT_ok n0 n1 _ (hl 22 3 g0 g1)) Mat_91 ha hen hW
  ·
    rcases c1 with g1 | g1 | g1 | g1
    ·
      exact top_run tz_mixed (fsMaT_ok n0 n1 _ (hl 23 0 g0 g1)) Mat_92 ha hen hW
    ·
      exact top_run tz_mixed (fsMaT_ok n0 n1 _ (hl 23 1 g0 g1)) Mat_93 ha hen hW
    ·
      exact top_run tz_mixed (fsMaT_ok n0 n1 _ (hl 23 2 g0 g1)) Mat_94 ha hen hW
    ·
      exact top_run tz_mixed (fsMaT_ok n0 n1 _ (hl 23 3 g0 g1)) Mat_95 ha hen hW
  ·
    rcases c1 with g1 | g1 | g1 | g1
    ·
      exact top_run tz_mixed (fsMaT_ok n0 n1 _ (hl 24 0 g0 g1)) Mat_96 ha hen hW
    ·
      exact top_run tz_mixed (fsMaT_ok n0 n1 _ (hl 24 1 g0 g1)) Mat_97 ha hen hW
    ·
      exact top_run tz_mixed (fsMaT_ok n0 n1 _ (hl 24 2 g0 g1)) Mat_98 ha hen hW
    ·
      exact top_run tz_mixed (fsMaT_ok n0 n1 _ (hl 24 3 g0 g1)) Mat_99 ha hen hW
  ·
    rcases c1 with g1 | g1 | g1 | g1
    ·
      exact top_run tz_mixed (fsMaT_ok n0 n1 _ (hl 25 0 g0 g1)) Mat_100 ha hen hW
    ·
      exact top_run tz_mixed (fsMaT_ok n0 n1 _ (hl 25 1 g0 g1)) Mat_101 ha hen hW
    ·
      exact top_run tz_mixed (fsMaT_ok n0 n1 _ (hl 25 2 g0 g1)) Mat_102 ha hen hW
    ·
      exact top_run tz_mixed (fsMaT_ok n0 n1 _ (hl 25 3 g0 g1)) Mat_103 ha hen hW
  ·
    rcases c1 with g1 | g1 | g1 | g1
    ·
      exact top_run tz_mixed (fsMaT_ok n0 n1 _ (hl 26 0 g0 g1)) Mat_104 ha hen hW
    ·
      exact top_run tz_mixed (fsMaT_ok n0 n1 _ (hl 26 1 g0 g1)) Mat_105 ha hen hW
    ·
      exact top_run tz_mixed (fsMaT_ok n0 n1 _ (hl 26 2 g0 g1)) Mat_106 ha hen hW
    ·
      exact top_run tz_mixed (fsMaT_ok n0 n1 _ (hl 26 3 g0 g1)) Mat_107 ha hen hW
  ·
    rcases c1 with g1 | g1 | g1 | g1
    ·
      exact top_run tz_mixed (fsMaT_ok n0 n1 _ (hl 27 0 g0 g1)) Mat_108 ha hen hW
    ·
      exact top_run tz_mixed (fsMaT_ok n0 n1 _ (hl 27 1 g0 g1)) Mat_109 ha hen hW
    ·
      exact top_run tz_mixed (fsMaT_ok n0 n1 _ (hl 27 2 g0 g1)) Mat_110 ha hen hW
    ·
      exact top_run tz_mixed (fsMaT_ok n0 n1 _ (hl 27 3 g0 g1)) Mat_111 ha hen hW
  ·
    rcases c1 with g1 | g1 | g1 | g1
    ·
      exact top_run tz_mixed (fsMaT_ok n0 n1 _ (hl 28 0 g0 g1)) Mat_112 ha hen hW
    ·
      exact top_run tz_mixed (fsMaT_ok n0 n1 _ (hl 28 1 g0 g1)) Mat_113 ha hen hW
    ·
      exact top_run tz_mixed (fsMaT_ok n0 n1 _ (hl 28 2 g0 g1)) Mat_114 ha hen hW
    ·
      exact top_run tz_mixed (fsMaT_ok n0 n1 _ (hl 28 3 g0 g1)) Mat_115 ha hen hW
  ·
    rcases c1 with g1 | g1 | g1 | g1
    ·
      exact top_run tz_mixed (fsMaT_ok n0 n1 _ (hl 29 0 g0 g1)) Mat_116 ha hen hW
    ·
      exact top_run tz_mixed (fsMaT_ok n0 n1 _ (hl 29 1 g0 g1)) Mat_117 ha hen hW
    ·
      exact top_run tz_mixed (fsMaT_ok n0 n1 _ (hl 29 2 g0 g1)) Mat_118 ha hen hW
    ·
      exact top_run tz_mixed (fsMaT_ok n0 n1 _ (hl 29 3 g0 g1)) Mat_119 ha hen hW
end Go.Av
