/- A part of the proof: what a machine of our own over the model's code answers is what the model does; no condition. -/
import Derived.Test.YtndjadliihggpaaGreatDoorCiR
import Derived.Test.YtndjadliihggpaaGreatDoorCiF
set_option linter.all false
open Go Go.Av Go.Proofs
set_option maxRecDepth 1000000
namespace Go.Av
theorem tvA {no other sp A B : Int} : TV (fvalT no other sp A B) tA (.int .i64 A) := by
  have h := TV.tok (val := fvalT no other sp A B) (3 + 1000000)
  rw [fvalT_3] at h
  have e : fval A B (fdec 1000000) = A := by simp [fval, fdec]
  rw [e] at h; exact h
theorem tvB {no other sp A B : Int} : TV (fvalT no other sp A B) tB (.int .i64 B) := by
  have h := TV.tok (val := fvalT no other sp A B) (3 + 1000000000)
  rw [fvalT_3] at h
  have e : fval A B (fdec 1000000000) = B := by simp [fval, fdec]
  rw [e] at h; exact h
theorem law_run (no other sp : Int) (h0 : inI64 no) (h1 : inI64 other) (h2 : inI64 sp) {W : World} (hW : GlobW Tryz.prog GG W) :
    Calls Tryz.prog 8 #[.int .i64 no, .int .i64 other, .int .i64 sp] W fun e W' => e = .returned (.bool true) ∧ Kept W W' := by
  have hen : ∀ (args : Array Value) (w : World), (callFunc 8 args).run Tryz.prog w = .ok (.enter 8 args) w := (letI := tokL []; Go.Av.enters_of tz_gor Tryz.func8 (by kernel_rfl))
  have cs : sp % 5 = 0 ∨ sp % 5 = 1 ∨ sp % 5 = 2 ∨ sp % 5 = 3 ∨ sp % 5 = 4 := by omega
  have hA : 0 ≤ no % 999 ∧ no % 999 < 1000 := by omega
  have hB : 0 ≤ other % 999 ∧ other % 999 < 1000 := by omega
  by_cases hne : no % 999 = other % 999
  · letI := tokF no other sp (no % 999) (other % 999) false hA hB (fun h => by cases h)
    have hl : ∀ r : Int, sp % 5 = r → ∀ e ∈ ([⟨0, 999, tA⟩, ⟨1, 999, tA⟩, ⟨2, 5, .i .i64 r⟩] : List RemT), RemOk e := by
      intro r hr e he
      simp only [List.mem_cons, List.mem_nil_iff, or_false] at he
      rcases he with rfl | rfl | rfl
      · exact ⟨no, by decide, by decide, h0, rfl, tvA⟩
      · exact ⟨other, by decide, by decide, h1, rfl, by rw [← hne]; exact tvA⟩
      · exact ⟨sp, (by show (0 : Int) < 5; decide), (by show (5 : Int) < 1000000; decide), h2, rfl, by rw [hr]; exact .i _ _⟩
    have ha : ∀ σ : Sg, VRL σ [.tok 0, .tok 1, .tok 2] (#[.int .i64 no, .int .i64 other, .int .i64 sp] : Array Value).toList := fun σ => VRL.cons (by simp only [VR]; rfl) (VRL.cons (by simp only [VR]; rfl) (VRL.cons (by simp only [VR]; rfl) VRL.nil))
    rcases cs with g | g | g | g | g
    · exact top_run tz_mixed (fsG_ok _ (hl 0 g)) (ci_0f _ _ _ _ _ hA hB _) ha hen hW
    · exact top_run tz_mixed (fsG_ok _ (hl 1 g)) (ci_1f _ _ _ _ _ hA hB _) ha hen hW
    · exact top_run tz_mixed (fsG_ok _ (hl 2 g)) (ci_2f _ _ _ _ _ hA hB _) ha hen hW
    · exact top_run tz_mixed (fsG_ok _ (hl 3 g)) (ci_3f _ _ _ _ _ hA hB _) ha hen hW
    · exact top_run tz_mixed (fsG_ok _ (hl 4 g)) (ci_4f _ _ _ _ _ hA hB _) ha hen hW
  · letI := tokF no other sp (no % 999) (other % 999) true hA hB (fun _ => hne)
    have hl : ∀ r : Int, sp % 5 = r → ∀ e ∈ ([⟨0, 999, tA⟩, ⟨1, 999, tB⟩, ⟨2, 5, .i .i64 r⟩] : List RemT), RemOk e := by
      intro r hr e he
      simp only [List.mem_cons, List.mem_nil_iff, or_false] at he
      rcases he with rfl | rfl | rfl
      · exact ⟨no, by decide, by decide, h0, rfl, tvA⟩
      · exact ⟨other, by decide, by decide, h1, rfl, tvB⟩
      · exact ⟨sp, (by show (0 : Int) < 5; decide), (by show (5 : Int) < 1000000; decide), h2, rfl, by rw [hr]; exact .i _ _⟩
    have ha : ∀ σ : Sg, VRL σ [.tok 0, .tok 1, .tok 2] (#[.int .i64 no, .int .i64 other, .int .i64 sp] : Array Value).toList := fun σ => VRL.cons (by simp only [VR]; rfl) (VRL.cons (by simp only [VR]; rfl) (VRL.cons (by simp only [VR]; rfl) VRL.nil))
    rcases cs with g | g | g | g | g
    · exact top_run tz_mixed (fsG_ok _ (hl 0 g)) (ci_0t _ _ _ _ _ hA hB _) ha hen hW
    · exact top_run tz_mixed (fsG_ok _ (hl 1 g)) (ci_1t _ _ _ _ _ hA hB _) ha hen hW
    · exact top_run tz_mixed (fsG_ok _ (hl 2 g)) (ci_2t _ _ _ _ _ hA hB _) ha hen hW
    · exact top_run tz_mixed (fsG_ok _ (hl 3 g)) (ci_3t _ _ _ _ _ hA hB _) ha hen hW
    · exact top_run tz_mixed (fsG_ok _ (hl 4 g)) (ci_4t _ _ _ _ _ hA hB _) ha hen hW
end Go.Av


namespace Go.Proofs.YtndjadliihggpaaGreatDoor
open Go Go.ChangeShapes Go.WideShapes Go.ChangeAt Go.RowKit
set_option maxRecDepth 100000
theorem coordIds_lifted (os : Os) (started : os.Started) (H : Type) (enc : TypeId × Value → H) :
    ReturnsInHanded {} Tryz.checked os 8 .any (fun w args => (Rows.coordIdsSpec.pre enc Tryz.prog Tryz.f8 [] false w args ∧ laidMetH Tryz.prog Rows.coordIdsRow.laid w) ∧ sizedMet enc Tryz.prog Tryz.f8 (OpenSpec.ofChange Rows.coordIdsSpec) false w args)
      (Rows.coordIdsSpec.post enc Tryz.prog Tryz.f8 false true false false) := by
  refine returns_shaped (C := Tryz.checked) (X := fun w _ => laidMetH Tryz.prog Rows.coordIdsRow.laid w) (fun _ _ _ hh h => h.of_heap hh) own started (by kernel_rfl) Tryz.func8
    (ChangeSpec.witness_shaped (enc := enc) (C := Tryz.checked) (os := os) (X := fun w _ => laidMetH Tryz.prog Rows.coordIdsRow.laid w) false (World.laidAll Tryz.prog os Rows.coordIdsRow.laid) #[.int .i64 0, .int .i64 0, .int .i64 0] 8 (World.laidAll_os _ _ _)
      (World.shaped_of_ZipB (by kernel_rfl) (by kernel_rfl)) (by kernel_rfl) (by kernel_rfl) (by kernel_rfl)
      (by rw [MakeChecks.laidMetH_plain _ _ _ (by kernel_rfl)]; exact laidMet_laidAll _ (by kernel_rfl) (by kernel_rfl))) ?_
  intro W base args ds gs before hshape hval0 hW hL
  have hval : ∀ (j : Nat) t v, Tryz.f8.params[j]? = some t → args[j]? = some v → Value.okWide Tryz.prog W .any base t v := hval0
  have hW' := hW
  obtain ⟨p, q, hA0, hV, rfl, _, _⟩ := hW
  have hA : DataW.TrodAll enc Tryz.prog W 0 (fun _ => true) true Tryz.f8.params.toList args.toList ds p := hA0
  rw [Tryz.params8] at hA hval
  obtain ⟨v0, v1, v2, d0, d1, d2, p0, p1, p2, rfl, rfl, rfl, q0, q1, q2⟩ := trodAll_three hA
  obtain ⟨rfl, rfl⟩ := trodVars_none hV
  obtain ⟨n0, rfl, rfl, rfl, w0⟩ := open_int Tryz.underlying3 (hval 0 3 v0 rfl rfl) q0
  obtain ⟨n1, rfl, rfl, rfl, w1⟩ := open_int Tryz.underlying3 (hval 1 3 v1 rfl rfl) q1
  obtain ⟨n2, rfl, rfl, rfl, w2⟩ := open_int Tryz.underlying3 (hval 2 3 v2 rfl rfl) q2
  have hL' := hL
  rw [MakeChecks.laidMetH_plain _ _ _ (by kernel_rfl)] at hL'
  have hr := Lib.laidMet.reads hL' (n := "strings.asciiSpace") (d := Rows.laid_strings_asciiSpace) (by simp [Rows.coordIdsRow])
  refine (Go.Av.law_run n0 n1 n2 (in_word w0) (in_word w1) (in_word w2) (letI := Go.Av.tokL []; Go.Av.glob_of (size_of hshape) hr)).mono fun e W' ⟨he, hk⟩ => ?_
  subst he
  exact ⟨_, rfl, _, _, _, [], [], [], hW', trodAll_mk1 (shut_bool Tryz.underlying4 _), trodAll_mk3 (shut_int Tryz.underlying3 w0) (shut_int Tryz.underlying3 w1) (shut_int Tryz.underlying3 w2), rfl, hk.but _, fun h => by cases h⟩
theorem coordIds_said : Rows.CoordIdsSaid :=
  OpenClaim.holds_of_wide 8 Tryz.f8 rfl rfl rfl rfl rfl rfl rfl ⟨rfl, rfl, rfl, rfl, rfl⟩ rfl rfl rfl rfl rfl coordIds_named Tryz.func8 coordIds_closed
    (of_decide_eq_true (by kernel_rfl)) (by unfold Func.isWrapper; rw [if_neg (of_decide_eq_false (by kernel_rfl))]; exact ⟨rfl, rfl⟩) (fun os started H enc _ => coordIds_lifted os started H enc)
theorem CoordIds_holds : Rows.CoordIdsCardSaid :=
  Claim7.holds_tied_plain_at .later [] [.data, .data, .data, .data, .listed, .data, .pinned] true (true, "57101cddd19b5ffcfc9093984309bb36c54567d4e789da2cbc2610a6136134c6") false
    coordIds_said (fun _ h => by cases h) (by kernel_rfl) (fun _ h => by cases h) coordIds_row_tie rfl ⟨rfl, rfl⟩ (by kernel_rfl) rfl
    (fun f fn hf hfn => by
      obtain rfl : f = 8 := Option.some.inj (coordIds_named.symm.trans hf) |>.symm
      obtain rfl : fn = Tryz.f8 := (Option.some.inj (Tryz.func8.symm.trans hfn)).symm
      exact ⟨by kernel_rfl, fun j t ht => by
        rw [Tryz.params8] at ht
        have hm : t ∈ [3, 3, 3] := by simpa using Array.mem_of_getElem? ht
        have hall : ([3, 3, 3].all fun u => !Tryz.prog.wantsStandIn u) = true := by kernel_rfl
        exact (show Tryz.prog.wantsStandIn t = false by simpa using List.all_eq_true.1 hall t hm)⟩)
    (goes_false _ rfl)
end Go.Proofs.YtndjadliihggpaaGreatDoor
