/- Whatever the input, DbKnown of federationlaw5 returns true and leaves its input as it was; the listed variables of Go's library hold what the program's text lays (the card ties them). -/
import Derived.Test.YtndjadliihggpaaGreatDoorKnT
import Derived.Test.YtndjadliihggpaaGreatDoorKnR
import Derived.Test.YtndjadliihggpaaGreatDoorKnF
set_option linter.all false
open Go Go.Av Go.Proofs
set_option maxRecDepth 1000000
namespace Go.Av
open Go.Proofs.YtndjadliihggpaaGreatDoor
theorem fsT_ok (n m r : Int) (hm : 0 < m) (hm2 : m < 1000000) (hn1 : -9223372036854775808 ≤ n) (hn2 : n < 9223372036854775808) (hr : n % m = r) : letI := tokI n; FsOk Tryz.prog (fsT m r) := by
  letI := tokI n
  intro k fn h
  unfold fsT at h
  rcases ifb_or h with ⟨h1, h⟩ | ⟨_, h⟩
  · cases h; rw [Nat.eq_of_beq_eq_true h1]; exact .sem (within_sem n m r hm hm2 hn1 hn2 hr)
  exact fs4_ok k fn h
theorem enters3 (args : Array Value) (w : World) : (callFunc 3 args).run Tryz.prog w = .ok (.enter 3 args) w := by
  letI := tokI 0
  have hb : Tryz.f3.body.isSome = true := by kernel_rfl
  have hn : (Tryz.f3.name == "runtime.NumGoroutine") = false := noGor_at tz_gor Tryz.func3
  have hn' : ¬ Tryz.f3.name = "runtime.NumGoroutine" := by simpa using hn
  simp [callFunc, Tryz.func3, hn']
  intro h0; rw [h0] at hb; cases hb
theorem run_top (n r : Int) (hn1 : -9223372036854775808 ≤ n) (hn2 : n < 9223372036854775808) (hr : n % 26 = r) (t : isTr (call Tryz.prog (fsT 26 r) 100000 3 [.tok 0] (hG Tryz.prog GG)) = true) {W : World} (hW : letI := tokI n; GlobW Tryz.prog GG W) :
    Calls Tryz.prog 3 #[.int .i64 n] W fun e W' => e = .returned (.bool true) ∧ Kept W W' := by
  letI := tokI n
  obtain ⟨σ, s, hg, hnt⟩ := start_sim hW
  cases hc : call Tryz.prog (fsT 26 r) 100000 3 [.tok 0] (hG Tryz.prog GG) with
  | none => rw [hc] at t; cases t
  | some x =>
    obtain ⟨v, h'⟩ := x
    rw [hc] at t
    have hv : v = .b true := by
      change Option.rec false (fun b => b) (asB v) = true at t
      cases hb : asB v with
      | none => rw [hb] at t; cases t
      | some b => rw [hb] at t; have t' : b = true := t; subst t'; exact asB_eq.1 hb
    subst hv
    have hargs : VRL σ [.tok 0] (#[Value.int .i64 n] : Array Value).toList := VRL.cons (by simp only [VR]; rfl) VRL.nil
    rcases call_sound tz_mixed (fsT_ok n 26 r (by omega) (by omega) hn1 hn2 hr) hc hargs s hg with ⟨_, h2⟩ | ⟨v', w', h1, _⟩
    · refine (callsIn_wide.1 (h2 0)).mono fun e W' hr => ?_
      cases e with
      | returned v' =>
        obtain ⟨σ', g1, g2, g3⟩ := hr
        rw [VR_b] at g1
        subst g1
        exact ⟨rfl, g3.os, g3.output, fun k hk => g3.unt k hk (fun ⟨b, x, I, hb, hx, _⟩ => hnt b x hb hx)⟩
      | panicked c => exact hr.elim
      | outgrown => exact hr.elim
    · rw [enters3] at h1; cases h1
theorem known_run (n : Int) (hn1 : -9223372036854775808 ≤ n) (hn2 : n < 9223372036854775808) {W : World} (hW : letI := tokI n; GlobW Tryz.prog GG W) :
    Calls Tryz.prog 3 #[.int .i64 n] W fun e W' => e = .returned (.bool true) ∧ Kept W W' := by
  have h : n % 26 = 0 ∨ n % 26 = 1 ∨ n % 26 = 2 ∨ n % 26 = 3 ∨ n % 26 = 4 ∨ n % 26 = 5 ∨ n % 26 = 6 ∨ n % 26 = 7 ∨ n % 26 = 8 ∨ n % 26 = 9 ∨ n % 26 = 10 ∨ n % 26 = 11 ∨ n % 26 = 12 ∨ n % 26 = 13 ∨ n % 26 = 14 ∨ n % 26 = 15 ∨ n % 26 = 16 ∨ n % 26 = 17 ∨ n % 26 = 18 ∨ n % 26 = 19 ∨ n % 26 = 20 ∨ n % 26 = 21 ∨ n % 26 = 22 ∨ n % 26 = 23 ∨ n % 26 = 24 ∨ n % 26 = 25 := by omega
  rcases h with h | h | h | h | h | h | h | h | h | h | h | h | h | h | h | h | h | h | h | h | h | h | h | h | h | h
  · exact run_top n 0 hn1 hn2 h t_0 hW
  · exact run_top n 1 hn1 hn2 h t_1 hW
  · exact run_top n 2 hn1 hn2 h t_2 hW
  · exact run_top n 3 hn1 hn2 h t_3 hW
  · exact run_top n 4 hn1 hn2 h t_4 hW
  · exact run_top n 5 hn1 hn2 h t_5 hW
  · exact run_top n 6 hn1 hn2 h t_6 hW
  · exact run_top n 7 hn1 hn2 h t_7 hW
  · exact run_top n 8 hn1 hn2 h t_8 hW
  · exact run_top n 9 hn1 hn2 h t_9 hW
  · exact run_top n 10 hn1 hn2 h t_10 hW
  · exact run_top n 11 hn1 hn2 h t_11 hW
  · exact run_top n 12 hn1 hn2 h t_12 hW
  · exact run_top n 13 hn1 hn2 h t_13 hW
  · exact run_top n 14 hn1 hn2 h t_14 hW
  · exact run_top n 15 hn1 hn2 h t_15 hW
  · exact run_top n 16 hn1 hn2 h t_16 hW
  · exact run_top n 17 hn1 hn2 h t_17 hW
  · exact run_top n 18 hn1 hn2 h t_18 hW
  · exact run_top n 19 hn1 hn2 h t_19 hW
  · exact run_top n 20 hn1 hn2 h t_20 hW
  · exact run_top n 21 hn1 hn2 h t_21 hW
  · exact run_top n 22 hn1 hn2 h t_22 hW
  · exact run_top n 23 hn1 hn2 h t_23 hW
  · exact run_top n 24 hn1 hn2 h t_24 hW
  · exact run_top n 25 hn1 hn2 h t_25 hW
end Go.Av


namespace Go.Proofs.YtndjadliihggpaaGreatDoor
open Go Go.ChangeShapes Go.WideShapes Go.ChangeAt Go.RowKit
set_option maxRecDepth 100000
section
variable {H : Type} {enc : TypeId × Value → H}
/-- with the world's shape -/
theorem returns_shaped {a : Assume} {C : Checked} {os : Os} {f : FuncId} {fn : Func} {s : ChangeSpec} {conds : List PathCond} {apart fresh handsOn again : Bool} {X : World → Array Value → Prop}
    (hX : ∀ (w w' : World) (args : Array Value), w.heap = w'.heap → X w args → X w' args)
    (own : ownKnob C.prog.godebug = none) (started : os.Started) (noInit : C.prog.inits.idxOf? f = none) (hfn : C.prog.funcs[f]? = some fn)
    (witness : ∃ (w : World) (tape : Tape) (i : Input), w.os = os ∧ (w.forCall tape i).Shaped C.prog ∧ i.vars = [] ∧ Input.okWide C.prog (w.forCall tape i) .any w.heap.size f i ∧
      ((s.pre enc C.prog fn conds apart (w.forCall tape i).memory i.args ∧ X (w.forCall tape i).memory i.args) ∧ sizedMet enc C.prog fn (OpenSpec.ofChange s) apart (w.forCall tape i).memory i.args) ∧ a.holds C.prog (lone (Frame.enter C.prog f i.args .normal) [] (w.forCall tape i)))
    (contract : ∀ (W : World) (base : Nat) (args : Array Value) (ds gs : List (DataW H)) (before : List MemPlace), W.ShapedOpen C.prog →
      (∀ (j : Nat) t v, fn.params[j]? = some t → args[j]? = some v → Value.okWide C.prog W .any base t v) →
      DataW.Whole enc C.prog fn.params.toList s.vars apart W args.toList ds gs before → X W args →
      Calls C.prog f args W fun e W' => ∃ v, e = .returned v ∧ s.post enc C.prog fn apart fresh handsOn again W args v W') :
    ReturnsInHanded a C os f .any (fun w args => (s.pre enc C.prog fn conds apart w args ∧ X w args) ∧ sizedMet enc C.prog fn (OpenSpec.ofChange s) apart w args) (s.post enc C.prog fn apart fresh handsOn again) := by
  refine returnsInHanded_of_calls own started noInit witness ?_
  intro w tape i _ hshape _ hok hpre _
  obtain ⟨_, _, _, fn', hfn', _, _, _, _, hval⟩ := hok
  have e : fn' = fn := Option.some.inj (hfn'.symm.trans hfn)
  subst e
  obtain ⟨⟨⟨ds, gs, before, hw, _⟩, hx⟩, _⟩ := hpre
  have hw' := DataW.Whole.of_heap (w' := w.forCall tape i) (by rfl) hw
  refine (contract (w.forCall tape i) w.heap.size i.args ds gs before hshape hval hw' (hX _ _ _ (by rfl) hx)).mono fun e W' ⟨v, he, hp⟩ => ?_
  subst he
  exact ChangeSpec.post_blind hp
end
theorem last_shape : (((begin Tryz.prog (fun _ _ => 0) default).world.heap[8]?).bind Obj.row?).isSome = true := by kernel_rfl
theorem glob_size : Tryz.prog.globals.size = 9 := by kernel_rfl
theorem size_of {W : World} (h : W.ShapedOpen Tryz.prog) : Tryz.prog.globals.size ≤ W.heap.size := by
  cases e : ((begin Tryz.prog (fun _ _ => 0) default).world.heap[8]?).bind Obj.row? with
  | none => have := last_shape; rw [e] at this; cases this
  | some x =>
    obtain ⟨zero, t⟩ := x
    obtain ⟨cs, h1, _⟩ := h.1 8 zero t (by rw [glob_size]; omega) e
    rw [glob_size]
    have := (Array.getElem?_eq_some_iff.1 h1).1; omega
theorem known_lifted' (os : Os) (started : os.Started) (H : Type) (enc : TypeId × Value → H) :
    ReturnsInHanded {} Tryz.checked os 3 .any (fun w args => (Rows.dbKnownSpec.pre enc Tryz.prog Tryz.f3 [] false w args ∧ laidMetH Tryz.prog Rows.dbKnownRow.laid w) ∧ sizedMet enc Tryz.prog Tryz.f3 (OpenSpec.ofChange Rows.dbKnownSpec) false w args)
      (Rows.dbKnownSpec.post enc Tryz.prog Tryz.f3 false true false false) := by
  refine returns_shaped (C := Tryz.checked) (X := fun w _ => laidMetH Tryz.prog Rows.dbKnownRow.laid w) (fun _ _ _ hh h => h.of_heap hh) own started (by kernel_rfl) Tryz.func3
    (ChangeSpec.witness_shaped (enc := enc) (C := Tryz.checked) (os := os) (X := fun w _ => laidMetH Tryz.prog Rows.dbKnownRow.laid w) false (World.laidAll Tryz.prog os Rows.dbKnownRow.laid) #[.int .i64 0] 8 (World.laidAll_os _ _ _)
      (World.shaped_of_ZipB (by kernel_rfl) (by kernel_rfl)) (by kernel_rfl) (by kernel_rfl) (by kernel_rfl)
      (by rw [MakeChecks.laidMetH_plain _ _ _ (by kernel_rfl)]; exact laidMet_laidAll _ (by kernel_rfl) (by kernel_rfl))) ?_
  intro W base args ds gs before hshape hval0 hW hL
  have hval : ∀ (j : Nat) t v, Tryz.f3.params[j]? = some t → args[j]? = some v → Value.okWide Tryz.prog W .any base t v := hval0
  have hW' := hW
  obtain ⟨p, q, hA0, hV, rfl, _, _⟩ := hW
  have hA : DataW.TrodAll enc Tryz.prog W 0 (fun _ => true) true Tryz.f3.params.toList args.toList ds p := hA0
  rw [Tryz.params3] at hA hval
  obtain ⟨v0, d0, rfl, rfl, h0⟩ := trodAll_one hA
  obtain ⟨rfl, rfl⟩ := trodVars_none hV
  obtain ⟨n, rfl, rfl, rfl, wn⟩ := open_int Tryz.underlying3 (hval 0 3 v0 rfl rfl) h0
  have hL' := hL
  rw [MakeChecks.laidMetH_plain _ _ _ (by kernel_rfl)] at hL'
  have hr := Lib.laidMet.reads hL' (n := "strings.asciiSpace") (d := Rows.laid_strings_asciiSpace) (by simp [Rows.dbKnownRow])
  have hn : -9223372036854775808 ≤ n ∧ n < 9223372036854775808 := by
    simp only [Lit.wf, IntKind.min, IntKind.max, IntKind.signed, IntKind.bits, Bool.and_eq_true, decide_eq_true_eq, if_true] at wn
    omega
  refine (Go.Av.known_run n hn.1 hn.2 (letI := Go.Av.tokI n; Go.Av.glob_of (size_of hshape) hr)).mono fun e W' ⟨he, hk⟩ => ?_
  subst he
  exact ⟨_, rfl, _, _, _, [], [], [], hW', trodAll_mk1 (shut_bool Tryz.underlying4 _), trodAll_mk1 (shut_int Tryz.underlying3 wn), rfl, hk.but _, fun h => by cases h⟩
theorem known_said : Rows.DbKnownSaid :=
  OpenClaim.holds_of_wide 3 Tryz.f3 rfl rfl rfl rfl rfl rfl rfl ⟨rfl, rfl, rfl, rfl, rfl⟩ rfl rfl rfl rfl rfl fnamed Tryz.func3 dbKnown_closed
    (of_decide_eq_true (by kernel_rfl)) (by unfold Func.isWrapper; rw [if_neg (of_decide_eq_false (by kernel_rfl))]; exact ⟨rfl, rfl⟩) (fun os started H enc _ => known_lifted' os started H enc)
theorem DbKnown_holds : Rows.DbKnownCardSaid :=
  Claim7.holds_tied_plain_at .later [] [.data, .data, .data, .data, .listed, .data, .pinned] true (true, "57101cddd19b5ffcfc9093984309bb36c54567d4e789da2cbc2610a6136134c6") false
    known_said (fun _ h => by cases h) (by kernel_rfl) (fun _ h => by cases h) dbKnown_row_tie rfl ⟨rfl, rfl⟩ (by kernel_rfl) rfl
    (fun f fn hf hfn => by
      obtain rfl : f = 3 := Option.some.inj (fnamed.symm.trans hf) |>.symm
      obtain rfl : fn = Tryz.f3 := (Option.some.inj (Tryz.func3.symm.trans hfn)).symm
      exact ⟨by kernel_rfl, fun j t ht => by
        rw [Tryz.params3] at ht
        have hm : t ∈ [3] := by simpa using Array.mem_of_getElem? ht
        have hall : ([3].all fun u => !Tryz.prog.wantsStandIn u) = true := by kernel_rfl
        exact (show Tryz.prog.wantsStandIn t = false by simpa using List.all_eq_true.1 hall t hm)⟩)
    (goes_false _ rfl)
end Go.Proofs.YtndjadliihggpaaGreatDoor
