/- A part of the proof: what a machine of our own over the model's code answers is what the model does; no condition. -/
import Derived.Test.YtglejgncbghngaaGreatDoorDoQ
import Derived.Test.YtglejgncbghngaaGreatDoorDvF
import Derived.Test.YtglejgncbghngaaGreatDoorCoS
import Derived.Deep.Slices
set_option linter.all false
namespace Go.Proofs.YtglejgncbghngaaGreatDoor
open Go Go.ChangeShapes Go.WideShapes Go.ChangeAt Go.RowKit
set_option maxRecDepth 100000
set_option linter.all false
def zOf : Value → Int
  | .int _ n => n
  | _ => 0
theorem int_cells : Tryz.prog.cellsOf 3 = 1 := by kernel_rfl
theorem cell_at {W : World} {a : Addr} {v : Value} (h : W.cell? a = some v) : ∃ arr el fz, W.heap[a.block]? = some (.cells arr el fz) ∧ a.spot = none ∧ arr[a.off]? = some v := by
  unfold World.cell? at h
  split at h
  · rename_i c el fz hc
    split at h
    · cases h
    · rename_i hs
      exact ⟨c, el, fz, hc, by simpa using hs, h⟩
  · cases h
theorem ints_range (V : Nat → Value) (Z : Nat → Int) (arr : Array Value) (off cap : Nat) (h : ∀ i, i < cap → arr[off + i]? = some (.int .i64 (Z i))) (hz : 0 < cap) :
    off + cap ≤ arr.size ∧ (arr.toList.drop off).take cap = ((List.range cap).map Z).map (Value.int .i64) := by
  have hs : off + cap ≤ arr.size := by
    have := (Array.getElem?_eq_some_iff.1 (h (cap - 1) (by omega))).1
    omega
  refine ⟨hs, ?_⟩
  apply List.ext_getElem?
  intro i
  rw [List.getElem?_take]
  by_cases hi : i < cap
  · rw [if_pos hi, List.getElem?_drop, Array.getElem?_toList, h i hi, List.getElem?_map, List.getElem?_map, List.getElem?_range hi]; rfl
  · rw [if_neg hi, List.getElem?_eq_none (by simpa using hi)]
theorem range_two (Z : Nat → Int) {len cap : Nat} (h : len ≤ cap) : (List.range cap).map Z = (List.range len).map Z ++ (List.range (cap - len)).map (fun j => Z (len + j)) := by
  rw [Go.Deep.range_split h, List.map_append, List.map_map]; rfl
theorem dumpOrder_lifted (os : Os) (started : os.Started) (H : Type) (enc : TypeId × Value → H) :
    ReturnsInHanded {} Tryz.checked os 4 .any (fun w args => (Rows.dumpOrderSpec.pre enc Tryz.prog Tryz.f4 [] false w args ∧ laidMetH Tryz.prog Rows.dumpOrderRow.laid w) ∧ sizedMet enc Tryz.prog Tryz.f4 (OpenSpec.ofChange Rows.dumpOrderSpec) false w args)
      (Rows.dumpOrderSpec.post enc Tryz.prog Tryz.f4 false true false false) := by
  refine returns_shaped (C := Tryz.checked) (X := fun w _ => laidMetH Tryz.prog Rows.dumpOrderRow.laid w) (fun _ _ _ hh h => h.of_heap hh) own started (by kernel_rfl) Tryz.func4
    (ChangeSpec.witness_shaped (enc := enc) (C := Tryz.checked) (os := os) (X := fun w _ => laidMetH Tryz.prog Rows.dumpOrderRow.laid w) false (World.laidAll Tryz.prog os Rows.dumpOrderRow.laid) #[.int .i64 0, .slice none 0 0] 8 (World.laidAll_os _ _ _)
      (World.shaped_of_ZipB (by kernel_rfl) (by kernel_rfl)) (by kernel_rfl) (by kernel_rfl) (by kernel_rfl)
      (by rw [MakeChecks.laidMetH_plain _ _ _ (by kernel_rfl)]; exact laidMet_laidAll _ (by kernel_rfl) (by kernel_rfl))) ?_
  intro W base args ds gs before hshape hval0 hW hL
  have hW' := hW
  obtain ⟨p, q, hA0, hV, rfl, _, _⟩ := hW
  have hA : DataW.TrodAll enc Tryz.prog W 0 (fun _ => true) true Tryz.f4.params.toList args.toList ds p := hA0
  have hval : ∀ (j : Nat) t v, Tryz.f4.params[j]? = some t → args[j]? = some v → Value.okWide Tryz.prog W .any base t v := hval0
  rw [Tryz.params4] at hA hval
  obtain ⟨u0, v0, c0, d0, p0, p1, rfl, rfl, rfl, q0', q0⟩ := trodAll_two hA
  obtain ⟨rfl, rfl⟩ := trodVars_none hV
  obtain ⟨n0, rfl, rfl, rfl, w0⟩ := open_int Tryz.underlying3 (hval 0 3 u0 rfl rfl) q0'
  have hn := in_word w0
  have hL' := hL
  rw [MakeChecks.laidMetH_plain _ _ _ (by kernel_rfl)] at hL'
  have hr := Lib.laidMet.reads hL' (n := "strings.asciiSpace") (d := Rows.laid_strings_asciiSpace) (by simp [Rows.dumpOrderRow])
  letI := Go.Av.tokL []
  have hG : Go.Av.GlobW Tryz.prog Go.Av.GG W := Go.Av.glob_of (size_of hshape) hr
  have fin : ∀ {W' : World}, Go.Av.Kept W W' → (∃ pa, DataW.Trod enc Tryz.prog W' 0 (fun b => decide (b < W.heap.size)) true 37 v0 d0 pa) → ∃ v, Ending.returned (.bool true) = .returned v ∧ Rows.dumpOrderSpec.post enc Tryz.prog Tryz.f4 false true false false W #[.int .i64 n0, v0] v W' := by
    rintro W' hk ⟨pa, ha⟩
    exact ⟨_, rfl, _, _, _, [], _, [], hW', trodAll_mk1 (shut_bool Tryz.underlying4 _), trodAll_mk2 (shut_int Tryz.underlying3 w0) ha, rfl, hk.but _, fun h => by cases h⟩
  obtain ⟨f0, q0⟩ := q0
  have hcs : v0.cells.toList = [v0] ∨ ∃ l, v0 = .agg l := by cases v0 <;> first | exact .inl rfl | exact .inr ⟨_, rfl⟩
  rcases hcs with hcs | ⟨l, rfl⟩
  · rw [hcs] at q0
    rcases Go.Deep.open_slice1 (P := Tryz.prog) Tryz.underlying37 int_cells q0 with ⟨e0, ex⟩ | ⟨a, len, cap, m, n, V, D, Pl, e0, hb, hl, hm, hmm, ex, hx⟩
    · cases e0
      cases ex
      refine (Go.Sy.law_nil hn hG).mono fun e W' ⟨he, hk⟩ => ?_
      subst he
      exact fin hk ⟨[], 1, by simp [DataW.trod, Tryz.underlying37, Value.cells]⟩
    · cases e0
      have hmc : m = cap := hmm
      rw [hmc] at ex hx
      have hd : d0 = .slice ((List.range len).map D) ((List.range (cap - len)).map fun j => D (len + j)) := congrArg Prod.fst ex
      subst hd
      have hz : ∀ i, i < cap → V i = .int .i64 (zOf (V i)) ∧ D i = .lit (.int .i64 (zOf (V i))) ∧ (Lit.int .i64 (zOf (V i))).wf = true := by
        intro i hi
        obtain ⟨z, e1, e2, e3⟩ := DataW.trod_int Tryz.underlying3 (hx i hi).2
        have e1 : V i = .int .i64 z := (List.cons.inj e1).1
        rw [e1]
        exact ⟨rfl, congrArg Prod.fst e2, e3⟩
      have back : ∀ {W' : World}, Go.Av.Kept W W' → (0 < cap → a.block < W.heap.size) → ∃ pa, DataW.Trod enc Tryz.prog W' 0 (fun b => decide (b < W.heap.size)) true 37 (.slice (some a) len cap) (.slice ((List.range len).map D) ((List.range (cap - len)).map fun j => D (len + j))) pa := by
        intro W' hk hbl
        by_cases hlt : a.block < W.heap.size
        · refine ⟨_, Go.Deep.shut_slice_whole (P := Tryz.prog) (spare := fun b => decide (b < W.heap.size)) Tryz.underlying37 (Nat.zero_le _) hl hm (decide_eq_true hlt) D (fun _ => []) (fun i hi => ?_)⟩
          obtain ⟨z1, z2, z3⟩ := hz i hi
          obtain ⟨k1, k2⟩ := hx i hi
          have hblk : (a.add i).block = a.block := by unfold Addr.add; split <;> rfl
          refine ⟨[V i], 1, ?_, ?_⟩
          · rw [int_cells, Nat.mul_one]
            unfold World.cells?
            have : W'.cell? (a.add i) = some (V i) := by
              rw [← k1]; unfold World.cell?; rw [hblk, hk.heap _ hlt]
            rw [if_pos (Nat.zero_le _)]
            have e0 : (a.add i).add 0 = a.add i := by simp [Addr.add]
            simp [List.range_succ, e0, this]
          · rw [z2]
            have : DataW.trod enc Tryz.prog W' 0 (fun b => decide (b < W.heap.size)) true 1 3 [V i] = some (.lit (.int .i64 (zOf (V i))), []) := by
              generalize zOf (V i) = z at z1 z3 ⊢
              rw [z1]; simp [DataW.trod, Tryz.underlying3, z3]
            exact this
        · have h0 : cap = 0 := by
            by_cases h : 0 < cap
            · exact absurd (hbl h) hlt
            · omega
          subst h0
          have h1 : len = 0 := by omega
          subst h1
          exact ⟨_, Go.Deep.shut_slice (P := Tryz.prog) (spare := fun b => decide (b < W.heap.size)) Tryz.underlying37 (Nat.zero_le _) hl hm (decide_eq_false hlt) D (fun _ => []) (fun i hi => absurd hi (Nat.not_lt_zero _))⟩
      by_cases hc0 : cap = 0
      · subst hc0
        have h1 : len = 0 := by omega
        subst h1
        refine (Go.Sy.law_empty hn hG a).mono fun e W' ⟨he, hk⟩ => ?_
        subst he
        exact fin hk (back hk (fun h => absurd h (Nat.lt_irrefl _)))
      · obtain ⟨arr, el, fz, hh, hs, ha0⟩ := cell_at (show W.cell? a = some (V 0) by have := (hx 0 (by omega)).1; simpa [Addr.add] using this)
        obtain ⟨ab, ao, asp⟩ := a
        simp only at hs hh
        subst hs
        have hat : ∀ i, i < cap → arr[ao + i]? = some (.int .i64 (zOf (V i))) := by
          intro i hi
          obtain ⟨arr2, el2, fz2, hh2, _, ha2⟩ := cell_at (hx i hi).1
          have e1 : (⟨ab, ao, none⟩ : Addr).add i = ⟨ab, ao + i, none⟩ := by
            unfold Addr.add; split
            · rename_i h; subst h; rfl
            · rfl
          rw [e1] at hh2 ha2
          simp only at hh2 ha2
          rw [hh] at hh2; cases hh2
          rw [ha2]; exact congrArg some (hz i hi).1
        obtain ⟨r1, r2⟩ := ints_range V (fun i => zOf (V i)) arr ao cap hat (by omega)
        rw [range_two _ hl] at r2
        have hlt : ab < W.heap.size := (Array.getElem?_eq_some_iff.1 hh).1
        have key := Go.Sy.law_row hn (xs := (List.range len).map fun i => zOf (V i)) (ys := (List.range (cap - len)).map fun j => zOf (V (len + j))) hG (fun x hx' => by
          obtain ⟨i, hi, rfl⟩ := List.mem_map.1 hx'
          exact in_word (hz i (by have := List.mem_range.1 hi; omega)).2.2) hh (by simp; omega) r1 r2
        rw [List.length_map, List.length_range] at key
        refine key.mono fun e W' ⟨he, hk⟩ => ?_
        subst he
        exact fin hk (back hk (fun _ => hlt))
  · exfalso
    have h := hval 1 37 (.agg l) rfl rfl
    unfold Value.okWide at h
    rw [show Tryz.prog.underlying 37 = some (.slice 3) from Tryz.underlying37] at h
    simp only [Cell.okWide, Cell.ok] at h
    rw [show Tryz.prog.underlying 37 = some (.slice 3) from Tryz.underlying37] at h
    exact h
theorem dumpOrder_said : Rows.DumpOrderSaid :=
  OpenClaim.holds_of_wide 4 Tryz.f4 rfl rfl rfl rfl rfl rfl rfl ⟨rfl, rfl, rfl, rfl, rfl⟩ rfl rfl rfl rfl rfl dumpOrder_named Tryz.func4 dumpOrder_closed
    (of_decide_eq_true (by kernel_rfl)) (by unfold Func.isWrapper; rw [if_neg (of_decide_eq_false (by kernel_rfl))]; exact ⟨rfl, rfl⟩) (fun os started H enc _ => dumpOrder_lifted os started H enc)
theorem DumpOrder_holds : Rows.DumpOrderCardSaid :=
  Claim7.holds_tied_plain_at .later [] [.data, .data, .data, .pinned, .data, .data, .listed] true (true, "9fedd28963e2d2bd93d7e5acbf230b0d3fd819c8eeb03355d41a5e3a707b4c69") false
    dumpOrder_said (fun _ h => by cases h) (by kernel_rfl) (fun _ h => by cases h) dumpOrder_row_tie rfl ⟨rfl, rfl⟩ (by kernel_rfl) rfl
    (fun f fn hf hfn => by
      obtain rfl : f = 4 := Option.some.inj (dumpOrder_named.symm.trans hf) |>.symm
      obtain rfl : fn = Tryz.f4 := (Option.some.inj (Tryz.func4.symm.trans hfn)).symm
      exact ⟨by kernel_rfl, fun j t ht => by
        rw [Tryz.params4] at ht
        have hm : t ∈ [3, 37] := by simpa using Array.mem_of_getElem? ht
        have hall : ([3, 37].all fun u => !Tryz.prog.wantsStandIn u) = true := by kernel_rfl
        exact (show Tryz.prog.wantsStandIn t = false by simpa using List.all_eq_true.1 hall t hm)⟩)
    (goes_false _ rfl)
end Go.Proofs.YtglejgncbghngaaGreatDoor
