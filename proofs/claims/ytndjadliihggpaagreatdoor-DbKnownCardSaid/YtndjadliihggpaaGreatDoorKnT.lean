/- A part of the proof: what a machine of our own over the model's code answers is what the model does; no condition. -/
import Derived.Test.YtndjadliihggpaaGreatDoorKnE
import Derived.Test.YtndjadliihggpaaGreatDoorKnA
import Derived.Test.YtndjadliihggpaaGreatDoorRows
import Derived.Lib.LaidU8
import Derived.ProofKit
import Derived.OpenShut
import Derived.Lay
import Derived.Handed
set_option linter.all false
open Go Go.Av Go.Proofs
set_option maxRecDepth 1000000
namespace Go.Av
noncomputable def withinR (m r : Int) : List AVal → Hp → Option (AVal × Hp)
  | [.tok 0, .i .i64 x], h => ifb (eqI x m) (some (.i .i64 r, h)) none
  | _, _ => none
/-- the input, as a value that is not looked into -/
@[reducible] def tokI (n : Int) : Tok := ⟨fun _ => .int .i64 n, fun _ => rfl, fun _ _ h => nomatch h⟩
theorem within_sem (n m r : Int) (hm : 0 < m) (hm2 : m < 1000000) (hn1 : -9223372036854775808 ≤ n) (hn2 : n < 9223372036854775808) (hr : n % m = r) : letI := tokI n; SemOk Tryz.prog 10 (withinR m r) := by
  letI := tokI n
  intro args h v h' σ w args' e hargs s hg
  unfold withinR at e
  split at e
  · rename_i x
    rw [ifb_eq, eqI_eq] at e
    obtain ⟨h1, e⟩ := e
    cases e
    have h1 : x = m := by simpa using h1
    subst h1
    simp only [VRL, VR] at hargs
    obtain ⟨v1, q1, e1, rfl, v2, q2, rfl, rfl, rfl⟩ := hargs
    have ea : args' = #[.int .i64 n, .int .i64 x] := by apply Array.toList_inj.1; rw [e1]; rfl
    subst ea
    refine .inl ⟨?_, fun k => callsIn_wide.2 ((within_any n x w hm hm2 hn1 hn2).mono fun e w' ⟨he, hw⟩ => ?_)⟩
    · have hb : Tryz.f10.body.isSome = true := by kernel_rfl
      have hn : (Tryz.f10.name == "runtime.NumGoroutine") = false := noGor_at tz_gor Tryz.func10
      have hn' : ¬ Tryz.f10.name = "runtime.NumGoroutine" := by simpa using hn
      simp [callFunc, Tryz.func10, hn']
      intro h0; rw [h0] at hb; cases hb
    · subst he; subst hw
      exact ⟨σ, by simp only [VR]; rw [hr], s, Step.refl _ _ _⟩
  · cases e
noncomputable def fsT (m r : Int) (k : Nat) : Option AFun := ifb (Nat.beq k 10) (some (.sem (withinR m r))) (fs4 k)
end Go.Av
namespace Go.Av
noncomputable def isTR (x : AVal × Hp) : Bool := Option.rec false (fun b => b) (asB x.1)
noncomputable def isTr (x : Option (AVal × Hp)) : Bool := Option.rec false isTR x
end Go.Av


open Go Go.Av Go.Proofs
set_option maxRecDepth 1000000
namespace Go.Av
open Go.Proofs.YtndjadliihggpaaGreatDoor
theorem asc_type : (Tryz.prog.globals[1]?).map (fun g => Tryz.prog.underlying g.type) = some (some (.array 256 5)) := by kernel_rfl
theorem asc_named : Tryz.prog.globalNamed "strings.asciiSpace" = some 1 := by kernel_rfl
theorem u8_under : Tryz.prog.underlying 5 = some (.int .u8) := by kernel_rfl
theorem u8_cells : Tryz.prog.cellsOf 5 = 1 := by kernel_rfl
theorem asc_data : (Rows.laid_strings_asciiSpace : DataW Unit) = .agg (asc.map fun c => .lit (.int .u8 (Int.ofNat c))) := by kernel_rfl
theorem asc_len : asc.length = 256 := by kernel_rfl
theorem glob_of [Tok] {W : World} (hs : Tryz.prog.globals.size ≤ W.heap.size) (hr : Lib.VarReads Tryz.prog W "strings.asciiSpace" Rows.laid_strings_asciiSpace) : GlobW Tryz.prog GG W := by
  obtain ⟨g, t, cs, fuel, p, h1, h2, h3, h4⟩ := hr
  obtain rfl := Option.some.inj (asc_named.symm.trans h1)
  have hu : Tryz.prog.underlying t = some (.array 256 5) := by
    have := asc_type
    cases hg : Tryz.prog.globals[1]? with
    | none => rw [hg] at h2; cases h2
    | some y => rw [hg] at h2 this; cases h2; simpa using this
  obtain ⟨xs, m, _, ex, hlen, hl, hel⟩ := DataW.trod_array hu h4
  obtain ⟨el, fz, hcs⟩ : ∃ el fz, W.heap[1]? = some (Obj.cells cs el fz) := by
    simp only [World.var?, h1, Option.bind_some] at h3
    split at h3
    · rename_i c e f hc; cases h3; exact ⟨_, _, hc⟩
    · cases h3
  have e3 : xs.map (·.1) = asc.map fun c => (.lit (.int .u8 (Int.ofNat c)) : DataW Unit) := by
    have := (Prod.mk.inj ex).1
    rw [asc_data] at this
    exact (DataW.agg.inj this).symm
  have hget : ∀ r, r < 256 → cs.toList[r]? = some (Value.int .u8 (Int.ofNat (asc.getD r 0))) := by
    intro r hr
    have hE := hel r hr
    rw [u8_cells, Nat.mul_one, List.getElem?_eq_getElem (by omega)] at hE
    obtain ⟨z, e1, e2, _⟩ := DataW.trod_int u8_under hE
    have e4 : (xs.map (·.1))[r]? = (asc.map fun c => (.lit (.int .u8 (Int.ofNat c)) : DataW Unit))[r]? := by rw [e3]
    rw [List.getElem?_map, List.getElem?_map, List.getElem?_eq_getElem (by omega : r < xs.length), List.getElem?_eq_getElem (by rw [asc_len]; exact hr : r < asc.length), e2] at e4
    have hz : z = Int.ofNat (asc.getD r 0) := by
      simp only [Option.map_some, Option.some.injEq, DataW.lit.injEq, Lit.int.injEq, true_and] at e4
      rw [e4, List.getD_eq_getElem?_getD, List.getElem?_eq_getElem (by rw [asc_len]; exact hr : r < asc.length)]; rfl
    rw [← hz]
    have h0 : ((cs.toList.drop r).take 1)[0]? = some (.int .u8 z) := by rw [e1]; rfl
    simpa using h0
  have hsz : 256 ≤ cs.size := by
    have := hget 255 (by omega)
    have := (List.getElem?_eq_some_iff.1 this).1
    simp at this; omega
  refine ⟨hs, tz_lt, cs, el, fz, hcs, by show asc.length ≤ _; rw [asc_len]; exact hsz, ?_⟩
  show cs.toList.take asc.length = asc.map fun c : Nat => Value.int .u8 (Int.ofNat c)
  rw [asc_len]
  apply List.ext_getElem?
  intro r
  by_cases hr : r < 256
  · rw [List.getElem?_take, if_pos hr, hget r hr, List.getElem?_map, List.getD_eq_getElem?_getD, List.getElem?_eq_getElem (by rw [asc_len]; exact hr : r < asc.length)]; rfl
  · rw [List.getElem?_take, if_neg hr, List.getElem?_eq_none (by rw [List.length_map, asc_len]; omega)]
end Go.Av
