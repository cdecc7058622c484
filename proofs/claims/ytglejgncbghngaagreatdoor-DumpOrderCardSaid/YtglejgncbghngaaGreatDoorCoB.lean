/- A part of the proof: what a machine of our own over the model's code answers is what the model does; no condition. -/
import Derived.Test.YtglejgncbghngaaGreatDoorCoA
import Derived.Test.YtglejgncbghngaaGreatDoorRows
import Derived.Lib.LaidU8
import Derived.ProofKit
import Derived.OpenShut
import Derived.Lay
import Derived.Handed
import Derived.Test.YtglejgncbghngaaGreatDoorCards
import Derived.SevenTiedAt
import Derived.JoinedOf
import Derived.LaidMore
import Derived.Stop.Joined
set_option linter.all false
open Go Go.Av Go.Proofs
set_option maxRecDepth 1000000
namespace Go.Av
open Go.Proofs.YtglejgncbghngaaGreatDoor
theorem asc_type : (Tryz.prog.globals[1]?).map (fun g => Tryz.prog.underlying g.type) = some (some (.array 256 5)) := by kernel_rfl
theorem asc_named : Tryz.prog.globalNamed "strings.asciiSpace" = some 1 := by kernel_rfl
theorem u8_under : Tryz.prog.underlying 5 = some (.int .u8) := by kernel_rfl
theorem u8_cells : Tryz.prog.cellsOf 5 = 1 := by kernel_rfl
theorem asc_data : (Rows.laid_strings_asciiSpace : DataW Unit) = .agg (asc.map fun c => .lit (.int .u8 (Int.ofNat c))) := by kernel_rfl
theorem asc_len : asc.length = 256 := by kernel_rfl
theorem glob_of [Tok] {W : World} (hs : Tryz.prog.globals.size ≤ W.heap.size) (hr : Lib.VarReads Tryz.prog W "strings.asciiSpace" Rows.laid_strings_asciiSpace) : GlobW Tryz.prog GG W := by
  obtain ⟨g, t, cs, fuel, p, h1, h2, h3, h4⟩ := hr
  obtain rfl := Option.some.inj (asc_named.symm.trans h1)
  have hu : Tryz.prog.underlying t = some (.array 256 5) := by
    have := asc_type
    cases hg : Tryz.prog.globals[1]? with
    | none => rw [hg] at h2; cases h2
    | some y => rw [hg] at h2 this; cases h2; simpa using this
  obtain ⟨xs, m, _, ex, hlen, hl, hel⟩ := DataW.trod_array hu h4
  obtain ⟨el, fz, hcs⟩ : ∃ el fz, W.heap[1]? = some (Obj.cells cs el fz) := by
    simp only [World.var?, h1, Option.bind_some] at h3
    split at h3
    · rename_i c e f hc; cases h3; exact ⟨_, _, hc⟩
    · cases h3
  have e3 : xs.map (·.1) = asc.map fun c => (.lit (.int .u8 (Int.ofNat c)) : DataW Unit) := by
    have := (Prod.mk.inj ex).1
    rw [asc_data] at this
    exact (DataW.agg.inj this).symm
  have hget : ∀ r, r < 256 → cs.toList[r]? = some (Value.int .u8 (Int.ofNat (asc.getD r 0))) := by
    intro r hr
    have hE := hel r hr
    rw [u8_cells, Nat.mul_one, List.getElem?_eq_getElem (by omega)] at hE
    obtain ⟨z, e1, e2, _⟩ := DataW.trod_int u8_under hE
    have e4 : (xs.map (·.1))[r]? = (asc.map fun c => (.lit (.int .u8 (Int.ofNat c)) : DataW Unit))[r]? := by rw [e3]
    rw [List.getElem?_map, List.getElem?_map, List.getElem?_eq_getElem (by omega : r < xs.length), List.getElem?_eq_getElem (by rw [asc_len]; exact hr : r < asc.length), e2] at e4
    have hz : z = Int.ofNat (asc.getD r 0) := by
      simp only [Option.map_some, Option.some.injEq, DataW.lit.injEq, Lit.int.injEq, true_and] at e4
      rw [e4, List.getD_eq_getElem?_getD, List.getElem?_eq_getElem (by rw [asc_len]; exact hr : r < asc.length)]; rfl
    rw [← hz]
    have h0 : ((cs.toList.drop r).take 1)[0]? = some (.int .u8 z) := by rw [e1]; rfl
    simpa using h0
  have hsz : 256 ≤ cs.size := by
    have := hget 255 (by omega)
    have := (List.getElem?_eq_some_iff.1 this).1
    simp at this; omega
  refine ⟨hs, tz_lt, cs, el, fz, hcs, by show asc.length ≤ _; rw [asc_len]; exact hsz, ?_⟩
  show cs.toList.take asc.length = asc.map fun c : Nat => Value.int .u8 (Int.ofNat c)
  rw [asc_len]
  apply List.ext_getElem?
  intro r
  by_cases hr : r < 256
  · rw [List.getElem?_take, if_pos hr, hget r hr, List.getElem?_map, List.getD_eq_getElem?_getD, List.getElem?_eq_getElem (by rw [asc_len]; exact hr : r < asc.length)]; rfl
  · rw [List.getElem?_take, if_neg hr, List.getElem?_eq_none (by rw [List.length_map, asc_len]; omega)]
end Go.Av


namespace Go.Proofs.YtglejgncbghngaaGreatDoor
open Go Go.ChangeShapes Go.WideShapes Go.ChangeAt Go.RowKit
set_option maxRecDepth 100000
theorem andI {a b : Bool} (ha : a = true) (hb : b = true) : (a && b) = true := by rw [ha, hb]; rfl
theorem no_goes : Tryz.prog.funcs.any Func.goes = false := by kernel_rfl
theorem goes_false (c : OpenClaim) (hs : c.start = .entering) : false = c.goesBy Tryz.prog := by
  have key : ∀ g : Nat, (Tryz.prog.funcs[g]?).any Func.goes = false := by
    intro g
    cases h : Tryz.prog.funcs[g]? with
    | none => rfl
    | some fn =>
      have := no_goes
      rw [Array.any_eq_false'] at this
      simpa using this fn (Array.mem_of_getElem? h)
  have k2 : ∀ f, Tryz.prog.goes f = false := by
    intro f
    unfold Program.goes
    rw [no_goes]
    simp [key]
  unfold OpenClaim.goesBy Program.goesAt Program.goesFrom
  rw [hs]
  cases Tryz.prog.funcNamed c.func with
  | none => rfl
  | some f => simp [k2]
theorem own : ownKnob Tryz.prog.godebug = none := by kernel_rfl
section
variable {H : Type} {enc : TypeId × Value → H}
/-- with the world's shape -/
theorem returns_shaped {a : Assume} {C : Checked} {os : Os} {f : FuncId} {fn : Func} {s : ChangeSpec} {conds : List PathCond} {apart fresh handsOn again : Bool} {X : World → Array Value → Prop}
    (hX : ∀ (w w' : World) (args : Array Value), w.heap = w'.heap → X w args → X w' args)
    (own : ownKnob C.prog.godebug = none) (started : os.Started) (noInit : C.prog.inits.idxOf? f = none) (hfn : C.prog.funcs[f]? = some fn)
    (witness : ∃ (w : World) (tape : Tape) (i : Input), w.os = os ∧ (w.forCall tape i).Shaped C.prog ∧ i.vars = [] ∧ Input.okWide C.prog (w.forCall tape i) .any w.heap.size f i ∧
      ((s.pre enc C.prog fn conds apart (w.forCall tape i).memory i.args ∧ X (w.forCall tape i).memory i.args) ∧ sizedMet enc C.prog fn (OpenSpec.ofChange s) apart (w.forCall tape i).memory i.args) ∧ a.holds C.prog (lone (Frame.enter C.prog f i.args .normal) [] (w.forCall tape i)))
    (contract : ∀ (W : World) (base : Nat) (args : Array Value) (ds gs : List (DataW H)) (before : List MemPlace), W.ShapedOpen C.prog →
      (∀ (j : Nat) t v, fn.params[j]? = some t → args[j]? = some v → Value.okWide C.prog W .any base t v) →
      DataW.Whole enc C.prog fn.params.toList s.vars apart W args.toList ds gs before → X W args →
      Calls C.prog f args W fun e W' => ∃ v, e = .returned v ∧ s.post enc C.prog fn apart fresh handsOn again W args v W') :
    ReturnsInHanded a C os f .any (fun w args => (s.pre enc C.prog fn conds apart w args ∧ X w args) ∧ sizedMet enc C.prog fn (OpenSpec.ofChange s) apart w args) (s.post enc C.prog fn apart fresh handsOn again) := by
  refine returnsInHanded_of_calls own started noInit witness ?_
  intro w tape i _ hshape _ hok hpre _
  obtain ⟨_, _, _, fn', hfn', _, _, _, _, hval⟩ := hok
  have e : fn' = fn := Option.some.inj (hfn'.symm.trans hfn)
  subst e
  obtain ⟨⟨⟨ds, gs, before, hw, _⟩, hx⟩, _⟩ := hpre
  have hw' := DataW.Whole.of_heap (w' := w.forCall tape i) (by rfl) hw
  refine (contract (w.forCall tape i) w.heap.size i.args ds gs before hshape hval hw' (hX _ _ _ (by rfl) hx)).mono fun e W' ⟨v, he, hp⟩ => ?_
  subst he
  exact ChangeSpec.post_blind hp
end
theorem last_shape : (((begin Tryz.prog (fun _ _ => 0) default).world.heap[8]?).bind Obj.row?).isSome = true := by kernel_rfl
theorem glob_size : Tryz.prog.globals.size = 9 := by kernel_rfl
theorem size_of {W : World} (h : W.ShapedOpen Tryz.prog) : Tryz.prog.globals.size ≤ W.heap.size := by
  cases e : ((begin Tryz.prog (fun _ _ => 0) default).world.heap[8]?).bind Obj.row? with
  | none => have := last_shape; rw [e] at this; cases this
  | some x =>
    obtain ⟨zero, t⟩ := x
    obtain ⟨cs, h1, _⟩ := h.1 8 zero t (by rw [glob_size]; omega) e
    rw [glob_size]
    have := (Array.getElem?_eq_some_iff.1 h1).1; omega
theorem _root_.Go.Av.Kept.but {W W' : World} (h : Go.Av.Kept W W') (may : MemPlace → Prop) : W.keptBut W' may := by
  refine ⟨h.os, h.output, fun i hi => ?_⟩
  rw [h.heap i hi]
  cases W.heap[i]? with
  | none => rfl
  | some o => cases o <;> simp
theorem in_word {n : Int} (h : (Lit.int .i64 n).wf = true) : Go.Av.inI64 n := by
  simp only [Lit.wf, IntKind.min, IntKind.max, IntKind.signed, IntKind.bits, Bool.and_eq_true, decide_eq_true_eq, if_true] at h
  unfold Go.Av.inI64
  omega
end Go.Proofs.YtglejgncbghngaaGreatDoor
