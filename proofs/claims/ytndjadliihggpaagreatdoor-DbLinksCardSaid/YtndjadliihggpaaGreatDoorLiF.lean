/- A part of the proof: what a machine of our own over the model's code answers is what the model does; no condition. -/
import Derived.Test.YtndjadliihggpaaGreatDoorLiA
import Derived.Test.YtndjadliihggpaaGreatDoorTie
import Derived.Test.YtndjadliihggpaaGreatDoorCards
import Derived.SevenTiedAt
import Derived.JoinedOf
import Derived.LaidMore
import Derived.Stop.Joined
set_option linter.all false
namespace Go.Proofs.YtndjadliihggpaaGreatDoor
open Go Go.ChangeShapes Go.WideShapes Go.ChangeAt Go.RowKit
set_option maxRecDepth 100000
theorem andI {a b : Bool} (ha : a = true) (hb : b = true) : (a && b) = true := by rw [ha, hb]; rfl
theorem no_goes : Tryz.prog.funcs.any Func.goes = false := by kernel_rfl
theorem goes_false (c : OpenClaim) (hs : c.start = .entering) : false = c.goesBy Tryz.prog := by
  have key : ∀ g : Nat, (Tryz.prog.funcs[g]?).any Func.goes = false := by
    intro g
    cases h : Tryz.prog.funcs[g]? with
    | none => rfl
    | some fn =>
      have := no_goes
      rw [Array.any_eq_false'] at this
      simpa using this fn (Array.mem_of_getElem? h)
  have k2 : ∀ f, Tryz.prog.goes f = false := by
    intro f
    unfold Program.goes
    rw [no_goes]
    simp [key]
  unfold OpenClaim.goesBy Program.goesAt Program.goesFrom
  rw [hs]
  cases Tryz.prog.funcNamed c.func with
  | none => rfl
  | some f => simp [k2]
theorem fnamed : Tryz.prog.funcNamed "federation/federationlaw5.DbKnown" = some 3 := by kernel_rfl
theorem own : ownKnob Tryz.prog.godebug = none := by kernel_rfl
section
variable {H : Type} {enc : TypeId × Value → H}
/-- with the world's shape -/
theorem returns_shaped {a : Assume} {C : Checked} {os : Os} {f : FuncId} {fn : Func} {s : ChangeSpec} {conds : List PathCond} {apart fresh handsOn again : Bool} {X : World → Array Value → Prop}
    (hX : ∀ (w w' : World) (args : Array Value), w.heap = w'.heap → X w args → X w' args)
    (own : ownKnob C.prog.godebug = none) (started : os.Started) (noInit : C.prog.inits.idxOf? f = none) (hfn : C.prog.funcs[f]? = some fn)
    (witness : ∃ (w : World) (tape : Tape) (i : Input), w.os = os ∧ (w.forCall tape i).Shaped C.prog ∧ i.vars = [] ∧ Input.okWide C.prog (w.forCall tape i) .any w.heap.size f i ∧
      ((s.pre enc C.prog fn conds apart (w.forCall tape i).memory i.args ∧ X (w.forCall tape i).memory i.args) ∧ sizedMet enc C.prog fn (OpenSpec.ofChange s) apart (w.forCall tape i).memory i.args) ∧ a.holds C.prog (lone (Frame.enter C.prog f i.args .normal) [] (w.forCall tape i)))
    (contract : ∀ (W : World) (base : Nat) (args : Array Value) (ds gs : List (DataW H)) (before : List MemPlace), W.ShapedOpen C.prog →
      (∀ (j : Nat) t v, fn.params[j]? = some t → args[j]? = some v → Value.okWide C.prog W .any base t v) →
      DataW.Whole enc C.prog fn.params.toList s.vars apart W args.toList ds gs before → X W args →
      Calls C.prog f args W fun e W' => ∃ v, e = .returned v ∧ s.post enc C.prog fn apart fresh handsOn again W args v W') :
    ReturnsInHanded a C os f .any (fun w args => (s.pre enc C.prog fn conds apart w args ∧ X w args) ∧ sizedMet enc C.prog fn (OpenSpec.ofChange s) apart w args) (s.post enc C.prog fn apart fresh handsOn again) := by
  refine returnsInHanded_of_calls own started noInit witness ?_
  intro w tape i _ hshape _ hok hpre _
  obtain ⟨_, _, _, fn', hfn', _, _, _, _, hval⟩ := hok
  have e : fn' = fn := Option.some.inj (hfn'.symm.trans hfn)
  subst e
  obtain ⟨⟨⟨ds, gs, before, hw, _⟩, hx⟩, _⟩ := hpre
  have hw' := DataW.Whole.of_heap (w' := w.forCall tape i) (by rfl) hw
  refine (contract (w.forCall tape i) w.heap.size i.args ds gs before hshape hval hw' (hX _ _ _ (by rfl) hx)).mono fun e W' ⟨v, he, hp⟩ => ?_
  subst he
  exact ChangeSpec.post_blind hp
end
theorem last_shape : (((begin Tryz.prog (fun _ _ => 0) default).world.heap[8]?).bind Obj.row?).isSome = true := by kernel_rfl
theorem glob_size : Tryz.prog.globals.size = 9 := by kernel_rfl
theorem size_of {W : World} (h : W.ShapedOpen Tryz.prog) : Tryz.prog.globals.size ≤ W.heap.size := by
  cases e : ((begin Tryz.prog (fun _ _ => 0) default).world.heap[8]?).bind Obj.row? with
  | none => have := last_shape; rw [e] at this; cases this
  | some x =>
    obtain ⟨zero, t⟩ := x
    obtain ⟨cs, h1, _⟩ := h.1 8 zero t (by rw [glob_size]; omega) e
    rw [glob_size]
    have := (Array.getElem?_eq_some_iff.1 h1).1; omega
theorem _root_.Go.Av.Kept.but {W W' : World} (h : Go.Av.Kept W W') (may : MemPlace → Prop) : W.keptBut W' may := by
  refine ⟨h.os, h.output, fun i hi => ?_⟩
  rw [h.heap i hi]
  cases W.heap[i]? with
  | none => rfl
  | some o => cases o <;> simp
theorem in_word {n : Int} (h : (Lit.int .i64 n).wf = true) : Go.Av.inI64 n := by
  simp only [Lit.wf, IntKind.min, IntKind.max, IntKind.signed, IntKind.bits, Bool.and_eq_true, decide_eq_true_eq, if_true] at h
  unfold Go.Av.inI64
  omega
end Go.Proofs.YtndjadliihggpaaGreatDoor


namespace Go.Proofs.YtndjadliihggpaaGreatDoor
open Go
set_option maxRecDepth 100000
set_option linter.all false
theorem dbLinks_named : Tryz.prog.funcNamed "federation/federationlaw5.DbLinks" = some 6 := by kernel_rfl
theorem dbLinks_clo : Tryz.prog.closure 6 = [6, 9, 12, 29, 32, 30, 74, 98, 99, 100, 148, 241, 269, 75, 149, 76, 102, 31, 77, 112, 195, 194, 117, 198, 289, 197, 288, 200, 291, 199, 290, 162, 161, 247, 249, 248, 250, 332, 251, 128, 216, 218, 303, 304, 362, 305, 222, 219, 306, 363, 396, 422, 423, 235, 448, 449, 424, 425, 450, 451, 462, 463, 307, 272, 273, 111, 193, 364, 397, 426, 427, 398, 428, 452, 429, 453, 399, 400, 401, 308, 365, 402, 430, 431, 403, 285, 351, 393, 352, 353, 354, 394, 404, 432, 309, 311, 312, 313, 217, 221, 310, 220, 223, 109, 189, 274, 275, 344, 379, 380, 381, 410, 384, 411, 412, 287, 359, 382, 383, 413, 415, 416, 437, 438, 457, 464, 465, 414, 436, 385, 391, 110, 192, 420, 441, 442, 443, 459, 444, 460, 467, 461, 468, 470, 471, 421, 445, 446, 447, 386, 387, 191, 190, 276, 345, 277, 278, 279, 346, 347, 388, 417, 155, 348, 390, 419, 439, 440, 458, 466, 469, 350, 392, 389, 418, 296, 280, 349, 281, 282, 283, 284, 201, 292, 293, 294, 360, 295, 122, 207, 150, 132, 234, 242, 323, 324, 368, 325, 319, 320, 326, 369, 370, 405, 327, 328, 329, 330, 151, 61, 133, 236, 78, 153, 152, 243, 154, 79, 156, 157, 244, 245, 331, 118, 202, 80, 115, 116, 158, 246, 165, 253, 252, 254, 333, 334, 335, 336, 371, 406, 126, 209, 301, 211, 212, 210, 214, 302, 215, 213, 372, 337, 373, 374, 407, 433, 454, 455, 456, 408, 434, 435, 159, 121, 204, 206, 298, 205, 297, 203, 123, 55, 125, 124, 208, 299, 300, 361, 395, 81, 160, 164, 163, 166, 120, 82, 167, 255, 256, 83, 13, 11, 26, 63, 134, 237, 136, 135, 137, 138, 28, 64, 139, 238, 34, 91, 27, 65, 69, 72, 141, 70, 144, 140, 142, 85, 73, 145, 239, 146, 240, 147, 66, 67, 143, 68, 71, 25, 58, 127, 129, 224, 314, 316, 315, 317, 366, 130, 225, 57, 59, 131, 226, 227, 318, 228, 229, 321, 322, 367, 230, 231, 232, 233, 60, 62, 24, 53, 108, 188, 113, 196, 286, 355, 356, 357, 358, 54, 114, 119, 56, 10] := by kernel_rfl
theorem dbLinks_unf : Tryz.prog.unfollowed 6 = true := by
  unfold Program.unfollowed
  rw [dbLinks_clo]
  kernel_rfl
theorem dbLinks_fact1 : (fun (P : Program) (f : FuncId) (fn : Func) (s : ChangeSpec) (c : OpenClaim) => (c.wf (OpenSpec.ofChange s) : Bool)) Tryz.prog 6 Tryz.f6 Rows.dbLinksSpec Rows.dbLinksRow = true := by kernel_rfl
theorem dbLinks_fact2 : (fun (P : Program) (f : FuncId) (fn : Func) (s : ChangeSpec) (c : OpenClaim) => (laidOutB P : Bool)) Tryz.prog 6 Tryz.f6 Rows.dbLinksSpec Rows.dbLinksRow = true := by kernel_rfl
theorem dbLinks_fact3 : (fun (P : Program) (f : FuncId) (fn : Func) (s : ChangeSpec) (c : OpenClaim) => (mapsRowed P : Bool)) Tryz.prog 6 Tryz.f6 Rows.dbLinksSpec Rows.dbLinksRow = true := by kernel_rfl
theorem dbLinks_fact4 : (fun (P : Program) (f : FuncId) (fn : Func) (s : ChangeSpec) (c : OpenClaim) => (fn.params.all (P.readableRec ·) : Bool)) Tryz.prog 6 Tryz.f6 Rows.dbLinksSpec Rows.dbLinksRow = true := by kernel_rfl
theorem dbLinks_fact5 : (fun (P : Program) (f : FuncId) (fn : Func) (s : ChangeSpec) (c : OpenClaim) => (namedTie P c.named s.vars : Bool)) Tryz.prog 6 Tryz.f6 Rows.dbLinksSpec Rows.dbLinksRow = true := by kernel_rfl
theorem dbLinks_fact6 : (fun (P : Program) (f : FuncId) (fn : Func) (s : ChangeSpec) (c : OpenClaim) => ((c.stops == []) : Bool)) Tryz.prog 6 Tryz.f6 Rows.dbLinksSpec Rows.dbLinksRow = true := by kernel_rfl
theorem dbLinks_fact7 : (fun (P : Program) (f : FuncId) (fn : Func) (s : ChangeSpec) (c : OpenClaim) => ((P.stops == []) : Bool)) Tryz.prog 6 Tryz.f6 Rows.dbLinksSpec Rows.dbLinksRow = true := by kernel_rfl
theorem dbLinks_fact8 : (fun (P : Program) (f : FuncId) (fn : Func) (s : ChangeSpec) (c : OpenClaim) => ((c.knobs == []) : Bool)) Tryz.prog 6 Tryz.f6 Rows.dbLinksSpec Rows.dbLinksRow = true := by kernel_rfl
theorem dbLinks_fact9 : (fun (P : Program) (f : FuncId) (fn : Func) (s : ChangeSpec) (c : OpenClaim) => ((P.stopKnobs == []) : Bool)) Tryz.prog 6 Tryz.f6 Rows.dbLinksSpec Rows.dbLinksRow = true := by kernel_rfl
theorem dbLinks_fact10 : (fun (P : Program) (f : FuncId) (fn : Func) (s : ChangeSpec) (c : OpenClaim) => ((c.inPlace == P.inPlace f) : Bool)) Tryz.prog 6 Tryz.f6 Rows.dbLinksSpec Rows.dbLinksRow = true := by
  show (Rows.dbLinksRow.inPlace == Tryz.prog.inPlace 6) = true
  unfold Program.inPlace
  rw [dbLinks_clo]
  kernel_rfl
theorem dbLinks_fact11 : (fun (P : Program) (f : FuncId) (fn : Func) (s : ChangeSpec) (c : OpenClaim) => ((c.unfollowed == P.unfollowed f) : Bool)) Tryz.prog 6 Tryz.f6 Rows.dbLinksSpec Rows.dbLinksRow = true := by
  show (Rows.dbLinksRow.unfollowed == Tryz.prog.unfollowed 6) = true
  rw [dbLinks_unf]
  kernel_rfl
theorem dbLinks_fact12 : (fun (P : Program) (f : FuncId) (fn : Func) (s : ChangeSpec) (c : OpenClaim) => ((c.recurses == P.recurses f) : Bool)) Tryz.prog 6 Tryz.f6 Rows.dbLinksSpec Rows.dbLinksRow = true := by
  show (Rows.dbLinksRow.recurses == Tryz.prog.recurses 6) = true
  unfold Program.recurses
  rw [dbLinks_unf]
  kernel_rfl
theorem dbLinks_fact13 : (fun (P : Program) (f : FuncId) (fn : Func) (s : ChangeSpec) (c : OpenClaim) => ((c.named == P.varsNamed f) : Bool)) Tryz.prog 6 Tryz.f6 Rows.dbLinksSpec Rows.dbLinksRow = true := by
  show (Rows.dbLinksRow.named == Tryz.prog.varsNamed 6) = true
  unfold Program.varsNamed
  rw [dbLinks_clo]
  kernel_rfl
theorem dbLinks_fact14 : (fun (P : Program) (f : FuncId) (fn : Func) (s : ChangeSpec) (c : OpenClaim) => ((c.maps == (fn.params.toList ++ s.plain.varTypes P).any (P.mapsRec ·)) : Bool)) Tryz.prog 6 Tryz.f6 Rows.dbLinksSpec Rows.dbLinksRow = true := by kernel_rfl
theorem dbLinks_fact15 : (fun (P : Program) (f : FuncId) (fn : Func) (s : ChangeSpec) (c : OpenClaim) => ((c.ifaces == (fn.params.toList ++ s.plain.varTypes P).any (P.ifacesRec ·)) : Bool)) Tryz.prog 6 Tryz.f6 Rows.dbLinksSpec Rows.dbLinksRow = true := by kernel_rfl
theorem dbLinks_fact16 : (fun (P : Program) (f : FuncId) (fn : Func) (s : ChangeSpec) (c : OpenClaim) => ((c.mapsOut == P.mapsAmong fn.resultTypes.toList) : Bool)) Tryz.prog 6 Tryz.f6 Rows.dbLinksSpec Rows.dbLinksRow = true := by kernel_rfl
theorem dbLinks_fact17 : (fun (P : Program) (f : FuncId) (fn : Func) (s : ChangeSpec) (c : OpenClaim) => ((c.loops == (fn.params.toList ++ s.plain.varTypes P).any (P.loopsFrom ·)) : Bool)) Tryz.prog 6 Tryz.f6 Rows.dbLinksSpec Rows.dbLinksRow = true := by kernel_rfl
theorem dbLinks_fact18 : (fun (P : Program) (f : FuncId) (fn : Func) (s : ChangeSpec) (c : OpenClaim) => ((c.wideKeys == (fn.params.toList ++ s.plain.varTypes P ++ fn.resultTypes.toList).any (P.wideKeysFrom ·)) : Bool)) Tryz.prog 6 Tryz.f6 Rows.dbLinksSpec Rows.dbLinksRow = true := by kernel_rfl
theorem dbLinks_fact19 : (fun (P : Program) (f : FuncId) (fn : Func) (s : ChangeSpec) (c : OpenClaim) => (s.vars.all (P.varReadable ·) : Bool)) Tryz.prog 6 Tryz.f6 Rows.dbLinksSpec Rows.dbLinksRow = true := by kernel_rfl
theorem dbLinks_fact20 : (fun (P : Program) (f : FuncId) (fn : Func) (s : ChangeSpec) (c : OpenClaim) => (fn.resultTypes.all (fun t => P.readableRec t && decide (t < P.types.size)) : Bool)) Tryz.prog 6 Tryz.f6 Rows.dbLinksSpec Rows.dbLinksRow = true := by kernel_rfl
theorem dbLinks_fact21 : (fun (P : Program) (f : FuncId) (fn : Func) (s : ChangeSpec) (c : OpenClaim) => ((c.ifacesOut == fn.resultTypes.toList.any (P.ifacesRec ·)) : Bool)) Tryz.prog 6 Tryz.f6 Rows.dbLinksSpec Rows.dbLinksRow = true := by kernel_rfl
theorem dbLinks_fact22 : (fun (P : Program) (f : FuncId) (fn : Func) (s : ChangeSpec) (c : OpenClaim) => ((c.loopsOut == fn.resultTypes.toList.any (P.loopsFrom ·)) : Bool)) Tryz.prog 6 Tryz.f6 Rows.dbLinksSpec Rows.dbLinksRow = true := by kernel_rfl
theorem dbLinks_fact23 : (fun (P : Program) (f : FuncId) (fn : Func) (s : ChangeSpec) (c : OpenClaim) => ((c.plainKeys == P.plainKeys) : Bool)) Tryz.prog 6 Tryz.f6 Rows.dbLinksSpec Rows.dbLinksRow = true := by kernel_rfl
theorem dbLinks_fact24 : (fun (P : Program) (f : FuncId) (fn : Func) (s : ChangeSpec) (c : OpenClaim) => (c.shortTexts.isNone : Bool)) Tryz.prog 6 Tryz.f6 Rows.dbLinksSpec Rows.dbLinksRow = true := by kernel_rfl
theorem dbLinks_fact25 : (fun (P : Program) (f : FuncId) (fn : Func) (s : ChangeSpec) (c : OpenClaim) => (P.stopsHeard : Bool)) Tryz.prog 6 Tryz.f6 Rows.dbLinksSpec Rows.dbLinksRow = true := by kernel_rfl
theorem dbLinks_fact26 : (fun (P : Program) (f : FuncId) (fn : Func) (s : ChangeSpec) (c : OpenClaim) => (P.mayEnter : Bool)) Tryz.prog 6 Tryz.f6 Rows.dbLinksSpec Rows.dbLinksRow = true := by kernel_rfl
theorem dbLinks_fact27 : (fun (P : Program) (f : FuncId) (fn : Func) (s : ChangeSpec) (c : OpenClaim) => ((c.lifted == P.liftsFinal) : Bool)) Tryz.prog 6 Tryz.f6 Rows.dbLinksSpec Rows.dbLinksRow = true := by kernel_rfl
theorem dbLinks_fact28 : (fun (P : Program) (f : FuncId) (fn : Func) (s : ChangeSpec) (c : OpenClaim) => ((P.make == some c.make) : Bool)) Tryz.prog 6 Tryz.f6 Rows.dbLinksSpec Rows.dbLinksRow = true := by kernel_rfl
theorem dbLinks_fact29 : (fun (P : Program) (f : FuncId) (fn : Func) (s : ChangeSpec) (c : OpenClaim) => ((c.kinds == (if c.domain.isEmpty then [] else fn.params.toList.map fun t => match P.underlying t with | some (.int k) => some k | _ => none)) : Bool)) Tryz.prog 6 Tryz.f6 Rows.dbLinksSpec Rows.dbLinksRow = true := by kernel_rfl
theorem dbLinks_fact30 : (fun (P : Program) (f : FuncId) (fn : Func) (s : ChangeSpec) (c : OpenClaim) => ((c.pinned == c.pinnedBy) : Bool)) Tryz.prog 6 Tryz.f6 Rows.dbLinksSpec Rows.dbLinksRow = true := by kernel_rfl
theorem dbLinks_fact31 : (fun (P : Program) (f : FuncId) (fn : Func) (s : ChangeSpec) (c : OpenClaim) => ((c.veiled == (fn.params.toList ++ s.plain.varTypes P ++ fn.resultTypes.toList).any (P.veiledRec ·)) : Bool)) Tryz.prog 6 Tryz.f6 Rows.dbLinksSpec Rows.dbLinksRow = true := by kernel_rfl
theorem dbLinks_fact32 : (fun (P : Program) (f : FuncId) (fn : Func) (s : ChangeSpec) (c : OpenClaim) => (c.veiledFits P fn.params.toList (fn.params.toList ++ s.plain.varTypes P ++ fn.resultTypes.toList) : Bool)) Tryz.prog 6 Tryz.f6 Rows.dbLinksSpec Rows.dbLinksRow = true := by kernel_rfl
theorem dbLinks_closed : joinedFacts Tryz.prog 6 Tryz.f6 Rows.dbLinksSpec Rows.dbLinksRow = true := andI (andI (andI (andI (andI (andI (andI (andI (andI (andI (andI (andI (andI (andI (andI (andI (andI (andI (andI (andI (andI (andI (andI (andI (andI (andI (andI (andI (andI (andI (andI (dbLinks_fact1) dbLinks_fact2) dbLinks_fact3) dbLinks_fact4) dbLinks_fact5) dbLinks_fact6) dbLinks_fact7) dbLinks_fact8) dbLinks_fact9) dbLinks_fact10) dbLinks_fact11) dbLinks_fact12) dbLinks_fact13) dbLinks_fact14) dbLinks_fact15) dbLinks_fact16) dbLinks_fact17) dbLinks_fact18) dbLinks_fact19) dbLinks_fact20) dbLinks_fact21) dbLinks_fact22) dbLinks_fact23) dbLinks_fact24) dbLinks_fact25) dbLinks_fact26) dbLinks_fact27) dbLinks_fact28) dbLinks_fact29) dbLinks_fact30) dbLinks_fact31) dbLinks_fact32
end Go.Proofs.YtndjadliihggpaaGreatDoor
