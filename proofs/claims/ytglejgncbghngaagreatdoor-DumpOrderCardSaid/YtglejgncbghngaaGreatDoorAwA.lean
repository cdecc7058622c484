/- A part of the proof: what a machine of our own over the model's code answers is what the model does; no condition. -/
import GoSem.Step
import Derived.Laws.NewBlocks
import GoSem.Core.Region
import Derived.Below
import Derived.Laws.Sem
import Derived.Laws.Cells
import Derived.Laws.IdiomCopy
import Derived.Laws.Strings
import Derived.Laws.Small
import Derived.Laws.StructEq
import Derived.Laws.Tables
import Derived.Laws.Slices
import Derived.Laws.BytesString
import Derived.Laws.RangeString
set_option linter.all false
namespace Go.Av

/-! ### Small words that the kernel reduces in few steps -/
@[reducible] noncomputable def ob {α β : Type} (x : Option α) (k : α → Option β) : Option β := Option.rec none k x
@[reducible] noncomputable def ifb {α : Type} (c : Bool) (a b : α) : α := Bool.rec b a c
theorem ob_some {α β : Type} (v : α) (k : α → Option β) : ob (some v) k = k v := rfl
theorem ob_none {α β : Type} (k : α → Option β) : ob none k = none := rfl
theorem ob_eq {α β : Type} {x : Option α} {k : α → Option β} {y : β} : ob x k = some y ↔ ∃ v, x = some v ∧ k v = some y := by
  cases x <;> simp [ob]
theorem ifb_true {α : Type} (a b : α) : ifb true a b = a := rfl
theorem ifb_false {α : Type} (a b : α) : ifb false a b = b := rfl
theorem ifb_eq {α : Type} {c : Bool} {a : Option α} {y : α} : ifb c a none = some y ↔ c = true ∧ a = some y := by
  cases c <;> simp [ifb]

/-- places, in binary, the lowest digit first: 1, 2p, 2p + 1 -/
inductive Pos where
  | h
  | o (p : Pos)
  | i (p : Pos)
  deriving DecidableEq, Inhabited
namespace Pos
noncomputable def succ (p : Pos) : Pos := Pos.rec (.o .h) (fun p _ => .i p) (fun _ ih => .o ih) p
noncomputable def toNat (p : Pos) : Nat := Pos.rec 1 (fun _ n => 2 * n) (fun _ n => 2 * n + 1) p
noncomputable def ofNat (n : Nat) : Pos := Nat.rec .h (fun _ p => p.succ) n
theorem toNat_h : toNat .h = 1 := rfl
theorem toNat_o (p : Pos) : toNat (.o p) = 2 * toNat p := rfl
theorem toNat_i (p : Pos) : toNat (.i p) = 2 * toNat p + 1 := rfl
theorem succ_h : succ .h = .o .h := rfl
theorem succ_o (p : Pos) : succ (.o p) = .i p := rfl
theorem succ_i (p : Pos) : succ (.i p) = .o (succ p) := rfl
theorem toNat_pos (p : Pos) : 0 < p.toNat := by
  induction p with
  | h => simp [toNat_h]
  | o p ih => rw [toNat_o]; omega
  | i p ih => rw [toNat_i]; omega
theorem toNat_succ (p : Pos) : p.succ.toNat = p.toNat + 1 := by
  induction p with
  | h => rfl
  | o p ih => rw [succ_o, toNat_i, toNat_o]
  | i p ih => rw [succ_i, toNat_o, toNat_i, ih]; omega
theorem toNat_inj : ∀ {p q : Pos}, p.toNat = q.toNat → p = q := by
  intro p
  induction p with
  | h =>
    intro q h; cases q with
    | h => rfl
    | o q => rw [toNat_h, toNat_o] at h; omega
    | i q => rw [toNat_h, toNat_i] at h; have := toNat_pos q; omega
  | o p ih =>
    intro q h; cases q with
    | h => rw [toNat_h, toNat_o] at h; omega
    | o q => rw [toNat_o, toNat_o] at h; rw [ih (q := q) (by omega)]
    | i q => rw [toNat_o, toNat_i] at h; omega
  | i p ih =>
    intro q h; cases q with
    | h => rw [toNat_h, toNat_i] at h; have := toNat_pos p; omega
    | o q => rw [toNat_i, toNat_o] at h; omega
    | i q => rw [toNat_i, toNat_i] at h; rw [ih (q := q) (by omega)]
theorem ofNat_succ (n : Nat) : ofNat (n + 1) = (ofNat n).succ := rfl
theorem toNat_ofNat (n : Nat) : (ofNat n).toNat = n + 1 := by
  induction n with
  | zero => rfl
  | succ n ih => rw [ofNat_succ, toNat_succ, ih]
theorem ofNat_inj {m n : Nat} (h : ofNat m = ofNat n) : m = n := by
  have := congrArg toNat h; rw [toNat_ofNat, toNat_ofNat] at this; omega
end Pos

inductive Tr (α : Type) where
  | leaf
  | node (v : Option α) (l r : Tr α)
namespace Tr
variable {α : Type}
noncomputable def hd (t : Tr α) : Option α := Tr.rec none (fun v _ _ _ _ => v) t
noncomputable def lf (t : Tr α) : Tr α := Tr.rec .leaf (fun _ l _ _ _ => l) t
noncomputable def rt (t : Tr α) : Tr α := Tr.rec .leaf (fun _ _ r _ _ => r) t
noncomputable def get (p : Pos) : Tr α → Option α := Pos.rec (fun t => t.hd) (fun _ ih t => ih t.lf) (fun _ ih t => ih t.rt) p
noncomputable def set (a : α) (p : Pos) : Tr α → Tr α := Pos.rec (fun t => Tr.rec (.node (some a) .leaf .leaf) (fun _ l r _ _ => .node (some a) l r) t) (fun _ ih t => Tr.rec (.node none (ih .leaf) .leaf) (fun v l r _ _ => .node v (ih l) r) t) (fun _ ih t => Tr.rec (.node none .leaf (ih .leaf)) (fun v l r _ _ => .node v l (ih r)) t) p
theorem get_h (t : Tr α) : get .h t = t.hd := rfl
theorem get_o (p : Pos) (t : Tr α) : get (.o p) t = get p t.lf := rfl
theorem get_i (p : Pos) (t : Tr α) : get (.i p) t = get p t.rt := rfl
theorem set_h (a : α) (t : Tr α) : set a .h t = .node (some a) t.lf t.rt := by cases t <;> rfl
theorem set_o (a : α) (p : Pos) (t : Tr α) : set a (.o p) t = .node t.hd (set a p t.lf) t.rt := by cases t <;> rfl
theorem set_i (a : α) (p : Pos) (t : Tr α) : set a (.i p) t = .node t.hd t.lf (set a p t.rt) := by cases t <;> rfl
theorem hd_node (v : Option α) (l r : Tr α) : hd (.node v l r) = v := rfl
theorem lf_node (v : Option α) (l r : Tr α) : lf (.node v l r) = l := rfl
theorem rt_node (v : Option α) (l r : Tr α) : rt (.node v l r) = r := rfl
theorem get_set_same (a : α) : ∀ (p : Pos) (t : Tr α), get p (set a p t) = some a := by
  intro p
  induction p with
  | h => intro t; rw [set_h, get_h, hd_node]
  | o p ih => intro t; rw [set_o, get_o, lf_node, ih]
  | i p ih => intro t; rw [set_i, get_i, rt_node, ih]
theorem get_set_other (a : α) : ∀ (p q : Pos) (t : Tr α), q ≠ p → get q (set a p t) = get q t := by
  intro p
  induction p with
  | h => intro q t h; cases q with
    | h => exact absurd rfl h
    | o q => rw [set_h, get_o, get_o, lf_node]
    | i q => rw [set_h, get_i, get_i, rt_node]
  | o p ih => intro q t h; cases q with
    | h => rw [set_o, get_h, get_h, hd_node]
    | o q => rw [set_o, get_o, get_o, lf_node, ih _ _ (fun e => h (by rw [e]))]
    | i q => rw [set_o, get_i, get_i, rt_node]
  | i p ih => intro q t h; cases q with
    | h => rw [set_i, get_h, get_h, hd_node]
    | o q => rw [set_i, get_o, get_o, lf_node]
    | i q => rw [set_i, get_i, get_i, rt_node, ih _ _ (fun e => h (by rw [e]))]
theorem set_comm (a c : α) : ∀ (p q : Pos) (t : Tr α), p ≠ q → set c q (set a p t) = set a p (set c q t) := by
  intro p
  induction p with
  | h => intro q t h; cases q with
    | h => exact absurd rfl h
    | o q => cases t <;> rfl
    | i q => cases t <;> rfl
  | o p ih => intro q t h; cases q with
    | h => cases t <;> rfl
    | o q => rw [set_o, set_o, set_o, set_o, lf_node, lf_node, hd_node, hd_node, rt_node, rt_node, ih _ _ (fun e => h (by rw [e]))]
    | i q => cases t <;> rfl
  | i p ih => intro q t h; cases q with
    | h => cases t <;> rfl
    | o q => cases t <;> rfl
    | i q => rw [set_i, set_i, set_i, set_i, lf_node, lf_node, hd_node, hd_node, rt_node, rt_node, ih _ _ (fun e => h (by rw [e]))]
end Tr

/-! ### Abstract values -/
abbrev Adr := Pos × Nat
inductive AFn where
  | func (f : FuncId)
  | yield (l : Pos)
  deriving DecidableEq
inductive AVal where
  | i (k : IntKind) (n : Int)
  | b (v : Bool)
  | s (l : List Nat)      -- bytes by their numbers
  | p (o : Option Adr)
  | sl (o : Option Adr) (len cap g : Nat)      -- g: 0, or the cells of an element: it lies at its block's end, where there may be room
  | fn (f : AFn) (first captured : List AVal)
  | nilF
  | ifc (t : TypeId) (v : AVal)
  | nilI
  | ag (l : List AVal)
  | tu (l : List AVal)
  | mp (o : Option Pos)
  | tok (k : Nat)      -- a value of one cell that is not looked into
  deriving Inhabited

/-! ### Frames: 512 temporaries -/
inductive D8 where
  | d0 | d1 | d2 | d3 | d4 | d5 | d6 | d7
  deriving DecidableEq, Inhabited
structure N8 (α : Type) where
  f0 : α
  f1 : α
  f2 : α
  f3 : α
  f4 : α
  f5 : α
  f6 : α
  f7 : α
namespace N8
variable {α : Type}
noncomputable def gt (d : D8) (x : N8 α) : α := D8.rec (motive := fun _ => N8 α → α) (fun x => x.f0) (fun x => x.f1) (fun x => x.f2) (fun x => x.f3) (fun x => x.f4) (fun x => x.f5) (fun x => x.f6) (fun x => x.f7) d x
noncomputable def md0 (g : α → α) (x : N8 α) : N8 α := N8.rec (motive := fun _ => N8 α) (fun a b c d e f h i => ⟨g a, b, c, d, e, f, h, i⟩) x
noncomputable def md1 (g : α → α) (x : N8 α) : N8 α := N8.rec (motive := fun _ => N8 α) (fun a b c d e f h i => ⟨a, g b, c, d, e, f, h, i⟩) x
noncomputable def md2 (g : α → α) (x : N8 α) : N8 α := N8.rec (motive := fun _ => N8 α) (fun a b c d e f h i => ⟨a, b, g c, d, e, f, h, i⟩) x
noncomputable def md3 (g : α → α) (x : N8 α) : N8 α := N8.rec (motive := fun _ => N8 α) (fun a b c d e f h i => ⟨a, b, c, g d, e, f, h, i⟩) x
noncomputable def md4 (g : α → α) (x : N8 α) : N8 α := N8.rec (motive := fun _ => N8 α) (fun a b c d e f h i => ⟨a, b, c, d, g e, f, h, i⟩) x
noncomputable def md5 (g : α → α) (x : N8 α) : N8 α := N8.rec (motive := fun _ => N8 α) (fun a b c d e f h i => ⟨a, b, c, d, e, g f, h, i⟩) x
noncomputable def md6 (g : α → α) (x : N8 α) : N8 α := N8.rec (motive := fun _ => N8 α) (fun a b c d e f h i => ⟨a, b, c, d, e, f, g h, i⟩) x
noncomputable def md7 (g : α → α) (x : N8 α) : N8 α := N8.rec (motive := fun _ => N8 α) (fun a b c d e f h i => ⟨a, b, c, d, e, f, h, g i⟩) x
noncomputable def md (d : D8) (g : α → α) (x : N8 α) : N8 α := D8.rec (motive := fun _ => (α → α) → N8 α → N8 α) md0 md1 md2 md3 md4 md5 md6 md7 d g x
def rep (a : α) : N8 α := ⟨a, a, a, a, a, a, a, a⟩
theorem gt_md_same (d : D8) (g : α → α) (x : N8 α) : (x.md d g).gt d = g (x.gt d) := by cases d <;> rfl
theorem gt_md_other (d e : D8) (g : α → α) (x : N8 α) (h : e ≠ d) : (x.md d g).gt e = x.gt e := by cases d <;> cases e <;> first | rfl | exact absurd rfl h
theorem gt_rep (d : D8) (a : α) : (rep a).gt d = a := by cases d <;> rfl
end N8
structure Slot where
  a : D8
  b : D8
  c : D8
  deriving DecidableEq, Inhabited
def D8.ofN (n : Nat) : D8 := match n with
  | 0 => .d0 | 1 => .d1 | 2 => .d2 | 3 => .d3 | 4 => .d4 | 5 => .d5 | 6 => .d6 | _ => .d7
def D8.toN : D8 → Nat
  | .d0 => 0 | .d1 => 1 | .d2 => 2 | .d3 => 3 | .d4 => 4 | .d5 => 5 | .d6 => 6 | .d7 => 7
theorem D8.toN_ofN {n : Nat} (h : n < 8) : (D8.ofN n).toN = n := by
  match n, h with
  | 0, _ => rfl | 1, _ => rfl | 2, _ => rfl | 3, _ => rfl | 4, _ => rfl | 5, _ => rfl | 6, _ => rfl | 7, _ => rfl
/-- the slot of temporary t, below 512 -/
def slot (t : Nat) : Slot := ⟨D8.ofN (t / 64), D8.ofN (t / 8 % 8), D8.ofN (t % 8)⟩
theorem slot_inj {t u : Nat} (ht : t < 512) (hu : u < 512) (h : slot t = slot u) : t = u := by
  unfold slot at h
  simp only [Slot.mk.injEq] at h
  obtain ⟨h1, h2, h3⟩ := h
  have e1 := congrArg D8.toN h1
  have e2 := congrArg D8.toN h2
  have e3 := congrArg D8.toN h3
  rw [D8.toN_ofN (by omega), D8.toN_ofN (by omega)] at e1 e2 e3
  omega
abbrev Fr := N8 (N8 (N8 AVal))
def undefA : AVal := .tu []
def Fr.none : Fr := N8.rep (N8.rep (N8.rep undefA))
noncomputable def Fr.gt (f : Fr) (p : Slot) : AVal := ((N8.gt p.a f).gt p.b).gt p.c
noncomputable def Fr.st (f : Fr) (p : Slot) (v : AVal) : Fr := N8.md p.a (N8.md p.b (N8.md p.c fun _ => v)) f
theorem Fr.gt_same (f : Fr) (p : Slot) (v : AVal) : (Fr.st f p v).gt p = v := by
  unfold Fr.gt Fr.st; rw [N8.gt_md_same, N8.gt_md_same, N8.gt_md_same]
theorem Fr.gt_other (f : Fr) (p q : Slot) (v : AVal) (h : q ≠ p) : (Fr.st f p v).gt q = Fr.gt f q := by
  unfold Fr.gt Fr.st
  by_cases ha : q.a = p.a
  · rw [ha, N8.gt_md_same]
    by_cases hb : q.b = p.b
    · rw [hb, N8.gt_md_same]
      rw [N8.gt_md_other _ _ _ _ (fun hc => h (by cases p; cases q; simp_all))]
    · rw [N8.gt_md_other _ _ _ _ hb]
  · rw [N8.gt_md_other _ _ _ _ ha]
theorem Fr.gt_none (p : Slot) : Fr.none.gt p = undefA := by unfold Fr.gt Fr.none; rw [N8.gt_rep, N8.gt_rep, N8.gt_rep]

/-! ### Abstract code -/
inductive AOpd where
  | tmp (p : Slot)
  | const (v : AVal)

/-! ### Blocks, heaps -/
structure Cells where
  vs : List AVal
  own : Bool
  stale : List Pos
structure Entry where
  k : AVal
  v : AVal
  born : Nat
structure LoopA where
  state : LoopState
  pending : Option Code
  nt : Nat
  tmps : Fr
  params : List Slot
  assign : Code
  body : Code
inductive Blk where
  | cells (c : Cells)
  | map (es : List Entry) (clock : Nat)
  | loop (l : LoopA)
  | siter (s : List Nat) (pos : Nat)
  | dead
structure Hp where
  t : Tr Blk
  next : Pos
namespace Hp
noncomputable def get (h : Hp) (b : Pos) : Option Blk := Tr.get b h.t
noncomputable def put (h : Hp) (b : Pos) (x : Blk) : Hp := Hp.rec (motive := fun _ => Hp) (fun t n => ⟨Tr.set x b t, n⟩) h
noncomputable def new (h : Hp) (x : Blk) : Hp := Hp.rec (motive := fun _ => Hp) (fun t n => ⟨Tr.set x n t, n.succ⟩) h
theorem get_put_same (h : Hp) (b : Pos) (x : Blk) : (h.put b x).get b = some x := Tr.get_set_same _ _ _
theorem get_put_other (h : Hp) (b c : Pos) (x : Blk) (hb : c ≠ b) : (h.put b x).get c = h.get c := Tr.get_set_other _ _ _ _ hb
theorem put_comm (h : Hp) (b c : Pos) (x y : Blk) (hb : b ≠ c) : (h.put b x).put c y = (h.put c y).put b x := by
  show (⟨_, _⟩ : Hp) = ⟨_, _⟩; rw [Tr.set_comm _ _ _ _ _ hb]
theorem put_next (h : Hp) (b : Pos) (x : Blk) : (h.put b x).next = h.next := rfl
theorem new_next (h : Hp) (x : Blk) : (h.new x).next = h.next.succ := rfl
theorem get_new_same (h : Hp) (x : Blk) : (h.new x).get h.next = some x := Tr.get_set_same _ _ _
theorem get_new_other (h : Hp) (c : Pos) (x : Blk) (hb : c ≠ h.next) : (h.new x).get c = h.get c := Tr.get_set_other _ _ _ _ hb
end Hp
end Go.Av


namespace Go.Av
/-! ### Lists, by their recursors -/
section lists
variable {α β : Type}
noncomputable def lenR (l : List α) : Nat := List.rec 0 (fun _ _ n => Nat.succ n) l
noncomputable def appR (l m : List α) : List α := List.rec m (fun a _ ih => a :: ih) l
noncomputable def tlR (l : List α) : List α := List.rec [] (fun _ r _ => r) l
noncomputable def hdR (l : List α) : Option α := List.rec none (fun a _ _ => some a) l
noncomputable def dropR (n : Nat) : List α → List α := Nat.rec (fun l => l) (fun _ ih l => ih (tlR l)) n
/-- the first n, if there are as many -/
noncomputable def takeX (n : Nat) : List α → Option (List α) :=
  Nat.rec (fun _ => some []) (fun _ ih l => List.rec none (fun a r _ => ob (ih r) fun q => some (a :: q)) l) n
noncomputable def atR (n : Nat) (l : List α) : Option α := hdR (dropR n l)
noncomputable def mapR (g : α → β) (l : List α) : List β := List.rec [] (fun a _ ih => g a :: ih) l
/-- ws over the beginning of l -/
noncomputable def overR (ws : List α) : List α → Option (List α) :=
  List.rec (fun l => some l) (fun w _ ih l => List.rec none (fun _ r _ => ob (ih r) fun q => some (w :: q)) l) ws
/-- ws from o on -/
noncomputable def layR (ws : List α) (o : Nat) : List α → Option (List α) :=
  Nat.rec (fun l => overR ws l) (fun _ ih l => List.rec none (fun a r _ => ob (ih r) fun q => some (a :: q)) l) o
noncomputable def allR (g : α → Bool) (l : List α) : Bool := List.rec true (fun a _ ih => ifb (g a) ih false) l
noncomputable def repR (z : List α) (n : Nat) : List α := Nat.rec [] (fun _ ih => appR z ih) n

theorem lenR_eq (l : List α) : lenR l = l.length := by
  induction l with
  | nil => rfl
  | cons a l ih => show Nat.succ (lenR l) = _; rw [ih]; rfl
theorem appR_eq (l m : List α) : appR l m = l ++ m := by
  induction l with
  | nil => rfl
  | cons a l ih => show a :: appR l m = _; rw [ih]; rfl
theorem dropR_eq (n : Nat) (l : List α) : dropR n l = l.drop n := by
  induction n generalizing l with
  | zero => rfl
  | succ n ih => show dropR n (tlR l) = _; rw [ih]; cases l <;> simp [tlR]
theorem takeX_eq {n : Nat} {l q : List α} : takeX n l = some q ↔ n ≤ l.length ∧ q = l.take n := by
  induction n generalizing l q with
  | zero => show some [] = some q ↔ _; simp [eq_comm]
  | succ n ih =>
    cases l with
    | nil => show none = some q ↔ _; simp
    | cons a r =>
      show ob (takeX n r) (fun q => some (a :: q)) = some q ↔ _
      rw [ob_eq]
      constructor
      · rintro ⟨v, hv, e⟩
        obtain ⟨h1, h2⟩ := ih.1 hv
        cases e
        exact ⟨by simp; omega, by simp [h2]⟩
      · rintro ⟨h1, h2⟩
        exact ⟨r.take n, ih.2 ⟨by simp at h1; omega, rfl⟩, by simp [h2]⟩
theorem atR_eq (n : Nat) (l : List α) : atR n l = l[n]? := by
  unfold atR; rw [dropR_eq]
  have : ∀ m : List α, hdR m = m[0]? := fun m => by cases m <;> rfl
  rw [this]; simp
theorem mapR_eq (g : α → β) (l : List α) : mapR g l = l.map g := by
  induction l with
  | nil => rfl
  | cons a l ih => show g a :: mapR g l = _; rw [ih]; rfl
theorem overR_eq {ws l q : List α} : overR ws l = some q ↔ ws.length ≤ l.length ∧ q = ws ++ l.drop ws.length := by
  induction ws generalizing l q with
  | nil => show some l = some q ↔ _; simp [eq_comm]
  | cons w ws ih =>
    cases l with
    | nil => show none = some q ↔ _; simp
    | cons a r =>
      show ob (overR ws r) (fun q => some (w :: q)) = some q ↔ _
      rw [ob_eq]
      constructor
      · rintro ⟨v, hv, e⟩
        obtain ⟨h1, h2⟩ := ih.1 hv
        cases e
        exact ⟨by simp; omega, by simp [h2]⟩
      · rintro ⟨h1, h2⟩
        exact ⟨_, ih.2 ⟨by simp at h1; omega, rfl⟩, by simp [h2]⟩
theorem layR_eq {ws : List α} {o : Nat} {l q : List α} : layR ws o l = some q ↔ o + ws.length ≤ l.length ∧ q = l.take o ++ ws ++ l.drop (o + ws.length) := by
  induction o generalizing l q with
  | zero => show overR ws l = some q ↔ _; rw [overR_eq]; simp
  | succ o ih =>
    cases l with
    | nil => show none = some q ↔ _; simp
    | cons a r =>
      show ob (layR ws o r) (fun q => some (a :: q)) = some q ↔ _
      rw [ob_eq]
      constructor
      · rintro ⟨v, hv, e⟩
        obtain ⟨h1, h2⟩ := ih.1 hv
        cases e
        exact ⟨by simp; omega, by simp [h2, Nat.add_right_comm o 1]⟩
      · rintro ⟨h1, h2⟩
        exact ⟨_, ih.2 ⟨by simp at h1; omega, rfl⟩, by simp [h2, Nat.add_right_comm o 1]⟩
theorem allR_eq (g : α → Bool) (l : List α) : allR g l = l.all g := by
  induction l with
  | nil => rfl
  | cons a l ih => show ifb (g a) (allR g l) false = _; rw [ih]; cases h : g a <;> simp [ifb, h]
theorem repR_zero (z : List α) : repR z 0 = [] := rfl
theorem repR_succ (z : List α) (n : Nat) : repR z (n + 1) = z ++ repR z n := by show appR z (repR z n) = _; rw [appR_eq]
theorem repR_length (z : List α) (n : Nat) : (repR z n).length = n * z.length := by
  induction n with
  | zero => simp [repR_zero]
  | succ n ih => rw [repR_succ, List.length_append, ih, Nat.add_mul]; omega
end lists

/-! ### Integers, quickly where they are small -/
noncomputable def ltI (a c : Int) : Bool :=
  Int.rec (fun m => Int.rec (fun n => Nat.blt m n) (fun _ => false) c) (fun m => Int.rec (fun _ => true) (fun n => Nat.blt n m) c) a
noncomputable def eqI (a c : Int) : Bool :=
  Int.rec (fun m => Int.rec (fun n => Nat.beq m n) (fun _ => false) c) (fun m => Int.rec (fun _ => false) (fun n => Nat.beq m n) c) a
theorem ltI_eq (a c : Int) : ltI a c = decide (a < c) := by
  cases a with
  | ofNat m => cases c with
    | ofNat n => show Nat.blt m n = _; rw [Bool.eq_iff_iff]; simp [Nat.blt_eq]
    | negSucc n => show false = _; simp; omega
  | negSucc m => cases c with
    | ofNat n => show true = _; simp; omega
    | negSucc n => show Nat.blt n m = _; rw [Bool.eq_iff_iff]; simp [Nat.blt_eq]; omega
theorem eqI_eq (a c : Int) : eqI a c = decide (a = c) := by
  cases a with
  | ofNat m => cases c with
    | ofNat n => show Nat.beq m n = _; rw [Bool.eq_iff_iff]; simp [Nat.beq_eq]; omega
    | negSucc n => show false = _; simp
  | negSucc m => cases c with
    | ofNat n => show false = _; simp
    | negSucc n => show Nat.beq m n = _; rw [Bool.eq_iff_iff]; simp [Nat.beq_eq]
noncomputable def addI (a c : Int) : Int := Int.rec (fun m => Int.rec (fun n => .ofNat (Nat.add m n)) (fun _ => a + c) c) (fun _ => a + c) a
theorem addI_eq (a c : Int) : addI a c = a + c := by
  cases a with
  | ofNat m => cases c with
    | ofNat n => rfl
    | negSucc n => rfl
  | negSucc m => rfl
noncomputable def subI (a c : Int) : Int := Int.rec (fun m => Int.rec (fun n => ifb (Nat.ble n m) (.ofNat (Nat.sub m n)) (a - c)) (fun _ => a - c) c) (fun _ => a - c) a
theorem subI_eq (a c : Int) : subI a c = a - c := by
  cases a with
  | ofNat m => cases c with
    | ofNat n =>
      show ifb (Nat.ble n m) (Int.ofNat (Nat.sub m n)) _ = _
      cases h : Nat.ble n m with
      | false => rfl
      | true =>
        have h' := Nat.le_of_ble_eq_true h
        show Int.ofNat (m - n) = Int.ofNat m - Int.ofNat n
        simp only [Int.ofNat_eq_natCast]; omega
    | negSucc n => rfl
  | negSucc m => rfl
noncomputable def wrapF (k : IntKind) (n : Int) : Int :=
  IntKind.rec (k.wrap n) (k.wrap n) (k.wrap n) (Int.rec (fun m => ifb (Nat.blt m 4611686018427387904) n (k.wrap n)) (fun _ => k.wrap n) n) (k.wrap n) (k.wrap n) (k.wrap n) (k.wrap n) k
theorem wrapF_eq (k : IntKind) (n : Int) : wrapF k n = k.wrap n := by
  cases k <;> try rfl
  cases n with
  | ofNat m =>
    show ifb (Nat.blt m 4611686018427387904) (Int.ofNat m) _ = _
    cases h : Nat.blt m 4611686018427387904 with
    | false => rfl
    | true =>
      rw [Nat.blt_eq] at h
      show Int.ofNat m = _
      unfold IntKind.wrap
      simp only [IntKind.bits, IntKind.signed, Int.ofNat_eq_natCast, ge_iff_le]
      have e : ((m : Int) % 2 ^ 64) = m := by rw [Int.emod_eq_of_lt] <;> omega
      rw [e]
      simp; intro h'; omega
  | negSucc m => rfl

/-! ### Values -/
structure KI where
  k : IntKind
  n : Int
structure Sl where
  a : Option Adr
  len : Nat
  cap : Nat
  g : Nat
noncomputable def asP (v : AVal) : Option Adr := AVal.rec (motive_1 := fun _ => Option Adr) (motive_2 := fun _ => Unit) (fun _ _ => none) (fun _ => none) (fun _ => none) (fun o => o) (fun _ _ _ _ => none) (fun _ _ _ _ _ => none) none (fun _ _ _ => none) none (fun _ _ => none) (fun _ _ => none) (fun _ => none) (fun _ => none) () (fun _ _ _ _ => ()) v
noncomputable def asKI (v : AVal) : Option KI := AVal.rec (motive_1 := fun _ => Option KI) (motive_2 := fun _ => Unit) (fun k n => some ⟨k, n⟩) (fun _ => none) (fun _ => none) (fun _ => none) (fun _ _ _ _ => none) (fun _ _ _ _ _ => none) none (fun _ _ _ => none) none (fun _ _ => none) (fun _ _ => none) (fun _ => none) (fun _ => none) () (fun _ _ _ _ => ()) v
noncomputable def asI (v : AVal) : Option Int := AVal.rec (motive_1 := fun _ => Option Int) (motive_2 := fun _ => Unit) (fun _ n => some n) (fun _ => none) (fun _ => none) (fun _ => none) (fun _ _ _ _ => none) (fun _ _ _ _ _ => none) none (fun _ _ _ => none) none (fun _ _ => none) (fun _ _ => none) (fun _ => none) (fun _ => none) () (fun _ _ _ _ => ()) v
noncomputable def asS (v : AVal) : Option (List Nat) := AVal.rec (motive_1 := fun _ => Option (List Nat)) (motive_2 := fun _ => Unit) (fun _ _ => none) (fun _ => none) (fun l => some l) (fun _ => none) (fun _ _ _ _ => none) (fun _ _ _ _ _ => none) none (fun _ _ _ => none) none (fun _ _ => none) (fun _ _ => none) (fun _ => none) (fun _ => none) () (fun _ _ _ _ => ()) v
noncomputable def asB (v : AVal) : Option Bool := AVal.rec (motive_1 := fun _ => Option Bool) (motive_2 := fun _ => Unit) (fun _ _ => none) (fun c => some c) (fun _ => none) (fun _ => none) (fun _ _ _ _ => none) (fun _ _ _ _ _ => none) none (fun _ _ _ => none) none (fun _ _ => none) (fun _ _ => none) (fun _ => none) (fun _ => none) () (fun _ _ _ _ => ()) v
noncomputable def asAg (v : AVal) : Option (List AVal) := AVal.rec (motive_1 := fun _ => Option (List AVal)) (motive_2 := fun _ => Unit) (fun _ _ => none) (fun _ => none) (fun _ => none) (fun _ => none) (fun _ _ _ _ => none) (fun _ _ _ _ _ => none) none (fun _ _ _ => none) none (fun l _ => some l) (fun _ _ => none) (fun _ => none) (fun _ => none) () (fun _ _ _ _ => ()) v
noncomputable def asTu (v : AVal) : Option (List AVal) := AVal.rec (motive_1 := fun _ => Option (List AVal)) (motive_2 := fun _ => Unit) (fun _ _ => none) (fun _ => none) (fun _ => none) (fun _ => none) (fun _ _ _ _ => none) (fun _ _ _ _ _ => none) none (fun _ _ _ => none) none (fun _ _ => none) (fun l _ => some l) (fun _ => none) (fun _ => none) () (fun _ _ _ _ => ()) v
noncomputable def asSl (v : AVal) : Option Sl := AVal.rec (motive_1 := fun _ => Option Sl) (motive_2 := fun _ => Unit) (fun _ _ => none) (fun _ => none) (fun _ => none) (fun _ => none) (fun a n c g => some ⟨a, n, c, g⟩) (fun _ _ _ _ _ => none) none (fun _ _ _ => none) none (fun _ _ => none) (fun _ _ => none) (fun _ => none) (fun _ => none) () (fun _ _ _ _ => ()) v
noncomputable def asMp (v : AVal) : Option (Option Pos) := AVal.rec (motive_1 := fun _ => Option (Option Pos)) (motive_2 := fun _ => Unit) (fun _ _ => none) (fun _ => none) (fun _ => none) (fun _ => none) (fun _ _ _ _ => none) (fun _ _ _ _ _ => none) none (fun _ _ _ => none) none (fun _ _ => none) (fun _ _ => none) (fun o => some o) (fun _ => none) () (fun _ _ _ _ => ()) v
noncomputable def oneA (v : AVal) : Bool := AVal.rec (motive_1 := fun _ => Bool) (motive_2 := fun _ => Unit) (fun _ _ => true) (fun _ => true) (fun _ => true) (fun _ => true) (fun _ _ _ _ => true) (fun _ _ _ _ _ => true) true (fun _ _ _ => true) true (fun _ _ => false) (fun _ _ => false) (fun _ => true) (fun _ => true) () (fun _ _ _ _ => ()) v
noncomputable def AVal.cells (v : AVal) : List AVal := Option.rec [v] (fun l => l) (asAg v)
theorem asP_eq {v : AVal} {a : Adr} : asP v = some a ↔ v = .p (some a) := by
  cases v with
  | p o => show o = some a ↔ _; simp
  | _ => first | (show none = some a ↔ _; simp)
theorem asI_eq {v : AVal} {n : Int} : asI v = some n ↔ ∃ k, v = .i k n := by
  cases v with
  | i k m => show some m = some n ↔ _; simp
  | _ => first | (show none = some n ↔ _; simp)
theorem asKI_eq {v : AVal} {x : KI} : asKI v = some x ↔ v = .i x.k x.n := by
  cases v with
  | i k m => show some (KI.mk k m) = some x ↔ _; cases x; simp
  | _ => first | (show none = some x ↔ _; simp)
theorem asS_eq {v : AVal} {l : List Nat} : asS v = some l ↔ v = .s l := by
  cases v with
  | s m => show some m = some l ↔ _; simp
  | _ => first | (show none = some l ↔ _; simp)
theorem asB_eq {v : AVal} {c : Bool} : asB v = some c ↔ v = .b c := by
  cases v with
  | b m => show some m = some c ↔ _; simp
  | _ => first | (show none = some c ↔ _; simp)
theorem asAg_eq {v : AVal} {l : List AVal} : asAg v = some l ↔ v = .ag l := by
  cases v with
  | ag m => show some m = some l ↔ _; simp
  | _ => first | (show none = some l ↔ _; simp)
theorem asTu_eq {v : AVal} {l : List AVal} : asTu v = some l ↔ v = .tu l := by
  cases v with
  | tu m => show some m = some l ↔ _; simp
  | _ => first | (show none = some l ↔ _; simp)
theorem asSl_eq {v : AVal} {s : Sl} : asSl v = some s ↔ v = .sl s.a s.len s.cap s.g := by
  cases v with
  | sl a n c g => show some (Sl.mk a n c g) = some s ↔ _; cases s; simp
  | _ => first | (show none = some s ↔ _; simp)
theorem asMp_eq {v : AVal} {o : Option Pos} : asMp v = some o ↔ v = .mp o := by
  cases v with
  | mp m => show some m = some o ↔ _; simp
  | _ => first | (show none = some o ↔ _; simp)
noncomputable def ev (f : Fr) (x : AOpd) : AVal := AOpd.rec (fun p => f.gt p) (fun v => v) x
theorem ev_tmp (f : Fr) (p : Slot) : ev f (.tmp p) = f.gt p := rfl
theorem ev_const (f : Fr) (v : AVal) : ev f (.const v) = v := rfl
noncomputable def evL (f : Fr) (l : List AOpd) : List AVal := mapR (ev f) l
/-! ### Kinds, bytes -/
noncomputable def kno (k : IntKind) : Nat := IntKind.rec 0 1 2 3 4 5 6 7 k
noncomputable def keq (k j : IntKind) : Bool := Nat.beq (kno k) (kno j)
theorem keq_eq {k j : IntKind} : keq k j = true ↔ k = j := by cases k <;> cases j <;> simp [keq, kno]
/-- texts by their bytes' numbers -/
noncomputable def seq : List Nat → List Nat → Bool := fun a => List.rec (motive := fun _ => List Nat → Bool) (fun c => List.rec true (fun _ _ _ => false) c) (fun x _ ih c => List.rec false (fun y r _ => ifb (Nat.beq x y) (ih r) false) c) a
theorem seq_eq : ∀ {a c : List Nat}, seq a c = true ↔ a = c := by
  intro a
  induction a with
  | nil => intro c; cases c with
    | nil => show true = true ↔ _; simp
    | cons y r => show false = true ↔ _; simp
  | cons x a ih => intro c; cases c with
    | nil => show false = true ↔ _; simp
    | cons y r =>
      show ifb (Nat.beq x y) (seq a r) false = true ↔ _
      cases h : Nat.beq x y with
      | true => rw [Nat.beq_eq] at h; show seq a r = true ↔ _; rw [ih]; simp [h]
      | false =>
        have : x ≠ y := fun e => by rw [e] at h; simp at h
        show false = true ↔ _; simp [this]
noncomputable def sless : List Nat → List Nat → Bool := fun a => List.rec (motive := fun _ => List Nat → Bool) (fun c => List.rec false (fun _ _ _ => true) c) (fun x _ ih c => List.rec false (fun y r _ => ifb (Nat.blt x y) true (ifb (Nat.beq x y) (ih r) false)) c) a
/-- the whole number of an integer; m at most -/
noncomputable def natOf (n : Int) (m : Nat) : Option Nat := Int.rec (fun j => ifb (Nat.ble j m) (some j) none) (fun _ => none) n
theorem natOf_eq {n : Int} {m j : Nat} : natOf n m = some j ↔ n = (j : Int) ∧ j ≤ m := by
  cases n with
  | ofNat i =>
    show ifb (Nat.ble i m) (some i) none = some j ↔ _
    rw [ifb_eq]
    constructor
    · rintro ⟨h, e⟩; cases e; exact ⟨rfl, Nat.le_of_ble_eq_true h⟩
    · rintro ⟨h, e⟩; cases h; exact ⟨Nat.ble_eq_true_of_le e, rfl⟩
  | negSucc i => show none = some j ↔ _; simp

/-! ### The heap -/
noncomputable def asCells (x : Blk) : Option Cells := Blk.rec (fun c => some c) (fun _ _ => none) (fun _ => none) (fun _ _ => none) none x
noncomputable def Hp.cells (h : Hp) (b : Pos) : Option Cells := ob (h.get b) asCells
theorem Hp.cells_eq {h : Hp} {b : Pos} {c : Cells} : h.cells b = some c ↔ h.get b = some (.cells c) := by
  unfold Hp.cells; rw [ob_eq]
  constructor
  · rintro ⟨v, hv, e⟩
    cases v with
    | cells d => cases (show some d = some c from e); exact hv
    | _ => cases (show none = some c from e)
  · intro hv; exact ⟨_, hv, rfl⟩
noncomputable def Hp.read (h : Hp) (a : Adr) (n : Nat) : Option (List AVal) := ob (h.cells a.1) fun c => takeX n (dropR a.2 c.vs)
noncomputable def Hp.kill (h : Hp) (l : List Pos) : Hp := List.rec (motive := fun _ => Hp → Hp) (fun h => h) (fun b _ ih h => ih (h.put b .dead)) l h
theorem Hp.kill_nil (h : Hp) : h.kill [] = h := rfl
theorem Hp.kill_cons (h : Hp) (b : Pos) (l : List Pos) : h.kill (b :: l) = (h.put b .dead).kill l := rfl
noncomputable def Hp.write (h : Hp) (a : Adr) (ws : List AVal) : Option Hp :=
  List.rec (some h) (fun _ _ _ => ob (h.cells a.1) fun c => ifb c.own (ifb (allR oneA ws) (ob (layR ws a.2 c.vs) fun vs => some ((h.kill c.stale).put a.1 (.cells ⟨vs, true, []⟩))) none) none) ws
noncomputable def packT (l : List AVal) : Option AVal := some (.ag l)
noncomputable def pack1 (l : List AVal) : Option AVal := List.rec none (fun v r _ => List.rec (some v) (fun _ _ _ => none) r) l
noncomputable def packA (agg : Bool) (l : List AVal) : Option AVal := ifb agg (packT l) (pack1 l)
end Go.Av


noncomputable section
namespace Go.Av
/-! ### Values that are not looked into -/
/-- of one cell each: what they are -/
inductive TV (val : Nat → Value) : AVal → Value → Prop where
  | tok (k : Nat) : TV val (.tok k) (val k)
  | i (k : IntKind) (n : Int) : TV val (.i k n) (.int k n)
  | b (c : Bool) : TV val (.b c) (.bool c)
  | s (s : ByteArray) : TV val (.s (s.data.toList.map UInt8.toNat)) (.string s)
/-- values that are not looked into, and what is known of them: what two come to, how long one is -/
class Tok where
  val : Nat → Value
  one : ∀ k, (val k).oneCell' = true
  nb : ∀ k b, val k ≠ .bool b
  two : BinOp → AVal → AVal → Option AVal
  len : Nat → Option AVal
  /-- two ints of one kind: are they equal? -/
  same : AVal → AVal → Option Bool
  two_ok : ∀ (P : Program) (op : BinOp) (t : TypeId) (x y : Operand) (a b v : AVal) (a' b' : Value) (w : World), two op a b = some v → TV val a a' → TV val b b' →
    ∃ v', TV val v v' ∧ (do eqGuard op t x y a' b'; binOp op t a' b' : Sem Value).run P w = .ok v' w
  same_ok : ∀ (a b : AVal) (v : Bool) (a' b' : Value), same a b = some v → TV val a a' → TV val b b' → ∃ (j : IntKind) (n m : Int), a' = .int j n ∧ b' = .int j m ∧ v = decide (n = m)
  len_ok : ∀ k v, len k = some v → ∃ s : ByteArray, val k = .string s ∧ TV val v (.int .i64 (Int.ofNat s.size))
def basicT : AVal → Bool
  | .i _ _ => true
  | .b _ => true
  | .s _ => true
  | .tok _ => true
  | _ => false
noncomputable def orT (a b : Option AVal) : Option AVal := Option.rec b (fun v => some v) a
noncomputable def twoT [Tok] (op : BinOp) (a b : AVal) : Option AVal := ifb (basicT a) (ifb (basicT b) (Tok.two op a b) none) none
def intT : AVal → Bool
  | .i _ _ => true
  | .tok _ => true
  | _ => false
noncomputable def sameT [Tok] (a b : AVal) : Option Bool := ifb (intT a) (ifb (intT b) (Tok.same a b) none) none
noncomputable def orB (a b : Option Bool) : Option Bool := Option.rec b (fun v => some v) a
theorem orB_eq {a b : Option Bool} {v : Bool} (h : orB a b = some v) : a = some v ∨ b = some v := by
  cases a with
  | none => exact .inr h
  | some x => exact .inl h
def lenT [Tok] : AVal → Option AVal
  | .tok k => Tok.len k
  | _ => none
theorem orT_eq {a b : Option AVal} {v : AVal} (h : orT a b = some v) : a = some v ∨ b = some v := by
  cases a with
  | none => exact .inr h
  | some x => exact .inl h
/-! ### What operations compute: one small function each -/
variable [Tok]
section sCalc
variable (f : Fr) (h : Hp)
noncomputable def kMov (x : AOpd) : Option AVal := some (ev f x)
noncomputable def kStr (x : AOpd) : Option AVal := ob (asS (ev f x)) fun l => some (.s l)
noncomputable def kPick (c a b : AOpd) : Option AVal := ob (asB (ev f c)) fun t => some (ifb t (ev f a) (ev f b))
structure Part where
  off : Nat
  size : Nat
  x : AOpd
noncomputable def fill (ps : List Part) : List AVal → Option (List AVal) :=
  List.rec (motive := fun _ => List AVal → Option (List AVal)) (fun l => some l)
    (fun p _ ih l => ifb (Nat.beq (lenR (ev f p.x).cells) p.size) (ob (layR (ev f p.x).cells p.off l) ih) none) ps
noncomputable def kBuild (z : List AVal) (ps : List Part) : Option AVal := ob (fill f ps z) fun l => some (.ag l)
noncomputable def kLoad (agg : Bool) (n : Nat) (a : AOpd) : Option AVal := ob (asP (ev f a)) fun a => ob (h.read a n) (packA agg)
noncomputable def nilckA (v : AVal) : Option AVal := AVal.rec (motive_1 := fun _ => Option AVal) (motive_2 := fun _ => Unit) (fun _ _ => none) (fun _ => none) (fun _ => none) (fun o => Option.rec none (fun a => some (.p (some a))) o) (fun _ _ _ _ => none) (fun g a c _ _ => some (.fn g a c)) (none) (fun _ _ _ => none) (none) (fun _ _ => none) (fun _ _ => none) (fun _ => none) (fun _ => none) () (fun _ _ _ _ => ()) v
noncomputable def kNilck (x : AOpd) : Option AVal := nilckA (ev f x)
/-- integers of one kind -/
noncomputable def two (x y : AVal) : Option (KI × Int) := ob (asKI x) fun a => ob (asKI y) fun c => ifb (keq a.k c.k) (some (a, c.n)) none
noncomputable def addI2 (k : IntKind) (a : Int) (y : AVal) : Option AVal := ob (asKI y) fun c => ifb (keq k c.k) (some (.i k (wrapF k (addI a c.n)))) none
noncomputable def addS2 (l : List Nat) (y : AVal) : Option AVal := ob (asS y) fun m => ifb (Nat.ble (Nat.add (lenR l) (lenR m)) 2147483648) (some (.s (appR l m))) none
noncomputable def addA (x y : AVal) : Option AVal := AVal.rec (motive_1 := fun _ => AVal → Option AVal) (motive_2 := fun _ => Unit) addI2 (fun _ => fun _ => none) addS2 (fun _ => fun _ => none) (fun _ _ _ _ => fun _ => none) (fun _ _ _ _ _ => fun _ => none) (fun _ => none) (fun _ _ _ => fun _ => none) (fun _ => none) (fun _ _ => fun _ => none) (fun _ _ => fun _ => none) (fun _ => fun _ => none) (fun _ => fun _ => none) () (fun _ _ _ _ => ()) x y
noncomputable def kAdd (x y : AOpd) : Option AVal := addA (ev f x) (ev f y)
noncomputable def kSub (x y : AOpd) : Option AVal := ob (two (ev f x) (ev f y)) fun t => some (.i t.1.k (wrapF t.1.k (subI t.1.n t.2)))
noncomputable def kMul (x y : AOpd) : Option AVal := ob (two (ev f x) (ev f y)) fun t => some (.i t.1.k (wrapF t.1.k (t.1.n * t.2)))
noncomputable def kQuo (x y : AOpd) : Option AVal := ob (two (ev f x) (ev f y)) fun t => ifb (eqI t.2 0) none (some (.i t.1.k (wrapF t.1.k (t.1.n.tdiv t.2))))
noncomputable def kRem (x y : AOpd) : Option AVal := ob (two (ev f x) (ev f y)) fun t => ifb (eqI t.2 0) none (some (.i t.1.k (t.1.n.tmod t.2)))
def bitA (op : BinOp) (k : IntKind) (a c : Int) : Option AVal :=
  match op with
  | .and => some (.i k (k.wrap (BitVec.ofInt k.bits a &&& BitVec.ofInt k.bits c).toNat))
  | .or => some (.i k (k.wrap (BitVec.ofInt k.bits a ||| BitVec.ofInt k.bits c).toNat))
  | .xor => some (.i k (k.wrap (BitVec.ofInt k.bits a ^^^ BitVec.ofInt k.bits c).toNat))
  | .andNot => some (.i k (k.wrap (BitVec.ofInt k.bits a &&& ~~~BitVec.ofInt k.bits c).toNat))
  | _ => none
noncomputable def kBit (op : BinOp) (x y : AOpd) : Option AVal := ob (two (ev f x) (ev f y)) fun t => bitA op t.1.k t.1.n t.2
noncomputable def shlA (x y : AVal) : Option AVal := ob (asKI x) fun a => ob (asI y) fun c => ifb (ltI c 0) none (some (.i a.k (a.k.wrap (a.n * 2 ^ (min c.toNat a.k.bits)))))
noncomputable def shrA (x y : AVal) : Option AVal := ob (asKI x) fun a => ob (asI y) fun c => ifb (ltI c 0) none (some (.i a.k (a.n.fdiv (2 ^ (min c.toNat a.k.bits)))))
noncomputable def kShl (x y : AOpd) : Option AVal := shlA (ev f x) (ev f y)
noncomputable def kShr (x y : AOpd) : Option AVal := shrA (ev f x) (ev f y)
noncomputable def lssI2 (k : IntKind) (a : Int) (y : AVal) : Option Bool := ob (asKI y) fun c => ifb (keq k c.k) (some (ltI a c.n)) none
noncomputable def lssS2 (l : List Nat) (y : AVal) : Option Bool := ob (asS y) fun m => some (sless l m)
noncomputable def lssA (x y : AVal) : Option Bool := AVal.rec (motive_1 := fun _ => AVal → Option Bool) (motive_2 := fun _ => Unit) lssI2 (fun _ => fun _ => none) lssS2 (fun _ => fun _ => none) (fun _ _ _ _ => fun _ => none) (fun _ _ _ _ _ => fun _ => none) (fun _ => none) (fun _ _ _ => fun _ => none) (fun _ => none) (fun _ _ => fun _ => none) (fun _ _ => fun _ => none) (fun _ => fun _ => none) (fun _ => fun _ => none) () (fun _ _ _ _ => ()) x y
noncomputable def leqI2 (k : IntKind) (a : Int) (y : AVal) : Option Bool := ob (asKI y) fun c => ifb (keq k c.k) (some (!(ltI c.n a))) none
noncomputable def leqS2 (l : List Nat) (y : AVal) : Option Bool := ob (asS y) fun m => some (ifb (sless l m) true (seq l m))
noncomputable def leqA (x y : AVal) : Option Bool := AVal.rec (motive_1 := fun _ => AVal → Option Bool) (motive_2 := fun _ => Unit) leqI2 (fun _ => fun _ => none) leqS2 (fun _ => fun _ => none) (fun _ _ _ _ => fun _ => none) (fun _ _ _ _ _ => fun _ => none) (fun _ => none) (fun _ _ _ => fun _ => none) (fun _ => none) (fun _ _ => fun _ => none) (fun _ _ => fun _ => none) (fun _ => fun _ => none) (fun _ => fun _ => none) () (fun _ _ _ _ => ()) x y
noncomputable def kLss (x y : AOpd) : Option AVal := ob (lssA (ev f x) (ev f y)) fun t => some (.b t)
noncomputable def kGeq (x y : AOpd) : Option AVal := ob (lssA (ev f x) (ev f y)) fun t => some (.b !t)
noncomputable def kLeq (x y : AOpd) : Option AVal := ob (leqA (ev f x) (ev f y)) fun t => some (.b t)
noncomputable def kGtr (x y : AOpd) : Option AVal := ob (leqA (ev f x) (ev f y)) fun t => some (.b !t)
noncomputable def ceqI (k : IntKind) (a : Int) (y : AVal) : Option Bool := ob (asKI y) fun c => ifb (keq k c.k) (some (eqI a c.n)) none
noncomputable def ceqS (l : List Nat) (y : AVal) : Option Bool := ob (asS y) fun m => some (seq l m)
noncomputable def ceqB (a : Bool) (y : AVal) : Option Bool := ob (asB y) fun c => some (ifb a c (!c))
inductive FK where
  | int
  | bool
  | str
/-- cells of integers, texts, truths -/
noncomputable def ceqF (k : FK) (x y : AVal) : Option Bool := FK.rec (orB (ob (asKI x) fun a => ceqI a.k a.n y) (sameT x y)) (ob (asB x) fun a => ceqB a y) (ob (asS x) fun l => ceqS l y) k
/-- a cell of each kind, no more -/
noncomputable def eqN (ks : List FK) : List AVal → List AVal → Option Bool :=
  List.rec (fun xs ys => List.rec (List.rec (some true) (fun _ _ _ => none) ys) (fun _ _ _ => none) xs)
    (fun k _ ih xs ys => List.rec none (fun x q _ => List.rec none (fun y r _ => ob (ceqF k x y) fun t => ifb t (ih q r) (some false)) ys) xs) ks
/-- what kind of values are held against each other by == -/
inductive EqK where
  | no
  | bool
  | ptr
  | slice
  | map
  | func
  | iface
  | st (ks : List FK)
noncomputable def qno (q : EqK) : Nat := EqK.rec 0 1 2 3 4 5 6 (fun _ => 7) q
noncomputable def isQ (n : Nat) (q : EqK) (x : Option Bool) : Option Bool := ifb (Nat.beq (qno q) n) x none
noncomputable def isN {α : Type} (o : Option α) : Bool := Option.rec true (fun _ => false) o
noncomputable def eqI2 (k : IntKind) (a : Int) (_ : EqK) (y : AVal) : Option Bool := ceqI k a y
noncomputable def eqS2 (l : List Nat) (_ : EqK) (y : AVal) : Option Bool := ceqS l y
noncomputable def eqB2 (a : Bool) (q : EqK) (y : AVal) : Option Bool := isQ 1 q (ceqB a y)
noncomputable def ptrO (v : AVal) : Option (Option Adr) := AVal.rec (motive_1 := fun _ => Option (Option Adr)) (motive_2 := fun _ => Unit) (fun _ _ => none) (fun _ => none) (fun _ => none) (fun o => some o) (fun _ _ _ _ => none) (fun _ _ _ _ _ => none) (none) (fun _ _ _ => none) (none) (fun _ _ => none) (fun _ _ => none) (fun _ => none) (fun _ => none) () (fun _ _ _ _ => ()) v
/-- one of two lacks: do both? -/
noncomputable def lacks {α : Type} (a c : Option α) : Option Bool := Option.rec (some (isN c)) (fun _ => ifb (isN c) (some false) none) a
noncomputable def eqP2 (a : Option Adr) (q : EqK) (y : AVal) : Option Bool := isQ 2 q (ob (ptrO y) (lacks a))
noncomputable def eqSl2 (a : Option Adr) (_ _ _ : Nat) (q : EqK) (y : AVal) : Option Bool := isQ 3 q (ob (asSl y) fun s => lacks a s.a)
noncomputable def eqMp2 (a : Option Pos) (q : EqK) (y : AVal) : Option Bool := isQ 4 q (ob (asMp y) (lacks a))
noncomputable def fnN (v : AVal) : Option Bool := AVal.rec (motive_1 := fun _ => Option Bool) (motive_2 := fun _ => Unit) (fun _ _ => none) (fun _ => none) (fun _ => none) (fun _ => none) (fun _ _ _ _ => none) (fun _ _ _ _ _ => some false) (some true) (fun _ _ _ => none) (none) (fun _ _ => none) (fun _ _ => none) (fun _ => none) (fun _ => none) () (fun _ _ _ _ => ()) v
noncomputable def eqFn2 (_ : AFn) (_ _ : List AVal) (_ _ : Unit) (q : EqK) (y : AVal) : Option Bool := isQ 5 q (ob (fnN y) fun t => ifb t (some false) none)
noncomputable def eqNF2 (q : EqK) (y : AVal) : Option Bool := isQ 5 q (fnN y)
noncomputable def ifN (v : AVal) : Option Bool := AVal.rec (motive_1 := fun _ => Option Bool) (motive_2 := fun _ => Unit) (fun _ _ => none) (fun _ => none) (fun _ => none) (fun _ => none) (fun _ _ _ _ => none) (fun _ _ _ _ _ => none) (none) (fun _ _ _ => some false) (some true) (fun _ _ => none) (fun _ _ => none) (fun _ => none) (fun _ => none) () (fun _ _ _ _ => ()) v
noncomputable def eqIf2 (_ : TypeId) (_ : AVal) (_ : EqK → AVal → Option Bool) (q : EqK) (y : AVal) : Option Bool := isQ 6 q (ob (ifN y) fun t => ifb t (some false) none)
noncomputable def eqNI2 (q : EqK) (y : AVal) : Option Bool := isQ 6 q (ob (ifN y) fun t => ifb t none (some false))
noncomputable def eqAg2 (l : List AVal) (_ : Unit) (q : EqK) (y : AVal) : Option Bool := EqK.rec none none none none none none none (fun ks => ob (asAg y) (eqN ks l)) q
noncomputable def eqA (q : EqK) (x y : AVal) : Option Bool := AVal.rec (motive_1 := fun _ => EqK → AVal → Option Bool) (motive_2 := fun _ => Unit) eqI2 eqB2 eqS2 eqP2 eqSl2 eqFn2 eqNF2 eqIf2 eqNI2 eqAg2 (fun _ _ => fun _ _ => none) eqMp2 (fun _ => fun _ _ => none) () (fun _ _ _ _ => ()) x q y
noncomputable def kEql (q : EqK) (x y : AOpd) : Option AVal := ob (eqA q (ev f x) (ev f y)) fun t => some (.b t)
noncomputable def kNeq (q : EqK) (x y : AOpd) : Option AVal := ob (eqA q (ev f x) (ev f y)) fun t => some (.b !t)
noncomputable def unA (op : UnOp) (x : AVal) : Option AVal :=
  match op, x with
  | .neg, .i k n => some (.i k (wrapF k (subI 0 n)))
  | .not, .b c => some (.b !c)
  | .xor, .i k n => bitA .xor k (if k.signed then -1 else k.max) n
  | _, _ => none
noncomputable def kUn (op : UnOp) (x : AOpd) : Option AVal := unA op (ev f x)
noncomputable def kInt (k : IntKind) (x : AOpd) : Option AVal := ob (asI (ev f x)) fun n => some (.i k (wrapF k n))
noncomputable def byte1 (v : AVal) : Option Nat := ob (asKI v) fun x => ifb (keq x.k .u8) (natOf x.n 255) none
noncomputable def bytesA (l : List AVal) : Option (List Nat) := List.rec (some []) (fun v _ ih => ob (byte1 v) fun n => ob ih fun r => some (n :: r)) l
noncomputable def byteA (c : Nat) : AVal := .i .u8 (Int.ofNat c)
noncomputable def ofBytes (l : List Nat) : List AVal := mapR byteA l
noncomputable def kToStr (x : AOpd) : Option AVal := ob (asSl (ev f x)) fun s =>
  ifb (Nat.beq s.len 0) (some (.s [])) (Option.rec none (fun a => ob (h.read a s.len) fun l => ob (bytesA l) fun t => some (.s t)) s.a)
noncomputable def kIface (t : TypeId) (x : AOpd) : Option AVal := some (.ifc t (ev f x))
noncomputable def kFunc (g : FuncId) (a c : List AOpd) : Option AVal := some (.fn (.func g) (evL f a) (evL f c))
/-- a bound of a slice: d if it lacks; at most m -/
noncomputable def bound (x : Option AOpd) (d m : Nat) : Option Nat := Option.rec (some d) (fun x => ob (asI (ev f x)) fun n => natOf n m) x
noncomputable def kSliceStr (x : AOpd) (lo hi : Option AOpd) : Option AVal := ob (asS (ev f x)) fun l =>
  ob (bound f hi (lenR l) (lenR l)) fun hi => ob (bound f lo 0 hi) fun lo => ob (takeX (Nat.sub hi lo) (dropR lo l)) fun r => some (.s r)
noncomputable def moved (a : Adr) (n : Nat) : Adr := (a.1, Nat.add a.2 n)
noncomputable def slAt (a : Option Adr) (esz lo hi m g : Nat) : AVal :=
  .sl (Option.rec none (fun a => some (moved a (Nat.mul lo esz))) a) (Nat.sub hi lo) (Nat.sub m lo) g
/-- is nothing to be grown, or an element of so many cells? -/
noncomputable def gOk (g esz : Nat) : Bool := ifb (Nat.beq g 0) true (Nat.beq g esz)
noncomputable def newG (g : Nat) (mx : Option AOpd) : Nat := Option.rec g (fun _ => 0) mx
noncomputable def kSlice (esz : Nat) (x : AOpd) (lo hi mx : Option AOpd) : Option AVal := ob (asSl (ev f x)) fun s =>
  ob (bound f mx s.cap s.cap) fun m => ob (bound f hi s.len m) fun hi => ob (bound f lo 0 hi) fun lo => ifb (gOk s.g esz) (some (slAt s.a esz lo hi m (newG s.g mx))) none
noncomputable def kSliceArr (esz n : Nat) (x : AOpd) (lo hi : Option AOpd) : Option AVal := ob (asP (ev f x)) fun a =>
  ob (bound f hi n n) fun hi => ob (bound f lo 0 hi) fun lo => some (slAt (some a) esz lo hi n 0)
noncomputable def kFieldAddr (off : Nat) (x : AOpd) : Option AVal := ob (asP (ev f x)) fun a => some (.p (some (moved a off)))
noncomputable def kField (off : Nat) (agg : Bool) (n : Nat) (x : AOpd) : Option AVal := ob (asAg (ev f x)) fun l => ob (takeX n (dropR off l)) (packA agg)
noncomputable def under (j : Int) (n : Nat) : Option Nat := Int.rec (fun m => ifb (Nat.blt m n) (some m) none) (fun _ => none) j
noncomputable def kIndexArr (n esz : Nat) (x ix : AOpd) : Option AVal := ob (asP (ev f x)) fun a => ob (asI (ev f ix)) fun j => ob (under j n) fun j => some (.p (some (moved a (Nat.mul j esz))))
noncomputable def kIndexSl (esz : Nat) (x ix : AOpd) : Option AVal := ob (asSl (ev f x)) fun s => ob s.a fun a => ob (asI (ev f ix)) fun j => ob (under j s.len) fun j => some (.p (some (moved a (Nat.mul j esz))))
noncomputable def kIndexStr (x ix : AOpd) : Option AVal := ob (asS (ev f x)) fun l => ob (asI (ev f ix)) fun j => Int.rec (fun j => ob (atR j l) fun c => some (byteA c)) (fun _ => none) j
noncomputable def kIndexVal (n esz : Nat) (agg : Bool) (m : Nat) (x ix : AOpd) : Option AVal := ob (asAg (ev f x)) fun l => ob (asI (ev f ix)) fun j => ob (under j n) fun j => ob (takeX m (dropR (Nat.mul j esz) l)) (packA agg)
noncomputable def kExtract (ix : Nat) (t : AOpd) : Option AVal := ob (asTu (ev f t)) fun l => atR ix l
/-- a map's keys -/
inductive KeyK where
  | int
  | str
  | st (ks : List FK)
noncomputable def sameKey (q : KeyK) (k k' : AVal) : Option Bool := KeyK.rec
  (ob (asKI k) fun a => ceqI a.k a.n k') (ob (asS k) fun l => ceqS l k') (fun ks => ob (asAg k) fun l => ob (asAg k') (eqN ks l)) q
/-- the first entry of a key, and its place -/
noncomputable def findK (q : KeyK) (k : AVal) (l : List Entry) : Option (Option (Nat × Entry)) :=
  List.rec (some none) (fun e _ ih => ob (sameKey q k e.k) fun t => ifb t (some (some (0, e))) (ob ih fun r => some (Option.rec none (fun p => some (Nat.succ p.1, p.2)) r))) l
noncomputable def keyOk (q : KeyK) (k : AVal) : Bool := Option.rec false (fun _ => true) (sameKey q k k)
noncomputable def asMap (x : Blk) : Option (List Entry × Nat) := Blk.rec (fun _ => none) (fun es c => some (es, c)) (fun _ => none) (fun _ _ => none) none x
noncomputable def mapAt (b : Pos) : Option (List Entry × Nat) := ob (h.get b) asMap
noncomputable def entriesA (m : AVal) : Option (List Entry) := ob (asMp m) fun o => Option.rec (some []) (fun b => ob (mapAt h b) fun x => some x.1) o
noncomputable def kLookup (q : KeyK) (z : AVal) (ok : Bool) (x ix : AOpd) : Option AVal := ob (entriesA h (ev f x)) fun es => ifb (keyOk q (ev f ix)) (ob (findK q (ev f ix) es) fun r =>
  some (ifb ok (Option.rec (.tu [z, .b false]) (fun p => .tu [p.2.v, .b true]) r) (Option.rec z (fun p => p.2.v) r))) none
/-! builtins that turn nothing -/
noncomputable def kLenS (x : AOpd) : Option AVal := ob (asS (ev f x)) fun l => some (.i .i64 (Int.ofNat (lenR l)))
noncomputable def kLen (x : AOpd) : Option AVal := ob (asSl (ev f x)) fun s => some (.i .i64 (Int.ofNat s.len))
noncomputable def kLenMap (x : AOpd) : Option AVal := ob (entriesA h (ev f x)) fun es => some (.i .i64 (Int.ofNat (lenR es)))
noncomputable def kCap (x : AOpd) : Option AVal := ob (asSl (ev f x)) fun s => ifb (Nat.beq s.g 0) (some (.i .i64 (Int.ofNat s.cap))) none
noncomputable def mx2 (a c : KI) : KI := ⟨a.k, ifb (ltI a.n c.n) c.n a.n⟩
noncomputable def mn2 (a c : KI) : KI := ⟨a.k, ifb (ltI c.n a.n) c.n a.n⟩
noncomputable def foldK (g : KI → KI → KI) (l : List AVal) : KI → Option AVal := List.rec (motive := fun _ => KI → Option AVal) (fun a => some (.i a.k a.n)) (fun v _ ih a => ob (asKI v) fun c => ih (g a c)) l
noncomputable def maxA (v : AVal) (l : List AVal) : Option AVal := ob (asKI v) (foldK mx2 l)
noncomputable def minA (v : AVal) (l : List AVal) : Option AVal := ob (asKI v) (foldK mn2 l)
noncomputable def kMax (x : AOpd) (l : List AOpd) : Option AVal := maxA (ev f x) (evL f l)
noncomputable def kMin (x : AOpd) (l : List AOpd) : Option AVal := minA (ev f x) (evL f l)
end sCalc

/-! ### Operations that make one block -/
section sMake
variable (f : Fr) (b : Pos)
abbrev Made := AVal × Blk
noncomputable def mCells (l : List AVal) : Blk := .cells ⟨l, true, []⟩
noncomputable def kAlloc (z : List AVal) : Option Made := some (.p (some (b, 0)), mCells z)
noncomputable def kBox (x : AOpd) : Option Made := some (.p (some (b, 0)), mCells (ev f x).cells)
noncomputable def kBuildSl (z : List AVal) (len : Nat) (ps : List Part) : Option Made := ob (fill f ps z) fun l => some (.sl (some (b, 0)) len len 0, mCells l)
noncomputable def kToBytes (x : AOpd) : Option Made := ob (asS (ev f x)) fun l => some (.sl (some (b, 0)) (lenR l) (lenR l) 1, mCells (ofBytes l))
noncomputable def kMkMap : Option Made := some (.mp (some b), .map [] 0)
noncomputable def kMkSl (z : List AVal) (bytes : Nat) (l c : AOpd) : Option Made := ob (asI (ev f c)) fun c => ob (natOf c 16777216) fun c => ob (asI (ev f l)) fun l => ob (natOf l c) fun l =>
  ifb (Nat.ble (Nat.mul c bytes) 140737488355328) (some (.sl (some (b, 0)) l c 0, mCells (repR z c))) none
noncomputable def kRange (x : AOpd) : Option Made := ob (asS (ev f x)) fun l => some (.p (some (b, 0)), .siter l 0)
end sMake

/-! ### Operations that may turn the heap -/
inductive Nx where
  | val (v : AVal) (h : Hp)
  | enter (g : Nat) (args : List AVal)
  | round (l : Pos) (args : List AVal)
section sTurn
variable (f : Fr) (h : Hp)
noncomputable def kStore (n : Nat) (a v : AOpd) : Option Nx := ob (asP (ev f a)) fun a => ifb (Nat.beq (lenR (ev f v).cells) n) (ob (h.write a (ev f v).cells) fun h' => some (.val undefA h')) none
noncomputable def kUpdate (q : KeyK) (m k v : AOpd) : Option Nx := ob (asMp (ev f m)) fun o => ob o fun b => ob (mapAt h b) fun x => ifb (keyOk q (ev f k)) (ob (findK q (ev f k) x.1) fun r =>
  Option.rec (some (.val undefA (h.put b (.map (appR x.1 [⟨ev f k, ev f v, x.2⟩]) (Nat.succ x.2)))))
    (fun p => ob (layR [⟨ev f k, ev f v, p.2.born⟩] p.1 x.1) fun es => some (.val undefA (h.put b (.map es x.2)))) r) none
noncomputable def kEntry (q : KeyK) (z : AVal) (m k : AOpd) : Option Nx := ob (asMp (ev f m)) fun o => ob o fun b => ob (mapAt h b) fun x => ifb (keyOk q (ev f k)) (ob (findK q (ev f k) x.1) fun r =>
  Option.rec (some (.val (.tu [z, .i .i64 (Int.ofNat x.2)]) (h.put b (.map (appR x.1 [⟨ev f k, z, x.2⟩]) (Nat.succ x.2)))))
    (fun p => ob (layR [⟨ev f k, p.2.v, p.2.born⟩] p.1 x.1) fun es => some (.val (.tu [p.2.v, .i .i64 (Int.ofNat p.2.born)]) (h.put b (.map es x.2)))) r) none
noncomputable def findBorn (n : Int) (l : List Entry) : Option (Nat × Entry) :=
  List.rec none (fun e _ ih => ifb (eqI (Int.ofNat e.born) n) (some (0, e)) (ob ih fun p => some (Nat.succ p.1, p.2))) l
noncomputable def kEntrySt (m s v : AOpd) : Option Nx := ob (asMp (ev f m)) fun o => ob o fun b => ob (mapAt h b) fun x => ob (asI (ev f s)) fun n => ob (findBorn n x.1) fun p =>
  ob (layR [⟨p.2.k, ev f v, p.2.born⟩] p.1 x.1) fun es => some (.val undefA (h.put b (.map es x.2)))
noncomputable def asIter (x : Blk) : Option (List Nat × Nat) := Blk.rec (fun _ => none) (fun _ _ => none) (fun _ => none) (fun l n => some (l, n)) none x
noncomputable def kNext (it : AOpd) : Option Nx := ob (asP (ev f it)) fun a => ifb (Nat.beq a.2 0) (ob (h.get a.1) fun x => ob (asIter x) fun s =>
  Option.rec (some (.val (.tu [.b false]) h))
    (fun c => ifb (Nat.blt c 128) (some (.val (.tu [.b true, .i .i64 (Int.ofNat s.2), .i .i32 (Int.ofNat c)]) (h.put a.1 (.siter s.1 (Nat.succ s.2))))) none) (atR s.2 s.1)) none
noncomputable def goFn (g : AFn) (a : List AVal) (as c : List AVal) : Option Nx := AFn.rec (fun k => some (.enter k (appR a (appR as c)))) (fun l => some (.round l (appR a as))) g
noncomputable def goTo (as : List AVal) (v : AVal) : Option Nx := AVal.rec (motive_1 := fun _ => List AVal → Option Nx) (motive_2 := fun _ => Unit) (fun _ _ => fun _ => none) (fun _ => fun _ => none) (fun _ => fun _ => none) (fun _ => fun _ => none) (fun _ _ _ _ => fun _ => none) (fun g a c _ _ as => goFn g a as c) (fun _ => none) (fun _ _ _ => fun _ => none) (fun _ => none) (fun _ _ => fun _ => none) (fun _ _ => fun _ => none) (fun _ => fun _ => none) (fun _ => fun _ => none) () (fun _ _ _ _ => ()) v as
noncomputable def kCall (g : AOpd) (as : List AOpd) : Option Nx := goTo (evL f as) (ev f g)
/-- what append adds: how many, the cells -/
noncomputable def srcSl (a : Option Adr) (n _ _ : Nat) (h : Hp) (esz : Nat) : Option (Nat × List AVal) := ifb (Nat.beq n 0) (some (n, [])) (Option.rec none (fun a => ob (h.read a (Nat.mul n esz)) fun l => some (n, l)) a)
noncomputable def srcS (l : List Nat) (_ : Hp) (_ : Nat) : Option (Nat × List AVal) := some (lenR l, ofBytes l)
noncomputable def srcA (esz : Nat) (v : AVal) : Option (Nat × List AVal) := AVal.rec (motive_1 := fun _ => Hp → Nat → Option (Nat × List AVal)) (motive_2 := fun _ => Unit) (fun _ _ => fun _ _ => none) (fun _ => fun _ _ => none) srcS (fun _ => fun _ _ => none) srcSl (fun _ _ _ _ _ => fun _ _ => none) (fun _ _ => none) (fun _ _ _ => fun _ _ => none) (fun _ _ => none) (fun _ _ => fun _ _ => none) (fun _ _ => fun _ _ => none) (fun _ => fun _ _ => none) (fun _ => fun _ _ => none) () (fun _ _ _ _ => ()) v h esz
noncomputable def newRow (esz : Nat) (l : List AVal) (stale : List Pos) (n : Nat) (after : Hp → Hp) : Option Nx :=
  some (.val (.sl (some (h.next, 0)) n n esz) (after (h.new (.cells ⟨l, true, stale⟩))))
/-- the row of a slice that lies at the end of what is known of a block with room -/
noncomputable def grown (esz : Nat) (a : Adr) (len need : Nat) (c : Cells) (l : List AVal) : Option Nx :=
  ifb c.own
    (ifb (Nat.beq (Nat.add a.2 (Nat.mul len esz)) (lenR c.vs))
      (newRow h esz l (a.1 :: c.stale) need fun h' => h'.put a.1 (.cells ⟨c.vs, false, []⟩))
      (newRow h esz l [] need fun h' => (h'.kill c.stale).put a.1 .dead)) none
noncomputable def more (esz : Nat) (a : Adr) (len g need : Nat) (c : Cells) (l : List AVal) : Option Nx :=
  ifb (Nat.beq g 0) (newRow h esz l [] need fun h' => h') (ifb (Nat.beq g esz) (grown h esz a len need c l) none)
noncomputable def fitsQ (bytes : Nat) : Nat := Nat.div 140737488355328 (Nat.succ bytes)
noncomputable def fitsA (need bytes : Nat) : Bool := ifb (Nat.ble 4096 (fitsQ bytes)) (Nat.ble need (Nat.div (Nat.sub (fitsQ bytes) 4096) 4)) false
omit [Tok] in
theorem fitsA_iff {n b : Nat} : fitsA n b = true ↔ 4096 ≤ 140737488355328 / (b + 1) ∧ n ≤ (140737488355328 / (b + 1) - 4096) / 4 := by
  unfold fitsA
  show ifb (Nat.ble 4096 (140737488355328 / (b + 1))) (Nat.ble n ((140737488355328 / (b + 1) - 4096) / 4)) false = true ↔ _
  rw [← Nat.ble_eq, ← Nat.ble_eq (x := n)]
  cases Nat.ble 4096 (140737488355328 / (b + 1)) <;> simp
omit [Tok] in
theorem fitsA_le {n b : Nat} (h : fitsA n b = true) : (4 * n + 4096) * (b + 1) ≤ 140737488355328 := by
  obtain ⟨h1, h2⟩ := fitsA_iff.1 h
  have h3 : 4 * n + 4096 ≤ 140737488355328 / (b + 1) := by omega
  exact Nat.le_trans (Nat.mul_le_mul_right _ h3) (Nat.div_mul_le_self _ _)
noncomputable def appendTo (esz bytes : Nat) (s : Sl) (need : Nat) (new : List AVal) : Option Nx :=
  Option.rec
    (ifb (Nat.ble need s.cap) (some (.val (.sl none need s.cap 0) h)) (ifb (fitsA need bytes && Nat.beq s.len 0) (newRow h esz new [] need fun h' => h') none))
    (fun a => ifb (Nat.ble need s.cap) (ob (h.write (moved a (Nat.mul s.len esz)) new) fun h' => some (.val (.sl (some a) need s.cap s.g) h'))
      (ifb (fitsA need bytes) (ifb (Nat.beq s.len 0 && Nat.beq s.g 0) (newRow h esz new [] need fun h' => h') (ob (h.cells a.1) fun c => ob (takeX (Nat.mul s.len esz) (dropR a.2 c.vs)) fun old => more h esz a s.len s.g need c (appR old new))) none)) s.a
noncomputable def appendA (esz bytes : Nat) (s : Sl) (n : Nat) (new : List AVal) : Option Nx :=
  ifb (allR oneA new && (Nat.beq (lenR new) (Nat.mul n esz) && Nat.blt 0 esz)) (appendTo h esz bytes s (Nat.add s.len n) new) none
noncomputable def kAppend (esz bytes : Nat) (s x : AOpd) : Option Nx := ob (asSl (ev f s)) fun s => ob (srcA h esz (ev f x)) fun p => appendA h esz bytes s p.1 p.2
noncomputable def kAppendZ (z : List AVal) (esz bytes : Nat) (s x : AOpd) : Option Nx := ob (asSl (ev f s)) fun s => ob (asI (ev f x)) fun n => ob (natOf n 16777216) fun n => appendA h esz bytes s n (repR z n)
noncomputable def kClear (z : List AVal) (x : AOpd) : Option Nx := ob (asSl (ev f x)) fun s => Option.rec (some (.val undefA h)) (fun a => ob (h.write a (repR z s.len)) fun h' => some (.val undefA h')) s.a
noncomputable def copyTo (n : Nat) (d : Option Adr) (cs : List AVal) : Option Nx :=
  Option.rec (ifb (Nat.beq (lenR cs) 0) (some (.val (.i .i64 (Int.ofNat n)) h)) none) (fun a => ob (h.write a cs) fun h' => some (.val (.i .i64 (Int.ofNat n)) h')) d
noncomputable def minN (a b : Nat) : Nat := ifb (Nat.ble a b) a b
noncomputable def cpSl (a : Option Adr) (m _ _ : Nat) (h : Hp) (esz : Nat) (d : Sl) : Option Nx := Option.rec (ifb (Nat.beq m 0) (some (.val (.i .i64 0) h)) none) (fun a => ob (h.read a (Nat.mul (minN m d.len) esz)) fun cs => copyTo h (minN m d.len) d.a cs) a
noncomputable def cpS (l : List Nat) (h : Hp) (_ : Nat) (d : Sl) : Option Nx := ob (takeX (minN (lenR l) d.len) l) fun r => copyTo h (minN (lenR l) d.len) d.a (ofBytes r)
noncomputable def copyFrom (esz : Nat) (d : Sl) (v : AVal) : Option Nx := AVal.rec (motive_1 := fun _ => Hp → Nat → Sl → Option Nx) (motive_2 := fun _ => Unit) (fun _ _ => fun _ _ _ => none) (fun _ => fun _ _ _ => none) cpS (fun _ => fun _ _ _ => none) cpSl (fun _ _ _ _ _ => fun _ _ _ => none) (fun _ _ _ => none) (fun _ _ _ => fun _ _ _ => none) (fun _ _ _ => none) (fun _ _ => fun _ _ _ => none) (fun _ _ => fun _ _ _ => none) (fun _ => fun _ _ _ => none) (fun _ => fun _ _ _ => none) () (fun _ _ _ _ => ()) v h esz d
noncomputable def kCopy (esz : Nat) (d s : AOpd) : Option Nx := ob (asSl (ev f d)) fun d => copyFrom h esz d (ev f s)
end sTurn
inductive AOp where
  | calc (g : Fr → Hp → Option AVal)
  | read (g : Fr → Hp → Option AVal)
  | make (g : Fr → Pos → Option Made)
  | turn (g : Fr → Hp → Option Nx)
structure AOper where
  dst : Option Slot
  op : AOp
  guard : Option (Option Slot × Bool)
  looks : List Slot
end Go.Av


noncomputable section
namespace Go.Av
variable [Tok]
/-! ### From the model's code -/
def cv1 : Value → Option AVal
  | .bool b => some (.b b)
  | .int k n => some (.i k n)
  | .string s => some (.s (s.data.toList.map UInt8.toNat))
  | .pointer none => some (.p none)
  | .slice none n c => some (.sl none n c 0)
  | .nilFunc => some .nilF
  | .nilIface => some .nilI
  | .map none => some (.mp none)
  | _ => none
def cvs : List Value → Option (List AVal)
  | [] => some []
  | v :: r => match cv1 v with
    | some a => match cvs r with | some l => some (a :: l) | none => none
    | none => none
def cv : Value → Option AVal
  | .agg cs => match cvs cs.toList with | some l => some (.ag l) | none => none
  | .tuple cs => match cvs cs.toList with | some l => some (.tu l) | none => none
  | v => cv1 v
/-- globals' blocks: the abstract block of variable g is Pos.ofNat g -/
def co (P : Program) : Operand → Option AOpd
  | .tmp t => bif Nat.blt t 512 then some (.tmp (slot t)) else none
  | .const v => match cv v with | some a => some (.const a) | none => none
  | .global g => bif Nat.blt g P.globals.size then some (.const (.p (some (Pos.ofNat g, 0)))) else none
  | .func f => some (.const (.fn (.func f) [] []))
def cos (P : Program) : List Operand → Option (List AOpd)
  | [] => some []
  | x :: r => match co P x with
    | some a => match cos P r with | some l => some (a :: l) | none => none
    | none => none
def coO (P : Program) : Option Operand → Option (Option AOpd)
  | none => some none
  | some x => match co P x with | some a => some (some a) | none => none
section
variable (P : Program)
def infoK (t : TypeId) : Option (Nat × Nat) := match P.info? t with | some i => some (i.size, i.bytes) | none => none
def zeroK (t : TypeId) : Option AVal := match P.info? t with
  | some i => match i.zero with | some z => cv z | none => none
  | none => none
def aggK (t : TypeId) : Option Bool := match P.underlying t with
  | some (.struct _) => some true
  | some (.array _ _) => some true
  | some _ => some false
  | none => none
def basicK (t : TypeId) : Option FK := match P.underlying t with
  | some .bool => some .bool
  | some (.int _) => some .int
  | some .string => some .str
  | _ => none
/-- fields of one cell each, one behind the other -/
def flatK : List Field → Nat → Option (List FK)
  | [], _ => some []
  | f :: r, n => bif (f.name != "_") && Nat.beq f.offset n then (match basicK P f.type, flatK r (n + 1) with | some k, some l => some (k :: l) | _, _ => none) else none
def structK (t : TypeId) : Option (List FK) := match P.underlying t with
  | some (.struct fs) => bif !P.stoodInHeld t && !P.eqGuardType P.depth t then flatK P fs.toList 0 else none
  | _ => none
def eqK (t : TypeId) : EqK := match P.underlying t with
  | some .bool => .bool
  | some (.pointer _) => .ptr
  | some (.slice _) => .slice
  | some (.map _ _) => .map
  | some (.func _ _ _) => .func
  | some (.interface _) => .iface
  | some (.struct _) => match structK P t with | some l => .st l | none => .no
  | _ => .no
def keyK (t : TypeId) : Option KeyK := match P.underlying t with
  | some (.int _) => some .int
  | some .string => some .str
  | some (.struct _) => match structK P t with | some l => some (.st l) | none => none
  | _ => none
/-- the elements' type, size (in cells) and bytes -/
def elemK (t : TypeId) : Option (TypeId × Nat × Nat) := match P.underlying t with
  | some (.slice e) => match infoK P e with | some (n, m) => some (e, n, m) | none => none
  | _ => none
def partsK (place : Nat → Option (Nat × Nat)) : List (Nat × Operand) → Option (List Part)
  | [] => some []
  | (i, x) :: r => match place i, co P x, partsK place r with
    | some (o, n), some a, some l => some (⟨o, n, a⟩ :: l)
    | _, _, _ => none
def placesK : List Field → Option (List (Nat × Nat))
  | [] => some []
  | f :: r => match infoK P f.type, placesK r with
    | some (n, _), some l => some ((f.offset, n) :: l)
    | _, _ => none
def bltK (b : Builtin) (ts : List TypeId) (as : List AOpd) : Option AOp :=
  match b, ts, as with
  | .append, [t, u], [s, x] => match elemK P t with
    | some (e, n, m) => match zeroK P e with
      | some z => bif Nat.beq z.cells.length n && Nat.blt 0 n then (match P.underlying u with
        | some (.int _) => bif Nat.ble m 16777216 then some (.turn fun f h => kAppendZ f h z.cells n m s x) else none
        | some (.slice _) => some (.turn fun f h => kAppend f h n m s x)
        | some .string => bif Nat.beq n 1 then some (.turn fun f h => kAppend f h n m s x) else none
        | _ => none) else none
      | none => none
    | none => none
  | .len, [t], [x] => match P.underlying t with
    | some .string => some (.calc fun f _ => orT (kLenS f x) (lenT (ev f x)))
    | some (.slice _) => some (.calc fun f _ => kLen f x)
    | some (.map _ _) => some (.read fun f h => kLenMap f h x)
    | _ => none
  | .cap, [t], [x] => match P.underlying t with
    | some (.slice _) => some (.calc fun f _ => kCap f x)
    | _ => none
  | .clear, [t], [x] => match elemK P t with
    | some (e, n, _) => match zeroK P e with | some z => bif Nat.beq z.cells.length n then some (.turn fun f h => kClear f h z.cells x) else none | none => none
    | none => none
  | .copy, t :: _, [d, s] => match elemK P t with | some (_, n, _) => some (.turn fun f h => kCopy f h n d s) | none => none
  | .max, _, x :: l => some (.calc fun f _ => kMax f x l)
  | .min, _, x :: l => some (.calc fun f _ => kMin f x l)
  | _, _, _ => none
def binK0 (op : BinOp) (q : EqK) (x y : AOpd) : AOp :=
  match op with
  | .add => .calc fun f _ => kAdd f x y
  | .sub => .calc fun f _ => kSub f x y
  | .mul => .calc fun f _ => kMul f x y
  | .quo => .calc fun f _ => kQuo f x y
  | .rem => .calc fun f _ => kRem f x y
  | .and => .calc fun f _ => kBit f .and x y
  | .or => .calc fun f _ => kBit f .or x y
  | .xor => .calc fun f _ => kBit f .xor x y
  | .andNot => .calc fun f _ => kBit f .andNot x y
  | .shl => .calc fun f _ => kShl f x y
  | .shr => .calc fun f _ => kShr f x y
  | .lss => .calc fun f _ => kLss f x y
  | .leq => .calc fun f _ => kLeq f x y
  | .gtr => .calc fun f _ => kGtr f x y
  | .geq => .calc fun f _ => kGeq f x y
  | .eql => .calc fun f _ => kEql f q x y
  | .neq => .calc fun f _ => kNeq f q x y
def orCalc (op : BinOp) (x y : AOpd) : AOp → AOp
  | .calc g => .calc fun f h => orT (g f h) (twoT op (ev f x) (ev f y))
  | o => o
def binK (op : BinOp) (q : EqK) (x y : AOpd) : AOp := orCalc op x y (binK0 op q x y)
def kFail : AOp := .calc fun _ _ => none
def cop (o : Op) : Option AOp :=
  match o with
  | .move x => match co P x with | some x => some (.calc fun f _ => kMov f x) | none => none
  | .assign x => match co P x with | some x => some (.calc fun f _ => kMov f x) | none => none
  | .pick c a b => match co P c, co P a, co P b with | some c, some a, some b => some (.calc fun f _ => kPick f c a b) | _, _, _ => none
  | .alloc t => match zeroK P t with | some z => some (.make fun _ b => kAlloc b z.cells) | none => none
  | .box _ x => match co P x with | some x => some (.make fun f b => kBox f b x) | none => none
  | .build t ps => match zeroK P t with
    | some z => match P.underlying t with
      | some (.struct fs) => match placesK P fs.toList with
        | some pl => match partsK P (fun i => pl[i]?) ps.toList with | some l => some (.calc fun f _ => kBuild f z.cells l) | none => none
        | none => none
      | some (.array _ e) => match infoK P e with
        | some (n, _) => match partsK P (fun i => some (i * n, n)) ps.toList with | some l => some (.calc fun f _ => kBuild f z.cells l) | none => none
        | none => none
      | _ => none
    | none => none
  | .buildSlice t len ps => match elemK P t with
    | some (e, n, _) => match zeroK P e with
      | some z => match partsK P (fun i => some (i * n, n)) ps.toList with
        | some l => bif Nat.ble (len * n) 16777216 && (Nat.beq z.cells.length n && Nat.blt 0 n) then some (.make fun f b => kBuildSl f b (repR z.cells len) len l) else none
        | none => none
      | none => none
    | none => none
  | .load t a => match aggK P t, infoK P t, co P a with
    | some true, some (n, _), some a => some (.read fun f h => kLoad f h true n a)
    | some false, _, some a => some (.read fun f h => kLoad f h false 1 a)
    | _, _, _ => none
  | .store t a v => match infoK P t, co P a, co P v with | some (n, _), some a, some v => some (.turn fun f h => kStore f h n a v) | _, _, _ => none
  | .nilCheck x => match co P x with | some x => some (.calc fun f _ => kNilck f x) | none => none
  | .binOp op t x y _ => match co P x, co P y with | some x, some y => some (binK op (eqK P t) x y) | _, _ => none
  | .unOp op _ x => match co P x with | some x => some (.calc fun f _ => kUn f op x) | none => none
  | .convert s d x => match P.underlying s, P.underlying d, co P x with
    | some (.int _), some (.int k), some x => some (.calc fun f _ => kInt f k x)
    | some .string, some .string, some x => some (.calc fun f _ => kStr f x)
    | some .string, some (.slice e), some x => match P.underlying e with | some (.int .u8) => some (.make fun f b => kToBytes f b x) | _ => none
    | some (.slice e), some .string, some x => match P.underlying e with | some (.int .u8) => some (.read fun f h => kToStr f h x) | _ => none
    | _, _, _ => none
  | .makeInterface t x => match P.underlying t, co P x with
    | some (.interface _), _ => none
    | some _, some x => some (.calc fun f _ => kIface f t x)
    | _, _ => none
  | .makeFunc (.func g) a c => match cos P a.toList, cos P c.toList with | some a, some c => some (.calc fun f _ => kFunc f g a c) | _, _ => none
  | .makeMap _ none => some (.make fun _ b => kMkMap b)
  | .makeSlice t l c => match elemK P t, co P l, co P c with
    | some (e, n, m), some l, some c => match zeroK P e with | some z => bif Nat.beq z.cells.length n && Nat.blt 0 n then some (.make fun f b => kMkSl f b z.cells m l c) else none | none => none
    | _, _, _ => none
  | .slice t x lo hi mx => match co P x, coO P lo, coO P hi, coO P mx with
    | some x, some lo, some hi, some mx => match P.underlying t with
      | some .string => match mx with | none => some (.calc fun f _ => kSliceStr f x lo hi) | some _ => none
      | some (.slice e) => match infoK P e with
        | some (n, _) => match mx, hi with
          | some _, none => none
          | _, _ => some (.calc fun f _ => kSlice f n x lo hi mx)
        | none => none
      | some (.array m e) => match infoK P e, mx with | some (n, _), none => some (.calc fun f _ => kSliceArr f n m x lo hi) | _, _ => none
      | _ => none
    | _, _, _, _ => none
  | .fieldAddr t x j => match P.underlying t, co P x with
    | some (.struct fs), some x => match fs[j]? with
      | some fd => match infoK P fd.type with | some (_ + 1, _) => some (.calc fun f _ => kFieldAddr f fd.offset x) | _ => none
      | none => none
    | _, _ => none
  | .field t x j => match P.underlying t, co P x with
    | some (.struct fs), some x => match fs[j]? with
      | some fd => match aggK P fd.type, infoK P fd.type with
        | some true, some (n, _) => some (.calc fun f _ => kField f fd.offset true n x)
        | some false, _ => some (.calc fun f _ => kField f fd.offset false 1 x)
        | _, _ => none
      | none => none
    | _, _ => none
  | .indexAddr t x ix => match P.underlying t, co P x, co P ix with
    | some (.array m e), some x, some ix => match infoK P e with | some (n, _) => some (.calc fun f _ => kIndexArr f m n x ix) | none => none
    | some (.slice e), some x, some ix => match infoK P e with | some (n, _) => some (.calc fun f _ => kIndexSl f n x ix) | none => none
    | _, _, _ => none
  | .index t x ix => match P.underlying t, co P x, co P ix with
    | some .string, some x, some ix => some (.calc fun f _ => kIndexStr f x ix)
    | some (.array m e), some x, some ix => match aggK P e, infoK P e with
      | some true, some (n, _) => some (.calc fun f _ => kIndexVal f m n true n x ix)
      | some false, some (n, _) => some (.calc fun f _ => kIndexVal f m n false 1 x ix)
      | _, _ => none
    | _, _, _ => none
  | .lookup t x ix ok => match P.underlying t, co P x, co P ix with
    | some (.map k e), some x, some ix => match keyK P k, zeroK P e with | some q, some z => some (.read fun f h => kLookup f h q z ok x ix) | _, _ => none
    | _, _, _ => none
  | .mapUpdate t m k v => match P.underlying t, co P m, co P k, co P v with
    | some (.map kt _), some m, some k, some v => match keyK P kt with | some q => some (.turn fun f h => kUpdate f h q m k v) | none => none
    | _, _, _, _ => none
  | .mapEntry t m k => match P.underlying t, co P m, co P k with
    | some (.map kt e), some m, some k => match keyK P kt, zeroK P e with | some q, some z => some (.turn fun f h => kEntry f h q z m k) | _, _ => none
    | _, _, _ => none
  | .entryStore _ m s v => match co P m, co P s, co P v with | some m, some s, some v => some (.turn fun f h => kEntrySt f h m s v) | _, _, _ => none
  | .range t x => match P.underlying t, co P x with | some .string, some x => some (.make fun f b => kRange f b x) | _, _ => none
  | .next it true => match co P it with | some it => some (.turn fun f h => kNext f h it) | none => none
  | .extract t ix => match co P t with | some t => some (.calc fun f _ => kExtract f ix t) | none => none
  | .call c => match c.callee, cos P c.args.toList with
    | .value g, some as => match co P g with | some g => some (.turn fun f _ => kCall f g as) | none => none
    | .builtin b, some as => bltK P b c.argTypes.toList as
    | _, _ => none
  | _ => none
def posO : Option Nat → Option Slot
  | none => none
  | some t => some (slot t)
def dstK (N : Nat) : Option Nat → Bool
  | none => true
  | some t => Nat.blt t N && Nat.blt t 512
def guardK (ops : Array Oper) : Option (Nat × Bool) → Option (Option Slot × Bool)
  | none => none
  | some (j, w) => some (posO ((ops[j]?).bind (·.dst)), w)
def looksO : List Operand → List Slot
  | [] => []
  | .tmp t :: r => slot t :: looksO r
  | _ :: r => looksO r
def looksG : Option (Option Slot × Bool) → List Slot
  | some (some p, _) => [p]
  | _ => []
def opK (N : Nat) (o : Oper) : AOp := bif dstK N o.dst then (match cop P o.op with | some a => a | none => kFail) else kFail
def operK (N : Nat) (ops : Array Oper) (o : Oper) : AOper :=
  { dst := posO o.dst, op := opK P N o, guard := guardK ops o.guard, looks := looksG (guardK ops o.guard) ++ looksO o.op.operands.toList }
end
end Go.Av


noncomputable section
namespace Go.Av
variable [Tok]
/-- a step of a region that draws -/
structure DOper where
  o : AOper
  idx : Nat        -- its place in the text
  lo : Nat         -- how many boundaries back a read must read alike
  need : List Nat  -- those that make a block and that it waits for
inductive ACode where
  | skip
  | region (ops : List AOper)
  | dregion (ops : List DOper)
  | seq (a b : ACode)
  | cond (c : AOpd) (t e : ACode)
  | block (id : Nat) (b : ACode)
  | loop (b : ACode)
  | rangeFunc (f : AOpd) (N : Nat) (params : List Slot) (assign body : Code)
  | exit (id : Nat)
  | scope (b : ACode)
  | label (l : Nat)
  | goto (l : Nat)
  | ret
  | bad
def ancK (bits : Array Nat) (i j : Nat) : Bool := (bits.getD i 0).testBit j
def memN (i : Nat) (l : List Nat) : Bool := List.rec false (fun j _ ih => ifb (Nat.beq i j) true ih) l
def waits (bits : Array Nat) (i : Nat) (dn all : List Nat) : List Nat := all.filter fun j => ancK bits i j && !memN j dn
def canW (bits : Array Nat) (all : List Nat) : List Nat → List Nat → List Nat
  | [], dn => dn ++ all.filter fun j => !memN j dn
  | i :: ws, dn => canW bits all ws (bif memN i dn then dn ++ waits bits i dn all else dn ++ waits bits i dn all ++ [i])
def clsOf : AOp → Nat
  | .calc _ => 0
  | .read _ => 1
  | .make _ => 2
  | .turn _ => 3
def clsAt (l : List AOper) (i : Nat) : Nat := match l[i]? with | some o => clsOf o.op | none => 0
def countA (bits : Array Nat) (i : Nat) (ws : List Nat) : Nat := (ws.filter fun j => ancK bits i j).length
def needK (l : List AOper) (bits : Array Nat) (i : Nat) (all : List Nat) : List Nat := all.filter fun j => ancK bits i j && Nat.beq (clsAt l j) 2
def orderK (l : List AOper) (bits : Array Nat) (ws all : List Nat) : List Nat → Nat → Option (List DOper)
  | [], _ => some []
  | i :: r, k => match l[i]? with
    | some o => match orderK l bits ws all r (bif Nat.beq (clsOf o.op) 3 then k + 1 else k) with
      | some q => some ({ o := o, idx := i, lo := k - countA bits i ws, need := needK l bits i all } :: q)
      | none => none
    | none => none
def memP (p : Slot) : List Slot → Bool
  | [] => false
  | q :: r => decide (p = q) || memP p r
def dstIn (d : Option Slot) (l : List Slot) : Bool := match d with
  | some t => memP t l
  | none => false
def dstEq (d e : Option Slot) : Bool := match d, e with
  | some t, some u => decide (t = u)
  | _, _ => false
/-- i stands ahead of j in the one order: i does not wait for j; where j does not wait for i they touch no temporary of one another's, and one of them turns no heap; no two write one temporary -/
def pairOk (l : List AOper) (bits : Array Nat) (i j : Nat) : Bool :=
  !Nat.beq i j && !ancK bits i j &&
  match l[i]?, l[j]? with
  | some x, some y => !dstEq x.dst y.dst && (ancK bits j i ||
      (!dstIn x.dst y.looks && !dstIn y.dst x.looks && !(Nat.beq (clsOf x.op) 3 && Nat.beq (clsOf y.op) 3) && !(Nat.beq (clsOf x.op) 1 && Nat.beq (clsOf y.op) 3)))
  | _, _ => false
def allOk (l : List AOper) (bits : Array Nat) : List Nat → Bool
  | [] => true
  | i :: r => r.all (fun j => pairOk l bits i j) && allOk l bits r
/-- each waits for earlier ones of the text only -/
def edgesOk (ops : Array Oper) : Bool := (List.range ops.size).all fun i => match ops[i]? with
  | some o => o.after.toList.all fun e => !Region.binds .any e || Nat.blt e.on i
  | none => true
section
variable (P : Program) (N : Nat)
def opersK (ops : Array Oper) : List AOper := mapR (operK P N ops) ops.toList
def planK (ops : Array Oper) : Option (List DOper) :=
  let l := opersK P N ops
  let bits := Region.before ops
  let all := List.range ops.size
  let ws := all.filter fun i => Nat.beq (clsAt l i) 3
  let can := canW bits all ws []
  bif edgesOk ops && allOk l bits can && all.all (fun i => memN i can) && Nat.beq can.length ops.size then orderK l bits ws all can 0 else none
def regK (ops : Array Oper) (draw : Bool) : ACode := bif ops.toList.all (fun o => dstK N o.dst) then (bif draw then (match planK P N ops with | some l => .dregion l | none => .bad) else .region (opersK P N ops)) else .bad
def condK (c : Operand) (t e : ACode) : ACode := match co P c with | some c => .cond c t e | none => .bad
def rangeK (rf : Bool) (f : Operand) (ps : Array Nat) (a b : Code) : ACode := bif rf && ps.toList.all (fun p => Nat.blt p N && Nat.blt p 512) then (match co P f with | some f => .rangeFunc f N (ps.toList.map slot) a b | none => .bad) else .bad
def cc (rf : Bool) (c : Code) : ACode :=
  Code.rec (motive := fun _ => ACode) .skip (fun _ ops d => regK P N ops d) (fun _ _ a b => .seq a b) (fun c _ _ t e => condK P c t e) (fun id _ b => .block id b) (fun _ b => .loop b)
    (fun f ps a b _ _ => rangeK P N rf f ps a b) (fun id => .exit id) (fun _ b => .scope b) (fun l => .label l) (fun l => .goto l) .ret (fun _ => .bad) c
end
/-! ### The machine -/
inductive Ex where
  | norm
  | exit (id : Nat)
  | goto (l : Nat)
  | ret
structure Out where
  e : Ex
  f : Fr
  h : Hp
/-- taken apart at once, so that no chain of projections grows -/
def Out.un {α : Type} (k : Ex → Fr → Hp → α) (x : Out) : α := Out.rec (motive := fun _ => α) k x
def pr2 {α β γ : Type} (k : α → β → γ) (x : α × β) : γ := Prod.rec (motive := fun _ => γ) k x
inductive ARes where
  | tmp (p : Slot)
  | cell (p : Slot) (agg : Bool) (size : Nat)
inductive AFun where
  | code (m : Nat) (res : List ARes) (body : ACode)
  | sem (g : List AVal → Hp → Option (AVal × Hp))
abbrev CallF := Nat → List AVal → Hp → Option (AVal × Hp)
abbrev Rec := ACode → Fr → Hp → Option Out
structure Env where
  P : Program
  fs : Nat → Option AFun
  go : Rec
  fuel : Nat
def argSlots : List Slot := (List.range 40).map slot
def setPar (ps : List Slot) : List AVal → Fr → Fr := List.rec (fun _ t => t) (fun p _ ih l t => List.rec t (fun a r _ => ih r (t.st p a)) l) ps
def resA (f : Fr) (h : Hp) : ARes → Option AVal
  | .tmp p => some (f.gt p)
  | .cell p agg n => ob (asP (f.gt p)) fun a => ob (h.read a n) (packA agg)
def ressA (f : Fr) (h : Hp) (l : List ARes) : Option (List AVal) := List.rec (some []) (fun r _ ih => ob (resA f h r) fun v => ob ih fun vs => some (v :: vs)) l
def retA (l : List AVal) : AVal := List.rec (.tu []) (fun v r _ => List.rec v (fun _ _ _ => .tu l) r) l
def finish (res : List ARes) (o : Out) : Option (AVal × Hp) :=
  Out.un (fun e f h => Ex.rec (ob (ressA f h res) fun l => some (retA l, h)) (fun _ => none) (fun _ => none) (ob (ressA f h res) fun l => some (retA l, h)) e) o
def callFun (rec : Rec) (args : List AVal) (h : Hp) (fn : AFun) : Option (AVal × Hp) :=
  AFun.rec (fun m res body => ifb (Nat.ble (lenR args) m) (ob (rec body (setPar argSlots args Fr.none) h) (finish res)) none) (fun g => g args h) fn
def callF (fs : Nat → Option AFun) (rec : Rec) (g : Nat) (args : List AVal) (h : Hp) : Option (AVal × Hp) := ob (fs g) (callFun rec args h)
def codeFun (rec : Rec) (args : List AVal) (h : Hp) (fn : AFun) : Option (AVal × Hp) :=
  AFun.rec (fun m res body => ifb (Nat.ble (lenR args) m) (ob (rec body (setPar argSlots args Fr.none) h) (finish res)) none) (fun _ => none) fn
/-- of a function of code -/
def codeF (fs : Nat → Option AFun) (rec : Rec) (g : Nat) (args : List AVal) (h : Hp) : Option (AVal × Hp) := ob (fs g) (codeFun rec args h)
def jumpOf : Ex → Option Code
  | .norm => none
  | .ret => some .ret
  | .exit i => some (.exit i)
  | .goto i => some (.goto i)
def asLoop (x : Blk) : Option LoopA := Blk.rec (fun _ => none) (fun _ _ => none) (fun l => some l) (fun _ _ => none) none x
def loopAt (h : Hp) (l : Pos) : Option LoopA := ob (h.get l) asLoop
def isReady : LoopState → Bool
  | .ready => true
  | _ => false
def isBusy : LoopState → Bool
  | .busy => true
  | _ => false
def isNorm : Ex → Bool
  | .norm => true
  | _ => false
def endRd (l : Pos) (o : Out) : Option (AVal × Hp) := ob (loopAt o.h l) fun r =>
  some (.b (jumpOf o.e).isNone, o.h.put l (.loop { r with state := ifb (jumpOf o.e).isNone .ready .done, pending := jumpOf o.e }))
def bodyRd (P : Program) (rec : Rec) (l : Pos) (r0 : LoopA) (o : Out) : Option (AVal × Hp) := ifb (isNorm o.e) (ob (loopAt o.h l) fun r => ifb (isReady r.state)
  (ob (rec (cc P r0.nt false r0.body) o.f (o.h.put l (.loop { r with state := .busy }))) (endRd l)) none) none
def roundF (P : Program) (rec : Rec) (l : Pos) (args : List AVal) (h : Hp) : Option (AVal × Hp) := ob (loopAt h l) fun r =>
  ifb (Nat.beq (lenR r.params) (lenR args)) (ob (rec (cc P r.nt false r.assign) (setPar r.params args r.tmps) h) (bodyRd P rec l r)) none
def nVal (v : AVal) (h' : Hp) (_ : Env) (_ : Hp) : Option (AVal × Hp) := some (v, h')
def nEnter (g : Nat) (args : List AVal) (E : Env) (h : Hp) : Option (AVal × Hp) := callF E.fs E.go g args h
def nRound (l : Pos) (args : List AVal) (E : Env) (h : Hp) : Option (AVal × Hp) := roundF E.P E.go l args h
def nxF (E : Env) (h : Hp) (n : Nx) : Option (AVal × Hp) := Nx.rec (motive := fun _ => Env → Hp → Option (AVal × Hp)) nVal nEnter nRound n E h
def stO (f : Fr) (d : Option Slot) (v : AVal) : Fr := Option.rec f (fun p => f.st p v) d
def isB (w : Bool) (v : AVal) : Bool := Option.rec false (fun c => ifb w c (!c)) (asB v)
def goA (f : Fr) (g : Option (Option Slot × Bool)) : Bool := Option.rec true (fun x => Option.rec false (fun p => isB x.2 (f.gt p)) x.1) g
structure FH where
  f : Fr
  h : Hp
def FH.un {α : Type} (k : Fr → Hp → α) (x : FH) : α := FH.rec (motive := fun _ => α) k x
def putV (f : Fr) (h : Hp) (d : Option Slot) (v : AVal) : Option FH := some ⟨stO f d v, h⟩
def putM (f : Fr) (h : Hp) (d : Option Slot) (m : Made) : Option FH := pr2 (fun v x => some ⟨stO f d v, h.new x⟩) m
def oCalc (g : Fr → Hp → Option AVal) (_ : Env) (f : Fr) (h : Hp) (d : Option Slot) : Option FH := ob (g f h) (putV f h d)
def oMake (g : Fr → Pos → Option Made) (_ : Env) (f : Fr) (h : Hp) (d : Option Slot) : Option FH := ob (g f h.next) (putM f h d)
def putX (f : Fr) (d : Option Slot) (x : AVal × Hp) : Option FH := pr2 (fun v h => some ⟨stO f d v, h⟩) x
def oTurn (g : Fr → Hp → Option Nx) (E : Env) (f : Fr) (h : Hp) (d : Option Slot) : Option FH := ob (g f h) fun n => ob (nxF E h n) (putX f d)
def opF (E : Env) (f : Fr) (h : Hp) (d : Option Slot) (o : AOp) : Option FH := AOp.rec (motive := fun _ => Env → Fr → Hp → Option Slot → Option FH) oCalc oCalc oMake oTurn o E f h d
def stepO (E : Env) (f : Fr) (h : Hp) (o : AOper) : Option FH := ifb (goA f o.guard) (opF E f h o.dst o.op) (some ⟨stO f o.dst undefA, h⟩)
def oNil (_ : Env) (f : Fr) (h : Hp) : Option FH := some ⟨f, h⟩
def oCons (o : AOper) (_ : List AOper) (ih : Env → Fr → Hp → Option FH) (E : Env) (f : Fr) (h : Hp) : Option FH := ob (stepO E f h o) (FH.un (ih E))
def opsF (E : Env) (l : List AOper) (f : Fr) (h : Hp) : Option FH := List.rec (motive := fun _ => Env → Fr → Hp → Option FH) oNil oCons l E f h

mutual
def AVal.same : AVal → AVal → Bool
  | .i k n, .i j m => (decide (k = j)) && (eqI n m)
  | .b a, .b c => a == c
  | .s a, .s c => seq a c
  | .p a, .p c => decide (a = c)
  | .sl a n c g, .sl a' n' c' g' => decide (a = a') && decide (n = n') && decide (c = c') && decide (g = g')
  | .fn g a c, .fn g' a' c' => decide (g = g') && samesL a a' && samesL c c'
  | .nilF, .nilF => true
  | .ifc t v, .ifc u w => decide (t = u) && AVal.same v w
  | .nilI, .nilI => true
  | .ag a, .ag c => samesL a c
  | .tu a, .tu c => samesL a c
  | .mp a, .mp c => decide (a = c)
  | .tok a, .tok c => decide (a = c)
  | _, _ => false
def samesL : List AVal → List AVal → Bool
  | [], [] => true
  | a :: r, c :: q => AVal.same a c && samesL r q
  | _, _ => false
end
/-- blocks that are made but not yet laid: whose, the place, the block -/
structure Pd where
  i : Nat
  b : Pos
  x : Blk
def layP (h : Hp) (l : List Pd) : Hp := List.rec h (fun p _ ih => ih.put p.b p.x) l
def selP (need : List Nat) (l : List Pd) : List Pd := List.rec [] (fun p _ ih => ifb (memN p.i need) (p :: ih) ih) l
def resP (need : List Nat) (l : List Pd) : List Pd := List.rec [] (fun p _ ih => ifb (memN p.i need) ih (p :: ih)) l
def sameO (v : AVal) (x : Option AVal) : Bool := Option.rec false (fun w => AVal.same v w) x
/-- alike at so many boundaries back -/
def alike (g : Fr → Hp → Option AVal) (f : Fr) (p : List Pd) (v : AVal) (n : Nat) : List Hp → Bool :=
  Nat.rec (fun _ => true) (fun _ ih hs => List.rec false (fun h r _ => ifb (sameO v (g f (layP h p))) (ih r) false) hs) n
/-- where a region that draws stands: h: the heap without the blocks that are made but not yet laid; hs: the heaps at the earlier boundaries; n: the place of the next block that is made -/
structure DS where
  f : Fr
  h : Hp
  hs : List Hp
  pend : List Pd
  n : Pos
def dCalc (g : Fr → Hp → Option AVal) (_ : Env) (s : DS) (d : DOper) : Option DS := ob (g s.f s.h) fun v => some { s with f := stO s.f d.o.dst v }
def dRead (g : Fr → Hp → Option AVal) (_ : Env) (s : DS) (d : DOper) : Option DS :=
  ob (g s.f (layP s.h (selP d.need s.pend))) fun v => ifb (alike g s.f (selP d.need s.pend) v d.lo s.hs) (some { s with f := stO s.f d.o.dst v }) none
def dMake (g : Fr → Pos → Option Made) (_ : Env) (s : DS) (d : DOper) : Option DS :=
  ob (g s.f s.n) fun m => some { s with f := stO s.f d.o.dst m.1, pend := ⟨d.idx, s.n, m.2⟩ :: s.pend, n := s.n.succ }
def dTurn (g : Fr → Hp → Option Nx) (E : Env) (s : DS) (d : DOper) : Option DS :=
  ob (g s.f (layP s.h (selP d.need s.pend))) fun x => ob (nxF E (layP s.h (selP d.need s.pend)) x) fun y =>
    some ⟨stO s.f d.o.dst y.1, y.2, s.h :: s.hs, resP d.need s.pend, s.n⟩
def dopF (E : Env) (s : DS) (d : DOper) : Option DS := AOp.rec (motive := fun _ => Env → DS → DOper → Option DS) dCalc dRead dMake dTurn d.o.op E s d
def dskip (s : DS) (d : DOper) : DS := ifb (Nat.beq (clsOf d.o.op) 3) ⟨stO s.f d.o.dst undefA, s.h, s.h :: s.hs, s.pend, s.n⟩ { s with f := stO s.f d.o.dst undefA }
def dStep (E : Env) (s : DS) (d : DOper) : Option DS := ifb (goA s.f d.o.guard) (dopF E s d) (some (dskip s d))
def dNil (_ : Env) (s : DS) : Option DS := some s
def dCons (d : DOper) (_ : List DOper) (ih : Env → DS → Option DS) (E : Env) (s : DS) : Option DS := ob (dStep E s d) fun s => ih E s
def dopsF (E : Env) (l : List DOper) (s : DS) : Option DS := List.rec (motive := fun _ => Env → DS → Option DS) dNil dCons l E s
def skipN (p : Pos) (n : Nat) : Pos := Nat.rec p (fun _ q => q.succ) n
def made (l : List DOper) : Nat := List.rec 0 (fun d _ ih => ifb (Nat.beq (clsOf d.o.op) 2) (Nat.succ ih) ih) l
def findLab : ACode → Nat → Option ACode
  | .seq a b, l => match findLab a l with
    | some r => some (.seq r b)
    | none => findLab b l
  | .label l', l => if l' = l then some .skip else none
  | _, _ => none
/-- one scope's passes, so many at most -/
def scNext (ih : ACode → Fr → Hp → Option Out) (b : ACode) (o : Out) (l : Nat) : Option Out := Option.rec (some o) (fun r => Out.un (fun _ f h => ih r f h) o) (findLab b l)
def scStep (b : ACode) (ih : ACode → Fr → Hp → Option Out) (o : Out) : Option Out := Ex.rec (some o) (fun _ => some o) (scNext ih b o) (some o) o.e
def scopeF (rec : Rec) (b : ACode) (n : Nat) : Rec := Nat.rec (fun _ _ _ => none) (fun _ ih c f h => ob (rec c f h) (scStep b ih)) n
def lpStep (ih : Fr → Hp → Option Out) (o : Out) : Option Out := Out.un (fun e f h => Ex.rec (ih f h) (fun _ => some o) (fun _ => some o) (some o) e) o
def loopF (rec : Rec) (b : ACode) (n : Nat) : Fr → Hp → Option Out := Nat.rec (fun _ _ => none) (fun _ ih f h => ob (rec b f h) (lpStep ih)) n
def sqStep (rec : Rec) (b : ACode) (o : Out) : Option Out := Out.un (fun e f h => Ex.rec (rec b f h) (fun _ => some o) (fun _ => some o) (some o) e) o
def blStep (id : Nat) (o : Out) : Option Out := Ex.rec (some o) (fun i => ifb (Nat.beq i id) (Out.un (fun _ f h => some ⟨.norm, f, h⟩) o) (some o)) (fun _ => some o) (some o) o.e
def outF (x : FH) : Option Out := FH.un (fun f h => some ⟨.norm, f, h⟩) x
def outD (s : DS) : Option Out := some ⟨.norm, s.f, layP s.h s.pend⟩
def afterR (f : Fr) (h : Hp) : Option Code → Option Out
  | none => some ⟨.norm, f, h⟩
  | some .ret => some ⟨.ret, f, h⟩
  | some (.exit i) => some ⟨.exit i, f, h⟩
  | some (.goto i) => some ⟨.goto i, f, h⟩
  | _ => none
def endR (f : Fr) (l : Pos) (h : Hp) : Option Out := ob (loopAt h l) fun r => ifb (isBusy r.state) none (afterR f (h.put l (.loop { r with state := .exhausted })) r.pending)
structure FnV where
  k : Nat
  a : List AVal
  c : List AVal
def asFn : AVal → Option FnV
  | .fn (.func k) a c => some ⟨k, a, c⟩
  | _ => none
def rangeTo (fs : Nat → Option AFun) (rec : Rec) (f : Fr) (l : Pos) (h : Hp) (v : AVal) : Option Out := ob (asFn v) fun g => ob (codeF fs rec g.k (appR g.a (.fn (.yield l) [] [] :: g.c)) h) fun x => endR f l x.2
abbrev StepT := Env → Fr → Hp → Option Out
def cSkip (_ : Env) (f : Fr) (h : Hp) : Option Out := some ⟨.norm, f, h⟩
def cRegion (ops : List AOper) (E : Env) (f : Fr) (h : Hp) : Option Out := ob (opsF E ops f h) outF
def cDregion (ops : List DOper) (E : Env) (f : Fr) (h : Hp) : Option Out := ob (dopsF E ops ⟨f, ⟨h.t, skipN h.next (made ops)⟩, [], [], h.next⟩) outD
def cSeq (a b : ACode) (_ _ : StepT) (E : Env) (f : Fr) (h : Hp) : Option Out := ob (E.go a f h) (sqStep E.go b)
def cCond (c : AOpd) (t e : ACode) (_ _ : StepT) (E : Env) (f : Fr) (h : Hp) : Option Out := ob (asB (ev f c)) fun x => E.go (ifb x t e) f h
def cBlock (id : Nat) (b : ACode) (_ : StepT) (E : Env) (f : Fr) (h : Hp) : Option Out := ob (E.go b f h) (blStep id)
def cLoop (b : ACode) (_ : StepT) (E : Env) (f : Fr) (h : Hp) : Option Out := loopF E.go b E.fuel f h
def cRange (g : AOpd) (N : Nat) (ps : List Slot) (a b : Code) (E : Env) (f : Fr) (h : Hp) : Option Out := rangeTo E.fs E.go f h.next (h.new (.loop ⟨.ready, none, N, f, ps, a, b⟩)) (ev f g)
def cExit (id : Nat) (_ : Env) (f : Fr) (h : Hp) : Option Out := some ⟨.exit id, f, h⟩
def cScope (b : ACode) (_ : StepT) (E : Env) (f : Fr) (h : Hp) : Option Out := scopeF E.go b E.fuel b f h
def cLabel (_ : Nat) (_ : Env) (f : Fr) (h : Hp) : Option Out := some ⟨.norm, f, h⟩
def cGoto (l : Nat) (_ : Env) (f : Fr) (h : Hp) : Option Out := some ⟨.goto l, f, h⟩
def cRet (_ : Env) (f : Fr) (h : Hp) : Option Out := some ⟨.ret, f, h⟩
def cBad (_ : Env) (_ : Fr) (_ : Hp) : Option Out := none
def stepF (E : Env) (c : ACode) (f : Fr) (h : Hp) : Option Out :=
  ACode.rec (motive := fun _ => StepT) cSkip cRegion cDregion cSeq cCond cBlock cLoop cRange cExit cScope cLabel cGoto cRet cBad c E f h
def run (P : Program) (fs : Nat → Option AFun) (n : Nat) : Rec := Nat.rec (fun _ _ _ => none) (fun n ih c f h => stepF ⟨P, fs, ih, n⟩ c f h) n
def call (P : Program) (fs : Nat → Option AFun) (n : Nat) (g : Nat) (args : List AVal) (h : Hp) : Option (AVal × Hp) := callF fs (run P fs n) g args h
def resK (P : Program) : List ResultVar → Option (List ARes)
  | [] => some []
  | .tmp t :: r => bif Nat.blt t 512 then (match resK P r with | some l => some (.tmp (slot t) :: l) | none => none) else none
  | .cell a t :: r => bif !(Nat.blt a 512) then none else match aggK P t, infoK P t, resK P r with
    | some true, some (n, _), some l => some (.cell (slot a) true n :: l)
    | some false, _, some l => some (.cell (slot a) false 1 :: l)
    | _, _, _ => none
def funK (P : Program) (fn : Func) : Option AFun :=
  match fn.body with
  | some c => match resK P fn.results.toList with
    | some l => some (.code (minN 40 fn.ntmps) l (cc P fn.ntmps true c))
    | none => none
  | none => none
end Go.Av


namespace Go.Av

/-! ### Abstract against the model's -/
variable [Tok]
/-- what is known of an abstract block: the model's block, where it begins there, its length, whether it may have room behind it (elements of so many cells), the model's block's size -/
structure BI where
  cb : Nat
  co : Nat
  len : Nat
  csz : Nat
abbrev Sg := Pos → Option BI
def FnR (σ : Sg) : AFn → Fn → Prop
  | .func f, g => g = .func f
  | .yield l, g => ∃ I, σ l = some I ∧ g = .yield I.cb
/-- a slice's place and room: they are known, or there is room behind what is known; of an empty one without room the place is not known -/
def SlR (I : BI) (o n c g : Nat) (a : Addr) (c' : Nat) : Prop :=
  n ≤ c ∧ ((a = ⟨I.cb, I.co + o, none⟩ ∧ (c' = c ∨ (0 < g ∧ o + c * g = I.len ∧ c ≤ c' ∧ I.co + o + c' * g = I.csz))) ∨ (c = 0 ∧ c' = 0))
mutual
def VR (σ : Sg) : AVal → Value → Prop
  | .i k n, v => v = .int k n
  | .b c, v => v = .bool c
  | .s l, v => ∃ s, v = .string s ∧ s.data.toList.map UInt8.toNat = l
  | .p none, v => v = .pointer none
  | .p (some (b, o)), v => ∃ I, σ b = some I ∧ v = .pointer (some ⟨I.cb, I.co + o, none⟩)
  | .sl none n c _, v => v = .slice none n c
  | .sl (some (b, o)) n c g, v => ∃ I a c', σ b = some I ∧ v = .slice (some a) n c' ∧ SlR I o n c g a c'
  | .fn f a c, v => ∃ g a' c', v = .func g a' c' ∧ FnR σ f g ∧ VRL σ a a'.toList ∧ VRL σ c c'.toList
  | .nilF, v => v = .nilFunc
  | .ifc t x, v => ∃ y, v = .iface t y ∧ VR σ x y
  | .nilI, v => v = .nilIface
  | .ag l, v => ∃ l', v = .agg l' ∧ VRL σ l l'.toList
  | .tu l, v => ∃ l', v = .tuple l' ∧ VRL σ l l'.toList
  | .mp none, v => v = .map none
  | .mp (some b), v => ∃ I, σ b = some I ∧ v = .map (some I.cb)
  | .tok k, v => v = Tok.val k
def VRL (σ : Sg) : List AVal → List Value → Prop
  | [], l => l = []
  | a :: r, l => ∃ v q, l = v :: q ∧ VR σ a v ∧ VRL σ r q
end
def Sg.le (σ τ : Sg) : Prop := ∀ b I, σ b = some I → τ b = some I
theorem Sg.le_refl (σ : Sg) : σ.le σ := fun _ _ h => h
theorem Sg.le_trans {a b c : Sg} (h : a.le b) (k : b.le c) : a.le c := fun x I hx => k x I (h x I hx)
theorem FnR.mono {σ τ : Sg} (h : σ.le τ) {f : AFn} {g : Fn} (hf : FnR σ f g) : FnR τ f g := by
  cases f <;> simp only [FnR] at hf ⊢
  · exact hf
  · obtain ⟨I, hI, e⟩ := hf; exact ⟨I, h _ _ hI, e⟩
mutual
theorem VR.mono {σ τ : Sg} (h : σ.le τ) : ∀ (a : AVal) (v : Value), VR σ a v → VR τ a v
  | .i _ _, _, hv => hv
  | .b _, _, hv => hv
  | .s _, _, hv => hv
  | .p none, _, hv => hv
  | .p (some (_, _)), _, hv => by simp only [VR] at hv ⊢; obtain ⟨I, hI, e⟩ := hv; exact ⟨I, h _ _ hI, e⟩
  | .sl none _ _ _, _, hv => hv
  | .sl (some (_, _)) _ _ _, _, hv => by simp only [VR] at hv ⊢; obtain ⟨I, a, c', hI, e⟩ := hv; exact ⟨I, a, c', h _ _ hI, e⟩
  | .fn f a c, _, hv => by
    simp only [VR] at hv ⊢; obtain ⟨g, a', c', e, hf, ha, hc⟩ := hv
    exact ⟨g, a', c', e, hf.mono h, VRL.mono h a _ ha, VRL.mono h c _ hc⟩
  | .nilF, _, hv => hv
  | .ifc _ x, _, hv => by simp only [VR] at hv ⊢; obtain ⟨y, e, hy⟩ := hv; exact ⟨y, e, VR.mono h x y hy⟩
  | .nilI, _, hv => hv
  | .ag l, _, hv => by simp only [VR] at hv ⊢; obtain ⟨l', e, hl⟩ := hv; exact ⟨l', e, VRL.mono h l _ hl⟩
  | .tu l, _, hv => by simp only [VR] at hv ⊢; obtain ⟨l', e, hl⟩ := hv; exact ⟨l', e, VRL.mono h l _ hl⟩
  | .mp none, _, hv => hv
  | .mp (some _), _, hv => by simp only [VR] at hv ⊢; obtain ⟨I, hI, e⟩ := hv; exact ⟨I, h _ _ hI, e⟩
  | .tok _, _, hv => by simp only [VR] at hv ⊢; exact hv
theorem VRL.mono {σ τ : Sg} (h : σ.le τ) : ∀ (a : List AVal) (v : List Value), VRL σ a v → VRL τ a v
  | [], _, hv => hv
  | a :: r, _, hv => by
    simp only [VRL] at hv ⊢; obtain ⟨v, q, e, h1, h2⟩ := hv; exact ⟨v, q, e, VR.mono h a v h1, VRL.mono h r q h2⟩
end
theorem VRL.nil {σ : Sg} : VRL σ [] [] := by simp [VRL]
theorem VRL.cons {σ : Sg} {a : AVal} {v : Value} {r : List AVal} {q : List Value} (h : VR σ a v) (k : VRL σ r q) : VRL σ (a :: r) (v :: q) := by
  simp only [VRL]; exact ⟨v, q, rfl, h, k⟩
theorem VRL.cons_inv {σ : Sg} {a : AVal} {v : Value} {r : List AVal} {q : List Value} (h : VRL σ (a :: r) (v :: q)) : VR σ a v ∧ VRL σ r q := by
  simp only [VRL] at h; obtain ⟨v', q', e, h1, h2⟩ := h; cases e; exact ⟨h1, h2⟩
theorem VRL.length {σ : Sg} : ∀ {a : List AVal} {v : List Value}, VRL σ a v → v.length = a.length
  | [], _, h => by simp only [VRL] at h; subst h; rfl
  | _ :: r, _, h => by simp only [VRL] at h; obtain ⟨v, q, e, _, h2⟩ := h; subst e; simp [VRL.length h2]
theorem VRL.append {σ : Sg} : ∀ {a : List AVal} {v : List Value} {b : List AVal} {w : List Value}, VRL σ a v → VRL σ b w → VRL σ (a ++ b) (v ++ w)
  | [], _, _, _, h, k => by simp only [VRL] at h; subst h; exact k
  | _ :: r, _, _, _, h, k => by simp only [VRL] at h; obtain ⟨v, q, e, h1, h2⟩ := h; subst e; exact VRL.cons h1 (VRL.append h2 k)
theorem VRL.get {σ : Sg} : ∀ {a : List AVal} {v : List Value}, VRL σ a v → ∀ (j : Nat) (x : AVal), a[j]? = some x → ∃ y, v[j]? = some y ∧ VR σ x y
  | [], _, _, j, x, hj => by simp at hj
  | a :: r, _, h, j, x, hj => by
    simp only [VRL] at h; obtain ⟨v, q, e, h1, h2⟩ := h; subst e
    cases j with
    | zero => simp at hj; subst hj; exact ⟨v, rfl, h1⟩
    | succ j => simp at hj ⊢; exact VRL.get h2 j x hj
theorem VRL.of_get {σ : Sg} : ∀ {a : List AVal} {v : List Value}, v.length = a.length → (∀ (j : Nat) (x : AVal) (y : Value), a[j]? = some x → v[j]? = some y → VR σ x y) → VRL σ a v
  | [], v, h, _ => by cases v with | nil => simp [VRL] | cons _ _ => simp at h
  | a :: r, v, h, k => by
    cases v with
    | nil => simp at h
    | cons v q => exact VRL.cons (k 0 a v rfl rfl) (VRL.of_get (by simpa using h) (fun j x y hx hy => k (j + 1) x y (by simpa using hx) (by simpa using hy)))
theorem VRL.take {σ : Sg} {a : List AVal} {v : List Value} (n : Nat) (h : VRL σ a v) : VRL σ (a.take n) (v.take n) := by
  refine VRL.of_get (by simp [h.length]) (fun j x y hx hy => ?_)
  simp only [List.getElem?_take] at hx hy
  split at hx
  · rename_i hj
    rw [if_pos hj] at hy
    obtain ⟨y', h1, h2⟩ := h.get j x hx
    rw [h1] at hy; cases hy; exact h2
  · simp at hx
theorem VRL.drop {σ : Sg} {a : List AVal} {v : List Value} (n : Nat) (h : VRL σ a v) : VRL σ (a.drop n) (v.drop n) := by
  refine VRL.of_get (by simp [h.length]) (fun j x y hx hy => ?_)
  simp only [List.getElem?_drop] at hx hy
  obtain ⟨y', h1, h2⟩ := h.get _ x hx
  rw [h1] at hy; cases hy; exact h2
theorem VR.cells {σ : Sg} {a : AVal} {v : Value} (h : VR σ a v) : VRL σ a.cells v.cells.toList := by
  cases a with
  | ag l => simp only [VR] at h; obtain ⟨l', e, hl⟩ := h; subst e; exact hl
  | i k n => have h' := h; simp only [VR] at h; subst h; exact VRL.cons h' VRL.nil
  | b c => have h' := h; simp only [VR] at h; subst h; exact VRL.cons h' VRL.nil
  | s l => have h' := h; simp only [VR] at h; obtain ⟨_, e, _⟩ := h; subst e; exact VRL.cons h' VRL.nil
  | p o =>
    have h' := h
    rcases o with _ | ⟨b, o⟩ <;> simp only [VR] at h
    · subst h; exact VRL.cons h' VRL.nil
    · obtain ⟨I, _, e⟩ := h; subst e; exact VRL.cons h' VRL.nil
  | sl o n c g =>
    have h' := h
    rcases o with _ | ⟨b, o⟩ <;> simp only [VR] at h
    · subst h; exact VRL.cons h' VRL.nil
    · obtain ⟨I, _, _, _, e, _⟩ := h; subst e; exact VRL.cons h' VRL.nil
  | fn f a c => have h' := h; simp only [VR] at h; obtain ⟨_, _, _, e, _⟩ := h; subst e; exact VRL.cons h' VRL.nil
  | nilF => have h' := h; simp only [VR] at h; subst h; exact VRL.cons h' VRL.nil
  | ifc t x => have h' := h; simp only [VR] at h; obtain ⟨_, e, _⟩ := h; subst e; exact VRL.cons h' VRL.nil
  | nilI => have h' := h; simp only [VR] at h; subst h; exact VRL.cons h' VRL.nil
  | tu l => have h' := h; simp only [VR] at h; obtain ⟨_, e, _⟩ := h; subst e; exact VRL.cons h' VRL.nil
  | tok k =>
    have h' := h
    simp only [VR] at h
    have hc : v.cells = #[v] := by
      have := Tok.one (self := inferInstance) k
      rw [← h] at this
      cases v <;> first | rfl | cases this
    rw [hc]; exact VRL.cons h' VRL.nil
  | mp o =>
    have h' := h
    rcases o with _ | b <;> simp only [VR] at h
    · subst h; exact VRL.cons h' VRL.nil
    · obtain ⟨I, _, e⟩ := h; subst e; exact VRL.cons h' VRL.nil


/-- a frame's temporaries -/
def FrR (σ : Sg) (N : Nat) (f : Fr) (a : Array Value) : Prop := a.size = N ∧ ∀ t, t < 512 → VR σ (f.gt (slot t)) (a.getD t undef)
theorem FrR.mono {σ τ : Sg} (h : σ.le τ) {N : Nat} {f : Fr} {a : Array Value} (hf : FrR σ N f a) : FrR τ N f a :=
  ⟨hf.1, fun t ht => VR.mono h _ _ (hf.2 t ht)⟩
theorem VR_undef {σ : Sg} : VR σ undefA undef := by unfold undefA undef; simp only [VR]; exact ⟨#[], rfl, VRL.nil⟩
theorem FrR.put {σ : Sg} {N : Nat} {f : Fr} {a : Array Value} {v : AVal} {v' : Value} (hf : FrR σ N f a) (t : Nat) (ht : t < N) (h512 : t < 512) (hv : VR σ v v') : FrR σ N (f.st (slot t) v) (a.setIfInBounds t v') := by
  obtain ⟨h1, h3⟩ := hf
  refine ⟨by simp [h1], fun k hk => ?_⟩
  by_cases e : k = t
  · subst e
    rw [Fr.gt_same]
    simp [Array.getD_eq_getD_getElem?, h1, ht]
    exact hv
  · rw [Fr.gt_other _ _ _ _ (fun h => e (slot_inj hk h512 h))]
    simp [Array.getD_eq_getD_getElem?, Array.getElem?_setIfInBounds_ne (Ne.symm e)]
    simpa [Array.getD_eq_getD_getElem?] using h3 k hk
end Go.Av


namespace Go.Av
variable [Tok]

/-! ### Worlds -/
/-- a row of cells written into one block -/
theorem setCells_heap (b : Nat) : ∀ (vs : List Value) (o : Nat) (w : World) (arr : Array Value) (el : TypeId) (fz : Nat × Nat),
    w.heap[b]? = some (.cells arr el fz) → o + vs.length ≤ arr.size →
    ∃ arr', (w.setCells b o vs).heap[b]? = some (.cells arr' el fz) ∧ arr'.toList = arr.toList.take o ++ vs ++ arr.toList.drop (o + vs.length)
  | [], o, w, arr, el, fz, h, ho => ⟨arr, h, by simp⟩
  | v :: r, o, w, arr, el, fz, h, ho => by
    have h1 : (w.setCell ⟨b, o, none⟩ v).heap[b]? = some (.cells (arr.setIfInBounds o v) el fz) := by
      unfold World.setCell
      simp [Array.getElem?_modify, h]
    simp only [List.length_cons] at ho
    obtain ⟨arr', h2, h3⟩ := setCells_heap b r (o + 1) _ _ el fz h1 (by simp; omega)
    refine ⟨arr', h2, ?_⟩
    rw [h3]
    have ho' : o < arr.toList.length := by simp; omega
    simp only [Array.toList_setIfInBounds, List.length_cons]
    rw [List.take_set, List.drop_set_of_lt (by omega)]
    rw [show (arr.toList.take (o + 1)).set o v = arr.toList.take o ++ [v] by
      rw [List.set_eq_take_append_cons_drop]
      rw [if_pos (by simp; omega)]
      simp [List.take_take, Nat.min_eq_left]]
    rw [show o + 1 + r.length = o + (r.length + 1) by omega]; simp
theorem setCells_other (b : Nat) : ∀ (vs : List Value) (o : Nat) (w : World) (k : Nat), k ≠ b → (w.setCells b o vs).heap[k]? = w.heap[k]?
  | [], _, _, _, _ => rfl
  | v :: r, o, w, k, h => by
    show ((w.setCell ⟨b, o, none⟩ v).setCells b (o + 1) r).heap[k]? = _
    rw [setCells_other b r _ _ k h]
    unfold World.setCell
    simp [Array.getElem?_modify, Ne.symm h]
theorem setCells_same (b : Nat) : ∀ (vs : List Value) (o : Nat) (w : World), (w.setCells b o vs).heap.size = w.heap.size ∧ (w.setCells b o vs).os = w.os ∧ (w.setCells b o vs).tape = w.tape ∧ (w.setCells b o vs).output = w.output
  | [], _, _ => ⟨rfl, rfl, rfl, rfl⟩
  | v :: r, o, w => by
    obtain ⟨h1, h2, h3, h4⟩ := setCells_same b r (o + 1) (w.setCell ⟨b, o, none⟩ v)
    exact ⟨h1.trans (by simp [World.setCell]), h2, h3, h4⟩
theorem cell_of {w : World} {b : Nat} {arr : Array Value} {el : TypeId} {fz : Nat × Nat} (h : w.heap[b]? = some (.cells arr el fz)) (o : Nat) : w.cell? ⟨b, o, none⟩ = arr[o]? := by
  simp [World.cell?, h]
theorem frozen_of {w : World} {b : Nat} {arr : Array Value} {el : TypeId} {fz : Nat × Nat} (h : w.heap[b]? = some (.cells arr el fz)) (o : Nat) : w.frozen? ⟨b, o, none⟩ = (decide (fz.1 ≤ o) && decide (o < fz.2)) := by
  simp [World.frozen?, h]
theorem add_none (b o n : Nat) : (⟨b, o, none⟩ : Addr).add n = ⟨b, o + n, none⟩ := by unfold Addr.add; split <;> simp_all

/-! ### The heap against the model's -/
def touch : Blk → Prop
  | .cells c => c.own = true
  | .dead => False
  | _ => True
def EntRL (σ : Sg) : List Entry → List MapEntry → Prop
  | [], l => l = []
  | e :: r, l => ∃ m q, l = m :: q ∧ VR σ e.k m.key ∧ VR σ e.v m.val ∧ m.born = e.born ∧ EntRL σ r q
theorem EntRL.mono {σ τ : Sg} (h : σ.le τ) : ∀ {l : List Entry} {m : List MapEntry}, EntRL σ l m → EntRL τ l m
  | [], _, k => k
  | _ :: r, _, k => by obtain ⟨m, q, e, h1, h2, h3, h4⟩ := k; exact ⟨m, q, e, h1.mono h, h2.mono h, h3, h4.mono h⟩
structure LoopR (σ : Sg) (l : LoopA) (r : Loop) : Prop where
  state : r.state = l.state
  pending : r.pending = l.pending
  params : l.params = r.params.toList.map slot
  small : ∀ p ∈ r.params.toList, p < l.nt ∧ p < 512
  tmps : FrR σ l.nt l.tmps r.tmps
  assign : r.assign = l.assign
  body : r.body = l.body
def BlkR (σ : Sg) (o : Option Obj) (I : BI) : Blk → Prop
  | .cells c => ∃ arr el fz, o = some (.cells arr el fz) ∧ I.len = c.vs.length ∧ I.csz = arr.size ∧ I.co + I.len ≤ arr.size ∧
      VRL σ c.vs ((arr.toList.drop I.co).take I.len) ∧ (c.own = true → ∀ j, j < arr.size → (decide (fz.1 ≤ j) && decide (j < fz.2)) = false)
  | .map es clock => ∃ ms, o = some (.map ms clock) ∧ EntRL σ es ms.toList
  | .loop l => ∃ r, o = some (.loop r) ∧ LoopR σ l r
  | .siter s p => ∃ b, o = some (.stringIter b p) ∧ b.data.toList.map UInt8.toNat = s ∧ I.co = 0
  | .dead => True
theorem BlkR.mono {σ τ : Sg} (h : σ.le τ) {o : Option Obj} {I : BI} {x : Blk} (k : BlkR σ o I x) : BlkR τ o I x := by
  cases x with
  | cells c => obtain ⟨arr, el, fz, h1, h2, h4, h5, h6, h7⟩ := k; exact ⟨arr, el, fz, h1, h2, h4, h5, VRL.mono h _ _ h6, h7⟩
  | map es c => obtain ⟨ms, h1, h2⟩ := k; exact ⟨ms, h1, h2.mono h⟩
  | loop l => obtain ⟨r, h1, h2⟩ := k; exact ⟨r, h1, ⟨h2.state, h2.pending, h2.params, h2.small, h2.tmps.mono h, h2.assign, h2.body⟩⟩
  | siter s p => exact k
  | dead => trivial
structure Sim (σ : Sg) (h : Hp) (w : World) : Prop where
  blk : ∀ b x, h.get b = some x → ∃ I, σ b = some I ∧ BlkR σ w.heap[I.cb]? I x
  fresh : ∀ b : Pos, h.next.toNat ≤ b.toNat → σ b = none
  bound : ∀ b I, σ b = some I → I.cb < w.heap.size
  sep : ∀ b c I J x y, b ≠ c → σ b = some I → σ c = some J → I.cb = J.cb → h.get b = some x → h.get c = some y → touch x → y ≠ .dead →
    ∃ cx cy, x = .cells cx ∧ y = .cells cy ∧ c ∈ cx.stale ∧ cy.own = false ∧ J.co + J.len ≤ I.co + I.len
  stl : ∀ b c, h.get b = some (.cells c) → ∀ d ∈ c.stale, ∃ y, h.get d = some y
/-- what may be written -/
def Tch (σ : Sg) (h : Hp) (k : Nat) : Prop := ∃ b x I, h.get b = some x ∧ touch x ∧ σ b = some I ∧ I.cb = k
structure Step (σ : Sg) (h : Hp) (w : World) (σ' : Sg) (h' : Hp) (w' : World) : Prop where
  le : σ.le σ'
  os : w'.os = w.os
  tape : w'.tape = w.tape
  output : w'.output = w.output
  size : w.heap.size ≤ w'.heap.size
  unt : ∀ k, k < w.heap.size → ¬ Tch σ h k → w'.heap[k]? = w.heap[k]?
  tch : ∀ k, k < w.heap.size → Tch σ' h' k → Tch σ h k
  nx : h.next.toNat ≤ h'.next.toNat
  old : ∀ b : Pos, b.toNat < h.next.toNat → σ' b = σ b
  dom : ∀ b : Pos, b.toNat < h.next.toNat → h.get b = none → h'.get b = none
  nm : ∀ k, k < w.heap.size → ¬ Tch σ h k → ∀ c J, σ' c = some J → J.cb = k → σ c = some J
theorem Step.refl (σ : Sg) (h : Hp) (w : World) : Step σ h w σ h w := ⟨Sg.le_refl _, rfl, rfl, rfl, Nat.le_refl _, fun _ _ _ => rfl, fun _ _ h => h, Nat.le_refl _, fun _ _ => rfl, fun _ _ h => h, fun _ _ _ _ _ h _ => h⟩
theorem Step.trans {σ : Sg} {h : Hp} {w : World} {σ' : Sg} {h' : Hp} {w' : World} {σ'' : Sg} {h'' : Hp} {w'' : World} (a : Step σ h w σ' h' w') (c : Step σ' h' w' σ'' h'' w'') : Step σ h w σ'' h'' w'' where
  le := Sg.le_trans a.le c.le
  os := c.os.trans a.os
  tape := c.tape.trans a.tape
  output := c.output.trans a.output
  size := Nat.le_trans a.size c.size
  unt := fun k hk hn => (c.unt k (Nat.lt_of_lt_of_le hk a.size) (fun h => hn (a.tch k hk h))).trans (a.unt k hk hn)
  tch := fun k hk h => a.tch k hk (c.tch k (Nat.lt_of_lt_of_le hk a.size) h)
  nx := Nat.le_trans a.nx c.nx
  old := fun b hb => (c.old b (Nat.lt_of_lt_of_le hb a.nx)).trans (a.old b hb)
  dom := fun b hb h => c.dom b (Nat.lt_of_lt_of_le hb a.nx) (a.dom b hb h)
  nm := fun k hk hn d J hd e => a.nm k hk hn d J (c.nm k (Nat.lt_of_lt_of_le hk a.size) (fun h => hn (a.tch k hk h)) d J hd e) e

/-! ### Turning the heap -/
def Sg.set (σ : Sg) (b : Pos) (I : BI) : Sg := fun c => if c = b then some I else σ c
theorem Sg.set_same (σ : Sg) (b : Pos) (I : BI) : σ.set b I b = some I := by simp [Sg.set]
theorem Sg.set_other (σ : Sg) {b c : Pos} (I : BI) (h : c ≠ b) : σ.set b I c = σ c := by simp [Sg.set, h]
theorem Sg.le_set {σ : Sg} {b : Pos} (I : BI) (h : σ b = none) : σ.le (σ.set b I) := fun c J hc => by
  by_cases e : c = b
  · subst e; rw [h] at hc; cases hc
  · rw [Sg.set_other _ _ e]; exact hc
theorem Hp.kill_get : ∀ (l : List Pos) (h : Hp) (b : Pos), (h.kill l).get b = if b ∈ l then some .dead else h.get b
  | [], h, b => by simp [Hp.kill_nil]
  | c :: r, h, b => by
    rw [Hp.kill_cons, Hp.kill_get r]
    by_cases e : b = c
    · subst e; rw [Hp.get_put_same]; simp
    · rw [Hp.get_put_other _ _ _ _ e]; simp [e]
theorem Hp.kill_next : ∀ (l : List Pos) (h : Hp), (h.kill l).next = h.next
  | [], _ => rfl
  | c :: r, h => by rw [Hp.kill_cons, Hp.kill_next r]; rfl
theorem Sim.old {σ : Sg} {h : Hp} {w : World} (s : Sim σ h w) {b : Pos} {x : Blk} (hb : h.get b = some x) : ∃ I, σ b = some I := let ⟨I, h1, _⟩ := s.blk b x hb; ⟨I, h1⟩
/-- the worlds' other parts -/
structure Wsame (w w' : World) : Prop where
  os : w'.os = w.os
  tape : w'.tape = w.tape
  output : w'.output = w.output
theorem Sim.upd {σ : Sg} {h h' : Hp} {w w' : World} (s : Sim σ h w) {b0 : Pos} {I0 : BI} {x0 x0' : Blk} {st : List Pos} (hx : h.get b0 = some x0) (ht : touch x0) (hI : σ b0 = some I0)
    (hst : ∀ c, x0 = .cells c → st = c.stale) (hst' : ∀ c, x0' = .cells c → c.stale = [])
    (hn : h'.next = h.next) (hg : ∀ b, h'.get b = if b = b0 then some x0' else if b ∈ st then some .dead else h.get b) (hst0 : ∀ d ∈ st, ∃ y, h.get d = some y)
    (hsz : w'.heap.size = w.heap.size) (hw : ∀ k, k ≠ I0.cb → w'.heap[k]? = w.heap[k]?) (hs : Wsame w w') (hb : BlkR σ w'.heap[I0.cb]? I0 x0') :
    Sim σ h' w' ∧ Step σ h w σ h' w' := by
  have lone : ∀ c J y, c ≠ b0 → σ c = some J → J.cb = I0.cb → h.get c = some y → y ≠ .dead → c ∈ st := by
    intro c J y hc hJ e hy hd
    obtain ⟨cx, cy, e1, e2, h1, h2⟩ := s.sep b0 c I0 J x0 y (Ne.symm hc) hI hJ e.symm hx hy ht hd
    rw [hst cx e1]; exact h1
  have alive : ∀ c y, c ≠ b0 → h'.get c = some y → y ≠ .dead → h.get c = some y ∧ c ∉ st := by
    intro c y hc hy hd
    rw [hg, if_neg hc] at hy
    by_cases e : c ∈ st
    · rw [if_pos e] at hy; cases hy; exact absurd rfl hd
    · rw [if_neg e] at hy; exact ⟨hy, e⟩
  refine ⟨⟨?_, ?_, ?_, ?_, ?_⟩, ⟨Sg.le_refl _, hs.os, hs.tape, hs.output, Nat.le_of_eq hsz.symm, ?_, ?_, by rw [hn]; exact Nat.le_refl _, fun _ _ => rfl, ?_, fun _ _ _ _ _ h _ => h⟩⟩
  · intro b x hbx
    by_cases e : b = b0
    · subst e; rw [hg, if_pos rfl] at hbx; cases hbx; exact ⟨I0, hI, hb⟩
    · by_cases hd : x = .dead
      · subst hd
        have : ∃ y, h.get b = some y := by
          rw [hg, if_neg e] at hbx
          by_cases e' : b ∈ st
          · exact hst0 b e'
          · rw [if_neg e'] at hbx; exact ⟨_, hbx⟩
        obtain ⟨y, hy⟩ := this
        obtain ⟨I, hI'⟩ := s.old hy
        exact ⟨I, hI', trivial⟩
      · obtain ⟨h1, h2⟩ := alive b x e hbx hd
        obtain ⟨I, hI', hR⟩ := s.blk b x h1
        refine ⟨I, hI', ?_⟩
        rw [hw I.cb (fun e' => h2 (lone b I x e hI' e' h1 hd))]; exact hR
  · intro b hb'; rw [hn] at hb'; exact s.fresh b hb'
  · intro b I hI'; rw [hsz]; exact s.bound b I hI'
  · intro b c I J x y hne hI' hJ e hbx hcy htx hyd
    by_cases eb : b = b0
    · subst eb
      rw [hI] at hI'; cases hI'
      obtain ⟨h1, h2⟩ := alive c y (Ne.symm hne) hcy hyd
      exact absurd (lone c J y (Ne.symm hne) hJ e.symm h1 hyd) h2
    · have hxd : x ≠ .dead := fun e' => by subst e'; exact htx
      obtain ⟨h1, h2⟩ := alive b x eb hbx hxd
      by_cases ec : c = b0
      · subst ec
        rw [hI] at hJ; cases hJ
        exact absurd (lone b I x eb hI' e h1 hxd) h2
      · obtain ⟨h3, h4⟩ := alive c y ec hcy hyd
        exact s.sep b c I J x y hne hI' hJ e h1 h3 htx hyd
  · intro b c hbc d hd
    by_cases eb : b = b0
    · subst eb; rw [hg, if_pos rfl] at hbc; cases hbc; rw [hst' c rfl] at hd; cases hd
    · obtain ⟨h1, h2⟩ := alive b _ eb hbc (by simp)
      obtain ⟨y, hy⟩ := s.stl b c h1 d hd
      rw [hg]
      split
      · exact ⟨_, rfl⟩
      · split
        · exact ⟨_, rfl⟩
        · exact ⟨y, hy⟩
  · intro k hk hn'
    exact hw k (fun e => hn' ⟨b0, x0, I0, hx, ht, hI, e.symm⟩)
  · rintro k hk ⟨b, x, I, hbx, htx, hI', e⟩
    by_cases eb : b = b0
    · subst eb; rw [hI] at hI'; cases hI'; exact ⟨b, x0, I0, hx, ht, hI, e⟩
    · have hxd : x ≠ .dead := fun e' => by subst e'; exact htx
      obtain ⟨h1, _⟩ := alive b x eb hbx hxd
      exact ⟨b, x, I, h1, htx, hI', e⟩
  · intro b _ hb
    rw [hg, if_neg (fun e => by subst e; rw [hx] at hb; cases hb), if_neg (fun e => by obtain ⟨y, hy⟩ := hst0 b e; rw [hb] at hy; cases hy)]
    exact hb
/-- a new block of the model's, of which nothing is known yet in the heap -/
theorem Sim.reserve {σ : Sg} {h : Hp} {w w' : World} (s : Sim σ h w) {b : Pos} {I : BI} (hb : σ b = none) (hbn : b.toNat < h.next.toNat)
    (hI : I.cb = w.heap.size) (hsz : w'.heap.size = w.heap.size + 1) (hw : ∀ k, k < w.heap.size → w'.heap[k]? = w.heap[k]?) (hs : Wsame w w') :
    Sim (σ.set b I) h w' ∧ σ.le (σ.set b I) := by
  have hle : σ.le (σ.set b I) := Sg.le_set I hb
  have ne : ∀ c y, h.get c = some y → c ≠ b := fun c y hy e => by
    subst e; obtain ⟨J, hJ⟩ := s.old hy; rw [hb] at hJ; cases hJ
  have un : ∀ c J, c ≠ b → σ.set b I c = some J → σ c = some J := fun c J hc h => by rwa [Sg.set_other _ _ hc] at h
  refine ⟨⟨?_, ?_, ?_, ?_, ?_⟩, hle⟩
  · intro c x hc
    obtain ⟨J, hJ, hR⟩ := s.blk c x hc
    refine ⟨J, hle _ _ hJ, ?_⟩
    rw [hw _ (s.bound _ _ hJ)]; exact hR.mono hle
  · intro c hc
    rw [Sg.set_other _ _ (fun e => by subst e; omega)]; exact s.fresh c hc
  · intro c J hJ
    by_cases e : c = b
    · subst e; rw [Sg.set_same] at hJ; cases hJ; omega
    · have := s.bound c J (un c J e hJ); omega
  · intro c d J K x y hne hJ hK e hc hd htx hyd
    exact s.sep c d J K x y hne (un _ _ (ne c x hc) hJ) (un _ _ (ne d y hd) hK) e hc hd htx hyd
  · exact s.stl
/-- a block that was made is laid into the heap -/
theorem Sim.lay {σ : Sg} {h : Hp} {w : World} (s : Sim σ h w) {b : Pos} {I : BI} {x : Blk} (hb : h.get b = none) (hI : σ b = some I)
    (hR : BlkR σ w.heap[I.cb]? I x) (hst : ∀ c, x = .cells c → c.stale = []) (hone : ∀ c J, σ c = some J → J.cb = I.cb → c = b) : Sim σ (h.put b x) w := by
  have hg : ∀ c, (h.put b x).get c = if c = b then some x else h.get c := fun c => by
    by_cases e : c = b
    · subst e; rw [Hp.get_put_same, if_pos rfl]
    · rw [Hp.get_put_other _ _ _ _ e, if_neg e]
  refine ⟨?_, s.fresh, s.bound, ?_, ?_⟩
  · intro c y hc
    rw [hg] at hc
    by_cases e : c = b
    · subst e; rw [if_pos rfl] at hc; cases hc; exact ⟨I, hI, hR⟩
    · rw [if_neg e] at hc; exact s.blk c y hc
  · intro c d J K y z hne hJ hK e hc hd htx hyd
    have h1 : c ≠ b := fun e' => by subst e'; rw [hI] at hJ; cases hJ; exact hne (hone d K hK e.symm).symm
    have h2 : d ≠ b := fun e' => by subst e'; rw [hI] at hK; cases hK; exact hne (hone c J hJ e)
    rw [hg, if_neg h1] at hc
    rw [hg, if_neg h2] at hd
    exact s.sep c d J K y z hne hJ hK e hc hd htx hyd
  · intro c y hc d hd
    rw [hg] at hc ⊢
    by_cases e : c = b
    · subst e; rw [if_pos rfl] at hc; cases hc; rw [hst y rfl] at hd; cases hd
    · rw [if_neg e] at hc
      split
      · exact ⟨_, rfl⟩
      · exact s.stl c y hc d hd
end Go.Av


namespace Go.Av
variable [Tok]
theorem Sim.next_up {σ : Sg} {h : Hp} {w : World} (s : Sim σ h w) {n : Pos} (hn : h.next.toNat ≤ n.toNat) : Sim σ ⟨h.t, n⟩ w :=
  ⟨s.blk, fun b hb => s.fresh b (Nat.le_trans hn hb), s.bound, s.sep, s.stl⟩
theorem Sim.get_next {σ : Sg} {h : Hp} {w : World} (s : Sim σ h w) {b : Pos} (hb : h.next.toNat ≤ b.toNat) : h.get b = none := by
  cases e : h.get b with
  | none => rfl
  | some x => obtain ⟨I, hI⟩ := s.old e; rw [s.fresh b hb] at hI; cases hI
theorem Sim.new {σ : Sg} {h : Hp} {w w' : World} (s : Sim σ h w) {I : BI} {x : Blk} (hI : I.cb = w.heap.size) (hsz : w'.heap.size = w.heap.size + 1)
    (hw : ∀ k, k < w.heap.size → w'.heap[k]? = w.heap[k]?) (hs : Wsame w w') (hR : BlkR (σ.set h.next I) w'.heap[I.cb]? I x) (hst : ∀ c, x = .cells c → c.stale = []) :
    Sim (σ.set h.next I) (h.new x) w' ∧ Step σ h w (σ.set h.next I) (h.new x) w' := by
  have hb : σ h.next = none := s.fresh _ (Nat.le_refl _)
  have s1 : Sim σ ⟨h.t, h.next.succ⟩ w := s.next_up (by rw [Pos.toNat_succ]; omega)
  obtain ⟨s2, t2⟩ := s1.reserve (b := h.next) hb (by show _ < h.next.succ.toNat; rw [Pos.toNat_succ]; omega) hI hsz hw hs
  have s3 := s2.lay (b := h.next) (x := x) (s.get_next (Nat.le_refl _)) (Sg.set_same _ _ _) hR hst (fun c J hJ e => by
    by_cases ec : c = h.next
    · exact ec
    · rw [Sg.set_other _ _ ec] at hJ
      have := s.bound c J hJ; omega)
  refine ⟨s3, ⟨t2, hs.os, hs.tape, hs.output, by omega, fun k hk _ => hw k hk, ?_, by rw [Hp.new_next, Pos.toNat_succ]; omega, fun c hc => Sg.set_other _ _ (fun e => by subst e; omega), fun c hc h => by rw [Hp.get_new_other _ _ _ (fun e => by subst e; omega)]; exact h, fun k hk _ c J hc e => by
    rwa [Sg.set_other _ _ (fun e' => by subst e'; rw [Sg.set_same] at hc; cases hc; omega)] at hc⟩⟩
  rintro k hk ⟨c, y, J, hc, htx, hJ, e⟩
  have ec : c ≠ h.next := fun e' => by
    subst e'; rw [Sg.set_same] at hJ; cases hJ; omega
  have hc' : h.get c = some y := by
    have := Hp.get_new_other h c x ec
    rw [this] at hc; exact hc
  rw [Sg.set_other _ _ ec] at hJ
  exact ⟨c, y, J, hc', htx, hJ, e⟩
/-- the model draws -/
theorem Sim.drew {σ : Sg} {h : Hp} {w : World} (s : Sim σ h w) (d : Nat) : Sim σ h { w with drawn := d } ∧ Step σ h w σ h { w with drawn := d } :=
  ⟨⟨s.blk, s.fresh, s.bound, s.sep, s.stl⟩, ⟨Sg.le_refl _, rfl, rfl, rfl, Nat.le_refl _, fun _ _ _ => rfl, fun _ _ h => h, Nat.le_refl _, fun _ _ => rfl, fun _ _ h => h, fun _ _ _ _ _ h _ => h⟩⟩
theorem Sim.push {σ : Sg} {h : Hp} {w : World} (s : Sim σ h w) {I : BI} {x : Blk} (o : Obj) (hI : I.cb = w.heap.size)
    (hR : BlkR (σ.set h.next I) (some o) I x) (hst : ∀ c, x = .cells c → c.stale = []) :
    Sim (σ.set h.next I) (h.new x) { w with heap := w.heap.push o } ∧ Step σ h w (σ.set h.next I) (h.new x) { w with heap := w.heap.push o } := by
  refine s.new hI (by simp) (fun k hk => by simp [Array.getElem?_push, Nat.ne_of_lt hk]) ⟨rfl, rfl, rfl⟩ ?_ hst
  have : ({ w with heap := w.heap.push o } : World).heap[I.cb]? = some o := by rw [hI]; simp
  rw [this]; exact hR

/-! ### Reading, writing -/
theorem Sim.cells {σ : Sg} {h : Hp} {w : World} (s : Sim σ h w) {b : Pos} {I : BI} (hI : σ b = some I) {c : Cells} (hc : h.cells b = some c) :
    ∃ arr el fz, w.heap[I.cb]? = some (.cells arr el fz) ∧ I.len = c.vs.length ∧ I.csz = arr.size ∧ I.co + I.len ≤ arr.size ∧
      VRL σ c.vs ((arr.toList.drop I.co).take I.len) ∧ (c.own = true → ∀ j, j < arr.size → (decide (fz.1 ≤ j) && decide (j < fz.2)) = false) := by
  obtain ⟨J, hJ, hR⟩ := s.blk b _ (Hp.cells_eq.1 hc)
  rw [hI] at hJ; cases hJ
  exact hR
theorem drop_take_part {α : Type} (l : List α) (co len o n : Nat) (h : o + n ≤ len) : (((l.drop co).take len).drop o).take n = (l.drop (co + o)).take n := by
  rw [List.drop_take, List.take_take, List.drop_drop, Nat.min_eq_left (by omega)]
theorem Sim.read {σ : Sg} {h : Hp} {w : World} (s : Sim σ h w) {a : Adr} {n : Nat} {l : List AVal} {I : BI} (hI : σ a.1 = some I) (hr : h.read a n = some l) :
    ∃ arr el fz, w.heap[I.cb]? = some (.cells arr el fz) ∧ VRL σ l ((arr.toList.drop (I.co + a.2)).take n) ∧ ((arr.toList.drop (I.co + a.2)).take n).length = n := by
  unfold Hp.read at hr
  rw [ob_eq] at hr
  obtain ⟨c, hc, hr⟩ := hr
  rw [dropR_eq, takeX_eq] at hr
  obtain ⟨h1, h2⟩ := hr
  obtain ⟨arr, el, fz, e1, e2, _, e5, e6, _⟩ := s.cells hI hc
  refine ⟨arr, el, fz, e1, ?_⟩
  subst h2
  have hlen : n = 0 ∨ a.2 + n ≤ I.len := by simp at h1; omega
  rcases hlen with h0 | hlen
  · subst h0; simp [VRL.nil]
  · have := (e6.drop a.2).take n
    rw [drop_take_part _ _ _ _ _ hlen] at this
    exact ⟨this, by simp; omega⟩
theorem VRL.oneCell {σ : Sg} : ∀ {l : List AVal} {v : List Value}, VRL σ l v → allR oneA l = true → ∀ x ∈ v, x.oneCell' = true
  | [], v, h, _, x, hx => by simp only [VRL] at h; subst h; cases hx
  | a :: r, v, h, ho, x, hx => by
    simp only [VRL] at h
    obtain ⟨v', q, e, h1, h2⟩ := h
    subst e
    have ho' : ifb (oneA a) (allR oneA r) false = true := ho
    cases e : oneA a with
    | false => rw [e] at ho'; cases ho'
    | true =>
      rw [e] at ho'
      rcases List.mem_cons.1 hx with rfl | hx
      · cases a with
        | ag l => cases (show false = true from e)
        | tu l => cases (show false = true from e)
        | i k n => simp only [VR] at h1; subst h1; rfl
        | b c => simp only [VR] at h1; subst h1; rfl
        | s l => simp only [VR] at h1; obtain ⟨_, e', _⟩ := h1; subst e'; rfl
        | p o => rcases o with _ | ⟨b, o⟩ <;> simp only [VR] at h1
                 · subst h1; rfl
                 · obtain ⟨_, _, e'⟩ := h1; subst e'; rfl
        | sl o n c g => rcases o with _ | ⟨b, o⟩ <;> simp only [VR] at h1
                        · subst h1; rfl
                        · obtain ⟨_, _, _, _, e', _⟩ := h1; subst e'; rfl
        | fn f a c => simp only [VR] at h1; obtain ⟨_, _, _, e', _⟩ := h1; subst e'; rfl
        | nilF => simp only [VR] at h1; subst h1; rfl
        | ifc t x => simp only [VR] at h1; obtain ⟨_, e', _⟩ := h1; subst e'; rfl
        | nilI => simp only [VR] at h1; subst h1; rfl
        | tok k => simp only [VR] at h1; subst h1; exact Tok.one k
        | mp o => rcases o with _ | b <;> simp only [VR] at h1
                  · subst h1; rfl
                  · obtain ⟨_, _, e'⟩ := h1; subst e'; rfl
      · exact VRL.oneCell h2 ho' x hx
theorem Hp.write_cons {h h' : Hp} {a : Adr} {v : AVal} {ws : List AVal} (hw : h.write a (v :: ws) = some h') :
    ∃ c vs, h.cells a.1 = some c ∧ c.own = true ∧ allR oneA (v :: ws) = true ∧ layR (v :: ws) a.2 c.vs = some vs ∧ h' = (h.kill c.stale).put a.1 (.cells ⟨vs, true, []⟩) := by
  change ob (h.cells a.1) _ = some h' at hw
  rw [ob_eq] at hw
  obtain ⟨c, hc, hw⟩ := hw
  rw [ifb_eq] at hw
  obtain ⟨ho, hw⟩ := hw
  rw [ifb_eq] at hw
  obtain ⟨h1, hw⟩ := hw
  rw [ob_eq] at hw
  obtain ⟨vs, hv, e⟩ := hw
  cases e
  exact ⟨c, vs, hc, ho, h1, hv, rfl⟩
theorem layList {α : Type} (A : List α) (co len o : Nat) (vs : List α) (h1 : co + len ≤ A.length) (h2 : o + vs.length ≤ len) :
    ((A.take (co + o) ++ vs ++ A.drop (co + o + vs.length)).drop co).take len = ((A.drop co).take len).take o ++ vs ++ ((A.drop co).take len).drop (o + vs.length) := by
  apply List.ext_getElem?
  intro j
  simp only [List.getElem?_take, List.getElem?_drop, List.getElem?_append, List.length_append, List.length_take, List.length_drop]
  have e1 : min (co + o) A.length = co + o := by omega
  have e2 : min o (min len (A.length - co)) = o := by omega
  rw [e1, e2]
  by_cases hj : j < len
  · rw [if_pos hj]
    by_cases c1 : j < o
    · simp only [if_pos (show j < o + vs.length by omega), if_pos (show co + j < co + o + vs.length by omega), if_pos (show co + j < co + o by omega), if_pos c1, if_pos hj]
    · by_cases c2 : j < o + vs.length
      · rw [if_pos (by omega), if_neg (by omega), if_pos (by omega), if_neg (by omega)]
        congr 1; omega
      · rw [if_neg (by omega), if_neg (by omega), if_pos (by omega)]
        congr 1; omega
  · rw [if_neg hj]
    rw [if_neg (by omega), if_neg (by omega)]
theorem Sim.write {σ : Sg} {h h' : Hp} {w : World} {P : Program} (s : Sim σ h w) {a : Adr} {ws : List AVal} {vs : List Value} {I : BI} (hI : σ a.1 = some I) (hw : h.write a ws = some h') (hv : VRL σ ws vs) :
    ∃ w', (storeCells ⟨I.cb, I.co + a.2, none⟩ vs).run P w = .ok () w' ∧ Sim σ h' w' ∧ Step σ h w σ h' w' := by
  cases ws with
  | nil =>
    cases (show some h = some h' from hw)
    simp only [VRL] at hv
    subst hv
    exact ⟨w, rfl, s, Step.refl _ _ _⟩
  | cons v r =>
    obtain ⟨c, us, hc, ho, h1, h2, rfl⟩ := Hp.write_cons hw
    obtain ⟨arr, el, fz, e1, e2, e4, e5, e6, e7⟩ := s.cells hI hc
    rw [layR_eq] at h2
    obtain ⟨h2, h3⟩ := h2
    have hlen : vs.length = (v :: r).length := hv.length
    have hfit : I.co + a.2 + vs.length ≤ arr.size := by omega
    have run := run_storeCells_cells (P := P) I.cb (I.co + a.2) vs 0 w
      (fun j hj => by rw [cell_of e1]; simp; omega)
      (fun j hj => by rw [frozen_of e1]; exact e7 ho _ (by omega))
      (hv.oneCell h1)
    simp only [Nat.add_zero] at run
    obtain ⟨arr', g1, g2⟩ := setCells_heap I.cb vs (I.co + a.2) w arr el fz e1 hfit
    obtain ⟨z1, z2, z3, z4⟩ := setCells_same I.cb vs (I.co + a.2) w
    refine ⟨_, run, ?_⟩
    have hsz : arr'.size = arr.size := by
      have := congrArg List.length g2
      simp at this; omega
    refine s.upd (st := c.stale) (Hp.cells_eq.1 hc) ho hI (fun c' e => by cases e; rfl) (x0' := .cells ⟨us, true, []⟩) (fun c' e => by cases e; rfl) ?_ ?_ ?_ z1 (fun k hk => setCells_other _ _ _ _ _ hk) ⟨z2, z3, z4⟩ ?_
    · rw [Hp.put_next, Hp.kill_next]
    · intro b
      by_cases e : b = a.1
      · subst e; rw [Hp.get_put_same, if_pos rfl]
      · rw [Hp.get_put_other _ _ _ _ e, if_neg e, Hp.kill_get]
    · exact s.stl _ _ (Hp.cells_eq.1 hc)
    · refine ⟨arr', el, fz, g1, ?_, by omega, by omega, ?_, fun _ j hj => e7 ho j (by omega)⟩
      · subst h3; simp; simp at h2; omega
      · rw [g2, layList _ _ _ _ _ (by simpa using e5) (by omega)]
        subst h3
        rw [hlen]
        exact ((e6.take _).append hv).append (e6.drop _)
end Go.Av


namespace Go.Av
variable [Tok]
variable {P : Program}
def GlobR (P : Program) (σ : Sg) : Prop := ∀ g, g < P.globals.size → ∃ I, σ (Pos.ofNat g) = some I ∧ I.cb = g ∧ I.co = 0
theorem GlobR.mono {σ τ : Sg} (h : σ.le τ) (k : GlobR P σ) : GlobR P τ := fun g hg => let ⟨I, h1, h2⟩ := k g hg; ⟨I, h _ _ h1, h2⟩
theorem cv1_ok {σ : Sg} {v : Value} {a : AVal} (h : cv1 v = some a) : VR σ a v := by
  unfold cv1 at h
  split at h <;> cases h <;> simp [VR]
theorem cvs_ok {σ : Sg} : ∀ {l : List Value} {a : List AVal}, cvs l = some a → VRL σ a l
  | [], a, h => by cases h; exact VRL.nil
  | v :: r, a, h => by
    unfold cvs at h
    split at h
    · split at h
      · cases h; exact VRL.cons (cv1_ok (by assumption)) (cvs_ok (by assumption))
      · cases h
    · cases h
theorem cv_ok {σ : Sg} {v : Value} {a : AVal} (h : cv v = some a) : VR σ a v := by
  unfold cv at h
  split at h
  · split at h
    · cases h; simp only [VR]; exact ⟨_, rfl, cvs_ok (by assumption)⟩
    · cases h
  · split at h
    · cases h; simp only [VR]; exact ⟨_, rfl, cvs_ok (by assumption)⟩
    · cases h
  · exact cv1_ok h
section
variable {σ : Sg} {N : Nat} {f : Fr} {ac : Act}
theorem co_ok {x : Operand} {y : AOpd} (h : co P x = some y) (hf : FrR σ N f ac.tmps) (hg : GlobR P σ) : VR σ (ev f y) (ac.eval x) := by
  cases x with
  | tmp t =>
    simp only [co, cond_eq_ite] at h
    split at h
    · cases h; rename_i ht; rw [Nat.blt_eq] at ht; exact hf.2 t ht
    · cases h
  | const v =>
    simp only [co] at h
    split at h
    · cases h; exact cv_ok (by assumption)
    · cases h
  | global g =>
    simp only [co, cond_eq_ite] at h
    split at h
    · cases h; rename_i ht; rw [Nat.blt_eq] at ht
      obtain ⟨I, h1, h2, h3⟩ := hg g ht
      show VR σ (.p (some (Pos.ofNat g, 0))) (.pointer (some ⟨g, 0, none⟩))
      simp only [VR]
      exact ⟨I, h1, by rw [h2, h3]⟩
    · cases h
  | func k =>
    simp only [co] at h
    cases h
    show VR σ (.fn (.func k) [] []) (.func (.func k) #[] #[])
    simp only [VR]
    exact ⟨_, _, _, rfl, rfl, VRL.nil, VRL.nil⟩
theorem evL_nil : evL f [] = [] := rfl
theorem evL_cons (x : AOpd) (l : List AOpd) : evL f (x :: l) = ev f x :: evL f l := rfl
theorem cos_ok : ∀ {xs : List Operand} {ys : List AOpd}, cos P xs = some ys → FrR σ N f ac.tmps → GlobR P σ → VRL σ (evL f ys) (xs.map ac.eval)
  | [], ys, h, _, _ => by cases h; exact VRL.nil
  | x :: r, ys, h, hf, hg => by
    unfold cos at h
    split at h
    · split at h
      · cases h; rw [evL_cons, List.map_cons]; exact VRL.cons (co_ok (by assumption) hf hg) (cos_ok (by assumption) hf hg)
      · cases h
    · cases h
theorem coO_ok {x : Option Operand} {y : Option AOpd} (h : coO P x = some y) (hf : FrR σ N f ac.tmps) (hg : GlobR P σ) :
    (y = none ∧ x = none) ∨ ∃ a z, y = some a ∧ x = some z ∧ VR σ (ev f a) (ac.eval z) := by
  cases x with
  | none => cases h; exact .inl ⟨rfl, rfl⟩
  | some z =>
    simp only [coO] at h
    split at h
    · cases h; exact .inr ⟨_, z, rfl, rfl, co_ok (by assumption) hf hg⟩
    · cases h
end

/-! ### What is told of an operation that reckons -/
def CalcS (P : Program) (o : Oper) (g : Fr → Hp → Option AVal) : Prop :=
  ∀ (σ : Sg) (N : Nat) (f : Fr) (ac : Act) (h : Hp) (w : World) (v : AVal), FrR σ N f ac.tmps → GlobR P σ → g f h = some v →
    ∃ v', (execOp ac.eval o).run P w = .ok (.value v') w ∧ VR σ v v'
theorem calc_move {o : Oper} {x : Operand} {y : AOpd} (ho : o.op = .move x ∨ o.op = .assign x) (hx : co P x = some y) : CalcS P o fun f _ => kMov f y := by
  intro σ N f ac h w v hf hg e
  cases e
  refine ⟨ac.eval x, ?_, co_ok hx hf hg⟩
  rcases ho with ho | ho <;> simp [execOp, ho]
theorem VR_b {σ : Sg} {c : Bool} {v : Value} : VR σ (.b c) v ↔ v = .bool c := by simp only [VR]
theorem VR_i {σ : Sg} {k : IntKind} {n : Int} {v : Value} : VR σ (.i k n) v ↔ v = .int k n := by simp only [VR]
theorem VR_s {σ : Sg} {l : List Nat} {v : Value} : VR σ (.s l) v ↔ ∃ s, v = .string s ∧ s.data.toList.map UInt8.toNat = l := by simp only [VR]
theorem calc_pick {o : Oper} {c a b : Operand} {c' a' b' : AOpd} (ho : o.op = .pick c a b) (hc : co P c = some c') (ha : co P a = some a') (hb : co P b = some b') : CalcS P o fun f _ => kPick f c' a' b' := by
  intro σ N f ac h w v hf hg e
  simp only [kPick, ob_eq, asB_eq] at e
  obtain ⟨t, h1, h2⟩ := e
  have hc' := co_ok hc hf hg
  rw [h1, VR_b] at hc'
  refine ⟨if t then ac.eval a else ac.eval b, ?_, ?_⟩
  · simp [execOp, ho, hc', asBool]
  · cases t <;> cases h2
    · exact co_ok hb hf hg
    · exact co_ok ha hf hg
theorem calc_iface {o : Oper} {t : TypeId} {x : Operand} {d : TypeDesc} {y : AOpd} (ho : o.op = .makeInterface t x) (ht : P.underlying t = some d) (hd : ∀ ms, d ≠ .interface ms) (hx : co P x = some y) : CalcS P o fun f _ => kIface f t y := by
  intro σ N f ac h w v hf hg e
  cases e
  refine ⟨.iface t (ac.eval x), ?_, ?_⟩
  · simp only [execOp, ho, Instr.makeInterface, underlying, Sem.run_bind, run_program, Result.andThen_ok, ht, Sem.run_pure]
  · simp only [VR]; exact ⟨_, rfl, co_ok hx hf hg⟩
theorem calc_func {o : Oper} {g : FuncId} {a c : Array Operand} {a' c' : List AOpd} (ho : o.op = .makeFunc (.func g) a c) (ha : cos P a.toList = some a') (hc : cos P c.toList = some c') : CalcS P o fun f _ => kFunc f g a' c' := by
  intro σ N f ac h w v hf hg e
  cases e
  refine ⟨.func (.func g) (a.map ac.eval) (c.map ac.eval), ?_, ?_⟩
  · simp [execOp, ho, Instr.makeFunc]
  · simp only [VR]
    refine ⟨_, _, _, rfl, rfl, ?_, ?_⟩
    · simpa using cos_ok ha hf hg
    · simpa using cos_ok hc hf hg
theorem calc_extract {o : Oper} {t : Operand} {ix : Nat} {y : AOpd} (ho : o.op = .extract t ix) (hx : co P t = some y) : CalcS P o fun f _ => kExtract f ix y := by
  intro σ N f ac h w v hf hg e
  simp only [kExtract, ob_eq, asTu_eq, atR_eq] at e
  obtain ⟨l, h1, h2⟩ := e
  have hc := co_ok hx hf hg
  rw [h1] at hc
  simp only [VR] at hc
  obtain ⟨l', e', hl⟩ := hc
  obtain ⟨y, hy, hv⟩ := hl.get ix v h2
  refine ⟨y, ?_, hv⟩
  simp only [Array.getElem?_toList] at hy
  simp [execOp, ho, Instr.extract, e', hy]
theorem calc_nilck {o : Oper} {x : Operand} {y : AOpd} (ho : o.op = .nilCheck x) (hx : co P x = some y) : CalcS P o fun f _ => kNilck f y := by
  intro σ N f ac h w v hf hg e
  have hc := co_ok hx hf hg
  change nilckA (ev f y) = some v at e
  cases hy : ev f y with
  | p q =>
    rw [hy] at e hc
    cases q with
    | none => cases (show none = some v from e)
    | some a =>
      cases (show some (AVal.p (some a)) = some v from e)
      refine ⟨_, ?_, hc⟩
      obtain ⟨b, o'⟩ := a
      simp only [VR] at hc
      obtain ⟨I, _, e'⟩ := hc
      simp [execOp, ho, e']
  | fn g a c =>
    rw [hy] at e hc
    cases (show some (AVal.fn g a c) = some v from e)
    refine ⟨_, ?_, hc⟩
    simp only [VR] at hc
    obtain ⟨g', a', c', e', hg', _⟩ := hc
    cases g with
    | func k => simp only [FnR] at hg'; subst hg'; simp [execOp, ho, e']
    | yield l => simp only [FnR] at hg'; obtain ⟨I, _, hg'⟩ := hg'; subst hg'; simp [execOp, ho, e']
  | _ => rw [hy] at e; cases (show none = some v from e)
end Go.Av


namespace Go.Av
variable [Tok]
variable {P : Program}
/-! ### Two operands -/
theorem two_eq {x y : AVal} {t : KI × Int} : two x y = some t ↔ x = .i t.1.k t.1.n ∧ y = .i t.1.k t.2 := by
  unfold two
  simp only [ob_eq, ifb_eq, asKI_eq, keq_eq]
  constructor
  · rintro ⟨a, ha, c, hc, hk, e⟩; cases e; exact ⟨ha, by rw [hc, ← hk]⟩
  · rintro ⟨ha, hc⟩; exact ⟨_, ha, ⟨t.1.k, t.2⟩, hc, rfl, rfl⟩
theorem addA_eq {x y v : AVal} (h : addA x y = some v) : (∃ k a c, x = .i k a ∧ y = .i k c ∧ v = .i k (k.wrap (a + c))) ∨
    (∃ l m, x = .s l ∧ y = .s m ∧ l.length + m.length ≤ 2147483648 ∧ v = .s (l ++ m)) := by
  cases x with
  | i k a =>
    change addI2 k a y = some v at h
    simp only [addI2, ob_eq, ifb_eq, asKI_eq, keq_eq, addI_eq, wrapF_eq] at h
    obtain ⟨c, hc, hk, e⟩ := h
    cases e
    exact .inl ⟨k, a, c.n, rfl, by rw [hc, ← hk], rfl⟩
  | s l =>
    change addS2 l y = some v at h
    simp only [addS2, ob_eq, ifb_eq, asS_eq, lenR_eq, appR_eq] at h
    obtain ⟨m, hm, hk, e⟩ := h
    cases e
    exact .inr ⟨l, m, rfl, hm, Nat.le_of_ble_eq_true hk, rfl⟩
  | _ => cases (show none = some v from h)
theorem slist_inj {a b : List UInt8} (h : a.map UInt8.toNat = b.map UInt8.toNat) : a = b := by
  induction a generalizing b with
  | nil => cases b with | nil => rfl | cons _ _ => simp at h
  | cons x a ih => cases b with
    | nil => simp at h
    | cons y b => simp at h; rw [UInt8.toNat_inj.1 h.1, ih h.2]
theorem sless_eq : ∀ {a b : List UInt8}, sless (a.map UInt8.toNat) (b.map UInt8.toNat) = Op.bytesLess a b
  | [], [] => rfl
  | [], _ :: _ => rfl
  | _ :: _, [] => rfl
  | x :: a, y :: b => by
    show ifb (Nat.blt x.toNat y.toNat) true (ifb (Nat.beq x.toNat y.toNat) (sless (a.map UInt8.toNat) (b.map UInt8.toNat)) false) = (x < y || (x == y && Op.bytesLess a b))
    rw [sless_eq]
    have h1 : Nat.blt x.toNat y.toNat = decide (x < y) := by rw [Bool.eq_iff_iff, Nat.blt_eq]; simp [UInt8.lt_iff_toNat_lt]
    have h2 : Nat.beq x.toNat y.toNat = (x == y) := by rw [Bool.eq_iff_iff, Nat.beq_eq]; simp [UInt8.toNat_inj]
    rw [h1, h2]
    cases decide (x < y) <;> cases (x == y) <;> simp [ifb]
theorem seq_bytes {a b : List UInt8} : seq (a.map UInt8.toNat) (b.map UInt8.toNat) = (a == b) := by
  rw [Bool.eq_iff_iff, seq_eq]
  constructor
  · intro h; rw [slist_inj h]; simp
  · intro h; rw [eq_of_beq h]
theorem size_map {s : ByteArray} {l : List Nat} (h : s.data.toList.map UInt8.toNat = l) : s.size = l.length := by
  subst h; rw [List.length_map, Array.length_toList]; rfl
theorem toList_data (s : ByteArray) : s.toList = s.data.toList := by
  exact ByteArray.toList_eq s

/-! ### Operators -/
def BinS (P : Program) (op : BinOp) (t : TypeId) (x y : Operand) (a b : Value) (w : World) (r : Value) : Prop :=
  (do eqGuard op t x y a b; binOp op t a b : Sem Value).run P w = .ok r w
theorem exec_bin {o : Oper} {op : BinOp} {t : TypeId} {x y : Operand} {k : TypeId} {ac : Act} {w : World} {r : Value} (ho : o.op = .binOp op t x y k) (h : BinS P op t x y (ac.eval x) (ac.eval y) w r) :
    (execOp ac.eval o).run P w = .ok (.value r) w := by
  simp only [execOp, ho]
  rw [Sem.run_bind]
  unfold BinS at h
  rw [h]; rfl
section
variable {t : TypeId} {x y : Operand} {w : World} {k : IntKind} {a c : Int}
theorem bin_add : BinS P .add t x y (.int k a) (.int k c) w (.int k (k.wrap (a + c))) := by simp [BinS, eqGuard, binOp, Op.intArith]
theorem bin_sub : BinS P .sub t x y (.int k a) (.int k c) w (.int k (k.wrap (a - c))) := by simp [BinS, eqGuard, binOp, Op.intArith]
theorem bin_mul : BinS P .mul t x y (.int k a) (.int k c) w (.int k (k.wrap (a * c))) := by simp [BinS, eqGuard, binOp, Op.intArith]
theorem bin_quo (h : c ≠ 0) : BinS P .quo t x y (.int k a) (.int k c) w (.int k (k.wrap (a.tdiv c))) := by simp [BinS, eqGuard, binOp, Op.intDiv, h]
theorem bin_rem (h : c ≠ 0) : BinS P .rem t x y (.int k a) (.int k c) w (.int k (a.tmod c)) := by simp [BinS, eqGuard, binOp, Op.intDiv, h]
theorem bin_bit {op : BinOp} {v : AVal} (h : bitA op k a c = some v) : ∃ n, v = .i k n ∧ BinS P op t x y (.int k a) (.int k c) w (.int k n) := by
  unfold bitA at h
  split at h <;> cases h <;> exact ⟨_, rfl, by simp [BinS, eqGuard, binOp, Op.intBits]⟩
theorem bin_lss : BinS P .lss t x y (.int k a) (.int k c) w (.bool (decide (a < c))) := by simp [BinS, eqGuard, binOp, Op.intCmp]
theorem bin_leq : BinS P .leq t x y (.int k a) (.int k c) w (.bool (decide (a ≤ c))) := by simp [BinS, eqGuard, binOp, Op.intCmp]
theorem bin_gtr : BinS P .gtr t x y (.int k a) (.int k c) w (.bool (decide (a > c))) := by simp [BinS, eqGuard, binOp, Op.intCmp]
theorem bin_geq : BinS P .geq t x y (.int k a) (.int k c) w (.bool (decide (a ≥ c))) := by simp [BinS, eqGuard, binOp, Op.intCmp]
theorem bin_shl {k' : IntKind} (h : ¬ c < 0) : BinS P .shl t x y (.int k a) (.int k' c) w (.int k (k.wrap (a * 2 ^ (min c.toNat k.bits)))) := by simp [BinS, eqGuard, binOp, Op.shift, h]
theorem bin_shr {k' : IntKind} (h : ¬ c < 0) : BinS P .shr t x y (.int k a) (.int k' c) w (.int k (a.fdiv (2 ^ (min c.toNat k.bits)))) := by simp [BinS, eqGuard, binOp, Op.shift, h]
variable {p q : ByteArray}
theorem bin_adds (h : p.size + q.size ≤ 2147483648) : BinS P .add t x y (.string p) (.string q) w (.string (p ++ q)) := by
  have : ¬ ((p.size + q.size : Nat) : Int) > IntKind.i64.max := by
    show ¬ ((p.size + q.size : Nat) : Int) > 9223372036854775807
    omega
  simp only [BinS, eqGuard, binOp, Op.stringOp, Sem.run_bind]
  rw [if_neg this]; rfl
theorem bin_lsss : BinS P .lss t x y (.string p) (.string q) w (.bool (Op.bytesLess p.data.toList q.data.toList)) := by simp [BinS, eqGuard, binOp, Op.stringOp, toList_data]
theorem bin_leqs : BinS P .leq t x y (.string p) (.string q) w (.bool (Op.bytesLess p.data.toList q.data.toList || p.data.toList == q.data.toList)) := by simp [BinS, eqGuard, binOp, Op.stringOp, toList_data]
theorem bin_gtrs : BinS P .gtr t x y (.string p) (.string q) w (.bool !(Op.bytesLess p.data.toList q.data.toList || p.data.toList == q.data.toList)) := by simp [BinS, eqGuard, binOp, Op.stringOp, toList_data]
theorem bin_geqs : BinS P .geq t x y (.string p) (.string q) w (.bool !(Op.bytesLess p.data.toList q.data.toList)) := by simp [BinS, eqGuard, binOp, Op.stringOp, toList_data]
end

section
variable {o : Oper} {t yt : TypeId} {x y : Operand} {x' y' : AOpd}
theorem VR_ii {σ : Sg} {k : IntKind} {n : Int} : VR σ (.i k n) (.int k n) := by simp only [VR]
theorem VR_bb {σ : Sg} {c : Bool} : VR σ (.b c) (.bool c) := by simp only [VR]
theorem VR_ss {σ : Sg} {s : ByteArray} {l : List Nat} (h : s.data.toList.map UInt8.toNat = l) : VR σ (.s l) (.string s) := by simp only [VR]; exact ⟨s, rfl, h⟩
theorem calc_add (ho : o.op = .binOp .add t x y yt) (hx : co P x = some x') (hy : co P y = some y') : CalcS P o fun f _ => kAdd f x' y' := by
  intro σ N f ac h w v hf hg e
  have h1 := co_ok hx hf hg
  have h2 := co_ok hy hf hg
  rcases addA_eq e with ⟨k, a, c, e1, e2, e3⟩ | ⟨l, m, e1, e2, hl, e3⟩
  · rw [e1, VR_i] at h1; rw [e2, VR_i] at h2
    subst e3
    exact ⟨_, exec_bin ho (by rw [h1, h2]; exact bin_add), VR_ii⟩
  · rw [e1, VR_s] at h1; rw [e2, VR_s] at h2
    obtain ⟨p, hp, hp'⟩ := h1
    obtain ⟨q, hq, hq'⟩ := h2
    subst e3
    refine ⟨_, exec_bin ho (by rw [hp, hq]; exact bin_adds (by rw [size_map hp', size_map hq']; exact hl)), VR_ss ?_⟩
    rw [ByteArray.data_append, Array.toList_append, List.map_append, hp', hq']
theorem calc_sub (ho : o.op = .binOp .sub t x y yt) (hx : co P x = some x') (hy : co P y = some y') : CalcS P o fun f _ => kSub f x' y' := by
  intro σ N f ac h w v hf hg e
  simp only [kSub, ob_eq, two_eq, wrapF_eq, subI_eq] at e
  obtain ⟨u, ⟨e1, e2⟩, e3⟩ := e
  have h1 := co_ok hx hf hg; rw [e1, VR_i] at h1
  have h2 := co_ok hy hf hg; rw [e2, VR_i] at h2
  cases e3
  exact ⟨_, exec_bin ho (by rw [h1, h2]; exact bin_sub), VR_ii⟩
theorem calc_mul (ho : o.op = .binOp .mul t x y yt) (hx : co P x = some x') (hy : co P y = some y') : CalcS P o fun f _ => kMul f x' y' := by
  intro σ N f ac h w v hf hg e
  simp only [kMul, ob_eq, two_eq, wrapF_eq] at e
  obtain ⟨u, ⟨e1, e2⟩, e3⟩ := e
  have h1 := co_ok hx hf hg; rw [e1, VR_i] at h1
  have h2 := co_ok hy hf hg; rw [e2, VR_i] at h2
  cases e3
  exact ⟨_, exec_bin ho (by rw [h1, h2]; exact bin_mul), VR_ii⟩
theorem ifb_none {α : Type} {c : Bool} {a : Option α} {y : α} : ifb c none a = some y ↔ c = false ∧ a = some y := by cases c <;> simp [ifb]
theorem calc_quo (ho : o.op = .binOp .quo t x y yt) (hx : co P x = some x') (hy : co P y = some y') : CalcS P o fun f _ => kQuo f x' y' := by
  intro σ N f ac h w v hf hg e
  simp only [kQuo, ob_eq, two_eq, wrapF_eq, ifb_none, eqI_eq, decide_eq_false_iff_not] at e
  obtain ⟨u, ⟨e1, e2⟩, e4, e3⟩ := e
  have h1 := co_ok hx hf hg; rw [e1, VR_i] at h1
  have h2 := co_ok hy hf hg; rw [e2, VR_i] at h2
  cases e3
  exact ⟨_, exec_bin ho (by rw [h1, h2]; exact bin_quo e4), VR_ii⟩
theorem calc_rem (ho : o.op = .binOp .rem t x y yt) (hx : co P x = some x') (hy : co P y = some y') : CalcS P o fun f _ => kRem f x' y' := by
  intro σ N f ac h w v hf hg e
  simp only [kRem, ob_eq, two_eq, wrapF_eq, ifb_none, eqI_eq, decide_eq_false_iff_not] at e
  obtain ⟨u, ⟨e1, e2⟩, e4, e3⟩ := e
  have h1 := co_ok hx hf hg; rw [e1, VR_i] at h1
  have h2 := co_ok hy hf hg; rw [e2, VR_i] at h2
  cases e3
  exact ⟨_, exec_bin ho (by rw [h1, h2]; exact bin_rem e4), VR_ii⟩
theorem calc_bit {op : BinOp} (ho : o.op = .binOp op t x y yt) (hx : co P x = some x') (hy : co P y = some y') : CalcS P o fun f _ => kBit f op x' y' := by
  intro σ N f ac h w v hf hg e
  simp only [kBit, ob_eq, two_eq] at e
  obtain ⟨u, ⟨e1, e2⟩, e3⟩ := e
  have h1 := co_ok hx hf hg; rw [e1, VR_i] at h1
  have h2 := co_ok hy hf hg; rw [e2, VR_i] at h2
  obtain ⟨n, rfl, hb⟩ := bin_bit (P := P) (t := t) (x := x) (y := y) (w := w) e3
  exact ⟨_, exec_bin ho (by rw [h1, h2]; exact hb), VR_ii⟩
theorem calc_shl (ho : o.op = .binOp .shl t x y yt) (hx : co P x = some x') (hy : co P y = some y') : CalcS P o fun f _ => kShl f x' y' := by
  intro σ N f ac h w v hf hg e
  simp only [kShl, shlA, ob_eq, asKI_eq, asI_eq, ifb_none, ltI_eq, decide_eq_false_iff_not] at e
  obtain ⟨u, e1, c, ⟨k', e2⟩, e4, e3⟩ := e
  have h1 := co_ok hx hf hg; rw [e1, VR_i] at h1
  have h2 := co_ok hy hf hg; rw [e2, VR_i] at h2
  cases e3
  exact ⟨_, exec_bin ho (by rw [h1, h2]; exact bin_shl e4), VR_ii⟩
theorem calc_shr (ho : o.op = .binOp .shr t x y yt) (hx : co P x = some x') (hy : co P y = some y') : CalcS P o fun f _ => kShr f x' y' := by
  intro σ N f ac h w v hf hg e
  simp only [kShr, shrA, ob_eq, asKI_eq, asI_eq, ifb_none, ltI_eq, decide_eq_false_iff_not] at e
  obtain ⟨u, e1, c, ⟨k', e2⟩, e4, e3⟩ := e
  have h1 := co_ok hx hf hg; rw [e1, VR_i] at h1
  have h2 := co_ok hy hf hg; rw [e2, VR_i] at h2
  cases e3
  exact ⟨_, exec_bin ho (by rw [h1, h2]; exact bin_shr e4), VR_ii⟩
theorem lssA_eq {x y : AVal} {v : Bool} (h : lssA x y = some v) : (∃ k a c, x = .i k a ∧ y = .i k c ∧ v = decide (a < c)) ∨ (∃ l m, x = .s l ∧ y = .s m ∧ v = sless l m) := by
  cases x with
  | i k a =>
    change lssI2 k a y = some v at h
    simp only [lssI2, ob_eq, ifb_eq, asKI_eq, keq_eq, ltI_eq] at h
    obtain ⟨c, hc, hk, e⟩ := h
    cases e
    exact .inl ⟨k, a, c.n, rfl, by rw [hc, ← hk], rfl⟩
  | s l =>
    change lssS2 l y = some v at h
    simp only [lssS2, ob_eq, asS_eq] at h
    obtain ⟨m, hm, e⟩ := h
    cases e
    exact .inr ⟨l, m, rfl, hm, rfl⟩
  | _ => cases (show none = some v from h)
theorem leqA_eq {x y : AVal} {v : Bool} (h : leqA x y = some v) : (∃ k a c, x = .i k a ∧ y = .i k c ∧ v = decide (a ≤ c)) ∨ (∃ l m, x = .s l ∧ y = .s m ∧ v = (sless l m || seq l m)) := by
  cases x with
  | i k a =>
    change leqI2 k a y = some v at h
    simp only [leqI2, ob_eq, ifb_eq, asKI_eq, keq_eq, ltI_eq] at h
    obtain ⟨c, hc, hk, e⟩ := h
    cases e
    refine .inl ⟨k, a, c.n, rfl, by rw [hc, ← hk], ?_⟩
    rw [Bool.eq_iff_iff]; simp
  | s l =>
    change leqS2 l y = some v at h
    simp only [leqS2, ob_eq, asS_eq] at h
    obtain ⟨m, hm, e⟩ := h
    cases e
    refine .inr ⟨l, m, rfl, hm, ?_⟩
    cases sless l m <;> rfl
  | _ => cases (show none = some v from h)
theorem calc_lss (ho : o.op = .binOp .lss t x y yt) (hx : co P x = some x') (hy : co P y = some y') : CalcS P o fun f _ => kLss f x' y' := by
  intro σ N f ac h w v hf hg e
  simp only [kLss, ob_eq] at e
  obtain ⟨b, e, e'⟩ := e
  cases e'
  have h1 := co_ok hx hf hg
  have h2 := co_ok hy hf hg
  rcases lssA_eq e with ⟨k, a, c, e1, e2, e3⟩ | ⟨l, m, e1, e2, e3⟩
  · rw [e1, VR_i] at h1; rw [e2, VR_i] at h2
    exact ⟨_, exec_bin ho (by rw [h1, h2]; exact bin_lss), by rw [e3]; exact VR_bb⟩
  · rw [e1, VR_s] at h1; rw [e2, VR_s] at h2
    obtain ⟨p, hp, rfl⟩ := h1
    obtain ⟨q, hq, rfl⟩ := h2
    exact ⟨_, exec_bin ho (by rw [hp, hq]; exact bin_lsss), by rw [e3, sless_eq]; exact VR_bb⟩
theorem calc_geq (ho : o.op = .binOp .geq t x y yt) (hx : co P x = some x') (hy : co P y = some y') : CalcS P o fun f _ => kGeq f x' y' := by
  intro σ N f ac h w v hf hg e
  simp only [kGeq, ob_eq] at e
  obtain ⟨b, e, e'⟩ := e
  cases e'
  have h1 := co_ok hx hf hg
  have h2 := co_ok hy hf hg
  rcases lssA_eq e with ⟨k, a, c, e1, e2, e3⟩ | ⟨l, m, e1, e2, e3⟩
  · rw [e1, VR_i] at h1; rw [e2, VR_i] at h2
    exact ⟨_, exec_bin ho (by rw [h1, h2]; exact bin_geq), by rw [e3, VR_b]; congr 1; rw [Bool.eq_iff_iff]; simp⟩
  · rw [e1, VR_s] at h1; rw [e2, VR_s] at h2
    obtain ⟨p, hp, rfl⟩ := h1
    obtain ⟨q, hq, rfl⟩ := h2
    exact ⟨_, exec_bin ho (by rw [hp, hq]; exact bin_geqs), by rw [e3, sless_eq]; exact VR_bb⟩
theorem calc_leq (ho : o.op = .binOp .leq t x y yt) (hx : co P x = some x') (hy : co P y = some y') : CalcS P o fun f _ => kLeq f x' y' := by
  intro σ N f ac h w v hf hg e
  simp only [kLeq, ob_eq] at e
  obtain ⟨b, e, e'⟩ := e
  cases e'
  have h1 := co_ok hx hf hg
  have h2 := co_ok hy hf hg
  rcases leqA_eq e with ⟨k, a, c, e1, e2, e3⟩ | ⟨l, m, e1, e2, e3⟩
  · rw [e1, VR_i] at h1; rw [e2, VR_i] at h2
    exact ⟨_, exec_bin ho (by rw [h1, h2]; exact bin_leq), by rw [e3]; exact VR_bb⟩
  · rw [e1, VR_s] at h1; rw [e2, VR_s] at h2
    obtain ⟨p, hp, rfl⟩ := h1
    obtain ⟨q, hq, rfl⟩ := h2
    exact ⟨_, exec_bin ho (by rw [hp, hq]; exact bin_leqs), by rw [e3, sless_eq, seq_bytes]; exact VR_bb⟩
theorem calc_gtr (ho : o.op = .binOp .gtr t x y yt) (hx : co P x = some x') (hy : co P y = some y') : CalcS P o fun f _ => kGtr f x' y' := by
  intro σ N f ac h w v hf hg e
  simp only [kGtr, ob_eq] at e
  obtain ⟨b, e, e'⟩ := e
  cases e'
  have h1 := co_ok hx hf hg
  have h2 := co_ok hy hf hg
  rcases leqA_eq e with ⟨k, a, c, e1, e2, e3⟩ | ⟨l, m, e1, e2, e3⟩
  · rw [e1, VR_i] at h1; rw [e2, VR_i] at h2
    exact ⟨_, exec_bin ho (by rw [h1, h2]; exact bin_gtr), by rw [e3, VR_b]; congr 1; rw [Bool.eq_iff_iff]; simp⟩
  · rw [e1, VR_s] at h1; rw [e2, VR_s] at h2
    obtain ⟨p, hp, rfl⟩ := h1
    obtain ⟨q, hq, rfl⟩ := h2
    exact ⟨_, exec_bin ho (by rw [hp, hq]; exact bin_gtrs), by rw [e3, sless_eq, seq_bytes]; exact VR_bb⟩
end
end Go.Av


namespace Go.Av
variable [Tok]
variable {P : Program}
section
variable {w : World}
theorem r_typeInfo {t : TypeId} {i : TypeInfo} (h : P.info? t = some i) : (typeInfo t).run P w = .ok i w := by simp [typeInfo, h]
theorem r_sizeOf {t : TypeId} {i : TypeInfo} (h : P.info? t = some i) : (sizeOf t).run P w = .ok i.size w := by simp [sizeOf, r_typeInfo h]
theorem r_zero {t : TypeId} {i : TypeInfo} {z : Value} (h : P.info? t = some i) (hz : i.zero = some z) : (zeroValue t).run P w = .ok z w := by simp [zeroValue, r_typeInfo h, hz]
theorem r_under {t : TypeId} {d : TypeDesc} (h : P.underlying t = some d) : (underlying t).run P w = .ok d w := by simp [underlying, h]
theorem aggK_true {t : TypeId} (h : aggK P t = some true) : (isAgg t).run P w = .ok true w := by
  unfold aggK at h
  split at h
  · rename_i e; simp [isAgg, r_under e]
  · rename_i e; simp [isAgg, r_under e]
  · cases h
  · cases h
theorem aggK_false {t : TypeId} (h : aggK P t = some false) : (isAgg t).run P w = .ok false w := by
  unfold aggK at h
  split at h
  · cases h
  · cases h
  · rename_i d h1 h2 e
    simp only [isAgg, Sem.run_bind, r_under e, Result.andThen_ok]
    rfl
  · cases h
theorem infoK_eq {t : TypeId} {n m : Nat} (h : infoK P t = some (n, m)) : ∃ i, P.info? t = some i ∧ i.size = n ∧ i.bytes = m := by
  unfold infoK at h
  split at h
  · cases h; exact ⟨_, by assumption, rfl, rfl⟩
  · cases h
theorem zeroK_eq {t : TypeId} {a : AVal} (h : zeroK P t = some a) : ∃ i z, P.info? t = some i ∧ i.zero = some z ∧ cv z = some a := by
  unfold zeroK at h
  split at h
  · split at h
    · exact ⟨_, _, by assumption, by assumption, h⟩
    · cases h
  · cases h
/-- a part of cells -/
theorem part_false {t : TypeId} (h : aggK P t = some false) {xs : Array Value} {o : Nat} {v : Value} (hv : xs[o]? = some v) : (part t xs o).run P w = .ok v w := by
  simp [part, aggK_false h, hv]
theorem part_true {t : TypeId} {n m : Nat} (h : aggK P t = some true) (hi : infoK P t = some (n, m)) {xs : Array Value} {o : Nat} : (part t xs o).run P w = .ok (.agg (xs.extract o (o + n))) w := by
  obtain ⟨i, h1, h2, _⟩ := infoK_eq hi
  simp [part, aggK_true h, r_sizeOf h1, h2]
end
/-! ### Cells alike -/
theorem VR.tv {σ : Sg} {a : AVal} {v : Value} (h : VR σ a v) (hb : basicT a = true) : TV Tok.val a v := by
  cases a <;> first | cases hb | skip
  all_goals simp only [VR] at h
  · subst h; exact .i _ _
  · subst h; exact .b _
  · obtain ⟨s, rfl, e⟩ := h; subst e; exact .s s
  · subst h; exact .tok _
theorem intT_basic {x : AVal} (h : intT x = true) : basicT x = true := by cases x <;> first | rfl | cases h
theorem sameT_ok {σ : Sg} {x y : AVal} {v : Bool} {x' y' : Value} (h : sameT x y = some v) (hx : VR σ x x') (hy : VR σ y y') : ∃ (j : IntKind) (n m : Int), x' = .int j n ∧ y' = .int j m ∧ v = decide (n = m) := by
  unfold sameT at h
  rw [ifb_eq, ifb_eq] at h
  obtain ⟨b1, b2, h⟩ := h
  exact Tok.same_ok _ _ _ _ _ h (hx.tv (intT_basic b1)) (hy.tv (intT_basic b2))
theorem sameT_self {x : AVal} {v : Bool} (h : sameT x x = some v) : v = true := by
  have hb : intT x = true := by
    unfold sameT at h
    rw [ifb_eq] at h
    exact h.1
  have : ∃ x', VR (fun _ => none) x x' := by
    cases x <;> first | cases hb | skip
    · exact ⟨.int _ _, by simp only [VR]; rfl⟩
    · exact ⟨Tok.val _, by simp only [VR]; rfl⟩
  obtain ⟨x', hx⟩ := this
  obtain ⟨j, n, m, e1, e2, e3⟩ := sameT_ok h hx hx
  rw [e1] at e2
  cases e2
  rw [e3]; simp
inductive CeqR (k : FK) (x y : AVal) (v : Bool) : Prop where
  | int (j : IntKind) (a c : Int) (hk : k = .int) (hx : x = .i j a) (hy : y = .i j c) (hv : v = decide (a = c))
  | bool (a c : Bool) (hk : k = .bool) (hx : x = .b a) (hy : y = .b c) (hv : v = (a == c))
  | str (a c : List Nat) (hk : k = .str) (hx : x = .s a) (hy : y = .s c) (hv : v = seq a c)
  | tok (hk : k = .int) (hs : sameT x y = some v)
theorem ceqI_eq {k : IntKind} {a : Int} {y : AVal} {v : Bool} (h : ceqI k a y = some v) : ∃ c, y = .i k c ∧ v = decide (a = c) := by
  simp only [ceqI, ob_eq, asKI_eq, ifb_eq, keq_eq, eqI_eq] at h
  obtain ⟨c, hc, hk, e⟩ := h
  cases e
  exact ⟨c.n, by rw [hc, ← hk], rfl⟩
theorem ceqB_eq {a : Bool} {y : AVal} {v : Bool} (h : ceqB a y = some v) : ∃ c, y = .b c ∧ v = (a == c) := by
  simp only [ceqB, ob_eq, asB_eq] at h
  obtain ⟨c, hc, e⟩ := h
  cases e
  exact ⟨c, hc, by cases a <;> cases c <;> rfl⟩
theorem ceqS_eq {a : List Nat} {y : AVal} {v : Bool} (h : ceqS a y = some v) : ∃ c, y = .s c ∧ v = seq a c := by
  simp only [ceqS, ob_eq, asS_eq] at h
  obtain ⟨c, hc, e⟩ := h
  cases e
  exact ⟨c, hc, rfl⟩
theorem ceqF_eq {k : FK} {x y : AVal} {v : Bool} (h : ceqF k x y = some v) : CeqR k x y v := by
  cases k with
  | int =>
    change orB (ob (asKI x) _) (sameT x y) = some v at h
    rcases orB_eq h with h | h
    · simp only [ob_eq, asKI_eq] at h
      obtain ⟨a, hx, h⟩ := h
      obtain ⟨c, hy, hv⟩ := ceqI_eq h
      exact .int a.k a.n c rfl hx hy hv
    · exact .tok rfl h
  | bool =>
    change ob (asB x) _ = some v at h
    simp only [ob_eq, asB_eq] at h
    obtain ⟨a, hx, h⟩ := h
    obtain ⟨c, hy, hv⟩ := ceqB_eq h
    exact .bool a c rfl hx hy hv
  | str =>
    change ob (asS x) _ = some v at h
    simp only [ob_eq, asS_eq] at h
    obtain ⟨a, hx, h⟩ := h
    obtain ⟨c, hy, hv⟩ := ceqS_eq h
    exact .str a c rfl hx hy hv
theorem eqN_nil {xs ys : List AVal} {v : Bool} (h : eqN [] xs ys = some v) : xs = [] ∧ ys = [] ∧ v = true := by
  cases xs with
  | nil => cases ys with
    | nil => cases (show some true = some v from h); exact ⟨rfl, rfl, rfl⟩
    | cons _ _ => cases (show none = some v from h)
  | cons _ _ => cases (show none = some v from h)
theorem eqN_cons {k : FK} {ks : List FK} {xs ys : List AVal} {v : Bool} (h : eqN (k :: ks) xs ys = some v) :
    ∃ x q y r t, xs = x :: q ∧ ys = y :: r ∧ ceqF k x y = some t ∧ ((t = true ∧ eqN ks q r = some v) ∨ (t = false ∧ v = false)) := by
  cases xs with
  | nil => cases (show none = some v from h)
  | cons x q => cases ys with
    | nil => cases (show none = some v from h)
    | cons y r =>
      change ob (ceqF k x y) _ = some v at h
      rw [ob_eq] at h
      obtain ⟨t, h1, h2⟩ := h
      refine ⟨x, q, y, r, t, rfl, rfl, h1, ?_⟩
      cases t with
      | true => exact .inl ⟨rfl, h2⟩
      | false => cases (show some false = some v from h2); exact .inr ⟨rfl, rfl⟩
theorem basicK_agg {t : TypeId} {k : FK} (h : basicK P t = some k) : aggK P t = some false := by
  unfold basicK at h
  unfold aggK
  split at h <;> rename_i e <;> first | rw [e] | cases h
theorem equalIn_ceq {σ : Sg} {t : TypeId} {k : FK} {x y : AVal} {x' y' : Value} {v : Bool} {w : World} (d : Nat) (hk : basicK P t = some k) (h : CeqR k x y v) (hx : VR σ x x') (hy : VR σ y y') :
    (Op.equalIn (d + 1) t x' y').run P w = .ok v w := by
  cases h with
  | int j a c hk' ex ey hv =>
    subst ex ey hv hk'
    rw [VR_i] at hx hy; subst hx hy
    unfold basicK at hk
    split at hk <;> cases hk
    rename_i e
    rw [run_equalIn_int w d t j _ a c e]; congr 1
  | bool a c hk' ex ey hv =>
    subst ex ey hv hk'
    rw [VR_b] at hx hy; subst hx hy
    unfold basicK at hk
    split at hk <;> cases hk
    rename_i e
    exact run_equalIn_bool w d t a c e
  | str a c hk' ex ey hv =>
    subst ex ey hv hk'
    rw [VR_s] at hx hy
    obtain ⟨p, rfl, rfl⟩ := hx
    obtain ⟨q, rfl, rfl⟩ := hy
    unfold basicK at hk
    split at hk <;> cases hk
    rename_i e
    rw [run_equalIn_string w d t p q e, seq_bytes, toList_data, toList_data]
  | tok hk' hs =>
    subst hk'
    obtain ⟨j, n, m, rfl, rfl, hv⟩ := sameT_ok hs hx hy
    unfold basicK at hk
    split at hk <;> cases hk
    rename_i e
    subst hv
    rw [run_equalIn_int w d t j _ n m e]; congr 1
theorem eqFields_ok {σ : Sg} {w : World} (d : Nat) {X Y : Array Value} {v : Bool} : ∀ {fs : List Field} {n : Nat} {ks : List FK} {xs ys : List AVal}, flatK P fs n = some ks →
    VRL σ xs (X.toList.drop n) → VRL σ ys (Y.toList.drop n) → eqN ks xs ys = some v → (Op.eqFields (d + 1) X Y fs).run P w = .ok v w
  | [], n, ks, xs, ys, h, hX, hY, he => by
    simp only [flatK] at h
    cases h
    obtain ⟨_, _, rfl⟩ := eqN_nil he
    simp [Op.eqFields]
  | f :: r, n, ks, xs, ys, h, hX, hY, he => by
    simp only [flatK, cond_eq_ite] at h
    split at h
    · rename_i hc
      simp only [Bool.and_eq_true, bne_iff_ne, ne_eq, Nat.beq_eq] at hc
      split at h
      · cases h
        rename_i k l hk hl
        obtain ⟨x, q, y, s, t, rfl, rfl, h1, h2⟩ := eqN_cons he
        simp only [VRL] at hX hY
        obtain ⟨x', q', ex, hx, hq⟩ := hX
        obtain ⟨y', s', ey, hy, hs⟩ := hY
        have px : X[n]? = some x' := by
          have := congrArg (fun l => l[0]?) ex
          simpa using this
        have py : Y[n]? = some y' := by
          have := congrArg (fun l => l[0]?) ey
          simpa using this
        have dx : X.toList.drop (n + 1) = q' := by
          have := congrArg List.tail ex
          simpa using this
        have dy : Y.toList.drop (n + 1) = s' := by
          have := congrArg List.tail ey
          simpa using this
        unfold Op.eqFields
        rw [if_pos hc.1, hc.2]
        simp only [Sem.run_bind, part_false (basicK_agg hk) px, part_false (basicK_agg hk) py, Result.andThen_ok, equalIn_ceq d hk (ceqF_eq h1) hx hy]
        rcases h2 with ⟨rfl, h2⟩ | ⟨rfl, rfl⟩
        · simp only [Bool.not_true, Bool.false_eq_true, if_false]
          exact eqFields_ok d hl (by rw [dx]; exact hq) (by rw [dy]; exact hs) h2
        · simp
      · cases h
    · cases h

/-! ### == and != -/
/-- what == tells of two values -/
def EqS (P : Program) (t : TypeId) (x y : Operand) (a b : Value) (w : World) (v : Bool) : Prop :=
  BinS P .eql t x y a b w (.bool v) ∧ BinS P .neq t x y a b w (.bool !v)
section
variable {σ : Sg} {t : TypeId} {x y : Operand} {w : World} {q : EqK}
theorem isQ_eq {n : Nat} {q : EqK} {x : Option Bool} {v : Bool} (h : isQ n q x = some v) : qno q = n ∧ x = some v := by
  simp only [isQ, ifb_eq, Nat.beq_eq] at h; exact h
theorem eqK_under {n : Nat} (h : qno (eqK P t) = n) (hn : n ≠ 0) : ∃ d, P.underlying t = some d ∧ match n with
    | 1 => d = .bool
    | 2 => ∃ e, d = .pointer e
    | 3 => ∃ e, d = .slice e
    | 4 => ∃ a b, d = .map a b
    | 5 => ∃ a b c, d = .func a b c
    | 6 => ∃ a, d = .interface a
    | _ => True := by
  unfold eqK at h
  split at h
  all_goals (first | (rename_i e; rw [e]; subst h; exact ⟨_, rfl, by first | rfl | exact ⟨_, rfl⟩ | exact ⟨_, _, rfl⟩ | exact ⟨_, _, _, rfl⟩⟩) | skip)
  · rename_i e
    split at h
    · subst h; exact ⟨_, e, trivial⟩
    · exact absurd h.symm hn
  · exact absurd h.symm hn

theorem eqs_mk {a b : Value} {v : Bool} (hg : ∀ op, (eqGuard op t x y a b).run P w = .ok () w) (hq : binOp .eql t a b = (do pure (.bool (← Op.equal t a b)))) (hn : binOp .neq t a b = (do pure (.bool (!(← Op.equal t a b)))))
    (he : ∀ d, (Op.equalIn (d + 1) t a b).run P w = .ok v w) : EqS P t x y a b w v := by
  have he' : (Op.equal t a b).run P w = .ok v w := he 9999
  constructor
  · simp only [BinS, Sem.run_bind, hg, Result.andThen_ok, hq, he', Sem.run_pure]
  · simp only [BinS, Sem.run_bind, hg, Result.andThen_ok, hn, he', Sem.run_pure]
theorem lacks_eq {α : Type} {a c : Option α} {v : Bool} (h : lacks a c = some v) : (a = none ∧ c = none ∧ v = true) ∨ (a = none ∧ (∃ z, c = some z) ∧ v = false) ∨ ((∃ z, a = some z) ∧ c = none ∧ v = false) := by
  cases a with
  | none =>
    cases (show some (isN c) = some v from h)
    cases c with
    | none => exact .inl ⟨rfl, rfl, rfl⟩
    | some z => exact .inr (.inl ⟨rfl, ⟨z, rfl⟩, rfl⟩)
  | some z =>
    have h' : ifb (isN c) (some false) none = some v := h
    rw [ifb_eq] at h'
    obtain ⟨h1, h2⟩ := h'
    cases h2
    cases c with
    | none => exact .inr (.inr ⟨⟨z, rfl⟩, rfl, rfl⟩)
    | some z' => cases (show false = true from h1)
theorem VR_p {σ : Sg} {o : Option Adr} {v : Value} (h : VR σ (.p o) v) : ∃ a, v = .pointer a ∧ a.isNone = o.isNone := by
  rcases o with _ | ⟨b, o⟩ <;> simp only [VR] at h
  · exact ⟨_, h, rfl⟩
  · obtain ⟨I, _, e⟩ := h; exact ⟨_, e, rfl⟩
theorem VR_sl {σ : Sg} {o : Option Adr} {n c g : Nat} {v : Value} (h : VR σ (.sl o n c g) v) : ∃ a c', v = .slice a n c' ∧ a.isNone = o.isNone := by
  rcases o with _ | ⟨b, o⟩ <;> simp only [VR] at h
  · exact ⟨_, _, h, rfl⟩
  · obtain ⟨I, a, c', _, e, _⟩ := h; exact ⟨_, c', e, rfl⟩
theorem VR_mp {σ : Sg} {o : Option Pos} {v : Value} (h : VR σ (.mp o) v) : ∃ a, v = .map a ∧ a.isNone = o.isNone := by
  rcases o with _ | b <;> simp only [VR] at h
  · exact ⟨_, h, rfl⟩
  · obtain ⟨I, _, e⟩ := h; exact ⟨_, e, rfl⟩
theorem eqA_ok {X Y : AVal} {a b : Value} {v : Bool} (h : eqA (eqK P t) X Y = some v) (hx : VR σ X a) (hy : VR σ Y b) : EqS P t x y a b w v := by
  cases X with
  | i k n =>
    change ceqI k n Y = some v at h
    obtain ⟨c, rfl, rfl⟩ := ceqI_eq h
    rw [VR_i] at hx hy; subst hx hy
    constructor <;> simp [BinS, eqGuard, binOp, Op.intCmp]
    · rw [Bool.eq_iff_iff]; simp
    · rw [Bool.eq_iff_iff]; simp
  | s l =>
    change ceqS l Y = some v at h
    obtain ⟨m, rfl, rfl⟩ := ceqS_eq h
    rw [VR_s] at hx hy
    obtain ⟨p, rfl, rfl⟩ := hx
    obtain ⟨q, rfl, rfl⟩ := hy
    rw [seq_bytes]
    constructor <;> simp [BinS, eqGuard, binOp, Op.stringOp, toList_data]
  | b c =>
    change isQ 1 (eqK P t) (ceqB c Y) = some v at h
    obtain ⟨h1, h2⟩ := isQ_eq h
    obtain ⟨d, h3, h4⟩ := eqK_under h1 (by simp)
    simp only at h4; subst h4
    obtain ⟨e, rfl, rfl⟩ := ceqB_eq h2
    rw [VR_b] at hx hy; subst hx hy
    exact eqs_mk (fun op => by cases op <;> simp [eqGuard]) rfl rfl (fun d => run_equalIn_bool w d t c e h3)
  | p o =>
    change isQ 2 (eqK P t) (ob (ptrO Y) (lacks o)) = some v at h
    obtain ⟨h1, h2⟩ := isQ_eq h
    obtain ⟨d, h3, h4⟩ := eqK_under h1 (by simp)
    simp only at h4; obtain ⟨e, rfl⟩ := h4
    rw [ob_eq] at h2
    obtain ⟨c, h5, h6⟩ := h2
    obtain ⟨a', rfl, ha⟩ := VR_p hx
    have : Y = .p c := by
      cases Y with
      | p c' => cases (show some c' = some c from h5); rfl
      | _ => cases (show none = some c from h5)
    subst this
    obtain ⟨b', rfl, hb⟩ := VR_p hy
    rcases lacks_eq h6 with ⟨rfl, rfl, rfl⟩ | ⟨rfl, ⟨z, rfl⟩, rfl⟩ | ⟨⟨z, rfl⟩, rfl, rfl⟩ <;> simp only [Option.isNone_none, Option.isNone_some] at ha hb <;>
      cases a' <;> cases b' <;> simp at ha hb <;> exact eqs_mk (fun op => by cases op <;> simp [eqGuard]) rfl rfl (fun d => by simp [Op.equalIn, r_under h3])
  | sl o n c g =>
    change isQ 3 (eqK P t) (ob (asSl Y) fun s => lacks o s.a) = some v at h
    obtain ⟨h1, h2⟩ := isQ_eq h
    obtain ⟨d, h3, h4⟩ := eqK_under h1 (by simp)
    simp only at h4; obtain ⟨e, rfl⟩ := h4
    rw [ob_eq] at h2
    obtain ⟨s, h5, h6⟩ := h2
    rw [asSl_eq] at h5
    obtain ⟨a', c', rfl, ha⟩ := VR_sl hx
    rw [h5] at hy
    obtain ⟨b', d', rfl, hb⟩ := VR_sl hy
    rcases lacks_eq h6 with ⟨rfl, e2, rfl⟩ | ⟨rfl, ⟨z, e2⟩, rfl⟩ | ⟨⟨z, rfl⟩, e2, rfl⟩ <;> rw [e2] at hb <;> simp only [Option.isNone_none, Option.isNone_some] at ha hb <;>
      cases a' <;> cases b' <;> simp at ha hb <;> exact eqs_mk (fun op => by cases op <;> simp [eqGuard]) rfl rfl (fun d => by simp [Op.equalIn, r_under h3])
  | fn g as cs =>
    change isQ 5 (eqK P t) (ob (fnN Y) fun t => ifb t (some false) none) = some v at h
    obtain ⟨h1, h2⟩ := isQ_eq h
    obtain ⟨d, h3, h4⟩ := eqK_under h1 (by simp)
    simp only at h4; obtain ⟨e1, e2, e3, rfl⟩ := h4
    simp only [ob_eq, ifb_eq] at h2
    obtain ⟨c, h5, rfl, h6⟩ := h2
    cases h6
    have : Y = .nilF := by
      cases Y with
      | nilF => rfl
      | fn _ _ _ => cases (show some false = some true from h5)
      | _ => cases (show none = some true from h5)
    subst this
    simp only [VR] at hx hy
    obtain ⟨g', as', cs', rfl, _⟩ := hx
    subst hy
    exact eqs_mk (fun op => by cases op <;> simp [eqGuard]) rfl rfl (fun d => by simp [Op.equalIn, r_under h3])
  | nilF =>
    change isQ 5 (eqK P t) (fnN Y) = some v at h
    obtain ⟨h1, h5⟩ := isQ_eq h
    obtain ⟨d, h3, h4⟩ := eqK_under h1 (by simp)
    simp only at h4; obtain ⟨e1, e2, e3, rfl⟩ := h4
    simp only [VR] at hx
    subst hx
    cases Y with
    | nilF =>
      cases (show some true = some v from h5)
      simp only [VR] at hy; subst hy
      exact eqs_mk (fun op => by cases op <;> simp [eqGuard]) rfl rfl (fun d => by simp [Op.equalIn, r_under h3])
    | fn _ _ _ =>
      cases (show some false = some v from h5)
      simp only [VR] at hy
      obtain ⟨g', as', cs', rfl, _⟩ := hy
      exact eqs_mk (fun op => by cases op <;> simp [eqGuard]) rfl rfl (fun d => by simp [Op.equalIn, r_under h3])
    | _ => cases (show none = some v from h5)
  | ifc tt z =>
    change isQ 6 (eqK P t) (ob (ifN Y) fun t => ifb t (some false) none) = some v at h
    obtain ⟨h1, h2⟩ := isQ_eq h
    obtain ⟨d, h3, h4⟩ := eqK_under h1 (by simp)
    simp only at h4; obtain ⟨e1, rfl⟩ := h4
    simp only [ob_eq, ifb_eq] at h2
    obtain ⟨c, h5, rfl, h6⟩ := h2
    cases h6
    have : Y = .nilI := by
      cases Y with
      | nilI => rfl
      | ifc _ _ => cases (show some false = some true from h5)
      | _ => cases (show none = some true from h5)
    subst this
    simp only [VR] at hx hy
    obtain ⟨g', rfl, _⟩ := hx
    subst hy
    exact eqs_mk (fun op => by cases op <;> simp [eqGuard]) rfl rfl (fun d => by simp [Op.equalIn, r_under h3])
  | nilI =>
    change isQ 6 (eqK P t) (ob (ifN Y) fun t => ifb t none (some false)) = some v at h
    obtain ⟨h1, h2⟩ := isQ_eq h
    obtain ⟨d, h3, h4⟩ := eqK_under h1 (by simp)
    simp only at h4; obtain ⟨e1, rfl⟩ := h4
    simp only [ob_eq, ifb_none] at h2
    obtain ⟨c, h5, rfl, h6⟩ := h2
    cases h6
    simp only [VR] at hx
    subst hx
    cases Y with
    | ifc _ _ =>
      simp only [VR] at hy
      obtain ⟨g', rfl, _⟩ := hy
      exact eqs_mk (fun op => by cases op <;> simp [eqGuard]) rfl rfl (fun d => by simp [Op.equalIn, r_under h3])
    | nilI => cases (show some true = some false from h5)
    | _ => cases (show none = some false from h5)
  | ag l =>
    change EqK.rec (motive := fun _ => Option Bool) none none none none none none none (fun ks => ob (asAg Y) (eqN ks l)) (eqK P t) = some v at h
    cases hq : eqK P t with
    | st ks =>
      rw [hq] at h
      have h' : ob (asAg Y) (eqN ks l) = some v := h
      rw [ob_eq] at h'
      obtain ⟨m, h5, h6⟩ := h'
      rw [asAg_eq] at h5
      subst h5
      simp only [VR] at hx hy
      obtain ⟨xs, rfl, hxs⟩ := hx
      obtain ⟨ys, rfl, hys⟩ := hy
      unfold eqK at hq
      split at hq <;> try cases hq
      rename_i fs hu
      split at hq <;> cases hq
      rename_i hs
      unfold structK at hs
      rw [hu] at hs
      simp only [cond_eq_ite] at hs
      split at hs
      · rename_i hc
        simp only [Bool.and_eq_true, Bool.not_eq_true'] at hc
        have hf : P.fieldsOf t = fs := by unfold Program.fieldsOf; rw [hu]
        have he : (Op.equalIn (9999 + 1) t (.agg xs) (.agg ys)).run P w = .ok v w := by
          rw [run_equalIn_struct w 9999 t xs ys (by rw [hf]; exact hu) hc.1, hf]
          exact eqFields_ok 9998 hs (by simpa using hxs) (by simpa using hys) h6
        have hg : ∀ op, (eqGuard op t x y (.agg xs) (.agg ys)).run P w = .ok () w := fun op => run_eqGuard_agg w op t x y xs ys hc.2
        constructor
        · simp only [BinS, Sem.run_bind, hg, Result.andThen_ok, run_eql_struct, he]
        · simp only [BinS, Sem.run_bind, hg, Result.andThen_ok, run_neq_struct, he]
      · cases hs
    | _ => rw [hq] at h; cases (show none = some v from h)
  | tu l => cases (show none = some v from h)
  | tok k => cases (show none = some v from h)
  | mp o =>
    change isQ 4 (eqK P t) (ob (asMp Y) (lacks o)) = some v at h
    obtain ⟨h1, h2⟩ := isQ_eq h
    obtain ⟨d, h3, h4⟩ := eqK_under h1 (by simp)
    simp only at h4; obtain ⟨e, e', rfl⟩ := h4
    rw [ob_eq] at h2
    obtain ⟨c, h5, h6⟩ := h2
    rw [asMp_eq] at h5
    obtain ⟨a', rfl, ha⟩ := VR_mp hx
    rw [h5] at hy
    obtain ⟨b', rfl, hb⟩ := VR_mp hy
    rcases lacks_eq h6 with ⟨rfl, rfl, rfl⟩ | ⟨rfl, ⟨z, rfl⟩, rfl⟩ | ⟨⟨z, rfl⟩, rfl, rfl⟩ <;> simp only [Option.isNone_none, Option.isNone_some] at ha hb <;>
      cases a' <;> cases b' <;> simp at ha hb <;> exact eqs_mk (fun op => by cases op <;> simp [eqGuard]) rfl rfl (fun d => by simp [Op.equalIn, r_under h3])
end
section
variable {o : Oper} {t yt : TypeId} {x y : Operand} {x' y' : AOpd}
theorem calc_eql (ho : o.op = .binOp .eql t x y yt) (hx : co P x = some x') (hy : co P y = some y') : CalcS P o fun f _ => kEql f (eqK P t) x' y' := by
  intro σ N f ac h w v hf hg e
  simp only [kEql, ob_eq] at e
  obtain ⟨b, e, e'⟩ := e
  cases e'
  exact ⟨_, exec_bin ho (eqA_ok e (co_ok hx hf hg) (co_ok hy hf hg)).1, VR_bb⟩
theorem calc_neq (ho : o.op = .binOp .neq t x y yt) (hx : co P x = some x') (hy : co P y = some y') : CalcS P o fun f _ => kNeq f (eqK P t) x' y' := by
  intro σ N f ac h w v hf hg e
  simp only [kNeq, ob_eq] at e
  obtain ⟨b, e, e'⟩ := e
  cases e'
  exact ⟨_, exec_bin ho (eqA_ok e (co_ok hx hf hg) (co_ok hy hf hg)).2, VR_bb⟩
theorem calc_bin0 {op : BinOp} {g : Fr → Hp → Option AVal} (ho : o.op = .binOp op t x y yt) (hx : co P x = some x') (hy : co P y = some y') (hb : binK0 op (eqK P t) x' y' = .calc g) : CalcS P o g := by
  cases op <;> cases hb
  · exact calc_add ho hx hy
  · exact calc_sub ho hx hy
  · exact calc_mul ho hx hy
  · exact calc_quo ho hx hy
  · exact calc_rem ho hx hy
  · exact calc_bit ho hx hy
  · exact calc_bit ho hx hy
  · exact calc_bit ho hx hy
  · exact calc_shl ho hx hy
  · exact calc_shr ho hx hy
  · exact calc_bit ho hx hy
  · exact calc_eql ho hx hy
  · exact calc_neq ho hx hy
  · exact calc_lss ho hx hy
  · exact calc_leq ho hx hy
  · exact calc_gtr ho hx hy
  · exact calc_geq ho hx hy
theorem TV.vr {σ : Sg} {a : AVal} {v : Value} (h : TV Tok.val a v) : VR σ a v := by
  cases h <;> simp [VR]
theorem calc_bin {op : BinOp} {g : Fr → Hp → Option AVal} (ho : o.op = .binOp op t x y yt) (hx : co P x = some x') (hy : co P y = some y') (hb : binK op (eqK P t) x' y' = .calc g) : CalcS P o g := by
  have h0 : ∃ g0, binK0 op (eqK P t) x' y' = .calc g0 := by cases op <;> exact ⟨_, rfl⟩
  obtain ⟨g0, h0⟩ := h0
  unfold binK at hb
  rw [h0] at hb
  cases hb
  intro σ N f ac h w v hf hg e
  rcases orT_eq e with e | e
  · exact calc_bin0 ho hx hy h0 σ N f ac h w v hf hg e
  · unfold twoT at e
    rw [ifb_eq, ifb_eq] at e
    obtain ⟨b1, b2, e⟩ := e
    obtain ⟨v', h1, h2⟩ := Tok.two_ok P op t x y _ _ v _ _ w e ((co_ok hx hf hg).tv b1) ((co_ok hy hf hg).tv b2)
    exact ⟨v', exec_bin ho h2, h1.vr⟩
end
end Go.Av


namespace Go.Av
variable [Tok]
variable {P : Program}
/-! ### Parts laid into cells -/
theorem foldl_lay (off : Nat) : ∀ (l : List Value) (n : Nat) (cs : Array Value), off + n + l.length ≤ cs.size →
    ((l.zipIdx n).foldl (fun cs (c, j) => cs.setIfInBounds (off + j) c) cs).toList = cs.toList.take (off + n) ++ l ++ cs.toList.drop (off + n + l.length)
  | [], n, cs, h => by simp
  | v :: r, n, cs, h => by
    simp only [List.length_cons] at h
    rw [List.zipIdx_cons, List.foldl_cons, foldl_lay off r (n + 1) _ (by simp; omega)]
    have ho' : off + n < cs.toList.length := by simp; omega
    simp only [Array.toList_setIfInBounds, List.length_cons]
    rw [List.take_set, List.drop_set_of_lt (by omega)]
    rw [show (cs.toList.take (off + (n + 1))).set (off + n) v = cs.toList.take (off + n) ++ [v] by
      rw [List.set_eq_take_append_cons_drop]
      rw [if_pos (by simp; omega)]
      simp [List.take_take, Nat.min_eq_left, Nat.add_assoc]]
    rw [show off + (n + 1) + r.length = off + n + (r.length + 1) by omega]; simp
theorem zip_foldl (off : Nat) (v cs : Array Value) (h : off + v.size ≤ cs.size) :
    (v.zipIdx.foldl (fun cs (c, j) => cs.setIfInBounds (off + j) c) cs).toList = cs.toList.take off ++ v.toList ++ cs.toList.drop (off + v.size) := by
  rw [← Array.foldl_toList, Array.toList_zipIdx, foldl_lay off v.toList 0 cs (by simpa using h)]
  simp
theorem fill_ok {σ : Sg} {N : Nat} {f : Fr} {ac : Act} {place : Nat → Option (Nat × Nat)} (hf : FrR σ N f ac.tmps) (hg : GlobR P σ) : ∀ {ps : List (Nat × Operand)} {l : List Part} {z q : List AVal} {Z : Array Value},
    partsK P place ps = some l → fill f l z = some q → VRL σ z Z.toList → ∃ L, Instr.fill place Z (ps.map fun (i, x) => (i, ac.eval x)) = some L ∧ VRL σ q L.toList
  | [], l, z, q, Z, h, hq, hz => by
    cases h
    cases (show some z = some q from hq)
    exact ⟨Z, rfl, hz⟩
  | (i, x) :: r, l, z, q, Z, h, hq, hz => by
    unfold partsK at h
    split at h
    · rename_i o n a l' hp hx hl
      cases h
      change ifb (Nat.beq (lenR (ev f a).cells) n) (ob (layR (ev f a).cells o z) (fill f l')) none = some q at hq
      simp only [ifb_eq, Nat.beq_eq, ob_eq, lenR_eq, layR_eq] at hq
      obtain ⟨hn, z', ⟨hfit, rfl⟩, hq⟩ := hq
      have hv := (co_ok hx hf hg).cells
      have hlen := hv.length
      have hzl := hz.length
      simp only [Array.length_toList] at hlen hzl
      have fit : o + (ac.eval x).cells.size ≤ Z.size := by omega
      simp only [List.map_cons, Instr.fill, hp]
      rw [if_neg (by simp; omega)]
      refine fill_ok hf hg hl hq ?_
      rw [zip_foldl _ _ _ fit, hlen]
      exact ((hz.take _).append hv).append (hz.drop _)
    · cases h
theorem places_ok {w : World} : ∀ {fs : List Field} {pl : List (Nat × Nat)}, placesK P fs = some pl → (fs.mapM fun f => Prod.mk f.offset <$> sizeOf f.type).run P w = .ok pl w
  | [], pl, h => by cases h; rfl
  | f :: r, pl, h => by
    unfold placesK at h
    split at h
    · rename_i n m l hi hl
      cases h
      obtain ⟨i, h1, h2, _⟩ := infoK_eq hi
      simp [List.mapM_cons, r_sizeOf h1, h2, places_ok hl]
    · cases h
section
variable {o : Oper} {t : TypeId}
theorem calc_build_struct {ps : Array (Nat × Operand)} {z : AVal} {fs : Array Field} {pl : List (Nat × Nat)} {l : List Part} (ho : o.op = .build t ps) (hz : zeroK P t = some z) (hu : P.underlying t = some (.struct fs))
    (hp : placesK P fs.toList = some pl) (hl : partsK P (fun i => pl[i]?) ps.toList = some l) : CalcS P o fun f _ => kBuild f z.cells l := by
  intro σ N f ac h w v hf hg e
  simp only [kBuild, ob_eq] at e
  obtain ⟨q, hq, e⟩ := e
  cases e
  obtain ⟨i, Z, h1, h2, h3⟩ := zeroK_eq hz
  obtain ⟨L, hL, hv⟩ := fill_ok hf hg hl hq (cv_ok h3).cells
  refine ⟨.agg L, ?_, by simp only [VR]; exact ⟨L, rfl, hv⟩⟩
  have hL' : Instr.fill (fun i => pl[i]?) Z.cells (ps.map fun (i, x) => (i, ac.eval x)).toList = some L := by simpa using hL
  simp [execOp, ho, Instr.build, r_zero h1 h2, r_under hu, Array.mapM_eq_mapM_toList, places_ok hp]
  have hL'' : Instr.fill (fun i => pl[i]?) Z.cells (List.map (fun x => (x.fst, ac.eval x.snd)) ps.toList) = some L := by simpa using hL
  simp [hL'']
theorem calc_build_array {ps : Array (Nat × Operand)} {z : AVal} {len : Nat} {e : TypeId} {n m : Nat} {l : List Part} (ho : o.op = .build t ps) (hz : zeroK P t = some z) (hu : P.underlying t = some (.array len e))
    (hi : infoK P e = some (n, m)) (hl : partsK P (fun i => some (i * n, n)) ps.toList = some l) : CalcS P o fun f _ => kBuild f z.cells l := by
  intro σ N f ac h w v hf hg e
  simp only [kBuild, ob_eq] at e
  obtain ⟨q, hq, e⟩ := e
  cases e
  obtain ⟨i, Z, h1, h2, h3⟩ := zeroK_eq hz
  obtain ⟨j, h4, h5, _⟩ := infoK_eq hi
  obtain ⟨L, hL, hv⟩ := fill_ok hf hg hl hq (cv_ok h3).cells
  refine ⟨.agg L, ?_, by simp only [VR]; exact ⟨L, rfl, hv⟩⟩
  have hL'' : Instr.fill (fun i => some (i * n, n)) Z.cells (List.map (fun x => (x.fst, ac.eval x.snd)) ps.toList) = some L := by simpa using hL
  simp [execOp, ho, Instr.build, r_zero h1 h2, r_under hu, r_sizeOf h4, h5, hL'']
end
end Go.Av


namespace Go.Av
variable [Tok]
variable {P : Program}
/-! ### Conversions -/
section
variable {o : Oper} {s d : TypeId} {x : Operand} {y : AOpd}
theorem calc_conv_int {k : IntKind} {ds : TypeDesc} (ho : o.op = .convert s d x) (hs : P.underlying s = some ds) (hd : P.underlying d = some (.int k)) (hx : co P x = some y) : CalcS P o fun f _ => kInt f k y := by
  intro σ N f ac h w v hf hg e
  simp only [kInt, ob_eq, asI_eq, wrapF_eq] at e
  obtain ⟨n, ⟨k', e1⟩, e⟩ := e
  cases e
  have h1 := co_ok hx hf hg
  rw [e1, VR_i] at h1
  refine ⟨_, ?_, VR_ii⟩
  simp [execOp, ho, convert, r_under hs, r_under hd, h1, Conv.intToInt]
theorem calc_conv_str (ho : o.op = .convert s d x) (hs : P.underlying s = some .string) (hd : P.underlying d = some .string) (hx : co P x = some y) : CalcS P o fun f _ => kStr f y := by
  intro σ N f ac h w v hf hg e
  simp only [kStr, ob_eq, asS_eq] at e
  obtain ⟨l, e1, e⟩ := e
  cases e
  have h1 := co_ok hx hf hg
  rw [e1, VR_s] at h1
  obtain ⟨p, h1, h2⟩ := h1
  refine ⟨_, ?_, VR_ss h2⟩
  simp [execOp, ho, convert, r_under hs, r_under hd, h1]
theorem calc_un {op : UnOp} {t : TypeId} (ho : o.op = .unOp op t x) (hx : co P x = some y) : CalcS P o fun f _ => kUn f op y := by
  intro σ N f ac h w v hf hg e
  change unA op (ev f y) = some v at e
  have h1 := co_ok hx hf hg
  unfold unA at e
  split at e
  · rename_i k n he
    cases e
    rw [he, VR_i] at h1
    refine ⟨_, ?_, VR_ii⟩
    simp [execOp, ho, h1, Op.unary, Op.intArith, wrapF_eq, subI_eq]
  · rename_i c he
    cases e
    rw [he, VR_b] at h1
    exact ⟨_, by simp [execOp, ho, h1, Op.unary], VR_bb⟩
  · rename_i k n he
    rw [he, VR_i] at h1
    unfold bitA at e
    cases e
    refine ⟨_, ?_, VR_ii⟩
    simp [execOp, ho, h1, Op.unary, Op.intBits]
  · cases e
end
/-! ### Places -/
section
variable {o : Oper} {t : TypeId} {x ix : Operand} {x' ix' : AOpd}
theorem VR_p_some {σ : Sg} {a : Adr} {v : Value} : VR σ (.p (some a)) v ↔ ∃ I, σ a.1 = some I ∧ v = .pointer (some ⟨I.cb, I.co + a.2, none⟩) := by
  obtain ⟨b, o⟩ := a; simp only [VR]
theorem VR_sl_some {σ : Sg} {a : Adr} {n c g : Nat} {v : Value} : VR σ (.sl (some a) n c g) v ↔ ∃ I p c', σ a.1 = some I ∧ v = .slice (some p) n c' ∧ SlR I a.2 n c g p c' := by
  obtain ⟨b, o⟩ := a; simp only [VR]
theorem moved_fst (a : Adr) (n : Nat) : (moved a n).1 = a.1 := rfl
theorem moved_snd (a : Adr) (n : Nat) : (moved a n).2 = a.2 + n := rfl
theorem calc_fieldAddr {j : Nat} {fs : Array Field} {fd : Field} {n m : Nat} (ho : o.op = .fieldAddr t x j) (hu : P.underlying t = some (.struct fs)) (hj : fs[j]? = some fd) (hi : infoK P fd.type = some (n + 1, m)) (hx : co P x = some x') :
    CalcS P o fun f _ => kFieldAddr f fd.offset x' := by
  intro σ N f ac h w v hf hg e
  simp only [kFieldAddr, ob_eq, asP_eq] at e
  obtain ⟨a, e1, e⟩ := e
  cases e
  have h1 := co_ok hx hf hg
  rw [e1, VR_p_some] at h1
  obtain ⟨I, hI, h1⟩ := h1
  obtain ⟨i, h4, h5, _⟩ := infoK_eq hi
  refine ⟨.pointer (some ⟨I.cb, I.co + (a.2 + fd.offset), none⟩), ?_, by rw [VR_p_some]; exact ⟨I, hI, rfl⟩⟩
  simp [execOp, ho, Instr.fieldAt, r_under hu, hj, h1, Instr.sureAddr, fieldPlace, r_sizeOf h4, h5, add_none, Nat.add_assoc]
theorem under_eq {j : Int} {n m : Nat} : under j n = some m ↔ j = (m : Int) ∧ m < n := by
  cases j with
  | ofNat i =>
    show ifb (Nat.blt i n) (some i) none = some m ↔ _
    rw [ifb_eq, Nat.blt_eq]
    constructor
    · rintro ⟨h, e⟩; cases e; exact ⟨rfl, h⟩
    · rintro ⟨h, e⟩; cases h; exact ⟨e, rfl⟩
  | negSucc i => show none = some m ↔ _; simp
theorem calc_indexArr {m n b : Nat} {e : TypeId} (ho : o.op = .indexAddr t x ix) (hu : P.underlying t = some (.array m e)) (hi : infoK P e = some (n, b)) (hx : co P x = some x') (hix : co P ix = some ix') :
    CalcS P o fun f _ => kIndexArr f m n x' ix' := by
  intro σ N f ac h w v hf hg e
  simp only [kIndexArr, ob_eq, asP_eq, asI_eq, under_eq] at e
  obtain ⟨a, e1, j, ⟨k, e2⟩, q, ⟨rfl, hq⟩, e⟩ := e
  cases e
  have h1 := co_ok hx hf hg
  rw [e1, VR_p_some] at h1
  obtain ⟨I, hI, h1⟩ := h1
  have h2 := co_ok hix hf hg
  rw [e2, VR_i] at h2
  obtain ⟨i, h4, h5, _⟩ := infoK_eq hi
  refine ⟨.pointer (some ⟨I.cb, I.co + (a.2 + q * n), none⟩), ?_, by rw [VR_p_some]; exact ⟨I, hI, rfl⟩⟩
  simp [execOp, ho, Instr.indexAt, asIntOf, r_under hu, h1, h2, Instr.sureAddr, r_sizeOf h4, h5, add_none, Nat.add_assoc, hq]
theorem calc_indexSl {n b : Nat} {e : TypeId} (ho : o.op = .indexAddr t x ix) (hu : P.underlying t = some (.slice e)) (hi : infoK P e = some (n, b)) (hx : co P x = some x') (hix : co P ix = some ix') :
    CalcS P o fun f _ => kIndexSl f n x' ix' := by
  intro σ N f ac h w v hf hg e
  simp only [kIndexSl, ob_eq, asSl_eq, asI_eq, under_eq] at e
  obtain ⟨s, e1, a, ha, j, ⟨k, e2⟩, q, ⟨rfl, hq⟩, e⟩ := e
  cases e
  have h1 := co_ok hx hf hg
  rw [e1, ha, VR_sl_some] at h1
  obtain ⟨I, p, c', hI, h1, hs⟩ := h1
  have h2 := co_ok hix hf hg
  rw [e2, VR_i] at h2
  obtain ⟨i, h4, h5, _⟩ := infoK_eq hi
  refine ⟨.pointer (some ⟨I.cb, I.co + (a.2 + q * n), none⟩), ?_, by rw [VR_p_some]; exact ⟨I, hI, rfl⟩⟩
  obtain ⟨hc, ⟨rfl, _⟩ | ⟨hz, _⟩⟩ := hs
  · simp [execOp, ho, Instr.indexAt, asIntOf, r_under hu, h1, h2, r_sizeOf h4, h5, add_none, Nat.add_assoc, hq]
  · omega
theorem calc_indexStr (ho : o.op = .index t x ix) (hu : P.underlying t = some .string) (hx : co P x = some x') (hix : co P ix = some ix') : CalcS P o fun f _ => kIndexStr f x' ix' := by
  intro σ N f ac h w v hf hg e
  simp only [kIndexStr, ob_eq, asS_eq, asI_eq] at e
  obtain ⟨l, e1, j, ⟨k, e2⟩, e⟩ := e
  have h1 := co_ok hx hf hg
  rw [e1, VR_s] at h1
  obtain ⟨p, h1, rfl⟩ := h1
  have h2 := co_ok hix hf hg
  rw [e2, VR_i] at h2
  cases j with
  | ofNat j =>
    change ob (atR j _) (fun c => some (byteA c)) = some v at e
    simp only [ob_eq, atR_eq, List.getElem?_map] at e
    obtain ⟨c, h3, e⟩ := e
    cases e
    obtain ⟨u, h4, rfl⟩ := Option.map_eq_some_iff.1 h3
    refine ⟨.int .u8 u.toNat, ?_, by show VR σ (.i .u8 _) _; exact VR_ii⟩
    have hs : p[j]? = some u := by
      simp only [Array.getElem?_toList] at h4
      have hj : j < p.size := by
        have := (Array.getElem?_eq_some_iff.1 h4).1
        exact this
      rw [getElem?_pos p j hj]
      have := (Array.getElem?_eq_some_iff.1 h4).2
      exact congrArg some this
    simp [execOp, ho, Instr.index, asIntOf, r_under hu, h1, h2, hs]
  | negSucc j => cases (show none = some v from e)
theorem pack_ok {σ : Sg} {agg : Bool} {l : List AVal} {v : AVal} {L : List Value} (h : packA agg l = some v) (hl : VRL σ l L) : (agg = true ∧ VR σ v (.agg L.toArray)) ∨ (agg = false ∧ ∃ y, L = [y] ∧ VR σ v y) := by
  cases agg with
  | true =>
    cases (show some (AVal.ag l) = some v from h)
    refine .inl ⟨rfl, ?_⟩
    simp only [VR]; exact ⟨_, rfl, by simpa using hl⟩
  | false =>
    refine .inr ⟨rfl, ?_⟩
    change pack1 l = some v at h
    match l, h, hl with
    | [], h, _ => cases (show none = some v from h)
    | [a], h, hl =>
      cases (show some a = some v from h)
      obtain ⟨y, q, e, h1, h2⟩ : ∃ y q, L = y :: q ∧ VR σ v y ∧ VRL σ [] q := by simpa only [VRL] using hl
      simp only [VRL] at h2
      subst h2
      exact ⟨y, e, h1⟩
    | _ :: _ :: _, h, _ => cases (show none = some v from h)
/-- a part of an aggregate's cells -/
theorem part_ok {σ : Sg} {l : List AVal} {cs : Array Value} {off n sz m : Nat} {agg : Bool} {e : TypeId} {q : List AVal} {v : AVal} {w : World} (hl : VRL σ l cs.toList) (ha : aggK P e = some agg) (hi : infoK P e = some (sz, m)) (hn : n = if agg then sz else 1)
    (hq : takeX n (dropR off l) = some q) (hp : packA agg q = some v) : ∃ y, (part e cs off).run P w = .ok y w ∧ VR σ v y := by
  rw [dropR_eq, takeX_eq] at hq
  obtain ⟨h1, rfl⟩ := hq
  have hlen := hl.length
  simp only [Array.length_toList, List.length_drop] at hlen h1
  have hv : VRL σ ((l.drop off).take n) ((cs.toList.drop off).take n) := (hl.drop off).take n
  rcases pack_ok hp hv with ⟨rfl, h2⟩ | ⟨rfl, y, h2, h3⟩
  · simp only [if_true] at hn
    subst hn
    refine ⟨.agg (cs.extract off (off + n)), part_true ha hi, ?_⟩
    have : ((cs.toList.drop off).take n).toArray = cs.extract off (off + n) := by
      apply Array.ext'
      simp [Array.toList_extract]
    rw [← this]; exact h2
  · simp only [Bool.false_eq_true, if_false] at hn
    subst hn
    refine ⟨y, part_false ha ?_, h3⟩
    have := congrArg (fun l => l[0]?) h2
    simpa using this
theorem calc_field {j : Nat} {fs : Array Field} {fd : Field} {n sz m : Nat} {agg : Bool} (ho : o.op = .field t x j) (hu : P.underlying t = some (.struct fs)) (hj : fs[j]? = some fd) (ha : aggK P fd.type = some agg) (hi : infoK P fd.type = some (sz, m) ∨ agg = false)
    (hn : n = if agg then sz else 1) (hx : co P x = some x') : CalcS P o fun f _ => kField f fd.offset agg n x' := by
  intro σ N f ac h w v hf hg e
  simp only [kField, ob_eq, asAg_eq] at e
  obtain ⟨l, e1, q, e2, e3⟩ := e
  have h1 := co_ok hx hf hg
  rw [e1] at h1
  simp only [VR] at h1
  obtain ⟨cs, h1, hl⟩ := h1
  have : ∃ y, (part fd.type cs fd.offset).run P w = .ok y w ∧ VR σ v y := by
    rcases hi with hi | rfl
    · exact part_ok hl ha hi hn e2 e3
    · rw [dropR_eq, takeX_eq] at e2
      obtain ⟨h4, rfl⟩ := e2
      simp only [Bool.false_eq_true, if_false] at hn
      subst hn
      rcases pack_ok e3 ((hl.drop fd.offset).take 1) with ⟨h5, _⟩ | ⟨_, y, h2, h3⟩
      · cases h5
      · refine ⟨y, part_false ha ?_, h3⟩
        have := congrArg (fun l => l[0]?) h2
        simpa using this
  obtain ⟨y, h2, h3⟩ := this
  refine ⟨y, ?_, h3⟩
  simp [execOp, ho, Instr.field, r_under hu, hj, h1, asAgg, h2]
theorem calc_indexVal {m n sz b : Nat} {e : TypeId} {agg : Bool} (ho : o.op = .index t x ix) (hu : P.underlying t = some (.array m e)) (ha : aggK P e = some agg) (hi : infoK P e = some (sz, b)) (hn : n = if agg then sz else 1)
    (hx : co P x = some x') (hix : co P ix = some ix') : CalcS P o fun f _ => kIndexVal f m sz agg n x' ix' := by
  intro σ N f ac h w v hf hg e
  simp only [kIndexVal, ob_eq, asAg_eq, asI_eq, under_eq] at e
  obtain ⟨l, e1, j, ⟨k, e2⟩, i, ⟨rfl, hj⟩, q, e4, e3⟩ := e
  have h1 := co_ok hx hf hg
  rw [e1] at h1
  simp only [VR] at h1
  obtain ⟨cs, h1, hl⟩ := h1
  have h2 := co_ok hix hf hg
  rw [e2, VR_i] at h2
  obtain ⟨y, h5, h6⟩ := part_ok (w := w) hl ha hi hn e4 e3
  obtain ⟨i', h7, h8, _⟩ := infoK_eq hi
  refine ⟨y, ?_, h6⟩
  simp only [Nat.mul_eq] at h5
  simp [execOp, ho, Instr.index, asIntOf, r_under hu, h1, h2, hj, r_sizeOf h7, h8, h5]
end

/-! ### Slices -/
def BV (v : Option Value) (d m n : Nat) : Prop := (v = none ∧ n = d) ∨ ∃ k, v = some (.int k (n : Int)) ∧ n ≤ m
theorem bound_ok {σ : Sg} {N : Nat} {f : Fr} {ac : Act} {x : Option Operand} {x' : Option AOpd} {d m n : Nat} (h : coO P x = some x') (hf : FrR σ N f ac.tmps) (hg : GlobR P σ) (hb : bound f x' d m = some n) : BV (x.map ac.eval) d m n := by
  rcases coO_ok h hf hg with ⟨rfl, rfl⟩ | ⟨a, z, rfl, rfl, hv⟩
  · cases (show some d = some n from hb); exact .inl ⟨rfl, rfl⟩
  · change ob (asI (ev f a)) (fun j => natOf j m) = some n at hb
    simp only [ob_eq, asI_eq, natOf_eq] at hb
    obtain ⟨j, ⟨k, e1⟩, rfl, hn⟩ := hb
    rw [e1, VR_i] at hv
    exact .inr ⟨k, by simp [hv], hn⟩
theorem sliceBounds_ok {isSlice : Bool} {len cap m hi lo : Nat} {low high mx : Option Value} {w : World} (hm : BV mx cap cap m) (hh : BV high len m hi) (hl : BV low 0 hi lo) (hx : mx.isSome = true → high.isSome = true) :
    (Instr.sliceBounds isSlice len cap low high mx).run P w = .ok (lo, hi, m) w := by
  have sb : ∀ (k : IntKind) (n y : Nat) (c : BoundsCode), n ≤ y → (Instr.sliceBound (.int k (n : Int)) y c).run P w = .ok n w := fun k n y c h => by
    have := run_sliceBound (P := P) (w := w) k (n : Int) y c (by omega) (by omega)
    simpa using this
  unfold Instr.sliceBounds
  rcases hm with ⟨rfl, rfl⟩ | ⟨km, rfl, hm⟩ <;> rcases hh with ⟨rfl, rfl⟩ | ⟨kh, rfl, hh⟩ <;> rcases hl with ⟨rfl, rfl⟩ | ⟨kl, rfl, hl⟩ <;> simp at hx <;> simp_all
theorem calc_sliceStr {o : Oper} {t : TypeId} {x : Operand} {lo hi : Option Operand} {x' : AOpd} {lo' hi' : Option AOpd} (ho : o.op = .slice t x lo hi none) (hu : P.underlying t = some .string) (hx : co P x = some x') (hlo : coO P lo = some lo') (hhi : coO P hi = some hi') :
    CalcS P o fun f _ => kSliceStr f x' lo' hi' := by
  intro σ N f ac h w v hf hg e
  simp only [kSliceStr, ob_eq, asS_eq, lenR_eq, dropR_eq] at e
  obtain ⟨l, e1, h', e2, l', e3, r, e4, e⟩ := e
  cases e
  have h1 := co_ok hx hf hg
  rw [e1, VR_s] at h1
  obtain ⟨p, h1, rfl⟩ := h1
  have b1 := bound_ok hhi hf hg e2
  have b2 := bound_ok hlo hf hg e3
  have hsz := size_map (s := p) rfl
  rw [← hsz] at b1
  have hb := sliceBounds_ok (P := P) (isSlice := false) (w := w) (len := p.size) (cap := p.size) (mx := none) (.inl ⟨rfl, rfl⟩) b1 b2 (by simp)
  rw [takeX_eq] at e4
  obtain ⟨e4, rfl⟩ := e4
  refine ⟨.string (p.extract l' h'), ?_, VR_ss ?_⟩
  · simp [execOp, ho, Instr.sliceAt, r_under hu, Instr.slice, h1, hb]
  · rw [ByteArray.data_extract, Array.toList_extract, List.extract_eq_take_drop, List.map_take, List.map_drop]; rfl
end Go.Av


namespace Go.Av
variable [Tok]
variable {P : Program}
theorem gOk_eq {g e : Nat} (h : gOk g e = true) : g = 0 ∨ g = e := by
  unfold gOk at h
  cases h1 : Nat.beq g 0 with
  | true => exact .inl (Nat.beq_eq.symm ▸ h1 |> fun h => by simpa using h)
  | false => rw [h1] at h; exact .inr (by simpa using (show Nat.beq g e = true from h))
theorem BV.up {v : Option Value} {d m m' n : Nat} (h : BV v d m n) (hm : m ≤ m') : BV v d m' n := by
  rcases h with h | ⟨k, h1, h2⟩
  · exact .inl h
  · exact .inr ⟨k, h1, by omega⟩
theorem BV.le {v : Option Value} {d m n : Nat} (h : BV v d m n) (hd : d ≤ m) : n ≤ m := by
  rcases h with ⟨_, h⟩ | ⟨k, h1, h2⟩ <;> omega
/-- a slice's part -/
theorem slAt_ok {σ : Sg} {I : BI} {a : Adr} {n c g m m' hi lo esz g' : Nat} {p : Addr} {c' : Nat} (hI : σ a.1 = some I) (hs : SlR I a.2 n c g p c') (hg : g = 0 ∨ g = esz)
    (hm : (m' = m ∧ m ≤ c ∧ g' = 0) ∨ (m = c ∧ m' = c' ∧ g' = g)) (hh : hi ≤ m) (hl : lo ≤ hi) :
    VR σ (slAt (some a) esz lo hi m g') (.slice (some (if m' = lo then p else p.add (lo * esz))) (hi - lo) (m' - lo)) := by
  show VR σ (.sl (some (moved a (lo * esz))) (hi - lo) (m - lo) g') _
  rw [VR_sl_some]
  refine ⟨I, _, m' - lo, by rw [moved_fst]; exact hI, rfl, by omega, ?_⟩
  rw [moved_snd]
  obtain ⟨hnc, hs⟩ := hs
  by_cases e : m' = lo
  · refine .inr ⟨?_, by omega⟩
    rcases hm with ⟨h1, h2, h3⟩ | ⟨h1, h2, h3⟩
    · omega
    · rcases hs with ⟨_, hs | ⟨_, _, hs, _⟩⟩ | ⟨h4, h5⟩ <;> omega
  · rw [if_neg e]
    rcases hm with ⟨rfl, h2, rfl⟩ | ⟨rfl, rfl, rfl⟩
    · rcases hs with ⟨rfl, hs⟩ | ⟨h4, h5⟩
      · exact .inl ⟨by rw [add_none, Nat.add_assoc], .inl rfl⟩
      · omega
    · rcases hs with ⟨rfl, hs⟩ | ⟨h4, h5⟩
      · refine .inl ⟨by rw [add_none, Nat.add_assoc], ?_⟩
        rcases hs with rfl | ⟨h6, h7, h8, h9⟩
        · exact .inl rfl
        · rcases hg with rfl | rfl
          · omega
          · refine .inr ⟨h6, ?_, by omega, ?_⟩
            · rw [← h7, Nat.sub_mul]; have := Nat.mul_le_mul_right g' (show lo ≤ m by omega); omega
            · rw [← h9, Nat.sub_mul]; have := Nat.mul_le_mul_right g' (show lo ≤ m' by omega); omega
      · omega
section
variable {o : Oper} {t : TypeId} {x : Operand} {x' : AOpd}
theorem calc_slice {lo hi mx : Option Operand} {lo' hi'' mx' : Option AOpd} {e : TypeId} {n b : Nat} (ho : o.op = .slice t x lo hi mx) (hu : P.underlying t = some (.slice e)) (hi' : infoK P e = some (n, b))
    (hx : co P x = some x') (h1 : coO P lo = some lo') (h2 : coO P hi = some hi'') (h3 : coO P mx = some mx') (h4 : mx'.isSome = true → hi''.isSome = true) : CalcS P o fun f _ => kSlice f n x' lo' hi'' mx' := by
  intro σ N f ac h w v hf hg e
  simp only [kSlice, ob_eq, asSl_eq, ifb_eq] at e
  obtain ⟨s, e1, m, e2, h', e3, l', e4, e5, e6⟩ := e
  cases e6
  have hv := co_ok hx hf hg
  rw [e1] at hv
  have b1 := bound_ok h3 hf hg e2
  have b2 := bound_ok h2 hf hg e3
  have b3 := bound_ok h1 hf hg e4
  have hxx : (mx.map ac.eval).isSome = true → (hi.map ac.eval).isSome = true := by
    intro hs
    rcases coO_ok h3 hf hg with ⟨rfl, rfl⟩ | ⟨a, z, rfl, rfl, _⟩
    · cases hs
    · rcases coO_ok h2 hf hg with ⟨rfl, rfl⟩ | ⟨a', z', rfl, rfl, _⟩
      · exact absurd (h4 rfl) (by simp)
      · rfl
  have hl := b3.le (Nat.zero_le _)
  obtain ⟨i, h7, h8, _⟩ := infoK_eq hi'
  cases ha : s.a with
  | none =>
    rw [ha] at hv
    simp only [VR] at hv
    have hb := sliceBounds_ok (P := P) (isSlice := true) (w := w) b1 b2 b3 hxx
    refine ⟨.slice none (h' - l') (m - l'), ?_, ?_⟩
    · simp [execOp, ho, Instr.sliceAt, r_under hu, Instr.slice, hv, hb, r_sizeOf h7]
    · show VR σ (.sl none _ _ _) _
      simp only [VR]; rfl
  | some a =>
    rw [ha, VR_sl_some] at hv
    obtain ⟨I, p, c', hI, hv, hs⟩ := hv
    have hcc : s.cap ≤ c' := by
      rcases hs with ⟨_, ⟨_, h | ⟨_, _, h, _⟩⟩ | ⟨h, _⟩⟩ <;> omega
    have hle : h' ≤ m := by
      rcases b2 with ⟨h, h9⟩ | ⟨_, _, h9⟩
      · rcases b1 with ⟨_, h5⟩ | ⟨k, h5, _⟩
        · rw [h9, h5]; exact hs.1
        · rw [h5, h] at hxx; exact absurd (hxx rfl) (by simp)
      · exact h9
    have key : ∃ m', BV (mx.map ac.eval) c' c' m' ∧ m ≤ m' ∧ ((m' = m ∧ m ≤ s.cap ∧ newG s.g mx' = 0) ∨ (m = s.cap ∧ m' = c' ∧ newG s.g mx' = s.g)) := by
      rcases coO_ok h3 hf hg with ⟨rfl, rfl⟩ | ⟨a', z, rfl, rfl, _⟩
      · rcases b1 with ⟨_, h5⟩ | ⟨k, h5, _⟩
        · exact ⟨c', .inl ⟨rfl, rfl⟩, by omega, .inr ⟨h5, rfl, rfl⟩⟩
        · cases h5
      · rcases b1 with ⟨h5, _⟩ | ⟨k, h5, h6⟩
        · cases h5
        · exact ⟨m, .inr ⟨k, h5, by omega⟩, Nat.le_refl _, .inl ⟨rfl, h6, rfl⟩⟩
    obtain ⟨m', b1', hmm, hk⟩ := key
    have hb := sliceBounds_ok (P := P) (isSlice := true) (w := w) b1' (b2.up hmm) b3 hxx
    have hr := slAt_ok hI hs (gOk_eq e5) hk hle hl
    refine ⟨.slice (some (if m' = l' then p else p.add (l' * n))) (h' - l') (m' - l'), ?_, hr⟩
    simp [execOp, ho, Instr.sliceAt, r_under hu, Instr.slice, hv, hb, r_sizeOf h7, h8]
    split <;> rfl
theorem calc_sliceArr {lo hi : Option Operand} {lo' hi'' : Option AOpd} {len : Nat} {e : TypeId} {n b : Nat} (ho : o.op = .slice t x lo hi none) (hu : P.underlying t = some (.array len e)) (hi' : infoK P e = some (n, b))
    (hx : co P x = some x') (h1 : coO P lo = some lo') (h2 : coO P hi = some hi'') : CalcS P o fun f _ => kSliceArr f n len x' lo' hi'' := by
  intro σ N f ac h w v hf hg e
  simp only [kSliceArr, ob_eq, asP_eq] at e
  obtain ⟨a, e1, h', e3, l', e4, e6⟩ := e
  cases e6
  have hv := co_ok hx hf hg
  rw [e1, VR_p_some] at hv
  obtain ⟨I, hI, hv⟩ := hv
  have b2 := bound_ok h2 hf hg e3
  have b3 := bound_ok h1 hf hg e4
  obtain ⟨i, h7, h8, _⟩ := infoK_eq hi'
  have hb := sliceBounds_ok (P := P) (isSlice := false) (w := w) (mx := none) (.inl ⟨rfl, rfl⟩) b2 b3 (by simp)
  have hr := slAt_ok (esz := n) (c := len) (n := len) (g := 0) (m := len) (m' := len) (g' := 0) (hi := h') (lo := l') hI (p := ⟨I.cb, I.co + a.2, none⟩) (c' := len) ⟨Nat.le_refl _, .inl ⟨rfl, .inl rfl⟩⟩ (.inl rfl) (.inl ⟨rfl, Nat.le_refl _, rfl⟩) (b2.le (Nat.le_refl _)) (b3.le (Nat.zero_le _))
  refine ⟨_, ?_, hr⟩
  simp [execOp, ho, Instr.sliceAt, r_under hu, hv, Instr.sureAddr, hb, r_sizeOf h7, h8]
end
/-! ### Lengths, the most, the least -/
section
variable {o : Oper} {x : Operand} {x' : AOpd} {t : TypeId} {c : Call}
theorem exec_blt {b : Builtin} {ac : Act} {w : World} {r : Result Next} {xs : Array Operand} (ho : o.op = .call c) (hb : c.callee = .builtin b) (ha : c.args = xs)
    (h : (builtin b c.argTypes o.type (c.args.map fun | .const _ => true | _ => false) (xs.map ac.eval)).run P w = r) : (execOp ac.eval o).run P w = r := by
  simp only [execOp, ho, resolve, hb]
  simp only [Sem.run_bind, Sem.run_pure, Result.andThen_ok, invoke]
  rw [← ha] at h
  exact h
theorem calc_lenS (ho : o.op = .call c) (hb : c.callee = .builtin .len) (ht : c.argTypes = #[t]) (hxs : c.args = #[x]) (hu : P.underlying t = some .string) (hx : co P x = some x') :
    CalcS P o fun f _ => orT (kLenS f x') (lenT (ev f x')) := by
  intro σ N f ac h w v hf hg e
  rcases orT_eq e with e | e
  rotate_left
  · have hv := co_ok hx hf hg
    generalize ev f x' = a at e hv
    cases a <;> first | cases e | skip
    rename_i k
    simp only [VR] at hv
    obtain ⟨s, h1, h2⟩ := Tok.len_ok k v e
    refine ⟨.int .i64 (Int.ofNat s.size), exec_blt ho hb hxs ?_, h2.vr⟩
    simp [builtin, Builtin.len_, ht, r_under hu, hv, h1, goInt]
  simp only [kLenS, ob_eq, asS_eq, lenR_eq] at e
  obtain ⟨l, e1, e⟩ := e
  cases e
  have hv := co_ok hx hf hg
  rw [e1, VR_s] at hv
  obtain ⟨p, hv, hp⟩ := hv
  refine ⟨.int .i64 (Int.ofNat l.length), exec_blt ho hb hxs ?_, VR_ii⟩
  simp [builtin, Builtin.len_, ht, r_under hu, hv, goInt, size_map hp]
theorem calc_len {e : TypeId} (ho : o.op = .call c) (hb : c.callee = .builtin .len) (ht : c.argTypes = #[t]) (hxs : c.args = #[x]) (hu : P.underlying t = some (.slice e)) (hx : co P x = some x') :
    CalcS P o fun f _ => kLen f x' := by
  intro σ N f ac h w v hf hg e
  simp only [kLen, ob_eq, asSl_eq] at e
  obtain ⟨s, e1, e⟩ := e
  cases e
  have hv := co_ok hx hf hg
  rw [e1] at hv
  obtain ⟨a, c', hv, _⟩ := VR_sl hv
  refine ⟨.int .i64 (Int.ofNat s.len), exec_blt ho hb hxs ?_, VR_ii⟩
  simp [builtin, Builtin.len_, ht, r_under hu, hv, goInt]
theorem calc_cap {e : TypeId} (ho : o.op = .call c) (hb : c.callee = .builtin .cap) (ht : c.argTypes = #[t]) (hxs : c.args = #[x]) (hu : P.underlying t = some (.slice e)) (hx : co P x = some x') :
    CalcS P o fun f _ => kCap f x' := by
  intro σ N f ac h w v hf hg e
  simp only [kCap, ob_eq, asSl_eq, ifb_eq, Nat.beq_eq] at e
  obtain ⟨s, e1, hz, e⟩ := e
  cases e
  have hv := co_ok hx hf hg
  rw [e1] at hv
  have key : ∃ a, ac.eval x = .slice a s.len s.cap := by
    cases ha : s.a with
    | none => rw [ha] at hv; simp only [VR] at hv; exact ⟨_, hv⟩
    | some a =>
      rw [ha, VR_sl_some] at hv
      obtain ⟨I, p, c', _, hv, hs⟩ := hv
      have : c' = s.cap := by
        rcases hs with ⟨_, ⟨_, h | ⟨h, _⟩⟩ | ⟨h, h'⟩⟩ <;> omega
      subst this
      exact ⟨_, hv⟩
  obtain ⟨a, hv⟩ := key
  refine ⟨.int .i64 (Int.ofNat s.cap), exec_blt ho hb hxs ?_, VR_ii⟩
  simp [builtin, Builtin.cap_, ht, r_under hu, hv, goInt]
theorem foldK_ok {σ : Sg} {w : World} {g : KI → KI → KI} {g' : Value → Value → Sem Value} (hg : ∀ (a b : KI) (w : World), (g' (.int a.k a.n) (.int b.k b.n)).run P w = .ok (.int (g a b).k (g a b).n) w) :
    ∀ {l : List AVal} {L : List Value} {a : KI} {v : AVal}, foldK g l a = some v → VRL σ l L → ∃ y, (L.foldlM g' (.int a.k a.n)).run P w = .ok y w ∧ VR σ v y
  | [], L, a, v, h, hl => by
    cases (show some (AVal.i a.k a.n) = some v from h)
    simp only [VRL] at hl
    subst hl
    exact ⟨_, rfl, VR_ii⟩
  | x :: r, L, a, v, h, hl => by
    change ob (asKI x) (fun c => foldK g r (g a c)) = some v at h
    simp only [ob_eq, asKI_eq] at h
    obtain ⟨c, rfl, h⟩ := h
    simp only [VRL] at hl
    obtain ⟨y, q, rfl, h1, h2⟩ := hl
    rw [VR_i] at h1
    subst h1
    obtain ⟨z, h3, h4⟩ := foldK_ok (w := w) hg h h2
    exact ⟨z, by simp [List.foldlM_cons, hg, h3], h4⟩
theorem calc_max {xs : List Operand} {l : List AOpd} (ho : o.op = .call c) (hb : c.callee = .builtin .max) (hxs : c.args.toList = x :: xs) (hx : co P x = some x') (hl : cos P xs = some l) : CalcS P o fun f _ => kMax f x' l := by
  intro σ N f ac h w v hf hg e
  change ob (asKI (ev f x')) (foldK mx2 (evL f l)) = some v at e
  simp only [ob_eq, asKI_eq] at e
  obtain ⟨a, e1, e⟩ := e
  have hv := co_ok hx hf hg
  rw [e1, VR_i] at hv
  obtain ⟨y, h3, h4⟩ := foldK_ok (P := P) (w := w) (g' := Builtin.max2) (fun a b w => by
    simp only [Builtin.max2, mx2, ltI_eq, Sem.run_pure]
    by_cases h : a.n < b.n <;> simp [h, ifb]) e (cos_ok hl hf hg)
  refine ⟨y, exec_blt ho hb rfl ?_, h4⟩
  simp [builtin, Builtin.max_, Array.toList_map, hxs, hv, h3]
theorem calc_min {xs : List Operand} {l : List AOpd} (ho : o.op = .call c) (hb : c.callee = .builtin .min) (hxs : c.args.toList = x :: xs) (hx : co P x = some x') (hl : cos P xs = some l) : CalcS P o fun f _ => kMin f x' l := by
  intro σ N f ac h w v hf hg e
  change ob (asKI (ev f x')) (foldK mn2 (evL f l)) = some v at e
  simp only [ob_eq, asKI_eq] at e
  obtain ⟨a, e1, e⟩ := e
  have hv := co_ok hx hf hg
  rw [e1, VR_i] at hv
  obtain ⟨y, h3, h4⟩ := foldK_ok (P := P) (w := w) (g' := Builtin.min2) (fun a b w => by
    simp only [Builtin.min2, mn2, ltI_eq, Sem.run_pure]
    by_cases h : b.n < a.n <;> simp [h, ifb]) e (cos_ok hl hf hg)
  refine ⟨y, exec_blt ho hb rfl ?_, h4⟩
  simp [builtin, Builtin.min_, Array.toList_map, hxs, hv, h3]
end
end Go.Av


namespace Go.Av
variable [Tok]
variable {P : Program}
/-! ### What is told of an operation that reads -/
def ReadS (P : Program) (o : Oper) (g : Fr → Hp → Option AVal) : Prop :=
  ∀ (σ : Sg) (N : Nat) (f : Fr) (ac : Act) (h : Hp) (w : World) (v : AVal), FrR σ N f ac.tmps → GlobR P σ → Sim σ h w → g f h = some v →
    ∃ v', (execOp ac.eval o).run P w = .ok (.value v') w ∧ VR σ v v'
theorem list_take_drop_get {α : Type} {l : List α} {o n j : Nat} {v : α} (h : ((l.drop o).take n)[j]? = some v) : j < n ∧ l[o + j]? = some v := by
  rw [List.getElem?_take] at h
  split at h
  · rw [List.getElem?_drop] at h; exact ⟨by assumption, h⟩
  · cases h
/-- cells read -/
theorem loadCells_ok {w : World} {b o n : Nat} {arr : Array Value} {el : TypeId} {fz : Nat × Nat} (h : w.heap[b]? = some (.cells arr el fz)) (hn : ((arr.toList.drop o).take n).length = n) :
    (loadCells ⟨b, o, none⟩ n).run P w = .ok ((arr.toList.drop o).take n).toArray w := by
  have := run_loadCells_list (P := P) w ⟨b, o, none⟩ ((arr.toList.drop o).take n) (fun j v hj => by
    rw [add_none, cell_of h]
    have := (list_take_drop_get hj).2
    simpa using this)
  rw [hn] at this
  exact this
section
variable {o : Oper} {t : TypeId} {x ix : Operand} {x' ix' : AOpd}
theorem read_load {n sz m : Nat} {agg : Bool} (ho : o.op = .load t x) (ha : aggK P t = some agg) (hi : agg = true → infoK P t = some (sz, m)) (hn : n = if agg then sz else 1) (hx : co P x = some x') :
    ReadS P o fun f h => kLoad f h agg n x' := by
  intro σ N f ac h w v hf hg s e
  simp only [kLoad, ob_eq, asP_eq] at e
  obtain ⟨a, e1, l, e2, e3⟩ := e
  have hv := co_ok hx hf hg
  rw [e1, VR_p_some] at hv
  obtain ⟨I, hI, hv⟩ := hv
  obtain ⟨arr, el, fz, h1, h2, h3⟩ := s.read hI e2
  rcases pack_ok e3 h2 with ⟨rfl, h4⟩ | ⟨rfl, y, h4, h5⟩
  · simp only [if_true] at hn
    subst hn
    obtain ⟨i, h7, h8, _⟩ := infoK_eq (hi rfl)
    refine ⟨_, ?_, h4⟩
    have := loadCells_ok (P := P) h1 h3
    simp [execOp, ho, Instr.loadAt, hv, Instr.sureAddr, loadVar, aggK_true ha, r_sizeOf h7, h8, this]
  · simp only [Bool.false_eq_true, if_false] at hn
    subst hn
    refine ⟨y, ?_, h5⟩
    have hc : w.cell? ⟨I.cb, I.co + a.2, none⟩ = some y := by
      rw [cell_of h1]
      have := congrArg (fun l => l[0]?) h4
      simpa using this
    simp [execOp, ho, Instr.loadAt, hv, Instr.sureAddr, loadVar, aggK_false ha, hc]
theorem bytes_ok {σ : Sg} : ∀ {l : List AVal} {L : List Value} {q : List Nat}, bytesA l = some q → VRL σ l L → ∃ bs : List UInt8, q = bs.map UInt8.toNat ∧ L = bs.map fun c => Value.int .u8 (c.toNat : Int)
  | [], L, q, h, hl => by
    cases (show some [] = some q from h)
    simp only [VRL] at hl
    exact ⟨[], rfl, hl⟩
  | x :: r, L, q, h, hl => by
    change ob (byte1 x) (fun n => ob (bytesA r) fun r => some (n :: r)) = some q at h
    simp only [ob_eq, byte1, asKI_eq, ifb_eq, keq_eq, natOf_eq] at h
    obtain ⟨n, ⟨a, rfl, hk, hn, hle⟩, q', h2, e⟩ := h
    cases e
    simp only [VRL] at hl
    obtain ⟨y, p, rfl, h3, h4⟩ := hl
    rw [VR_i] at h3
    obtain ⟨bs, rfl, rfl⟩ := bytes_ok h2 h4
    refine ⟨UInt8.ofNat n :: bs, ?_, ?_⟩
    · simp [UInt8.toNat_ofNat']; omega
    · rw [h3, hk, hn]; simp [UInt8.toNat_ofNat']; omega
theorem push_list (l : List UInt8) : ∀ s : ByteArray, (((l.map fun c => (c.toNat : Int)).foldl (fun r n => r.push (UInt8.ofNat n.toNat)) s).data.toList) = s.data.toList ++ l := by
  induction l with
  | nil => intro s; simp
  | cons c l ih =>
    intro s
    simp only [List.map_cons, List.foldl_cons]
    rw [ih]
    simp [ByteArray.push]
theorem read_toStr {s d e : TypeId} (ho : o.op = .convert s d x) (hs : P.underlying s = some (.slice e)) (hd : P.underlying d = some .string) (he : P.underlying e = some (.int .u8)) (hx : co P x = some x') :
    ReadS P o fun f h => kToStr f h x' := by
  intro σ N f ac h w v hf hg si e'
  simp only [kToStr, ob_eq, asSl_eq] at e'
  obtain ⟨q, e1, e2⟩ := e'
  have hv := co_ok hx hf hg
  rw [e1] at hv
  have hor : ∀ {α : Type} {c : Bool} {a b r : α}, ifb c a b = r → (c = true ∧ a = r) ∨ (c = false ∧ b = r) := fun {_ c _ _ _} h => by cases c <;> simp [ifb] at h <;> simp [h]
  rcases hor e2 with ⟨h0, e2⟩ | ⟨_, e2⟩
  · cases e2
    rw [Nat.beq_eq] at h0
    refine ⟨.string .empty, ?_, VR_ss rfl⟩
    obtain ⟨sa, sc, hsv, _⟩ := VR_sl hv
    have := run_convert_bytes_string (P := P) w s d e sa q.len sc hs he hd
    cases sa with
    | none => simp [execOp, ho, hsv, this, Conv.bytesToString]
    | some p => rw [h0] at this hsv; simp [execOp, ho, hsv, this, Conv.bytesToString, loadCells, loadCellsFrom]
  cases ha : q.a with
  | none => rw [ha] at e2; cases (show none = some v from e2)
  | some a =>
    rw [ha] at e2 hv
    change ob (h.read a q.len) (fun l => ob (bytesA l) fun t => some (.s t)) = some v at e2
    simp only [ob_eq] at e2
    obtain ⟨l, e3, t, e4, e5⟩ := e2
    cases e5
    rw [VR_sl_some] at hv
    obtain ⟨I, p, c', hI, hv, hs'⟩ := hv
    obtain ⟨arr, el, fz, h1, h2, h3⟩ := si.read hI e3
    obtain ⟨bs, rfl, hL⟩ := bytes_ok e4 h2
    have hload : (loadCells p q.len).run P w = .ok ((bs.map fun c => (c.toNat : Int)).map (Value.int .u8)).toArray w := by
      rcases hs' with ⟨hnc, ⟨rfl, _⟩ | ⟨hz, _⟩⟩
      · rw [loadCells_ok h1 h3, hL]; simp
      · have h0 : q.len = 0 := by omega
        rw [h0] at h3 hL ⊢
        have : bs = [] := by
          have := congrArg List.length hL
          simp at this; exact List.eq_nil_of_length_eq_zero this.symm
        subst this
        rfl
    have := run_convert_bytes_string (P := P) w s d e (some p) q.len c' hs he hd
    have h5 := run_bytesToString (P := P) w p q.len c' _ hload
    rw [h5] at this
    refine ⟨.string ((bs.map fun c => (c.toNat : Int)).foldl (fun r n => r.push (UInt8.ofNat n.toNat)) ByteArray.empty), ?_, VR_ss ?_⟩
    · simp only [execOp, ho, hv, Sem.run_bind, this, Result.andThen_ok, Sem.run_pure]
    · rw [push_list]; rfl
end
end Go.Av


namespace Go.Av
variable [Tok]
variable {P : Program}
/-! ### Maps -/
def keyTy (P : Program) (kt : TypeId) : KeyK → Prop
  | .int => ∃ k, P.underlying kt = some (.int k)
  | .str => P.underlying kt = some .string
  | .st ks => ∃ fs, P.underlying kt = some (.struct fs) ∧ flatK P fs.toList 0 = some ks ∧ P.stoodInHeld kt = false
theorem keyK_ty {kt : TypeId} {q : KeyK} (h : keyK P kt = some q) : keyTy P kt q := by
  unfold keyK at h
  split at h
  · cases h; rename_i e; exact ⟨_, e⟩
  · cases h; rename_i e; exact e
  · rename_i fs e
    split at h
    · cases h
      rename_i l hl
      unfold structK at hl
      rw [e] at hl
      simp only [cond_eq_ite] at hl
      split at hl
      · rename_i hc
        simp only [Bool.and_eq_true, Bool.not_eq_true'] at hc
        exact ⟨fs, e, hl, hc.1⟩
      · cases hl
    · cases h
  · cases h
inductive KeyR (q : KeyK) (k k' : AVal) (t : Bool) : Prop where
  | int (hq : q = .int) (j : IntKind) (a c : Int) (h1 : k = .i j a) (h2 : k' = .i j c) (ht : t = decide (a = c))
  | str (hq : q = .str) (a c : List Nat) (h1 : k = .s a) (h2 : k' = .s c) (ht : t = seq a c)
  | st (ks : List FK) (hq : q = .st ks) (a c : List AVal) (h1 : k = .ag a) (h2 : k' = .ag c) (ht : eqN ks a c = some t)
theorem sameKey_eq {q : KeyK} {k k' : AVal} {t : Bool} (h : sameKey q k k' = some t) : KeyR q k k' t := by
  cases q with
  | int =>
    change ob (asKI k) _ = some t at h
    simp only [ob_eq, asKI_eq] at h
    obtain ⟨a, h1, h⟩ := h
    obtain ⟨c, h2, h3⟩ := ceqI_eq h
    exact .int rfl a.k a.n c h1 h2 h3
  | str =>
    change ob (asS k) _ = some t at h
    simp only [ob_eq, asS_eq] at h
    obtain ⟨a, h1, h⟩ := h
    obtain ⟨c, h2, h3⟩ := ceqS_eq h
    exact .str rfl a c h1 h2 h3
  | st ks =>
    change ob (asAg k) _ = some t at h
    simp only [ob_eq, asAg_eq] at h
    obtain ⟨a, h1, c, h2, h3⟩ := h
    exact .st ks rfl a c h1 h2 h3
/-- a found entry -/
def FR (σ : Sg) (i : Nat) (l : List Entry) (L : List MapEntry) (k : AVal) (q : KeyK) : Option (Nat × Entry) → Option (Nat × Value) → Prop
  | none, none => True
  | some (j, e), some (n, v) => n = i + j ∧ VR σ e.v v ∧ l[j]? = some e ∧ (∃ m, L[j]? = some m ∧ VR σ e.k m.key ∧ m.born = e.born ∧ m.val = v) ∧ sameKey q k e.k = some true
  | _, _ => False
theorem findK_cons {q : KeyK} {k : AVal} {e : Entry} {r : List Entry} {x : Option (Nat × Entry)} (h : findK q k (e :: r) = some x) :
    (sameKey q k e.k = some true ∧ x = some (0, e)) ∨ (sameKey q k e.k = some false ∧ ∃ y, findK q k r = some y ∧ x = y.map fun p => (p.1 + 1, p.2)) := by
  change ob (sameKey q k e.k) (fun t => ifb t (some (some (0, e))) (ob (findK q k r) fun y => some (Option.rec none (fun p => some (Nat.succ p.1, p.2)) y))) = some x at h
  rw [ob_eq] at h
  obtain ⟨t, h1, h2⟩ := h
  cases t with
  | true => cases (show some (some (0, e)) = some x from h2); exact .inl ⟨h1, rfl⟩
  | false =>
    change ob (findK q k r) _ = some x at h2
    rw [ob_eq] at h2
    obtain ⟨y, h3, h4⟩ := h2
    cases h4
    exact .inr ⟨h1, y, h3, by cases y <;> rfl⟩
theorem FR.next {σ : Sg} {i : Nat} {l : List Entry} {L : List MapEntry} {k : AVal} {q : KeyK} {e : Entry} {m : MapEntry} {y : Option (Nat × Entry)} {z : Option (Nat × Value)} (h : FR σ (i + 1) l L k q y z) :
    FR σ i (e :: l) (m :: L) k q (y.map fun p => (p.1 + 1, p.2)) z := by
  cases y with
  | none => cases z with
    | none => trivial
    | some z => exact h.elim
  | some p => cases z with
    | none => exact h.elim
    | some z =>
      obtain ⟨h1, h2, h3, h4, h5⟩ := h
      exact ⟨by omega, h2, by simpa using h3, by simpa using h4, h5⟩
theorem findNow_ok {σ : Sg} {q : KeyK} {kt : TypeId} {d : TypeDesc} {k : AVal} {k' : Value} (hd : P.underlying kt = some d) (hq : keyTy P kt q) (hst : ∀ ks, q ≠ .st ks) (hk : VR σ k k') : ∀ {l : List Entry} {L : List MapEntry} {r : Option (Nat × Entry)} (i : Nat),
    findK q k l = some r → EntRL σ l L → ∃ res, Instr.findNow d k' L i = some res ∧ FR σ i l L k q r res
  | [], L, r, i, h, hl => by
    cases (show some none = some r from h)
    simp only [EntRL] at hl
    subst hl
    exact ⟨none, rfl, trivial⟩
  | e :: rest, L, r, i, h, hl => by
    simp only [EntRL] at hl
    obtain ⟨m, M, rfl, h1, h2, h3, h4⟩ := hl
    have same : ∀ t, sameKey q k e.k = some t → Instr.sameNow d k' m.key = some t := by
      intro t ht
      cases sameKey_eq ht with
      | int hq' j a c e1 e2 e3 =>
        subst hq' e1 e3
        rw [e2] at h1
        rw [VR_i] at hk h1
        obtain ⟨j', hj⟩ := hq
        rw [hd] at hj
        cases hj
        rw [hk, h1]
        simp only [Instr.sameNow, if_true]
        congr 1
      | str hq' a c e1 e2 e3 =>
        subst hq' e1 e3
        rw [e2] at h1
        rw [VR_s] at hk h1
        obtain ⟨p, hp, rfl⟩ := hk
        obtain ⟨p', hp', rfl⟩ := h1
        rw [show P.underlying kt = some .string from hq] at hd
        cases hd
        rw [hp, hp', seq_bytes]
        simp only [Instr.sameNow, beq_toListBytes, toList_data]
      | st ks hq' => exact absurd hq' (hst ks)
    rcases findK_cons h with ⟨e1, rfl⟩ | ⟨e1, y, e2, rfl⟩
    · refine ⟨some (i, m.val), by simp only [Instr.findNow, same _ e1], ?_⟩
      exact ⟨rfl, h2, rfl, ⟨m, rfl, h1, h3, rfl⟩, e1⟩
    · obtain ⟨res, h5, h6⟩ := findNow_ok hd hq hst hk (i + 1) e2 h4
      exact ⟨res, by simp only [Instr.findNow, same _ e1]; exact h5, h6.next⟩
theorem equal_st {σ : Sg} {kt : TypeId} {ks : List FK} {a c : List AVal} {A C : Value} {t : Bool} {w : World} (hq : keyTy P kt (.st ks)) (ha : VR σ (.ag a) A) (hc : VR σ (.ag c) C) (h : eqN ks a c = some t) : (Op.equal kt A C).run P w = .ok t w := by
  obtain ⟨fs, hu, hf, hs⟩ := hq
  simp only [VR] at ha hc
  obtain ⟨xs, rfl, hxs⟩ := ha
  obtain ⟨ys, rfl, hys⟩ := hc
  have hfo : P.fieldsOf kt = fs := by unfold Program.fieldsOf; rw [hu]
  show (Op.equalIn (9999 + 1) kt (.agg xs) (.agg ys)).run P w = .ok t w
  rw [run_equalIn_struct w 9999 kt xs ys (by rw [hfo]; exact hu) hs, hfo]
  exact eqFields_ok 9998 hf (by simpa using hxs) (by simpa using hys) h
theorem findAsking_ok {σ : Sg} {ks : List FK} {kt : TypeId} {k : AVal} {k' : Value} {w : World} (hq : keyTy P kt (.st ks)) (hk : VR σ k k') : ∀ {l : List Entry} {L : List MapEntry} {r : Option (Nat × Entry)} (i : Nat),
    findK (.st ks) k l = some r → EntRL σ l L → ∃ res, (Instr.findAsking kt k' L i).run P w = .ok res w ∧ FR σ i l L k (.st ks) r res
  | [], L, r, i, h, hl => by
    cases (show some none = some r from h)
    simp only [EntRL] at hl
    subst hl
    exact ⟨none, rfl, trivial⟩
  | e :: rest, L, r, i, h, hl => by
    simp only [EntRL] at hl
    obtain ⟨m, M, rfl, h1, h2, h3, h4⟩ := hl
    have same : ∀ t, sameKey (.st ks) k e.k = some t → (Op.equal kt k' m.key).run P w = .ok t w := by
      intro t ht
      cases sameKey_eq ht with
      | int hq' => cases hq'
      | str hq' => cases hq'
      | st ks' hq' a c e1 e2 e3 =>
        cases hq'
        subst e1
        rw [e2] at h1
        exact equal_st hq hk h1 e3
    rcases findK_cons h with ⟨e1, rfl⟩ | ⟨e1, y, e2, rfl⟩
    · refine ⟨some (i, m.val), by simp [Instr.findAsking, same _ e1], ?_⟩
      exact ⟨rfl, h2, rfl, ⟨m, rfl, h1, h3, rfl⟩, e1⟩
    · obtain ⟨res, h5, h6⟩ := findAsking_ok (w := w) hq hk (i + 1) e2 h4
      exact ⟨res, by simp [Instr.findAsking, same _ e1, h5], h6.next⟩
theorem findKey_ok {σ : Sg} {q : KeyK} {kt : TypeId} {k : AVal} {k' : Value} {l : List Entry} {L : List MapEntry} {r : Option (Nat × Entry)} {w : World} (hq : keyTy P kt q) (hk : VR σ k k') (h : findK q k l = some r) (hl : EntRL σ l L) :
    ∃ res, (Instr.findKey kt k' L).run P w = .ok res w ∧ FR σ 0 l L k q r res := by
  cases q with
  | st ks =>
    obtain ⟨fs, hu, hf, hs⟩ := hq
    cases L with
    | nil =>
      cases l with
      | nil =>
        cases (show some none = some r from h)
        exact ⟨none, by simp [Instr.findKey, r_under hu, Instr.findNow], trivial⟩
      | cons e l => simp [EntRL] at hl
    | cons m M =>
      have hn : Instr.findNow (.struct fs) k' (m :: M) 0 = none := by
        simp only [Instr.findNow, Instr.sameNow]
      obtain ⟨res, h5, h6⟩ := findAsking_ok (w := w) ⟨fs, hu, hf, hs⟩ hk 0 h hl
      exact ⟨res, by simp [Instr.findKey, r_under hu, hn, h5], h6⟩
  | int =>
    obtain ⟨j, hu⟩ := hq
    obtain ⟨res, h5, h6⟩ := findNow_ok (q := .int) hu ⟨j, hu⟩ (by simp) hk 0 h hl
    exact ⟨res, by simp [Instr.findKey, r_under hu, h5], h6⟩
  | str =>
    obtain ⟨res, h5, h6⟩ := findNow_ok (P := P) hq hq (by simp) hk 0 h hl
    exact ⟨res, by simp [Instr.findKey, r_under (show P.underlying kt = some .string from hq), h5], h6⟩
end Go.Av


namespace Go.Av
variable [Tok]
variable {P : Program}
theorem VR.cons' {σ : Sg} {a : AVal} {v : Value} {r : List AVal} {q : List Value} (h : VR σ a v) (k : VRL σ r q) : VRL σ (a :: r) (v :: q) := VRL.cons h k
theorem get_map {w : World} {r : Nat} {ms : Array MapEntry} {c : Nat} (h : w.heap[r]? = some (.map ms c)) : (getObj r).run P w = .ok (.map ms c) w := by simp [getObj, Sem.run, h]
theorem set_map {w : World} {r : Nat} {ms : Array MapEntry} {c : Nat} (o : Obj) (h : w.heap[r]? = some (.map ms c)) : (setObj r o).run P w = .ok () { w with heap := w.heap.setIfInBounds r o } := by simp [setObj, Sem.run, h]
theorem eqN_same : ∀ {ks : List FK} {l : List AVal} {t : Bool}, eqN ks l l = some t → t = true
  | [], l, t, h => (eqN_nil h).2.2
  | k :: ks, l, t, h => by
    obtain ⟨x, q, y, r, u, e1, e2, h1, h2⟩ := eqN_cons h
    rw [e1] at e2
    cases e2
    rcases h2 with ⟨_, h2⟩ | ⟨hu, _⟩
    · exact eqN_same h2
    · cases ceqF_eq h1 with
      | int j a c _ ex ey hv => rw [ex] at ey; cases ey; simp at hv; rw [hv] at hu; cases hu
      | bool a c _ ex ey hv => rw [ex] at ey; cases ey; simp at hv; rw [hv] at hu; cases hu
      | str a c _ ex ey hv => rw [ex] at ey; cases ey; rw [seq_eq.2 rfl] at hv; rw [hv] at hu; cases hu
      | tok _ hs => rw [sameT_self hs] at hu; cases hu
/-- basic cells, one of each kind -/
def BasL (P : Program) : List Field → List Value → Prop
  | [], l => l = []
  | f :: r, l => ∃ v q, l = v :: q ∧ (∃ k, basicK P f.type = some k) ∧ BasL P r q
theorem basL_of {σ : Sg} : ∀ {fs : List Field} {n : Nat} {ks : List FK} {xs : List AVal} {X : List Value} {t : Bool}, flatK P fs n = some ks → VRL σ xs X → eqN ks xs xs = some t → BasL P fs X
  | [], n, ks, xs, X, t, h, hX, he => by
    simp only [flatK] at h
    cases h
    obtain ⟨rfl, _⟩ := eqN_nil he
    simp only [VRL] at hX
    exact hX
  | f :: r, n, ks, xs, X, t, h, hX, he => by
    simp only [flatK, cond_eq_ite] at h
    split at h
    · split at h
      · cases h
        rename_i k l hk hl
        obtain ⟨x, q, y, s, u, e1, e2, h1, h2⟩ := eqN_cons he
        rw [e1] at e2
        cases e2
        subst e1
        simp only [VRL] at hX
        obtain ⟨v, V, rfl, hv, hV⟩ := hX
        refine ⟨v, V, rfl, ⟨k, hk⟩, ?_⟩
        rcases h2 with ⟨_, h2⟩ | ⟨hu, _⟩
        · exact basL_of hl hV h2
        · have := eqN_same he
          cases ceqF_eq h1 with
          | int j a c _ ex ey hv => rw [ex] at ey; cases ey; simp at hv; rw [hv] at hu; cases hu
          | bool a c _ ex ey hv => rw [ex] at ey; cases ey; simp at hv; rw [hv] at hu; cases hu
          | str a c _ ex ey hv => rw [ex] at ey; cases ey; rw [seq_eq.2 rfl] at hv; rw [hv] at hu; cases hu
          | tok _ hs => rw [sameT_self hs] at hu; cases hu
      · cases h
    · cases h
theorem check_basic {e : Bool} {n : Nat} {t : TypeId} {v : Value} {w : World} {k : FK} (h : basicK P t = some k) : (Instr.checkKey e (n + 1) t v).run P w = .ok () w := by
  unfold basicK at h
  split at h <;> first | (rename_i hu; simp [Instr.checkKey, r_under hu]) | cases h
theorem flatK_off : ∀ {f : Field} {r : List Field} {n : Nat} {ks : List FK}, flatK P (f :: r) n = some ks → f.offset = n ∧ ∃ ks', flatK P r (n + 1) = some ks'
  | f, r, n, ks, h => by
    simp only [flatK, cond_eq_ite] at h
    split at h
    · rename_i hc
      simp only [Bool.and_eq_true, Nat.beq_eq] at hc
      split at h
      · rename_i hl; exact ⟨hc.2, _, hl⟩
      · cases h
    · cases h
theorem check_fields {e : Bool} {n : Nat} {w : World} {cs : Array Value} : ∀ {fs : List Field} {m : Nat} {ks : List FK}, flatK P fs m = some ks → BasL P fs (cs.toList.drop m) →
    (forIn fs PUnit.unit (fun (f : Field) (_ : PUnit) => (if f.name ≠ "_" then (do Instr.checkKey e (n + 1) f.type (← part f.type cs f.offset); pure (ForInStep.yield PUnit.unit)) else pure (ForInStep.yield PUnit.unit) : Sem (ForInStep PUnit)))).run P w = .ok PUnit.unit w
  | [], m, ks, h, hb => by simp
  | f :: r, m, ks, h, hb => by
    obtain ⟨ho, ks', h'⟩ := flatK_off h
    obtain ⟨v, q, e1, ⟨k, hk⟩, hb'⟩ := hb
    have dv : cs.toList.drop (m + 1) = q := by
      have := congrArg List.tail e1
      simpa using this
    have pv : cs[f.offset]? = some v := by
      rw [ho]
      have := congrArg (fun l => l[0]?) e1
      simpa using this
    have ih := check_fields (e := e) (n := n) (w := w) h' (by rw [dv]; exact hb')
    rw [List.forIn_cons, Sem.run_bind]
    by_cases hc : f.name ≠ "_"
    · rw [if_pos hc]
      simp only [Sem.run_bind, part_false (basicK_agg hk) pv, check_basic hk, Result.andThen_ok, Sem.run_pure]
      exact ih
    · rw [if_neg hc]
      simp only [Sem.run_pure, Result.andThen_ok]
      exact ih
theorem checkKey_ok {σ : Sg} {q : KeyK} {kt : TypeId} {k : AVal} {k' : Value} {e : Bool} {w : World} (hq : keyTy P kt q) (hk : VR σ k k') (h : keyOk q k = true) : (Instr.checkKey e 10000 kt k').run P w = .ok () w := by
  have hs : ∃ t, sameKey q k k = some t := by
    unfold keyOk at h
    cases hs : sameKey q k k with
    | none => rw [hs] at h; cases h
    | some t => exact ⟨t, rfl⟩
  obtain ⟨t, hs⟩ := hs
  show (Instr.checkKey e (9999 + 1) kt k').run P w = .ok () w
  cases q with
  | int => obtain ⟨j, hu⟩ := hq; exact check_basic (k := .int) (by unfold basicK; rw [hu])
  | str => exact check_basic (k := .str) (by unfold basicK; rw [show P.underlying kt = some .string from hq])
  | st ks =>
    obtain ⟨fs, hu, hf, _⟩ := hq
    cases sameKey_eq hs with
    | int hq' => cases hq'
    | str hq' => cases hq'
    | st ks' hq' a c e1 e2 e3 =>
      cases hq'
      subst e1
      cases e2
      simp only [VR] at hk
      obtain ⟨xs, rfl, hxs⟩ := hk
      have hb := basL_of hf hxs e3
      have := check_fields (P := P) (e := e) (n := 9998) (w := w) (cs := xs) hf (by simpa using hb)
      have u : ∀ d, Instr.checkKey e (d + 1) kt (.agg xs) = (do
        match ← underlying kt, (Value.agg xs) with
        | .interface _, .iface d' x =>
          let info ← typeInfo d'
          if !info.comparable then
            if e then runtimePanic (.unhashable d')
            runtimePanic (.error ("hash of unhashable type " ++ (← typeStr d')))
          Instr.checkKey e d d' x
        | .array len elem, .agg cs =>
          for i in [0:len] do Instr.checkKey e d elem (← part elem cs (i * (← sizeOf elem)))
        | .struct fields, .agg cs =>
          for f in fields do
            if f.name ≠ "_" then Instr.checkKey e d f.type (← part f.type cs f.offset)
        | .interface _, .nilIface => pure ()
        | .interface _, _ | .array _ _, _ | .struct _, _ => stuck "map key: not a value of its type"
        | _, _ => pure ()) := fun d => rfl
      rw [u]
      simp only [Sem.run_bind, r_under hu, Result.andThen_ok]
      rw [← Array.forIn_toList]
      simp at this ⊢
      rw [this]; rfl
/-! ### Lookups -/
theorem mapAt_eq {h : Hp} {b : Pos} {x : List Entry × Nat} : mapAt h b = some x ↔ h.get b = some (.map x.1 x.2) := by
  unfold mapAt
  rw [ob_eq]
  constructor
  · rintro ⟨v, hv, e⟩
    cases v with
    | map es c => cases (show some (es, c) = some x from e); exact hv
    | _ => cases (show none = some x from e)
  · intro hv; exact ⟨_, hv, rfl⟩
theorem Sim.map {σ : Sg} {h : Hp} {w : World} (s : Sim σ h w) {b : Pos} {I : BI} (hI : σ b = some I) {x : List Entry × Nat} (hx : mapAt h b = some x) : ∃ ms, w.heap[I.cb]? = some (.map ms x.2) ∧ EntRL σ x.1 ms.toList := by
  obtain ⟨J, hJ, hR⟩ := s.blk b _ (mapAt_eq.1 hx)
  rw [hI] at hJ; cases hJ
  exact hR
theorem EntRL.length {σ : Sg} : ∀ {l : List Entry} {m : List MapEntry}, EntRL σ l m → m.length = l.length
  | [], _, h => by simp only [EntRL] at h; subst h; rfl
  | _ :: r, _, h => by simp only [EntRL] at h; obtain ⟨m, q, rfl, _, _, _, h4⟩ := h; simp [h4.length]
theorem entriesA_ok {σ : Sg} {h : Hp} {w : World} (s : Sim σ h w) {m : AVal} {es : List Entry} {v : Value} (he : entriesA h m = some es) (hv : VR σ m v) :
    (v = .map none ∧ es = []) ∨ ∃ r ms c, v = .map (some r) ∧ w.heap[r]? = some (.map ms c) ∧ EntRL σ es ms.toList := by
  unfold entriesA at he
  rw [ob_eq] at he
  obtain ⟨o, h1, h2⟩ := he
  rw [asMp_eq] at h1
  subst h1
  cases o with
  | none =>
    cases (show some [] = some es from h2)
    simp only [VR] at hv
    exact .inl ⟨hv, rfl⟩
  | some b =>
    change ob (mapAt h b) (fun x => some x.1) = some es at h2
    rw [ob_eq] at h2
    obtain ⟨x, h3, h4⟩ := h2
    cases h4
    simp only [VR] at hv
    obtain ⟨I, hI, hv⟩ := hv
    obtain ⟨ms, h5, h6⟩ := s.map hI h3
    exact .inr ⟨_, ms, _, hv, h5, h6⟩
section
variable {o : Oper} {t : TypeId} {x ix : Operand} {x' ix' : AOpd}
theorem read_lenMap {c : Call} {k e : TypeId} (ho : o.op = .call c) (hb : c.callee = .builtin .len) (ht : c.argTypes = #[t]) (hxs : c.args = #[x]) (hu : P.underlying t = some (.map k e)) (hx : co P x = some x') :
    ReadS P o fun f h => kLenMap f h x' := by
  intro σ N f ac h w v hf hg s e'
  simp only [kLenMap, ob_eq, lenR_eq] at e'
  obtain ⟨es, e1, e2⟩ := e'
  cases e2
  have hv := co_ok hx hf hg
  refine ⟨.int .i64 (Int.ofNat es.length), exec_blt ho hb hxs ?_, VR_ii⟩
  rcases entriesA_ok s e1 hv with ⟨h1, rfl⟩ | ⟨r, ms, c', h1, h2, h3⟩
  · simp [builtin, Builtin.len_, ht, r_under hu, h1, goInt]
  · have := h3.length
    simp at this
    simp [builtin, Builtin.len_, ht, r_under hu, h1, goInt, get_map h2, this]
theorem read_lookup {k e : TypeId} {q : KeyK} {z : AVal} {ok : Bool} (ho : o.op = .lookup t x ix ok) (hu : P.underlying t = some (.map k e)) (hk : keyK P k = some q) (hz : zeroK P e = some z) (hx : co P x = some x') (hix : co P ix = some ix') :
    ReadS P o fun f h => kLookup f h q z ok x' ix' := by
  intro σ N f ac h w v hf hg s e'
  simp only [kLookup, ob_eq, ifb_eq] at e'
  obtain ⟨es, e1, e2, r, e3, e4⟩ := e'
  have hv := co_ok hx hf hg
  have hi := co_ok hix hf hg
  have hq := keyK_ty hk
  obtain ⟨i, Z, h1, h2, h3⟩ := zeroK_eq hz
  have hZ : VR σ z Z := cv_ok h3
  have hck : ∀ b, (Instr.checkKey b 10000 k (ac.eval ix)).run P w = .ok () w := fun b => checkKey_ok hq hi e2
  have key : ∀ (L : List MapEntry), EntRL σ es L → ∃ res y, (Instr.findKey k (ac.eval ix) L).run P w = .ok res w ∧ (match res with | some (_, v) => y = (v, true) | none => y = (Z, false)) ∧
      VR σ v (if ok then .tuple #[y.1, .bool y.2] else y.1) := by
    intro L hL
    obtain ⟨res, h5, h6⟩ := findKey_ok (w := w) hq hi e3 hL
    cases r with
    | none =>
      cases res with
      | none =>
        refine ⟨none, (Z, false), h5, rfl, ?_⟩
        cases ok with
        | true => cases (show some (AVal.tu [z, .b false]) = some v from e4); simp only [if_true, VR]; exact ⟨_, rfl, hZ.cons' (VR_bb.cons' .nil)⟩
        | false => cases (show some z = some v from e4); exact hZ
      | some p => exact h6.elim
    | some p => cases res with
      | none => exact h6.elim
      | some n =>
        obtain ⟨_, h7, _⟩ := h6
        refine ⟨some n, (n.2, true), h5, rfl, ?_⟩
        cases ok with
        | true => cases (show some (AVal.tu [p.2.v, .b true]) = some v from e4); simp only [if_true, VR]; exact ⟨_, rfl, h7.cons' (VR_bb.cons' .nil)⟩
        | false => cases (show some p.2.v = some v from e4); exact h7
  rcases entriesA_ok s e1 hv with ⟨h4, rfl⟩ | ⟨r', ms, c', h4, h5, h6⟩
  · obtain ⟨res, y, h7, h8, h9⟩ := key [] rfl
    refine ⟨_, ?_, h9⟩
    cases res with
    | none => subst h8; simp [execOp, ho, Instr.lookup, r_under hu, h4, hck, h7, r_zero h1 h2]
    | some n => obtain ⟨n, v'⟩ := n; subst h8; simp [execOp, ho, Instr.lookup, r_under hu, h4, hck, h7]
  · obtain ⟨res, y, h7, h8, h9⟩ := key ms.toList h6
    refine ⟨_, ?_, h9⟩
    cases res with
    | none => subst h8; simp [execOp, ho, Instr.lookup, r_under hu, h4, get_map h5, hck, h7, r_zero h1 h2]
    | some n => obtain ⟨n, v'⟩ := n; subst h8; simp [execOp, ho, Instr.lookup, r_under hu, h4, get_map h5, hck, h7]
end
end Go.Av


namespace Go.Av
variable [Tok]
variable {P : Program}
/-! ### What is told of an operation that makes a block -/
def MakeS (P : Program) (o : Oper) (g : Fr → Pos → Option Made) : Prop :=
  ∀ (σ : Sg) (N : Nat) (f : Fr) (ac : Act) (b : Pos) (w : World) (m : Made), FrR σ N f ac.tmps → GlobR P σ → g f b = some m →
    ∃ v' w' I, (execOp ac.eval o).run P w = .ok (.value v') w' ∧ I.cb = w.heap.size ∧ w'.heap.size = w.heap.size + 1 ∧ (∀ k, k < w.heap.size → w'.heap[k]? = w.heap[k]?) ∧ Wsame w w' ∧
      (∀ c, m.2 = .cells c → c.stale = []) ∧ ∀ τ : Sg, σ.le τ → τ b = some I → VR τ m.1 v' ∧ BlkR τ w'.heap[I.cb]? I m.2
theorem push_lt (w : World) (o : Obj) (k : Nat) (hk : k < w.heap.size) : ({ w with heap := w.heap.push o } : World).heap[k]? = w.heap[k]? := by
  simp [Array.getElem?_push, Nat.ne_of_lt hk]
theorem push_at (w : World) (o : Obj) : ({ w with heap := w.heap.push o } : World).heap[w.heap.size]? = some o := by simp
theorem cells_blk {σ τ : Sg} (h : σ.le τ) {vs : List AVal} {arr : Array Value} {el : TypeId} {n : Nat} (hv : VRL σ vs arr.toList) : BlkR τ (some (.cells arr el (0, 0))) ⟨n, 0, vs.length, arr.size⟩ (mCells vs) := by
  have hl := hv.length
  simp only [Array.length_toList] at hl
  refine ⟨arr, el, (0, 0), rfl, rfl, rfl, by simp; omega, ?_, fun _ j _ => by simp⟩
  have : (arr.toList.drop 0).take vs.length = arr.toList := by
    rw [List.drop_zero, ← hl]; simp [List.take_of_length_le]
  rw [this]; exact VRL.mono h _ _ hv
section
variable {o : Oper} {t : TypeId} {x : Operand} {x' : AOpd}
/-- a row that is made whole -/
theorem make_row {σ : Sg} {w : World} {b : Pos} {ac : Act} {vs : List AVal} {arr : Array Value} {el : TypeId} (hv : VRL σ vs arr.toList) (v : AVal) (v' : Value)
    (hr : (execOp ac.eval o).run P w = .ok (.value v') { w with heap := w.heap.push (.cells arr el) }) (hvv : ∀ τ : Sg, σ.le τ → τ b = some ⟨w.heap.size, 0, vs.length, arr.size⟩ → VR τ v v') :
    ∃ v' w' I, (execOp ac.eval o).run P w = .ok (.value v') w' ∧ I.cb = w.heap.size ∧ w'.heap.size = w.heap.size + 1 ∧ (∀ k, k < w.heap.size → w'.heap[k]? = w.heap[k]?) ∧ Wsame w w' ∧
      (∀ c, (mCells vs) = .cells c → c.stale = []) ∧ ∀ τ : Sg, σ.le τ → τ b = some I → VR τ v v' ∧ BlkR τ w'.heap[I.cb]? I (mCells vs) := by
  refine ⟨v', _, ⟨w.heap.size, 0, vs.length, arr.size⟩, hr, rfl, by simp, fun k hk => push_lt w _ k hk, ⟨rfl, rfl, rfl⟩, fun c e => by cases e; rfl, fun τ hτ hb => ⟨hvv τ hτ hb, ?_⟩⟩
  rw [push_at]; exact cells_blk hτ hv
theorem ptr_vr {τ : Sg} {b : Pos} {I : BI} (h : τ b = some I) (hc : I.co = 0) : VR τ (.p (some (b, 0))) (.pointer (some ⟨I.cb, 0, none⟩)) := by
  rw [VR_p_some]; exact ⟨I, h, by simp [hc]⟩
theorem make_alloc {z : AVal} (ho : o.op = .alloc t) (hz : zeroK P t = some z) : MakeS P o fun _ b => kAlloc b z.cells := by
  intro σ N f ac b w m hf hg e
  cases e
  obtain ⟨i, Z, h1, h2, h3⟩ := zeroK_eq hz
  exact make_row (el := t) (cv_ok h3).cells _ (.pointer (some ⟨w.heap.size, 0, none⟩)) (by simp [execOp, ho, Instr.alloc, r_zero h1 h2, newVar, Go.newRow]) (fun τ _ hb => ptr_vr hb rfl)
theorem make_box (ho : o.op = .box t x) (hx : co P x = some x') : MakeS P o fun f b => kBox f b x' := by
  intro σ N f ac b w m hf hg e
  cases e
  exact make_row (el := t) (co_ok hx hf hg).cells _ (.pointer (some ⟨w.heap.size, 0, none⟩)) (by simp [execOp, ho, Instr.box, newVar, Go.newRow]) (fun τ _ hb => ptr_vr hb rfl)
theorem VRL_rep {σ : Sg} {z : List AVal} {Z : List Value} (h : VRL σ z Z) : ∀ n, VRL σ (repR z n) ((List.range n).flatMap fun _ => Z)
  | 0 => VRL.nil
  | n + 1 => by
    rw [repR_succ, List.range_succ_eq_map, List.flatMap_cons]
    refine VRL.append h ?_
    rw [List.flatMap_map]
    exact VRL_rep h n
theorem zeros_list (Z : Array Value) : ∀ n, (((Array.range (n * Z.size)).map (Z[· % Z.size]!)).toList) = (List.range n).flatMap fun _ => Z.toList
  | 0 => by simp
  | n + 1 => by
    have ih := zeros_list Z n
    rw [List.range_succ, List.flatMap_append, ← ih]
    apply List.ext_getElem?
    intro j
    simp only [Array.toList_map, Array.toList_range, List.flatMap_cons, List.flatMap_nil, List.append_nil, List.getElem?_append, List.length_map, List.length_range, List.getElem?_map, Array.getElem?_toList]
    rw [Nat.succ_mul]
    by_cases h0 : Z.size = 0
    · simp [h0]
    · split
      · rename_i h
        rw [List.getElem?_range (by omega), List.getElem?_range h]
      · rename_i h
        by_cases h2 : j < n * Z.size + Z.size
        · rw [List.getElem?_range h2]
          have hm : j % Z.size = j - n * Z.size := by
            have : j = (j - n * Z.size) + n * Z.size := by omega
            rw [this, Nat.add_mul_mod_self_right, Nat.mod_eq_of_lt (by omega)]
            omega
          simp only [Option.map_some, hm]
          rw [getElem!_pos Z _ (by omega), Array.getElem?_eq_getElem (by omega)]
        · rw [List.getElem?_eq_none (by simp; omega), Array.getElem?_eq_none (by omega)]
          rfl
theorem zero_row (k : Nat) (Z : Array Value) : ((Array.range k).map ((if k = 0 then #[] else Z)[· % (if k = 0 then #[] else Z).size]!)) = (Array.range k).map (Z[· % Z.size]!) := by
  by_cases h : k = 0
  · subst h; apply Array.ext <;> simp
  · simp only [if_neg h]
theorem cells_length {σ : Sg} {z : AVal} {Z : Value} (h : VR σ z Z) : Z.cells.size = z.cells.length := by have := h.cells.length; simpa using this
theorem make_buildSl {ps : Array (Nat × Operand)} {len n m : Nat} {e : TypeId} {z : AVal} {l : List Part} (ho : o.op = .buildSlice t len ps) (hu : P.underlying t = some (.slice e)) (hi : infoK P e = some (n, m)) (hz : zeroK P e = some z)
    (hl : partsK P (fun i => some (i * n, n)) ps.toList = some l) (hs : len * n ≤ 16777216) (hzn : z.cells.length = n) (hn : 0 < n) : MakeS P o fun f b => kBuildSl f b (repR z.cells len) len l := by
  intro σ N f ac b w m' hf hg e'
  simp only [kBuildSl, ob_eq] at e'
  obtain ⟨q, hq, e'⟩ := e'
  cases e'
  obtain ⟨i, Z, h1, h2, h3⟩ := zeroK_eq hz
  obtain ⟨j, h4, h5, _⟩ := infoK_eq hi
  have hZ : VR σ z Z := cv_ok h3
  have hZs := cells_length hZ
  have hrep := VRL_rep hZ.cells len
  rw [← zeros_list] at hrep
  rw [hZs, hzn] at hrep
  obtain ⟨L, hL, hv⟩ := fill_ok hf hg hl hq hrep
  refine make_row (el := e) hv _ (.slice (some ⟨w.heap.size, 0, none⟩) len len) ?_ (fun τ _ hb => ?_)
  · by_cases h0 : len * n = 0
    · have hA : ∀ g : Nat → Value, (Array.range (len * n)).map g = #[] := fun g => by rw [h0]; simp
      rw [hA] at hL
      have hL2 : Instr.fill (fun i => some (i * n, n)) #[] (List.map (fun x => (x.fst, ac.eval x.snd)) ps.toList) = some L := hL
      have h01 : len = 0 ∨ n = 0 := by rcases Nat.mul_eq_zero.1 h0 with h | h <;> simp [h]
      rw [Nat.mul_eq_zero] at h0
      simp only [execOp, ho, Instr.buildSlice, Sem.run_bind, r_under hu, Result.andThen_ok, r_sizeOf h4, h5]
      rw [if_neg (by omega), if_pos (Nat.mul_eq_zero.2 h01)]
      simp only [Sem.run_bind, Sem.run_pure, Result.andThen_ok, hA, Array.toList_map, hL2]
      simp [Go.newRow]
    · have hL2 : Instr.fill (fun i => some (i * n, n)) ((Array.range (len * n)).map (Z.cells[· % Z.cells.size]!)) (List.map (fun x => (x.fst, ac.eval x.snd)) ps.toList) = some L := by rw [hZs, hzn]; exact hL
      simp only [execOp, ho, Instr.buildSlice, Sem.run_bind, r_under hu, Result.andThen_ok, r_sizeOf h4, h5]
      rw [if_neg (by omega), if_neg h0]
      simp only [Sem.run_bind, r_zero h1 h2, Sem.run_pure, Result.andThen_ok, Array.toList_map, hL2]
      simp [Go.newRow]
  · rw [VR_sl_some]
    exact ⟨_, _, _, hb, rfl, Nat.le_refl _, .inl ⟨by simp, .inl rfl⟩⟩
theorem make_map {t : TypeId} (ho : o.op = .makeMap t none) : MakeS P o fun _ b => kMkMap b := by
  intro σ N f ac b w m hf hg e
  cases e
  refine ⟨.map (some w.heap.size), { w with heap := w.heap.push (.map #[] 0) }, ⟨w.heap.size, 0, 0, 0⟩, ?_, rfl, by simp, fun k hk => push_lt w _ k hk, ⟨rfl, rfl, rfl⟩, (fun c e => nomatch e), fun τ _ hb => ⟨?_, ?_⟩⟩
  · simp [execOp, ho, Instr.makeMap]
  · simp only [VR]; exact ⟨_, hb, rfl⟩
  · rw [push_at]; exact ⟨_, rfl, rfl⟩
theorem make_range (ho : o.op = .range t x) (hu : P.underlying t = some .string) (hx : co P x = some x') : MakeS P o fun f b => kRange f b x' := by
  intro σ N f ac b w m hf hg e
  simp only [kRange, ob_eq, asS_eq] at e
  obtain ⟨l, e1, e⟩ := e
  cases e
  have hv := co_ok hx hf hg
  rw [e1, VR_s] at hv
  obtain ⟨p, hv, hp⟩ := hv
  refine ⟨.pointer (some ⟨w.heap.size, 0, none⟩), { w with heap := w.heap.push (.stringIter p 0) }, ⟨w.heap.size, 0, 0, 0⟩, ?_, rfl, by simp, fun k hk => push_lt w _ k hk, ⟨rfl, rfl, rfl⟩, (fun c e => nomatch e), fun τ _ hb => ⟨ptr_vr hb rfl, ?_⟩⟩
  · simp [execOp, ho, Instr.range, r_under hu, hv]
  · rw [push_at]; exact ⟨_, rfl, hp, rfl⟩
theorem make_slice {l c : Operand} {l' c' : AOpd} {n m : Nat} {e : TypeId} {z : AVal} (ho : o.op = .makeSlice t l c) (hu : P.underlying t = some (.slice e)) (hi : infoK P e = some (n, m)) (hz : zeroK P e = some z)
    (hzn : z.cells.length = n) (hn : 0 < n) (hl : co P l = some l') (hc : co P c = some c') : MakeS P o fun f b => kMkSl f b z.cells m l' c' := by
  intro σ N f ac b w m' hf hg e'
  simp only [kMkSl, ob_eq, asI_eq, natOf_eq, ifb_eq] at e'
  obtain ⟨ci, ⟨k1, e1⟩, cn, ⟨rfl, hc1⟩, li, ⟨k2, e2⟩, ln, ⟨rfl, hl1⟩, hb1, e3⟩ := e'
  cases e3
  have h1 := co_ok hl hf hg; rw [e2, VR_i] at h1
  have h2 := co_ok hc hf hg; rw [e1, VR_i] at h2
  obtain ⟨i, Z, h3, h4, h5⟩ := zeroK_eq hz
  obtain ⟨j, h6, h7, h8⟩ := infoK_eq hi
  have hij : i = j := by rw [h3] at h6; cases h6; rfl
  subst hij
  have hZ : VR σ z Z := cv_ok h5
  have hZs := cells_length hZ
  have hrep := VRL_rep hZ.cells cn
  rw [← zeros_list] at hrep
  rw [hZs, hzn] at hrep
  have hb2 := Nat.le_of_ble_eq_true hb1
  simp only [Nat.mul_eq] at hb2
  have w1 : IntKind.i64.wrap (cn : Int) = cn := by
    unfold IntKind.wrap
    simp only [IntKind.bits, IntKind.signed, ge_iff_le]
    rw [Int.emod_eq_of_lt (by omega) (by omega)]
    simp; omega
  have w2 : IntKind.i64.wrap (ln : Int) = ln := by
    unfold IntKind.wrap
    simp only [IntKind.bits, IntKind.signed, ge_iff_le]
    rw [Int.emod_eq_of_lt (by omega) (by omega)]
    simp; omega
  refine make_row (el := e) hrep _ (.slice (some ⟨w.heap.size, 0, none⟩) ln cn) ?_ (fun τ _ hb => ?_)
  · have htl : (decide ((cn : Int) < 0) || decide ((i.bytes : Int) * (cn : Int) > 2 ^ 48)) = false := by
      have : (i.bytes : Int) * (cn : Int) = ((cn * m : Nat) : Int) := by rw [h8, Int.natCast_mul, Int.mul_comm]
      rw [this]
      simp; omega
    simp only [execOp, ho, Instr.makeSlice, Sem.run_bind, r_under hu, Result.andThen_ok, h1, h2, asInt, asIntOf, Sem.run_pure, r_typeInfo h6, w1, w2, Int.toNat_natCast, r_sizeOf h6, h7]
    rw [if_neg (by rw [htl]; simp; omega)]
    simp only [Sem.run_bind, run_askRoom, Result.andThen_ok, r_sizeOf h6, h7]
    by_cases h0 : cn * n = 0
    · have hA : ∀ g : Nat → Value, (Array.range (cn * n)).map g = #[] := fun g => by rw [h0]; simp
      rw [if_pos h0]
      simp only [Sem.run_bind, Sem.run_pure, Result.andThen_ok, hA]
      simp [Go.newRow]
    · rw [if_neg h0]
      simp only [Sem.run_bind, r_zero h3 h4, Sem.run_pure, Result.andThen_ok, hZs, hzn]
      simp [Go.newRow]
  · rw [VR_sl_some]
    exact ⟨_, _, _, hb, rfl, hl1, .inl ⟨by simp, .inl rfl⟩⟩
theorem bytesL {σ : Sg} : ∀ bs : List UInt8, VRL σ (ofBytes (bs.map UInt8.toNat)) (bs.map fun c => Value.int .u8 (c.toNat : Int))
  | [] => VRL.nil
  | c :: r => VRL.cons (show VR σ (.i .u8 (Int.ofNat c.toNat)) _ from VR_ii) (bytesL r)
theorem make_bytes {s d e : TypeId} (ho : o.op = .convert s d x) (hs : P.underlying s = some .string) (hd : P.underlying d = some (.slice e)) (he : P.underlying e = some (.int .u8)) (hx : co P x = some x') : MakeS P o fun f b => kToBytes f b x' := by
  intro σ N f ac b w m hf hg e'
  simp only [kToBytes, ob_eq, asS_eq, lenR_eq] at e'
  obtain ⟨l, e1, e'⟩ := e'
  cases e'
  have hv := co_ok hx hf hg
  rw [e1, VR_s] at hv
  obtain ⟨p, hv, rfl⟩ := hv
  obtain ⟨cap, hcap, hq⟩ : ∃ cap, p.size ≤ cap ∧ (Question.appendCap p.size 0 e).cut (w.tape w.drawn (.appendCap p.size 0 e)) = cap := ⟨_, Nat.le_add_right _ _, rfl⟩
  let arr : Array Value := p.data.map (fun b => .int .u8 b.toNat) ++ Array.replicate (cap - p.size) (.int .u8 0)
  have hsz : arr.size = cap := by
    simp only [arr, Array.size_append, Array.size_map, Array.size_replicate]
    have : p.data.size = p.size := rfl
    omega
  have hlen : (p.data.toList.map UInt8.toNat).length = p.size := by rw [List.length_map, Array.length_toList]; rfl
  have hrun : (execOp ac.eval o).run P w = .ok (.value (.slice (some ⟨w.heap.size, 0, none⟩) p.size cap)) { w with drawn := w.drawn + 1, heap := w.heap.push (.cells arr e (cap, cap + 1)) } := by
    simp only [execOp, ho, convert, Sem.run_bind, r_under hs, r_under hd, r_under he, hv, Result.andThen_ok, Conv.stringToBytes, run_choose]
    rw [if_neg (by simp [Question.forced])]
    simp only [Result.andThen_ok, hq, Go.newRow, Sem.run_bind, run_newObj, Sem.run_pure, markStringish, run_shape]
    have hsh : ({ w with drawn := w.drawn + 1, heap := w.heap.push (.cells arr e) } : World).shape? w.heap.size = some (e, cap) := by
      simp [World.shape?, hsz]
    change Result.andThen (Result.andThen ((match ({ w with drawn := w.drawn + 1, heap := w.heap.push (.cells arr e) } : World).shape? w.heap.size with | some (_, n) => freeze { block := w.heap.size, off := n } 1 | _ => pure ()).run P _) _) _ = _
    rw [hsh]
    simp only [run_freeze, Result.andThen_ok, World.freeze]
    rw [if_neg (by simp)]
    congr 2
    apply Array.ext_getElem?
    intro j
    simp only [Array.getElem?_modify, Array.getElem?_push]
    by_cases hj : w.heap.size = j
    · subst hj; simp; rfl
    · rw [if_neg hj, if_neg (fun h => hj h.symm), if_neg (fun h => hj h.symm)]
  refine ⟨_, _, ⟨w.heap.size, 0, p.size, cap⟩, hrun, rfl, by simp, fun k hk => by simp [Array.getElem?_push, Nat.ne_of_lt hk], ⟨rfl, rfl, rfl⟩, (fun c e => by cases e; rfl), fun τ hτ hb => ⟨?_, ?_⟩⟩
  · show VR τ (.sl (some (b, 0)) _ _ 1) _
    rw [VR_sl_some, hlen]
    exact ⟨_, _, _, hb, rfl, Nat.le_refl _, .inl ⟨by simp, .inr ⟨by omega, by simp, hcap, by simp⟩⟩⟩
  · have hat : ({ w with drawn := w.drawn + 1, heap := w.heap.push (.cells arr e (cap, cap + 1)) } : World).heap[w.heap.size]? = some (.cells arr e (cap, cap + 1)) := by simp
    rw [hat]
    refine ⟨arr, e, (cap, cap + 1), rfl, ?_, hsz.symm, ?_, ?_, fun _ j hj => by simp; omega⟩
    · show p.size = (ofBytes _).length
      simp only [ofBytes, mapR_eq, List.length_map]; simp
    · show 0 + p.size ≤ arr.size
      omega
    · have : (arr.toList.drop 0).take p.size = p.data.toList.map fun c => Value.int .u8 (c.toNat : Int) := by
        simp only [arr, List.drop_zero, Array.toList_append, Array.toList_map]
        rw [List.take_append_of_le_length (by simp)]
        rw [List.take_of_length_le (by simp)]
      show VRL τ _ ((arr.toList.drop 0).take p.size)
      rw [this]
      exact bytesL _
end
end Go.Av


namespace Go.Av
variable [Tok]
variable {P : Program}
/-! ### What is told of an operation that may turn the heap -/
def TurnR (P : Program) (run : World → Result Next) (σ : Sg) (h : Hp) (w : World) : Nx → Prop
  | .val v h' => ∃ r v' w' σ', run w = .ok r w' ∧ (r = .value v' ∨ (r = .skip ∧ v' = undef)) ∧ VR σ' v v' ∧ Sim σ' h' w' ∧ Step σ h w σ' h' w'
  | .enter k args => ∃ args' : Array Value, run w = (callFunc k args').run P w ∧ VRL σ args args'.toList
  | .round l args => ∃ (args' : Array Value) (I : BI), σ l = some I ∧ run w = (Instr.yield I.cb args').run P w ∧ VRL σ args args'.toList
def TurnS (P : Program) (o : Oper) (g : Fr → Hp → Option Nx) : Prop :=
  ∀ (σ : Sg) (N : Nat) (f : Fr) (ac : Act) (h : Hp) (w : World) (n : Nx), FrR σ N f ac.tmps → GlobR P σ → Sim σ h w → g f h = some n → TurnR P (fun w => (execOp ac.eval o).run P w) σ h w n
section
variable {o : Oper} {t : TypeId} {x y z : Operand} {x' y' z' : AOpd}
theorem turn_store {n m : Nat} (ho : o.op = .store t x y) (hi : infoK P t = some (n, m)) (hx : co P x = some x') (hy : co P y = some y') : TurnS P o fun f h => kStore f h n x' y' := by
  intro σ N f ac h w nx hf hg s e
  simp only [kStore, ob_eq, asP_eq, ifb_eq, Nat.beq_eq, lenR_eq] at e
  obtain ⟨a, e1, hn, h', e2, e3⟩ := e
  cases e3
  have hv := co_ok hx hf hg
  rw [e1, VR_p_some] at hv
  obtain ⟨I, hI, hv⟩ := hv
  have hc := (co_ok hy hf hg).cells
  obtain ⟨w', r1, r2, r3⟩ := s.write (P := P) hI e2 hc
  obtain ⟨i, h7, h8, _⟩ := infoK_eq hi
  have hlen := hc.length
  refine ⟨.skip, undef, w', σ, ?_, .inr ⟨rfl, rfl⟩, VR_undef, r2, r3⟩
  simp only [Array.length_toList] at hlen
  simp [execOp, ho, Instr.storeAt, hv, Instr.sureAddr, storeVar, r_sizeOf h7, h8, hlen, hn, r1]
theorem layR_one {α : Type} {e : α} {j : Nat} {l q : List α} (h : layR [e] j l = some q) : j < l.length ∧ q = l.set j e := by
  rw [layR_eq] at h
  obtain ⟨h1, h2⟩ := h
  simp only [List.length_singleton] at h1 h2
  refine ⟨by omega, ?_⟩
  rw [h2, List.set_eq_take_append_cons_drop, if_pos (by omega)]
  simp
theorem EntRL.set {σ : Sg} : ∀ {l : List Entry} {L : List MapEntry} {j : Nat} {e : Entry} {m : MapEntry}, EntRL σ l L → VR σ e.k m.key → VR σ e.v m.val → m.born = e.born → EntRL σ (l.set j e) (L.set j m)
  | [], L, j, e, m, h, _, _, _ => by simp only [EntRL] at h; subst h; simp [EntRL]
  | x :: r, L, 0, e, m, h, h1, h2, h3 => by
    simp only [EntRL] at h
    obtain ⟨m', q, rfl, _, _, _, h4⟩ := h
    exact ⟨m, q, rfl, h1, h2, h3, h4⟩
  | x :: r, L, j + 1, e, m, h, h1, h2, h3 => by
    simp only [EntRL] at h
    obtain ⟨m', q, rfl, g1, g2, g3, h4⟩ := h
    exact ⟨m', q.set j m, rfl, g1, g2, g3, h4.set h1 h2 h3⟩
theorem EntRL.push {σ : Sg} {e : Entry} {m : MapEntry} (h1 : VR σ e.k m.key) (h2 : VR σ e.v m.val) (h3 : m.born = e.born) : ∀ {l : List Entry} {L : List MapEntry}, EntRL σ l L → EntRL σ (l ++ [e]) (L ++ [m])
  | [], L, h => by simp only [EntRL] at h; subst h; exact ⟨m, [], rfl, h1, h2, h3, rfl⟩
  | x :: r, L, h => by
    simp only [EntRL] at h
    obtain ⟨m', q, rfl, g1, g2, g3, h4⟩ := h
    exact ⟨m', q ++ [m], rfl, g1, g2, g3, EntRL.push h1 h2 h3 h4⟩
theorem modify_set {α : Type} {l : List α} {j : Nat} {m : α} (g : α → α) (h : l[j]? = some m) : l.modify j g = l.set j (g m) := by
  apply List.ext_getElem?
  intro i
  rw [List.getElem?_modify, List.getElem?_set]
  have hj : j < l.length := (List.getElem?_eq_some_iff.1 h).1
  by_cases e : j = i
  · subst e; simp [hj, (List.getElem?_eq_some_iff.1 h).2]
  · simp [e]
/-- a map's block is turned -/
theorem Sim.setMap {σ : Sg} {h : Hp} {w : World} (s : Sim σ h w) {b : Pos} {I : BI} (hI : σ b = some I) {x : List Entry × Nat} (hx : mapAt h b = some x) {es : List Entry} {c : Nat} {ms : Array MapEntry} (hr : EntRL σ es ms.toList) :
    Sim σ (h.put b (.map es c)) { w with heap := w.heap.setIfInBounds I.cb (.map ms c) } ∧ Step σ h w σ (h.put b (.map es c)) { w with heap := w.heap.setIfInBounds I.cb (.map ms c) } := by
  have hlt := s.bound b I hI
  refine s.upd (st := []) (mapAt_eq.1 hx) trivial hI (fun c e => nomatch e) (x0' := .map es c) (fun c e => nomatch e) rfl (fun d => ?_) (fun d hd => nomatch hd) (by simp) (fun k hk => ?_) ⟨rfl, rfl, rfl⟩ ⟨ms, ?_, hr⟩
  · by_cases e : d = b
    · subst e; rw [Hp.get_put_same, if_pos rfl]
    · rw [Hp.get_put_other _ _ _ _ e, if_neg e]; simp
  · simp [Array.getElem?_setIfInBounds_ne (Ne.symm hk)]
  · simp [hlt]
theorem bits_eqN : ∀ {ks : List FK} {σ : Sg} {a c : List AVal} {A C : List Value}, eqN ks a c = some true → VRL σ a A → VRL σ c C → A.length = C.length ∧ (C.zip A).all (fun (x, y) => Instr.sameBits 9999 x y) = true
  | [], σ, a, c, A, C, h, hA, hC => by
    obtain ⟨rfl, rfl, _⟩ := eqN_nil h
    simp only [VRL] at hA hC
    subst hA hC
    simp
  | k :: ks, σ, a, c, A, C, h, hA, hC => by
    obtain ⟨x, q, y, r, t, rfl, rfl, h1, h2⟩ := eqN_cons h
    simp only [VRL] at hA hC
    obtain ⟨x', q', rfl, hx, hq⟩ := hA
    obtain ⟨y', r', rfl, hy, hr⟩ := hC
    rcases h2 with ⟨rfl, h2⟩ | ⟨_, h2⟩
    · obtain ⟨g1, g2⟩ := bits_eqN h2 hq hr
      refine ⟨by simp [g1], ?_⟩
      simp only [List.zip_cons_cons, List.all_cons, g2, Bool.and_true]
      cases ceqF_eq h1 with
      | int j a c _ ex ey hv =>
        subst ex ey
        rw [VR_i] at hx hy; subst hx hy
        have : a = c := by simpa using hv.symm
        subst this
        simp [Instr.sameBits]
      | bool a c _ ex ey hv =>
        subst ex ey
        rw [VR_b] at hx hy; subst hx hy
        have : a = c := by simpa using hv.symm
        subst this
        simp [Instr.sameBits]
      | str a c _ ex ey hv =>
        subst ex ey
        rw [VR_s] at hx hy
        obtain ⟨p, rfl, rfl⟩ := hx
        obtain ⟨p', rfl, rfl⟩ := hy
        rw [seq_bytes] at hv
        have hpp : p.data.toList = p'.data.toList := by simpa using hv.symm
        simp only [Instr.sameBits, beq_toListBytes, toList_data, hpp]
        simp
      | tok _ hs =>
        obtain ⟨j, n, m, rfl, rfl, hv⟩ := sameT_ok hs hx hy
        have : n = m := by simpa using hv.symm
        subst this
        simp [Instr.sameBits]
    · cases h2
theorem sameBits_ok {σ : Sg} {q : KeyK} {k e : AVal} {k' m : Value} (h : sameKey q k e = some true) (hk : VR σ k k') (he : VR σ e m) : Instr.sameBits 10000 m k' = true := by
  cases sameKey_eq h with
  | int hq j a c h1 h2 ht =>
    subst h1 h2
    rw [VR_i] at hk he; subst hk he
    have : a = c := by simpa using ht.symm
    subst this
    simp [Instr.sameBits]
  | str hq a c h1 h2 ht =>
    subst h1 h2
    rw [VR_s] at hk he
    obtain ⟨p, rfl, rfl⟩ := hk
    obtain ⟨p', rfl, rfl⟩ := he
    rw [seq_bytes] at ht
    have hpp : p.data.toList = p'.data.toList := by simpa using ht.symm
    simp only [Instr.sameBits, beq_toListBytes, toList_data, hpp]
    simp
  | st ks hq a c h1 h2 ht =>
    subst h1 h2
    simp only [VR] at hk he
    obtain ⟨A, rfl, hA⟩ := hk
    obtain ⟨C, rfl, hC⟩ := he
    obtain ⟨g1, g2⟩ := bits_eqN ht hA hC
    show Instr.sameBits (9999 + 1) (.agg C) (.agg A) = true
    simp only [Instr.sameBits]
    simp only [Array.length_toList] at g1
    rw [g2]
    simp [g1]
theorem stays_ok {old new : Value} {w : World} (h : Instr.sameBits 10000 old new = true) : (Instr.keyThatStays old new).run P w = .ok new w := by
  unfold Instr.keyThatStays; rw [if_pos h]; rfl
theorem turn_update {k e : TypeId} {q : KeyK} (ho : o.op = .mapUpdate t x y z) (hu : P.underlying t = some (.map k e)) (hk : keyK P k = some q) (hx : co P x = some x') (hy : co P y = some y') (hz : co P z = some z') :
    TurnS P o fun f h => kUpdate f h q x' y' z' := by
  intro σ N f ac h w nx hf hg s e'
  simp only [kUpdate, ob_eq, asMp_eq, ifb_eq] at e'
  obtain ⟨_, e1, b, rfl, m, e2, e3, r, e4, e5⟩ := e'
  have hv := co_ok hx hf hg
  rw [e1] at hv
  simp only [VR] at hv
  obtain ⟨I, hI, hv⟩ := hv
  have hkey := co_ok hy hf hg
  have hval := co_ok hz hf hg
  have hq := keyK_ty hk
  obtain ⟨ms, hm, hE⟩ := s.map hI e2
  have hck : (Instr.checkKey false 10000 k (ac.eval y)).run P w = .ok () w := checkKey_ok hq hkey e3
  obtain ⟨res, h5, h6⟩ := findKey_ok (w := w) hq hkey e4 hE
  cases r with
  | none =>
    cases res with
    | some p => exact h6.elim
    | none =>
      cases (show some (Nx.val undefA (h.put b (.map (appR m.1 [⟨ev f y', ev f z', m.2⟩]) (Nat.succ m.2)))) = some nx from e5)
      rw [appR_eq]
      have hE' : EntRL σ (m.1 ++ [⟨ev f y', ev f z', m.2⟩]) (ms.push { key := ac.eval y, val := ac.eval z, born := m.2 }).toList := by
        rw [Array.toList_push]; exact EntRL.push hkey hval rfl hE
      obtain ⟨r2, r3⟩ := s.setMap hI e2 (c := m.2 + 1) hE'
      refine ⟨.skip, undef, _, σ, ?_, .inr ⟨rfl, rfl⟩, VR_undef, r2, r3⟩
      simp [execOp, ho, Instr.mapUpdate, r_under hu, hv, get_map hm, hck, h5, set_map _ hm]
  | some p =>
    cases res with
    | none => exact h6.elim
    | some n =>
      obtain ⟨j, v'⟩ := n
      obtain ⟨h7, h8, h9, ⟨me, h10, h11, h12, h13⟩, h14⟩ := h6
      change ob (layR [⟨ev f y', ev f z', p.2.born⟩] p.1 m.1) (fun es => some (Nx.val undefA (h.put b (.map es m.2)))) = some nx at e5
      rw [ob_eq] at e5
      obtain ⟨es, e6, e7⟩ := e5
      cases e7
      obtain ⟨e8, rfl⟩ := layR_one e6
      simp only [Nat.zero_add] at h7
      subst h7
      simp only [Array.getElem?_toList] at h10
      have hE' : EntRL σ (m.1.set p.1 ⟨ev f y', ev f z', p.2.born⟩) (ms.modify p.1 fun e => { e with key := ac.eval y, val := ac.eval z }).toList := by
        rw [Array.toList_modify, modify_set _ (by simpa using h10)]
        exact hE.set hkey hval h12
      obtain ⟨r2, r3⟩ := s.setMap hI e2 (c := m.2) hE'
      refine ⟨.skip, undef, _, σ, ?_, .inr ⟨rfl, rfl⟩, VR_undef, r2, r3⟩
      have hst := stays_ok (P := P) (w := w) (sameBits_ok h14 hkey h11)
      simp [execOp, ho, Instr.mapUpdate, r_under hu, hv, get_map hm, hck, h5, h10, hst, set_map _ hm]
theorem turn_entry {k e : TypeId} {q : KeyK} {zz : AVal} (ho : o.op = .mapEntry t x y) (hu : P.underlying t = some (.map k e)) (hk : keyK P k = some q) (hzz : zeroK P e = some zz) (hx : co P x = some x') (hy : co P y = some y') :
    TurnS P o fun f h => kEntry f h q zz x' y' := by
  intro σ N f ac h w nx hf hg s e'
  simp only [kEntry, ob_eq, asMp_eq, ifb_eq] at e'
  obtain ⟨_, e1, b, rfl, m, e2, e3, r, e4, e5⟩ := e'
  have hv := co_ok hx hf hg
  rw [e1] at hv
  simp only [VR] at hv
  obtain ⟨I, hI, hv⟩ := hv
  have hkey := co_ok hy hf hg
  have hq := keyK_ty hk
  obtain ⟨i, Z, z1, z2, z3⟩ := zeroK_eq hzz
  have hZ : VR σ zz Z := cv_ok z3
  obtain ⟨ms, hm, hE⟩ := s.map hI e2
  have hck : (Instr.checkKey false 10000 k (ac.eval y)).run P w = .ok () w := checkKey_ok hq hkey e3
  obtain ⟨res, h5, h6⟩ := findKey_ok (w := w) hq hkey e4 hE
  cases r with
  | none =>
    cases res with
    | some p => exact h6.elim
    | none =>
      cases (show some (Nx.val (.tu [zz, .i .i64 (Int.ofNat m.2)]) (h.put b (.map (appR m.1 [⟨ev f y', zz, m.2⟩]) (Nat.succ m.2)))) = some nx from e5)
      rw [appR_eq]
      have hE' : EntRL σ (m.1 ++ [⟨ev f y', zz, m.2⟩]) (ms.push { key := ac.eval y, val := Z, born := m.2 }).toList := by
        rw [Array.toList_push]; exact EntRL.push hkey hZ rfl hE
      obtain ⟨r2, r3⟩ := s.setMap hI e2 (c := m.2 + 1) hE'
      refine ⟨.value (.tuple #[Z, .int .i64 m.2]), _, _, σ, ?_, .inl rfl, ?_, r2, r3⟩
      · simp [execOp, ho, Instr.mapEntry, r_under hu, hv, get_map hm, hck, h5, r_zero z1 z2, set_map _ hm, goInt]
      · simp only [VR]; exact ⟨_, rfl, VRL.cons hZ (VRL.cons VR_ii .nil)⟩
  | some p =>
    cases res with
    | none => exact h6.elim
    | some n =>
      obtain ⟨j, v'⟩ := n
      obtain ⟨h7, h8, h9, ⟨me, h10, h11, h12, h13⟩, h14⟩ := h6
      change ob (layR [⟨ev f y', p.2.v, p.2.born⟩] p.1 m.1) (fun es => some (Nx.val (.tu [p.2.v, .i .i64 (Int.ofNat p.2.born)]) (h.put b (.map es m.2)))) = some nx at e5
      rw [ob_eq] at e5
      obtain ⟨es, e6, e7⟩ := e5
      cases e7
      obtain ⟨e8, rfl⟩ := layR_one e6
      simp only [Nat.zero_add] at h7
      subst h7
      simp only [Array.getElem?_toList] at h10
      have hE' : EntRL σ (m.1.set p.1 ⟨ev f y', p.2.v, p.2.born⟩) (ms.modify p.1 fun e => { e with key := ac.eval y }).toList := by
        rw [Array.toList_modify, modify_set _ (by simpa using h10)]
        exact hE.set hkey (by show VR σ p.2.v me.val; rw [h13]; exact h8) h12
      obtain ⟨r2, r3⟩ := s.setMap hI e2 (c := m.2) hE'
      refine ⟨.value (.tuple #[v', .int .i64 me.born]), _, _, σ, ?_, .inl rfl, ?_, r2, r3⟩
      · have hst := stays_ok (P := P) (w := w) (sameBits_ok h14 hkey h11)
        simp [execOp, ho, Instr.mapEntry, r_under hu, hv, get_map hm, hck, h5, h10, hst, set_map _ hm, goInt]
      · simp only [VR]; exact ⟨_, rfl, VRL.cons h8 (VRL.cons (by rw [h12]; exact VR_ii) .nil)⟩
theorem findBorn_cons {n : Int} {e : Entry} {r : List Entry} {p : Nat × Entry} (h : findBorn n (e :: r) = some p) : (((e.born : Int) == n) = true ∧ p = (0, e)) ∨ (((e.born : Int) == n) = false ∧ ∃ y, findBorn n r = some y ∧ p = (y.1 + 1, y.2)) := by
  change ifb (eqI (Int.ofNat e.born) n) (some (0, e)) (ob (findBorn n r) fun y => some (Nat.succ y.1, y.2)) = some p at h
  rw [eqI_eq] at h
  have hb : ((e.born : Int) == n) = decide (Int.ofNat e.born = n) := by rw [Bool.eq_iff_iff]; simp
  rw [hb]
  cases hd : decide (Int.ofNat e.born = n) with
  | true => rw [hd] at h; cases (show some (0, e) = some p from h); exact .inl ⟨rfl, rfl⟩
  | false =>
    rw [hd] at h
    have h' : ob (findBorn n r) (fun y => some (Nat.succ y.1, y.2)) = some p := h
    rw [ob_eq] at h'
    obtain ⟨y, h1, h2⟩ := h'
    cases h2
    exact .inr ⟨rfl, y, h1, rfl⟩
theorem findBorn_ok {σ : Sg} {n : Int} : ∀ {l : List Entry} {L : List MapEntry} {p : Nat × Entry}, findBorn n l = some p → EntRL σ l L → L.findIdx? (fun e => (e.born : Int) == n) = some p.1 ∧ ∃ m, L[p.1]? = some m ∧ VR σ p.2.k m.key ∧ m.born = p.2.born
  | [], L, p, h, _ => by cases (show none = some p from h)
  | e :: r, L, p, h, hE => by
    simp only [EntRL] at hE
    obtain ⟨m, q, rfl, h1, h2, h3, h4⟩ := hE
    rw [List.findIdx?_cons]
    rcases findBorn_cons h with ⟨e1, rfl⟩ | ⟨e1, y, e2, rfl⟩
    · rw [h3, if_pos e1]; exact ⟨rfl, m, rfl, h1, h3⟩
    · obtain ⟨g1, m', g2, g3⟩ := findBorn_ok e2 h4
      rw [h3, if_neg (by rw [e1]; simp), g1]
      exact ⟨rfl, m', g2, g3⟩
theorem turn_entrySt (ho : o.op = .entryStore t x y z) (hx : co P x = some x') (hy : co P y = some y') (hz : co P z = some z') : TurnS P o fun f h => kEntrySt f h x' y' z' := by
  intro σ N f ac h w nx hf hg s e'
  simp only [kEntrySt, ob_eq, asMp_eq, asI_eq] at e'
  obtain ⟨_, e1, b, rfl, m, e2, n, ⟨k, e3⟩, p, e4, es, e5, e6⟩ := e'
  cases e6
  have hv := co_ok hx hf hg
  rw [e1] at hv
  simp only [VR] at hv
  obtain ⟨I, hI, hv⟩ := hv
  have hs := co_ok hy hf hg
  rw [e3, VR_i] at hs
  have hval := co_ok hz hf hg
  obtain ⟨ms, hm, hE⟩ := s.map hI e2
  obtain ⟨h5, me, h6, h7, h8⟩ := findBorn_ok e4 hE
  obtain ⟨_, rfl⟩ := layR_one e5
  have hE' : EntRL σ (m.1.set p.1 ⟨p.2.k, ev f z', p.2.born⟩) (ms.modify p.1 fun e => { e with val := ac.eval z }).toList := by
    rw [Array.toList_modify, modify_set _ h6]
    exact hE.set h7 hval h8
  obtain ⟨r2, r3⟩ := s.setMap hI e2 (c := m.2) hE'
  refine ⟨.skip, undef, _, σ, ?_, .inr ⟨rfl, rfl⟩, VR_undef, r2, r3⟩
  have h5 : ms.findIdx? (fun e => (e.born : Int) == n) = some p.1 := by
    have := h5
    rw [← List.findIdx?_toArray] at this
    simpa using this
  simp [execOp, ho, Instr.entryStore, hv, get_map hm, hs, asInt, asIntOf, h5, set_map _ hm]
theorem get_iter {w : World} {r : Nat} {b : ByteArray} {p : Nat} (h : w.heap[r]? = some (.stringIter b p)) : (getObj r).run P w = .ok (.stringIter b p) w := by simp [getObj, Sem.run, h]
theorem set_iter {w : World} {r : Nat} {b : ByteArray} {p : Nat} (o : Obj) (h : w.heap[r]? = some (.stringIter b p)) : (setObj r o).run P w = .ok () { w with heap := w.heap.setIfInBounds r o } := by simp [setObj, Sem.run, h]
theorem turn_next (ho : o.op = .next x true) (hx : co P x = some x') : TurnS P o fun f h => kNext f h x' := by
  intro σ N f ac h w nx hf hg s e'
  simp only [kNext, ob_eq, asP_eq, ifb_eq, Nat.beq_eq] at e'
  obtain ⟨a, e1, e2, bl, e3, si, e4, e5⟩ := e'
  have hbl : bl = .siter si.1 si.2 := by
    cases bl with
    | siter l n => cases (show some (l, n) = some si from e4); rfl
    | _ => cases (show none = some si from e4)
  subst hbl
  have hv := co_ok hx hf hg
  rw [e1, VR_p_some] at hv
  obtain ⟨I, hI, hv⟩ := hv
  obtain ⟨J, hJ, hR⟩ := s.blk _ _ e3
  rw [hI] at hJ; cases hJ
  obtain ⟨bs, h1, h2, hco⟩ := hR
  rw [e2, hco] at hv
  have hsz := size_map h2
  have hget : ∀ j c, si.1[j]? = some c → ∃ u : UInt8, u.toNat = c ∧ ∃ hj : j < bs.size, bs[j]'hj = u := by
    intro j c hj
    rw [← h2, List.getElem?_map] at hj
    obtain ⟨u, h4, rfl⟩ := Option.map_eq_some_iff.1 hj
    simp only [Array.getElem?_toList] at h4
    have hj' : j < bs.size := (Array.getElem?_eq_some_iff.1 h4).1
    exact ⟨u, rfl, hj', (Array.getElem?_eq_some_iff.1 h4).2⟩
  rw [atR_eq] at e5
  cases hc : si.1[si.2]? with
  | none =>
    rw [hc] at e5
    cases (show some (Nx.val (.tu [.b false]) h) = some nx from e5)
    have hge : ¬ si.2 < bs.size := by
      rw [hsz]; rw [List.getElem?_eq_none_iff] at hc; omega
    refine ⟨.value (.tuple #[.bool false]), _, w, σ, ?_, .inl rfl, ?_, s, Step.refl _ _ _⟩
    · simp [execOp, ho, Instr.next, hv, get_iter h1, hge]
    · simp only [VR]; exact ⟨_, rfl, VRL.cons VR_bb .nil⟩
  | some c =>
    rw [hc] at e5
    change ifb (Nat.blt c 128) (some (Nx.val (.tu [.b true, .i .i64 (Int.ofNat si.2), .i .i32 (Int.ofNat c)]) (h.put a.1 (.siter si.1 (Nat.succ si.2))))) none = some nx at e5
    rw [ifb_eq, Nat.blt_eq] at e5
    obtain ⟨hlt, e5⟩ := e5
    cases e5
    obtain ⟨u, rfl, hj, hu⟩ := hget _ _ hc
    have hb := s.bound _ _ hI
    have key : Sim σ (h.put a.1 (.siter si.1 (si.2 + 1))) { w with heap := w.heap.setIfInBounds I.cb (.stringIter bs (si.2 + 1)) } ∧ Step σ h w σ (h.put a.1 (.siter si.1 (si.2 + 1))) { w with heap := w.heap.setIfInBounds I.cb (.stringIter bs (si.2 + 1)) } := by
      refine s.upd (st := []) e3 trivial hI (fun c e => nomatch e) (x0' := .siter si.1 (si.2 + 1)) (fun c e => nomatch e) rfl (fun d => ?_) (fun d hd => nomatch hd) (by simp) (fun k hk => ?_) ⟨rfl, rfl, rfl⟩ ⟨bs, ?_, h2, hco⟩
      · by_cases e : d = a.1
        · subst e; rw [Hp.get_put_same, if_pos rfl]
        · rw [Hp.get_put_other _ _ _ _ e, if_neg e]; simp
      · simp [Array.getElem?_setIfInBounds_ne (Ne.symm hk)]
      · simp [hb]
    refine ⟨.value (.tuple #[.bool true, .int .i64 si.2, .int .i32 u.toNat]), _, _, σ, ?_, .inl rfl, ?_, key.1, key.2⟩
    · have hd := decode_ascii bs si.2 hj (by rw [hu]; exact hlt)
      rw [hu] at hd
      simp [execOp, ho, Instr.next, hv, get_iter h1, hj, hd, set_iter _ h1, goInt]
    · simp only [VR]; exact ⟨_, rfl, VRL.cons VR_bb (VRL.cons VR_ii (VRL.cons VR_ii .nil))⟩
theorem turn_call {c : Call} {g : Operand} {g' : AOpd} {as : List AOpd} (ho : o.op = .call c) (hc : c.callee = .value g) (hg' : co P g = some g') (has : cos P c.args.toList = some as) : TurnS P o fun f _ => kCall f g' as := by
  intro σ N f ac h w nx hf hg s e
  change goTo (evL f as) (ev f g') = some nx at e
  have hv := co_ok hg' hf hg
  have ha := cos_ok has hf hg
  cases hfn : ev f g' with
  | fn k first cap =>
    rw [hfn] at e hv
    simp only [VR] at hv
    obtain ⟨k', first', cap', hv, hk, h1, h2⟩ := hv
    change goFn k first (evL f as) cap = some nx at e
    cases k with
    | func k =>
      cases (show some (Nx.enter k (appR first (appR (evL f as) cap))) = some nx from e)
      simp only [FnR] at hk
      subst hk
      refine ⟨first' ++ c.args.map ac.eval ++ cap', ?_, ?_⟩
      · simp [execOp, ho, resolve, hc, hv, Deferred.ofValue, invoke]
      · rw [appR_eq, appR_eq]
        simp only [Array.toList_append, Array.toList_map, List.append_assoc]
        exact h1.append (ha.append h2)
    | yield l =>
      cases (show some (Nx.round l (appR first (evL f as))) = some nx from e)
      simp only [FnR] at hk
      obtain ⟨I, hI, hk⟩ := hk
      subst hk
      refine ⟨first' ++ c.args.map ac.eval, I, hI, ?_, ?_⟩
      · simp [execOp, ho, resolve, hc, hv, Deferred.ofValue, invoke]
      · rw [appR_eq]
        simp only [Array.toList_append, Array.toList_map]
        exact h1.append ha
  | _ => rw [hfn] at e; cases (show none = some nx from e)
end
end Go.Av


namespace Go.Av
variable [Tok]
variable {P : Program}
/-! ### Rows that grow -/
theorem Sim.congr {σ : Sg} {h h' : Hp} {w : World} (s : Sim σ h w) (hn : h'.next = h.next) (hg : ∀ b, h'.get b = h.get b) : Sim σ h' w :=
  ⟨fun b x hb => s.blk b x (by rw [← hg]; exact hb), fun b hb => s.fresh b (by rw [← hn]; exact hb), s.bound,
    fun b c I J x y hne hI hJ e hb hc ht hd => s.sep b c I J x y hne hI hJ e (by rw [← hg]; exact hb) (by rw [← hg]; exact hc) ht hd,
    fun b c hb d hd => by rw [hg]; exact s.stl b c (by rw [← hg]; exact hb) d hd⟩
/-- an owner is one no more -/
theorem Sim.demote {σ : Sg} {h : Hp} {w : World} (s : Sim σ h w) {b : Pos} {c : Cells} (hb : h.get b = some (.cells c)) : Sim σ (h.put b (.cells ⟨c.vs, false, []⟩)) w := by
  have hg : ∀ d, (h.put b (.cells ⟨c.vs, false, []⟩)).get d = if d = b then some (.cells ⟨c.vs, false, []⟩) else h.get d := fun d => by
    by_cases e : d = b
    · subst e; rw [Hp.get_put_same, if_pos rfl]
    · rw [Hp.get_put_other _ _ _ _ e, if_neg e]
  refine ⟨?_, s.fresh, s.bound, ?_, ?_⟩
  · intro d x hd
    rw [hg] at hd
    by_cases e : d = b
    · subst e
      rw [if_pos rfl] at hd
      cases hd
      obtain ⟨I, hI, arr, el, fz, h1, h2, h3, h4, h5, h6⟩ := s.blk _ _ hb
      exact ⟨I, hI, arr, el, fz, h1, h2, h3, h4, h5, fun e => nomatch e⟩
    · rw [if_neg e] at hd; exact s.blk d x hd
  · intro d e I J x y hne hI hJ he hd hy ht hdd
    rw [hg] at hd hy
    by_cases e1 : d = b
    · subst e1; rw [if_pos rfl] at hd; cases hd; cases ht
    · rw [if_neg e1] at hd
      by_cases e2 : e = b
      · subst e2
        rw [if_pos rfl] at hy
        cases hy
        obtain ⟨cx, cy, g1, g2, g3, g4, g5⟩ := s.sep d e I J x _ hne hI hJ he hd hb ht (by simp)
        exact ⟨cx, _, g1, rfl, g3, rfl, g5⟩
      · rw [if_neg e2] at hy
        exact s.sep d e I J x y hne hI hJ he hd hy ht hdd
  · intro d e hd x hx
    rw [hg] at hd ⊢
    by_cases e1 : d = b
    · subst e1; rw [if_pos rfl] at hd; cases hd; cases hx
    · rw [if_neg e1] at hd
      split
      · exact ⟨_, rfl⟩
      · exact s.stl d e hd x hx
/-- a new block that shares the model's block -/
theorem Sim.share {σ : Sg} {h : Hp} {w w' : World} (s : Sim σ h w) {J : BI} {l : List AVal} {st : List Pos} (hJ : J.cb < w.heap.size)
    (ho : ∀ d K y, σ d = some K → K.cb = J.cb → h.get d = some y → y ≠ .dead → d ∈ st ∧ (∃ cy, y = .cells cy ∧ cy.own = false) ∧ K.co + K.len ≤ J.co + J.len ∧ BlkR σ w'.heap[K.cb]? K y)
    (hsz : w'.heap.size = w.heap.size) (hw : ∀ k, k ≠ J.cb → w'.heap[k]? = w.heap[k]?)
    (hR : BlkR (σ.set h.next J) w'.heap[J.cb]? J (.cells ⟨l, true, st⟩)) (hst : ∀ d ∈ st, ∃ y, h.get d = some y) : Sim (σ.set h.next J) (h.new (.cells ⟨l, true, st⟩)) w' := by
  have hb : σ h.next = none := s.fresh _ (Nat.le_refl _)
  have hle : σ.le (σ.set h.next J) := Sg.le_set J hb
  have hg : ∀ d, (h.new (.cells ⟨l, true, st⟩)).get d = if d = h.next then some (.cells ⟨l, true, st⟩) else h.get d := fun d => by
    by_cases e : d = h.next
    · subst e; rw [Hp.get_new_same, if_pos rfl]
    · rw [Hp.get_new_other _ _ _ e, if_neg e]
  have un : ∀ c K, c ≠ h.next → σ.set h.next J c = some K → σ c = some K := fun c K hc hk => by rwa [Sg.set_other _ _ hc] at hk
  have ne : ∀ c y, h.get c = some y → c ≠ h.next := fun c y hy e => by
    subst e; obtain ⟨K, hK⟩ := s.old hy; rw [hb] at hK; cases hK
  refine ⟨?_, ?_, ?_, ?_, ?_⟩
  · intro d x hd
    rw [hg] at hd
    by_cases e : d = h.next
    · subst e; rw [if_pos rfl] at hd; cases hd; exact ⟨J, Sg.set_same _ _ _, hR⟩
    · rw [if_neg e] at hd
      obtain ⟨K, hK, hB⟩ := s.blk d x hd
      refine ⟨K, hle _ _ hK, ?_⟩
      by_cases ek : K.cb = J.cb
      · by_cases hdd : x = .dead
        · subst hdd; trivial
        · exact (ho d K x hK ek hd hdd).2.2.2.mono hle
      · rw [hw _ ek]; exact hB.mono hle
  · intro d hd
    rw [Hp.new_next, Pos.toNat_succ] at hd
    rw [Sg.set_other _ _ (fun e => by subst e; omega)]; exact s.fresh d (by omega)
  · intro d K hK
    rw [hsz]
    by_cases e : d = h.next
    · subst e; rw [Sg.set_same] at hK; cases hK; exact hJ
    · exact s.bound d K (un d K e hK)
  · intro d e I K x y hne hI hK he hd hy ht hdd
    rw [hg] at hd hy
    by_cases e1 : d = h.next
    · subst e1
      rw [if_pos rfl] at hd; cases hd
      rw [Sg.set_same] at hI; cases hI
      rw [if_neg (Ne.symm hne)] at hy
      obtain ⟨g1, ⟨cy, g2, g3⟩, g4, _⟩ := ho e K y (un e K (Ne.symm hne) hK) he.symm hy hdd
      exact ⟨_, cy, rfl, g2, g1, g3, g4⟩
    · rw [if_neg e1] at hd
      have hI' := un d I e1 hI
      by_cases e2 : e = h.next
      · subst e2
        rw [Sg.set_same] at hK; cases hK
        have hxd : x ≠ .dead := fun e' => by subst e'; exact ht
        obtain ⟨_, ⟨cy, g2, g3⟩, _⟩ := ho d I x hI' he hd hxd
        subst g2
        exact absurd (show cy.own = true from ht) (by rw [g3]; simp)
      · rw [if_neg e2] at hy
        exact s.sep d e I K x y hne hI' (un e K e2 hK) he hd hy ht hdd
  · intro d c hd e he
    rw [hg] at hd ⊢
    have old : ∀ e, (∃ y, h.get e = some y) → ∃ y, (if e = h.next then some (.cells ⟨l, true, st⟩) else h.get e) = some y := fun e ⟨y, hy⟩ => by
      rw [if_neg (ne e y hy)]; exact ⟨y, hy⟩
    by_cases e1 : d = h.next
    · subst e1; rw [if_pos rfl] at hd; cases hd
      exact old e (hst e he)
    · rw [if_neg e1] at hd
      exact old e (s.stl d c hd e he)
end Go.Av
