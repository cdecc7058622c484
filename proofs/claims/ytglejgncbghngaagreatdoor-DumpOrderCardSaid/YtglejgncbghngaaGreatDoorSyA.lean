/- A part of the proof: what a machine of our own over the model's code answers is what the model does; no condition. -/
import Derived.Test.YtglejgncbghngaaGreatDoorAwB
import Derived.Test.YtglejgncbghngaaGreatDoorAwA
set_option linter.all false
/-! The symbolic machine: values with unknown leaves, over the abstract machine Av. -/
namespace Go.Sy
open Go Go.Av
/-- deep values: numbers, truths, texts, rows of rows of cells -/
inductive D where
  | i (n : Int)
  | b (c : Bool)
  | s (l : List Nat)
  | l (rows : List (List D))
  deriving Inhabited
namespace D
def int (d : D) : Int := match d with | .i n => n | _ => 0
def bool (d : D) : Bool := match d with | .b c => c | _ => false
def str (d : D) : List Nat := match d with | .s t => t | _ => []
def rows (d : D) : List (List D) := match d with | .l t => t | _ => []
end D
/-! ### Values that are only handed on: as leaves, and back -/
def kn : IntKind → Int
  | .i8 => 0 | .i16 => 1 | .i32 => 2 | .i64 => 3 | .u8 => 4 | .u16 => 5 | .u32 => 6 | .u64 => 7
def nk (n : Int) : IntKind := match n with | 0 => .i8 | 1 => .i16 | 2 => .i32 | 3 => .i64 | 4 => .u8 | 5 => .u16 | 6 => .u32 | _ => .u64
theorem nk_kn : ∀ k, nk (kn k) = k := by intro k; cases k <;> rfl
mutual
def enc : DV → D
  | .i k n => .l [[.i (kn k), .i n]]
  | .b c => .b c
  | .s t => .s t
  | .nil => .i 0
  | .sl n e cs => .l [[.i (Int.ofNat n), .i (Int.ofNat e), .i 0], encs cs]
  | .ag cs => .l [[.b true], encs cs]
  | .tu cs => .l [[.b false], encs cs]
  | .t k => .l [[.i (Int.ofNat k)]]
def encs : List DV → List D
  | [] => []
  | a :: r => enc a :: encs r
end
mutual
def dec : D → DV
  | .i _ => .nil
  | .b c => .b c
  | .s t => .s t
  | .l [[.i k, .i n]] => .i (nk k) n
  | .l [[.i n, .i e, .i _], cs] => .sl n.toNat e.toNat (decs cs)
  | .l [[.b true], cs] => .ag (decs cs)
  | .l [[.b false], cs] => .tu (decs cs)
  | .l [[.i k]] => .t k.toNat
  | .l _ => .nil
def decs : List D → List DV
  | [] => []
  | a :: r => dec a :: decs r
end
mutual
theorem dec_enc : ∀ d : DV, dec (enc d) = d
  | .i k n => by simp only [enc, dec, nk_kn]
  | .b c => by simp only [enc, dec]
  | .s t => by simp only [enc, dec]
  | .nil => by simp only [enc, dec]
  | .sl n e cs => by simp only [enc, dec, decs_encs cs, Int.ofNat_eq_natCast, Int.toNat_natCast]
  | .ag cs => by simp only [enc, dec, decs_encs cs]
  | .tu cs => by simp only [enc, dec, decs_encs cs]
  | .t k => by simp only [enc, dec, Int.ofNat_eq_natCast, Int.toNat_natCast]
theorem decs_encs : ∀ d : List DV, decs (encs d) = d
  | [] => by simp only [encs, decs]
  | a :: r => by simp only [encs, decs, dec_enc a, decs_encs r]
end
/-- kinds of cells -/
inductive CT where
  | i (k : IntKind)
  | b
  | s
  | l (e : TypeId)
  deriving DecidableEq
section
variable (P : Program)
def ctysFs (rec : TypeId → Option (List CT)) : List Field → Option (List CT)
  | [] => some []
  | f :: r => match rec f.type, ctysFs rec r with
    | some a, some b => some (a ++ b)
    | _, _ => none
/-- the cells of a type -/
def ctys : Nat → TypeId → Option (List CT)
  | 0, _ => none
  | n + 1, t => match P.underlying t with
    | some .bool => some [.b]
    | some (.int k) => some [.i k]
    | some .string => some [.s]
    | some (.slice e) => some [.l e]
    | some (.struct fs) => ctysFs (ctys n) fs.toList
    | some (.array m e) => match ctys n e with | some l => some (List.replicate m l).flatten | none => none
    | _ => none
abbrev ct (t : TypeId) : Option (List CT) := ctys P 20 t
end
/-- what a function value is -/
inductive SFn where
  | func (k : FuncId)
  | yield (id : Nat)
  deriving DecidableEq
/-- symbolic values. l: a row that nobody writes (ex: there is no room behind); sa: the whole of an owned row; sv: a part of one, from lo to hi; q, qa: a cell of an element of such; p: a cell of a box; pa: a cell of a box whose cells are of one kind, at an open place; nl: a row that is nil; x: nothing is known -/
inductive SV where
  | i (k : IntKind) (n : Int)
  | b (c : Bool)
  | s (l : List Nat)
  | nl
  | l (e : TypeId) (ex : Bool) (rows : List (List D))
  | sa (id : Nat)
  | sv (id lo hi : Nat)
  | q (e : TypeId) (rows : List (List D)) (ix : Nat) (off : Nat)
  | qa (id : Nat) (ix : Nat) (off : Nat)
  | p (o : Option (Nat × Nat))
  | pa (id : Nat) (ix : Nat)
  | fn (g : SFn) (first cap : List SV)
  | nilF
  | nilI
  | ag (l : List SV)
  | tu (l : List SV)
  | mp (o : Option Nat)
  | o (d : DV)
  | x
  deriving Inhabited
/-- whose a row is: owned (it may be written, and grow), given up (nobody writes it any more), lent (it is but read, and is owned again later) -/
inductive Own where
  | ow
  | fr
  | ro
  deriving DecidableEq
/-- boxes: cells that may be written; rows; hid: not to be touched -/
inductive SB where
  | cells (t : TypeId) (vs : List SV)
  | arr (own : Own) (e : TypeId) (rows : List (List D))
  | hid
  | rsv  -- a place kept for a block to come
abbrev SF := List SV
abbrev SH := List SB
/-- a row's room: none, or elements of e -/
def GOk (P : Program) (e : TypeId) (g : Nat) : Prop := g = 0 ∨ ∃ cts, ct P e = some cts ∧ g = cts.length
/-! ### What values are -/
variable (P : Program) (Z : Pos → Prop) (h : Hp)
mutual
/-- a cell -/
def CR : D → CT → AVal → Prop
  | .i n, .i k, v => v = .i k n
  | .b c, .b, v => v = .b c
  | .s l, .s, v => v = .s l
  | .l rows, .l e, v => ∃ a c g, v = .sl a rows.length c g ∧ rows.length ≤ c ∧ GOk P e g ∧ (rows = [] ∨ ∃ cts b o vs own st, ct P e = some cts ∧ a = some (b, o) ∧ Z b ∧ h.get b = some (.cells ⟨vs, own, st⟩) ∧ o + rows.length * cts.length ≤ vs.length ∧ RowsR rows cts ((vs.drop o).take (rows.length * cts.length)))
  | _, _, _ => False
def RowR : List D → List CT → List AVal → Prop
  | [], [], [] => True
  | d :: ds, c :: cs, v :: vs => CR d c v ∧ RowR ds cs vs
  | _, _, _ => False
def RowsR : List (List D) → List CT → List AVal → Prop
  | [], _, l => l = []
  | r :: rs, cts, l => ∃ l1 l2, l = l1 ++ l2 ∧ RowR r cts l1 ∧ RowsR rs cts l2
end
mutual
/-- a value that is only handed on: what it holds, in blocks that nobody writes -/
def OV : DV → AVal → Prop
  | .i k n, v => v = .i k n
  | .b c, v => v = .b c
  | .s l, v => v = .s l
  | .nil, v => v = .sl none 0 0 0
  | .sl n e cs, v => (n = 0 ∧ cs = [] ∧ ∃ p, v = .sl (some p) 0 0 0) ∨
      (0 < n ∧ ∃ b o g vs own st, v = .sl (some (b, o)) n n g ∧ (g = 0 ∨ g = e) ∧ Z b ∧ h.get b = some (.cells ⟨vs, own, st⟩) ∧ o + n * e ≤ vs.length ∧ cs.length = n * e ∧ OVL cs ((vs.drop o).take (n * e)))
  | .ag cs, v => ∃ l, v = .ag l ∧ OVL cs l
  | .tu cs, v => ∃ l, v = .tu l ∧ OVL cs l
  | .t k, v => v = .tok k
def OVL : List DV → List AVal → Prop
  | [], l => l = []
  | a :: r, l => ∃ v q, l = v :: q ∧ OV a v ∧ OVL r q
end
/-- the variable whose bytes are known -/
class Glb where
  G : Nat × List Nat
def GZ [Glb] (Z : Pos → Prop) (h : Hp) : Prop := Z (Pos.ofNat Glb.G.1) ∧ ∃ own st, h.get (Pos.ofNat Glb.G.1) = some (.cells ⟨ofBytes Glb.G.2, own, st⟩)
theorem GZ.mono [Glb] {Z : Pos → Prop} {h : Hp} {Z' : Pos → Prop} {h' : Hp} (g : GZ Z h) (z : ∀ b, Z b → Z' b) (zc : ∀ b c, Z b → h.get b = some (.cells c) → ∃ o st, h'.get b = some (.cells ⟨c.vs, o, st⟩)) : GZ Z' h' := by
  obtain ⟨h1, o, st, h2⟩ := g
  obtain ⟨o', st', h3⟩ := zc _ _ h1 h2
  exact ⟨z _ h1, o', st', h3⟩
end Go.Sy


namespace Go.Sy
open Go Go.Av
section
variable (P : Program) (Z : Pos → Prop) (h : Hp)
/-- a row's elements, from a place of a block on -/
def RowsAt (e : TypeId) (rows : List (List D)) (b : Pos) (o : Nat) : Prop :=
  ∃ cts vs own st, ct P e = some cts ∧ h.get b = some (.cells ⟨vs, own, st⟩) ∧ o + rows.length * cts.length ≤ vs.length ∧ RowsR P Z h rows cts ((vs.drop o).take (rows.length * cts.length))
/-- a row that nobody writes -/
def FrozR (e : TypeId) (ex : Bool) (rows : List (List D)) (v : AVal) : Prop :=
  ∃ a c g, v = .sl a rows.length c g ∧ rows.length ≤ c ∧ GOk P e g ∧ (ex = true → g = 0 ∧ c = rows.length) ∧ (rows = [] ∨ ∃ b o, a = some (b, o) ∧ Z b ∧ RowsAt P Z h e rows b o)
variable (m : List (Option Pos)) (sh : SH)
def FnR : SFn → AFn → Prop
  | .func k, g => g = .func k
  | .yield id, g => ∃ b, m[id]? = some (some b) ∧ g = .yield b
/-- a part of a box's row -/
def ViewR (id : Nat) (e : TypeId) (rows : List (List D)) (lo hi : Nat) (v : AVal) : Prop :=
  lo ≤ hi ∧ hi ≤ rows.length ∧ ((m[id]? = some none ∧ v = .sl none 0 0 0 ∧ rows = []) ∨
    ∃ b g cts, m[id]? = some (some b) ∧ ct P e = some cts ∧ v = .sl (some (b, lo * cts.length)) (hi - lo) (rows.length - lo) g ∧ (g = 0 ∨ g = cts.length))
mutual
/-- what a symbolic value stands for -/
def SVR : SV → AVal → Prop
  | .i k n, v => v = .i k n
  | .b c, v => v = .b c
  | .s l, v => v = .s l
  | .nl, v => v = .sl none 0 0 0
  | .l e ex rows, v => FrozR P Z h e ex rows v
  | .sa id, v => id < sh.length ∧ (∃ a n c g, v = .sl a n c g) ∧ ∀ own e rows, sh[id]? = some (.arr own e rows) → ((m[id]? = some none ∧ rows = [] ∧ v = .sl none 0 0 0) ∨
      ∃ b g cts, m[id]? = some (some b) ∧ ct P e = some cts ∧ v = .sl (some (b, 0)) rows.length rows.length g ∧ (g = 0 ∨ g = cts.length))
  | .sv id lo hi, v => id < sh.length ∧ (∃ a n c g, v = .sl a n c g) ∧ ∀ own e rows, sh[id]? = some (.arr own e rows) → ViewR P m id e rows lo hi v
  | .q e rows ix off, v => ∃ b o cts, ix < rows.length ∧ Z b ∧ RowsAt P Z h e rows b o ∧ ct P e = some cts ∧ v = .p (some (b, o + ix * cts.length + off))
  | .qa id ix off, v => id < sh.length ∧ (∃ a, v = .p (some a)) ∧ ∀ own e rows, sh[id]? = some (.arr own e rows) → ∃ b cts, ix < rows.length ∧ m[id]? = some (some b) ∧ ct P e = some cts ∧ v = .p (some (b, ix * cts.length + off))
  | .p none, v => v = .p none
  | .p (some (id, off)), v => ∃ b, m[id]? = some (some b) ∧ v = .p (some (b, off))
  | .pa id ix, v => ∃ b, m[id]? = some (some b) ∧ v = .p (some (b, ix))
  | .fn g first cap, v => ∃ g' a c, v = .fn g' a c ∧ FnR m g g' ∧ SVRL first a ∧ SVRL cap c
  | .nilF, v => v = .nilF
  | .nilI, v => v = .nilI
  | .ag l, v => ∃ l', v = .ag l' ∧ SVRL l l'
  | .tu l, v => ∃ l', v = .tu l' ∧ SVRL l l'
  | .mp none, v => v = .mp none
  | .mp (some id), v => ∃ b, m[id]? = some (some b) ∧ v = .mp (some b)
  | .o d, v => OV Z h d v
  | .x, _ => True
def SVRL : List SV → List AVal → Prop
  | [], l => l = []
  | a :: r, l => ∃ v q, l = v :: q ∧ SVR a v ∧ SVRL r q
end
/-- is a box one that may be written? -/
def SB.owned : SB → Bool
  | .cells _ _ => true
  | .arr own _ _ => match own with | .ow => true | _ => false
  | .hid => false
  | .rsv => true
/-- a box's block -/
def BoxR (x : SB) (p : Option Pos) : Prop :=
  match x with
  | .cells _ vs => ∃ b avs, p = some b ∧ h.get b = some (.cells ⟨avs, true, []⟩) ∧ SVRL P Z h m sh vs avs
  | .arr own e rows => (p = none ∧ rows = []) ∨ ∃ b cts avs o st, p = some b ∧ ct P e = some cts ∧ h.get b = some (.cells ⟨avs, o, st⟩) ∧ avs.length = rows.length * cts.length ∧ RowsR P Z h rows cts avs ∧
      (own = .ow → o = true) ∧ (own = .fr → Z b)
  | .hid => True
  | .rsv => True
def SlotsR (sf : SF) (f : Fr) : Prop := ∀ t : Nat, t < 512 → SVR P Z h m sh (sf.getD t .x) (f.gt (slot t))
/-- what may be written, or is stale -/
def Foot (b : Pos) : Prop := ∃ (id : Nat) (x : SB) (c : Pos), sh[id]? = some x ∧ x.owned = true ∧ m[id]? = some (some c) ∧ (b = c ∨ ∃ y, h.get c = some (.cells y) ∧ b ∈ y.stale)
/-- the boxes against Av's heap -/
structure HeapR [Glb] : Prop where
  len : m.length = sh.length
  box : ∀ (id : Nat) (x : SB) (p : Option Pos), sh[id]? = some x → m[id]? = some p → BoxR P Z h m sh x p
  old : ∀ (id : Nat) (b : Pos), m[id]? = some (some b) → b.toNat < h.next.toNat
  one : ∀ (i j : Nat) (x y : SB) (b : Pos), i ≠ j → sh[i]? = some x → x.owned = true → sh[j]? = some y → y ≠ .hid → m[i]? = some (some b) → m[j]? ≠ some (some b)
  zold : ∀ b, Z b → b.toNat < h.next.toNat
  zfoot : ∀ b, Foot h m sh b → ¬ Z b
  fold : ∀ b, Foot h m sh b → b.toNat < h.next.toNat
  stl : ∀ (i j : Nat) (x y : SB) (b c : Pos) (z : Cells), sh[i]? = some x → x.owned = true → m[i]? = some (some b) → h.get b = some (.cells z) → c ∈ z.stale → sh[j]? = some y → y ≠ .hid → m[j]? ≠ some (some c)
  fresh : ∀ b : Pos, h.next.toNat ≤ b.toNat → h.get b = none
  glb : GZ Z h
end
/-- a block of a box that is owned -/
def OwnB (m : List (Option Pos)) (sh : SH) (b : Pos) : Prop := ∃ (id : Nat) (x : SB), sh[id]? = some x ∧ x.owned = true ∧ m[id]? = some (some b)
/-- from one state to another -/
structure Tran [Glb] (P : Program) (Z : Pos → Prop) (h : Hp) (m : List (Option Pos)) (sh : SH) (Z' : Pos → Prop) (h' : Hp) (m' : List (Option Pos)) (sh' : SH) : Prop where
  hp : HeapR P Z' h' m' sh'
  nx : h.next.toNat ≤ h'.next.toNat
  z : ∀ b, Z b → Z' b
  zc : ∀ b c, Z b → h.get b = some (.cells c) → ∃ o st, h'.get b = some (.cells ⟨c.vs, o, st⟩)
  ids : ∀ id : Nat, id < m.length → m'[id]? = m[id]?
  arr : ∀ (id : Nat) (own : Own) (e : TypeId) (rows : List (List D)), id < sh.length → sh'[id]? = some (.arr own e rows) → ∃ own0 rows0, sh[id]? = some (.arr own0 e rows0) ∧ rows.length = rows0.length
  keep : ∀ b : Pos, b.toNat < h.next.toNat → ¬ Foot h m sh b → h'.get b = h.get b
  foot : ∀ b, Foot h' m' sh' b → Foot h m sh b ∨ h.next.toNat ≤ b.toNat
  zn : ∀ b, Z' b → Z b ∨ OwnB m sh b ∨ h.next.toNat ≤ b.toNat
  own : ∀ b, OwnB m' sh' b → OwnB m sh b ∨ h.next.toNat ≤ b.toNat
  ro : ∀ (id : Nat) (e : TypeId) (rows : List (List D)), sh'[id]? = some (.arr .ro e rows) → id < sh.length ∧ ∃ rows0, sh[id]? = some (.arr .ro e rows0)
section
variable [Glb] {P : Program} {Z Z' Z'' : Pos → Prop} {h h' h'' : Hp} {m m' m'' : List (Option Pos)} {sh sh' sh'' : SH}
theorem Tran.refl (H : HeapR P Z h m sh) : Tran P Z h m sh Z h m sh :=
  ⟨H, Nat.le_refl _, fun _ h => h, fun b c _ hb => ⟨c.own, c.stale, hb⟩, fun _ _ => rfl, fun _ own e rows _ h => ⟨own, rows, h, rfl⟩, fun _ _ _ => rfl, fun _ h => .inl h, fun _ h => .inl h, fun _ h => .inl h, fun _ _ rows h => ⟨(List.getElem?_eq_some_iff.1 h).1, rows, h⟩⟩
theorem Tran.trans (a : Tran P Z h m sh Z' h' m' sh') (hl : m.length = sh.length) (c : Tran P Z' h' m' sh' Z'' h'' m'' sh'') (hm : m.length ≤ m'.length) : Tran P Z h m sh Z'' h'' m'' sh'' where
  hp := c.hp
  nx := Nat.le_trans a.nx c.nx
  z := fun b hb => c.z b (a.z b hb)
  zc := fun b x hb hx => by
    obtain ⟨o, st, h1⟩ := a.zc b x hb hx
    obtain ⟨o', st', h2⟩ := c.zc b _ (a.z b hb) h1
    exact ⟨o', st', h2⟩
  ids := fun id hid => (c.ids id (by omega)).trans (a.ids id hid)
  arr := fun id own e rows hid hx => by
    have := a.hp.len
    obtain ⟨o1, r1, h1, e1⟩ := c.arr id own e rows (by omega) hx
    obtain ⟨o0, r0, h0, e0⟩ := a.arr id o1 e r1 hid h1
    exact ⟨o0, r0, h0, e1.trans e0⟩
  keep := fun b hb hn => by
    refine (c.keep b (Nat.lt_of_lt_of_le hb a.nx) (fun hf => ?_)).trans (a.keep b hb hn)
    rcases a.foot b hf with h | h
    · exact hn h
    · omega
  foot := fun b hb => by
    rcases c.foot b hb with h | h
    · exact a.foot b h
    · exact .inr (Nat.le_trans a.nx h)
  zn := fun b hb => by
    rcases c.zn b hb with h | h | h
    · exact a.zn b h
    · rcases a.own b h with h | h
      · exact .inr (.inl h)
      · exact .inr (.inr h)
    · exact .inr (.inr (Nat.le_trans a.nx h))
  own := fun b hb => by
    rcases c.own b hb with h | h
    · exact a.own b h
    · exact .inr (Nat.le_trans a.nx h)
  ro := fun id e rows h => by
    obtain ⟨_, r1, h1⟩ := c.ro id e rows h
    exact a.ro id e r1 h1
end
end Go.Sy


set_option linter.all false
noncomputable section
namespace Go.Sy
open Go Go.Av
/-! ### Operands -/
mutual
def ofA : AVal → Option SV
  | .i k n => some (.i k n)
  | .b c => some (.b c)
  | .s t => some (.s t)
  | .p none => some (.p none)
  | .sl none 0 0 0 => some .nl
  | .nilF => some .nilF
  | .nilI => some .nilI
  | .mp none => some (.mp none)
  | .ag t => match ofAL t with | some q => some (.ag q) | none => none
  | .tu t => match ofAL t with | some q => some (.tu q) | none => none
  | _ => none
def ofAL : List AVal → Option (List SV)
  | [] => some []
  | a :: r => match ofA a, ofAL r with | some x, some q => some (x :: q) | _, _ => none
end
def evS (f : SF) : Operand → Option SV
  | .tmp t => bif Nat.blt t 512 then some (f.getD t .x) else none
  | .const v => match cv v with | some a => ofA a | none => none
  | .func k => some (.fn (.func k) [] [])
  | .global _ => none
def evSL (f : SF) : List Operand → Option (List SV)
  | [] => some []
  | x :: r => match evS f x, evSL f r with | some v, some q => some (v :: q) | _, _ => none
def SV.known : SV → Bool
  | .x => false
  | .o _ => false
  | _ => true
def SV.cells : SV → List SV
  | .ag t => t
  | v => [v]
/-! ### Small words on open leaves -/
def toN (n : Int) : Nat := Int.rec (fun m => m) (fun _ => 0) n
def inR (j : Int) (n : Nat) : Bool := Int.rec (fun m => Nat.blt m n) (fun _ => false) j
/-- a bound: from 0 to n -/
def inB (j : Int) (n : Nat) : Bool := Int.rec (fun m => Nat.ble m n) (fun _ => false) j
/-- a cell of a row as a value -/
def svOf : CT → D → SV
  | .i k, d => .i k d.int
  | .b, d => .b d.bool
  | .s, d => .s d.str
  | .l e, d => .l e false d.rows
def svsOf (r : List D) : List CT → Nat → List SV
  | [], _ => []
  | c :: cs, j => svOf c (r.getD j (.i 0)) :: svsOf r cs (j + 1)
/-- a value as a cell of a row; a row that is owned is given up -/
def dOf (sh : SH) : SV → Option (D × SH)
  | .i _ n => some (.i n, sh)
  | .b c => some (.b c, sh)
  | .s t => some (.s t, sh)
  | .nl => some (.l [], sh)
  | .l _ _ rows => some (.l rows, sh)
  | .sa id => match sh[id]? with
    | some (.arr .ro _ _) => none
    | some (.arr _ e rows) => some (.l rows, sh.set id (.arr .fr e rows))
    | _ => none
  | .sv id lo hi => match sh[id]? with
    | some (.arr .ro _ _) => none
    | some (.arr _ e rows) => some (.l ((rows.drop lo).take (Nat.sub hi lo)), sh.set id (.arr .fr e rows))
    | _ => none
  | _ => none
def dsOf (sh : SH) : List SV → Option (List D × SH)
  | [] => some ([], sh)
  | v :: r => match dOf sh v with
    | some (d, sh1) => match dsOf sh1 r with | some (ds, sh2) => some (d :: ds, sh2) | none => none
    | none => none
/-- is a value one of a kind of cell? -/
def kindOf (sh : SH) : SV → CT → Bool
  | .i k _, .i j => keq k j
  | .b _, .b => true
  | .s _, .s => true
  | .nl, .l _ => true
  | .l e _ _, .l e' => Nat.beq e e'
  | .sa id, .l e' => match sh[id]? with | some (.arr _ e _) => Nat.beq e e' | _ => false
  | .sv id _ _, .l e' => match sh[id]? with | some (.arr _ e _) => Nat.beq e e' | _ => false
  | _, _ => false
def kindsOf (sh : SH) : List SV → List CT → Bool
  | [], [] => true
  | v :: r, c :: cs => kindOf sh v c && kindsOf sh r cs
  | _, _ => false
def packS (agg : Bool) (l : List SV) : Option SV := bif agg then some (.ag l) else match l with | [v] => some v | _ => none
/-! ### Cells of one kind, at an open place -/
def bL : List SV → Option (List Bool)
  | [] => some []
  | .b c :: r => match bL r with | some l => some (c :: l) | none => none
  | _ => none
def iL (k : IntKind) : List SV → Option (List Int)
  | [] => some []
  | .i j n :: r => bif keq k j then (match iL k r with | some l => some (n :: l) | none => none) else none
  | _ => none
def selS (vs : List SV) (ix : Nat) : Option SV := match vs with
  | .b _ :: _ => match bL vs with | some l => some (.b (l.getD ix false)) | none => none
  | .i k _ :: _ => match iL k vs with | some l => some (.i k (l.getD ix 0)) | none => none
  | _ => none
def setBL (ix : Nat) (c : Bool) : Nat → List Bool → List SV
  | _, [] => []
  | j, b :: r => .b (ifb (Nat.beq ix j) c b) :: setBL ix c (j + 1) r
def setIL (k : IntKind) (ix : Nat) (c : Int) : Nat → List Int → List SV
  | _, [] => []
  | j, b :: r => .i k (ifb (Nat.beq ix j) c b) :: setIL k ix c (j + 1) r
def setS (vs : List SV) (ix : Nat) (v : SV) : Option (List SV) := match v with
  | .b c => match bL vs with | some l => some (setBL ix c 0 l) | none => none
  | .i k c => match iL k vs with | some l => some (setIL k ix c 0 l) | none => none
  | _ => none
/-! ### Operations that turn nothing: a condition, a value -/
abbrev GV := Option (Bool × SV)
def pureV (v : SV) : GV := some (true, v)
def cmpS (op : BinOp) (a c : SV) : Option Bool :=
  match a, c with
  | .i k x, .i j y => bif keq k j then (match op with
    | .lss => some (ltI x y) | .leq => some (!(ltI y x)) | .gtr => some (!(!(ltI y x))) | .geq => some (!(ltI x y)) | .eql => some (eqI x y) | .neq => some (!(eqI x y)) | _ => none) else none
  | .s x, .s y => match op with
    | .lss => some (sless x y) | .leq => some (ifb (sless x y) true (seq x y)) | .gtr => some (!(ifb (sless x y) true (seq x y))) | .geq => some (!(sless x y)) | .eql => some (seq x y) | .neq => some (!(seq x y)) | _ => none
  | .b x, .b y => match op with | .eql => some (ifb x y (!y)) | .neq => some (!(ifb x y (!y))) | _ => none
  | _, _ => none
def eqCells : List SV → List SV → Option Bool
  | [], [] => some true
  | a :: r, c :: q => match cmpS .eql a c, eqCells r q with | some x, some y => some (ifb x y false) | _, _ => none
  | _, _ => none
def fkOf : SV → FK → Bool
  | .i _ _, .int => true
  | .b _, .bool => true
  | .s _, .str => true
  | _, _ => false
def fksOf : List SV → List FK → Bool
  | [], [] => true
  | a :: r, k :: q => fkOf a k && fksOf r q
  | _, _ => false
def flatOf : SV → Bool
  | .i _ _ => true
  | .b _ => true
  | .s _ => true
  | _ => false
def binS (op : BinOp) (q : EqK) (a c : SV) : GV :=
  match a, c with
  | .i k x, .i j y => match op with
    | .add => bif keq k j then pureV (.i k (wrapF k (addI x y))) else none
    | .sub => bif keq k j then pureV (.i k (wrapF k (subI x y))) else none
    | .mul => bif keq k j then pureV (.i k (wrapF k (x * y))) else none
    | .quo => bif keq k j then some (!(eqI y 0), .i k (wrapF k (x.tdiv y))) else none
    | .rem => bif keq k j then some (!(eqI y 0), .i k (x.tmod y)) else none
    | .and => bif keq k j then pureV (.i k (k.wrap (BitVec.ofInt k.bits x &&& BitVec.ofInt k.bits y).toNat)) else none
    | .or => bif keq k j then pureV (.i k (k.wrap (BitVec.ofInt k.bits x ||| BitVec.ofInt k.bits y).toNat)) else none
    | .xor => bif keq k j then pureV (.i k (k.wrap (BitVec.ofInt k.bits x ^^^ BitVec.ofInt k.bits y).toNat)) else none
    | .shl => some (!(ltI y 0), .i k (k.wrap (x * 2 ^ (min y.toNat k.bits))))
    | .shr => some (!(ltI y 0), .i k (x.fdiv (2 ^ (min y.toNat k.bits))))
    | .lss => match cmpS op a c with | some t => pureV (.b t) | none => none
    | .leq => match cmpS op a c with | some t => pureV (.b t) | none => none
    | .gtr => match cmpS op a c with | some t => pureV (.b t) | none => none
    | .geq => match cmpS op a c with | some t => pureV (.b t) | none => none
    | .eql => match cmpS op a c with | some t => pureV (.b t) | none => none
    | .neq => match cmpS op a c with | some t => pureV (.b t) | none => none
    | _ => none
  | .s x, .s y => match op with
    | .add => some (Nat.ble (Nat.add (lenR x) (lenR y)) 2147483648, .s (appR x y))
    | _ => match cmpS op a c with | some t => pureV (.b t) | none => none
  | .b _, .b _ => match q with | .bool => (match cmpS op a c with | some t => pureV (.b t) | none => none) | _ => none
  | .ag x, .ag y => match q with
    | .st ks => bif fksOf x ks then (match op, eqCells x y with
      | .eql, some t => pureV (.b t)
      | .neq, some t => pureV (.b (!t))
      | _, _ => none) else none
    | _ => none
  | .nl, .nl => match q, op with | .slice, .eql => pureV (.b true) | .slice, .neq => pureV (.b false) | _, _ => none
  | .p none, .p none => match q, op with | .ptr, .eql => pureV (.b true) | .ptr, .neq => pureV (.b false) | _, _ => none
  | .p none, .p (some _) => match q, op with | .ptr, .eql => pureV (.b false) | .ptr, .neq => pureV (.b true) | _, _ => none
  | .p (some _), .p none => match q, op with | .ptr, .eql => pureV (.b false) | .ptr, .neq => pureV (.b true) | _, _ => none
  | .mp none, .mp none => match q, op with | .map, .eql => pureV (.b true) | .map, .neq => pureV (.b false) | _, _ => none
  | .mp (some _), .mp none => match q, op with | .map, .eql => pureV (.b false) | .map, .neq => pureV (.b true) | _, _ => none
  | _, _ => none
def pickS (c a b : SV) : GV :=
  match c, a, b with
  | .b t, .b x, .b y => pureV (.b (ifb t x y))
  | .b t, a, .x => some (t, a)
  | .b t, .x, b => some (!t, b)
  | .b t, a, .tu [] => some (t, a)
  | .b t, .tu [], b => some (!t, b)
  | .b t, .i k x, .i j y => bif keq k j then pureV (.i k (ifb t x y)) else none
  | .b t, .s x, .s y => pureV (.s (ifb t x y))
  | .b t, .l e ex x, .l e' ex' y => bif Nat.beq e e' then pureV (.l e (ex && ex') (ifb t x y)) else none
  | _, _, _ => none
def fillS : List (Nat × Nat × SV) → List SV → Option (List SV)
  | [], l => some l
  | (o, n, v) :: r, l => bif Nat.beq (lenR v.cells) n then (match layR v.cells o l with | some q => fillS r q | none => none) else none
def boundS (f : SF) (d : Nat) : Option Operand → Option (Int)
  | none => some (Int.ofNat d)
  | some x => match evS f x with | some (.i _ n) => some n | _ => none
end Go.Sy


set_option linter.all false
noncomputable section
namespace Go.Sy
open Go Go.Av
variable (P : Program)
section ops
variable {ρ : Type}
def gv (x : GV) (sh : SH) (k : SV → SH → Option ρ) : Option ρ := match x with
  | some (g, v) => ifb g (k v sh) none
  | none => none
def ov (x : Option SV) (sh : SH) (k : SV → SH → Option ρ) : Option ρ := match x with
  | some v => k v sh
  | none => none
def esz (e : TypeId) : Nat := match ct P e with | some l => l.length | none => 0
/-- cells of an element that a value of type t is read from -/
def ctAt (e t : TypeId) (off : Nat) : Option (List CT) := match ct P e, ct P t with
  | some a, some b => bif decide ((a.drop off).take b.length = b) then some b else none
  | _, _ => none
def loadS (sh : SH) (agg : Bool) (n : Nat) (t : TypeId) (a : SV) : Option SV := match a with
  | .p (some (id, off)) => match sh[id]? with
    | some (.cells _ vs) => match takeX n (dropR off vs) with | some l => packS agg l | none => none
    | _ => none
  | .q e rows ix off => match ctAt P e t off with | some cts => bif Nat.beq cts.length n then packS agg (svsOf (rows.getD ix []) cts off) else none | none => none
  | .qa id ix off => match sh[id]? with
    | some (.arr _ e rows) => match ctAt P e t off with | some cts => bif Nat.beq cts.length n then packS agg (svsOf (rows.getD ix []) cts off) else none | none => none
    | _ => none
  | _ => none
def SV.one : SV → Bool
  | .ag _ => false
  | .tu _ => false
  | .x => false
  | .o _ => false
  | _ => true
/-- an element's cells, one by one -/
def exR : Nat → Nat → List D → List D
  | 0, _, _ => []
  | n + 1, i, r => r.getD i (.i 0) :: exR n (i + 1) r
def storeS (sh : SH) (n : Nat) (t : TypeId) (a v : SV) : Option SH := bif v.known && (Nat.beq (lenR v.cells) n && (Nat.blt 0 n && v.cells.all SV.one)) then match a with
  | .p (some (id, off)) => match sh[id]? with
    | some (.cells t vs) => match layR v.cells off vs with | some q => some (sh.set id (.cells t q)) | none => none
    | _ => none
  | .qa id ix off => match sh[id]? with
    | some (.arr .ow e rows) => match ctAt P e t off with
      | some cts => bif kindsOf sh v.cells cts then (match dsOf sh v.cells with
        | some (ds, sh1) => match layR ds off (exR (esz P e) 0 (rows.getD ix [])), sh1[id]? with
          | some row, some (.arr .ow e' _) => some (sh1.set id (.arr .ow e' (rows.set ix row)))
          | _, _ => none
        | none => none) else none
      | none => none
    | _ => none
  | _ => none else none
def partsS (f : SF) (place : Nat → Option (Nat × Nat)) : List (Nat × Operand) → Option (List (Nat × Nat × SV))
  | [] => some []
  | (i, x) :: r => match place i, evS f x, partsS f place r with | some (o, n), some a, some l => bif a.known then some ((o, n, a) :: l) else none | _, _, _ => none
def chunk (n : Nat) : Nat → List D → List (List D)
  | 0, _ => []
  | k + 1, l => l.take n :: chunk n k (l.drop n)
/-- a new owned row -/
def newArr (sh : SH) (e : TypeId) (rows : List (List D)) (k : SV → SH → Option ρ) : Option ρ := k (.sa sh.length) (sh ++ [.arr .ow e rows])
def sliceStr (f : SF) (l : List Nat) (lo hi : Option Operand) : GV := match boundS f 0 lo, boundS f (lenR l) hi with
  | some a, some b => some (ifb (inB b (lenR l)) (inB a (toN b)) false, .s ((l.drop (toN a)).take (Nat.sub (toN b) (toN a))))
  | _, _ => none
def sameOp : Operand → Operand → Bool
  | .tmp a, .tmp b => Nat.beq a b
  | .const (.int _ a), .const (.int _ b) => decide (a = b)
  | _, _ => false
/-- is a row one of an element type? -/
def isRowOf (sh : SH) (e : TypeId) : SV → Bool
  | .nl => true
  | .l e' _ _ => Nat.beq e e'
  | .sa id => match sh[id]? with | some (.arr _ e' _) => Nat.beq e e' | _ => false
  | .sv id _ _ => match sh[id]? with | some (.arr _ e' _) => Nat.beq e e' | _ => false
  | _ => false
/-- is an element of as many cells as its type tells? -/
def sizeOk (e : TypeId) (n : Nat) : Bool := match ct P e with | some cts => Nat.beq n cts.length | none => false
def mxOk : Option Operand → Option Operand → Bool
  | some _, none => false
  | _, _ => true
def rowsOf (sh : SH) : SV → Option (List (List D) × Bool × SH)      -- the elements; is there no room; the row is given up
  | .nl => some ([], true, sh)
  | .l _ ex rows => some (rows, ex, sh)
  | .sa id => match sh[id]? with | some (.arr .ro _ _) => none | some (.arr _ e rows) => some (rows, false, sh.set id (.arr .fr e rows)) | _ => none
  | .sv id lo hi => match sh[id]? with | some (.arr .ro _ _) => none | some (.arr _ e rows) => some ((rows.drop lo).take (Nat.sub hi lo), false, sh.set id (.arr .fr e rows)) | _ => none
  | _ => none
/-- a part of a row that is not given up -/
def vwOf (sh : SH) : SV → Option (Nat × Nat × Nat × TypeId × List (List D))
  | .sa id => match sh[id]? with | some (.arr .fr _ _) => none | some (.arr _ e rows) => some (id, 0, rows.length, e, rows) | _ => none
  | .sv id lo hi => match sh[id]? with | some (.arr _ e rows) => some (id, lo, hi, e, rows) | _ => none
  | _ => none
def sliceVw (f : SF) (sh : SH) (e : TypeId) (v : Nat × Nat × Nat × TypeId × List (List D)) (lo hi mx : Option Operand) (k : SV → SH → Option ρ) : Option ρ := match v with
  | (id, l0, h0, e', rows) => bif !(Nat.beq e e' && mxOk mx hi) then none else match boundS f 0 lo, boundS f (Nat.sub h0 l0) hi, boundS f (Nat.sub rows.length l0) mx with
    | some a, some b, some c => ifb (ifb (inB b (Nat.sub rows.length l0)) (ifb (inB a (toN b)) (ifb (inB b (toN c)) (inB c (Nat.sub rows.length l0)) false) false) false)
        (k (match mx with | none => .sv id (Nat.add l0 (toN a)) (Nat.add l0 (toN b)) | some _ => .x) sh) none
    | _, _, _ => none
def sliceSl (f : SF) (sh : SH) (e : TypeId) (x : SV) (lo hi mx : Option Operand) (k : SV → SH → Option ρ) : Option ρ := match vwOf sh x with | some v => sliceVw f sh e v lo hi mx k | none => bif !(isRowOf sh e x && mxOk mx hi) then none else match rowsOf sh x with
  | some (rows, ex, sh1) => match boundS f 0 lo, boundS f rows.length hi, boundS f rows.length mx with
    | some a, some b, some c => ifb (ifb (inB b rows.length) (ifb (inB a (toN b)) (ifb (inB b (toN c)) (inB c rows.length) false) false) false)
        (k (.l e (match mx with | none => ex && hi.isNone | some m => match hi with | some h => sameOp h m | none => false) ((rows.drop (toN a)).take (Nat.sub (toN b) (toN a)))) sh1) none
    | _, _, _ => none
  | none => none
def bytesOfS (rows : List (List D)) : List Nat := rows.map fun r => toN (r.getD 0 (.i 0)).int
def okBytes (rows : List (List D)) : Bool := allR (fun r => inB (r.getD 0 (.i 0)).int 255) rows
/-- append: a new row; of nothing: the same -/
def appendS (sh : SH) (e : TypeId) (bytes : Nat) (s : SV) (new : List (List D)) (k : SV → SH → Option ρ) : Option ρ :=
  let go (rows : List (List D)) (sh' : SH) : Option ρ := ifb (Nat.beq new.length 0) (k s sh) (ifb (fitsA (Nat.add rows.length new.length) bytes) (newArr sh' e (rows ++ new) k) none)
  match s with
  | .sv id lo hi => match sh[id]? with
    | some (.arr .ow e' rows) => bif Nat.beq e e' then ifb (Nat.beq new.length 0) (k s sh) (ifb (Nat.ble (Nat.add hi new.length) rows.length) (k (.sv id lo (Nat.add hi new.length)) (sh.set id (.arr .ow e (rows.take hi ++ (new ++ rows.drop (Nat.add hi new.length)))))) none) else none
    | _ => none
  | .nl => go [] sh
  | .l e' true rows => bif Nat.beq e e' then go rows sh else none
  | .sa id => match sh[id]? with
    | some (.arr .ow e' rows) => bif Nat.beq e e' then go rows (sh.set id .hid) else none
    | _ => none
  | _ => none
def extS : List SV → Nat → Option SV
  | [], _ => none
  | a :: _, 0 => some a
  | _ :: r, n + 1 => extS r n
def mxS : SV → List SV → Option SV
  | .i k n, [] => some (.i k n)
  | .i k n, .i j m :: r => mxS (.i k (ifb (ltI n m) m n)) r
  | _, _ => none
def mnS : SV → List SV → Option SV
  | .i k n, [] => some (.i k n)
  | .i k n, .i j m :: r => mnS (.i k (ifb (ltI m n) m n)) r
  | _, _ => none
def zeroOk (e : TypeId) (n : Nat) : Bool := match zeroK P e with | some z => Nat.beq z.cells.length n | none => false
def appOk (ut : TypeDesc) (x : SV) : Bool := match ut, x with
  | .string, .s _ => true
  | .slice _, .s _ => false
  | .slice _, _ => true
  | _, _ => false
def byteRow (e : TypeId) : Bool := match ct P e with | some [.i .u8] => true | _ => false
def zeroS (t : TypeId) : Option SV := match zeroK P t with | some z => ofA z | none => none
def bltS (f : SF) (sh : SH) (b : Builtin) (ts : List TypeId) (as : List SV) (k : SV → SH → Option ρ) : Option ρ :=
  match b, ts, as with
  | .len, [t], [x] => match P.underlying t, x with
    | some .string, .s l => k (.i .i64 (Int.ofNat (lenR l))) sh
    | some (.slice _), .nl => k (.i .i64 (Int.ofNat 0)) sh
    | some (.slice _), .l _ _ rows => k (.i .i64 (Int.ofNat rows.length)) sh
    | some (.slice _), .sa id => match sh[id]? with | some (.arr _ _ rows) => k (.i .i64 (Int.ofNat rows.length)) sh | _ => none
    | some (.slice _), .sv id lo hi => match sh[id]? with | some (.arr _ _ rows) => k (.i .i64 (Int.ofNat (Nat.sub hi lo))) sh | _ => none
    | _, _ => none
  | .append, [t, u], [s, x] => match elemK P t, P.underlying u with
    | some (e, n, m), some ut => bif !(sizeOk P e n && Nat.blt 0 n && zeroOk P e n && appOk ut x) then none else match x with
      | .s l => bif Nat.beq n 1 && byteRow P e then appendS sh e m s (l.map fun c => [.i (Int.ofNat c)]) k else none
      | .nl => appendS sh e m s [] k
      | .l e' _ rows => bif Nat.beq e e' then appendS sh e m s rows k else none
      | .sa id => match sh[id]? with | some (.arr _ e' rows) => bif Nat.beq e e' then appendS sh e m s rows k else none | _ => none
      | .sv id lo hi => match sh[id]? with | some (.arr _ e' rows) => bif Nat.beq e e' then appendS sh e m s ((rows.drop lo).take (Nat.sub hi lo)) k else none | _ => none
      | _ => none
    | _, _ => none
  | .clear, [t], [.sv id lo hi] => match elemK P t with
    | some (e, n, _) => match zeroS P e, ct P e with
      | some z, some cts => bif (zeroOk P e n && Nat.blt 0 n) && (Nat.beq cts.length n && kindsOf sh z.cells cts) then (match dsOf sh z.cells with
        | some (ds, sh1) => match sh1[id]? with
          | some (.arr .ow e' rows) => bif Nat.beq e e' then k (.tu []) (sh1.set id (.arr .ow e (rows.take lo ++ (List.replicate (Nat.sub hi lo) ds ++ rows.drop hi)))) else none
          | _ => none
        | none => none) else none
      | _, _ => none
    | none => none
  | .max, _, x :: l => ov (mxS x l) sh k
  | .min, _, x :: l => ov (mnS x l) sh k
  | _, _, _ => none
def ctEq : CT → CT → Bool
  | .i k, .i j => keq k j
  | .b, .b => true
  | _, _ => false
/-- an array of cells of one kind -/
def arrB (t : TypeId) : Bool := match P.underlying t with
  | some (.array _ _) => match ct P t with | some (c :: cs) => ctEq c c && cs.all (ctEq c) | _ => false
  | _ => false
def loadP (sh : SH) (id ix : Nat) : GV := match sh[id]? with
  | some (.cells _ vs) => match selS vs ix with | some v => some (Nat.blt ix vs.length, v) | none => none
  | _ => none
def storeP (sh : SH) (id ix : Nat) (v : SV) (k : SV → SH → Option ρ) : Option ρ := match sh[id]? with
  | some (.cells t vs) => match setS vs ix v with | some q => ifb (Nat.blt ix vs.length) (k (.tu []) (sh.set id (.cells t q))) none | none => none
  | _ => none
/-- both ways come to the same -/
def both (x y : Option ρ) : Option ρ := open Classical in if x = y then x else none
/-- a row that is held against nil: how long it is -/
def nilLen (sh : SH) : SV → SV → Option Nat
  | .l _ _ rows, .nl => some rows.length
  | .sa id, .nl => match sh[id]? with | some (.arr _ _ rows) => some rows.length | _ => none
  | .sv id lo hi, .nl => match sh[id]? with | some (.arr _ _ _) => some (Nat.sub hi lo) | _ => none
  | _, _ => none
def nilS (n : Nat) (neg : Bool) (sh : SH) (k : SV → SH → Option ρ) : Option ρ := ifb (Nat.blt 0 n) (k (.b neg) sh) (both (k (.b (!neg)) sh) (k (.b neg) sh))
/-- operations but calls -/
def opS (f : SF) (sh : SH) (o : Op) (k : SV → SH → Option ρ) : Option ρ :=
  match o with
  | .move x => ov (evS f x) sh k
  | .assign x => ov (evS f x) sh k
  | .pick c a b => match evS f c, evS f a, evS f b with | some c, some a, some b => gv (pickS c a b) sh k | _, _, _ => none
  | .alloc t => match zeroS P t with | some z => k (bif arrB P t then .pa sh.length 0 else .p (some (sh.length, 0))) (sh ++ [.cells t z.cells]) | none => none
  | .box t x => match evS f x with | some v => bif v.known then k (.p (some (sh.length, 0))) (sh ++ [.cells t v.cells]) else none | none => none
  | .build t ps => match zeroS P t with
    | some z => match P.underlying t with
      | some (.struct fs) => match placesK P fs.toList with
        | some pl => match partsS f (fun i => pl[i]?) ps.toList with
          | some l => match fillS l z.cells with | some q => k (.ag q) sh | none => none
          | none => none
        | none => none
      | some (.array _ e) => match infoK P e with
        | some (n, _) => match partsS f (fun i => some (i * n, n)) ps.toList with
          | some l => match fillS l z.cells with | some q => k (.ag q) sh | none => none
          | none => none
        | none => none
      | _ => none
    | none => none
  | .buildSlice t len ps => match elemK P t with
    | some (e, n, _) => match zeroS P e, ct P e with
      | some z, some cts => match partsS f (fun i => some (i * n, n)) ps.toList with
        | some l => match fillS l (repR z.cells len) with
          | some q => bif Nat.ble (len * n) 16777216 && (zeroOk P e n && Nat.blt 0 n) && Nat.beq cts.length n && kindsOf sh q (List.replicate len cts).flatten then (match dsOf sh q with | some (ds, sh1) => newArr sh1 e (chunk n len ds) k | none => none) else none
          | none => none
        | none => none
      | _, _ => none
    | none => none
  | .load t a => match aggK P t, infoK P t, evS f a with
    | some true, some (n, _), some a => ov (loadS P sh true n t a) sh k
    | some false, _, some a => match a with | .pa id ix => gv (loadP sh id ix) sh k | a => ov (loadS P sh false 1 t a) sh k
    | _, _, _ => none
  | .store t a v => match infoK P t, evS f a, evS f v with
    | some (n, _), some a, some v => match a with | .pa id ix => bif Nat.beq n 1 then storeP sh id ix v k else none | a => match storeS P sh n t a v with | some sh' => k (.tu []) sh' | none => none
    | _, _, _ => none
  | .nilCheck x => match evS f x with
    | some (.p (some a)) => k (.p (some a)) sh
    | some (.pa a i) => k (.pa a i) sh
    | some (.q e r i o) => k (.q e r i o) sh
    | some (.qa a i o) => k (.qa a i o) sh
    | some (.fn g a c) => k (.fn g a c) sh
    | _ => none
  | .binOp op t x y _ => match evS f x, evS f y with
    | some x, some y => match nilLen sh x y, eqK P t, op with
      | some n, .slice, .eql => nilS n false sh k
      | some n, .slice, .neq => nilS n true sh k
      | _, _, _ => gv (binS op (eqK P t) x y) sh k
    | _, _ => none
  | .unOp op _ x => match op, evS f x with
    | .neg, some (.i j n) => k (.i j (wrapF j (subI 0 n))) sh
    | .not, some (.b c) => k (.b (!c)) sh
    | .xor, some (.i j n) => k (.i j (j.wrap (BitVec.ofInt j.bits (if j.signed then -1 else j.max) ^^^ BitVec.ofInt j.bits n).toNat)) sh
    | _, _ => none
  | .convert s d x => match P.underlying s, P.underlying d, evS f x with
    | some (.int _), some (.int j), some (.i _ n) => k (.i j (wrapF j n)) sh
    | some .string, some .string, some (.s l) => k (.s l) sh
    | some .string, some (.slice e), some (.s l) => match P.underlying e with | some (.int .u8) => newArr sh e (l.map fun c => [.i (Int.ofNat c)]) k | _ => none
    | some (.slice e), some .string, some x => match P.underlying e with
      | some (.int .u8) => match rowsOf sh x with | some (rows, _, _) => ifb (okBytes rows) (bif isRowOf sh e x then k (.s (bytesOfS rows)) sh else none) none | none => none
      | _ => none
    | _, _, _ => none
  | .makeFunc (.func g) a c => match evSL f a.toList, evSL f c.toList with | some a, some c => k (.fn (.func g) a c) sh | _, _ => none
  | .makeSlice t l c => match elemK P t, evS f l, evS f c with
    | some (e, n, m), some (.i _ l'), some (.i _ c') => match zeroS P e, ct P e with
      | some z, some cts => bif sameOp l c && (zeroOk P e n && Nat.blt 0 n) && (Nat.beq cts.length n && kindsOf sh z.cells cts) then (match dsOf sh z.cells with
        | some (ds, sh1) => ifb (inB l' 16777216) (ifb (Nat.ble (Nat.mul (toN l') m) 140737488355328) (newArr sh1 e (List.replicate (toN l') ds) k) none) none
        | none => none) else none
      | _, _ => none
    | _, _, _ => none
  | .slice t x lo hi mx => match P.underlying t, evS f x with
    | some .string, some (.s l) => match mx with | none => gv (sliceStr f l lo hi) sh k | some _ => none
    | some (.slice e), some x => match infoK P e with | some (n, _) => bif sizeOk P e n then sliceSl f sh e x lo hi mx k else none | none => none
    | _, _ => none
  | .fieldAddr t x j => match P.underlying t, evS f x with
    | some (.struct fs), some v => match fs[j]? with
      | some fd => match infoK P fd.type with
        | some (_ + 1, _) => match v with
          | .p (some (id, o)) => k (.p (some (id, Nat.add o fd.offset))) sh
          | .q e r i o => k (.q e r i (Nat.add o fd.offset)) sh
          | .qa id i o => k (.qa id i (Nat.add o fd.offset)) sh
          | _ => none
        | _ => none
      | none => none
    | _, _ => none
  | .field t x j => match P.underlying t, evS f x with
    | some (.struct fs), some (.ag l) => match fs[j]? with
      | some fd => match aggK P fd.type, infoK P fd.type with
        | some true, some (n, _) => match takeX n (dropR fd.offset l) with | some q => ov (packS true q) sh k | none => none
        | some false, _ => match takeX 1 (dropR fd.offset l) with | some q => ov (packS false q) sh k | none => none
        | _, _ => none
      | none => none
    | _, _ => none
  | .indexAddr t x ix => match P.underlying t, evS f x, evS f ix with
    | some (.slice e), some x, some (.i _ j) => bif !(match infoK P e with | some (n, _) => sizeOk P e n | none => false) then none else match x with
      | .l e' _ rows => bif Nat.beq e e' then ifb (inR j rows.length) (k (.q e rows (toN j) 0) sh) none else none
      | .sa id => match sh[id]? with | some (.arr _ e' rows) => bif Nat.beq e e' then ifb (inR j rows.length) (k (.qa id (toN j) 0) sh) none else none | _ => none
      | .sv id lo hi => match sh[id]? with | some (.arr _ e' rows) => bif Nat.beq e e' then ifb (inR j (Nat.sub hi lo)) (k (.qa id (Nat.add lo (toN j)) 0) sh) none else none | _ => none
      | _ => none
    | some (.array m e), some (.p (some (id, o))), some (.i _ j) => match infoK P e with | some (n, _) => bif inR j m then k (.p (some (id, Nat.add o (Nat.mul (toN j) n)))) sh else none | none => none
    | some (.array m e), some (.pa id o), some (.i _ j) => match infoK P e with | some (n, _) => ifb (inR j m) (k (.pa id (Nat.add o (Nat.mul (toN j) n))) sh) none | none => none
    | _, _, _ => none
  | .index t x ix => match P.underlying t, evS f x, evS f ix with
    | some .string, some (.s l), some (.i _ j) => ifb (inR j (lenR l)) (k (.i .u8 (Int.ofNat (l.getD (toN j) 0))) sh) none
    | some (.array m e), some (.ag l), some (.i _ j) => match aggK P e, infoK P e with
      | some true, some (n, _) => bif inR j m then (match takeX n (dropR (Nat.mul (toN j) n) l) with | some q => ov (packS true q) sh k | none => none) else none
      | some false, some (n, _) => bif inR j m then (match takeX 1 (dropR (Nat.mul (toN j) n) l) with | some q => ov (packS false q) sh k | none => none) else none
      | _, _ => none
    | _, _, _ => none
  | .extract t ix => match evS f t with | some (.tu l) => ov (extS l ix) sh k | _ => none
  | .call c => match c.callee, evSL f c.args.toList with
    | .builtin b, some as => bltS P f sh b c.argTypes.toList as k
    | _, _ => none
  | _ => none
end ops
end Go.Sy


set_option linter.all false
noncomputable section
namespace Go.Sy
open Go Go.Av
variable (P : Program)
/-! ### Which temporaries code reads, writes; which are kept over regions -/
def addN (l : List Nat) (n : Nat) : List Nat := bif memN n l then l else n :: l
def addsN (l : List Nat) : List Nat → List Nat
  | [] => l
  | a :: r => addsN (addN l a) r
def tmpsO : List Operand → List Nat
  | [] => []
  | .tmp t :: r => t :: tmpsO r
  | _ :: r => tmpsO r
/-- read in a region ahead of being written there -/
def readsOps : List Oper → List Nat → List Nat → List Nat
  | [], _, acc => acc
  | o :: r, done, acc =>
    let rd := (tmpsO o.op.operands.toList).filter fun t => !memN t done
    readsOps r (match o.dst with | some t => t :: done | none => done) (addsN acc rd)
def keepC (c : Code) : List Nat → List Nat :=
  Code.rec (motive := fun _ => List Nat → List Nat) (fun acc => acc) (fun _ ops d acc => bif d then addsN acc ((ops.toList.map fun o => tmpsO o.op.operands.toList).flatten.filter fun t => !(ops.toList.any fun o => match o.dst with | some u => Nat.beq t u | none => false)) else readsOps ops.toList [] acc)
    (fun _ _ a b acc => b (a acc)) (fun c _ _ t e acc => e (t (addsN acc (tmpsO [c])))) (fun _ _ b => b) (fun _ b => b)
    (fun f _ _ _ a b acc => b (a (addsN acc (tmpsO [f])))) (fun _ acc => acc) (fun _ b => b) (fun _ acc => acc) (fun _ acc => acc) (fun acc => acc) (fun _ acc => acc) c
def resTmps : List ResultVar → List Nat
  | [] => []
  | .tmp t :: r => t :: resTmps r
  | .cell a _ :: r => a :: resTmps r
def keepF (fn : Func) : List Nat := match fn.body with | some c => addsN (keepC c []) (resTmps fn.results.toList) | none => []
/-- all that code reads -/
def rdC (c : Code) : List Nat → List Nat :=
  Code.rec (motive := fun _ => List Nat → List Nat) (fun acc => acc) (fun _ ops _ acc => addsN acc (ops.toList.map fun o => tmpsO o.op.operands.toList).flatten)
    (fun _ _ a b acc => b (a acc)) (fun c _ _ t e acc => e (t (addsN acc (tmpsO [c])))) (fun _ _ b => b) (fun _ b => b)
    (fun f _ _ _ a b acc => b (a (addsN acc (tmpsO [f])))) (fun _ acc => acc) (fun _ b => b) (fun _ acc => acc) (fun _ acc => acc) (fun acc => acc) (fun _ acc => acc) c
def wrD : Option Nat → List Nat
  | some t => [t]
  | none => []
def wrO : List Oper → List Nat
  | [] => []
  | o :: l => wrD o.dst ++ wrO l
/-- the temporaries that code writes -/
def wrC (c : Code) : List Nat := Code.rec (motive := fun _ => List Nat) [] (fun _ ops _ => wrO ops.toList) (fun _ _ a b => a ++ b) (fun _ _ _ t e => t ++ e) (fun _ _ b => b) (fun _ b => b) (fun _ _ _ _ _ _ => []) (fun _ => []) (fun _ b => b) (fun _ => []) (fun _ => []) [] (fun _ => []) c
/-! ### Leaves -/
mutual
def lvV : SV → List D
  | .i _ n => [.i n]
  | .b c => [.b c]
  | .s t => [.s t]
  | .l _ _ rows => [.l rows]
  | .q _ rows ix _ => [.l rows, .i (Int.ofNat ix)]
  | .sv _ lo hi => [.i (Int.ofNat lo), .i (Int.ofNat hi)]
  | .pa _ ix => [.i (Int.ofNat ix)]
  | .o d => [enc d]
  | .fn _ a c => lvL a ++ lvL c
  | .ag t => lvL t
  | .tu t => lvL t
  | _ => []
def lvL : List SV → List D
  | [] => []
  | v :: r => lvV v ++ lvL r
end
def lvB : SB → List D
  | .cells _ vs => lvL vs
  | .arr .ow _ rows => [.l rows]
  | _ => []
def lvH : SH → List D
  | [] => []
  | x :: r => lvB x ++ lvH r
def hdD (v : List D) : D := v.getD 0 (.i 0)
mutual
def flV : SV → List D → SV × List D
  | .i k _, v => (.i k (hdD v).int, v.tail)
  | .b _, v => (.b (hdD v).bool, v.tail)
  | .s _, v => (.s (hdD v).str, v.tail)
  | .l e ex _, v => (.l e ex (hdD v).rows, v.tail)
  | .q e _ _ off, v => (.q e (hdD v).rows (toN (hdD v.tail).int) off, v.tail.tail)
  | .sv id _ _, v => (.sv id (toN (hdD v).int) (toN (hdD v.tail).int), v.tail.tail)
  | .pa id _, v => (.pa id (toN (hdD v).int), v.tail)
  | .o _, v => (.o (dec (hdD v)), v.tail)
  | .fn g a c, v => match flL a v with | (a', v1) => match flL c v1 with | (c', v2) => (.fn g a' c', v2)
  | .ag t, v => match flL t v with | (t', v1) => (.ag t', v1)
  | .tu t, v => match flL t v with | (t', v1) => (.tu t', v1)
  | x, v => (x, v)
def flL : List SV → List D → List SV × List D
  | [], v => ([], v)
  | a :: r, v => match flV a v with | (a', v1) => match flL r v1 with | (r', v2) => (a' :: r', v2)
end
def flB : SB → List D → SB × List D
  | .cells t vs, v => match flL vs v with | (q, v1) => (.cells t q, v1)
  | .arr .ow e _, v => (.arr .ow e (hdD v).rows, v.tail)
  | x, v => (x, v)
def flH : SH → List D → SH × List D
  | [], v => ([], v)
  | x :: r, v => match flB x v with | (x', v1) => match flH r v1 with | (r', v2) => (x' :: r', v2)
/-- the slots that are carried -/
def lvF (c : Nat → Bool) : Nat → SF → List D
  | _, [] => []
  | t, v :: r => bif c t then lvV v ++ lvF c (t + 1) r else lvF c (t + 1) r
def flF (c : Nat → Bool) : Nat → SF → List D → SF × List D
  | _, [], v => ([], v)
  | t, a :: r, v => bif c t then (match flV a v with | (a', v1) => match flF c (t + 1) r v1 with | (r', v2) => (a' :: r', v2)) else (match flF c (t + 1) r v with | (r', v2) => (a :: r', v2))
/-! ### The boxes that values reach -/
mutual
def idsV : SV → List Nat
  | .sa id => [id]
  | .qa id _ _ => [id]
  | .p (some (id, _)) => [id]
  | .sv id _ _ => [id]
  | .pa id _ => [id]
  | .fn g a c => (match g with | .yield id => [id] | _ => []) ++ (idsL a ++ idsL c)
  | .ag t => idsL t
  | .tu t => idsL t
  | .mp (some id) => [id]
  | _ => []
def idsL : List SV → List Nat
  | [] => []
  | v :: r => idsV v ++ idsL r
end
def idsB (sh : SH) (id : Nat) : List Nat := match sh[id]? with | some (.cells _ vs) => idsL vs | _ => []
def reach (sh : SH) : Nat → List Nat → List Nat
  | 0, l => l
  | n + 1, l => let l' := addsN l ((l.map (idsB sh)).flatten); bif Nat.beq l'.length l.length then l else reach sh n l'
/-! ### A loop's head -/
/-- what a loop is told (wr: temporaries that are not written, of rows whose elements are; prune: regions that are not entered): temporaries that are nil and grow; that are nil and come to be rows that nobody writes; whose room stays known; elements of rows in boxes that are nil and grow -/
structure Hint where
  grow : List (Nat × TypeId) := []
  froz : List (Nat × TypeId) := []
  ex : List Nat := []
  boxes : List TypeId := []
  fz : List Nat := []   -- boxes that are never written
  view : List Nat := []
  wr : List Nat := []
  prune : List Nat := []
  un : List Nat := []   -- loops (by their first regions) that are run round by round
def ownB (sh : SH) (id : Nat) : Bool := match sh[id]? with | some (.arr .ow _ _) => true | _ => false
def frz1 (sh : SH) (id : Nat) : SH := match sh[id]? with | some (.arr .ro _ _) => sh | some (.arr _ e rows) => sh.set id (.arr .fr e rows) | _ => sh
def frzH : List Nat → SH → SH
  | [], sh => sh
  | id :: r, sh => frzH r (frz1 sh id)
def slotsP (p : Nat → Bool) : Nat → SF → List SV
  | _, [] => []
  | t, v :: r => bif p t then v :: slotsP p (t + 1) r else slotsP p (t + 1) r
/-- a place in a list -/
def ixN (id : Nat) : List Nat → Nat → Option Nat
  | [], _ => none
  | a :: r, k => bif Nat.beq a id then some k else ixN id r (k + 1)
def ixT {α : Type} (id : Nat) : List (Nat × α) → Nat → Option Nat
  | [], _ => none
  | a :: r, k => bif Nat.beq a.1 id then some k else ixT id r (k + 1)
mutual
/-- a value as it is over a loop: rows that are owned come under a new number, or are given up -/
def crV (ke : Bool) (A : List Nat) (n0 : Nat) (sh : SH) : SV → SV
  | .sa id => match ixN id A n0 with
    | some k => .sa k
    | none => match sh[id]? with | some (.arr .fr e rows) => .l e false rows | _ => .x
  | .sv id lo hi => match ixN id A n0 with
    | some k => .sv k lo hi
    | none => .x
  | .qa _ _ _ => .x
  | .l e ex rows => .l e (ex && ke) rows
  | .fn g a c => .fn g (crL ke A n0 sh a) (crL ke A n0 sh c)
  | .ag t => .ag (crL ke A n0 sh t)
  | .tu t => .tu (crL ke A n0 sh t)
  | v => v
def crL (ke : Bool) (A : List Nat) (n0 : Nat) (sh : SH) : List SV → List SV
  | [] => []
  | v :: r => crV ke A n0 sh v :: crL ke A n0 sh r
end
mutual
/-- a value that is but read over a loop -/
def uwV (A : List Nat) : SV → SV
  | .sa id => bif memN id A then .x else .sa id
  | .sv id lo hi => bif memN id A then .x else .sv id lo hi
  | .qa id ix off => bif memN id A then .x else .qa id ix off
  | .fn g a c => .fn g (uwL A a) (uwL A c)
  | .ag t => .ag (uwL A t)
  | .tu t => .tu (uwL A t)
  | v => v
def uwL (A : List Nat) : List SV → List SV
  | [] => []
  | v :: r => uwV A v :: uwL A r
end
def Own.lend : Own → Own
  | .fr => .fr
  | _ => .ro
/-- what is fixed of a loop -/
structure LHead where
  w : List Nat        -- written
  c : Nat → Bool      -- carried
  n0 : Nat            -- boxes ahead of the loop
  R : List Nat        -- boxes that are reached
  A : List Nat        -- rows that come under a new number
  shF : SH            -- the boxes of before
  f : SF              -- the head's slots
  sh : SH             -- the head's boxes
def nlT (hs : Hint) (n1 : Nat) (t : Nat) : SV := match ixT t hs.grow n1 with
  | some k => .sa k
  | none => match hs.froz.lookup t with | some e => .l e (memN t hs.ex) [] | none => .nl
def crT (hs : Hint) (A : List Nat) (n0 n1 : Nat) (sh : SH) (t : Nat) : SV → SV
  | .nl => nlT hs n1 t
  | .l e ex rows => .l e (ex && memN t hs.ex) rows
  | .sa id => bif memN t hs.view then (match sh[id]? with | some (.arr _ _ rows) => crV false A n0 sh (.sv id 0 rows.length) | _ => .x) else crV false A n0 sh (.sa id)
  | v => crV false A n0 sh v
def hdF (hs : Hint) (w rd : List Nat) (c : Nat → Bool) (A : List Nat) (n0 n1 : Nat) (sh : SH) : Nat → SF → SF
  | _, [] => []
  | t, v :: r => (bif c t then crT hs A n0 n1 sh t v else (bif !memN t w && memN t rd then uwV A v else .x)) :: hdF hs w rd c A n0 n1 sh (t + 1) r
/-- a box whose row is nil and grows -/
def nbOf (hs : Hint) (sh : SH) (id : Nat) : Option TypeId := match sh[id]? with
  | some (.cells t [.nl]) => match P.underlying t with | some (.slice e) => bif memN e hs.boxes then some e else none | _ => none
  | _ => none
def nbs (hs : Hint) (sh : SH) : List Nat → List (Nat × TypeId)
  | [] => []
  | id :: r => match nbOf P hs sh id with | some e => (id, e) :: nbs hs sh r | none => nbs hs sh r
def hdB (A R W : List Nat) (NB : List (Nat × TypeId)) (n0 n2 : Nat) (sh : SH) (id : Nat) : SB → SB
  | .cells t vs => bif memN id R then (match ixT id NB n2 with | some k => .cells t [.sa k] | none => .cells t (crL false A n0 sh vs)) else .hid
  | .arr o e rows => bif memN id W && !memN id A then .arr o e rows else (bif memN id R && !memN id A then .arr o.lend e rows else .hid)
  | _ => .hid
def hdH (A R W : List Nat) (NB : List (Nat × TypeId)) (n0 n2 : Nat) (sh : SH) : Nat → SH → SH
  | _, [] => []
  | i, x :: r => hdB A R W NB n0 n2 sh i x :: hdH A R W NB n0 n2 sh (i + 1) r
def headS (hs : Hint) (w rd keep : List Nat) (f : SF) (sh : SH) : LHead :=
  let c := fun t => memN t w && memN t keep
  let roC := idsL (slotsP c 0 f)
  let roU := idsL (slotsP (fun t => !memN t w && memN t rd) 0 f)
  let R := reach sh 50 (addsN [] (roC ++ roU))
  let A := (addsN [] (roC ++ (R.map (idsB sh)).flatten)).filter (ownB sh)
  let shF := sh
  let W := (idsL (slotsP (fun t => !memN t w && memN t hs.wr) 0 f)).filter (ownB sh)
  let n0 := sh.length
  let n1 := n0 + A.length
  let n2 := n1 + hs.grow.length
  let NB := nbs P hs sh R
  ⟨w, c, n0, R, A, shF, hdF hs w rd c A n0 n1 shF 0 f, hdH A R W NB n0 n2 shF 0 shF ++ (A.map (fun id => shF.getD id .hid) ++ (hs.grow.map (fun p => .arr .ow p.2 []) ++ NB.map (fun p => .arr .ow p.2 [])))⟩
/-! ### A round's end -/
mutual
/-- rows that are to be given up at a round's end -/
def frV : SV → SV → List Nat
  | .l _ _ _, .sa j => [j]
  | .l _ _ _, .sv j _ _ => [j]
  | .fn _ a c, .fn _ a' c' => frL a a' ++ frL c c'
  | .ag a, .ag c => frL a c
  | .tu a, .tu c => frL a c
  | _, _ => []
def frL : List SV → List SV → List Nat
  | a :: p, c :: q => frV a c ++ frL p q
  | _, _ => []
end
def frF (c : Nat → Bool) : Nat → SF → SF → List Nat
  | t, a :: r, v :: q => bif c t then frV a v ++ frF c (t + 1) r q else frF c (t + 1) r q
  | _, _, _ => []
def frB : SB → SB → List Nat
  | .cells _ a, .cells _ c => frL a c
  | _, _ => []
def frBs : SH → SH → List Nat
  | x :: r, y :: q => frB x y ++ frBs r q
  | _, _ => []
abbrev Ps := List (Nat × Option Nat)
mutual
/-- a value against the head's: its leaves; which owned row came of which -/
def mtV (n0 : Nat) (sh : SH) : SV → SV → Option (List D × Ps)
  | .i k _, .i j n => bif keq k j then some ([.i n], []) else none
  | .b _, .b c => some ([.b c], [])
  | .s _, .s t => some ([.s t], [])
  | .l e ex _, .l e' ex' rows => bif Nat.beq e e' && (!ex || ex') then some ([.l rows], []) else none
  | .l _ _ _, .nl => some ([.l []], [])
  | .l e ex _, .sa j => match sh[j]? with | some (.arr .fr e' rows) => bif Nat.beq e e' && !ex then some ([.l rows], []) else none | _ => none
  | .l e ex _, .sv j lo hi => match sh[j]? with | some (.arr .fr e' rows) => bif Nat.beq e e' && !ex then some ([.l ((rows.drop lo).take (Nat.sub hi lo))], []) else none | _ => none
  | .q e _ _ off, .q e' rows ix off' => bif Nat.beq e e' && Nat.beq off off' then some ([.l rows, .i (Int.ofNat ix)], []) else none
  | .sa i, .sa j => bif ownB sh j && Nat.ble n0 i then some ([], [(i, some j)]) else none
  | .sv i _ _, .sv j lo hi => bif ownB sh j && Nat.ble n0 i then some ([.i (Int.ofNat lo), .i (Int.ofNat hi)], [(i, some j)]) else none
  | .sv i _ _, .sa j => match sh[j]? with | some (.arr .ow _ rows) => bif Nat.ble n0 i then some ([.i (Int.ofNat 0), .i (Int.ofNat rows.length)], [(i, some j)]) else none | _ => none
  | .sa i, .nl => bif Nat.ble n0 i then some ([], [(i, none)]) else none
  | .p none, .p none => some ([], [])
  | .p (some (a, o)), .p (some (b, o')) => bif Nat.beq a b && (Nat.beq o o' && Nat.blt a n0) then some ([], []) else none
  | .pa a _, .pa b ix => bif Nat.beq a b && Nat.blt a n0 then some ([.i (Int.ofNat ix)], []) else none
  | .fn g a c, .fn g' a' c' => bif decide (g = g') && (match g with | .func _ => true | .yield id => Nat.blt id n0) then (match mtL n0 sh a a', mtL n0 sh c c' with
    | some (l, r), some (l', r') => some (l ++ l', r ++ r')
    | _, _ => none) else none
  | .o _, .o d => some ([enc d], [])
  | .nl, .nl => some ([], [])
  | .nilF, .nilF => some ([], [])
  | .nilI, .nilI => some ([], [])
  | .ag a, .ag c => mtL n0 sh a c
  | .tu a, .tu c => mtL n0 sh a c
  | .mp none, .mp none => some ([], [])
  | .mp (some a), .mp (some b) => bif Nat.beq a b && Nat.blt a n0 then some ([], []) else none
  | .x, _ => some ([], [])
  | _, _ => none
def mtL (n0 : Nat) (sh : SH) : List SV → List SV → Option (List D × Ps)
  | [], [] => some ([], [])
  | a :: p, c :: q => match mtV n0 sh a c, mtL n0 sh p q with
    | some (l, r), some (l', r') => some (l ++ l', r ++ r')
    | _, _ => none
  | _, _ => none
end
def mtF (c : Nat → Bool) (n0 : Nat) (sh : SH) : Nat → SF → SF → Option (List D × Ps)
  | _, [], _ => some ([], [])
  | t, a :: r, q => bif c t then (match mtV n0 sh a (q.headD .x), mtF c n0 sh (t + 1) r q.tail with
    | some (l, p), some (l', p') => some (l ++ l', p ++ p')
    | _, _ => none) else mtF c n0 sh (t + 1) r q.tail
def mtB (n0 : Nat) (sh : SH) : SB → SB → Option (List D × Ps)
  | .cells t a, .cells t' v => bif Nat.beq t t' then mtL n0 sh a v else none
  | .hid, _ => some ([], [])
  | .arr .ow e _, .arr o e' rows => match o with | .ow => bif Nat.beq e e' then some ([.l rows], []) else none | _ => none
  | .arr _ _ _, .arr o _ _ => match o with | .ow => none | _ => some ([], [])
  | _, _ => none
/-- the boxes ahead of the loop -/
def mtBs (n0 : Nat) (sh : SH) : SH → SH → Option (List D × Ps)
  | [], _ => some ([], [])
  | x :: r, y :: q => match mtB n0 sh x y, mtBs n0 sh r q with
    | some (l, p), some (l', p') => some (l ++ l', p ++ p')
    | _, _ => none
  | _, [] => none
/-- is each new number of one row, and no two of the same? -/
def okPs : Ps → Bool
  | [] => true
  | (i, o) :: r => r.all (fun p => match Nat.beq i p.1, o, p.2 with
    | true, none, none => true
    | true, some a, some b => Nat.beq a b
    | true, _, _ => false
    | false, some a, some b => !Nat.beq a b
    | false, _, _ => true) && okPs r
/-- the block that a new number stands for -/
def toP (ps : Ps) (i : Nat) : Option Nat := match ps.lookup i with | some o => o | none => none
def mtA (sh : SH) (ps : Ps) : Nat → SH → Option (List D)
  | _, [] => some []
  | i, .arr _ e _ :: r => match (match toP ps i with
      | none => some []
      | some j => match sh[j]? with | some (.arr .ow e' rows) => bif Nat.beq e e' then some rows else none | _ => none), mtA sh ps (i + 1) r with
    | some rows, some l => some (.l rows :: l)
    | _, _ => none
  | _, _ => none
def endS0 (L : LHead) (f : SF) (sh : SH) : SH := frzH (frF L.c 0 L.f f ++ frBs (L.sh.take L.n0) sh) sh
/-- rows that are written in place stay as long -/
def lenC : SH → SH → Bool
  | .arr .ow _ rows :: r, .arr _ _ rows' :: q => ifb (Nat.beq rows'.length rows.length) (lenC r q) false
  | _ :: r, _ :: q => lenC r q
  | _, _ => true
def matchS (L : LHead) (f : SF) (sh : SH) : Option (Bool × List D) :=
  let sh' := endS0 L f sh
  match mtF L.c L.n0 sh' 0 L.f f, mtBs L.n0 sh' (L.sh.take L.n0) sh' with
  | some (l, p), some (l', p') => bif okPs (p ++ p') && (p ++ p').all (fun x => Nat.ble L.n0 x.1 && (Nat.blt x.1 L.sh.length && match x.2 with | some j => Nat.ble L.n0 j | none => true)) then (match mtA sh' (p ++ p') L.n0 (L.sh.drop L.n0) with | some l2 => some (lenC (L.sh.take L.n0) sh', l ++ (l' ++ l2)) | none => none) else none
  | _, _ => none
/-! ### Behind a loop -/
mutual
def clV (n0 : Nat) : SV → SV
  | .sa id => bif Nat.blt id n0 then .x else .sa id
  | .sv id lo hi => bif Nat.blt id n0 then .x else .sv id lo hi
  | .qa id ix off => bif Nat.blt id n0 then .x else .qa id ix off
  | .fn g a c => .fn g (clL n0 a) (clL n0 c)
  | .ag t => .ag (clL n0 t)
  | .tu t => .tu (clL n0 t)
  | v => v
def clL (n0 : Nat) : List SV → List SV
  | [] => []
  | v :: r => clV n0 v :: clL n0 r
end
def clB (n0 : Nat) : SB → SB
  | .cells t vs => .cells t (clL n0 vs)
  | y => y
def clH (n0 : Nat) : SH → SH
  | [] => []
  | x :: r => clB n0 x :: clH n0 r
def exF (w : List Nat) (n0 : Nat) : Nat → SF → SF → SF
  | _, [], _ => []
  | t, a :: r, q => (bif memN t w then clV n0 (q.headD .x) else a) :: exF w n0 (t + 1) r q.tail
/-- the head's boxes, those of before, those of now -/
def exH (A : List Nat) (n0 : Nat) : Nat → SH → SH → SH → SH
  | i, .cells _ _ :: s, _ :: o, y :: n => clB n0 y :: exH A n0 (i + 1) s o n
  | i, .arr .ow _ _ :: s, _ :: o, y :: n => clB n0 y :: exH A n0 (i + 1) s o n
  | i, _ :: s, x :: o, _ :: n => (bif memN i A then .hid else x) :: exH A n0 (i + 1) s o n
  | _, _, _, n => clH n0 n
inductive SEx where
  | norm
  | exit (id : Nat)
  | goto (l : Nat)
  | ret
abbrev Kt (ρ : Type) := SEx → SF → SH → Option ρ
section
variable {ρ : Type}
def loopK (step : (List D → Option ρ) → List D → Option ρ) (n : Nat) : List D → Option ρ := Nat.rec (fun _ => none) (fun _ ih v => step ih v) n
/-- a loop, round by round -/
def unrollS (body : SF → SH → Kt ρ → Option ρ) (again : SEx → Bool) (n : Nat) : SF → SH → Kt ρ → Option ρ :=
  Nat.rec (fun _ _ _ => none) (fun _ ih f sh k => body f sh fun ex f' sh' => bif again ex then ih f' sh' k else k ex f' sh') n
/-- a loop's rounds, from a state on -/
def loopS (hs : Hint) (N : Nat) (w rd keep : List Nat) (body : SF → SH → Kt ρ → Option ρ) (again : SEx → Bool) (f : SF) (sh : SH) (k : Kt ρ) : Option ρ :=
  let L := headS P hs w rd keep f sh
  loopK (fun rec v => match flF L.c 0 L.f v with
    | (f2, v1) => body f2 (flH L.sh v1).1 fun ex f' sh' => bif again ex then (match matchS L f' sh' with | some (c, v') => ifb c (rec v') none | none => none) else k ex (exF w L.n0 0 f f') (exH L.A L.n0 0 (L.sh.take L.n0) L.shF sh')) N (lvF L.c 0 L.f ++ lvH L.sh)
end
end Go.Sy


set_option linter.all false
noncomputable section
namespace Go.Sy
open Go Go.Av
variable (P : Program)
/-! ### The machine -/
section
variable {ρ : Type}
abbrev CallT (ρ : Type) := Nat → List SV → SH → (SV → SH → Option ρ) → Option ρ
structure Ctx (ρ : Type) where
  N : Nat
  keep : List Nat
  hs : Hint
  call : CallT ρ
mutual
/-- a value without places -/
def noR : SV → Bool
  | .i _ _ => true
  | .b _ => true
  | .s _ => true
  | .ag l => noRs l
  | .tu l => noRs l
  | _ => false
def noRs : List SV → Bool
  | [] => true
  | a :: r => noR a && noRs r
end
/-- a type without rows, without places -/
def flatT (t : TypeId) : Bool := match ct P t with | some cts => cts.all (fun c => match c with | .l _ => false | _ => true) | none => false
/-- a call that can touch nothing that there is: values without places go in, and come out -/
def quiet (j : Nat) (as : List SV) : Bool := noRs as && (match P.funcs[j]? with | some fn => fn.resultTypes.all (flatT P) | none => false)
def callQ (C : CallT ρ) : CallT ρ := fun j as sh k => bif quiet P j as then C j as [] (fun v _ => bif noR v then k v sh else none) else C j as sh k
def setT (f : SF) (t : Option Nat) (v : SV) : SF := match t with | some t => f.set t v | none => f
/-- a box that is never written: an element of a row that nobody writes -/
def boxF (f : SF) (sh : SH) (t : TypeId) (x : Operand) (k : SV → SH → Option ρ) : Option ρ := match evS f x, ct P t with
  | some v, some cts => bif v.known && kindsOf sh v.cells cts then (match dsOf sh v.cells with | some (ds, sh1) => k (.q t [ds] 0 0) sh1 | none => none) else none
  | _, _ => none
def fzT (C : Ctx ρ) (d : Option Nat) : Bool := match d with | some t => memN t C.hs.fz | none => false
/-- one operation -/
def oneS (C : Ctx ρ) (f : SF) (sh : SH) (o : Oper) (k : SF → SH → Option ρ) : Option ρ :=
  match o.op with
  | .call c => match c.callee with
    | .value g => match evS f g, evSL f c.args.toList with
      | some (.fn (.func j) first cap), some as => callQ P C.call j (first ++ (as ++ cap)) sh fun v sh' => k (setT f o.dst v) sh'
      | _, _ => none
    | _ => opS P f sh o.op fun v sh' => k (setT f o.dst v) sh'
  | .box t x => bif fzT C o.dst then boxF P f sh t x fun v sh' => k (setT f o.dst v) sh' else opS P f sh o.op fun v sh' => k (setT f o.dst v) sh'
  | _ => opS P f sh o.op fun v sh' => k (setT f o.dst v) sh'
def guardS (C : Ctx ρ) (all : Array Oper) (f : SF) (sh : SH) (o : Oper) (k : SF → SH → Option ρ) : Option ρ :=
  match o.guard with
  | none => oneS P C f sh o k
  | some (j, w) => match (all[j]?).bind (·.dst) with
    | some t => match f.getD t .x with
      | .b c => ifb (ifb w c (!c)) (oneS P C (f.set t (.b w)) sh o k) (k (setT (f.set t (.b (!w))) o.dst (.tu [])) sh)
      | .tu [] => k (setT f o.dst (.tu [])) sh
      | _ => none
    | none => none
def opsS (C : Ctx ρ) (all : Array Oper) : List Oper → SF → SH → (SF → SH → Option ρ) → Option ρ
  | [], f, sh, k => k f sh
  | o :: r, f, sh, k => guardS P C all f sh o fun f sh => opsS C all r f sh k
/-- may a region that draws be run in the machine's order, all that is made laid? -/
def planOk [Tok] : List Nat → List DOper → Bool
  | _, [] => true
  | pend, d :: r => match clsOf d.o.op with
    | 0 => planOk pend r
    | 1 => (pend.all fun i => memN i d.need) && planOk pend r
    | 2 => planOk (d.idx :: pend) r
    | _ => (pend.all fun i => memN i d.need) && planOk (match d.o.guard with | none => [] | some _ => pend) r
/-- how an operation of such a region is run: its place, does it make, how many boundaries back it must read alike, is it a turn -/
def howS [Tok] (d : DOper) : Nat × Bool × Nat × Bool := (d.idx, Nat.beq (clsOf d.o.op) 2, (bif Nat.beq (clsOf d.o.op) 1 then d.lo else 0), Nat.beq (clsOf d.o.op) 3)
def orderS [Tok] (N : Nat) (ops : Array Oper) : Option (List (Nat × Bool × Nat × Bool) × Nat) := match planK P N ops with
  | some l => bif planOk [] l then some (l.map howS, made l) else none
  | none => none
/-- a load of values without places from a box -/
def rdQ (f : SF) (sh : SH) (o : Oper) : Bool := match o.op with
  | .load t a => match evS f a with
    | some (.p (some x)) => match aggK P t, infoK P t with
      | some true, some (n, _) => match loadS P sh true n t (.p (some x)) with | some v => noR v | none => false
      | some false, _ => match loadS P sh false 1 t (.p (some x)) with | some v => noR v | none => false
      | _, _ => false
    | _ => false
  | _ => false
/-- an operation that leaves the boxes -/
def stillO (o : Oper) : Bool := match o.op with
  | .move _ => true
  | .assign _ => true
  | .pick _ _ _ => true
  | .load _ _ => true
  | .binOp _ _ _ _ _ => true
  | .unOp _ _ _ => true
  | .fieldAddr _ _ _ => true
  | .field _ _ _ => true
  | .index _ _ _ => true
  | .indexAddr _ _ _ => true
  | .extract _ _ => true
  | _ => false
def quietO (f : SF) (o : Oper) : Bool := match o.op with
  | .call c => match c.callee with
    | .value g => match evS f g, evSL f c.args.toList with
      | some (.fn (.func j) first cap), some as => quiet P j (first ++ (as ++ cap))
      | _, _ => false
    | _ => false
  | _ => false
def quietG (all : Array Oper) (f : SF) (o : Oper) : Bool := match o.guard with
  | none => quietO P f o
  | some (j, w) => match (all[j]?).bind (·.dst) with
    | some t => quietO P (f.set t (.b w)) o
    | none => false
/-- a block at a kept place -/
def mkS (f : SF) (sh : SH) (o : Oper) (rid : Nat) (k : SF → SH → Option ρ) : Option ρ := match sh[rid]? with
  | some .rsv => opS P f sh o.op fun v sh' => k (setT f o.dst v) (sh'.set rid .hid)
  | _ => none
def makeS (all : Array Oper) (f : SF) (sh : SH) (o : Oper) (rid : Nat) (k : Bool → SF → SH → Option ρ) : Option ρ :=
  match o.guard with
  | none => mkS P f sh o rid (k true)
  | some (j, w) => match (all[j]?).bind (·.dst) with
    | some t => match f.getD t .x with
      | .b c => ifb (ifb w c (!c)) (mkS P (f.set t (.b w)) sh o rid (k true)) (k false (setT (f.set t (.b (!w))) o.dst .x) sh)
      | _ => none
    | none => none
def hideN (base : Nat) : Nat → SH → SH
  | 0, sh => sh
  | n + 1, sh => hideN base n (sh.set (base + n) .hid)
/-- temporaries that point into rows that nobody writes -/
def zsF : Nat → SF → List Nat
  | _, [] => []
  | t, .q _ _ _ _ :: r => bif Nat.blt t 512 then t :: zsF (t + 1) r else zsF (t + 1) r
  | t, _ :: r => zsF (t + 1) r
def zDel (zs : List Nat) (d : Option Nat) : List Nat := match d with | some t => zs.filter (fun u => !Nat.beq u t) | none => zs
/-- which of them an operation leaves, or makes -/
def zNext (zs : List Nat) (o : Oper) : List Nat := match o.op, o.guard, o.dst with
  | .fieldAddr _ (.tmp a) _, none, some t => bif memN a zs then t :: zDel zs o.dst else zDel zs o.dst
  | _, _, _ => zDel zs o.dst
/-- a load of values without places from a row that nobody writes, and that lay when the region began -/
def rdZ (zs : List Nat) (f : SF) (sh : SH) (o : Oper) : Bool := match o.op with
  | .load t (.tmp a) => memN a zs && (match evS f (.tmp a) with
    | some v => match aggK P t, infoK P t with
      | some true, some (n, _) => match loadS P sh true n t v with | some w => noR w | none => false
      | some false, _ => match v with | .pa _ _ => false | v => match loadS P sh false 1 t v with | some w => noR w | none => false
      | _, _ => false
    | none => false)
  | _ => false
/-- nb: so many boundaries back (no block that was made but does not lie since); q: at so many boundaries back all was as it is now; pe: may a block that was made lie not yet? -/
def dopsS (C : Ctx ρ) (all : Array Oper) (base n : Nat) : List (Nat × Bool × Nat × Bool) → Nat → Bool → Nat → Nat → List Nat → SF → SH → (SF → SH → Option ρ) → Option ρ
  | [], _, _, _, _, _, f, sh, k => k f (hideN base n sh)
  | (i, mk, lo, tn) :: r, q, pe, rid, nb, zs, f, sh, k => match all[i]? with
    | some o => bif mk then makeS P all f sh o rid fun b f sh => dopsS C all base n r 0 true (bif b then rid + 1 else rid) 0 (zDel zs o.dst) f sh k else
      bif Nat.beq lo 0 || ((Nat.ble lo q && rdQ P f sh o) || (Nat.ble lo nb && rdZ P zs f sh o)) then guardS P C all f sh o fun f' sh' => dopsS C all base n r (bif tn then (bif !pe && quietG P all f o then q + 1 else 0) else bif stillO o then q else 0) (bif tn && o.guard.isNone then false else pe) rid (bif tn then (bif !pe then nb + 1 else 0) else nb) (zNext zs o) f' sh' k else none
    | none => none
def hasLab (l : Nat) (c : Code) : Bool :=
  Code.rec (motive := fun _ => Bool) false (fun _ _ _ => false) (fun _ _ a b => a || b) (fun _ _ _ _ _ => false) (fun _ _ _ => false) (fun _ _ => false) (fun _ _ _ _ _ _ => false) (fun _ => false) (fun _ _ => false) (fun l' => Nat.beq l l') (fun _ => false) false (fun _ => false) c
def isNormS : SEx → Bool
  | .norm => true
  | _ => false
def isGoto (l : Nat) : SEx → Bool
  | .goto l' => Nat.beq l l'
  | _ => false
end
variable {ρ : Type} [Tok]
def condT (f : SF) (c : Operand) (x : Bool) : SF := match c with
  | .tmp i => f.set i (.b x)
  | _ => f
/-- the first region of code -/
def fstR (c : Code) : Nat := Code.rec (motive := fun _ => Nat) 1000000 (fun id _ _ => id) (fun _ _ a b => bif Nat.blt a 1000000 then a else b) (fun _ _ _ t _ => t) (fun _ _ b => b) (fun _ b => b) (fun _ _ _ _ _ _ => 1000000) (fun _ => 1000000) (fun _ b => b) (fun _ => 1000000) (fun _ => 1000000) 1000000 (fun _ => 1000000) c
/-- code; mode: from a label on -/
def runC (C : Ctx ρ) (ntmps : Nat) (c : Code) : Option Nat → SF → SH → Kt ρ → Option ρ :=
  Code.rec (motive := fun _ => Option Nat → SF → SH → Kt ρ → Option ρ)
    (fun m f sh k => match m with | none => k .norm f sh | _ => none)
    (fun id ops d m f sh k => match m with
      | none => bif memN id C.hs.prune then none else bif ops.toList.all fun o => dstK ntmps o.dst then (bif d then (match orderS P ntmps ops with | some (l, n) => dopsS P C ops sh.length n l 0 false sh.length 0 (zsF 0 f) f (sh ++ List.replicate n .rsv) fun f sh => k .norm f sh | none => none) else opsS P C ops ops.toList f sh fun f sh => k .norm f sh) else none
      | _ => none)
    (fun ca _ a b m f sh k =>
      let both := fun m => a m f sh fun ex f sh => match ex with | .norm => b none f sh k | ex => k ex f sh
      match m with
      | none => both none
      | some l => bif hasLab l ca then both (some l) else b (some l) f sh k)
    (fun c _ _ t e m f sh k => match m with
      | none => match evS f c with
        | some (.b x) => ifb x (t none (condT f c true) sh k) (e none (condT f c false) sh k)
        | _ => none
      | _ => none)
    (fun id _ b m f sh k => match m with
      | none => b none f sh fun ex f sh => match ex with | .exit i => bif Nat.beq i id then k .norm f sh else k ex f sh | ex => k ex f sh
      | _ => none)
    (fun cb b m f sh k => match m with | none => bif memN (fstR cb) C.hs.un then unrollS (fun f sh k => b none f sh k) isNormS 8 f sh k else loopS P C.hs C.N (wrC cb) (rdC cb []) C.keep (fun f sh k => b none f sh k) isNormS f sh k | _ => none)
    (fun _ _ _ _ _ _ _ _ _ _ => none)
    (fun id m f sh k => match m with | none => k (.exit id) f sh | _ => none)
    (fun ca b m f sh k => match m with
      | none => b none f sh fun ex f sh => match ex with
        | .goto l => bif hasLab l ca then loopS P C.hs C.N (wrC ca) (rdC ca []) C.keep (fun f sh k => b (some l) f sh k) (isGoto l) f sh (fun ex f sh => match ex with | .goto l2 => bif hasLab l2 ca then none else k (.goto l2) f sh | ex => k ex f sh) else k (.goto l) f sh
        | ex => k ex f sh
      | _ => none)
    (fun l' m f sh k => match m with | none => k .norm f sh | some l => bif Nat.beq l l' then k .norm f sh else none)
    (fun l m f sh k => match m with | none => k (.goto l) f sh | _ => none)
    (fun m f sh k => match m with | none => k .ret f sh | _ => none)
    (fun _ _ _ _ _ => none) c
def resS (f : SF) (sh : SH) : List ResultVar → Option (List SV)
  | [] => some []
  | .tmp t :: r => match resS f sh r with | some q => some (f.getD t .x :: q) | none => none
  | .cell a t :: r => match aggK P t, infoK P t, f.getD a .x, resS f sh r with
    | some true, some (n, _), v, some q => match loadS P sh true n t v with | some w => some (w :: q) | none => none
    | some false, _, v, some q => match loadS P sh false 1 t v with | some w => some (w :: q) | none => none
    | _, _, _, _ => none
def retS : List SV → SV
  | [] => .tu []
  | [v] => v
  | l => .tu l
def padF (n : Nat) (l : List SV) : SF := l ++ List.replicate (Nat.sub n l.length) .x
/-- a function's contract, if it has one -/
abbrev Ctr (ρ : Type) := Nat → Option (List SV → SH → (SV → SH → Option ρ) → Option ρ)
/-- a call's end -/
def endS (fn : Func) (k : SV → SH → Option ρ) (ex : SEx) (f : SF) (sh : SH) : Option ρ := match ex with
  | .norm => match resS P f sh fn.results.toList with | some l => k (retS l) sh | none => none
  | .ret => match resS P f sh fn.results.toList with | some l => k (retS l) sh | none => none
  | _ => none
def callS (ct : Ctr ρ) (hs : Nat → Hint) (N : Nat) (d : Nat) : CallT ρ :=
  Nat.rec (fun _ _ _ _ => none) (fun _ ih j as sh k => match ct j with
    | some g => g as sh k
    | none => match P.funcs[j]? with
      | some fn => match fn.body with
        | some c => bif Nat.ble as.length (minN 40 fn.ntmps) && (resK P fn.results.toList).isSome then runC P ⟨N, keepF fn, hs j, ih⟩ fn.ntmps c none (padF fn.ntmps as) sh (endS P fn k) else none
        | none => none
      | none => none) d
end Go.Sy


set_option linter.all false
namespace Go.Sy
open Go Go.Av
variable [Glb] {P : Program}
/-- what nobody writes stays -/
structure Zle (Z : Pos → Prop) (h : Hp) (Z' : Pos → Prop) (h' : Hp) : Prop where
  z : ∀ b, Z b → Z' b
  zc : ∀ b c, Z b → h.get b = some (.cells c) → ∃ o st, h'.get b = some (.cells ⟨c.vs, o, st⟩)
theorem Tran.zle {Z h m sh Z' h' m' sh'} (t : Tran P Z h m sh Z' h' m' sh') : Zle Z h Z' h' := ⟨t.z, t.zc⟩
section
variable {Z Z' : Pos → Prop} {h h' : Hp}
mutual
theorem CR.mono (z : Zle Z h Z' h') : ∀ (d : D) (c : CT) (v : AVal), CR P Z h d c v → CR P Z' h' d c v
  | .i n, c, v, hv => by cases c <;> simp only [CR] at hv ⊢ <;> exact hv
  | .b n, c, v, hv => by cases c <;> simp only [CR] at hv ⊢ <;> exact hv
  | .s n, c, v, hv => by cases c <;> simp only [CR] at hv ⊢ <;> exact hv
  | .l rows, c, v, hv => by
    cases c <;> simp only [CR] at hv ⊢
    obtain ⟨a, cc, g, e, hc, hgo, hr⟩ := hv
    refine ⟨a, cc, g, e, hc, hgo, hr.imp (fun h => h) ?_⟩
    rintro ⟨cts, b, o, vs, own, st, h1, h2, h3, h4, h5, h6⟩
    obtain ⟨o', st', h7⟩ := z.zc b _ h3 h4
    exact ⟨cts, b, o, vs, o', st', h1, h2, z.z b h3, h7, h5, RowsR.mono z rows cts _ h6⟩
theorem RowR.mono (z : Zle Z h Z' h') : ∀ (d : List D) (c : List CT) (v : List AVal), RowR P Z h d c v → RowR P Z' h' d c v
  | [], c, v, hv => by cases c <;> cases v <;> simp only [RowR] at hv ⊢
  | d :: ds, c, v, hv => by
    cases c <;> cases v <;> simp only [RowR] at hv ⊢
    exact ⟨CR.mono z d _ _ hv.1, RowR.mono z ds _ _ hv.2⟩
theorem RowsR.mono (z : Zle Z h Z' h') : ∀ (d : List (List D)) (c : List CT) (v : List AVal), RowsR P Z h d c v → RowsR P Z' h' d c v
  | [], c, v, hv => by simp only [RowsR] at hv ⊢; exact hv
  | r :: rs, c, v, hv => by
    simp only [RowsR] at hv ⊢
    obtain ⟨l1, l2, e, h1, h2⟩ := hv
    exact ⟨l1, l2, e, RowR.mono z r _ _ h1, RowsR.mono z rs _ _ h2⟩
end
mutual
theorem OV.mono (z : Zle Z h Z' h') : ∀ (d : DV) (v : AVal), OV Z h d v → OV Z' h' d v
  | .i _ _, v, hv => by simp only [OV] at hv ⊢; exact hv
  | .b _, v, hv => by simp only [OV] at hv ⊢; exact hv
  | .s _, v, hv => by simp only [OV] at hv ⊢; exact hv
  | .nil, v, hv => by simp only [OV] at hv ⊢; exact hv
  | .sl n e cs, v, hv => by
    simp only [OV] at hv ⊢
    refine hv.imp (fun h => h) ?_
    rintro ⟨h0, b, o, g, vs, own, st, h1, h2, h4, h5, h6, h7, h8⟩
    obtain ⟨o', st', h9⟩ := z.zc b _ h4 h5
    exact ⟨h0, b, o, g, vs, o', st', h1, h2, z.z b h4, h9, h6, h7, OVL.mono z cs _ h8⟩
  | .ag cs, v, hv => by simp only [OV] at hv ⊢; obtain ⟨l, h1, h2⟩ := hv; exact ⟨l, h1, OVL.mono z cs _ h2⟩
  | .tu cs, v, hv => by simp only [OV] at hv ⊢; obtain ⟨l, h1, h2⟩ := hv; exact ⟨l, h1, OVL.mono z cs _ h2⟩
  | .t _, v, hv => by simp only [OV] at hv ⊢; exact hv
theorem OVL.mono (z : Zle Z h Z' h') : ∀ (d : List DV) (v : List AVal), OVL Z h d v → OVL Z' h' d v
  | [], v, hv => by simp only [OVL] at hv ⊢; exact hv
  | a :: r, v, hv => by simp only [OVL] at hv ⊢; obtain ⟨x, q, e, h1, h2⟩ := hv; exact ⟨x, q, e, OV.mono z a _ h1, OVL.mono z r _ h2⟩
end
theorem RowsAt.mono (z : Zle Z h Z' h') {e rows b o} (hb : Z b) (hv : RowsAt P Z h e rows b o) : RowsAt P Z' h' e rows b o := by
  obtain ⟨cts, vs, own, st, h1, h2, h3, h4⟩ := hv
  obtain ⟨o', st', h7⟩ := z.zc b _ hb h2
  exact ⟨cts, vs, o', st', h1, h7, h3, RowsR.mono z _ _ _ h4⟩
theorem FrozR.mono (z : Zle Z h Z' h') {e ex rows v} (hv : FrozR P Z h e ex rows v) : FrozR P Z' h' e ex rows v := by
  obtain ⟨a, c, g, h1, h2, h2g, h3, h4⟩ := hv
  refine ⟨a, c, g, h1, h2, h2g, h3, h4.imp (fun h => h) ?_⟩
  rintro ⟨b, o, e1, e2, e3⟩
  exact ⟨b, o, e1, z.z b e2, e3.mono z e2⟩
end
/-- values of before stand for the same -/
structure Sle (Z : Pos → Prop) (h : Hp) (m : List (Option Pos)) (sh : SH) (Z' : Pos → Prop) (h' : Hp) (m' : List (Option Pos)) (sh' : SH) : Prop where
  zle : Zle Z h Z' h'
  ml : m.length = sh.length
  sl : sh.length ≤ sh'.length
  ids : ∀ id : Nat, id < m.length → m'[id]? = m[id]?
  arr : ∀ (id : Nat) (own : Own) (e : TypeId) (rows : List (List D)), id < sh.length → sh'[id]? = some (.arr own e rows) → ∃ own0 rows0, sh[id]? = some (.arr own0 e rows0) ∧ rows.length = rows0.length
section
variable {Z Z' : Pos → Prop} {h h' : Hp} {m m' : List (Option Pos)} {sh sh' : SH}
theorem Sle.id_of (z : Sle Z h m sh Z' h' m' sh') {id : Nat} {b : Option Pos} (hb : m[id]? = some b) : m'[id]? = some b := by
  rw [z.ids id (List.getElem?_eq_some_iff.1 hb).1, hb]
mutual
theorem SVR.mono (z : Sle Z h m sh Z' h' m' sh') : ∀ (s : SV) (v : AVal), SVR P Z h m sh s v → SVR P Z' h' m' sh' s v
  | .i _ _, v, hv => by simp only [SVR] at hv ⊢; exact hv
  | .b _, v, hv => by simp only [SVR] at hv ⊢; exact hv
  | .s _, v, hv => by simp only [SVR] at hv ⊢; exact hv
  | .nl, v, hv => by simp only [SVR] at hv ⊢; exact hv
  | .l e ex rows, v, hv => by simp only [SVR] at hv ⊢; exact hv.mono z.zle
  | .sa id, v, hv => by
    simp only [SVR] at hv ⊢
    obtain ⟨hid, hs, hv⟩ := hv
    refine ⟨Nat.lt_of_lt_of_le hid z.sl, hs, fun own e rows hx => ?_⟩
    obtain ⟨o0, r0, h0, e0⟩ := z.arr id own e rows hid hx
    rcases hv o0 e r0 h0 with ⟨h1, h2, h3⟩ | ⟨b, g, cts, h1, h2, h3, h4⟩
    · exact .inl ⟨z.id_of h1, by subst h2; exact List.eq_nil_of_length_eq_zero e0, h3⟩
    · exact .inr ⟨b, g, cts, z.id_of h1, h2, by rw [e0]; exact h3, h4⟩
  | .sv id lo hi, v, hv => by
    simp only [SVR] at hv ⊢
    obtain ⟨hid, hs, hv⟩ := hv
    refine ⟨Nat.lt_of_lt_of_le hid z.sl, hs, fun own e rows hx => ?_⟩
    obtain ⟨o0, r0, h0, e0⟩ := z.arr id own e rows hid hx
    obtain ⟨h1, h2, h3⟩ := hv o0 e r0 h0
    refine ⟨h1, by omega, ?_⟩
    rcases h3 with ⟨k1, k2, k3⟩ | ⟨b, g, cts, k1, k2, k3, k4⟩
    · exact .inl ⟨z.id_of k1, k2, by subst k3; exact List.eq_nil_of_length_eq_zero e0⟩
    · exact .inr ⟨b, g, cts, z.id_of k1, k2, by rw [e0]; exact k3, k4⟩
  | .q e rows ix off, v, hv => by
    simp only [SVR] at hv ⊢
    obtain ⟨b, o, cts, h1, h2, h3, h4⟩ := hv
    exact ⟨b, o, cts, h1, z.zle.z b h2, h3.mono z.zle h2, h4⟩
  | .qa id ix off, v, hv => by
    simp only [SVR] at hv ⊢
    obtain ⟨hid, hs, hv⟩ := hv
    refine ⟨Nat.lt_of_lt_of_le hid z.sl, hs, fun own e rows hx => ?_⟩
    obtain ⟨o0, r0, h0, e0⟩ := z.arr id own e rows hid hx
    obtain ⟨b, cts, h1, h2, h3⟩ := hv o0 e r0 h0
    exact ⟨b, cts, by rw [e0]; exact h1, z.id_of h2, h3⟩
  | .p none, v, hv => by simp only [SVR] at hv ⊢; exact hv
  | .p (some (id, off)), v, hv => by simp only [SVR] at hv ⊢; obtain ⟨b, h1, h2⟩ := hv; exact ⟨b, z.id_of h1, h2⟩
  | .pa id ix, v, hv => by simp only [SVR] at hv ⊢; obtain ⟨b, h1, h2⟩ := hv; exact ⟨b, z.id_of h1, h2⟩
  | .fn g a c, v, hv => by
    simp only [SVR] at hv ⊢
    obtain ⟨g', a', c', h1, h2, h3, h4⟩ := hv
    refine ⟨g', a', c', h1, ?_, SVRL.mono z a _ h3, SVRL.mono z c _ h4⟩
    cases g with
    | func k => exact h2
    | yield id => obtain ⟨b, k1, k2⟩ := h2; exact ⟨b, z.id_of k1, k2⟩
  | .nilF, v, hv => by simp only [SVR] at hv ⊢; exact hv
  | .nilI, v, hv => by simp only [SVR] at hv ⊢; exact hv
  | .o d, v, hv => by simp only [SVR] at hv ⊢; exact OV.mono z.zle d v hv
  | .ag l, v, hv => by simp only [SVR] at hv ⊢; obtain ⟨l', h1, h2⟩ := hv; exact ⟨l', h1, SVRL.mono z l _ h2⟩
  | .tu l, v, hv => by simp only [SVR] at hv ⊢; obtain ⟨l', h1, h2⟩ := hv; exact ⟨l', h1, SVRL.mono z l _ h2⟩
  | .mp none, v, hv => by simp only [SVR] at hv ⊢; exact hv
  | .mp (some id), v, hv => by simp only [SVR] at hv ⊢; obtain ⟨b, h1, h2⟩ := hv; exact ⟨b, z.id_of h1, h2⟩
  | .x, v, hv => by simp only [SVR]
theorem SVRL.mono (z : Sle Z h m sh Z' h' m' sh') : ∀ (s : List SV) (v : List AVal), SVRL P Z h m sh s v → SVRL P Z' h' m' sh' s v
  | [], v, hv => by simp only [SVRL] at hv ⊢; exact hv
  | a :: r, v, hv => by
    simp only [SVRL] at hv ⊢
    obtain ⟨x, q, e, h1, h2⟩ := hv
    exact ⟨x, q, e, SVR.mono z a _ h1, SVRL.mono z r _ h2⟩
end
theorem SlotsR.mono (z : Sle Z h m sh Z' h' m' sh') {sf f} (hs : SlotsR P Z h m sh sf f) : SlotsR P Z' h' m' sh' sf f := fun t ht => SVR.mono z _ _ (hs t ht)
theorem len_le {m m' : List (Option Pos)} (h : ∀ id : Nat, id < m.length → m'[id]? = m[id]?) : m.length ≤ m'.length := by
  by_cases h0 : m.length = 0
  · omega
  · have := h (m.length - 1) (by omega)
    rw [List.getElem?_eq_getElem (by omega : m.length - 1 < m.length)] at this
    have := (List.getElem?_eq_some_iff.1 this).1
    omega
theorem Tran.sle (H : HeapR P Z h m sh) (t : Tran P Z h m sh Z' h' m' sh') : Sle Z h m sh Z' h' m' sh' :=
  ⟨t.zle, H.len, by rw [← H.len, ← t.hp.len]; exact len_le t.ids, t.ids, t.arr⟩
end
section
variable {Z Z' Z'' : Pos → Prop} {h h' h'' : Hp} {m m' m'' : List (Option Pos)} {sh sh' sh'' : SH}
theorem Tran.comp (H : HeapR P Z h m sh) (a : Tran P Z h m sh Z' h' m' sh') (c : Tran P Z' h' m' sh' Z'' h'' m'' sh'') : Tran P Z h m sh Z'' h'' m'' sh'' :=
  a.trans H.len c (len_le a.ids)
end
end Go.Sy


set_option linter.all false
namespace Go.Sy
open Go Go.Av
variable [Glb] {P : Program}
section
variable {Z : Pos → Prop} {h : Hp} {m : List (Option Pos)} {sh : SH}
mutual
theorem ofA_ok : ∀ (a : AVal) (s : SV), ofA a = some s → SVR P Z h m sh s a
  | .i k n, s, e => by simp only [ofA, Option.some.injEq] at e; subst e; simp only [SVR]
  | .b c, s, e => by simp only [ofA, Option.some.injEq] at e; subst e; simp only [SVR]
  | .s t, s, e => by simp only [ofA, Option.some.injEq] at e; subst e; simp only [SVR]
  | .p none, s, e => by simp only [ofA, Option.some.injEq] at e; subst e; simp only [SVR]
  | .p (some _), s, e => by simp [ofA] at e
  | .sl none 0 0 0, s, e => by simp only [ofA, Option.some.injEq] at e; subst e; simp only [SVR]
  | .sl none 0 0 (_ + 1), s, e => by simp [ofA] at e
  | .sl none 0 (_ + 1) _, s, e => by simp [ofA] at e
  | .sl none (_ + 1) _ _, s, e => by simp [ofA] at e
  | .sl (some _) _ _ _, s, e => by simp [ofA] at e
  | .fn _ _ _, s, e => by simp [ofA] at e
  | .nilF, s, e => by simp only [ofA, Option.some.injEq] at e; subst e; simp only [SVR]
  | .ifc _ _, s, e => by simp [ofA] at e
  | .nilI, s, e => by simp only [ofA, Option.some.injEq] at e; subst e; simp only [SVR]
  | .ag t, s, e => by
    simp only [ofA] at e
    split at e
    · rename_i q hq; cases e; simp only [SVR]; exact ⟨t, rfl, ofAL_ok t q hq⟩
    · cases e
  | .tu t, s, e => by
    simp only [ofA] at e
    split at e
    · rename_i q hq; cases e; simp only [SVR]; exact ⟨t, rfl, ofAL_ok t q hq⟩
    · cases e
  | .mp none, s, e => by simp only [ofA, Option.some.injEq] at e; subst e; simp only [SVR]
  | .mp (some _), s, e => by simp [ofA] at e
  | .tok _, s, e => by simp [ofA] at e
theorem ofAL_ok : ∀ (a : List AVal) (s : List SV), ofAL a = some s → SVRL P Z h m sh s a
  | [], s, e => by simp only [ofAL, Option.some.injEq] at e; subst e; simp only [SVRL]
  | a :: r, s, e => by
    simp only [ofAL] at e
    split at e
    · rename_i x q h1 h2; cases e; simp only [SVRL]; exact ⟨a, r, rfl, ofA_ok a x h1, ofAL_ok r q h2⟩
    · cases e
end
theorem SVRL.nil : SVRL P Z h m sh [] [] := by simp only [SVRL]
theorem SVRL.cons {s v r q} (a : SVR P Z h m sh s v) (c : SVRL P Z h m sh r q) : SVRL P Z h m sh (s :: r) (v :: q) := by simp only [SVRL]; exact ⟨v, q, rfl, a, c⟩
theorem SVRL.length : ∀ {s : List SV} {v : List AVal}, SVRL P Z h m sh s v → v.length = s.length
  | [], _, e => by simp only [SVRL] at e; subst e; rfl
  | _ :: r, _, e => by simp only [SVRL] at e; obtain ⟨v, q, e, _, h2⟩ := e; subst e; simp [SVRL.length h2]
theorem SVRL.append : ∀ {s : List SV} {v : List AVal} {s' : List SV} {v' : List AVal}, SVRL P Z h m sh s v → SVRL P Z h m sh s' v' → SVRL P Z h m sh (s ++ s') (v ++ v')
  | [], _, _, _, e, k => by simp only [SVRL] at e; subst e; exact k
  | _ :: r, _, _, _, e, k => by simp only [SVRL] at e; obtain ⟨v, q, e, h1, h2⟩ := e; subst e; exact SVRL.cons h1 (SVRL.append h2 k)
theorem SVRL.get : ∀ {s : List SV} {v : List AVal}, SVRL P Z h m sh s v → ∀ (j : Nat) (x : SV), s[j]? = some x → ∃ y, v[j]? = some y ∧ SVR P Z h m sh x y
  | [], _, e, j, x, hj => by simp at hj
  | a :: r, _, e, j, x, hj => by
    simp only [SVRL] at e; obtain ⟨v, q, e, h1, h2⟩ := e; subst e
    cases j with
    | zero => simp at hj; subst hj; exact ⟨v, rfl, h1⟩
    | succ j => simp at hj ⊢; exact SVRL.get h2 j x hj
theorem SVRL.of_get : ∀ {s : List SV} {v : List AVal}, v.length = s.length → (∀ (j : Nat) (x : SV) (y : AVal), s[j]? = some x → v[j]? = some y → SVR P Z h m sh x y) → SVRL P Z h m sh s v
  | [], v, e, _ => by cases v with | nil => exact SVRL.nil | cons _ _ => simp at e
  | a :: r, v, e, k => by
    cases v with
    | nil => simp at e
    | cons v q => exact SVRL.cons (k 0 a v rfl rfl) (SVRL.of_get (by simpa using e) (fun j x y hx hy => k (j + 1) x y (by simpa using hx) (by simpa using hy)))
theorem SVRL.take {s v} (n : Nat) (e : SVRL P Z h m sh s v) : SVRL P Z h m sh (s.take n) (v.take n) := by
  refine SVRL.of_get (by simp [e.length]) (fun j x y hx hy => ?_)
  simp only [List.getElem?_take] at hx hy
  split at hx
  · rename_i hj
    rw [if_pos hj] at hy
    obtain ⟨y', h1, h2⟩ := e.get j x hx
    rw [h1] at hy; cases hy; exact h2
  · simp at hx
theorem SVRL.drop {s v} (n : Nat) (e : SVRL P Z h m sh s v) : SVRL P Z h m sh (s.drop n) (v.drop n) := by
  refine SVRL.of_get (by simp [e.length]) (fun j x y hx hy => ?_)
  simp only [List.getElem?_drop] at hx hy
  obtain ⟨y', h1, h2⟩ := e.get _ x hx
  rw [h1] at hy; cases hy; exact h2
theorem SVRL.takeX {s v q n o} (e : SVRL P Z h m sh s v) (hq : takeX n (dropR o s) = some q) : ∃ q', Av.takeX n (dropR o v) = some q' ∧ SVRL P Z h m sh q q' := by
  rw [dropR_eq] at hq ⊢
  obtain ⟨h1, rfl⟩ := takeX_eq.1 hq
  have hl := e.length
  refine ⟨_, takeX_eq.2 ⟨?_, rfl⟩, (e.drop o).take n⟩
  simp at h1 ⊢; omega
theorem SVRL.layR {s v w u q o} (e : SVRL P Z h m sh s v) (k : SVRL P Z h m sh w u) (hq : layR w o s = some q) : ∃ q', Av.layR u o v = some q' ∧ SVRL P Z h m sh q q' := by
  obtain ⟨h1, rfl⟩ := layR_eq.1 hq
  refine ⟨_, layR_eq.2 ⟨by rw [k.length, e.length]; exact h1, rfl⟩, ?_⟩
  rw [k.length]
  exact ((e.take o).append k).append (e.drop _)
theorem SVR.cells {s v} (hk : s.known = true) (e : SVR P Z h m sh s v) : SVRL P Z h m sh s.cells v.cells := by
  have one : ∀ (a : AVal), SVR P Z h m sh s a → a.cells = [a] → s.cells = [s] → SVRL P Z h m sh s.cells a.cells := fun a h1 h2 h3 => by rw [h2, h3]; exact SVRL.cons h1 SVRL.nil
  have ec := e
  cases s with
  | ag l => simp only [SVR] at e; obtain ⟨l', e, k⟩ := e; subst e; exact k
  | i k n => simp only [SVR] at e; subst e; exact one _ ec rfl rfl
  | b c => simp only [SVR] at e; subst e; exact one _ ec rfl rfl
  | s l => simp only [SVR] at e; subst e; exact one _ ec rfl rfl
  | nl => simp only [SVR] at e; subst e; exact one _ ec rfl rfl
  | l t ex rows => simp only [SVR, FrozR] at e; obtain ⟨_, _, _, e, _⟩ := e; subst e; exact one _ ec rfl rfl
  | sa id => simp only [SVR] at e; obtain ⟨_, ⟨_, _, _, _, e⟩, _⟩ := e; subst e; exact one _ ec rfl rfl
  | sv id lo hi => simp only [SVR] at e; obtain ⟨_, ⟨_, _, _, _, e⟩, _⟩ := e; subst e; exact one _ ec rfl rfl
  | q t rows ix off => simp only [SVR] at e; obtain ⟨_, _, _, _, _, _, _, e⟩ := e; subst e; exact one _ ec rfl rfl
  | qa id ix off => simp only [SVR] at e; obtain ⟨_, ⟨_, e⟩, _⟩ := e; subst e; exact one _ ec rfl rfl
  | p o =>
    rcases o with _ | ⟨id, off⟩ <;> simp only [SVR] at e
    · subst e; exact one _ ec rfl rfl
    · obtain ⟨_, _, e⟩ := e; subst e; exact one _ ec rfl rfl
  | pa id ix => simp only [SVR] at e; obtain ⟨_, _, e⟩ := e; subst e; exact one _ ec rfl rfl
  | fn g a c => simp only [SVR] at e; obtain ⟨_, _, _, e, _⟩ := e; subst e; exact one _ ec rfl rfl
  | nilF => simp only [SVR] at e; subst e; exact one _ ec rfl rfl
  | nilI => simp only [SVR] at e; subst e; exact one _ ec rfl rfl
  | tu l => simp only [SVR] at e; obtain ⟨_, e, _⟩ := e; subst e; exact one _ ec rfl rfl
  | o d => cases hk
  | mp o =>
    rcases o with _ | id <;> simp only [SVR] at e
    · subst e; exact one _ ec rfl rfl
    · obtain ⟨_, _, e⟩ := e; subst e; exact one _ ec rfl rfl
  | x => cases hk
theorem evS_ok {sf : SF} {f : Fr} (S : SlotsR P Z h m sh sf f) {x : Operand} {s : SV} (e : evS sf x = some s) : ∃ a, co P x = some a ∧ SVR P Z h m sh s (ev f a) := by
  cases x with
  | tmp t =>
    simp only [evS] at e
    cases hb : Nat.blt t 512 with
    | false => rw [hb] at e; cases e
    | true =>
      rw [hb] at e; cases e
      exact ⟨.tmp (slot t), by simp only [co, hb, cond_true], S t (by rw [← Nat.blt_eq]; exact hb)⟩
  | const v =>
    simp only [evS] at e
    split at e
    · rename_i a ha; exact ⟨.const a, by simp only [co, ha], ofA_ok a s e⟩
    · cases e
  | global g => simp [evS] at e
  | func k =>
    simp only [evS, Option.some.injEq] at e; subst e
    exact ⟨_, rfl, by simp only [SVR]; exact ⟨_, _, _, rfl, rfl, SVRL.nil, SVRL.nil⟩⟩
theorem evSL_ok {sf : SF} {f : Fr} (S : SlotsR P Z h m sh sf f) : ∀ {x : List Operand} {s : List SV}, evSL sf x = some s → ∃ a, cos P x = some a ∧ SVRL P Z h m sh s (evL f a)
  | [], s, e => by simp only [evSL, Option.some.injEq] at e; subst e; exact ⟨[], rfl, SVRL.nil⟩
  | x :: r, s, e => by
    simp only [evSL] at e
    split at e
    · rename_i v q h1 h2
      cases e
      obtain ⟨a, ha, hv⟩ := evS_ok S h1
      obtain ⟨l, hl, hq⟩ := evSL_ok S h2
      exact ⟨a :: l, by simp only [cos, ha, hl], SVRL.cons hv hq⟩
    · cases e
end
end Go.Sy


set_option linter.all false
namespace Go.Sy
open Go Go.Av
variable [Glb] {P : Program} [Tok]
/-- an operation of Av's comes to a value, and a heap -/
def OpOk (f : Fr) (h : Hp) (a : AOp) (v : AVal) (h' : Hp) : Prop := ∀ (E : Env) (d : Option Slot), opF E f h d a = some ⟨stO f d v, h'⟩
section
variable {f : Fr} {h : Hp}
theorem OpOk.calc {g : Fr → Hp → Option AVal} {v : AVal} (e : g f h = some v) : OpOk f h (.calc g) v h := fun E d => by
  show ob (g f h) (putV f h d) = _
  rw [e]; rfl
theorem OpOk.read {g : Fr → Hp → Option AVal} {v : AVal} (e : g f h = some v) : OpOk f h (.read g) v h := fun E d => by
  show ob (g f h) (putV f h d) = _
  rw [e]; rfl
theorem OpOk.make {g : Fr → Pos → Option Made} {v : AVal} {b : Blk} (e : g f h.next = some (v, b)) : OpOk f h (.make g) v (h.new b) := fun E d => by
  show ob (g f h.next) (putM f h d) = _
  rw [e]; rfl
theorem OpOk.turn {g : Fr → Hp → Option Nx} {v : AVal} {h' : Hp} (e : g f h = some (.val v h')) : OpOk f h (.turn g) v h' := fun E d => by
  show (ob (g f h) fun n => ob (nxF E h n) (putX f d)) = _
  rw [e]; rfl
end
theorem gv_eq {ρ : Type} {x : GV} {sh : SH} {k : SV → SH → Option ρ} {r : ρ} (e : gv x sh k = some r) : ∃ s, x = some (true, s) ∧ k s sh = some r := by
  unfold gv at e
  split at e
  · rename_i g v
    cases g with
    | true => exact ⟨v, rfl, e⟩
    | false => cases e
  · cases e
theorem ov_eq {ρ : Type} {x : Option SV} {sh : SH} {k : SV → SH → Option ρ} {r : ρ} (e : ov x sh k = some r) : ∃ s, x = some s ∧ k s sh = some r := by
  unfold ov at e
  split at e
  · rename_i v; exact ⟨v, rfl, e⟩
  · cases e
theorem bif_eq {α : Type} {c : Bool} {x y : Option α} {r : α} (e : (bif c then x else y) = some r) (hy : y = none) : c = true ∧ x = some r := by
  cases c with
  | true => exact ⟨rfl, e⟩
  | false => rw [cond_false, hy] at e; cases e
/-! ### Operations of two values -/
section
variable {f : Fr} {h : Hp} {x y : AOpd}
/-- what a binary operation comes to -/
def BinV (f : Fr) (h : Hp) (op : BinOp) (q : EqK) (x y : AOpd) (v : AVal) : Prop := ∃ g, binK op q x y = .calc g ∧ g f h = some v
theorem BinV.of {op : BinOp} {q : EqK} {g : Fr → Hp → Option AVal} {v : AVal} (e : binK0 op q x y = .calc g) (k : g f h = some v) : BinV f h op q x y v :=
  ⟨_, by unfold binK; rw [e]; rfl, by show orT (g f h) _ = _; rw [k]; rfl⟩
theorem two_int {k j : IntKind} {a b : Int} (hk : keq k j = true) : two (.i k a) (.i j b) = some (⟨k, a⟩, b) := by
  show ifb (keq k j) (some ((⟨k, a⟩ : KI), b)) none = _
  rw [hk]
theorem cmp_int {op : BinOp} {q : EqK} {k j : IntKind} {a b : Int} {t : Bool} (hx : ev f x = .i k a) (hy : ev f y = .i j b) (e : cmpS op (.i k a) (.i j b) = some t) : BinV f h op q x y (.b t) := by
  simp only [cmpS] at e
  obtain ⟨hk, e⟩ := bif_eq e rfl
  have hl : lssA (.i k a) (.i j b) = some (ltI a b) := by show ifb (keq k j) _ _ = _; rw [hk]
  have hg : leqA (.i k a) (.i j b) = some (!(ltI b a)) := by show ifb (keq k j) _ _ = _; rw [hk]
  have he : eqA q (.i k a) (.i j b) = some (eqI a b) := by show ifb (keq k j) _ _ = _; rw [hk]
  cases op <;> simp only [reduceCtorEq] at e <;> cases e <;> refine .of rfl ?_
  · show (ob (eqA q (ev f x) (ev f y)) fun t => some (AVal.b t)) = _; rw [hx, hy, he]
  · show (ob (eqA q (ev f x) (ev f y)) fun t => some (AVal.b !t)) = _; rw [hx, hy, he]
  · show (ob (lssA (ev f x) (ev f y)) fun t => some (AVal.b t)) = _; rw [hx, hy, hl]
  · show (ob (leqA (ev f x) (ev f y)) fun t => some (AVal.b t)) = _; rw [hx, hy, hg]
  · show (ob (leqA (ev f x) (ev f y)) fun t => some (AVal.b !t)) = _; rw [hx, hy, hg]
  · show (ob (lssA (ev f x) (ev f y)) fun t => some (AVal.b !t)) = _; rw [hx, hy, hl]
theorem cmp_str {op : BinOp} {q : EqK} {a b : List Nat} {t : Bool} (hx : ev f x = .s a) (hy : ev f y = .s b) (e : cmpS op (.s a) (.s b) = some t) : BinV f h op q x y (.b t) := by
  simp only [cmpS] at e
  have hl : lssA (.s a) (.s b) = some (sless a b) := rfl
  have hg : leqA (.s a) (.s b) = some (ifb (sless a b) true (seq a b)) := rfl
  have he : eqA q (.s a) (.s b) = some (seq a b) := rfl
  cases op <;> simp only [reduceCtorEq] at e <;> cases e <;> refine .of rfl ?_
  · show (ob (eqA q (ev f x) (ev f y)) fun t => some (AVal.b t)) = _; rw [hx, hy, he]
  · show (ob (eqA q (ev f x) (ev f y)) fun t => some (AVal.b !t)) = _; rw [hx, hy, he]
  · show (ob (lssA (ev f x) (ev f y)) fun t => some (AVal.b t)) = _; rw [hx, hy, hl]
  · show (ob (leqA (ev f x) (ev f y)) fun t => some (AVal.b t)) = _; rw [hx, hy, hg]
  · show (ob (leqA (ev f x) (ev f y)) fun t => some (AVal.b !t)) = _; rw [hx, hy, hg]
  · show (ob (lssA (ev f x) (ev f y)) fun t => some (AVal.b !t)) = _; rw [hx, hy, hl]
theorem cmp_bool {op : BinOp} {a b : Bool} {t : Bool} (hx : ev f x = .b a) (hy : ev f y = .b b) (e : cmpS op (.b a) (.b b) = some t) : BinV f h op .bool x y (.b t) := by
  simp only [cmpS] at e
  have he : eqA .bool (.b a) (.b b) = some (ifb a b (!b)) := rfl
  cases op <;> simp only [reduceCtorEq] at e <;> cases e <;> refine .of rfl ?_
  · show (ob (eqA .bool (ev f x) (ev f y)) fun t => some (AVal.b t)) = _; rw [hx, hy, he]
  · show (ob (eqA .bool (ev f x) (ev f y)) fun t => some (AVal.b !t)) = _; rw [hx, hy, he]
theorem fk_ok {P Z m sh} {a c : SV} {a' c' : AVal} {t : Bool} {k : FK} (ha : SVR P Z h m sh a a') (hc : SVR P Z h m sh c c') (hk : fkOf a k = true) (e : cmpS .eql a c = some t) : ceqF k a' c' = some t := by
  cases a with
  | i ka n =>
    cases k <;> simp only [fkOf, Bool.false_eq_true] at hk
    cases c with
    | i kc n' =>
      simp only [SVR] at ha hc; subst ha; subst hc
      simp only [cmpS] at e
      obtain ⟨h1, e⟩ := bif_eq e rfl
      cases e
      show orB (ifb (keq ka kc) (some (eqI n n')) none) _ = _; rw [h1]; rfl
    | _ => simp [cmpS] at e
  | b n =>
    cases k <;> simp only [fkOf, Bool.false_eq_true] at hk
    cases c with
    | b n' =>
      simp only [SVR] at ha hc; subst ha; subst hc
      simp only [cmpS, Option.some.injEq] at e; subst e; rfl
    | _ => simp [cmpS] at e
  | s n =>
    cases k <;> simp only [fkOf, Bool.false_eq_true] at hk
    cases c with
    | s n' =>
      simp only [SVR] at ha hc; subst ha; subst hc
      simp only [cmpS, Option.some.injEq] at e; subst e; rfl
    | _ => simp [cmpS] at e
  | _ => cases k <;> cases hk
theorem eqCells_ok {P Z m sh} : ∀ {a c : List SV} {a' c' : List AVal} {ks : List FK} {t : Bool}, SVRL P Z h m sh a a' → SVRL P Z h m sh c c' → fksOf a ks = true → eqCells a c = some t → eqN ks a' c' = some t
  | [], [], a', c', ks, t, ha, hc, hk, e => by
    cases ks <;> simp only [fksOf, Bool.false_eq_true] at hk
    simp only [SVRL] at ha hc; subst ha; subst hc
    simp only [eqCells] at e; cases e; rfl
  | [], _ :: _, a', c', ks, t, ha, hc, hk, e => by simp [eqCells] at e
  | _ :: _, [], a', c', ks, t, ha, hc, hk, e => by simp [eqCells] at e
  | a :: r, c :: q, a', c', ks, t, ha, hc, hk, e => by
    cases ks with
    | nil => simp [fksOf] at hk
    | cons k ks =>
      simp only [fksOf, Bool.and_eq_true] at hk
      simp only [SVRL] at ha hc
      obtain ⟨x, xs, rfl, h1, h2⟩ := ha
      obtain ⟨y, ys, rfl, h3, h4⟩ := hc
      simp only [eqCells] at e
      split at e
      · rename_i u w hu hw
        cases e
        have e1 := fk_ok h1 h3 hk.1 hu
        have e2 := eqCells_ok h2 h4 hk.2 hw
        show ob (ceqF k x y) (fun t => ifb t (eqN ks xs ys) (some false)) = _
        rw [e1, e2]
        cases u <;> rfl
      · cases e
end
end Go.Sy


set_option linter.all false
namespace Go.Sy
open Go Go.Av
variable [Glb] {P : Program}
theorem get_snoc {α : Type} {l : List α} {a x : α} {i : Nat} : (l ++ [a])[i]? = some x ↔ l[i]? = some x ∨ (i = l.length ∧ x = a) := by
  by_cases h : i < l.length
  · rw [List.getElem?_append_left h]
    constructor
    · exact .inl
    · rintro (h1 | ⟨h1, _⟩)
      · exact h1
      · omega
  · rw [List.getElem?_append_right (by omega), List.getElem?_eq_none (by omega : l.length ≤ i)]
    constructor
    · intro h1
      have h2 := (List.getElem?_eq_some_iff.1 h1).1
      have h3 : i - l.length = 0 := by simpa using h2
      rw [h3] at h1
      simp at h1
      exact .inr ⟨by omega, h1.symm⟩
    · rintro (h1 | ⟨h1, rfl⟩)
      · cases h1
      · subst h1; simp
theorem lt_of_get {α : Type} {l : List α} {x : α} {i : Nat} (h : l[i]? = some x) : i < l.length := (List.getElem?_eq_some_iff.1 h).1
theorem get_set {α : Type} {l : List α} {a x : α} {i j : Nat} : (l.set i a)[j]? = some x ↔ (j ≠ i ∧ l[j]? = some x) ∨ (j = i ∧ i < l.length ∧ x = a) := by
  rw [List.getElem?_set]
  by_cases h : i = j
  · subst h
    by_cases h2 : i < l.length
    · simp [h2, eq_comm]
    · simp [h2]
  · simp [h, Ne.symm h]
section
variable {Z Z' : Pos → Prop} {h h' : Hp} {m m' : List (Option Pos)} {sh sh' : SH}
theorem BoxR.mono (z : Sle Z h m sh Z' h' m' sh') {x : SB} {p : Option Pos} (hb : BoxR P Z h m sh x p) (hg : ∀ b, p = some b → h'.get b = h.get b) : BoxR P Z' h' m' sh' x p := by
  cases x with
  | cells t vs =>
    obtain ⟨b, avs, e, h1, h2⟩ := hb
    exact ⟨b, avs, e, by rw [hg b e]; exact h1, SVRL.mono z _ _ h2⟩
  | arr own e rows =>
    rcases hb with h1 | ⟨b, cts, avs, o, st, e, h1, h2, h3, h4, h5, h6⟩
    · exact .inl h1
    · exact .inr ⟨b, cts, avs, o, st, e, h1, by rw [hg b e]; exact h2, h3, RowsR.mono z.zle _ _ _ h4, h5, fun h => z.zle.z b (h6 h)⟩
  | hid => trivial
  | rsv => trivial
theorem ne_of_lt {b : Pos} {h : Hp} (hb : b.toNat < h.next.toNat) : b ≠ h.next := fun e => by subst e; omega
/-- a new block, a new box -/
theorem tran_new (H : HeapR P Z h m sh) {x : SB} {c : Cells} (hst : c.stale = []) (hx : x.owned = true)
    (hb : Sle Z h m sh Z (h.new (.cells c)) (m ++ [some h.next]) (sh ++ [x]) → BoxR P Z (h.new (.cells c)) (m ++ [some h.next]) (sh ++ [x]) x (some h.next)) :
    Tran P Z h m sh Z (h.new (.cells c)) (m ++ [some h.next]) (sh ++ [x]) := by
  have get : ∀ b : Pos, b.toNat < h.next.toNat → (h.new (.cells c)).get b = h.get b := fun b hb => Hp.get_new_other _ _ _ (ne_of_lt hb)
  have hz : Zle Z h Z (h.new (.cells c)) := ⟨fun _ h => h, fun b y hb hy => ⟨y.own, y.stale, by rw [get b (H.zold b hb)]; exact hy⟩⟩
  have ids : ∀ id : Nat, id < m.length → (m ++ [some h.next])[id]? = m[id]? := fun id hid => List.getElem?_append_left hid
  have arr : ∀ (id : Nat) (own : Own) (e : TypeId) (rows : List (List D)), id < sh.length → (sh ++ [x])[id]? = some (.arr own e rows) → ∃ own0 rows0, sh[id]? = some (.arr own0 e rows0) ∧ rows.length = rows0.length := fun id own e rows hid hh => ⟨own, rows, by rw [← hh, List.getElem?_append_left hid], rfl⟩
  have hs : Sle Z h m sh Z (h.new (.cells c)) (m ++ [some h.next]) (sh ++ [x]) := ⟨hz, H.len, by simp, ids, arr⟩
  have hlt : ∀ {id : Nat} {b : Pos}, m[id]? = some (some b) → b ≠ h.next := fun hm => ne_of_lt (H.old _ _ hm)
  have hsh : ∀ {id : Nat} {y : SB} {b : Pos}, (sh ++ [x])[id]? = some y → (m ++ [some h.next])[id]? = some (some b) → (sh[id]? = some y ∧ m[id]? = some (some b)) ∨ (id = m.length ∧ y = x ∧ b = h.next) := by
    intro id y b h1 h2
    rcases get_snoc.1 h1 with h1 | ⟨h1, rfl⟩ <;> rcases get_snoc.1 h2 with h2 | ⟨h2, h3⟩
    · exact .inl ⟨h1, h2⟩
    · have := lt_of_get h1; have := H.len; omega
    · have := lt_of_get h2; have := H.len; omega
    · cases h3; exact .inr ⟨by have := H.len; omega, rfl, rfl⟩
  have foot : ∀ b, Foot (h.new (.cells c)) (m ++ [some h.next]) (sh ++ [x]) b → Foot h m sh b ∨ b = h.next := by
    rintro b ⟨id, y, d, h1, h2, h3, h4⟩
    rcases hsh h1 h3 with ⟨k1, k2⟩ | ⟨_, rfl, rfl⟩
    · refine .inl ⟨id, y, d, k1, h2, k2, h4.imp (fun h => h) ?_⟩
      rintro ⟨z, h5, h6⟩
      exact ⟨z, by rw [← get d (H.old _ _ k2)]; exact h5, h6⟩
    · rcases h4 with h4 | ⟨z, h5, h6⟩
      · exact .inr h4
      · rw [Hp.get_new_same] at h5; cases h5; rw [hst] at h6; cases h6
  refine ⟨⟨?_, ?_, ?_, ?_, ?_, ?_, ?_, ?_, fun b hb => by rw [Hp.new_next, Pos.toNat_succ] at hb; rw [Hp.get_new_other _ _ _ (fun e => by subst e; omega)]; exact H.fresh b (by omega), H.glb.mono (fun _ h => h) hz.zc⟩, ?_, fun _ h => h, hz.zc, ids, arr, fun b hb _ => get b hb, ?_, fun _ h => .inl h, ?_, fun id e rows h => by
    rcases get_snoc.1 h with h | ⟨_, h⟩
    · exact ⟨lt_of_get h, rows, h⟩
    · rw [← h] at hx; cases hx⟩
  · simp [H.len]
  · intro id y p h1 h2
    rcases get_snoc.1 h1 with h1 | ⟨h1, rfl⟩ <;> rcases get_snoc.1 h2 with h2 | ⟨h2, h3⟩
    · exact (H.box id y p h1 h2).mono hs (fun b e => by subst e; exact get b (H.old _ _ h2))
    · have := lt_of_get h1; have := H.len; omega
    · have := lt_of_get h2; have := H.len; omega
    · subst h3; exact hb hs
  · intro id b hm
    rw [Hp.new_next, Pos.toNat_succ]
    rcases get_snoc.1 hm with hm | ⟨_, hm⟩
    · have := H.old _ _ hm; omega
    · cases hm; omega
  · intro i j y z b hij h1 h2 h3 h4 h5 h6
    rcases hsh h1 h5 with ⟨k1, k2⟩ | ⟨k0, rfl, rfl⟩ <;> rcases hsh h3 h6 with ⟨k3, k4⟩ | ⟨k5, k6, k7⟩
    · exact H.one i j y z b hij k1 h2 k3 h4 k2 k4
    · exact hlt k2 k7
    · exact hlt k4 rfl
    · omega
  · intro b hb
    have := H.zold b hb
    rw [Hp.new_next, Pos.toNat_succ]; omega
  · intro b hb hz'
    rcases foot b hb with h1 | h1
    · exact H.zfoot b h1 hz'
    · subst h1; have := H.zold _ hz'; omega
  · intro b hb
    rw [Hp.new_next, Pos.toNat_succ]
    rcases foot b hb with h1 | h1
    · have := H.fold b h1; omega
    · subst h1; omega
  · intro i j y z b d w h1 h2 h3 h4 h5 h6 h7 h8
    have hd : Foot (h.new (.cells c)) (m ++ [some h.next]) (sh ++ [x]) d := ⟨i, y, b, h1, h2, h3, .inr ⟨w, h4, h5⟩⟩
    rcases hsh h1 h3 with ⟨k1, k2⟩ | ⟨k0, rfl, rfl⟩
    · rw [get b (H.old _ _ k2)] at h4
      rcases hsh h6 h8 with ⟨k3, k4⟩ | ⟨k5, k6, k7⟩
      · exact H.stl i j y z b d w k1 h2 k2 h4 h5 k3 h7 k4
      · have hf : Foot h m sh d := ⟨i, y, b, k1, h2, k2, .inr ⟨w, h4, h5⟩⟩
        have := H.fold d hf
        rw [k7] at this; omega
    · rw [Hp.get_new_same] at h4; cases h4; rw [hst] at h5; cases h5
  · rw [Hp.new_next, Pos.toNat_succ]; omega
  · intro b hb
    rcases foot b hb with h1 | h1
    · exact .inl h1
    · subst h1; exact .inr (Nat.le_refl _)
  · rintro b ⟨i, y, h1, h2, h3⟩
    rcases hsh h1 h3 with ⟨k1, k2⟩ | ⟨_, _, rfl⟩
    · exact .inl ⟨i, y, k1, h2, k2⟩
    · exact .inr (Nat.le_refl _)
end
end Go.Sy


set_option linter.all false
namespace Go.Sy
open Go Go.Av
variable [Glb] {P : Program}
section
variable [Tok] {Z Z' : Pos → Prop} {h h' : Hp} {m m' : List (Option Pos)} {sh sh' : SH}
/-- an owned box's block, written -/
theorem tran_put (H : HeapR P Z h m sh) {id : Nat} {x0 x : SB} {b : Pos} {c0 c : Cells} (h0 : sh[id]? = some x0) (ho : x0.owned = true) (hm : m[id]? = some (some b)) (hg : h.get b = some (.cells c0))
    (hst : c.stale = []) (hx : x.owned = true) (ha : ∀ own e rows, x = .arr own e rows → ∃ own0 rows0, x0 = .arr own0 e rows0 ∧ rows.length = rows0.length)
    (hb : Sle Z h m sh Z ((h.kill c0.stale).put b (.cells c)) m (sh.set id x) → BoxR P Z ((h.kill c0.stale).put b (.cells c)) m (sh.set id x) x (some b)) :
    Tran P Z h m sh Z ((h.kill c0.stale).put b (.cells c)) m (sh.set id x) := by
  have hf : Foot h m sh b := ⟨id, x0, b, h0, ho, hm, .inl rfl⟩
  have hfs : ∀ d ∈ c0.stale, Foot h m sh d := fun d hd => ⟨id, x0, b, h0, ho, hm, .inr ⟨c0, hg, hd⟩⟩
  have get : ∀ d : Pos, d ≠ b → d ∉ c0.stale → ((h.kill c0.stale).put b (.cells c)).get d = h.get d := fun d h1 h2 => by rw [Hp.get_put_other _ _ _ _ h1, Hp.kill_get, if_neg h2]
  have keep : ∀ d : Pos, ¬ Foot h m sh d → ((h.kill c0.stale).put b (.cells c)).get d = h.get d := fun d hd => get d (fun e => hd (e ▸ hf)) (fun e => hd (hfs d e))
  have nx : ((h.kill c0.stale).put b (.cells c)).next = h.next := by rw [Hp.put_next, Hp.kill_next]
  have hz : Zle Z h Z ((h.kill c0.stale).put b (.cells c)) := ⟨fun _ h => h, fun d y hd hy => ⟨y.own, y.stale, by rw [keep d (fun e => H.zfoot d e hd)]; exact hy⟩⟩
  have arr : ∀ (i : Nat) (own : Own) (e : TypeId) (rows : List (List D)), i < sh.length → (sh.set id x)[i]? = some (.arr own e rows) → ∃ own0 rows0, sh[i]? = some (.arr own0 e rows0) ∧ rows.length = rows0.length := by
    intro i own e rows hi hh
    rcases get_set.1 hh with ⟨_, h1⟩ | ⟨h1, _, h2⟩
    · exact ⟨own, rows, h1, rfl⟩
    · obtain ⟨o, r, h3, h4⟩ := ha own e rows h2.symm
      exact ⟨o, r, by rw [h1, h0, h3], h4⟩
  have hs : Sle Z h m sh Z ((h.kill c0.stale).put b (.cells c)) m (sh.set id x) := ⟨hz, H.len, by simp, fun _ _ => rfl, arr⟩
  -- another box's block stays
  have oth : ∀ {j : Nat} {y : SB} {d : Pos}, j ≠ id → sh[j]? = some y → y ≠ .hid → m[j]? = some (some d) → d ≠ b ∧ d ∉ c0.stale := by
    intro j y d hj h1 h2 h3
    refine ⟨fun e => ?_, fun e => ?_⟩
    · subst e; exact H.one id j x0 y d (Ne.symm hj) h0 ho h1 h2 hm h3
    · exact H.stl id j x0 y b d c0 h0 ho hm hg e h1 h2 h3
  have nh : ∀ {y : SB}, y.owned = true → y ≠ .hid := fun hy e => by subst e; cases hy
  have foot : ∀ d, Foot ((h.kill c0.stale).put b (.cells c)) m (sh.set id x) d → Foot h m sh d := by
    rintro d ⟨j, y, p, h1, h2, h3, h4⟩
    rcases get_set.1 h1 with ⟨hj, h1⟩ | ⟨rfl, _, rfl⟩
    · refine ⟨j, y, p, h1, h2, h3, h4.imp (fun h => h) ?_⟩
      rintro ⟨z, h5, h6⟩
      obtain ⟨k1, k2⟩ := oth hj h1 (nh h2) h3
      exact ⟨z, by rw [← get p k1 k2]; exact h5, h6⟩
    · rw [hm] at h3; cases h3
      rcases h4 with h4 | ⟨z, h5, h6⟩
      · subst h4; exact hf
      · rw [Hp.get_put_same] at h5; cases h5; rw [hst] at h6; cases h6
  refine ⟨⟨by simp [H.len], ?_, ?_, ?_, ?_, ?_, ?_, ?_, fun d hd => by rw [nx] at hd; rw [get d (fun e => by subst e; have := H.old _ _ hm; omega) (fun e => by have := H.fold d (hfs d e); omega)]; exact H.fresh d hd, H.glb.mono (fun _ h => h) hz.zc⟩, by rw [nx]; exact Nat.le_refl _, fun _ h => h, hz.zc, fun _ _ => rfl, arr, fun d _ hd => keep d hd, fun d hd => .inl (foot d hd), fun _ h => .inl h, fun d hd => .inl (by
    obtain ⟨j, y, h1, h2, h3⟩ := hd
    rcases get_set.1 h1 with ⟨_, h1⟩ | ⟨rfl, _, rfl⟩
    · exact ⟨j, y, h1, h2, h3⟩
    · exact ⟨_, x0, h0, ho, h3⟩), fun i e rows h => by
    rcases get_set.1 h with ⟨_, h⟩ | ⟨_, _, h⟩
    · exact ⟨lt_of_get h, rows, h⟩
    · rw [← h] at hx; cases hx⟩
  · intro j y p h1 h2
    rcases get_set.1 h1 with ⟨hj, h1⟩ | ⟨rfl, _, rfl⟩
    · by_cases hy : y = .hid
      · subst hy; trivial
      · exact (H.box j y p h1 h2).mono hs (fun d e => by subst e; obtain ⟨k1, k2⟩ := oth hj h1 hy h2; exact get d k1 k2)
    · rw [hm] at h2; cases h2; exact hb hs
  · intro j d h1; rw [nx]; exact H.old j d h1
  · intro i j y z d hij h1 h2 h3 h4 h5
    rcases get_set.1 h1 with ⟨_, q1⟩ | ⟨q0, _, rfl⟩ <;> rcases get_set.1 h3 with ⟨_, q3⟩ | ⟨q4, _, rfl⟩
    · exact H.one i j y z d hij q1 h2 q3 h4 h5
    · subst q4; exact H.one i j y x0 d hij q1 h2 h0 (nh ho) h5
    · subst q0; exact H.one i j x0 z d hij h0 ho q3 h4 h5
    · exact absurd (q0.trans q4.symm) hij
  · intro d hd; rw [nx]; exact H.zold d hd
  · intro d hd; exact H.zfoot d (foot d hd)
  · intro d hd; rw [nx]; exact H.fold d (foot d hd)
  · intro i j y z d p w h1 h2 h3 h4 h5 h6 h7 h8
    rcases get_set.1 h1 with ⟨hi, q1⟩ | ⟨q0, _, rfl⟩
    · obtain ⟨k1, k2⟩ := oth hi q1 (nh h2) h3
      rw [get d k1 k2] at h4
      rcases get_set.1 h6 with ⟨_, q6⟩ | ⟨q7, _, rfl⟩
      · exact H.stl i j y z d p w q1 h2 h3 h4 h5 q6 h7 h8
      · subst q7; exact H.stl i j y x0 d p w q1 h2 h3 h4 h5 h0 (nh ho) h8
    · subst q0; rw [hm] at h3; cases h3
      rw [Hp.get_put_same] at h4; cases h4; rw [hst] at h5; cases h5
/-- a row that is owned is given up -/
theorem tran_freeze (H : HeapR P Z h m sh) {id : Nat} {own : Own} {e : TypeId} {rows : List (List D)} (h0 : sh[id]? = some (.arr own e rows)) (hro : own ≠ .ro) :
    Tran P Z h m sh (fun d => Z d ∨ m[id]? = some (some d)) h m (sh.set id (.arr .fr e rows)) := by
  have nh : ∀ {y : SB}, y.owned = true → y ≠ .hid := fun hy e => by subst e; cases hy
  have hz : Zle Z h (fun d => Z d ∨ m[id]? = some (some d)) h := ⟨fun _ h => .inl h, fun d y _ hy => ⟨y.own, y.stale, hy⟩⟩
  have arr : ∀ (i : Nat) (own' : Own) (e' : TypeId) (rows' : List (List D)), i < sh.length → (sh.set id (.arr .fr e rows))[i]? = some (.arr own' e' rows') → ∃ own0 rows0, sh[i]? = some (.arr own0 e' rows0) ∧ rows'.length = rows0.length := by
    intro i own' e' rows' hi hh
    rcases get_set.1 hh with ⟨_, h1⟩ | ⟨h1, _, h2⟩
    · exact ⟨_, _, h1, rfl⟩
    · cases h2; exact ⟨own, rows, by rw [h1]; exact h0, rfl⟩
  have hs : Sle Z h m sh (fun d => Z d ∨ m[id]? = some (some d)) h m (sh.set id (.arr .fr e rows)) := ⟨hz, H.len, by simp, fun _ _ => rfl, arr⟩
  have foot : ∀ d, Foot h m (sh.set id (.arr .fr e rows)) d → Foot h m sh d ∧ m[id]? ≠ some (some d) := by
    rintro d ⟨j, y, p, h1, h2, h3, h4⟩
    rcases get_set.1 h1 with ⟨hj, h1⟩ | ⟨rfl, _, rfl⟩
    · refine ⟨⟨j, y, p, h1, h2, h3, h4⟩, fun hm => ?_⟩
      rcases h4 with rfl | ⟨z, h5, h6⟩
      · exact H.one j id y _ d hj h1 h2 h0 (fun e => by cases e) h3 hm
      · exact H.stl j id y _ p d z h1 h2 h3 h5 h6 h0 (fun e => by cases e) hm
    · cases h2
  have zf : ∀ d, m[id]? = some (some d) → Z d ∨ OwnB m sh d := by
    intro d hm
    cases own with
    | ro => exact absurd rfl hro
    | ow => exact .inr ⟨id, _, h0, rfl, hm⟩
    | fr =>
      rcases H.box id _ _ h0 hm with ⟨h1, _⟩ | ⟨b, _, _, _, _, h1, _, _, _, _, _, h2⟩
      · cases h1
      · cases h1; exact .inl (h2 rfl)
  refine ⟨⟨by simp [H.len], ?_, H.old, ?_, ?_, ?_, ?_, ?_, H.fresh, H.glb.mono (fun _ h => .inl h) hz.zc⟩, Nat.le_refl _, fun _ h => .inl h, hz.zc, fun _ _ => rfl, arr, fun _ _ _ => rfl, fun d hd => .inl (foot d hd).1, ?_, fun d hd => .inl (by
    obtain ⟨j, y, h1, h2, h3⟩ := hd
    rcases get_set.1 h1 with ⟨_, h1⟩ | ⟨_, _, rfl⟩
    · exact ⟨j, y, h1, h2, h3⟩
    · cases h2), fun i e rows h => by
    rcases get_set.1 h with ⟨_, h⟩ | ⟨_, _, h⟩
    · exact ⟨lt_of_get h, rows, h⟩
    · cases h⟩
  · intro j y p h1 h2
    rcases get_set.1 h1 with ⟨hj, h1⟩ | ⟨rfl, _, rfl⟩
    · exact (H.box j y p h1 h2).mono hs (fun _ _ => rfl)
    · rcases (H.box j _ p h0 h2).mono hs (fun _ _ => rfl) with k | ⟨b, cts, avs, o, st, k1, k2, k3, k4, k5, k6, k7⟩
      · exact .inl k
      · exact .inr ⟨b, cts, avs, o, st, k1, k2, k3, k4, k5, (fun e => by cases e), fun _ => .inr (by rw [h2, k1])⟩
  · intro i j y z d hij h1 h2 h3 h4 h5
    rcases get_set.1 h1 with ⟨_, q1⟩ | ⟨_, _, rfl⟩
    · rcases get_set.1 h3 with ⟨_, q3⟩ | ⟨q4, _, rfl⟩
      · exact H.one i j y z d hij q1 h2 q3 h4 h5
      · subst q4; exact H.one i j y _ d hij q1 h2 h0 (fun e => by cases e) h5
    · cases h2
  · rintro d (hd | hd)
    · exact H.zold d hd
    · exact H.old _ _ hd
  · intro d hd
    obtain ⟨h1, h2⟩ := foot d hd
    rintro (h3 | h3)
    · exact H.zfoot d h1 h3
    · exact h2 h3
  · intro d hd; exact H.fold d (foot d hd).1
  · intro i j y z d p w h1 h2 h3 h4 h5 h6 h7 h8
    rcases get_set.1 h1 with ⟨hi, q1⟩ | ⟨_, _, rfl⟩
    · rcases get_set.1 h6 with ⟨_, q6⟩ | ⟨q7, _, rfl⟩
      · exact H.stl i j y z d p w q1 h2 h3 h4 h5 q6 h7 h8
      · subst q7; exact H.stl i j y _ d p w q1 h2 h3 h4 h5 h0 (fun e => by cases e) h8
    · cases h2
  · rintro d (hd | hd)
    · exact .inl hd
    · exact (zf d hd).imp (fun h => h) .inl
/-- a box is not to be touched any more -/
theorem tran_hide (H : HeapR P Z h m sh) (id : Nat) : Tran P Z h m sh Z h m (sh.set id .hid) := by
  have arr : ∀ (i : Nat) (own' : Own) (e' : TypeId) (rows' : List (List D)), i < sh.length → (sh.set id .hid)[i]? = some (.arr own' e' rows') → ∃ own0 rows0, sh[i]? = some (.arr own0 e' rows0) ∧ rows'.length = rows0.length := by
    intro i own' e' rows' hi hh
    rcases get_set.1 hh with ⟨_, h1⟩ | ⟨_, _, h2⟩
    · exact ⟨_, _, h1, rfl⟩
    · cases h2
  have hz : Zle Z h Z h := ⟨fun _ h => h, fun d y _ hy => ⟨y.own, y.stale, hy⟩⟩
  have hs : Sle Z h m sh Z h m (sh.set id .hid) := ⟨hz, H.len, by simp, fun _ _ => rfl, arr⟩
  have foot : ∀ d, Foot h m (sh.set id .hid) d → Foot h m sh d := by
    rintro d ⟨j, y, p, h1, h2, h3, h4⟩
    rcases get_set.1 h1 with ⟨hj, h1⟩ | ⟨rfl, _, rfl⟩
    · exact ⟨j, y, p, h1, h2, h3, h4⟩
    · cases h2
  refine ⟨⟨by simp [H.len], ?_, H.old, ?_, H.zold, fun d hd => H.zfoot d (foot d hd), fun d hd => H.fold d (foot d hd), ?_, H.fresh, H.glb⟩, Nat.le_refl _, fun _ h => h, hz.zc, fun _ _ => rfl, arr, fun _ _ _ => rfl, fun d hd => .inl (foot d hd), fun _ h => .inl h, fun d hd => .inl (by
    obtain ⟨j, y, h1, h2, h3⟩ := hd
    rcases get_set.1 h1 with ⟨_, h1⟩ | ⟨_, _, rfl⟩
    · exact ⟨j, y, h1, h2, h3⟩
    · cases h2), fun i e rows h => by
    rcases get_set.1 h with ⟨_, h⟩ | ⟨_, _, h⟩
    · exact ⟨lt_of_get h, rows, h⟩
    · cases h⟩
  · intro j y p h1 h2
    rcases get_set.1 h1 with ⟨hj, h1⟩ | ⟨rfl, _, rfl⟩
    · exact (H.box j y p h1 h2).mono hs (fun _ _ => rfl)
    · trivial
  · intro i j y z d hij h1 h2 h3 h4 h5
    rcases get_set.1 h1 with ⟨_, h1⟩ | ⟨rfl, _, rfl⟩
    · rcases get_set.1 h3 with ⟨_, h3⟩ | ⟨rfl, _, rfl⟩
      · exact H.one i j y z d hij h1 h2 h3 h4 h5
      · exact absurd rfl h4
    · cases h2
  · intro i j y z d p w h1 h2 h3 h4 h5 h6 h7 h8
    rcases get_set.1 h1 with ⟨hi, h1⟩ | ⟨rfl, _, rfl⟩
    · rcases get_set.1 h6 with ⟨_, h6⟩ | ⟨rfl, _, rfl⟩
      · exact H.stl i j y z d p w h1 h2 h3 h4 h5 h6 h7 h8
      · exact absurd rfl h7
    · cases h2
end
end Go.Sy


set_option linter.all false
namespace Go.Sy
open Go Go.Av
variable [Glb] {P : Program}
section
variable {Z Z' : Pos → Prop} {h h' : Hp} {m m' : List (Option Pos)} {sh sh' : SH}
/-- an owned row grows: a new block; the old one is stale -/
theorem tran_grow (H : HeapR P Z h m sh) {id : Nat} {e : TypeId} {rows : List (List D)} {b : Pos} {c0 c : Cells} {x : SB} (h0 : sh[id]? = some (.arr .ow e rows)) (hm : m[id]? = some (some b)) (hg : h.get b = some (.cells c0))
    (hst : c.stale = b :: c0.stale) (hx : x.owned = true)
    (hb : Sle Z h m sh Z ((h.new (.cells c)).put b (.cells ⟨c0.vs, false, []⟩)) (m ++ [some h.next]) (sh.set id .hid ++ [x]) → BoxR P Z ((h.new (.cells c)).put b (.cells ⟨c0.vs, false, []⟩)) (m ++ [some h.next]) (sh.set id .hid ++ [x]) x (some h.next)) :
    Tran P Z h m sh Z ((h.new (.cells c)).put b (.cells ⟨c0.vs, false, []⟩)) (m ++ [some h.next]) (sh.set id .hid ++ [x]) := by
  have hf : Foot h m sh b := ⟨id, _, b, h0, rfl, hm, .inl rfl⟩
  have hfs : ∀ d ∈ c0.stale, Foot h m sh d := fun d hd => ⟨id, _, b, h0, rfl, hm, .inr ⟨c0, hg, hd⟩⟩
  have bn : b ≠ h.next := ne_of_lt (H.old _ _ hm)
  generalize hh : (h.new (.cells c)).put b (.cells ⟨c0.vs, false, []⟩) = h1 at hb ⊢
  have get : ∀ d : Pos, d.toNat < h.next.toNat → d ≠ b → h1.get d = h.get d := fun d hd hn => by rw [← hh, Hp.get_put_other _ _ _ _ hn, Hp.get_new_other _ _ _ (ne_of_lt hd)]
  have getn : h1.get h.next = some (.cells c) := by rw [← hh, Hp.get_put_other _ _ _ _ (Ne.symm bn), Hp.get_new_same]
  have nx : h1.next = h.next.succ := by rw [← hh, Hp.put_next, Hp.new_next]
  have ll : (sh.set id .hid).length = sh.length := by simp
  have hz : Zle Z h Z h1 := ⟨fun _ h => h, fun d y hd hy => ⟨y.own, y.stale, by rw [get d (H.zold d hd) (fun e => H.zfoot b hf (e ▸ hd))]; exact hy⟩⟩
  have ids : ∀ i : Nat, i < m.length → (m ++ [some h.next])[i]? = m[i]? := fun i hi => List.getElem?_append_left hi
  have nh : ∀ {y : SB}, y.owned = true → y ≠ .hid := fun hy e => by subst e; cases hy
  have hsh : ∀ {i : Nat} {y : SB}, (sh.set id .hid ++ [x])[i]? = some y → y ≠ .hid → (sh[i]? = some y ∧ i ≠ id ∧ i < m.length) ∨ (i = m.length ∧ y = x) := by
    intro i y h1 h2
    rcases get_snoc.1 h1 with q1 | ⟨q1, q2⟩
    · rcases get_set.1 q1 with ⟨h3, h4⟩ | ⟨_, _, h4⟩
      · exact .inl ⟨h4, h3, by rw [H.len]; exact lt_of_get h4⟩
      · exact absurd h4 h2
    · exact .inr ⟨by rw [H.len, q1, ll], q2⟩
  have mid : ∀ {i : Nat} {p : Option Pos}, (m ++ [some h.next])[i]? = some p → (m[i]? = some p ∧ i < m.length) ∨ (i = m.length ∧ p = some h.next) := fun hm => (get_snoc.1 hm).imp (fun h => ⟨h, lt_of_get h⟩) (fun h => h)
  have arr : ∀ (i : Nat) (own : Own) (e : TypeId) (rows : List (List D)), i < sh.length → (sh.set id .hid ++ [x])[i]? = some (.arr own e rows) → ∃ own0 rows0, sh[i]? = some (.arr own0 e rows0) ∧ rows.length = rows0.length := by
    intro i own e rows hi h1
    rcases hsh h1 (fun e => by cases e) with ⟨h2, _⟩ | ⟨h2, _⟩
    · exact ⟨own, rows, h2, rfl⟩
    · have := H.len; omega
  have hs : Sle Z h m sh Z h1 (m ++ [some h.next]) (sh.set id .hid ++ [x]) := ⟨hz, H.len, by simp, ids, arr⟩
  have oth : ∀ {j : Nat} {y : SB} {d : Pos}, j ≠ id → sh[j]? = some y → y ≠ .hid → m[j]? = some (some d) → d ≠ b ∧ d ∉ c0.stale := by
    intro j y d hj k1 k2 k3
    refine ⟨fun e => ?_, fun e => ?_⟩
    · subst e; exact H.one id j _ y d (Ne.symm hj) h0 rfl k1 k2 hm k3
    · exact H.stl id j _ y b d c0 h0 rfl hm hg e k1 k2 k3
  have foot : ∀ d, Foot h1 (m ++ [some h.next]) (sh.set id .hid ++ [x]) d → Foot h m sh d ∨ d = h.next := by
    rintro d ⟨j, y, p, k1, k2, k3, k4⟩
    rcases hsh k1 (nh k2) with ⟨q1, q2, q3⟩ | ⟨q1, rfl⟩
    · rw [ids j q3] at k3
      refine .inl ⟨j, y, p, q1, k2, k3, k4.imp (fun h => h) ?_⟩
      rintro ⟨z, k5, k6⟩
      exact ⟨z, by rw [← get p (H.old _ _ k3) (oth q2 q1 (nh k2) k3).1]; exact k5, k6⟩
    · rcases mid k3 with ⟨_, q2⟩ | ⟨_, q2⟩
      · omega
      · cases q2
        rcases k4 with k4 | ⟨z, k5, k6⟩
        · exact .inr k4
        · rw [getn] at k5; cases k5
          rw [hst] at k6
          rcases List.mem_cons.1 k6 with rfl | k6
          · exact .inl hf
          · exact .inl (hfs d k6)
  refine ⟨⟨by simp [H.len], ?_, ?_, ?_, ?_, ?_, ?_, ?_, fun d hd => by rw [nx, Pos.toNat_succ] at hd; rw [← hh, Hp.get_put_other _ _ _ _ (fun e => by subst e; have := H.old _ _ hm; omega), Hp.get_new_other _ _ _ (fun e => by subst e; omega)]; exact H.fresh d (by omega), H.glb.mono (fun _ h => h) hz.zc⟩, by rw [nx, Pos.toNat_succ]; omega, fun _ h => h, hz.zc, ids, arr, fun d hd hn => get d hd (fun e => hn (e ▸ hf)), ?_, fun _ h => .inl h, ?_, fun i e rows h => by
    rcases hsh h (fun e => by cases e) with ⟨h, _⟩ | ⟨_, h⟩
    · exact ⟨lt_of_get h, rows, h⟩
    · rw [← h] at hx; cases hx⟩
  · intro i y p k1 k2
    by_cases hy : y = .hid
    · subst hy; trivial
    · rcases hsh k1 hy with ⟨q1, q2, q3⟩ | ⟨q1, rfl⟩
      · rw [ids i q3] at k2
        exact (H.box i y p q1 k2).mono hs (fun d e => by subst e; exact get d (H.old _ _ k2) (oth q2 q1 hy k2).1)
      · rcases mid k2 with ⟨_, q2⟩ | ⟨_, q2⟩
        · omega
        · subst q2; exact hb hs
  · intro i d k
    rw [nx, Pos.toNat_succ]
    rcases mid k with ⟨q, _⟩ | ⟨_, q⟩
    · have := H.old _ _ q; omega
    · cases q; omega
  · intro i j y z d hij k1 k2 k3 k4 k5 k6
    rcases hsh k1 (nh k2) with ⟨q1, q2, q3⟩ | ⟨q1, rfl⟩ <;> rcases hsh k3 k4 with ⟨q4, q5, q6⟩ | ⟨q4, rfl⟩
    · rw [ids i q3] at k5; rw [ids j q6] at k6; exact H.one i j y z d hij q1 k2 q4 k4 k5 k6
    · rw [ids i q3] at k5
      rcases mid k6 with ⟨_, q⟩ | ⟨_, q⟩
      · omega
      · cases q; exact ne_of_lt (H.old _ _ k5) rfl
    · rw [ids j q6] at k6
      rcases mid k5 with ⟨_, q⟩ | ⟨_, q⟩
      · omega
      · cases q; exact ne_of_lt (H.old _ _ k6) rfl
    · omega
  · intro d hd; have := H.zold d hd; rw [nx, Pos.toNat_succ]; omega
  · intro d hd hz'
    rcases foot d hd with k | k
    · exact H.zfoot d k hz'
    · subst k; have := H.zold _ hz'; omega
  · intro d hd
    rw [nx, Pos.toNat_succ]
    rcases foot d hd with k | k
    · have := H.fold d k; omega
    · subst k; omega
  · intro i j y z d p w k1 k2 k3 k4 k5 k6 k7 k8
    -- a stale block is no box's
    rcases hsh k6 k7 with ⟨q4, q5, q6⟩ | ⟨q4, rfl⟩
    · rw [ids j q6] at k8
      rcases hsh k1 (nh k2) with ⟨q1, q2, q3⟩ | ⟨q1, rfl⟩
      · rw [ids i q3] at k3
        rw [get d (H.old _ _ k3) (oth q2 q1 (nh k2) k3).1] at k4
        exact H.stl i j y z d p w q1 k2 k3 k4 k5 q4 k7 k8
      · rcases mid k3 with ⟨_, q⟩ | ⟨_, q⟩
        · omega
        · cases q
          rw [getn] at k4; cases k4
          rw [hst] at k5
          obtain ⟨o1, o2⟩ := oth q5 q4 k7 k8
          rcases List.mem_cons.1 k5 with rfl | k5
          · exact o1 rfl
          · exact o2 k5
    · rcases mid k8 with ⟨_, q⟩ | ⟨_, q⟩
      · omega
      · cases q
        rcases hsh k1 (nh k2) with ⟨q1, q2, q3⟩ | ⟨q1, rfl⟩
        · rw [ids i q3] at k3
          rw [get d (H.old _ _ k3) (oth q2 q1 (nh k2) k3).1] at k4
          have := H.fold h.next ⟨i, y, d, q1, k2, k3, .inr ⟨w, k4, k5⟩⟩
          omega
        · rcases mid k3 with ⟨_, q⟩ | ⟨_, q⟩
          · omega
          · cases q
            rw [getn] at k4; cases k4
            rw [hst] at k5
            rcases List.mem_cons.1 k5 with k5 | k5
            · exact bn k5.symm
            · have := H.fold h.next (hfs _ k5); omega
  · intro d hd
    rcases foot d hd with k | k
    · exact .inl k
    · subst k; exact .inr (Nat.le_refl _)
  · rintro d ⟨j, y, k1, k2, k3⟩
    rcases hsh k1 (nh k2) with ⟨q1, q2, q3⟩ | ⟨q1, rfl⟩
    · rw [ids j q3] at k3; exact .inl ⟨j, y, q1, k2, k3⟩
    · rcases mid k3 with ⟨_, q2⟩ | ⟨_, q2⟩
      · omega
      · cases q2; exact .inr (Nat.le_refl _)
end
end Go.Sy


set_option linter.all false
namespace Go.Sy
open Go Go.Av
variable [Glb] {P : Program} [Tok]
/-- an operation in step with Av's -/
def Res (P : Program) (Z : Pos → Prop) (h : Hp) (m : List (Option Pos)) (sh : SH) (f : Fr) (o : Op) (kr : SV → SH → Prop) : Prop :=
  ∃ a, cop P o = some a ∧ (∀ g, a ≠ .make g) ∧ ∃ v h' Z' m' sh' s, OpOk f h a v h' ∧ Tran P Z h m sh Z' h' m' sh' ∧ SVR P Z' h' m' sh' s v ∧ kr s sh'
section
variable {Z : Pos → Prop} {h : Hp} {m : List (Option Pos)} {sh : SH} {f : Fr} {sf : SF} {kr : SV → SH → Prop}
theorem Res.calc {o : Op} {g : Fr → Hp → Option AVal} {v : AVal} {s : SV} (H : HeapR P Z h m sh) (e : cop P o = some (.calc g)) (hg : g f h = some v) (hv : SVR P Z h m sh s v) (hk : kr s sh) : Res P Z h m sh f o kr :=
  ⟨_, e, (fun _ h => by cases h), v, h, Z, m, sh, s, .calc hg, .refl H, hv, hk⟩
theorem Res.read {o : Op} {g : Fr → Hp → Option AVal} {v : AVal} {s : SV} (H : HeapR P Z h m sh) (e : cop P o = some (.read g)) (hg : g f h = some v) (hv : SVR P Z h m sh s v) (hk : kr s sh) : Res P Z h m sh f o kr :=
  ⟨_, e, (fun _ h => by cases h), v, h, Z, m, sh, s, .read hg, .refl H, hv, hk⟩
/-! ### binary operations -/
theorem binS_ok {op : BinOp} {q : EqK} {a c s : SV} {x y : AOpd} (ha : SVR P Z h m sh a (ev f x)) (hc : SVR P Z h m sh c (ev f y)) (e : binS op q a c = some (true, s)) : ∃ v, BinV f h op q x y v ∧ SVR P Z h m sh s v := by
  unfold binS at e
  split at e
  · rename_i k n j n'
    simp only [SVR] at ha hc
    have cmp : ∀ {t : Bool}, cmpS op (.i k n) (.i j n') = some t → ∃ v, BinV f h op q x y v ∧ SVR P Z h m sh (.b t) v := fun ht => ⟨_, cmp_int ha hc ht, by simp only [SVR]⟩
    cases op <;> simp only [reduceCtorEq] at e
    case add =>
      obtain ⟨hk, e⟩ := bif_eq e rfl; cases e
      refine ⟨_, .of rfl (v := .i k (wrapF k (addI n n'))) ?_, by simp only [SVR]⟩
      show addA (ev f x) (ev f y) = _; rw [ha, hc]; show ifb (keq k j) _ none = _; rw [hk]
    case sub =>
      obtain ⟨hk, e⟩ := bif_eq e rfl; cases e
      refine ⟨_, .of rfl (v := .i k (wrapF k (subI n n'))) ?_, by simp only [SVR]⟩
      show (ob (two (ev f x) (ev f y)) _) = _; rw [ha, hc, two_int hk]
    case mul =>
      obtain ⟨hk, e⟩ := bif_eq e rfl; cases e
      refine ⟨_, .of rfl (v := .i k (wrapF k (n * n'))) ?_, by simp only [SVR]⟩
      show (ob (two (ev f x) (ev f y)) _) = _; rw [ha, hc, two_int hk]
    case quo =>
      obtain ⟨hk, e⟩ := bif_eq e rfl
      simp only [Option.some.injEq, Prod.mk.injEq, Bool.not_eq_true'] at e
      obtain ⟨h0, rfl⟩ := e
      refine ⟨_, .of rfl (v := .i k (wrapF k (n.tdiv n'))) ?_, by simp only [SVR]⟩
      show (ob (two (ev f x) (ev f y)) _) = _; rw [ha, hc, two_int hk]; show ifb (eqI n' 0) none _ = _; rw [h0]
    case rem =>
      obtain ⟨hk, e⟩ := bif_eq e rfl
      simp only [Option.some.injEq, Prod.mk.injEq, Bool.not_eq_true'] at e
      obtain ⟨h0, rfl⟩ := e
      refine ⟨_, .of rfl (v := .i k (n.tmod n')) ?_, by simp only [SVR]⟩
      show (ob (two (ev f x) (ev f y)) _) = _; rw [ha, hc, two_int hk]; show ifb (eqI n' 0) none _ = _; rw [h0]
    case and =>
      obtain ⟨hk, e⟩ := bif_eq e rfl; cases e
      refine ⟨_, .of rfl (v := .i k (k.wrap (BitVec.ofInt k.bits n &&& BitVec.ofInt k.bits n').toNat)) ?_, by simp only [SVR]⟩
      show (ob (two (ev f x) (ev f y)) _) = _; rw [ha, hc, two_int hk]; rfl
    case or =>
      obtain ⟨hk, e⟩ := bif_eq e rfl; cases e
      refine ⟨_, .of rfl (v := .i k (k.wrap (BitVec.ofInt k.bits n ||| BitVec.ofInt k.bits n').toNat)) ?_, by simp only [SVR]⟩
      show (ob (two (ev f x) (ev f y)) _) = _; rw [ha, hc, two_int hk]; rfl
    case xor =>
      obtain ⟨hk, e⟩ := bif_eq e rfl; cases e
      refine ⟨_, .of rfl (v := .i k (k.wrap (BitVec.ofInt k.bits n ^^^ BitVec.ofInt k.bits n').toNat)) ?_, by simp only [SVR]⟩
      show (ob (two (ev f x) (ev f y)) _) = _; rw [ha, hc, two_int hk]; rfl
    case shl =>
      simp only [Option.some.injEq, Prod.mk.injEq, Bool.not_eq_true'] at e
      obtain ⟨h0, rfl⟩ := e
      refine ⟨_, .of rfl (v := .i k (k.wrap (n * 2 ^ (min n'.toNat k.bits)))) ?_, by simp only [SVR]⟩
      show shlA (ev f x) (ev f y) = _; rw [ha, hc]; show ifb (ltI n' 0) none _ = _; rw [h0]
    case shr =>
      simp only [Option.some.injEq, Prod.mk.injEq, Bool.not_eq_true'] at e
      obtain ⟨h0, rfl⟩ := e
      refine ⟨_, .of rfl (v := .i k (n.fdiv (2 ^ (min n'.toNat k.bits)))) ?_, by simp only [SVR]⟩
      show shrA (ev f x) (ev f y) = _; rw [ha, hc]; show ifb (ltI n' 0) none _ = _; rw [h0]
    all_goals
      split at e
      · rename_i t ht; cases e; exact cmp ht
      · cases e
  · rename_i n n'
    simp only [SVR] at ha hc
    split at e
    · simp only [Option.some.injEq, Prod.mk.injEq] at e
      obtain ⟨h0, rfl⟩ := e
      refine ⟨_, .of rfl (v := .s (appR n n')) ?_, by simp only [SVR]⟩
      show addA (ev f x) (ev f y) = _; rw [ha, hc]; show ifb (Nat.ble (Nat.add (lenR n) (lenR n')) 2147483648) _ none = _; rw [h0]
    · split at e
      · rename_i t ht; cases e; exact ⟨_, cmp_str ha hc ht, by simp only [SVR]⟩
      · cases e
  · simp only [SVR] at ha hc
    split at e
    · split at e
      · rename_i t ht; cases e; exact ⟨_, cmp_bool ha hc ht, by simp only [SVR]⟩
      · cases e
    · cases e
  · rename_i l l'
    simp only [SVR] at ha hc
    obtain ⟨l1, e1, k1⟩ := ha
    obtain ⟨l2, e2, k2⟩ := hc
    split at e
    · rename_i ks
      obtain ⟨hk, e3⟩ := bif_eq e rfl
      clear e
      split at e3
      · rename_i t ht
        cases e3
        have := eqCells_ok k1 k2 hk ht
        refine ⟨_, .of rfl (v := .b t) ?_, by simp only [SVR]⟩
        show (ob (eqA (.st ks) (ev f x) (ev f y)) fun t => some (AVal.b t)) = _
        rw [e1, e2]; show (ob (eqN ks l1 l2) fun t => some (AVal.b t)) = _; rw [this]
      · rename_i t ht
        cases e3
        have := eqCells_ok k1 k2 hk ht
        refine ⟨_, .of rfl (v := .b (!t)) ?_, by simp only [SVR]⟩
        show (ob (eqA (.st ks) (ev f x) (ev f y)) fun t => some (AVal.b !t)) = _
        rw [e1, e2]; show (ob (eqN ks l1 l2) fun t => some (AVal.b !t)) = _; rw [this]
      · cases e3
    · cases e
  · simp only [SVR] at ha hc
    split at e <;> cases e <;> first
      | exact ⟨.b true, .of rfl (by show (ob (eqA _ (ev f x) (ev f y)) _) = _; rw [ha, hc]; rfl), by simp only [SVR]⟩
      | exact ⟨.b false, .of rfl (by show (ob (eqA _ (ev f x) (ev f y)) _) = _; rw [ha, hc]; rfl), by simp only [SVR]⟩
  · simp only [SVR] at ha hc
    split at e <;> cases e <;> first
      | exact ⟨.b true, .of rfl (by show (ob (eqA _ (ev f x) (ev f y)) _) = _; rw [ha, hc]; rfl), by simp only [SVR]⟩
      | exact ⟨.b false, .of rfl (by show (ob (eqA _ (ev f x) (ev f y)) _) = _; rw [ha, hc]; rfl), by simp only [SVR]⟩
  · rename_i a
    obtain ⟨id, off⟩ := a
    simp only [SVR] at ha hc
    obtain ⟨_, _, hc⟩ := hc
    split at e <;> cases e <;> first
      | exact ⟨.b true, .of rfl (by show (ob (eqA _ (ev f x) (ev f y)) _) = _; rw [ha, hc]; rfl), by simp only [SVR]⟩
      | exact ⟨.b false, .of rfl (by show (ob (eqA _ (ev f x) (ev f y)) _) = _; rw [ha, hc]; rfl), by simp only [SVR]⟩
  · rename_i a
    obtain ⟨id, off⟩ := a
    simp only [SVR] at ha hc
    obtain ⟨_, _, ha⟩ := ha
    split at e <;> cases e <;> first
      | exact ⟨.b true, .of rfl (by show (ob (eqA _ (ev f x) (ev f y)) _) = _; rw [ha, hc]; rfl), by simp only [SVR]⟩
      | exact ⟨.b false, .of rfl (by show (ob (eqA _ (ev f x) (ev f y)) _) = _; rw [ha, hc]; rfl), by simp only [SVR]⟩
  · simp only [SVR] at ha hc
    split at e <;> cases e <;> first
      | exact ⟨.b true, .of rfl (by show (ob (eqA _ (ev f x) (ev f y)) _) = _; rw [ha, hc]; rfl), by simp only [SVR]⟩
      | exact ⟨.b false, .of rfl (by show (ob (eqA _ (ev f x) (ev f y)) _) = _; rw [ha, hc]; rfl), by simp only [SVR]⟩
  · simp only [SVR] at ha hc
    obtain ⟨_, _, ha⟩ := ha
    split at e <;> cases e <;> first
      | exact ⟨.b true, .of rfl (by show (ob (eqA _ (ev f x) (ev f y)) _) = _; rw [ha, hc]; rfl), by simp only [SVR]⟩
      | exact ⟨.b false, .of rfl (by show (ob (eqA _ (ev f x) (ev f y)) _) = _; rw [ha, hc]; rfl), by simp only [SVR]⟩
  · cases e
end
end Go.Sy


set_option linter.all false
namespace Go.Sy
open Go Go.Av
variable [Glb] {P : Program} [Tok]
section
variable {Z : Pos → Prop} {h : Hp} {m : List (Option Pos)} {sh : SH} {f : Fr} {sf : SF}
theorem pickS_ok {c a b s : SV} {x y z : AOpd} (hc : SVR P Z h m sh c (ev f x)) (ha : SVR P Z h m sh a (ev f y)) (hb : SVR P Z h m sh b (ev f z)) (e : pickS c a b = some (true, s)) : ∃ v, kPick f x y z = some v ∧ SVR P Z h m sh s v := by
  have key : ∀ (t : Bool), ev f x = .b t → kPick f x y z = some (ifb t (ev f y) (ev f z)) := fun t ht => by
    show (ob (asB (ev f x)) fun t => some (ifb t (ev f y) (ev f z))) = _; rw [ht]; rfl
  unfold pickS at e
  split at e
  · rename_i t u w
    cases e
    simp only [SVR] at hc ha hb
    refine ⟨_, key t hc, ?_⟩
    simp only [SVR]; rw [ha, hb]; cases t <;> rfl
  · rename_i t _
    simp only [Option.some.injEq, Prod.mk.injEq] at e
    obtain ⟨rfl, rfl⟩ := e
    simp only [SVR] at hc
    exact ⟨_, key true hc, ha⟩
  · rename_i t _
    simp only [Option.some.injEq, Prod.mk.injEq, Bool.not_eq_true'] at e
    obtain ⟨rfl, rfl⟩ := e
    simp only [SVR] at hc
    exact ⟨_, key false hc, hb⟩
  · rename_i t _ _ _ _
    simp only [Option.some.injEq, Prod.mk.injEq] at e
    obtain ⟨rfl, rfl⟩ := e
    simp only [SVR] at hc
    exact ⟨_, key true hc, ha⟩
  · rename_i t _ _ _ _
    simp only [Option.some.injEq, Prod.mk.injEq, Bool.not_eq_true'] at e
    obtain ⟨rfl, rfl⟩ := e
    simp only [SVR] at hc
    exact ⟨_, key false hc, hb⟩
  · rename_i t k u j w
    obtain ⟨hk, e2⟩ := bif_eq e rfl
    cases e2
    obtain rfl := keq_eq.1 hk
    simp only [SVR] at hc ha hb
    refine ⟨_, key t hc, ?_⟩
    simp only [SVR]; rw [ha, hb]; cases t <;> rfl
  · rename_i t u w
    cases e
    simp only [SVR] at hc ha hb
    refine ⟨_, key t hc, ?_⟩
    simp only [SVR]; rw [ha, hb]; cases t <;> rfl
  · rename_i t e1 ex1 u e2 ex2 w
    obtain ⟨hk, e3⟩ := bif_eq e rfl
    cases e3
    obtain rfl := Nat.eq_of_beq_eq_true hk
    simp only [SVR] at hc ha hb
    refine ⟨_, key t hc, ?_⟩
    simp only [SVR]
    cases t with
    | true => obtain ⟨a, c, g, h1, h2, hgo, h3, h4⟩ := ha; exact ⟨a, c, g, h1, h2, hgo, fun h => h3 (by simp only [Bool.and_eq_true] at h; exact h.1), h4⟩
    | false => obtain ⟨a, c, g, h1, h2, hgo, h3, h4⟩ := hb; exact ⟨a, c, g, h1, h2, hgo, fun h => h3 (by simp only [Bool.and_eq_true] at h; exact h.2), h4⟩
  · cases e
theorem inB_nat {n : Int} {k : Nat} (e : inB n k = true) : natOf n k = some (toN n) ∧ n = Int.ofNat (toN n) ∧ toN n ≤ k := by
  cases n with
  | ofNat j =>
    have e' : Nat.ble j k = true := e
    exact ⟨by show ifb (Nat.ble j k) (some j) none = _; rw [e']; rfl, rfl, Nat.le_of_ble_eq_true e'⟩
  | negSucc j => cases e
theorem inR_nat {n : Int} {k : Nat} (e : inR n k = true) : under n k = some (toN n) ∧ n = Int.ofNat (toN n) ∧ toN n < k := by
  cases n with
  | ofNat j =>
    have e' : Nat.blt j k = true := e
    exact ⟨by show ifb (Nat.blt j k) (some j) none = _; rw [e']; rfl, rfl, by rw [Nat.blt_eq] at e'; exact e'⟩
  | negSucc j => cases e
theorem bound_ok (S : SlotsR P Z h m sh sf f) {o : Option Operand} {d k : Nat} {n : Int} (e : boundS sf d o = some n) (hn : inB n k = true) : ∃ o', coO P o = some o' ∧ bound f o' d k = some (toN n) := by
  cases o with
  | none =>
    simp only [boundS, Option.some.injEq] at e; subst e
    exact ⟨none, rfl, rfl⟩
  | some x =>
    simp only [boundS] at e
    split at e
    · rename_i j w hw
      cases e
      obtain ⟨a, h1, h2⟩ := evS_ok S hw
      simp only [SVR] at h2
      refine ⟨some a, by simp only [coO, h1], ?_⟩
      show (ob (asI (ev f a)) fun n => natOf n k) = _
      rw [h2]; exact (inB_nat hn).1
    · cases e
theorem coO_of (S : SlotsR P Z h m sh sf f) {o : Option Operand} {d : Nat} {n : Int} (e : boundS sf d o = some n) : ∃ o', coO P o = some o' ∧ (o = none ↔ o' = none) := by
  cases o with
  | none => exact ⟨none, rfl, by simp⟩
  | some x =>
    simp only [boundS] at e
    split at e
    · rename_i j w hw
      obtain ⟨a, h1, h2⟩ := evS_ok S hw
      exact ⟨some a, by simp only [coO, h1], by simp⟩
    · cases e
theorem pack_ok {agg : Bool} {l : List SV} {l' : List AVal} {s : SV} (hl : SVRL P Z h m sh l l') (e : packS agg l = some s) : ∃ v, packA agg l' = some v ∧ SVR P Z h m sh s v := by
  cases agg with
  | true => cases e; exact ⟨.ag l', rfl, by simp only [SVR]; exact ⟨l', rfl, hl⟩⟩
  | false =>
    simp only [packS, cond_false] at e
    split at e
    · cases e
      simp only [SVRL] at hl
      obtain ⟨v, q, rfl, h1, rfl⟩ := hl
      exact ⟨v, rfl, h1⟩
    · cases e
theorem extS_ok : ∀ {l : List SV} {l' : List AVal} {i : Nat} {s : SV}, SVRL P Z h m sh l l' → extS l i = some s → ∃ v, atR i l' = some v ∧ SVR P Z h m sh s v
  | [], _, i, s, hl, e => by cases i <;> cases e
  | a :: r, _, 0, s, hl, e => by
    simp only [SVRL] at hl; obtain ⟨v, q, rfl, h1, _⟩ := hl
    simp only [extS, Option.some.injEq] at e; subst e
    exact ⟨v, rfl, h1⟩
  | a :: r, _, i + 1, s, hl, e => by
    simp only [SVRL] at hl; obtain ⟨v, q, rfl, _, h2⟩ := hl
    simp only [extS] at e
    obtain ⟨w, h3, h4⟩ := extS_ok h2 e
    exact ⟨w, h3, h4⟩
theorem mxS_ok : ∀ {l : List SV} {l' : List AVal} {a s : SV} {a' : AVal}, SVR P Z h m sh a a' → SVRL P Z h m sh l l' → mxS a l = some s → ∃ v, maxA a' l' = some v ∧ SVR P Z h m sh s v
  | [], _, a, s, a', ha, hl, e => by
    simp only [SVRL] at hl; subst hl
    cases a <;> simp only [mxS, reduceCtorEq, Option.some.injEq] at e
    subst e
    simp only [SVR] at ha; subst ha
    exact ⟨_, rfl, by simp only [SVR]⟩
  | c :: r, _, a, s, a', ha, hl, e => by
    simp only [SVRL] at hl; obtain ⟨c', q, rfl, h1, h2⟩ := hl
    cases a <;> cases c <;> simp only [mxS, reduceCtorEq] at e
    rename_i k n j w
    simp only [SVR] at ha h1; subst ha; subst h1
    obtain ⟨v, h3, h4⟩ := mxS_ok (a' := .i k (ifb (ltI n w) w n)) (by simp only [SVR]) h2 e
    exact ⟨v, h3, h4⟩
theorem mnS_ok : ∀ {l : List SV} {l' : List AVal} {a s : SV} {a' : AVal}, SVR P Z h m sh a a' → SVRL P Z h m sh l l' → mnS a l = some s → ∃ v, minA a' l' = some v ∧ SVR P Z h m sh s v
  | [], _, a, s, a', ha, hl, e => by
    simp only [SVRL] at hl; subst hl
    cases a <;> simp only [mnS, reduceCtorEq, Option.some.injEq] at e
    subst e
    simp only [SVR] at ha; subst ha
    exact ⟨_, rfl, by simp only [SVR]⟩
  | c :: r, _, a, s, a', ha, hl, e => by
    simp only [SVRL] at hl; obtain ⟨c', q, rfl, h1, h2⟩ := hl
    cases a <;> cases c <;> simp only [mnS, reduceCtorEq] at e
    rename_i k n j w
    simp only [SVR] at ha h1; subst ha; subst h1
    obtain ⟨v, h3, h4⟩ := mnS_ok (a' := .i k (ifb (ltI w n) w n)) (by simp only [SVR]) h2 e
    exact ⟨v, h3, h4⟩
/-! ### parts of a value that is built -/
theorem partsS_ok (S : SlotsR P Z h m sh sf f) {place : Nat → Option (Nat × Nat)} : ∀ {ps : List (Nat × Operand)} {l : List (Nat × Nat × SV)}, partsS sf place ps = some l → ∃ l', partsK P place ps = some l' ∧
    ∀ {z q : List SV} {z' : List AVal}, SVRL P Z h m sh z z' → fillS l z = some q → ∃ q', fill f l' z' = some q' ∧ SVRL P Z h m sh q q'
  | [], l, e => by
    simp only [partsS, Option.some.injEq] at e; subst e
    exact ⟨[], rfl, fun hz hq => by simp only [fillS, Option.some.injEq] at hq; subst hq; exact ⟨_, rfl, hz⟩⟩
  | (i, x) :: r, l, e => by
    simp only [partsS] at e
    split at e
    · rename_i o n a l0 h1 h2 h3
      obtain ⟨hk, e⟩ := bif_eq e rfl
      cases e
      obtain ⟨a', h4, h5⟩ := evS_ok S h2
      obtain ⟨l', h6, h7⟩ := partsS_ok S h3
      refine ⟨⟨o, n, a'⟩ :: l', by simp only [partsK, h1, h4, h6], fun hz hq => ?_⟩
      simp only [fillS] at hq
      obtain ⟨hb, hq⟩ := bif_eq hq rfl
      split at hq
      · rename_i w hw
        have hc := SVR.cells hk h5
        obtain ⟨w', k1, k2⟩ := SVRL.layR hz hc hw
        obtain ⟨q', k3, k4⟩ := h7 k2 hq
        refine ⟨q', ?_, k4⟩
        show ifb (Nat.beq (lenR (ev f a').cells) n) (ob (layR (ev f a').cells o _) _) none = _
        have hl : lenR (ev f a').cells = lenR a.cells := by rw [lenR_eq, lenR_eq, hc.length]
        rw [hl, hb, k1]; exact k3
      · cases hq
    · cases e
theorem zeroS_ok {t : TypeId} {s : SV} (e : zeroS P t = some s) : ∃ z, zeroK P t = some z ∧ SVR P Z h m sh s z ∧ s.known = true := by
  unfold zeroS at e
  split at e
  · rename_i z hz
    refine ⟨z, hz, ofA_ok z s e, ?_⟩
    cases s with
    | x =>
      exfalso
      unfold ofA at e
      split at e <;> (first | cases e | (split at e <;> cases e))
    | o d =>
      exfalso
      unfold ofA at e
      split at e <;> (first | cases e | (split at e <;> cases e))
    | _ => rfl
  · cases e
end
end Go.Sy


set_option linter.all false
namespace Go.Sy
open Go Go.Av
variable [Glb] {P : Program} [Tok]
section
variable {Z : Pos → Prop} {h : Hp} {m : List (Option Pos)} {sh : SH} {f : Fr} {sf : SF}
/-! ### cells of rows -/
theorem RowR.length : ∀ {r : List D} {c : List CT} {v : List AVal}, RowR P Z h r c v → r.length = c.length ∧ v.length = c.length
  | [], c, v, e => by cases c <;> cases v <;> simp only [RowR] at e <;> simp
  | d :: ds, c, v, e => by
    cases c <;> cases v <;> simp only [RowR] at e
    have := RowR.length e.2
    simp [this.1, this.2]
theorem RowR.get : ∀ {r : List D} {c : List CT} {v : List AVal}, RowR P Z h r c v → ∀ (j : Nat) (d : D) (t : CT), r[j]? = some d → c[j]? = some t → ∃ x, v[j]? = some x ∧ CR P Z h d t x
  | [], c, v, e, j, d, t, h1, h2 => by simp at h1
  | d :: ds, c, v, e, j, d', t, h1, h2 => by
    cases c <;> cases v <;> simp only [RowR] at e
    cases j with
    | zero => simp at h1 h2; subst h1; subst h2; exact ⟨_, rfl, e.1⟩
    | succ j => simp at h1 h2 ⊢; exact RowR.get e.2 j d' t h1 h2
theorem RowR.of_get : ∀ {r : List D} {c : List CT} {v : List AVal}, r.length = c.length → v.length = c.length → (∀ (j : Nat) (d : D) (t : CT) (x : AVal), r[j]? = some d → c[j]? = some t → v[j]? = some x → CR P Z h d t x) → RowR P Z h r c v
  | [], c, v, h1, h2, k => by cases c <;> cases v <;> simp at h1 h2; simp only [RowR]
  | d :: ds, c, v, h1, h2, k => by
    cases c with
    | nil => simp at h1
    | cons t ts =>
      cases v with
      | nil => simp at h2
      | cons x xs =>
        simp only [RowR]
        exact ⟨k 0 d t x rfl rfl rfl, RowR.of_get (by simpa using h1) (by simpa using h2) (fun j d t x a b c => k (j + 1) d t x (by simpa using a) (by simpa using b) (by simpa using c))⟩
theorem RowsR.length : ∀ {rows : List (List D)} {c : List CT} {v : List AVal}, RowsR P Z h rows c v → v.length = rows.length * c.length
  | [], c, v, e => by simp only [RowsR] at e; subst e; simp
  | r :: rs, c, v, e => by
    simp only [RowsR] at e
    obtain ⟨l1, l2, rfl, h1, h2⟩ := e
    have := RowsR.length h2
    have h3 := h1.length
    rw [List.length_append, this, h3.2, List.length_cons, Nat.add_mul]; omega
theorem RowsR.get : ∀ {rows : List (List D)} {c : List CT} {v : List AVal}, RowsR P Z h rows c v → ∀ (i : Nat) (r : List D), rows[i]? = some r → RowR P Z h r c ((v.drop (i * c.length)).take c.length)
  | [], c, v, e, i, r, hi => by simp at hi
  | r0 :: rs, c, v, e, i, r, hi => by
    simp only [RowsR] at e
    obtain ⟨l1, l2, rfl, h1, h2⟩ := e
    have h3 := h1.length
    cases i with
    | zero =>
      simp at hi; subst hi
      simp only [Nat.zero_mul, List.drop_zero]
      rw [List.take_append_of_le_length (by omega), List.take_of_length_le (by omega)]; exact h1
    | succ i =>
      simp at hi
      have := RowsR.get h2 i r hi
      rw [show (i + 1) * c.length = l1.length + i * c.length by rw [h3.2, Nat.add_mul]; omega, ← List.drop_drop, List.drop_left]
      exact this
theorem RowsR.append : ∀ {a b : List (List D)} {c : List CT} {v w : List AVal}, RowsR P Z h a c v → RowsR P Z h b c w → RowsR P Z h (a ++ b) c (v ++ w)
  | [], b, c, v, w, e, k => by simp only [RowsR] at e; subst e; exact k
  | r :: rs, b, c, v, w, e, k => by
    simp only [RowsR] at e
    obtain ⟨l1, l2, rfl, h1, h2⟩ := e
    simp only [List.cons_append, RowsR]
    exact ⟨l1, l2 ++ w, by simp, h1, RowsR.append h2 k⟩
theorem RowsR.split : ∀ {n : Nat} {a : List (List D)} {c : List CT} {v : List AVal}, RowsR P Z h a c v → RowsR P Z h (a.take n) c (v.take (n * c.length)) ∧ RowsR P Z h (a.drop n) c (v.drop (n * c.length))
  | 0, a, c, v, e => by simp only [List.take_zero, List.drop_zero, Nat.zero_mul, RowsR, true_and]; exact e
  | n + 1, [], c, v, e => by simp only [RowsR] at e; subst e; simp [RowsR]
  | n + 1, r :: rs, c, v, e => by
    simp only [RowsR] at e
    obtain ⟨l1, l2, rfl, h1, h2⟩ := e
    have h3 := h1.length
    obtain ⟨k1, k2⟩ := RowsR.split (n := n) h2
    rw [show (n + 1) * c.length = l1.length + n * c.length by rw [h3.2, Nat.add_mul]; omega]
    refine ⟨?_, ?_⟩
    · simp only [List.take_succ_cons, RowsR]
      exact ⟨l1, l2.take (n * c.length), by rw [List.take_length_add_append], h1, k1⟩
    · simp only [List.drop_succ_cons]
      rw [List.drop_length_add_append]; exact k2
theorem svOf_ok {d : D} {c : CT} {v : AVal} (e : CR P Z h d c v) : SVR P Z h m sh (svOf c d) v := by
  cases d <;> cases c <;> simp only [CR] at e
  · simp only [svOf, D.int, SVR]; exact e
  · simp only [svOf, D.bool, SVR]; exact e
  · simp only [svOf, D.str, SVR]; exact e
  · rename_i rows t
    simp only [svOf, D.rows, SVR]
    obtain ⟨a, cc, g, h1, h2, hgo, h3⟩ := e
    refine ⟨a, cc, g, h1, h2, hgo, (fun e => by cases e), h3.imp (fun h => h) ?_⟩
    rintro ⟨cts, b, o, vs, own, st, k1, k2, k3, k4, k5, k6⟩
    exact ⟨b, o, k2, k3, cts, vs, own, st, k1, k4, k5, k6⟩
theorem svsOf_ok {r : List D} {c : List CT} {v : List AVal} (e : RowR P Z h r c v) : ∀ {cts : List CT} {off : Nat}, (c.drop off).take cts.length = cts → SVRL P Z h m sh (svsOf r cts off) ((v.drop off).take cts.length)
  | [], off, _ => by simp [svsOf, SVRL]
  | t :: ts, off, hc => by
    have hl := e.length
    have h0 : c[off]? = some t := by
      have : ((c.drop off).take (t :: ts).length)[0]? = some t := by rw [hc]; rfl
      simpa using this
    have hlt := lt_of_get h0
    obtain ⟨d, hd⟩ : ∃ d, r[off]? = some d := ⟨r[off]'(by omega), List.getElem?_eq_getElem (by omega)⟩
    obtain ⟨x, hx, hr⟩ := e.get off d t hd h0
    have hn : (c.drop (off + 1)).take ts.length = ts := by
      have h2 : c.drop off = t :: c.drop (off + 1) := by
        rw [List.drop_eq_getElem_cons hlt]
        congr 1
        rw [List.getElem?_eq_getElem hlt] at h0; exact Option.some.inj h0
      rw [h2] at hc
      simpa using hc
    have ih := svsOf_ok e (cts := ts) (off := off + 1) hn
    have hv : v.drop off = x :: v.drop (off + 1) := by
      have hlt2 := lt_of_get hx
      rw [List.drop_eq_getElem_cons hlt2]
      congr 1
      rw [List.getElem?_eq_getElem hlt2] at hx; exact Option.some.inj hx
    simp only [svsOf, hv, List.length_cons, List.take_succ_cons, SVRL]
    refine ⟨x, _, rfl, ?_, ih⟩
    rw [List.getD_eq_getElem?_getD, hd]
    exact svOf_ok hr
theorem ctAt_eq {e t : TypeId} {off : Nat} {cts : List CT} (h : ctAt P e t off = some cts) : ∃ a, ct P e = some a ∧ ct P t = some cts ∧ (a.drop off).take cts.length = cts := by
  unfold ctAt at h
  split at h
  · rename_i a b h1 h2
    obtain ⟨h3, h4⟩ := bif_eq h rfl
    cases h4
    exact ⟨a, h1, h2, of_decide_eq_true h3⟩
  · cases h
theorem arr_box (H : HeapR P Z h m sh) {id : Nat} {own : Own} {e : TypeId} {rows : List (List D)} {b : Pos} (h0 : sh[id]? = some (.arr own e rows)) (hm : m[id]? = some (some b)) :
    ∃ cts avs o st, ct P e = some cts ∧ h.get b = some (.cells ⟨avs, o, st⟩) ∧ avs.length = rows.length * cts.length ∧ RowsR P Z h rows cts avs ∧ (own = .ow → o = true) ∧ (own = .fr → Z b) := by
  rcases H.box id _ _ h0 hm with ⟨h1, _⟩ | ⟨b', cts, avs, o, st, h1, h2, h3, h4, h5, h6, h7⟩
  · cases h1
  · cases h1; exact ⟨cts, avs, o, st, h2, h3, h4, h5, h6, h7⟩
theorem cells_box (H : HeapR P Z h m sh) {id : Nat} {t : TypeId} {vs : List SV} {b : Pos} (h0 : sh[id]? = some (.cells t vs)) (hm : m[id]? = some (some b)) :
    ∃ avs, h.get b = some (.cells ⟨avs, true, []⟩) ∧ SVRL P Z h m sh vs avs := by
  obtain ⟨b', avs, h1, h2, h3⟩ := H.box id _ _ h0 hm
  cases h1; exact ⟨avs, h2, h3⟩
theorem rowGet {rows : List (List D)} {ix : Nat} (h : ix < rows.length) : rows[ix]? = some (rows.getD ix []) := by
  rw [List.getD_eq_getElem?_getD, List.getElem?_eq_getElem h]; rfl
/-- an element's cells, from a block -/
theorem elem_read {e : TypeId} {rows : List (List D)} {ix off : Nat} {cts a : List CT} {vs : List AVal} {agg : Bool} {s : SV} {o : Nat} (hix : ix < rows.length) (h1 : ct P e = some a) (h3 : (a.drop off).take cts.length = cts)
    (hl : o + rows.length * a.length ≤ vs.length) (hr : RowsR P Z h rows a ((vs.drop o).take (rows.length * a.length))) (e2 : packS agg (svsOf (rows.getD ix []) cts off) = some s) :
    ∃ l', takeX cts.length (dropR (o + ix * a.length + off) vs) = some l' ∧ ∃ v, packA agg l' = some v ∧ SVR P Z h m sh s v := by
  have hrow := hr.get ix _ (rowGet hix)
  have hlen := hrow.length
  have hsv := svsOf_ok (m := m) (sh := sh) hrow h3
  have hoff : off + cts.length ≤ a.length ∨ cts.length = 0 := by
    have := congrArg List.length h3
    simp at this; omega
  have hmul : ix * a.length + a.length ≤ rows.length * a.length := by
    have : (ix + 1) * a.length ≤ rows.length * a.length := Nat.mul_le_mul_right _ hix
    rw [Nat.add_mul] at this; omega
  refine ⟨(vs.drop (o + ix * a.length + off)).take cts.length, ?_, ?_⟩
  · rw [dropR_eq, takeX_eq]
    refine ⟨?_, rfl⟩
    simp; omega
  · have heq : ((((vs.drop o).take (rows.length * a.length)).drop (ix * a.length)).take a.length).drop off = ((vs.drop (o + ix * a.length + off)).take (a.length - off)) := by
      apply List.ext_getElem?
      intro j
      simp only [List.getElem?_take, List.getElem?_drop]
      by_cases hj : off + j < a.length
      · rw [if_pos hj, if_pos (by omega), if_pos (by omega)]; congr 1; omega
      · rw [if_neg hj, if_neg (by omega)]
    rw [heq, List.take_take] at hsv
    rcases hoff with hoff | hoff
    · rw [Nat.min_eq_left (by omega)] at hsv
      exact pack_ok hsv e2
    · rw [hoff] at hsv ⊢
      simp only [Nat.zero_min, List.take_zero] at hsv ⊢
      exact pack_ok hsv e2
theorem loadS_ok (H : HeapR P Z h m sh) {agg : Bool} {n : Nat} {t : TypeId} {a s : SV} {x : AOpd} (ha : SVR P Z h m sh a (ev f x)) (e : loadS P sh agg n t a = some s) : ∃ v, kLoad f h agg n x = some v ∧ SVR P Z h m sh s v := by
  have key : ∀ {b : Pos} {o : Nat} {c : Cells} {l : List AVal} {v : AVal}, ev f x = .p (some (b, o)) → h.get b = some (.cells c) → takeX n (dropR o c.vs) = some l → packA agg l = some v → kLoad f h agg n x = some v := by
    intro b o c l v h1 h2 h3 h4
    show (ob (asP (ev f x)) fun a => ob (h.read a n) (packA agg)) = _
    rw [h1]
    show (ob (ob (h.cells b) fun c => takeX n (dropR o c.vs)) (packA agg)) = _
    rw [Hp.cells_eq.2 h2]
    show ob (takeX n (dropR o c.vs)) (packA agg) = _
    rw [h3]; exact h4
  unfold loadS at e
  split at e
  · rename_i id off
    simp only [SVR] at ha
    obtain ⟨b, hm, hv⟩ := ha
    split at e
    · rename_i t' vs h0
      split at e
      · rename_i l hl
        obtain ⟨avs, h1, h2⟩ := cells_box H h0 hm
        obtain ⟨l', h3, h4⟩ := h2.takeX hl
        obtain ⟨v, h5, h6⟩ := pack_ok h4 e
        exact ⟨v, key hv h1 h3 h5, h6⟩
      · cases e
    · cases e
  · rename_i e0 rows ix off
    simp only [SVR] at ha
    obtain ⟨b, o, cts0, hix, hz, ⟨ctsb, vs, own, st, q1, q2, q3, q4⟩, hc, hv⟩ := ha
    rw [hc] at q1; cases q1
    split at e
    · rename_i cts hcts
      obtain ⟨hn, e2⟩ := bif_eq e rfl
      obtain rfl := Nat.eq_of_beq_eq_true hn
      obtain ⟨a, h1, h2, h3⟩ := ctAt_eq hcts
      rw [hc] at h1; cases h1
      obtain ⟨l', k1, v, k2, k3⟩ := elem_read hix hc h3 q3 q4 e2
      exact ⟨v, key hv q2 k1 k2, k3⟩
    · cases e
  · rename_i id ix off
    simp only [SVR] at ha
    obtain ⟨_, _, ha⟩ := ha
    split at e
    · rename_i own e0 rows h0
      obtain ⟨b, cts0, hix, hm, hc, hv⟩ := ha own e0 rows h0
      split at e
      · rename_i cts hcts
        obtain ⟨hn, e2⟩ := bif_eq e rfl
        obtain rfl := Nat.eq_of_beq_eq_true hn
        obtain ⟨a, h1, h2, h3⟩ := ctAt_eq hcts
        rw [hc] at h1; cases h1
        obtain ⟨cts1, avs, o, st, q1, q2, q3, q4, _⟩ := arr_box H h0 hm
        rw [hc] at q1; cases q1
        obtain ⟨l', k1, v, k2, k3⟩ := elem_read (o := 0) (vs := avs) hix hc h3 (by omega) (by rw [List.drop_zero, List.take_of_length_le (by omega)]; exact q4) e2
        rw [Nat.zero_add] at k1
        exact ⟨v, key hv q2 k1 k2, k3⟩
      · cases e
    · cases e
  · cases e
end
end Go.Sy


set_option linter.all false
namespace Go.Sy
open Go Go.Av
variable [Glb] {P : Program} [Tok]
section
variable {Z : Pos → Prop} {h : Hp} {m : List (Option Pos)} {sh : SH} {f : Fr} {sf : SF}
theorem kindOf_freeze {id : Nat} {own : Own} {e : TypeId} {rows : List (List D)} (h0 : sh[id]? = some (.arr own e rows)) (v : SV) (c : CT) : kindOf (sh.set id (.arr .fr e rows)) v c = kindOf sh v c := by
  cases v <;> cases c <;> try rfl
  case sa.l j t =>
    simp only [kindOf]
    by_cases hj : j = id
    · subst hj
      rw [List.getElem?_set_self (lt_of_get h0), h0]
    · rw [List.getElem?_set_ne (Ne.symm hj)]
  case sv.l j lo hi t =>
    simp only [kindOf]
    by_cases hj : j = id
    · subst hj
      rw [List.getElem?_set_self (lt_of_get h0), h0]
    · rw [List.getElem?_set_ne (Ne.symm hj)]
theorem kindsOf_freeze {id : Nat} {own : Own} {e : TypeId} {rows : List (List D)} (h0 : sh[id]? = some (.arr own e rows)) : ∀ (v : List SV) (c : List CT), kindsOf (sh.set id (.arr .fr e rows)) v c = kindsOf sh v c
  | [], [] => rfl
  | [], _ :: _ => rfl
  | _ :: _, [] => rfl
  | v :: r, c :: cs => by simp only [kindsOf, kindOf_freeze h0, kindsOf_freeze h0 r cs]
theorem sa_cell (H : HeapR P Z h m sh) {id : Nat} {own : Own} {e : TypeId} {rows : List (List D)} {a : AVal} (h0 : sh[id]? = some (.arr own e rows)) (ha : SVR P Z h m sh (.sa id) a) :
    CR P (fun d => Z d ∨ m[id]? = some (some d)) h (.l rows) (.l e) a := by
  have zl : Zle Z h (fun d => Z d ∨ m[id]? = some (some d)) h := ⟨fun _ h => .inl h, fun d y _ hy => ⟨y.own, y.stale, hy⟩⟩
  simp only [SVR] at ha
  obtain ⟨_, _, ha⟩ := ha
  simp only [CR]
  rcases ha own e rows h0 with ⟨_, h2, h3⟩ | ⟨b, g, cts, h1, h2, h3, h4⟩
  · subst h2; exact ⟨none, 0, 0, h3, Nat.le_refl _, .inl rfl, .inl rfl⟩
  · refine ⟨some (b, 0), rows.length, g, h3, Nat.le_refl _, h4.imp (fun h => h) (fun h => ⟨cts, h2, h⟩), .inr ?_⟩
    obtain ⟨cts', avs, o, st, k1, k2, k3, k4, _, _⟩ := arr_box H h0 h1
    rw [h2] at k1; cases k1
    refine ⟨cts, b, 0, avs, o, st, h2, rfl, .inr h1, k2, by omega, ?_⟩
    rw [List.drop_zero, List.take_of_length_le (by omega)]
    exact RowsR.mono zl _ _ _ k4
theorem ViewR.cell (H : HeapR P Z h m sh) {id : Nat} {own : Own} {e : TypeId} {rows : List (List D)} {lo hi : Nat} {a : AVal} (h0 : sh[id]? = some (.arr own e rows)) (ha : ViewR P m id e rows lo hi a) :
    CR P (fun d => Z d ∨ m[id]? = some (some d)) h (.l ((rows.drop lo).take (hi - lo))) (.l e) a := by
  have zl : Zle Z h (fun d => Z d ∨ m[id]? = some (some d)) h := ⟨fun _ h => .inl h, fun d y _ hy => ⟨y.own, y.stale, hy⟩⟩
  obtain ⟨h1, h2, h3⟩ := ha
  have hl : ((rows.drop lo).take (hi - lo)).length = hi - lo := by simp; omega
  simp only [CR, hl]
  rcases h3 with ⟨_, h4, h5⟩ | ⟨b, g, cts, h4, h5, h6, h7⟩
  · subst h5
    simp only [List.length_nil] at h2
    have : hi - lo = 0 := by omega
    rw [this]
    exact ⟨none, 0, 0, h4, Nat.le_refl _, .inl rfl, .inl (by simp)⟩
  · refine ⟨some (b, lo * cts.length), rows.length - lo, g, h6, by omega, h7.imp (fun h => h) (fun h => ⟨cts, h5, h⟩), .inr ?_⟩
    obtain ⟨cts', avs, o, st, k1, k2, k3, k4, _, _⟩ := arr_box H h0 h4
    rw [h5] at k1; cases k1
    have a1 : hi * cts.length ≤ rows.length * cts.length := Nat.mul_le_mul_right _ h2
    have a2 : lo * cts.length + (hi - lo) * cts.length = hi * cts.length := by rw [← Nat.add_mul]; congr 1; omega
    refine ⟨cts, b, lo * cts.length, avs, o, st, h5, rfl, .inr h4, k2, by omega, ?_⟩
    exact RowsR.mono zl _ _ _ (RowsR.split (n := hi - lo) (RowsR.split (n := lo) k4).2).1
theorem dOf_ok (H : HeapR P Z h m sh) {v : SV} {d : D} {sh1 : SH} {c : CT} {a : AVal} (ha : SVR P Z h m sh v a) (hk : kindOf sh v c = true) (e : dOf sh v = some (d, sh1)) :
    ∃ Z', Tran P Z h m sh Z' h m sh1 ∧ CR P Z' h d c a ∧ (∀ (u : List SV) (cs : List CT), kindsOf sh1 u cs = kindsOf sh u cs) := by
  cases v <;> simp only [dOf, reduceCtorEq, Option.some.injEq, Prod.mk.injEq] at e
  case i k n =>
    obtain ⟨rfl, rfl⟩ := e
    cases c <;> simp only [kindOf, Bool.false_eq_true] at hk
    obtain rfl := keq_eq.1 hk
    exact ⟨Z, .refl H, by simpa only [SVR, CR] using ha, fun _ _ => rfl⟩
  case b n =>
    obtain ⟨rfl, rfl⟩ := e
    cases c <;> simp only [kindOf, Bool.false_eq_true] at hk
    exact ⟨Z, .refl H, by simpa only [SVR, CR] using ha, fun _ _ => rfl⟩
  case s n =>
    obtain ⟨rfl, rfl⟩ := e
    cases c <;> simp only [kindOf, Bool.false_eq_true] at hk
    exact ⟨Z, .refl H, by simpa only [SVR, CR] using ha, fun _ _ => rfl⟩
  case nl =>
    obtain ⟨rfl, rfl⟩ := e
    cases c <;> simp only [kindOf, Bool.false_eq_true] at hk
    exact ⟨Z, .refl H, by simp only [SVR] at ha; simp only [CR]; exact ⟨none, 0, 0, ha, Nat.le_refl _, .inl rfl, .inl trivial⟩, fun _ _ => rfl⟩
  case l e0 ex rows =>
    obtain ⟨rfl, rfl⟩ := e
    cases c <;> simp only [kindOf, Bool.false_eq_true] at hk
    obtain rfl := Nat.eq_of_beq_eq_true hk
    refine ⟨Z, .refl H, ?_, fun _ _ => rfl⟩
    simp only [SVR] at ha
    obtain ⟨a', cc, g, h1, h2, hgo, _, h4⟩ := ha
    simp only [CR]
    refine ⟨a', cc, g, h1, h2, hgo, h4.imp (fun h => h) ?_⟩
    rintro ⟨b, o, k1, k2, cts, vs, own, st, k3, k4, k5, k6⟩
    exact ⟨cts, b, o, vs, own, st, k3, k1, k2, k4, k5, k6⟩
  case sa id =>
    split at e
    · cases e
    · rename_i own e0 rows hne h0
      simp only [Option.some.injEq, Prod.mk.injEq] at e
      obtain ⟨rfl, rfl⟩ := e
      cases c <;> simp only [kindOf, Bool.false_eq_true] at hk
      rw [h0] at hk
      obtain rfl := Nat.eq_of_beq_eq_true hk
      exact ⟨_, tran_freeze H h0 hne, sa_cell H h0 ha, kindsOf_freeze h0⟩
    · cases e
  case sv id lo hi =>
    split at e
    · cases e
    · rename_i own e0 rows hne h0
      simp only [Option.some.injEq, Prod.mk.injEq] at e
      obtain ⟨rfl, rfl⟩ := e
      cases c <;> simp only [kindOf, Bool.false_eq_true] at hk
      rw [h0] at hk
      obtain rfl := Nat.eq_of_beq_eq_true hk
      simp only [SVR] at ha
      exact ⟨_, tran_freeze H h0 hne, ViewR.cell H h0 (ha.2.2 own e0 rows h0), kindsOf_freeze h0⟩
    · cases e
theorem dsOf_ok : ∀ {Z : Pos → Prop} {sh sh1 : SH} {vs : List SV} {ds : List D} {cts : List CT} {avs : List AVal}, HeapR P Z h m sh → SVRL P Z h m sh vs avs → kindsOf sh vs cts = true → dsOf sh vs = some (ds, sh1) →
    ∃ Z', Tran P Z h m sh Z' h m sh1 ∧ RowR P Z' h ds cts avs
  | Z, sh, sh1, [], ds, cts, avs, H, ha, hk, e => by
    cases cts <;> simp only [kindsOf, Bool.false_eq_true] at hk
    simp only [dsOf, Option.some.injEq, Prod.mk.injEq] at e
    obtain ⟨rfl, rfl⟩ := e
    simp only [SVRL] at ha; subst ha
    exact ⟨Z, .refl H, by simp only [RowR]⟩
  | Z, sh, sh1, v :: r, ds, cts, avs, H, ha, hk, e => by
    cases cts with
    | nil => simp [kindsOf] at hk
    | cons c cs =>
      simp only [kindsOf, Bool.and_eq_true] at hk
      simp only [SVRL] at ha
      obtain ⟨a, q, rfl, h1, h2⟩ := ha
      simp only [dsOf] at e
      split at e
      · rename_i d sh2 hd
        split at e
        · rename_i ds' sh3 hds
          simp only [Option.some.injEq, Prod.mk.injEq] at e
          obtain ⟨rfl, rfl⟩ := e
          obtain ⟨Z1, t1, c1, k1⟩ := dOf_ok H h1 hk.1 hd
          obtain ⟨Z2, t2, c2⟩ := dsOf_ok t1.hp (SVRL.mono (t1.sle H) _ _ h2) (by rw [k1]; exact hk.2) hds
          exact ⟨Z2, t1.comp H t2, by simp only [RowR]; exact ⟨CR.mono t2.zle _ _ _ c1, c2⟩⟩
        · cases e
      · cases e
theorem one_ok {s : SV} {a : AVal} (e : SVR P Z h m sh s a) (hs : s.one = true) : oneA a = true := by
  cases s with
  | i k n => simp only [SVR] at e; subst e; rfl
  | b c => simp only [SVR] at e; subst e; rfl
  | s l => simp only [SVR] at e; subst e; rfl
  | nl => simp only [SVR] at e; subst e; rfl
  | l t ex rows => simp only [SVR, FrozR] at e; obtain ⟨_, _, _, e, _⟩ := e; subst e; rfl
  | sa id => simp only [SVR] at e; obtain ⟨_, ⟨_, _, _, _, e⟩, _⟩ := e; subst e; rfl
  | sv id lo hi => simp only [SVR] at e; obtain ⟨_, ⟨_, _, _, _, e⟩, _⟩ := e; subst e; rfl
  | q t rows ix off => simp only [SVR] at e; obtain ⟨_, _, _, _, _, _, _, e⟩ := e; subst e; rfl
  | qa id ix off => simp only [SVR] at e; obtain ⟨_, ⟨_, e⟩, _⟩ := e; subst e; rfl
  | p o =>
    rcases o with _ | ⟨id, off⟩ <;> simp only [SVR] at e
    · subst e; rfl
    · obtain ⟨_, _, e⟩ := e; subst e; rfl
  | pa id ix => simp only [SVR] at e; obtain ⟨_, _, e⟩ := e; subst e; rfl
  | fn g a c => simp only [SVR] at e; obtain ⟨_, _, _, e, _⟩ := e; subst e; rfl
  | nilF => simp only [SVR] at e; subst e; rfl
  | nilI => simp only [SVR] at e; subst e; rfl
  | mp o =>
    rcases o with _ | id <;> simp only [SVR] at e
    · subst e; rfl
    · obtain ⟨_, _, e⟩ := e; subst e; rfl
  | ag l => cases hs
  | tu l => cases hs
  | o d => cases hs
  | x => cases hs
theorem ones_ok : ∀ {s : List SV} {a : List AVal}, SVRL P Z h m sh s a → s.all SV.one = true → allR oneA a = true
  | [], a, ha, _ => by simp only [SVRL] at ha; subst ha; rfl
  | s :: r, a, ha, hs => by
    simp only [SVRL] at ha
    obtain ⟨x, q, rfl, h1, h2⟩ := ha
    simp only [List.all_cons, Bool.and_eq_true] at hs
    show ifb (oneA x) (allR oneA q) false = true
    rw [one_ok h1 hs.1, ones_ok h2 hs.2]
theorem write_eq {b : Pos} {o : Nat} {ws avs q : List AVal} {st : List Pos} (hg : h.get b = some (.cells ⟨avs, true, st⟩)) (hn : ws ≠ []) (h1 : allR oneA ws = true) (hq : layR ws o avs = some q) : h.write (b, o) ws = some ((h.kill st).put b (.cells ⟨q, true, []⟩)) := by
  cases ws with
  | nil => exact absurd rfl hn
  | cons w ws =>
    show (ob (h.cells b) fun c => ifb c.own (ifb (allR oneA (w :: ws)) (ob (layR (w :: ws) o c.vs) fun vs => some ((h.kill c.stale).put b (.cells ⟨vs, true, []⟩))) none) none) = _
    rw [Hp.cells_eq.2 hg]
    show ifb true (ifb (allR oneA (w :: ws)) (ob (layR (w :: ws) o avs) fun vs => some ((h.kill st).put b (.cells ⟨vs, true, []⟩))) none) none = _
    rw [h1, hq]
theorem RowR.lay {r : List D} {c : List CT} {v : List AVal} (e : RowR P Z h r c v) {ds row : List D} {cts : List CT} {ws : List AVal} {off : Nat} (k : RowR P Z h ds cts ws) (hc : (c.drop off).take cts.length = cts) (hl : layR ds off r = some row) :
    RowR P Z h row c (v.take off ++ ws ++ v.drop (off + ws.length)) := by
  obtain ⟨h1, rfl⟩ := layR_eq.1 hl
  have l1 := e.length
  have l2 := k.length
  refine RowR.of_get ?_ ?_ ?_
  · simp; omega
  · simp; omega
  · intro j d t x hd ht hx
    rw [List.append_assoc] at hd hx
    rcases Nat.lt_or_ge j off with hj | hj
    · rw [List.getElem?_append_left (by simp; omega), List.getElem?_take, if_pos hj] at hd hx
      obtain ⟨y, hy, hr⟩ := e.get j d t hd ht
      rw [hx] at hy; cases hy; exact hr
    · rw [List.getElem?_append_right (by simp; omega)] at hd hx
      simp only [List.length_take] at hd hx
      rw [Nat.min_eq_left (by omega)] at hd hx
      rcases Nat.lt_or_ge (j - off) ds.length with hj2 | hj2
      · rw [List.getElem?_append_left (by omega)] at hd hx
        have ht' : cts[j - off]? = some t := by
          rw [← hc, List.getElem?_take, if_pos (by omega), List.getElem?_drop]
          rw [show off + (j - off) = j by omega]; exact ht
        obtain ⟨y, hy, hr⟩ := k.get (j - off) d t hd ht'
        rw [hx] at hy; cases hy; exact hr
      · rw [List.getElem?_append_right (by omega), List.getElem?_drop] at hd hx
        rw [show off + ds.length + (j - off - ds.length) = j by omega] at hd
        rw [show off + ws.length + (j - off - ws.length) = j by omega] at hx
        obtain ⟨y, hy, hr⟩ := e.get j d t hd ht
        rw [hx] at hy; cases hy; exact hr
theorem RowsR.set : ∀ {rows : List (List D)} {c : List CT} {v : List AVal} {i : Nat} {r : List D} {w : List AVal}, RowsR P Z h rows c v → i < rows.length → RowR P Z h r c w → RowsR P Z h (rows.set i r) c (v.take (i * c.length) ++ w ++ v.drop ((i + 1) * c.length))
  | [], c, v, i, r, w, e, hi, k => by simp at hi
  | r0 :: rs, c, v, 0, r, w, e, hi, k => by
    simp only [RowsR] at e
    obtain ⟨l1, l2, rfl, h1, h2⟩ := e
    have h3 := h1.length
    simp only [List.set_cons_zero, RowsR, Nat.zero_mul, List.take_zero, List.nil_append]
    refine ⟨w, l2, ?_, k, h2⟩
    rw [show (0 + 1) * c.length = l1.length by omega, List.drop_left]
  | r0 :: rs, c, v, i + 1, r, w, e, hi, k => by
    simp only [RowsR] at e
    obtain ⟨l1, l2, rfl, h1, h2⟩ := e
    have h3 := h1.length
    simp only [List.set_cons_succ, RowsR]
    refine ⟨l1, l2.take (i * c.length) ++ w ++ l2.drop ((i + 1) * c.length), ?_, h1, RowsR.set h2 (by simpa using hi) k⟩
    have e2 : (i + 1 + 1) * c.length = l1.length + (i + 1) * c.length := by rw [h3.2, Nat.add_mul (i + 1)]; omega
    have e1 : (i + 1) * c.length = l1.length + i * c.length := by rw [h3.2, Nat.add_mul]; omega
    rw [e2, List.drop_length_add_append, show (l1 ++ l2).take ((i + 1) * c.length) = l1 ++ l2.take (i * c.length) by rw [e1, List.take_length_add_append]]
    simp
theorem lay_elem {v ws q : List AVal} {i c off : Nat} (hoff : off + ws.length ≤ c) (hl : layR ws (i * c + off) v = some q) :
    q = v.take (i * c) ++ (((v.drop (i * c)).take c).take off ++ ws ++ ((v.drop (i * c)).take c).drop (off + ws.length)) ++ v.drop ((i + 1) * c) ∨ v.length < (i + 1) * c := by
  obtain ⟨h1, rfl⟩ := layR_eq.1 hl
  by_cases hv : v.length < (i + 1) * c
  · exact .inr hv
  · refine .inl ?_
    have e1 : (i + 1) * c = i * c + c := by rw [Nat.add_mul]; omega
    rw [e1] at hv ⊢
    generalize i * c = a at h1 hv ⊢
    apply List.ext_getElem?
    intro j
    simp only [List.append_assoc]
    rcases Nat.lt_or_ge j a with hj | hj
    · rw [List.getElem?_append_left (by simp; omega), List.getElem?_append_left (by simp; omega)]
      simp only [List.getElem?_take]; rw [if_pos (by omega), if_pos hj]
    · rcases Nat.lt_or_ge j (a + off) with hj2 | hj2
      · rw [List.getElem?_append_left (by simp; omega), List.getElem?_append_right (by simp; omega), List.getElem?_append_left (by simp; omega)]
        simp only [List.getElem?_take, List.getElem?_drop, List.length_take]
        rw [Nat.min_eq_left (by omega), if_pos hj2, if_pos (by omega), if_pos (by omega)]
        congr 1; omega
      · rcases Nat.lt_or_ge j (a + off + ws.length) with hj3 | hj3
        · rw [List.getElem?_append_right (by simp; omega), List.getElem?_append_left (by simp; omega), List.getElem?_append_right (by simp; omega), List.getElem?_append_right (by simp; omega), List.getElem?_append_left (by simp; omega)]
          congr 1
          simp only [List.length_take, List.length_drop]; omega
        · rw [List.getElem?_append_right (by simp; omega), List.getElem?_append_right (by simp; omega), List.getElem?_append_right (by simp; omega), List.getElem?_append_right (by simp; omega), List.getElem?_append_right (by simp; omega)]
          simp only [List.length_take, List.length_drop]
          rcases Nat.lt_or_ge j (a + c) with hj4 | hj4
          · rw [List.getElem?_append_left (by simp; omega)]
            simp only [List.getElem?_take, List.getElem?_drop]
            rw [if_pos (by omega)]
            congr 1; omega
          · rw [List.getElem?_append_right (by simp; omega)]
            simp only [List.getElem?_drop, List.length_drop, List.length_take]
            congr 1; omega
end
end Go.Sy


set_option linter.all false
namespace Go.Sy
open Go Go.Av
variable [Glb] {P : Program} [Tok]
section
variable {Z : Pos → Prop} {h : Hp} {m : List (Option Pos)} {sh : SH} {f : Fr} {sf : SF}
theorem exR_eq : ∀ {n i : Nat} {r : List D}, r.length = i + n → exR n i r = r.drop i
  | 0, i, r, h => by simp only [exR]; rw [List.drop_of_length_le (by omega)]
  | n + 1, i, r, h => by
    simp only [exR]
    rw [exR_eq (by omega), List.drop_eq_getElem_cons (by omega : i < r.length), List.getD_eq_getElem?_getD, List.getElem?_eq_getElem (by omega)]; rfl
theorem RowR.len2 : ∀ {r : List D} {c : List CT} {v : List AVal}, RowR P Z h r c v → r.length = c.length
  | [], c, v, hv => by cases c <;> cases v <;> simp only [RowR] at hv <;> rfl
  | d :: ds, c, v, hv => by
    cases c <;> cases v <;> simp only [RowR] at hv
    simp [RowR.len2 hv.2]
theorem storeS_ok (H : HeapR P Z h m sh) {n : Nat} {t : TypeId} {a v : SV} {sh' : SH} {x y : AOpd} (ha : SVR P Z h m sh a (ev f x)) (hv : SVR P Z h m sh v (ev f y)) (e : storeS P sh n t a v = some sh') :
    ∃ h' Z', kStore f h n x y = some (Nx.val undefA h') ∧ Tran P Z h m sh Z' h' m sh' := by
  unfold storeS at e
  obtain ⟨hc, e2⟩ := bif_eq e rfl
  clear e
  have e := e2; clear e2
  simp only [Bool.and_eq_true] at hc
  obtain ⟨hk, hn, h0, h1⟩ := hc
  have hcells := SVR.cells hk hv
  have hlen : lenR (ev f y).cells = lenR v.cells := by rw [lenR_eq, lenR_eq, hcells.length]
  have hone := ones_ok hcells h1
  have hne : (ev f y).cells ≠ [] := fun e0 => by
    rw [Nat.blt_eq] at h0
    have hn' := Nat.eq_of_beq_eq_true hn
    rw [← hlen, lenR_eq, e0] at hn'; simp at hn'; omega
  have key : ∀ {b : Pos} {o : Nat} {q avs : List AVal} {st : List Pos}, ev f x = .p (some (b, o)) → h.get b = some (.cells ⟨avs, true, st⟩) → layR (ev f y).cells o avs = some q →
      kStore f h n x y = some (Nx.val undefA ((h.kill st).put b (.cells ⟨q, true, []⟩))) := by
    intro b o q avs st k1 k2 k3
    show (ob (asP (ev f x)) fun a => ifb (Nat.beq (lenR (ev f y).cells) n) (ob (h.write a (ev f y).cells) fun h' => some (Nx.val undefA h')) none) = _
    rw [k1, hlen, hn]
    show (ob (h.write (b, o) (ev f y).cells) fun h' => some (Nx.val undefA h')) = _
    rw [write_eq k2 hne hone k3]
  split at e
  · rename_i id off
    simp only [SVR] at ha
    obtain ⟨b, hm, hx⟩ := ha
    split at e
    · rename_i t' vs hb
      split at e
      · rename_i q hq
        cases e
        obtain ⟨avs, k1, k2⟩ := cells_box H hb hm
        obtain ⟨q', k3, k4⟩ := k2.layR hcells hq
        refine ⟨_, Z, key hx k1 k3, ?_⟩
        exact tran_put H (c0 := ⟨avs, true, []⟩) hb rfl hm k1 rfl rfl (fun _ _ _ e => by cases e) (fun s => ⟨b, q', rfl, Hp.get_put_same _ _ _, SVRL.mono s _ _ k4⟩)
      · cases e
    · cases e
  · rename_i id ix off
    simp only [SVR] at ha
    obtain ⟨_, _, ha⟩ := ha
    split at e
    · rename_i e0 rows hb
      obtain ⟨b, cts0, hix, hm, hct, hx⟩ := ha .ow e0 rows hb
      split at e
      · rename_i cts hcts
        obtain ⟨hks, e2⟩ := bif_eq e rfl
        clear e
        have e := e2; clear e2
        split at e
        · rename_i ds sh1 hds
          split at e
          · rename_i row e' rows' hrow hb1
            cases e
            obtain ⟨a0, q1, q2, q3⟩ := ctAt_eq hcts
            rw [hct] at q1; cases q1
            obtain ⟨Z1, T1, hr1⟩ := dsOf_ok H hcells hks hds
            obtain ⟨o1, r1, g1, g2⟩ := T1.arr id .ow e' rows' (lt_of_get hb) hb1
            rw [hb] at g1; cases g1
            have hm1 : m[id]? = some (some b) := hm
            obtain ⟨cts1, avs, o, st, k1, k2, k3, k4, k5, _⟩ := arr_box T1.hp hb1 hm1
            rw [hct] at k1; cases k1
            obtain rfl := k5 rfl
            -- the rows are those of before
            obtain ⟨cts2, avs2, o2, st2, j1, j2, j3, j4, _, _⟩ := arr_box H hb hm
            rw [hct] at j1; cases j1
            rw [j2] at k2; cases k2
            have hrows := RowsR.mono T1.zle _ _ _ j4
            have hrow0 := hrows.get ix _ (rowGet hix)
            have hex : exR (esz P e0) 0 (rows.getD ix []) = rows.getD ix [] := by
              have hz : esz P e0 = cts0.length := by unfold esz; rw [hct]
              rw [hz, exR_eq (by have := hrow0.length; have := hrow0.len2; omega)]; simp
            rw [hex] at hrow
            have hlay := hrow0.lay hr1 q3 hrow
            have l1 := hr1.length
            have l2 := hrow0.length
            have hoff : off + (ev f y).cells.length ≤ cts0.length := by
              have := congrArg List.length q3
              simp at this
              rcases Nat.lt_or_ge cts0.length (off + cts.length) with hlt | hge
              · exfalso
                have h5 : (ev f y).cells.length = 0 := by omega
                exact hne (List.eq_nil_of_length_eq_zero h5)
              · omega
            have hmul : ix * cts0.length + cts0.length ≤ rows.length * cts0.length := by
              have : (ix + 1) * cts0.length ≤ rows.length * cts0.length := Nat.mul_le_mul_right _ hix
              rw [Nat.add_mul] at this; omega
            obtain ⟨q, hq⟩ : ∃ q, layR (ev f y).cells (ix * cts0.length + off) avs = some q := ⟨_, layR_eq.2 ⟨by omega, rfl⟩⟩
            rcases lay_elem hoff hq with hq2 | hq2
            · have hset := hrows.set hix hlay
              rw [← hq2] at hset
              refine ⟨_, Z1, key hx j2 hq, T1.comp H ?_⟩
              have hlq : q.length = avs.length := by
                obtain ⟨h6, h7⟩ := layR_eq.1 hq
                rw [h7]; simp; omega
              refine tran_put T1.hp (c0 := ⟨avs, true, st⟩) hb1 rfl hm j2 rfl rfl (fun _ _ _ e => by cases e; exact ⟨.ow, rows', rfl, by simp [g2]⟩) (fun s => .inr ⟨b, cts0, q, true, [], rfl, hct, Hp.get_put_same _ _ _, by rw [hlq, j3]; simp, RowsR.mono s.zle _ _ _ hset, fun _ => rfl, fun e => by cases e⟩)
            · exfalso
              rw [Nat.add_mul] at hq2; omega
          · cases e
        · cases e
      · cases e
    · cases e
  · cases e
/-! ### new rows -/
theorem chunk_ok : ∀ {n k : Nat} {ds : List D} {cts : List CT} {avs : List AVal}, cts.length = n → RowR P Z h ds (List.replicate k cts).flatten avs → RowsR P Z h (chunk n k ds) cts avs ∧ (chunk n k ds).length = k
  | n, 0, ds, cts, avs, hn, e => by
    have := e.length
    simp at this
    obtain ⟨rfl, rfl⟩ := this
    simp [chunk, RowsR]
  | n, k + 1, ds, cts, avs, hn, e => by
    have hl := e.length
    simp only [List.replicate_succ, List.flatten_cons, List.length_append] at hl
    have h1 : RowR P Z h (ds.take n) cts (avs.take n) := by
      refine RowR.of_get (by simp; omega) (by simp; omega) (fun j d t x a b c => ?_)
      have hj := lt_of_get b
      rw [List.getElem?_take, if_pos (by omega)] at a c
      obtain ⟨y, hy, hr⟩ := e.get j d t a (by simp only [List.replicate_succ, List.flatten_cons]; rw [List.getElem?_append_left hj]; exact b)
      rw [c] at hy; cases hy; exact hr
    have h2 : RowR P Z h (ds.drop n) (List.replicate k cts).flatten (avs.drop n) := by
      refine RowR.of_get (by simp only [List.length_drop]; omega) (by simp only [List.length_drop]; omega) (fun j d t x a b c => ?_)
      rw [List.getElem?_drop] at a c
      obtain ⟨y, hy, hr⟩ := e.get (n + j) d t a (by simp only [List.replicate_succ, List.flatten_cons]; rw [List.getElem?_append_right (by omega), show n + j - cts.length = j by omega]; exact b)
      rw [c] at hy; cases hy; exact hr
    obtain ⟨h3, h4⟩ := chunk_ok hn h2
    refine ⟨?_, by simp [chunk, h4]⟩
    simp only [chunk, RowsR]
    exact ⟨_, _, (List.take_append_drop n avs).symm, h1, h3⟩
/-- a new owned row, of nothing that was -/
theorem newArr_ok (H : HeapR P Z h m sh) {e : TypeId} {rows : List (List D)} {cts : List CT} {avs : List AVal} {g : Nat} (hc : ct P e = some cts) (hl : avs.length = rows.length * cts.length) (hr : RowsR P Z h rows cts avs) (hg : g = 0 ∨ g = cts.length) :
    Tran P Z h m sh Z (h.new (.cells ⟨avs, true, []⟩)) (m ++ [some h.next]) (sh ++ [.arr .ow e rows]) ∧
      SVR P Z (h.new (.cells ⟨avs, true, []⟩)) (m ++ [some h.next]) (sh ++ [.arr .ow e rows]) (.sa sh.length) (.sl (some (h.next, 0)) rows.length rows.length g) := by
  refine ⟨tran_new H rfl rfl (fun s => .inr ⟨h.next, cts, avs, true, [], rfl, hc, Hp.get_new_same _ _, hl, RowsR.mono s.zle _ _ _ hr, fun _ => rfl, fun e => by cases e⟩), ?_⟩
  simp only [SVR]
  refine ⟨by simp, ⟨_, _, _, _, rfl⟩, fun own e' rows' h1 => ?_⟩
  have : (sh ++ [SB.arr .ow e rows])[sh.length]? = some (.arr .ow e rows) := by simp
  rw [this] at h1; cases h1
  exact .inr ⟨h.next, g, cts, by rw [← H.len]; simp, hc, rfl, hg⟩
theorem ct_int {e : TypeId} {k : IntKind} (h : P.underlying e = some (.int k)) : ct P e = some [.i k] := by
  unfold ct; rw [ctys, h]
theorem bytes_rows {e : TypeId} : ∀ (l : List Nat), RowsR P Z h (l.map fun c => [D.i (Int.ofNat c)]) [.i .u8] (ofBytes l)
  | [] => by simp [RowsR, ofBytes, mapR_eq]
  | c :: r => by
    simp only [List.map_cons, RowsR]
    refine ⟨[byteA c], ofBytes r, rfl, ?_, bytes_rows (e := e) r⟩
    simp only [RowR, CR, byteA]; simp
theorem ofBytes_length (l : List Nat) : (ofBytes l).length = l.length := by unfold ofBytes; rw [mapR_eq]; simp
end
end Go.Sy


set_option linter.all false
namespace Go.Sy
open Go Go.Av
variable [Glb] {P : Program} [Tok]
section
variable {Z : Pos → Prop} {h : Hp} {m : List (Option Pos)} {sh : SH} {f : Fr} {sf : SF}
theorem FrozR.of_cell {e : TypeId} {rows : List (List D)} {v : AVal} (c : CR P Z h (.l rows) (.l e) v) : FrozR P Z h e false rows v := by
  simp only [CR] at c
  obtain ⟨a, cc, g, h1, h2, hgo, h3⟩ := c
  refine ⟨a, cc, g, h1, h2, hgo, (fun e => by cases e), h3.imp (fun h => h) ?_⟩
  rintro ⟨cts, b, o, vs, own, st, k1, k2, k3, k4, k5, k6⟩
  exact ⟨b, o, k2, k3, cts, vs, own, st, k1, k4, k5, k6⟩
theorem rowsOf_ok (H : HeapR P Z h m sh) {e : TypeId} {s : SV} {rows : List (List D)} {ex : Bool} {sh1 : SH} {v : AVal} (hv : SVR P Z h m sh s v) (hr : isRowOf sh e s = true) (he : rowsOf sh s = some (rows, ex, sh1)) :
    ∃ Z1, Tran P Z h m sh Z1 h m sh1 ∧ FrozR P Z1 h e ex rows v := by
  unfold rowsOf at he
  split at he
  · cases he
    simp only [SVR] at hv
    exact ⟨Z, .refl H, none, 0, 0, hv, Nat.le_refl _, .inl rfl, fun _ => ⟨rfl, rfl⟩, .inl rfl⟩
  · cases he
    simp only [isRowOf] at hr
    obtain rfl := Nat.eq_of_beq_eq_true hr
    simp only [SVR] at hv
    exact ⟨Z, .refl H, hv⟩
  · rename_i id
    split at he
    · cases he
    · rename_i own e' rows' hne h0
      cases he
      simp only [isRowOf, h0] at hr
      obtain rfl := Nat.eq_of_beq_eq_true hr
      exact ⟨_, tran_freeze H h0 hne, .of_cell (sa_cell H h0 hv)⟩
    · cases he
  · rename_i id lo hi
    split at he
    · cases he
    · rename_i own e' rows' hne h0
      cases he
      simp only [isRowOf, h0] at hr
      obtain rfl := Nat.eq_of_beq_eq_true hr
      simp only [SVR] at hv
      exact ⟨_, tran_freeze H h0 hne, .of_cell (ViewR.cell H h0 (hv.2.2 own e rows' h0))⟩
    · cases he
  · cases he
theorem sizeOk_eq {e : TypeId} {n : Nat} (hs : sizeOk P e n = true) : ∃ cts, ct P e = some cts ∧ n = cts.length := by
  unfold sizeOk at hs
  split at hs
  · rename_i cts hc; exact ⟨cts, hc, Nat.eq_of_beq_eq_true hs⟩
  · cases hs
theorem sameOp_eq {a b : Operand} {d d' : Nat} {n n' : Int} (hs : sameOp a b = true) (h1 : boundS sf d (some a) = some n) (h2 : boundS sf d' (some b) = some n') : n = n' := by
  unfold sameOp at hs
  split at hs
  · obtain rfl := Nat.eq_of_beq_eq_true hs
    simp only [boundS] at h1 h2
    rw [h1] at h2; exact Option.some.inj h2
  · have e := of_decide_eq_true hs
    subst e
    simp only [boundS, evS, cv, cv1, ofA] at h1 h2
    rw [Option.some.injEq] at h1 h2
    rw [← h1, ← h2]
  · cases hs
theorem RowsAt.sub {e : TypeId} {rows : List (List D)} {b : Pos} {o lo hi : Nat} {cts : List CT} (hc : ct P e = some cts) (hr : RowsAt P Z h e rows b o) (h1 : lo ≤ hi) (h2 : hi ≤ rows.length) : RowsAt P Z h e ((rows.drop lo).take (hi - lo)) b (o + lo * cts.length) := by
  obtain ⟨cts', vs, own, st, k1, k2, k3, k4⟩ := hr
  rw [hc] at k1; cases k1
  have hl : ((rows.drop lo).take (hi - lo)).length = hi - lo := by simp; omega
  have a1 : hi * cts.length ≤ rows.length * cts.length := Nat.mul_le_mul_right _ h2
  have a2 : lo * cts.length + (hi - lo) * cts.length = hi * cts.length := by rw [← Nat.add_mul]; congr 1; omega
  refine ⟨cts, vs, own, st, hc, k2, by rw [hl]; omega, ?_⟩
  rw [hl]
  have h5 := (RowsR.split (n := hi - lo) (RowsR.split (n := lo) k4).2).1
  have e2 : ((((vs.drop o).take (rows.length * cts.length)).drop (lo * cts.length)).take ((hi - lo) * cts.length)) = (vs.drop (o + lo * cts.length)).take ((hi - lo) * cts.length) := by
    apply List.ext_getElem?
    intro j
    simp only [List.getElem?_take, List.getElem?_drop]
    by_cases hj : j < (hi - lo) * cts.length
    · rw [if_pos hj, if_pos hj, if_pos (by omega)]; congr 1; omega
    · rw [if_neg hj, if_neg hj]
  rw [e2] at h5; exact h5
/-- a part of a row that is not given up -/
theorem vw_ok {s : SV} {v : AVal} {id lo hi : Nat} {e : TypeId} {rows : List (List D)} (hv : SVR P Z h m sh s v) (e1 : vwOf sh s = some (id, lo, hi, e, rows)) : id < sh.length ∧ (∃ own, sh[id]? = some (.arr own e rows)) ∧ ViewR P m id e rows lo hi v := by
  unfold vwOf at e1
  split at e1
  · split at e1
    · cases e1
    · rename_i own e' rows' hne h0
      cases e1
      simp only [SVR] at hv
      refine ⟨hv.1, ⟨own, h0⟩, Nat.zero_le _, Nat.le_refl _, ?_⟩
      rcases hv.2.2 own e rows h0 with ⟨k1, k2, k3⟩ | ⟨b, g, cts, k1, k2, k3, k4⟩
      · exact .inl ⟨k1, k3, k2⟩
      · exact .inr ⟨b, g, cts, k1, k2, by rw [Nat.zero_mul, Nat.sub_zero]; exact k3, k4⟩
    · cases e1
  · split at e1
    · rename_i own e' rows' h0
      cases e1
      simp only [SVR] at hv
      exact ⟨hv.1, ⟨own, h0⟩, hv.2.2 own e rows h0⟩
    · cases e1
  · cases e1
theorem sliceVw_ok {ρ : Type} (H : HeapR P Z h m sh) (S : SlotsR P Z h m sh sf f) {e : TypeId} {n : Nat} {s : SV} {w : Nat × Nat × Nat × TypeId × List (List D)} {xa : AOpd} {lo hi mx : Option Operand} {k : SV → SH → Option ρ} {r : ρ} (hsz : sizeOk P e n = true) (hx : SVR P Z h m sh s (ev f xa)) (hw : vwOf sh s = some w) (he : sliceVw sf sh e w lo hi mx k = some r) :
    ∃ lo' hi' mx', coO P lo = some lo' ∧ coO P hi = some hi' ∧ coO P mx = some mx' ∧ (mx'.isSome = true → hi'.isSome = true) ∧ ∃ v s', kSlice f n xa lo' hi' mx' = some v ∧ SVR P Z h m sh s' v ∧ k s' sh = some r := by
  obtain ⟨id, l0, h0, e', rows⟩ := w
  obtain ⟨hid, ⟨own, hbx⟩, v1, v2, v3⟩ := vw_ok hx hw
  unfold sliceVw at he
  simp only [] at he
  cases hc : (Nat.beq e e' && mxOk mx hi) with
  | false => rw [hc] at he; cases he
  | true =>
    rw [hc] at he
    simp only [Bool.and_eq_true] at hc
    obtain ⟨hee, hmo⟩ := hc
    obtain rfl := Nat.eq_of_beq_eq_true hee
    simp only [Bool.not_true, cond_false] at he
    split at he
    · rename_i a b c ha hb hcc
      have hor : ∀ {α : Type} {c : Bool} {x y : Option α} {r : α}, ifb c x y = some r → y = none → c = true ∧ x = some r := fun {_ c _ _ _} h hy => by cases c with | true => exact ⟨rfl, h⟩ | false => rw [hy] at h; cases h
      have iand : ∀ {c d : Bool}, ifb c d false = true → c = true ∧ d = true := fun {c d} h => by cases c <;> cases d <;> simp_all [ifb]
      obtain ⟨hg, he2⟩ := hor he rfl
      clear he
      obtain ⟨g1, hg⟩ := iand hg
      obtain ⟨g2, hg⟩ := iand hg
      obtain ⟨g3, g4⟩ := iand hg
      obtain ⟨lo', l1, _⟩ := coO_of S ha
      obtain ⟨hi', l2, l2'⟩ := coO_of S hb
      obtain ⟨mx', l3, l3'⟩ := coO_of S hcc
      obtain ⟨_, _, b1⟩ := inB_nat g1
      obtain ⟨_, _, b2⟩ := inB_nat g2
      obtain ⟨_, _, b3⟩ := inB_nat g3
      obtain ⟨_, _, b4⟩ := inB_nat g4
      obtain ⟨cts, hct, rfl⟩ := sizeOk_eq hsz
      change toN b ≤ rows.length - l0 at b1
      change toN c ≤ rows.length - l0 at b4
      obtain ⟨M, hM, hM1, hM2, hM3⟩ : ∃ M, bound f mx' (rows.length - l0) (rows.length - l0) = some M ∧ toN b ≤ M ∧ M ≤ rows.length - l0 ∧ (mx = none → M = rows.length - l0) := by
        cases mx with
        | none =>
          have : mx' = none := l3'.1 rfl
          subst this
          exact ⟨_, rfl, b1, Nat.le_refl _, fun _ => rfl⟩
        | some x =>
          obtain ⟨q, q1, q2⟩ := bound_ok (k := rows.length - l0) S hcc g4
          rw [l3] at q1; cases q1
          refine ⟨toN c, ?_, b3, b4, fun h => by cases h⟩
          cases mx' with
          | none => exact absurd (l3'.2 rfl) (by simp)
          | some y => exact q2
      have hH : bound f hi' (h0 - l0) M = some (toN b) := by
        cases hi with
        | none =>
          have : hi' = none := l2'.1 rfl
          subst this
          simp only [boundS, Option.some.injEq] at hb
          subst hb; rfl
        | some x =>
          obtain ⟨q, q1, q2⟩ := bound_ok (k := rows.length - l0) S hb g1
          rw [l2] at q1; cases q1
          cases hi' with
          | none => exact absurd (l2'.2 rfl) (by simp)
          | some y =>
            change (ob (asI (ev f y)) fun n => natOf n (rows.length - l0)) = _ at q2
            change (ob (asI (ev f y)) fun n => natOf n M) = _
            rw [ob_eq] at q2 ⊢
            obtain ⟨w, w1, w2⟩ := q2
            refine ⟨w, w1, ?_⟩
            rw [natOf_eq] at w2 ⊢
            exact ⟨w2.1, by omega⟩
      have hL : bound f lo' 0 (toN b) = some (toN a) := by
        obtain ⟨q, q1, q2⟩ := bound_ok S ha g2
        rw [l1] at q1; cases q1; exact q2
      have hms : mx'.isSome = true → hi'.isSome = true := by
        intro hs
        cases mx with
        | none => rw [l3'.1 rfl] at hs; cases hs
        | some x =>
          cases hi with
          | none => cases hmo
          | some y =>
            cases hi' with
            | none => exact absurd (l2'.2 rfl) (by simp)
            | some z => rfl
      have hval : ∀ g a0, gOk g cts.length = true → ev f xa = .sl a0 (h0 - l0) (rows.length - l0) g → kSlice f cts.length xa lo' hi' mx' = some (slAt a0 cts.length (toN a) (toN b) M (newG g mx')) := by
        intro g a0 hgo hv
        unfold kSlice
        rw [hv]
        show (ob (bound f mx' (rows.length - l0) (rows.length - l0)) fun m => ob (bound f hi' (h0 - l0) m) fun hi => ob (bound f lo' 0 hi) fun lo => ifb (gOk g cts.length) (some (slAt a0 cts.length lo hi m (newG g mx'))) none) = _
        rw [hM]
        show (ob (bound f hi' (h0 - l0) M) fun hi => ob (bound f lo' 0 hi) fun lo => ifb (gOk g cts.length) (some (slAt a0 cts.length lo hi M (newG g mx'))) none) = _
        rw [hH]
        show (ob (bound f lo' 0 (toN b)) fun lo => ifb (gOk g cts.length) (some (slAt a0 cts.length lo (toN b) M (newG g mx'))) none) = _
        rw [hL]
        show ifb (gOk g cts.length) _ none = _
        rw [hgo]
      refine ⟨lo', hi', mx', l1, l2, l3, hms, ?_⟩
      cases mx with
      | some x =>
        simp only [] at he2
        rcases v3 with ⟨k1, k2, rfl⟩ | ⟨bb, g, cts', k1, k2, k3, k4⟩
        · refine ⟨_, .x, hval 0 none rfl (by rw [k2]; simp at v2; simp; omega), by simp only [SVR], he2⟩
        · rw [hct] at k2; cases k2
          refine ⟨_, .x, hval g _ ?_ k3, by simp only [SVR], he2⟩
          rcases k4 with rfl | rfl
          · rfl
          · unfold gOk
            cases Nat.beq cts.length 0 with
            | true => rfl
            | false => exact Nat.beq_refl _
      | none =>
        simp only [] at he2
        obtain rfl : mx' = none := l3'.1 rfl
        have hMe := hM3 rfl
        rcases v3 with ⟨k1, k2, rfl⟩ | ⟨bb, g, cts', k1, k2, k3, k4⟩
        · refine ⟨_, _, hval 0 none rfl (by rw [k2]; simp at v2; simp; omega), ?_, he2⟩
          simp only [List.length_nil] at v2 b1 hMe
          have hb0 : toN b = 0 := by omega
          have ha0 : toN a = 0 := by omega
          have hl0 : l0 = 0 := by omega
          subst hl0
          rw [hMe, hb0, ha0]
          simp only [SVR]
          refine ⟨hid, ⟨_, _, _, _, rfl⟩, fun own' e2 rows2 hx2 => ?_⟩
          rw [hbx] at hx2; cases hx2
          exact ⟨Nat.le_refl _, Nat.zero_le _, .inl ⟨k1, rfl, rfl⟩⟩
        · rw [hct] at k2; cases k2
          refine ⟨_, _, hval g _ ?_ k3, ?_, he2⟩
          · rcases k4 with rfl | rfl
            · rfl
            · unfold gOk
              cases Nat.beq cts.length 0 with
              | true => rfl
              | false => exact Nat.beq_refl _
          · simp only [SVR]
            refine ⟨hid, ⟨_, _, _, _, rfl⟩, fun own' e2 rows2 hx2 => ?_⟩
            rw [hbx] at hx2; cases hx2
            refine ⟨Nat.add_le_add_left b2 _, by show l0 + toN b ≤ _; omega, .inr ⟨bb, g, cts, k1, hct, ?_, k4⟩⟩
            show AVal.sl (some (bb, l0 * cts.length + toN a * cts.length)) (toN b - toN a) (M - toN a) g = _
            rw [hMe, ← Nat.add_mul]
            congr 1
            · show toN b - toN a = l0 + toN b - (l0 + toN a); omega
            · show rows.length - l0 - toN a = rows.length - (l0 + toN a); omega
    · cases he
theorem sliceSl_ok {ρ : Type} (H : HeapR P Z h m sh) (S : SlotsR P Z h m sh sf f) {e : TypeId} {n : Nat} {s : SV} {xa : AOpd} {lo hi mx : Option Operand} {k : SV → SH → Option ρ} {r : ρ} (hsz : sizeOk P e n = true) (hx : SVR P Z h m sh s (ev f xa)) (he : sliceSl sf sh e s lo hi mx k = some r) :
    ∃ lo' hi' mx', coO P lo = some lo' ∧ coO P hi = some hi' ∧ coO P mx = some mx' ∧ (mx'.isSome = true → hi'.isSome = true) ∧ ∃ v Z' sh' s', kSlice f n xa lo' hi' mx' = some v ∧ Tran P Z h m sh Z' h m sh' ∧ SVR P Z' h m sh' s' v ∧ k s' sh' = some r := by
  unfold sliceSl at he
  split at he
  · rename_i w hw
    obtain ⟨lo', hi', mx', q1, q2, q3, q4, v, s', q5, q6, q7⟩ := sliceVw_ok H S hsz hx hw he
    exact ⟨lo', hi', mx', q1, q2, q3, q4, v, Z, sh, s', q5, .refl H, q6, q7⟩
  cases hc : (isRowOf sh e s && mxOk mx hi) with
  | false => rw [hc] at he; cases he
  | true =>
    rw [hc] at he
    simp only [Bool.and_eq_true] at hc
    obtain ⟨hro, hmo⟩ := hc
    simp only [Bool.not_true, cond_false] at he
    split at he
    · rename_i rows ex sh1 hrows
      split at he
      · rename_i a b c ha hb hcc
        have hor : ∀ {α : Type} {c : Bool} {x y : Option α} {r : α}, ifb c x y = some r → y = none → c = true ∧ x = some r := fun {_ c _ _ _} h hy => by cases c with | true => exact ⟨rfl, h⟩ | false => rw [hy] at h; cases h
        have iand : ∀ {c d : Bool}, ifb c d false = true → c = true ∧ d = true := fun {c d} h => by cases c <;> cases d <;> simp_all [ifb]
        obtain ⟨hg, he⟩ := hor he rfl
        obtain ⟨g1, hg⟩ := iand hg
        obtain ⟨g2, hg⟩ := iand hg
        obtain ⟨g3, g4⟩ := iand hg
        obtain ⟨Z1, T, F⟩ := rowsOf_ok H hx hro hrows
        obtain ⟨lo', l1, _⟩ := coO_of S ha
        obtain ⟨hi', l2, l2'⟩ := coO_of S hb
        obtain ⟨mx', l3, l3'⟩ := coO_of S hcc
        obtain ⟨_, _, b1⟩ := inB_nat g1
        obtain ⟨_, _, b2⟩ := inB_nat g2
        obtain ⟨_, _, b3⟩ := inB_nat g3
        obtain ⟨_, _, b4⟩ := inB_nat g4
        obtain ⟨cts, hct, rfl⟩ := sizeOk_eq hsz
        obtain ⟨pa, pc, pg, f1, f2, f3, f4, f5⟩ := F
        -- the bounds, as Av has them
        obtain ⟨M, hM, hM1, hM2, hM3⟩ : ∃ M, bound f mx' pc pc = some M ∧ toN b ≤ M ∧ M ≤ pc ∧ (mx = none → M = pc) := by
          cases mx with
          | none =>
            have : mx' = none := l3'.1 rfl
            subst this
            exact ⟨pc, rfl, by omega, Nat.le_refl _, fun _ => rfl⟩
          | some x =>
            obtain ⟨q, q1, q2⟩ := bound_ok (k := rows.length) S hcc g4
            rw [l3] at q1; cases q1
            simp only [boundS] at hcc
            refine ⟨toN c, ?_, b3, by omega, fun h => by cases h⟩
            cases mx' with
            | none => exact absurd (l3'.2 rfl) (by simp)
            | some y =>
              change (ob (asI (ev f y)) fun n => natOf n pc) = _
              change (ob (asI (ev f y)) fun n => natOf n rows.length) = _ at q2
              rw [ob_eq] at q2 ⊢
              obtain ⟨w, w1, w2⟩ := q2
              refine ⟨w, w1, ?_⟩
              rw [natOf_eq] at w2 ⊢
              exact ⟨w2.1, by omega⟩
        have hH : bound f hi' rows.length M = some (toN b) := by
          cases hi with
          | none =>
            have : hi' = none := l2'.1 rfl
            subst this
            simp only [boundS, Option.some.injEq] at hb
            subst hb; rfl
          | some x =>
            obtain ⟨q, q1, q2⟩ := bound_ok (k := rows.length) S hb g1
            rw [l2] at q1; cases q1
            cases hi' with
            | none => exact absurd (l2'.2 rfl) (by simp)
            | some y =>
              change (ob (asI (ev f y)) fun n => natOf n rows.length) = _ at q2
              change (ob (asI (ev f y)) fun n => natOf n M) = _
              rw [ob_eq] at q2 ⊢
              obtain ⟨w, w1, w2⟩ := q2
              refine ⟨w, w1, ?_⟩
              rw [natOf_eq] at w2 ⊢
              exact ⟨w2.1, hM1⟩
        have hL : bound f lo' 0 (toN b) = some (toN a) := by
          obtain ⟨q, q1, q2⟩ := bound_ok (k := toN b) S ha g2
          rw [l1] at q1; cases q1; exact q2
        have hgok : gOk pg cts.length = true := by
          unfold gOk
          rcases f3 with rfl | ⟨cts', q1, rfl⟩
          · rfl
          · rw [hct] at q1; cases q1
            cases h0 : Nat.beq cts.length 0 <;> simp [ifb]
        refine ⟨lo', hi', mx', l1, l2, l3, ?_, slAt pa cts.length (toN a) (toN b) M (newG pg mx'), Z1, sh1, _, ?_, T, ?_, he⟩
        · intro hms
          cases mx with
          | none => have : mx' = none := l3'.1 rfl; subst this; cases hms
          | some x =>
            cases hi with
            | none => cases hmo
            | some y =>
              cases hi' with
              | none => exact absurd (l2'.2 rfl) (by simp)
              | some z => rfl
        · show (ob (asSl (ev f xa)) fun s => ob (bound f mx' s.cap s.cap) fun m => ob (bound f hi' s.len m) fun hi => ob (bound f lo' 0 hi) fun lo => ifb (gOk s.g cts.length) (some (slAt s.a cts.length lo hi m (newG s.g mx'))) none) = _
          rw [f1]
          show (ob (bound f mx' pc pc) fun m => ob (bound f hi' rows.length m) fun hi => ob (bound f lo' 0 hi) fun lo => ifb (gOk pg cts.length) (some (slAt pa cts.length lo hi m (newG pg mx'))) none) = _
          rw [hM]
          show (ob (bound f hi' rows.length M) fun hi => ob (bound f lo' 0 hi) fun lo => ifb (gOk pg cts.length) (some (slAt pa cts.length lo hi M (newG pg mx'))) none) = _
          rw [hH]
          show (ob (bound f lo' 0 (toN b)) fun lo => ifb (gOk pg cts.length) (some (slAt pa cts.length lo (toN b) M (newG pg mx'))) none) = _
          rw [hL]
          show ifb (gOk pg cts.length) (some (slAt pa cts.length (toN a) (toN b) M (newG pg mx'))) none = _
          rw [hgok]
        · simp only [SVR]
          have hl : ((rows.drop (toN a)).take (Nat.sub (toN b) (toN a))).length = toN b - toN a := by
            simp only [List.length_take, List.length_drop, Nat.sub_eq]; omega
          refine ⟨_, M - toN a, newG pg mx', by rw [hl]; rfl, by rw [hl]; omega, ?_, ?_, ?_⟩
          · cases mx' with
            | none => exact f3
            | some y => exact .inl rfl
          · intro hex
            rw [hl]
            cases mx with
            | none =>
              have : mx' = none := l3'.1 rfl
              subst this
              simp only [Bool.and_eq_true] at hex
              obtain ⟨k1, k2⟩ := f4 hex.1
              cases hi with
              | some x => cases hex.2
              | none =>
                simp only [boundS, Option.some.injEq] at hb
                have : toN b = rows.length := by rw [← hb]; rfl
                refine ⟨k1, ?_⟩
                rw [hM3 rfl, k2, this]
            | some x =>
              cases hi with
              | none => cases hex
              | some y =>
                have hbc : b = c := sameOp_eq hex hb hcc
                cases mx' with
                | none => exact absurd (l3'.2 rfl) (by simp)
                | some z =>
                  refine ⟨rfl, ?_⟩
                  have : M = toN c := by
                    obtain ⟨q, q1, q2⟩ := bound_ok (k := rows.length) S hcc g4
                    rw [l3] at q1; cases q1
                    change (ob (asI (ev f z)) fun n => natOf n pc) = _ at hM
                    change (ob (asI (ev f z)) fun n => natOf n rows.length) = _ at q2
                    rw [ob_eq] at q2 hM
                    obtain ⟨w, w1, w2⟩ := q2
                    obtain ⟨u, u1, u2⟩ := hM
                    rw [w1] at u1; cases u1
                    rw [natOf_eq] at w2 u2
                    have := w2.1.symm.trans u2.1
                    omega
                  rw [this, ← hbc]
          · rcases f5 with rfl | ⟨p, o, q1, q2, q3⟩
            · left; simp
            · right
              subst q1
              exact ⟨p, o + toN a * cts.length, rfl, q2, q3.sub hct b2 b1⟩
      · cases he
    · cases he
end
end Go.Sy


set_option linter.all false
namespace Go.Sy
open Go Go.Av
variable [Glb] {P : Program} [Tok]
section
variable {Z : Pos → Prop} {h : Hp} {m : List (Option Pos)} {sh : SH} {f : Fr} {sf : SF}
theorem CR.one {d : D} {c : CT} {v : AVal} (e : CR P Z h d c v) : oneA v = true := by
  cases d <;> cases c <;> simp only [CR] at e
  · subst e; rfl
  · subst e; rfl
  · subst e; rfl
  · obtain ⟨_, _, _, e, _⟩ := e; subst e; rfl
theorem RowR.ones : ∀ {r : List D} {c : List CT} {v : List AVal}, RowR P Z h r c v → allR oneA v = true
  | [], c, v, e => by cases c <;> cases v <;> simp only [RowR] at e <;> rfl
  | d :: ds, c, v, e => by
    cases c <;> cases v <;> simp only [RowR] at e
    rename_i x xs
    show ifb (oneA x) (allR oneA xs) false = true
    rw [CR.one e.1, RowR.ones e.2]
theorem RowsR.ones : ∀ {rows : List (List D)} {c : List CT} {v : List AVal}, RowsR P Z h rows c v → allR oneA v = true
  | [], c, v, e => by simp only [RowsR] at e; subst e; rfl
  | r :: rs, c, v, e => by
    simp only [RowsR] at e
    obtain ⟨l1, l2, rfl, h1, h2⟩ := e
    rw [allR_eq, List.all_append, ← allR_eq, ← allR_eq, RowR.ones h1, RowsR.ones h2]; rfl
/-- what is appended: elements, as cells -/
structure Src (P : Program) (Z : Pos → Prop) (h : Hp) (e : TypeId) (esz : Nat) (x : AVal) (new : List (List D)) (cs : List AVal) : Prop where
  src : srcA h esz x = some (new.length, cs)
  rows : ∀ cts, ct P e = some cts → RowsR P Z h new cts cs
theorem src_froz {e : TypeId} {ex : Bool} {new : List (List D)} {x : AVal} {cts : List CT} (hc : ct P e = some cts) (hx : FrozR P Z h e ex new x) : ∃ cs, Src P Z h e cts.length x new cs := by
  obtain ⟨a, c, g, h1, h2, h3, h4, h5⟩ := hx
  cases hn : Nat.beq new.length 0 with
  | true =>
    have h0 : new = [] := List.eq_nil_of_length_eq_zero (Nat.eq_of_beq_eq_true hn)
    subst h0
    exact ⟨[], by rw [h1]; rfl, fun _ _ => by simp [RowsR]⟩
  | false =>
    rcases h5 with rfl | ⟨b, o, rfl, q2, cts', vs, own, st, k1, k2, k3, k4⟩
    · cases hn
    · rw [hc] at k1; cases k1
      refine ⟨(vs.drop o).take (new.length * cts.length), ?_, fun cts' h => by rw [hc] at h; cases h; exact k4⟩
      rw [h1]
      show ifb (Nat.beq new.length 0) _ (ob (ob (h.cells b) fun c => takeX (Nat.mul new.length cts.length) (dropR o c.vs)) fun l => some (new.length, l)) = _
      rw [hn, Hp.cells_eq.2 k2]
      show (ob (takeX (new.length * cts.length) (dropR o vs)) fun l => some (new.length, l)) = _
      rw [dropR_eq, takeX_eq.2 ⟨by simp; omega, rfl⟩]
/-- a value that is appended to, and how Av has it: nothing and no room; or rows without room; or an owned row -/
theorem appendA_eq {esz bytes : Nat} {a : Option Adr} {len cap g n : Nat} {cs : List AVal} (h1 : allR oneA cs = true) (h2 : cs.length = n * esz) (h3 : 0 < esz) : appendA h esz bytes ⟨a, len, cap, g⟩ n cs = appendTo h esz bytes ⟨a, len, cap, g⟩ (len + n) cs := by
  unfold appendA
  rw [h1, lenR_eq, h2]
  have : Nat.beq (n * esz) (Nat.mul n esz) = true := Nat.beq_refl _
  rw [this, show Nat.blt 0 esz = true by rw [Nat.blt_eq]; exact h3]; rfl
theorem append_zero {esz bytes : Nat} {a : Option Adr} {len g : Nat} (hg : a = none → g = 0) : appendTo h esz bytes ⟨a, len, len, g⟩ (len + 0) [] = some (.val (.sl a len len g) h) := by
  unfold appendTo
  have hb : Nat.ble (len + 0) len = true := Nat.ble_eq_true_of_le (Nat.le_refl _)
  cases a with
  | none =>
    show ifb (Nat.ble (len + 0) len) _ _ = _
    rw [hb, hg rfl]; rfl
  | some a =>
    show ifb (Nat.ble (len + 0) len) (ob (h.write (moved a (Nat.mul len esz)) []) _) _ = _
    rw [hb]; rfl
theorem not_ble {a b : Nat} (h : b < a) : Nat.ble a b = false := by
  cases e : Nat.ble a b with
  | false => rfl
  | true => have := Nat.le_of_ble_eq_true e; omega
/-- of nothing -/
theorem append_nil {esz bytes n : Nat} {a : Option Adr} {cs : List AVal} (hn : 0 < n) (hf : fitsA (0 + n) bytes = true) : appendTo h esz bytes ⟨a, 0, 0, 0⟩ (0 + n) cs = some (.val (.sl (some (h.next, 0)) n n esz) (h.new (.cells ⟨cs, true, []⟩))) := by
  unfold appendTo
  cases a with
  | none =>
    show ifb (Nat.ble (0 + n) 0) _ (ifb (fitsA (0 + n) bytes && Nat.beq 0 0) (Av.newRow h esz cs [] (0 + n) fun h' => h') none) = _
    rw [not_ble (by omega), hf]
    show Av.newRow h esz cs [] (0 + n) (fun h' => h') = _
    rw [Nat.zero_add]; rfl
  | some a =>
    show ifb (Nat.ble (0 + n) 0) _ (ifb (fitsA (0 + n) bytes) (ifb (Nat.beq 0 0 && Nat.beq 0 0) (Av.newRow h esz cs [] (0 + n) fun h' => h') _) none) = _
    rw [not_ble (by omega), hf]
    show Av.newRow h esz cs [] (0 + n) (fun h' => h') = _
    rw [Nat.zero_add]; rfl
theorem append_more {esz bytes n len g o : Nat} {b : Pos} {c : Cells} {cs old : List AVal} (hl : 0 < len) (hn : 0 < n) (hf : fitsA (len + n) bytes = true) (hb : h.get b = some (.cells c)) (ho : takeX (len * esz) (dropR o c.vs) = some old) :
    appendTo h esz bytes ⟨some (b, o), len, len, g⟩ (len + n) cs = more h esz (b, o) len g (len + n) c (old ++ cs) := by
  unfold appendTo
  show ifb (Nat.ble (len + n) len) _ (ifb (fitsA (len + n) bytes) (ifb (Nat.beq len 0 && Nat.beq g 0) _ (ob (h.cells b) fun c => ob (takeX (Nat.mul len esz) (dropR o c.vs)) fun old => more h esz (b, o) len g (len + n) c (appR old cs))) none) = _
  have h0 : Nat.beq len 0 = false := by cases len with | zero => omega | succ n => rfl
  rw [not_ble (by omega), hf, h0, Hp.cells_eq.2 hb]
  show (ob (takeX (len * esz) (dropR o c.vs)) fun old => more h esz (b, o) len g (len + n) c (appR old cs)) = _
  rw [ho]
  show more h esz (b, o) len g (len + n) c (appR old cs) = _
  rw [appR_eq]
/-- rows laid over others -/
theorem lay_rows {rows new : List (List D)} {cts : List CT} {avs cs : List AVal} {hi : Nat} (h1 : RowsR P Z h rows cts avs) (h2 : RowsR P Z h new cts cs) (hl : avs.length = rows.length * cts.length) (hle : hi + new.length ≤ rows.length) :
    ∃ q, layR cs (hi * cts.length) avs = some q ∧ q.length = avs.length ∧ RowsR P Z h (rows.take hi ++ (new ++ rows.drop (hi + new.length))) cts q := by
  have l2 := h2.length
  have a1 : (hi + new.length) * cts.length ≤ rows.length * cts.length := Nat.mul_le_mul_right _ hle
  rw [Nat.add_mul] at a1
  refine ⟨avs.take (hi * cts.length) ++ cs ++ avs.drop (hi * cts.length + cs.length), layR_eq.2 ⟨by omega, rfl⟩, by simp; omega, ?_⟩
  rw [List.append_assoc]
  refine (RowsR.split (n := hi) h1).1.append (h2.append ?_)
  have := (RowsR.split (n := hi + new.length) h1).2
  rw [Nat.add_mul, ← l2] at this; exact this
theorem appendS_ok {ρ : Type} (H : HeapR P Z h m sh) {e : TypeId} {n bytes : Nat} {s : SV} {xs xx : AOpd} {new : List (List D)} {cs : List AVal} {k : SV → SH → Option ρ} {r : ρ} {cts : List CT} (hc : ct P e = some cts) (h0 : 0 < cts.length)
    (hs : SVR P Z h m sh s (ev f xs)) (hx : Src P Z h e cts.length (ev f xx) new cs) (he : appendS sh e bytes s new k = some r) :
    ∃ v h' m' sh' s', kAppend f h cts.length bytes xs xx = some (.val v h') ∧ Tran P Z h m sh Z h' m' sh' ∧ SVR P Z h' m' sh' s' v ∧ k s' sh' = some r := by
  have hrows := hx.rows cts hc
  have hlen := hrows.length
  have hone := hrows.ones
  have hor : ∀ {c : Bool} {x y : Option ρ}, ifb c x y = some r → (c = true ∧ x = some r) ∨ (c = false ∧ y = some r) := fun {c _ _} h => by cases c <;> simp_all [ifb]
  have key : ∀ {a : Option Adr} {len cap g : Nat}, ev f xs = .sl a len cap g → kAppend f h cts.length bytes xs xx = appendTo h cts.length bytes ⟨a, len, cap, g⟩ (len + new.length) cs := by
    intro a len cap g h1
    show (ob (asSl (ev f xs)) fun s => ob (srcA h cts.length (ev f xx)) fun p => appendA h cts.length bytes s p.1 p.2) = _
    rw [h1, hx.src]
    show appendA h cts.length bytes ⟨a, len, cap, g⟩ new.length cs = _
    exact appendA_eq hone hlen h0
  have zero : ∀ {a : Option Adr} {len g : Nat}, ev f xs = .sl a len len g → (a = none → g = 0) → new.length = 0 → kAppend f h cts.length bytes xs xx = some (.val (ev f xs) h) := by
    intro a len g h1 hg h2
    have hcs : cs = [] := by rw [h2] at hlen; simp at hlen; exact hlen
    rw [key h1, h2, hcs, append_zero hg, h1]
  have pos : ∀ {l : List (List D)}, Nat.beq l.length 0 = false → 0 < l.length := fun h => by
    rename_i l
    cases l with
    | nil => cases h
    | cons a l => simp
  unfold appendS at he
  simp only at he
  split at he
  · -- a part of an owned row
    rename_i id lo hi
    split at he
    · rename_i e' rows hb
      cases hee : Nat.beq e e' with
      | false => rw [hee] at he; cases he
      | true =>
        rw [hee] at he
        obtain rfl := Nat.eq_of_beq_eq_true hee
        simp only [cond_true] at he
        have hs' := hs
        simp only [SVR] at hs
        obtain ⟨hid, hsl, hs⟩ := hs
        obtain ⟨v1, v2, v3⟩ := hs .ow e rows hb
        rcases hor he with ⟨h1, he⟩ | ⟨h1, he⟩
        · have h1' := Nat.eq_of_beq_eq_true h1
          have hcs : cs = [] := by rw [h1'] at hlen; simp at hlen; exact hlen
          refine ⟨ev f xs, h, m, sh, _, ?_, .refl H, hs', he⟩
          rcases v3 with ⟨_, k2, _⟩ | ⟨b, g, cts', k1, k2, k3, k4⟩
          · rw [key k2, h1', hcs, append_zero (fun _ => rfl), k2]
          · rw [key k3, h1', hcs, k3]
            have hle : Nat.ble (hi - lo + 0) (rows.length - lo) = true := Nat.ble_eq_true_of_le (by omega)
            unfold appendTo
            show ifb (Nat.ble (hi - lo + 0) (rows.length - lo)) (ob (h.write (moved _ _) []) _) _ = _
            rw [hle]; rfl
        · rcases hor he with ⟨h2, he⟩ | ⟨_, he⟩
          · have hle : hi + new.length ≤ rows.length := Nat.le_of_ble_eq_true h2
            rcases v3 with ⟨_, k2, rfl⟩ | ⟨b, g, cts', k1, k2, k3, k4⟩
            · have := pos h1; simp only [List.length_nil] at hle; omega
            · rw [hc] at k2; cases k2
              obtain ⟨cts2, avs, o, st, j1, j2, j3, j4, j5, _⟩ := arr_box H hb k1
              rw [hc] at j1; cases j1
              obtain rfl := j5 rfl
              obtain ⟨q, l1, l2, l3⟩ := lay_rows j4 hrows j3 hle
              have hrl : (rows.take hi ++ (new ++ rows.drop (hi + new.length))).length = rows.length := by simp; omega
              refine ⟨.sl (some (b, lo * cts.length)) (hi - lo + new.length) (rows.length - lo) g, _, m, _, _, ?_, tran_put H (c0 := ⟨avs, true, st⟩) (c := ⟨q, true, []⟩) (x := .arr .ow e (rows.take hi ++ (new ++ rows.drop (hi + new.length)))) hb rfl k1 j2 rfl rfl (fun own e2 rows2 hx => by cases hx; exact ⟨.ow, rows, rfl, hrl⟩) (fun s => .inr ⟨b, cts, q, true, [], rfl, hc, Hp.get_put_same _ _ _, by rw [l2, j3, hrl], RowsR.mono s.zle _ _ _ l3, fun _ => rfl, fun e => by cases e⟩), ?_, he⟩
              · rw [key k3]
                unfold appendTo
                have hle2 : Nat.ble (hi - lo + new.length) (rows.length - lo) = true := Nat.ble_eq_true_of_le (by omega)
                show ifb (Nat.ble (hi - lo + new.length) (rows.length - lo)) (ob (h.write (moved (b, lo * cts.length) (Nat.mul (hi - lo) cts.length)) cs) _) _ = _
                rw [hle2]
                have hat : moved (b, lo * cts.length) (Nat.mul (hi - lo) cts.length) = (b, hi * cts.length) := by
                  show (b, lo * cts.length + (hi - lo) * cts.length) = _
                  rw [← Nat.add_mul]; congr 2; omega
                have hp := Nat.mul_pos (pos h1) h0
                have hne : cs ≠ [] := by
                  intro e0
                  have h3 : cs.length = 0 := by rw [e0]; rfl
                  omega
                rw [hat, write_eq j2 hne hone l1]
              · simp only [SVR]
                refine ⟨by simpa using hid, ⟨_, _, _, _, rfl⟩, fun own e2 rows2 hx => ?_⟩
                rw [List.getElem?_set_self (lt_of_get hb)] at hx; cases hx
                refine ⟨by show lo ≤ hi + new.length; omega, by rw [hrl]; exact hle, .inr ⟨b, g, cts, k1, hc, ?_, k4⟩⟩
                have e1 : hi - lo + new.length = hi + new.length - lo := by omega
                rw [hrl, e1]; rfl
          · cases he
    · cases he
  · -- nil
    simp only [SVR] at hs
    rcases hor he with ⟨h1, he⟩ | ⟨h1, he⟩
    · exact ⟨_, h, m, sh, _, zero hs (fun _ => rfl) (Nat.eq_of_beq_eq_true h1), .refl H, by rw [hs]; simp only [SVR], he⟩
    · rcases hor he with ⟨h2, he⟩ | ⟨_, he⟩
      · simp only [List.length_nil, List.nil_append, newArr, Nat.add_eq] at he h2
        obtain ⟨T, hv⟩ := newArr_ok H hc hlen hrows (.inr rfl)
        exact ⟨_, _, _, _, _, by rw [key hs]; exact append_nil (pos h1) h2, T, hv, he⟩
      · cases he
  · -- rows without room
    rename_i e' rows
    cases hee : Nat.beq e e' with
    | false => rw [hee] at he; cases he
    | true =>
      rw [hee] at he
      obtain rfl := Nat.eq_of_beq_eq_true hee
      simp only [cond_true] at he
      have hs' := hs
      simp only [SVR] at hs
      obtain ⟨a, c, g, f1, f2, f3, f4, f5⟩ := hs
      obtain ⟨rfl, rfl⟩ := f4 rfl
      rcases hor he with ⟨h1, he⟩ | ⟨h1, he⟩
      · exact ⟨_, h, m, sh, _, zero f1 (fun _ => rfl) (Nat.eq_of_beq_eq_true h1), .refl H, hs', he⟩
      · rcases hor he with ⟨h2, he⟩ | ⟨_, he⟩
        · simp only [newArr, Nat.add_eq] at he h2
          by_cases hr0 : rows = []
          · subst hr0
            simp only [List.length_nil, List.nil_append] at he h2 f1
            obtain ⟨T, hv⟩ := newArr_ok H hc hlen hrows (.inr rfl)
            exact ⟨_, _, _, _, _, by rw [key f1]; exact append_nil (pos h1) h2, T, hv, he⟩
          · rcases f5 with f5 | ⟨b, o, rfl, q2, cts', vs, own, st, k1, k2, k3, k4⟩
            · exact absurd f5 hr0
            · rw [hc] at k1; cases k1
              have hlp : 0 < rows.length := by cases rows with | nil => exact absurd rfl hr0 | cons _ _ => simp
              have hall := k4.append hrows
              obtain ⟨T, hv⟩ := newArr_ok H hc (by rw [hall.length]) hall (.inr rfl)
              refine ⟨_, _, _, _, _, ?_, T, hv, he⟩
              rw [key f1, append_more (c := ⟨vs, own, st⟩) hlp (pos h1) h2 k2 (by rw [dropR_eq]; exact takeX_eq.2 ⟨by simp; omega, rfl⟩)]
              simp [more, Av.newRow, ifb]
        · cases he
  · -- an owned row
    rename_i id
    split at he
    · rename_i e' rows hb
      cases hee : Nat.beq e e' with
      | false => rw [hee] at he; cases he
      | true =>
        rw [hee] at he
        obtain rfl := Nat.eq_of_beq_eq_true hee
        simp only [cond_true] at he
        have hs' := hs
        simp only [SVR] at hs
        obtain ⟨_, _, hs⟩ := hs
        rcases hs .ow e rows hb with ⟨hm, hr0, hv⟩ | ⟨b, g, cts', hm, hct, hv, hg⟩
        · subst hr0
          rcases hor he with ⟨h1, he⟩ | ⟨h1, he⟩
          · exact ⟨_, h, m, sh, _, zero hv (fun _ => rfl) (Nat.eq_of_beq_eq_true h1), .refl H, hs', he⟩
          · rcases hor he with ⟨h2, he⟩ | ⟨_, he⟩
            · simp only [List.length_nil, List.nil_append, newArr, Nat.add_eq] at he h2
              have T0 := tran_hide H id
              obtain ⟨T, hv2⟩ := newArr_ok T0.hp hc hlen (RowsR.mono T0.zle _ _ _ hrows) (.inr rfl)
              exact ⟨_, _, _, _, _, by rw [key hv]; exact append_nil (pos h1) h2, T0.comp H T, hv2, he⟩
            · cases he
        · rw [hc] at hct; cases hct
          rcases hor he with ⟨h1, he⟩ | ⟨h1, he⟩
          · exact ⟨_, h, m, sh, _, zero hv (fun e => by cases e) (Nat.eq_of_beq_eq_true h1), .refl H, hs', he⟩
          · rcases hor he with ⟨h2, he⟩ | ⟨_, he⟩
            · simp only [newArr, Nat.add_eq] at he h2
              obtain ⟨cts2, avs, o, st, k1, k2, k3, k4, k5, _⟩ := arr_box H hb hm
              rw [hc] at k1; cases k1
              obtain rfl := k5 rfl
              have hall := k4.append hrows
              rcases hg with rfl | rfl
              · -- the room is known
                have T0 := tran_hide H id
                by_cases hr0 : rows = []
                · subst hr0
                  simp only [List.length_nil, List.nil_append] at he h2 hv
                  obtain ⟨T, hv2⟩ := newArr_ok T0.hp hc hlen (RowsR.mono T0.zle _ _ _ hrows) (.inr rfl)
                  exact ⟨_, _, _, _, _, by rw [key hv]; exact append_nil (pos h1) h2, T0.comp H T, hv2, he⟩
                · have hlp : 0 < rows.length := by cases rows with | nil => exact absurd rfl hr0 | cons _ _ => simp
                  obtain ⟨T, hv2⟩ := newArr_ok T0.hp hc (by rw [hall.length]) (RowsR.mono T0.zle _ _ _ hall) (.inr rfl)
                  refine ⟨_, _, _, _, _, ?_, T0.comp H T, hv2, he⟩
                  rw [key hv, append_more (c := ⟨avs, true, st⟩) (old := avs) hlp (pos h1) h2 k2 (by rw [dropR_eq]; exact takeX_eq.2 ⟨by simp; omega, by simp; rw [List.take_of_length_le (by omega)]⟩)]
                  simp [more, Av.newRow, ifb]
              · -- it grows
                have T : Tran P Z h m sh Z ((h.new (.cells ⟨avs ++ cs, true, b :: st⟩)).put b (.cells ⟨avs, false, []⟩)) (m ++ [some h.next]) (sh.set id .hid ++ [.arr .ow e (rows ++ new)]) :=
                  tran_grow H (c0 := ⟨avs, true, st⟩) (c := ⟨avs ++ cs, true, b :: st⟩) hb hm k2 rfl rfl (fun s => .inr ⟨h.next, cts, avs ++ cs, true, b :: st, rfl, hc, by rw [Hp.get_put_other _ _ _ _ (Ne.symm (ne_of_lt (H.old _ _ hm))), Hp.get_new_same], by rw [hall.length], RowsR.mono s.zle _ _ _ hall, fun _ => rfl, fun e => by cases e⟩)
                refine ⟨.sl (some (h.next, 0)) (rows.length + new.length) (rows.length + new.length) cts.length, _, _, _, _, ?_, T, ?_, he⟩
                · by_cases hr0 : rows = []
                  · subst hr0
                    have havs : avs = [] := by simp at k3; exact k3
                    subst havs
                    rw [key hv]
                    unfold appendTo
                    simp only [List.length_nil] at h2 ⊢
                    show ifb (Nat.ble (0 + new.length) 0) _ (ifb (fitsA (0 + new.length) bytes) (ifb (Nat.beq 0 0 && Nat.beq cts.length 0) _ (ob (h.cells b) fun c => ob (takeX (Nat.mul 0 cts.length) (dropR 0 c.vs)) fun old => more h cts.length (b, 0) 0 cts.length (0 + new.length) c (appR old cs))) none) = _
                    have hz : Nat.beq cts.length 0 = false := by cases hcl : cts.length with | zero => omega | succ n => rfl
                    rw [not_ble (by have := pos h1; omega), h2, hz, Hp.cells_eq.2 k2]
                    have hm0 : Nat.mul 0 cts.length = 0 := Nat.zero_mul _
                    rw [hm0]
                    show more h cts.length (b, 0) 0 cts.length (0 + new.length) ⟨[], true, st⟩ (appR [] cs) = _
                    unfold more
                    rw [hz, Nat.beq_refl]
                    show grown h cts.length (b, 0) 0 (0 + new.length) ⟨[], true, st⟩ cs = _
                    unfold grown
                    have hm1 : Nat.add 0 (Nat.mul 0 cts.length) = 0 := by rw [hm0]
                    show ifb true (ifb (Nat.beq (Nat.add 0 (Nat.mul 0 cts.length)) 0) _ _) none = _
                    rw [hm1]; rfl
                  · have hlp : 0 < rows.length := by cases rows with | nil => exact absurd rfl hr0 | cons _ _ => simp
                    rw [key hv, append_more (c := ⟨avs, true, st⟩) (old := avs) hlp (pos h1) h2 k2 (by rw [dropR_eq]; exact takeX_eq.2 ⟨by simp; omega, by simp; rw [List.take_of_length_le (by omega)]⟩)]
                    unfold more
                    have hz : Nat.beq cts.length 0 = false := by cases hcl : cts.length with | zero => omega | succ n => rfl
                    rw [hz, Nat.beq_refl]
                    show grown h cts.length (b, 0) rows.length (rows.length + new.length) ⟨avs, true, st⟩ (avs ++ cs) = _
                    unfold grown
                    have hm1 : Nat.beq (Nat.add 0 (Nat.mul rows.length cts.length)) (lenR avs) = true := by rw [lenR_eq, k3]; simp
                    show ifb true (ifb (Nat.beq (Nat.add 0 (Nat.mul rows.length cts.length)) (lenR avs)) _ _) none = _
                    rw [hm1]; rfl
                · simp only [SVR]
                  refine ⟨by simp, ⟨_, _, _, _, rfl⟩, fun own e' rows' h1 => ?_⟩
                  have hls : (List.set sh id SB.hid).length = sh.length := by simp
                  have : (sh.set id SB.hid ++ [SB.arr .ow e (rows ++ new)])[sh.length]? = some (.arr .ow e (rows ++ new)) := by
                    rw [List.getElem?_append_right (by simp)]; simp
                  rw [hls, this] at h1; cases h1
                  rw [hls]
                  exact .inr ⟨h.next, cts.length, cts, by rw [← H.len]; simp, hc, by rw [List.length_append], .inr rfl⟩
            · cases he
    · cases he
  · cases he
end
end Go.Sy


set_option linter.all false
namespace Go.Sy
open Go Go.Av
variable [Glb] {P : Program} [Tok]
section
variable {Z : Pos → Prop} {h : Hp} {m : List (Option Pos)} {sh : SH} {f : Fr} {sf : SF} {ρ : Type} {k : SV → SH → Option ρ} {r : ρ}
theorem ifb_some {c : Bool} {x : Option ρ} (h : ifb c x none = some r) : c = true ∧ x = some r := by
  cases c with
  | true => exact ⟨rfl, h⟩
  | false => cases h
theorem SVRL.rep {a : List SV} {b : List AVal} (e : SVRL P Z h m sh a b) : ∀ n, SVRL P Z h m sh (repR a n) (repR b n)
  | 0 => by rw [repR_zero, repR_zero]; exact SVRL.nil
  | n + 1 => by rw [repR_succ, repR_succ]; exact e.append (SVRL.rep e n)
theorem RowsR.rep {ds : List D} {cts : List CT} {v : List AVal} (e : RowR P Z h ds cts v) : ∀ n, RowsR P Z h (List.replicate n ds) cts (repR v n)
  | 0 => by simp [RowsR, repR_zero]
  | n + 1 => by
    rw [repR_succ]
    simp only [List.replicate_succ, RowsR]
    exact ⟨v, repR v n, rfl, e, RowsR.rep e n⟩
theorem bytes_ok {rows : List (List D)} {cs : List AVal} (hr : RowsR P Z h rows [.i .u8] cs) (hb : okBytes rows = true) : bytesA cs = some (bytesOfS rows) := by
  induction rows generalizing cs with
  | nil => simp only [RowsR] at hr; subst hr; rfl
  | cons r rs ih =>
    simp only [RowsR] at hr
    obtain ⟨l1, l2, rfl, h1, h2⟩ := hr
    unfold okBytes at hb
    rw [allR_eq, List.all_cons, Bool.and_eq_true, ← allR_eq] at hb
    have hl := h1.length
    simp only [List.length_cons, List.length_nil] at hl
    match r, l1, hl with
    | [d], [x], _ =>
      simp only [RowR] at h1
      obtain ⟨hc, _⟩ := h1
      cases d with
      | b _ => simp only [CR] at hc
      | s _ => simp only [CR] at hc
      | l _ => simp only [CR] at hc
      | i n =>
      simp only [CR] at hc
      subst hc
      have hn : inB n 255 = true := hb.1
      have h3 := (inB_nat hn).1
      show (ob (ob (asKI (.i .u8 n)) fun x => ifb (keq x.k .u8) (natOf x.n 255) none) fun n => ob (bytesA l2) fun r => some (n :: r)) = _
      show (ob (natOf n 255) fun n => ob (bytesA l2) fun r => some (n :: r)) = _
      rw [h3, ih h2 hb.2]
      rfl
theorem toSrc (H : HeapR P Z h m sh) {e : TypeId} {cts : List CT} (hc : ct P e = some cts) {s : SV} {x : AVal} {rows : List (List D)} (hx : SVR P Z h m sh s x)
    (he : (s = .nl ∧ rows = []) ∨ (∃ ex, s = .l e ex rows) ∨ (∃ id own, s = .sa id ∧ sh[id]? = some (.arr own e rows))) : ∃ cs, Src P Z h e cts.length x rows cs := by
  rcases he with ⟨rfl, rfl⟩ | ⟨ex, rfl⟩ | ⟨id, own, rfl, hb⟩
  · simp only [SVR] at hx; subst hx
    exact ⟨[], rfl, fun _ _ => by simp [RowsR]⟩
  · simp only [SVR] at hx
    exact src_froz hc hx
  · simp only [SVR] at hx
    obtain ⟨_, _, hx⟩ := hx
    rcases hx own e rows hb with ⟨_, rfl, rfl⟩ | ⟨b, g, cts', hm, hct, rfl, hg⟩
    · exact ⟨[], rfl, fun _ _ => by simp [RowsR]⟩
    · rw [hc] at hct; cases hct
      obtain ⟨cts2, avs, o, st, k1, k2, k3, k4, _, _⟩ := arr_box H hb hm
      rw [hc] at k1; cases k1
      cases hn : Nat.beq rows.length 0 with
      | true =>
        have h0 : rows = [] := List.eq_nil_of_length_eq_zero (Nat.eq_of_beq_eq_true hn)
        subst h0
        exact ⟨[], rfl, fun _ _ => by simp [RowsR]⟩
      | false =>
        refine ⟨avs, ?_, fun cts' h => by rw [hc] at h; cases h; exact k4⟩
        show ifb (Nat.beq rows.length 0) _ (ob (ob (h.cells b) fun c => takeX (Nat.mul rows.length cts.length) (dropR 0 c.vs)) fun l => some (rows.length, l)) = _
        rw [hn, Hp.cells_eq.2 k2]
        show (ob (takeX (rows.length * cts.length) (dropR 0 avs)) fun l => some (rows.length, l)) = _
        rw [dropR_eq, takeX_eq.2 ⟨by simp; omega, by simp; rw [List.take_of_length_le (by omega)]⟩]
theorem bltS_ok (H : HeapR P Z h m sh) (S : SlotsR P Z h m sh sf f) {o : Op} {c : Call} {b : Builtin} {as : List SV} (ho : o = .call c) (hcl : c.callee = .builtin b) (ha : evSL sf c.args.toList = some as) (he : bltS P sf sh b c.argTypes.toList as k = some r) :
    Res P Z h m sh f o (fun s sh' => k s sh' = some r) := by
  obtain ⟨l, hl, hv⟩ := evSL_ok S ha
  have hcop : ∀ {a : AOp}, bltK P b c.argTypes.toList l = some a → cop P o = some a := fun h => by subst ho; simp only [cop, hcl, hl]; exact h
  unfold bltS at he
  split at he
  · -- len
    rename_i t x ht
    simp only [SVRL] at hv
    obtain ⟨v, q, e1, h1, h2⟩ := hv
    subst h2
    obtain ⟨a, rfl, ea⟩ : ∃ a, l = [a] ∧ ev f a = v := by
      unfold evL at e1; rw [mapR_eq] at e1
      cases l with
      | nil => simp at e1
      | cons a l => cases l with
        | nil => simp at e1; exact ⟨a, rfl, e1⟩
        | cons _ _ => simp at e1
    split at he
    · rename_i l0 hu
      simp only [SVR] at h1; subst h1
      refine .calc H (g := fun f _ => orT (kLenS f a) (lenT (ev f a))) (hcop (by simp only [bltK, ht, hu])) (v := .i .i64 (Int.ofNat (lenR l0))) ?_ (by simp only [SVR]) he
      show orT (ob (asS (ev f a)) _) _ = _
      rw [ea]; rfl
    · rename_i e' hu
      simp only [SVR] at h1; subst h1
      refine .calc H (g := fun f _ => kLen f a) (hcop (by simp only [bltK, ht, hu])) (v := .i .i64 (Int.ofNat 0)) ?_ (by simp only [SVR]) he
      show ob (asSl (ev f a)) _ = _
      rw [ea]; rfl
    · rename_i e' e2 ex rows hu
      simp only [SVR] at h1
      obtain ⟨pa, pc, pg, f1, _⟩ := h1
      subst f1
      refine .calc H (g := fun f _ => kLen f a) (hcop (by simp only [bltK, ht, hu])) (v := .i .i64 (Int.ofNat rows.length)) ?_ (by simp only [SVR]) he
      show ob (asSl (ev f a)) _ = _
      rw [ea]; rfl
    · rename_i e' id hu
      split at he
      · rename_i own e2 rows hb
        simp only [SVR] at h1
        obtain ⟨_, _, h1⟩ := h1
        refine .calc H (g := fun f _ => kLen f a) (hcop (by simp only [bltK, ht, hu])) (v := .i .i64 (Int.ofNat rows.length)) ?_ (by simp only [SVR]) he
        show ob (asSl (ev f a)) _ = _
        rw [ea]
        rcases h1 own e2 rows hb with ⟨_, rfl, rfl⟩ | ⟨_, _, _, _, _, rfl, _⟩ <;> rfl
      · cases he
    · rename_i e' id lo hi hu
      split at he
      · rename_i own e2 rows hb
        simp only [SVR] at h1
        obtain ⟨_, _, h1⟩ := h1
        refine .calc H (g := fun f _ => kLen f a) (hcop (by simp only [bltK, ht, hu])) (v := .i .i64 (Int.ofNat (hi - lo))) ?_ (by simp only [SVR]; rfl) he
        show ob (asSl (ev f a)) _ = _
        rw [ea]
        obtain ⟨v1, v2, v3⟩ := h1 own e2 rows hb
        rcases v3 with ⟨_, rfl, rfl⟩ | ⟨_, _, _, _, _, rfl, _⟩
        · simp only [List.length_nil] at v2
          have : hi - lo = 0 := by omega
          rw [this]; rfl
        · rfl
      · cases he
    · cases he
  · -- append
    rename_i t u s x ht
    simp only [SVRL] at hv
    obtain ⟨v, q, e1, h1, w, q2, rfl, h2, rfl⟩ := hv
    obtain ⟨a, a2, rfl, ea, ea2⟩ : ∃ a a2, l = [a, a2] ∧ ev f a = v ∧ ev f a2 = w := by
      unfold evL at e1; rw [mapR_eq] at e1
      match l, e1 with
      | [a, a2], e1 => simp at e1; exact ⟨a, a2, rfl, e1.1, e1.2⟩
      | [], e1 => simp at e1
      | [_], e1 => simp at e1
      | _ :: _ :: _ :: _, e1 => simp at e1
    subst ea; subst ea2
    split at he
    · rename_i e n mb ut hel hut
      cases hcond : (sizeOk P e n && Nat.blt 0 n && zeroOk P e n && appOk ut x) with
      | false => simp only [hcond, Bool.not_false, cond_true] at he; cases he
      | true =>
        simp only [hcond, Bool.not_true, cond_false] at he
        simp only [Bool.and_eq_true] at hcond
        obtain ⟨⟨⟨hsz, hn0⟩, hzo⟩, hux⟩ := hcond
        obtain ⟨cts, hct, hnc⟩ := sizeOk_eq hsz
        have h0 : 0 < cts.length := by rw [← hnc]; rw [Nat.blt_eq] at hn0; exact hn0
        obtain ⟨z, hz, hzl⟩ : ∃ z, zeroK P e = some z ∧ Nat.beq z.cells.length n = true := by
          unfold zeroOk at hzo
          split at hzo
          · rename_i z hz; exact ⟨z, hz, hzo⟩
          · cases hzo
        have fin : ∀ {new : List (List D)} {cs : List AVal}, bltK P .append [t, u] [a, a2] = some (.turn fun f h => kAppend f h n mb a a2) → Src P Z h e cts.length (ev f a2) new cs → appendS sh e mb s new k = some r → Res P Z h m sh f o (fun s sh' => k s sh' = some r) := by
          intro new cs hk hsrc hap
          obtain ⟨v, h', m', sh', s', k1, k2, k3, k4⟩ := appendS_ok (n := n) H hct h0 h1 hsrc hap
          exact ⟨_, hcop (by rw [ht]; exact hk), (fun _ h => by cases h), v, h', Z, m', sh', s', .turn (by rw [hnc]; exact k1), k2, k3, k4⟩
        have hslice : ∀ {e' : TypeId}, ut = .slice e' → bltK P .append [t, u] [a, a2] = some (.turn fun f h => kAppend f h n mb a a2) := fun h => by
          simp only [bltK, hel, hz, hzl, hn0, hut, h, Bool.and_self, cond_true]
        have isSl : (∀ l, x ≠ .s l) → ∃ e', ut = .slice e' := fun hx => by
          cases ut with
          | slice e' => exact ⟨e', rfl⟩
          | string => cases x with
            | s l => exact absurd rfl (hx l)
            | _ => cases hux
          | _ => cases hux
        split at he
        · rename_i l'
          obtain ⟨hb, he⟩ := bif_eq he rfl
          simp only [Bool.and_eq_true] at hb
          have hu2 : ut = .string := by
            cases ut with
            | string => rfl
            | slice e' => cases hux
            | _ => cases hux
          have hbr : ct P e = some [.i .u8] := by
            have := hb.2
            unfold byteRow at this
            split at this
            · assumption
            · cases this
          rw [hct] at hbr; cases hbr
          simp only [SVR] at h2
          refine fin ?_ (cs := ofBytes l') ⟨by rw [h2]; show some (lenR l', ofBytes l') = _; rw [lenR_eq]; simp, fun cts' h => by rw [hct] at h; cases h; exact bytes_rows (e := e) l'⟩ he
          simp only [bltK, hel, hz, hzl, hn0, hut, hu2, Bool.and_self, cond_true, hb.1]
        · obtain ⟨cs, hsrc⟩ := toSrc H hct h2 (.inl ⟨rfl, rfl⟩)
          obtain ⟨e', hs'⟩ := isSl (fun l h => by cases h)
          exact fin (hslice hs') hsrc he
        · rename_i e' ex rows
          obtain ⟨hb, he2⟩ := bif_eq he rfl
          obtain rfl := Nat.eq_of_beq_eq_true hb
          obtain ⟨cs, hsrc⟩ := toSrc H hct h2 (.inr (.inl ⟨ex, rfl⟩))
          obtain ⟨e', hs'⟩ := isSl (fun l h => by cases h)
          exact fin (hslice hs') hsrc he2
        · rename_i id
          split at he
          · rename_i own e' rows hbx
            obtain ⟨hb, he2⟩ := bif_eq he rfl
            obtain rfl := Nat.eq_of_beq_eq_true hb
            obtain ⟨cs, hsrc⟩ := toSrc H hct h2 (.inr (.inr ⟨id, own, rfl, hbx⟩))
            obtain ⟨e', hs'⟩ := isSl (fun l h => by cases h)
            exact fin (hslice hs') hsrc he2
          · cases he
        · rename_i id lo hi
          split at he
          · rename_i own e' rows hbx
            obtain ⟨hb, he2⟩ := bif_eq he rfl
            obtain rfl := Nat.eq_of_beq_eq_true hb
            simp only [SVR] at h2
            have hF : FrozR P (fun d => Z d ∨ m[id]? = some (some d)) h e false ((rows.drop lo).take (hi - lo)) (ev f a2) := FrozR.of_cell (ViewR.cell (Z := Z) H hbx (h2.2.2 own e rows hbx))
            obtain ⟨cs, hsrc⟩ := src_froz hct hF
            have hsrc2 : Src P Z h e cts.length (ev f a2) ((rows.drop lo).take (hi - lo)) cs := by
              obtain ⟨v1, v2, v3⟩ := h2.2.2 own e rows hbx
              refine ⟨hsrc.src, fun cts' hc' => ?_⟩
              rw [hct] at hc'; cases hc'
              have hl : ((rows.drop lo).take (hi - lo)).length = hi - lo := by simp; omega
              have hs1 := hsrc.src
              rcases v3 with ⟨_, k2, rfl⟩ | ⟨b, g, cts2, k1, k2, k3, k4⟩
              · simp only [List.length_nil] at v2
                have h0' : hi - lo = 0 := by omega
                rw [k2] at hs1
                have hcs : cs = [] := by
                  change some (0, ([] : List AVal)) = some (_, cs) at hs1
                  simp only [Option.some.injEq, Prod.mk.injEq] at hs1
                  exact hs1.2.symm
                rw [h0', hcs]; simp [RowsR]
              · rw [hct] at k2; cases k2
                obtain ⟨cts', avs, o, st, j1, j2, j3, j4, _, _⟩ := arr_box H hbx k1
                rw [hct] at j1; cases j1
                have a1 : hi * cts.length ≤ rows.length * cts.length := Nat.mul_le_mul_right _ v2
                have a2 : lo * cts.length + (hi - lo) * cts.length = hi * cts.length := by rw [← Nat.add_mul]; congr 1; omega
                have j5 := (RowsR.split (n := hi - lo) (RowsR.split (n := lo) j4).2).1
                rw [k3] at hs1
                cases hn : Nat.beq (hi - lo) 0 with
                | true =>
                  have h0' := Nat.eq_of_beq_eq_true hn
                  change (ifb (Nat.beq (hi - lo) 0) (some (hi - lo, [])) _ : Option (Nat × List AVal)) = some (_, cs) at hs1
                  rw [hn] at hs1
                  change some (hi - lo, ([] : List AVal)) = some (_, cs) at hs1
                  simp only [Option.some.injEq, Prod.mk.injEq] at hs1
                  have hcs : cs = [] := hs1.2.symm
                  rw [h0', hcs]; simp [RowsR]
                | false =>
                  change (ifb (Nat.beq (hi - lo) 0) _ (ob (ob (h.cells b) fun c => takeX (Nat.mul (hi - lo) cts.length) (dropR (lo * cts.length) c.vs)) fun l => some (hi - lo, l)) : Option (Nat × List AVal)) = some (_, cs) at hs1
                  rw [hn, Hp.cells_eq.2 j2] at hs1
                  change (ob (takeX ((hi - lo) * cts.length) (dropR (lo * cts.length) avs)) fun l => some (hi - lo, l)) = some (_, cs) at hs1
                  rw [dropR_eq, takeX_eq.2 ⟨by simp; omega, rfl⟩] at hs1
                  change some (hi - lo, _) = some (_, cs) at hs1
                  simp only [Option.some.injEq, Prod.mk.injEq] at hs1
                  have hcs : cs = (avs.drop (lo * cts.length)).take ((hi - lo) * cts.length) := hs1.2.symm
                  rw [hcs]; exact j5
            obtain ⟨e', hs'⟩ := isSl (fun l h => by cases h)
            exact fin (hslice hs') hsrc2 he2
          · cases he
        · cases he
    · cases he
  · -- clear
    rename_i t id lo hi ht
    simp only [SVRL] at hv
    obtain ⟨v, q, e1, h1, h2⟩ := hv
    subst h2
    obtain ⟨a, rfl, ea⟩ : ∃ a, l = [a] ∧ ev f a = v := by
      unfold evL at e1; rw [mapR_eq] at e1
      cases l with
      | nil => simp at e1
      | cons a l => cases l with
        | nil => simp at e1; exact ⟨a, rfl, e1⟩
        | cons _ _ => simp at e1
    subst ea
    split at he
    · rename_i e n mb hel
      split at he
      · rename_i z cts hz hct
        obtain ⟨hcond, he2⟩ := bif_eq he rfl
        clear he
        have he := he2; clear he2
        simp only [Bool.and_eq_true] at hcond
        obtain ⟨⟨hzo, hn0⟩, hcn, hks⟩ := hcond
        obtain ⟨z', hz', hzv, hzk⟩ := zeroS_ok (Z := Z) (h := h) (m := m) (sh := sh) hz
        have hzl : Nat.beq z'.cells.length n = true := by
          unfold zeroOk at hzo
          rw [hz'] at hzo; exact hzo
        have hcells := SVR.cells hzk hzv
        obtain rfl := Nat.eq_of_beq_eq_true hcn
        have h0 : 0 < cts.length := by rw [Nat.blt_eq] at hn0; exact hn0
        split at he
        · rename_i ds sh1 hds
          split at he
          · rename_i e' rows hbx
            obtain ⟨hb, he2⟩ := bif_eq he rfl
            clear he
            have he := he2; clear he2
            obtain rfl := Nat.eq_of_beq_eq_true hb
            obtain ⟨Z1, T1, hrow⟩ := dsOf_ok H hcells hks hds
            have h1' := SVR.mono (T1.sle H) _ _ h1
            simp only [SVR] at h1'
            obtain ⟨v1, v2, v3⟩ := h1'.2.2 .ow e rows hbx
            have hcop2 : cop P o = some (.turn fun f h => kClear f h z'.cells a) := hcop (by simp only [bltK, ht, hel, hz', hzl, cond_true])
            have same : ∀ {x : SB}, sh1[id]? = some x → sh1.set id x = sh1 := fun {x} hx => by
              apply List.ext_getElem?
              intro j
              by_cases hj : j = id
              · subst hj; rw [List.getElem?_set_self (lt_of_get hx), hx]
              · rw [List.getElem?_set_ne (Ne.symm hj)]
            by_cases hlo : hi - lo = 0
            · have hrows : rows.take lo ++ (List.replicate (Nat.sub hi lo) ds ++ rows.drop hi) = rows := by
                have : Nat.sub hi lo = 0 := hlo
                have hl : lo = hi := by omega
                rw [this, hl]; simp
              rw [hrows, same hbx] at he
              refine ⟨_, hcop2, (fun _ h => by cases h), undefA, h, Z1, m, sh1, .tu [], .turn ?_, T1, by simp only [SVR]; exact ⟨[], rfl, SVRL.nil⟩, he⟩
              rcases v3 with ⟨_, k2, _⟩ | ⟨b, g, cts2, k1, k2, k3, k4⟩
              · show (ob (asSl (ev f a)) _) = _
                rw [k2]; rfl
              · show (ob (asSl (ev f a)) _) = _
                rw [k3, hlo]; rfl
            · rcases v3 with ⟨_, k2, rfl⟩ | ⟨b, g, cts2, k1, k2, k3, k4⟩
              · simp only [List.length_nil] at v2; omega
              · rw [hct] at k2; cases k2
                obtain ⟨cts', avs, ob', st, j1, j2, j3, j4, j5, _⟩ := arr_box T1.hp hbx k1
                rw [hct] at j1; cases j1
                obtain rfl := j5 rfl
                have hnew := RowsR.rep hrow (hi - lo)
                have hrep : (List.replicate (hi - lo) ds).length = hi - lo := by simp
                obtain ⟨q, l1, l2, l3⟩ := lay_rows (hi := lo) j4 hnew j3 (by rw [hrep]; omega)
                rw [hrep] at l3
                have hhi : lo + (hi - lo) = hi := by omega
                rw [hhi] at l3
                have hrl : (rows.take lo ++ (List.replicate (hi - lo) ds ++ rows.drop hi)).length = rows.length := by simp; omega
                have hlen := hnew.length
                rw [hrep] at hlen
                refine ⟨_, hcop2, (fun _ h => by cases h), undefA, (h.kill st).put b (.cells ⟨q, true, []⟩), Z1, m, sh1.set id (.arr .ow e (rows.take lo ++ (List.replicate (hi - lo) ds ++ rows.drop hi))), .tu [], .turn ?_, T1.comp H (tran_put T1.hp (c0 := ⟨avs, true, st⟩) (c := ⟨q, true, []⟩) hbx rfl k1 j2 rfl rfl (fun own e2 rows2 hx => by cases hx; exact ⟨.ow, rows, rfl, hrl⟩) (fun s => .inr ⟨b, cts, q, true, [], rfl, hct, Hp.get_put_same _ _ _, by rw [l2, j3, hrl], RowsR.mono s.zle _ _ _ l3, fun _ => rfl, fun e => by cases e⟩)), by simp only [SVR]; exact ⟨[], rfl, SVRL.nil⟩, he⟩
                unfold kClear
                rw [k3]
                show (ob (h.write (b, lo * cts.length) (repR z'.cells (hi - lo))) fun h' => some (Nx.val undefA h')) = _
                have hne : repR z'.cells (hi - lo) ≠ [] := by
                  intro e0
                  have h3 : (repR z'.cells (hi - lo)).length = 0 := by rw [e0]; rfl
                  have := Nat.mul_pos (Nat.pos_of_ne_zero hlo) h0
                  omega
                rw [write_eq j2 hne hnew.ones l1]
          · cases he
        · cases he
      · cases he
    · cases he
  · rename_i x l0
    obtain ⟨s, hs, hk⟩ := ov_eq he
    simp only [SVRL] at hv
    obtain ⟨v, q, e1, h1, h2⟩ := hv
    obtain ⟨a, l', rfl, ea, el⟩ : ∃ a l', l = a :: l' ∧ ev f a = v ∧ evL f l' = q := by
      unfold evL at e1 ⊢; rw [mapR_eq] at e1
      cases l with
      | nil => simp at e1
      | cons a l => simp at e1; exact ⟨a, l, rfl, e1.1, by rw [mapR_eq]; exact e1.2⟩
    subst ea; subst el
    obtain ⟨v, h3, h4⟩ := mxS_ok h1 h2 hs
    exact .calc H (g := fun f _ => kMax f a l') (hcop (by simp only [bltK])) h3 h4 hk
  · rename_i x l0
    obtain ⟨s, hs, hk⟩ := ov_eq he
    simp only [SVRL] at hv
    obtain ⟨v, q, e1, h1, h2⟩ := hv
    obtain ⟨a, l', rfl, ea, el⟩ : ∃ a l', l = a :: l' ∧ ev f a = v ∧ evL f l' = q := by
      unfold evL at e1 ⊢; rw [mapR_eq] at e1
      cases l with
      | nil => simp at e1
      | cons a l => simp at e1; exact ⟨a, l, rfl, e1.1, by rw [mapR_eq]; exact e1.2⟩
    subst ea; subst el
    obtain ⟨v, h3, h4⟩ := mnS_ok h1 h2 hs
    exact .calc H (g := fun f _ => kMin f a l') (hcop (by simp only [bltK])) h3 h4 hk
  · cases he
end
end Go.Sy


set_option linter.all false
namespace Go.Sy
open Go Go.Av
variable [Glb] {P : Program}
/-- the heap with the next place passed over -/
noncomputable def skipH (h : Hp) : Hp := ⟨h.t, h.next.succ⟩
section
variable {Z Z' : Pos → Prop} {h h' : Hp} {m m' : List (Option Pos)} {sh sh' : SH}
theorem get_skip (h : Hp) (b : Pos) : (skipH h).get b = h.get b := rfl
theorem skip_next (h : Hp) : (skipH h).next.toNat = h.next.toNat + 1 := Pos.toNat_succ _
/-- a place is kept for a block to come -/
theorem tran_rsv (H : HeapR P Z h m sh) : Tran P Z h m sh Z (skipH h) (m ++ [some h.next]) (sh ++ [.rsv]) := by
  have hz : Zle Z h Z (skipH h) := ⟨fun _ h => h, fun b y hb hy => ⟨y.own, y.stale, hy⟩⟩
  have ids : ∀ id : Nat, id < m.length → (m ++ [some h.next])[id]? = m[id]? := fun id hid => List.getElem?_append_left hid
  have arr : ∀ (id : Nat) (own : Own) (e : TypeId) (rows : List (List D)), id < sh.length → (sh ++ [SB.rsv])[id]? = some (.arr own e rows) → ∃ own0 rows0, sh[id]? = some (.arr own0 e rows0) ∧ rows.length = rows0.length := fun id own e rows hid hh => ⟨own, rows, by rw [← hh, List.getElem?_append_left hid], rfl⟩
  have hs : Sle Z h m sh Z (skipH h) (m ++ [some h.next]) (sh ++ [.rsv]) := ⟨hz, H.len, by simp, ids, arr⟩
  have hlt : ∀ {id : Nat} {b : Pos}, m[id]? = some (some b) → b ≠ h.next := fun hm => ne_of_lt (H.old _ _ hm)
  have hsh : ∀ {id : Nat} {y : SB} {b : Pos}, (sh ++ [SB.rsv])[id]? = some y → (m ++ [some h.next])[id]? = some (some b) → (sh[id]? = some y ∧ m[id]? = some (some b)) ∨ (id = m.length ∧ y = .rsv ∧ b = h.next) := by
    intro id y b h1 h2
    rcases get_snoc.1 h1 with h1 | ⟨h1, rfl⟩ <;> rcases get_snoc.1 h2 with h2 | ⟨h2, h3⟩
    · exact .inl ⟨h1, h2⟩
    · have := lt_of_get h1; have := H.len; omega
    · have := lt_of_get h2; have := H.len; omega
    · cases h3; exact .inr ⟨by have := H.len; omega, rfl, rfl⟩
  have foot : ∀ b, Foot (skipH h) (m ++ [some h.next]) (sh ++ [.rsv]) b → Foot h m sh b ∨ b = h.next := by
    rintro b ⟨id, y, d, h1, h2, h3, h4⟩
    rcases hsh h1 h3 with ⟨k1, k2⟩ | ⟨_, rfl, rfl⟩
    · exact .inl ⟨id, y, d, k1, h2, k2, h4⟩
    · rcases h4 with h4 | ⟨z, h5, h6⟩
      · exact .inr h4
      · rw [get_skip, H.fresh _ (Nat.le_refl _)] at h5; cases h5
  refine ⟨⟨?_, ?_, ?_, ?_, ?_, ?_, ?_, ?_, fun b hb => by rw [skip_next] at hb; exact H.fresh b (by omega), H.glb.mono (fun _ h => h) hz.zc⟩, ?_, fun _ h => h, hz.zc, ids, arr, fun b hb _ => rfl, ?_, fun _ h => .inl h, ?_, fun id e rows h => by
    rcases get_snoc.1 h with h | ⟨_, h⟩
    · exact ⟨lt_of_get h, rows, h⟩
    · cases h⟩
  · simp [H.len]
  · intro id y p h1 h2
    rcases get_snoc.1 h1 with h1 | ⟨h1, rfl⟩
    · rcases get_snoc.1 h2 with h2 | ⟨h2, h3⟩
      · exact (H.box id y p h1 h2).mono hs (fun b e => rfl)
      · have := lt_of_get h1; have := H.len; omega
    · trivial
  · intro id b hm
    rw [skip_next]
    rcases get_snoc.1 hm with hm | ⟨_, hm⟩
    · have := H.old _ _ hm; omega
    · cases hm; omega
  · intro i j y z b hij h1 h2 h3 h4 h5 h6
    rcases hsh h1 h5 with ⟨k1, k2⟩ | ⟨k0, rfl, rfl⟩ <;> rcases hsh h3 h6 with ⟨k3, k4⟩ | ⟨k5, k6, k7⟩
    · exact H.one i j y z b hij k1 h2 k3 h4 k2 k4
    · exact hlt k2 k7
    · exact hlt k4 rfl
    · omega
  · intro b hb
    have := H.zold b hb
    rw [skip_next]; omega
  · intro b hb hz'
    rcases foot b hb with h1 | h1
    · exact H.zfoot b h1 hz'
    · subst h1; have := H.zold _ hz'; omega
  · intro b hb
    rw [skip_next]
    rcases foot b hb with h1 | h1
    · have := H.fold b h1; omega
    · subst h1; omega
  · intro i j y z b d w h1 h2 h3 h4 h5 h6 h7 h8
    rw [get_skip] at h4
    rcases hsh h1 h3 with ⟨k1, k2⟩ | ⟨k0, rfl, rfl⟩
    · rcases hsh h6 h8 with ⟨k3, k4⟩ | ⟨k5, k6, k7⟩
      · exact H.stl i j y z b d w k1 h2 k2 h4 h5 k3 h7 k4
      · have hf : Foot h m sh d := ⟨i, y, b, k1, h2, k2, .inr ⟨w, h4, h5⟩⟩
        have := H.fold d hf
        rw [k7] at this; omega
    · rw [H.fresh _ (Nat.le_refl _)] at h4; cases h4
  · rw [skip_next]; omega
  · intro b hb
    rcases foot b hb with h1 | h1
    · exact .inl h1
    · subst h1; exact .inr (Nat.le_refl _)
  · rintro b ⟨i, y, h1, h2, h3⟩
    rcases hsh h1 h3 with ⟨k1, k2⟩ | ⟨_, _, rfl⟩
    · exact .inl ⟨i, y, k1, h2, k2⟩
    · exact .inr (Nat.le_refl _)
/-- a kept place is filled: a new box -/
theorem tran_fill (H : HeapR P Z h m sh) {id : Nat} {p : Pos} {x : SB} {c : Cells} (h0 : sh[id]? = some .rsv) (hm : m[id]? = some (some p)) (hst : c.stale = []) (hx : x.owned = true)
    (hb : Sle Z h m sh Z (h.put p (.cells c)) (m ++ [some p]) (sh.set id .hid ++ [x]) → BoxR P Z (h.put p (.cells c)) (m ++ [some p]) (sh.set id .hid ++ [x]) x (some p)) :
    Tran P Z h m sh Z (h.put p (.cells c)) (m ++ [some p]) (sh.set id .hid ++ [x]) := by
  have hf : Foot h m sh p := ⟨id, _, p, h0, rfl, hm, .inl rfl⟩
  have hpz : ¬ Z p := H.zfoot p hf
  have hpn : p.toNat < h.next.toNat := H.old _ _ hm
  have get : ∀ b : Pos, b ≠ p → (h.put p (.cells c)).get b = h.get b := fun b hb => Hp.get_put_other _ _ _ _ hb
  have nx : (h.put p (.cells c)).next = h.next := Hp.put_next _ _ _
  have ll : (sh.set id .hid).length = sh.length := by simp
  have hz : Zle Z h Z (h.put p (.cells c)) := ⟨fun _ h => h, fun b y hb hy => ⟨y.own, y.stale, by rw [get b (fun e => hpz (e ▸ hb))]; exact hy⟩⟩
  have ids : ∀ i : Nat, i < m.length → (m ++ [some p])[i]? = m[i]? := fun i hid => List.getElem?_append_left hid
  have nh : ∀ {y : SB}, y.owned = true → y ≠ .hid := fun hy e => by subst e; cases hy
  have hsh : ∀ {i : Nat} {y : SB} {b : Pos}, (sh.set id .hid ++ [x])[i]? = some y → y ≠ .hid → (m ++ [some p])[i]? = some (some b) → (sh[i]? = some y ∧ m[i]? = some (some b) ∧ i ≠ id ∧ b ≠ p) ∨ (i = m.length ∧ y = x ∧ b = p) := by
    intro i y b h1 hy h2
    have hl := H.len
    rcases get_snoc.1 h1 with h1 | ⟨h1, rfl⟩ <;> rcases get_snoc.1 h2 with w2 | ⟨w2, h3⟩
    · rcases get_set.1 h1 with ⟨q1, q2⟩ | ⟨_, _, q3⟩
      · exact .inl ⟨q2, w2, q1, fun e => by subst e; exact H.one id i .rsv y _ (Ne.symm q1) h0 rfl q2 hy hm w2⟩
      · exact absurd q3 hy
    · have := lt_of_get h1; omega
    · have := lt_of_get w2; omega
    · cases h3; exact .inr ⟨by omega, rfl, rfl⟩
  have arr : ∀ (i : Nat) (own : Own) (e : TypeId) (rows : List (List D)), i < sh.length → (sh.set id .hid ++ [x])[i]? = some (.arr own e rows) → ∃ own0 rows0, sh[i]? = some (.arr own0 e rows0) ∧ rows.length = rows0.length := by
    intro i own e rows hid hh
    rcases get_snoc.1 hh with h1 | ⟨h1, _⟩
    · rcases get_set.1 h1 with ⟨_, q2⟩ | ⟨_, _, q3⟩
      · exact ⟨own, rows, q2, rfl⟩
      · cases q3
    · omega
  have hs : Sle Z h m sh Z (h.put p (.cells c)) (m ++ [some p]) (sh.set id .hid ++ [x]) := ⟨hz, H.len, by simp, ids, arr⟩
  have foot : ∀ b, Foot (h.put p (.cells c)) (m ++ [some p]) (sh.set id .hid ++ [x]) b → Foot h m sh b := by
    rintro b ⟨i, y, d, h1, h2, h3, h4⟩
    rcases hsh h1 (nh h2) h3 with ⟨k1, k2, k3, k4⟩ | ⟨_, rfl, rfl⟩
    · refine ⟨i, y, d, k1, h2, k2, h4.imp (fun h => h) ?_⟩
      rintro ⟨z, h5, h6⟩
      exact ⟨z, by rw [← get d k4]; exact h5, h6⟩
    · rcases h4 with h4 | ⟨z, h5, h6⟩
      · subst h4; exact hf
      · rw [Hp.get_put_same] at h5; cases h5; rw [hst] at h6; cases h6
  refine ⟨⟨?_, ?_, ?_, ?_, ?_, ?_, ?_, ?_, fun b hb => by rw [nx] at hb; rw [get b (fun e => by subst e; omega)]; exact H.fresh b hb, H.glb.mono (fun _ h => h) hz.zc⟩, by rw [nx]; exact Nat.le_refl _, fun _ h => h, hz.zc, ids, arr, fun b hb hn => get b (fun e => hn (e ▸ hf)), fun b hb => .inl (foot b hb), fun _ h => .inl h, fun b hb => .inl ?_, fun i e rows h => by
    rcases get_snoc.1 h with h | ⟨_, h⟩
    · rcases get_set.1 h with ⟨_, h⟩ | ⟨_, _, h⟩
      · exact ⟨lt_of_get h, rows, h⟩
      · cases h
    · rw [← h] at hx; cases hx⟩
  · simp [H.len]
  · intro i y q h1 h2
    by_cases hy : y = .hid
    · subst hy; trivial
    have hl := H.len
    rcases get_snoc.1 h1 with h1 | ⟨h1, rfl⟩ <;> rcases get_snoc.1 h2 with w2 | ⟨w2, h3⟩
    · rcases get_set.1 h1 with ⟨q1, q2⟩ | ⟨_, _, q3⟩
      · exact (H.box i y q q2 w2).mono hs (fun b e => by subst e; exact get b (fun e => by subst e; exact H.one id i .rsv y _ (Ne.symm q1) h0 rfl q2 hy hm w2))
      · exact absurd q3 hy
    · have := lt_of_get h1; omega
    · have := lt_of_get w2; omega
    · subst h3; exact hb hs
  · intro i b h1
    rw [nx]
    rcases get_snoc.1 h1 with h1 | ⟨_, h1⟩
    · exact H.old _ _ h1
    · cases h1; exact hpn
  · intro i j y z b hij h1 h2 h3 h4 h5 h6
    rcases hsh h1 (nh h2) h5 with ⟨k1, k2, k3, k4⟩ | ⟨k0, rfl, rfl⟩ <;> rcases hsh h3 h4 h6 with ⟨k5, k6, k7, k8⟩ | ⟨k5, k6, k7⟩
    · exact H.one i j y z b hij k1 h2 k5 h4 k2 k6
    · exact k4 k7
    · exact k8 rfl
    · omega
  · intro b hb; rw [nx]; exact H.zold b hb
  · intro b hb; exact H.zfoot b (foot b hb)
  · intro b hb; rw [nx]; exact H.fold b (foot b hb)
  · intro i j y z b d w h1 h2 h3 h4 h5 h6 h7 h8
    rcases hsh h1 (nh h2) h3 with ⟨k1, k2, k3, k4⟩ | ⟨k0, rfl, rfl⟩
    · rw [get b k4] at h4
      rcases hsh h6 h7 h8 with ⟨q1, q2, _, _⟩ | ⟨_, _, q3⟩
      · exact H.stl i j y z b d w k1 h2 k2 h4 h5 q1 h7 q2
      · subst q3; exact H.stl i id y .rsv b d w k1 h2 k2 h4 h5 h0 (fun e => by cases e) hm
    · rw [Hp.get_put_same] at h4; cases h4; rw [hst] at h5; cases h5
  · obtain ⟨i, y, h1, h2, h3⟩ := hb
    rcases hsh h1 (nh h2) h3 with ⟨k1, k2, _, _⟩ | ⟨_, _, rfl⟩
    · exact ⟨i, y, k1, h2, k2⟩
    · exact ⟨id, _, h0, rfl, hm⟩
end
end Go.Sy
