/- A part of the proof: what a machine of our own over the model's code answers is what the model does; no condition. -/
import Derived.Test.YtndjadliihggpaaGreatDoorCoA
set_option linter.all false
open Go Go.Av Go.Proofs
set_option maxRecDepth 1000000
set_option linter.all false
namespace Go.Av
/-! ### Keys that are tokens: of them only the order is known -/
noncomputable def ordB (op : BinOp) (i j : Nat) : Option Bool := match op with
  | .eql => some (Nat.beq i j)
  | .neq => some (!(Nat.beq i j))
  | .lss => some (Nat.blt i j)
  | .leq => some (Nat.ble i j)
  | .gtr => some (Nat.blt j i)
  | .geq => some (Nat.ble j i)
  | _ => none
noncomputable def both (n : Nat) (i j : Nat) {α : Type} (x : Option α) : Option α := ifb (Nat.blt i n && Nat.blt j n) x none
noncomputable def ordT (n : Nat) (op : BinOp) : AVal → AVal → Option AVal
  | .tok i, .tok j => both n i j (ob (ordB op i j) fun t => some (.b t))
  | _, _ => none
noncomputable def ordS (n : Nat) : AVal → AVal → Option Bool
  | .tok i, .tok j => both n i j (some (Nat.beq i j))
  | _, _ => none
/-- keys that rise -/
def Rise (n : Nat) (K : Nat → Int) : Prop := ∀ a b, a < b → b < n → K a < K b
theorem Rise.lt {n : Nat} {K : Nat → Int} (h : Rise n K) {a b : Nat} (ha : a < n) (hb : b < n) : K a < K b ↔ a < b := by
  constructor
  · intro hk
    rcases Nat.lt_trichotomy a b with g | g | g
    · exact g
    · subst g; omega
    · have := h b a g ha; omega
  · intro g; exact h a b g hb
theorem Rise.eq {n : Nat} {K : Nat → Int} (h : Rise n K) {a b : Nat} (ha : a < n) (hb : b < n) : K a = K b ↔ a = b := by
  constructor
  · intro hk
    rcases Nat.lt_trichotomy a b with g | g | g
    · have := h a b g hb; omega
    · exact g
    · have := h b a g ha; omega
  · intro g; rw [g]
theorem both_eq {n i j : Nat} {α : Type} {x : Option α} {r : α} (h : both n i j x = some r) : i < n ∧ j < n ∧ x = some r := by
  unfold both at h
  rw [ifb_eq] at h
  obtain ⟨h1, h2⟩ := h
  simp only [Bool.and_eq_true, Nat.blt_eq] at h1
  exact ⟨h1.1, h1.2, h2⟩
@[reducible] noncomputable def tokO (n : Nat) (K : Nat → Int) (hK : Rise n K) : Tok where
  val := fun k => .int .i64 (K k)
  one := fun _ => rfl
  nb := fun _ _ h => by cases h
  two := ordT n
  len := fun _ => none
  same := ordS n
  two_ok := fun P op t x y a b v a' b' w h ha hb => by
    unfold ordT at h
    split at h
    · rename_i i j
      obtain ⟨hi, hj, h⟩ := both_eq h
      rw [ob_eq] at h
      obtain ⟨r, h1, h⟩ := h
      cases h
      cases ha; cases hb
      refine ⟨.bool r, .b r, ?_⟩
      have e1 := hK.lt hi hj
      have e2 := hK.lt hj hi
      have e3 := hK.eq hi hj
      unfold ordB at h1
      split at h1 <;> cases h1 <;> simp [eqGuard, binOp, Op.intCmp, Nat.blt_eq, Nat.ble_eq] <;> (apply Bool.eq_iff_iff.2; simp [← Bool.not_eq_true, Nat.beq_eq]; omega)
    · cases h
  same_ok := fun a b v a' b' h ha hb => by
    unfold ordS at h
    split at h
    · rename_i i j
      obtain ⟨hi, hj, h⟩ := both_eq h
      cases h
      cases ha; cases hb
      refine ⟨.i64, K i, K j, rfl, rfl, ?_⟩
      have e3 := hK.eq hi hj
      apply Bool.eq_iff_iff.2; simp; omega
    · cases h
  len_ok := fun _ _ h => by cases h
end Go.Av


open Go Go.Av Go.Proofs
set_option maxRecDepth 1000000
set_option linter.all false
namespace Go.Av
/-! ### The table, its rows, what is done to it -/
/-- a row: key, value -/
def rwD (k v : DV) : DV := .sl 2 4 [.i .i64 2, k, .i .i64 0, .s [], .i .i64 2, v, .i .i64 0, .s []]
def rwsD (l : List DV) : DV := match l with | [] => .nil | _ :: _ => .sl l.length 1 l
def tabD (l : List DV) : DV := .sl 1 13 [.s [116], .sl 2 3 [.s [107], .i .i64 2, .b true, .s [118], .i .i64 2, .b false], .i .i64 0, .nil, .i .i64 0, .s [], .i .i64 0, .i .i64 0, .i .i64 0, .s [], .nil, .nil, rwsD l]
def insD (k v : DV) : DV := .ag [.i .i64 4, .s [], .nil, .i .i64 0, .nil, .i .i64 0, .s [], .i .i64 0, .i .i64 0, .i .i64 0, .s [], .nil, .nil, .s [116], .s [], .s [], rwD k v, .i .i64 0, .s [], .i .i64 0, .i .i64 0, .i .i64 0, .s [], .nil, .i .i64 0, .s [], .i .i64 0, .i .i64 0, .i .i64 0, .s [], .nil]
def selD : DV := .ag [.i .i64 7, .s [], .nil, .i .i64 0, .nil, .i .i64 0, .s [], .i .i64 0, .i .i64 0, .i .i64 0, .s [], .nil, .nil, .s [116], .s [], .s [], .nil, .i .i64 0, .s [], .i .i64 0, .i .i64 0, .i .i64 0, .s [], .nil, .i .i64 0, .s [], .i .i64 0, .i .i64 0, .i .i64 0, .s [], .nil]
def ansD (d : DV) (e : Int) (l : List DV) (n : Int) : DV := .tu [d, .ag [.i .i64 e, rwsD l, .i .i64 n]]
/-- rows of tokens: the key a, the value 100 + a -/
def tkR (a : Nat) : DV := rwD (.t a) (.t (100 + a))
def tkL (l : List Nat) : List DV := l.map tkR
/-- all below n but one -/
def but (n p : Nat) : List Nat := List.range p ++ (List.range (n - p - 1)).map (p + 1 + ·)
def newE (n p : Nat) : Ent := ⟨[tabD (tkL (but n p)), insD (.t p) (.t (100 + p))], ansD (tabD (tkL (List.range n))) 0 [] 1⟩
def dupE (n p : Nat) : Ent := ⟨[tabD (tkL (List.range n)), insD (.t p) (.t 199)], ansD (tabD (tkL (List.range n))) 8 [] 0⟩
def selE (n : Nat) : Ent := ⟨[tabD (tkL (List.range n)), selD], ansD (tabD (tkL (List.range n))) 0 (tkL (List.range n)) 0⟩
def TK : List (List Sh) := [[.flat, .flat, .flat], [.flat], [.flat, .flat, .flat, .flat, .flat, .flat, .sl 2], [.flat, .flat], [.flat, .flat, .flat, .flat], [.flat, .flat, .sl 0, .flat, .sl 1, .flat, .flat, .flat, .flat, .flat, .flat, .sl 2, .sl 3, .flat, .flat, .flat, .sl 4, .flat, .flat, .flat, .flat, .flat, .flat, .sl 2, .flat, .flat, .flat, .flat, .flat, .flat, .sl 2], [.ag 5, .flat, .flat], [.flat, .sl 0, .flat, .sl 1, .flat, .flat, .flat, .flat, .flat, .flat, .sl 2, .sl 3, .sl 8], [.sl 4], [.flat, .sl 8, .flat], [.sl 7, .ag 9]]
/-- what the machine answers of it is so -/
noncomputable def okE (n : Nat) (K : Nat → Int) (hK : Rise n K) (e : Ent) : Bool := letI := tokO n K hK; checkE Tryz.prog fsB 100000 GG TK 20 12 (.tu 10) e
/-- all that is told of tables of n rows, behind the statement or ahead of it -/
noncomputable def allE (n : Nat) : List Ent := (List.range n).map (newE n) ++ (List.range n).map (dupE n) ++ [selE n]
noncomputable def okP (n a k : Nat) (K : Nat → Int) (hK : Rise n K) : Bool := allR (okE n K hK) (((allE n).drop a).take k)
end Go.Av
