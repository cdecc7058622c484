/- A part of the proof: what a machine of our own over the model's code answers is what the model does; no condition. -/
import Derived.Test.YtndjadliihggpaaGreatDoorDkA
import Derived.Test.YtndjadliihggpaaGreatDoorSyC
set_option linter.all false
open Go Go.Av Go.Sy Go.Proofs
set_option maxRecDepth 1000000
set_option linter.all false
noncomputable section
namespace Go.Sy
/-! ### What the law's function comes to -/
section
variable (preK : List DV → Bool) (fK : List DV → List D) (preS : List DV → Bool) (fS : List DV → List D) (preE : List DV → Bool) (fE : List DV → List D) (wOk : Int → Int → Bool) (wI : Int → Int → Int)
def conK : ConP := ⟨.b false, preK, fK⟩
def conS : ConP := ⟨.o .nil, preS, fS⟩
def conE : ConP := ⟨.tu [.o .nil, .ag [.i .i64 0, .l 38 false [], .i .i64 0]], preE, fE⟩
def conW (l : List SV) (sh : SH) (k : SV → SH → Option (List D)) : Option (List D) := match l with
  | [.i .i64 n, .i .i64 m] => ifb (wOk n m) (k (.i .i64 (wI n m)) sh) none
  | _ => none
def ctK [Tok] : Ctr (List D) := fun j => bif Nat.beq j 9 then some ((conK preK fK).ctr Tryz.prog) else bif Nat.beq j 13 then some ((conS preS fS).ctr Tryz.prog) else bif Nat.beq j 12 then some ((conE preE fE).ctr Tryz.prog) else bif Nat.beq j 10 then some (conW wOk wI) else none
def crt : List Nat := [99, 114, 101, 97, 116, 101, 32, 116, 97, 98, 108, 101, 32, 116, 32, 40, 107, 32, 105, 110, 116, 32, 110, 111, 116, 32, 110, 117, 108, 108, 44, 32, 118, 32, 105, 110, 116, 44, 32, 112, 114, 105, 109, 97, 114, 121, 32, 107, 101, 121, 32, 40, 107, 41, 41]
def sel : List Nat := [115, 101, 108, 101, 99, 116, 32, 42, 32, 102, 114, 111, 109, 32, 116]
def v1 (v : List D) : D := hdD v.tail
def v2 (v : List D) : D := hdD v.tail.tail
def v3 (v : List D) : D := hdD v.tail.tail.tail
def v4 (v : List D) : D := hdD v.tail.tail.tail.tail
/-- so many truths -/
def bsL : Nat → List D → List Bool
  | 0, _ => []
  | n + 1, v => (hdD v).bool :: bsL n v.tail
def setB (ix : Nat) : Nat → List Bool → List D
  | _, [] => []
  | j, b :: r => .b (ifb (Nat.beq ix j) true b) :: setB ix (j + 1) r
def one (x : Int) : Int := wrapF .i64 (addI x 1)
/-- the rows, at a place: the key's number -/
def keyAt (rows : List (List D)) (i : Nat) : Int := (List.getD (List.getD ((List.getD (rows.getD i []) 0 (.i 0)).rows) (toN 0) []) 1 (.i 0)).int
def lenAt (rows : List (List D)) (i : Nat) : Nat := ((List.getD (rows.getD i []) 0 (.i 0)).rows).length
/-- a round of the last loop -/
def step2 (n : Int) (rec : List D → Option (List D)) (v : List D) : Option (List D) :=
  let I := (v1 v).int; let rows := (v3 v).rows
  let next : Option (List D) := rec [.b (hdD v).bool, .i (one I), .i (v2 v).int, .l rows, .i (v4 v).int]
  let I1 := wrapF .i64 (subI I 1)
  ifb (ltI I n) (ifb (inR I rows.length)
    (ifb (ifb (ifb (eqI (Int.ofNat (lenAt rows (toN I))) 2) false true) false true)
      (ifb (ifb (ifb (ltI 0 I) false true) false true)
        (ifb (inR I1 rows.length) (ifb (inR 0 (lenAt rows (toN I1))) (ifb (inR I rows.length) (ifb (inR 0 (lenAt rows (toN I)))
          (ifb (ifb (ltI (keyAt rows (toN I1)) (keyAt rows (toN I))) false true) (some [.b false]) next)
          none) none) none) none)
        next) none) none) (some [.b true])
/-- what is told behind the first loop: of the tables, the count -/
def endK (N : Nat) (b0 : Bool) (d : D) (n : Int) : Option (List D) :=
  let r := fE [dec d, dec (hdD (fS [.s sel]))]
  ifb (preS [.s sel]) (ifb (preE [dec d, dec (hdD (fS [.s sel]))])
    (ifb (ifb (eqI (Int.ofNat (hdD r.tail.tail).rows.length) n) false true) (some [.b false])
      (loopK (step2 n) N [.b b0, .i 0, .i (hdD r.tail).int, .l (hdD r.tail.tail).rows, .i (hdD r.tail.tail.tail).int])) none) none
/-- a round of the first loop -/
def step1 (N : Nat) (ns : List (List D)) (rec : List D → Option (List D)) (v : List D) : Option (List D) :=
  let b0 := (hdD v).bool; let I := (v3 v).int; let n := (v2 v).int
  let x := (List.getD (ns.getD (toN I) []) 0 (.i 0)).int
  let K := wI x 20
  let KN := Nat.add 0 (Nat.mul (toN K) 1)
  let r := fE [dec (v1 v), insD (.i .i64 (wrapF .i64 (subI K 10))) (.i .i64 I)]
  let E := (hdD r.tail).int
  let S := bsL 20 v.tail.tail.tail.tail
  let SK := S.getD KN false
  let go (n : Int) : Option (List D) := ifb (inR K 20) (ifb (Nat.ble KN 19) (rec (.b b0 :: enc (dec (hdD r)) :: .i n :: .i (one I) :: setB KN 0 S)) none) none
  let fin : Option (List D) := ifb (inR K 20) (ifb (Nat.ble KN 19) (ifb (ifb SK false true) (go (one n)) (go n)) none) none
  ifb (ltI I (Int.ofNat ns.length)) (ifb (ltI I 30) (ifb (inR I ns.length) (ifb (wOk x 20)
    (ifb (preE [dec (v1 v), insD (.i .i64 (wrapF .i64 (subI K 10))) (.i .i64 I)])
      (ifb (inR K 20) (ifb (Nat.ble KN 19)
        (ifb (ifb (ifb (eqI E 0) SK (ifb SK false true)) false true)
          (ifb (inR K 20) (ifb (Nat.ble KN 19) (ifb SK (ifb (ifb (eqI E 8) false true) (some [.b false]) fin) fin) none) none)
          none) none) none) none) none) none) (endK preS fS preE fE N b0 (v1 v) n)) (endK preS fS preE fE N b0 (v1 v) n)
/-- the law's function -/
def lawK (N : Nat) (ns : List (List D)) : Option (List D) :=
  ifb (preK []) (ifb (ifb (hdD (fK [])).bool false true) (some [.b false])
    (ifb (preS [.s crt]) (ifb (preE [.nil, dec (hdD (fS [.s crt]))])
      (loopK (step1 preS fS preE fE wOk wI N ns) N (.b false :: enc (dec (hdD (fE [.nil, dec (hdD (fS [.s crt]))]))) :: .i 0 :: .i 0 :: List.replicate 20 (.b false))) none) none)) none
theorem law_den [Tok] (N : Nat) (ns : List (List D)) : codeS Tryz.prog (ctK preK fK preS fS preE fE wOk wI) (fun _ => {}) N 9 4 [.l 3 false ns] [] (kR (.b false)) = lawK preK fK preS fS preE fE wOk wI N ns := by kernel_rfl
end
end Go.Sy


open Go Go.Av Go.Sy Go.Proofs
set_option linter.all false
noncomputable section
namespace Go.Sy
/-! ### The plain law -/
abbrev KV := List (Int × Int)
def rowI (p : Int × Int) : DV := rwD (.i .i64 p.1) (.i .i64 p.2)
def tabI (L : KV) : DV := tabD (L.map rowI)
def rowsI (L : KV) : List (List D) := L.map fun p => [.l [[.i 2, .i p.1, .i 0, .s []], [.i 2, .i p.2, .i 0, .s []]]]
def insr : KV → Int → Int → KV
  | [], k, v => [(k, v)]
  | p :: r, k, v => if k < p.1 then (k, v) :: p :: r else p :: insr r k v
def keys (L : KV) : List Int := L.map (·.1)
def Ris (L : KV) : Prop := L.Pairwise fun a b => a.1 < b.1
def crD : DV := .ag [.i .i64 1, .s [116], .sl 2 3 [.s [107], .i .i64 2, .b true, .s [118], .i .i64 2, .b false], .i .i64 0, .nil, .i .i64 0, .s [], .i .i64 0, .i .i64 0, .i .i64 0, .s [], .nil, .nil, .s [], .s [], .s [], .nil, .i .i64 0, .s [], .i .i64 0, .i .i64 0, .i .i64 0, .s [], .nil, .i .i64 0, .s [], .i .i64 0, .i .i64 0, .i .i64 0, .s [], .nil]
theorem insr_keys (k v : Int) : ∀ (L : KV) (x : Int), x ∈ keys (insr L k v) ↔ x = k ∨ x ∈ keys L
  | [], x => by simp [insr, keys]
  | p :: r, x => by
    unfold insr
    split
    · simp [keys]
    · have ih := insr_keys k v r x
      simp only [keys, List.map_cons, List.mem_cons] at ih ⊢
      rw [ih]; constructor
      · rintro (h | h | h)
        · exact .inr (.inl h)
        · exact .inl h
        · exact .inr (.inr h)
      · rintro (h | h | h)
        · exact .inr (.inl h)
        · exact .inl h
        · exact .inr (.inr h)
theorem insr_len (k v : Int) : ∀ (L : KV), (insr L k v).length = L.length + 1
  | [] => rfl
  | p :: r => by
    unfold insr
    split
    · rfl
    · simp [insr_len k v r]
theorem insr_ris {k v : Int} : ∀ {L : KV}, Ris L → k ∉ keys L → Ris (insr L k v)
  | [], _, _ => by simp [insr, Ris]
  | p :: r, h, hk => by
    unfold Ris at h
    rw [List.pairwise_cons] at h
    simp only [keys, List.map_cons, List.mem_cons, not_or] at hk
    unfold insr
    split
    · rename_i hlt
      unfold Ris
      rw [List.pairwise_cons, List.pairwise_cons]
      refine ⟨fun q hq => ?_, h.1, h.2⟩
      rcases List.mem_cons.1 hq with rfl | hq
      · exact hlt
      · exact Int.lt_trans hlt (h.1 q hq)
    · rename_i hlt
      unfold Ris
      rw [List.pairwise_cons]
      refine ⟨fun q hq => ?_, insr_ris h.2 hk.2⟩
      have : q.1 ∈ keys (insr r k v) := List.mem_map_of_mem hq
      rw [insr_keys] at this
      rcases this with e | e
      · rw [e]; have := hk.1; omega
      · obtain ⟨q', hq', e⟩ := List.mem_map.1 e
        rw [← e]; exact h.1 q' hq'
/-- keys that rise between two bounds are no more than fit -/
theorem ris_len : ∀ {L : KV} {a b : Int}, Ris L → (∀ x ∈ keys L, a ≤ x ∧ x ≤ b) → a ≤ b + 1 → (L.length : Int) ≤ b - a + 1
  | [], a, b, _, _, h => by simp; omega
  | p :: r, a, b, h, hk, hab => by
    unfold Ris at h
    rw [List.pairwise_cons] at h
    have hp := hk p.1 (by simp [keys])
    have := ris_len (L := r) (a := p.1 + 1) (b := b) h.2 (fun x hx => by
      obtain ⟨q, hq, rfl⟩ := List.mem_map.1 hx
      have := h.1 q hq
      have := hk q.1 (by simp only [keys, List.map_cons, List.mem_cons]; exact .inr (List.mem_map_of_mem hq))
      omega) (by omega)
    simp only [List.length_cons]; push_cast; omega
section
variable {preK : List DV → Bool} {fK : List DV → List D} {preS : List DV → Bool} {fS : List DV → List D} {preE : List DV → Bool} {fE : List DV → List D} {wOk : Int → Int → Bool} {wI : Int → Int → Int}
structure Facts (preK : List DV → Bool) (fK : List DV → List D) (preS : List DV → Bool) (fS : List DV → List D) (preE : List DV → Bool) (fE : List DV → List D) (wOk : Int → Int → Bool) (wI : Int → Int → Int) : Prop where
  k : preK [] = true ∧ (hdD (fK [])).bool = true
  s1 : preS [.s crt] = true ∧ fS [.s crt] = [enc crD]
  s2 : preS [.s sel] = true ∧ fS [.s sel] = [enc selD]
  c : preE [.nil, crD] = true ∧ fE [.nil, crD] = [enc (tabI []), .i 0, .l [], .i 0]
  e : ∀ (L : KV) (k v : Int), Ris L → L.length ≤ 20 → (k ∉ keys L → L.length < 20) → preE [tabI L, insD (.i .i64 k) (.i .i64 v)] = true ∧
    (k ∈ keys L → fE [tabI L, insD (.i .i64 k) (.i .i64 v)] = [enc (tabI L), .i 8, .l [], .i 0]) ∧ (k ∉ keys L → fE [tabI L, insD (.i .i64 k) (.i .i64 v)] = [enc (tabI (insr L k v)), .i 0, .l [], .i 1])
  q : ∀ (L : KV), Ris L → L.length ≤ 20 → preE [tabI L, selD] = true ∧ fE [tabI L, selD] = [enc (tabI L), .i 0, .l (rowsI L), .i 0]
  w : ∀ n : Int, inI64 n → wOk n 20 = true ∧ wI n 20 = n % 20
theorem ifb_tt {α : Type} (a b : α) : ifb true a b = a := rfl
theorem ifb_ff {α : Type} (a b : α) : ifb false a b = b := rfl
theorem wrap_sm {n : Int} (h : -1000000 ≤ n) (h2 : n ≤ 1000000) : wrapF .i64 n = n := by
  rw [wrapF_eq]; simp [IntKind.wrap, IntKind.bits, IntKind.signed]; omega
theorem one_sm {i : Nat} (h : i < 1000) : one (Int.ofNat i) = Int.ofNat (i + 1) := by
  unfold one; rw [addI_eq, wrap_sm] <;> simp only [Int.ofNat_eq_natCast] <;> omega
theorem inR_of {j : Int} {n : Nat} (h : 0 ≤ j) (h2 : j < n) : inR j n = true := by
  obtain ⟨i, rfl⟩ := Int.eq_ofNat_of_zero_le h
  show Nat.blt i n = true
  rw [Nat.blt_eq]; omega
theorem toN_of (i : Nat) : toN (Int.ofNat i) = i := rfl
theorem rowsI_len (L : KV) : (rowsI L).length = L.length := by simp [rowsI]
theorem rowsI_at {L : KV} {i : Nat} (h : i < L.length) : (rowsI L).getD i [] = [.l [[.i 2, .i (L.getD i (0, 0)).1, .i 0, .s []], [.i 2, .i (L.getD i (0, 0)).2, .i 0, .s []]]] := by
  rw [List.getD_eq_getElem?_getD, List.getD_eq_getElem?_getD, rowsI, List.getElem?_map, List.getElem?_eq_getElem h]; rfl
theorem keyAt_I {L : KV} {i : Nat} (h : i < L.length) : keyAt (rowsI L) i = (L.getD i (0, 0)).1 := by
  unfold keyAt; rw [rowsI_at h]; rfl
theorem lenAt_I {L : KV} {i : Nat} (h : i < L.length) : lenAt (rowsI L) i = 2 := by
  unfold lenAt; rw [rowsI_at h]; rfl
theorem ris_at {L : KV} (hr : Ris L) {i : Nat} (h : i + 1 < L.length) : (L.getD i (0, 0)).1 < (L.getD (i + 1) (0, 0)).1 := by
  rw [List.getD_eq_getElem?_getD, List.getD_eq_getElem?_getD, List.getElem?_eq_getElem (by omega : i < L.length), List.getElem?_eq_getElem h]
  exact (List.pairwise_iff_getElem.1 hr) i (i + 1) (by omega) h (by omega)
theorem loop2 {L : KV} (hr : Ris L) (hl : L.length ≤ 20) {b0 : Bool} {e z : Int} : ∀ (m i : Nat), i ≤ L.length → L.length < m + i →
    loopK (step2 (Int.ofNat L.length)) m [.b b0, .i (Int.ofNat i), .i e, .l (rowsI L), .i z] = some [.b true] := by
  intro m
  induction m with
  | zero => intro i h1 h2; omega
  | succ m ih =>
    intro i h1 h2
    show step2 (Int.ofNat L.length) (loopK (step2 (Int.ofNat L.length)) m) [.b b0, .i (Int.ofNat i), .i e, .l (rowsI L), .i z] = _
    have ih' := ih (i + 1)
    generalize loopK (step2 (Int.ofNat L.length)) m = K at ih' ⊢
    unfold step2
    simp only [show (v1 [D.b b0, D.i (Int.ofNat i), D.i e, D.l (rowsI L), D.i z]).int = Int.ofNat i from rfl, show (v2 [D.b b0, D.i (Int.ofNat i), D.i e, D.l (rowsI L), D.i z]).int = e from rfl, show (v3 [D.b b0, D.i (Int.ofNat i), D.i e, D.l (rowsI L), D.i z]).rows = rowsI L from rfl, show (v4 [D.b b0, D.i (Int.ofNat i), D.i e, D.l (rowsI L), D.i z]).int = z from rfl, show (hdD [D.b b0, D.i (Int.ofNat i), D.i e, D.l (rowsI L), D.i z]).bool = b0 from rfl]
    by_cases hi : i < L.length
    · rw [show ltI (Int.ofNat i) (Int.ofNat L.length) = true by rw [ltI_eq]; simpa using hi, ifb_tt]
      rw [inR_of (by simp) (by rw [rowsI_len]; simpa using hi), ifb_tt, toN_of, lenAt_I hi]
      rw [show eqI (Int.ofNat 2) 2 = true from rfl]
      rw [one_sm (by omega)]
      have nx := ih' (by omega) (by omega)
      by_cases h0 : i = 0
      · subst h0
        rw [show ltI 0 (Int.ofNat 0) = false from rfl]
        exact nx
      · obtain ⟨j, rfl⟩ : ∃ j, i = j + 1 := ⟨i - 1, by omega⟩
        rw [show ltI 0 (Int.ofNat (j + 1)) = true by rw [ltI_eq]; simp]
        rw [show wrapF .i64 (subI (Int.ofNat (j + 1)) 1) = Int.ofNat j by rw [subI_eq, wrap_sm] <;> simp only [Int.ofNat_eq_natCast] <;> omega]
        rw [inR_of (j := Int.ofNat j) (by simp) (by rw [rowsI_len]; simp; omega), toN_of, lenAt_I (by omega : j < L.length)]
        rw [show inR 0 2 = true from rfl, keyAt_I (by omega : j < L.length), keyAt_I hi]
        rw [show ltI (L.getD j (0, 0)).1 (L.getD (j + 1) (0, 0)).1 = true by rw [ltI_eq]; simpa using ris_at hr hi]
        exact nx
    · rw [show ltI (Int.ofNat i) (Int.ofNat L.length) = false by rw [ltI_eq]; simp; omega, ifb_ff]
/-! truths at places -/
def setb (ix : Nat) : Nat → List Bool → List Bool
  | _, [] => []
  | j, b :: r => ifb (Nat.beq ix j) true b :: setb ix (j + 1) r
theorem setB_eq (ix : Nat) : ∀ (j : Nat) (S : List Bool), setB ix j S = (setb ix j S).map D.b
  | _, [] => rfl
  | j, b :: r => by simp only [setB, setb, List.map_cons, setB_eq ix (j + 1) r]
theorem setb_len (ix : Nat) : ∀ (j : Nat) (S : List Bool), (setb ix j S).length = S.length
  | _, [] => rfl
  | j, b :: r => by simp [setb, setb_len ix (j + 1) r]
theorem setb_at (ix : Nat) : ∀ (j : Nat) (S : List Bool) (t : Nat), t < S.length → (setb ix j S).getD t false = (decide (ix = j + t) || S.getD t false)
  | _, [], t, h => by simp at h
  | j, b :: r, 0, h => by
    show ifb (Nat.beq ix j) true b = (decide (ix = j + 0) || b)
    cases e : Nat.beq ix j with
    | true => have := Nat.eq_of_beq_eq_true e; simp [this, ifb]
    | false => have : ix ≠ j := fun h => by rw [h, Nat.beq_refl] at e; cases e
               simp [this, ifb]
  | j, b :: r, t + 1, h => by
    show (setb ix (j + 1) r).getD t false = (decide (ix = j + (t + 1)) || r.getD t false)
    rw [setb_at ix (j + 1) r t (by simpa using h)]
    congr 2; simp; omega
theorem bsL_map : ∀ (S : List Bool), bsL S.length (S.map D.b) = S
  | [] => rfl
  | b :: r => by
    show (hdD (D.b b :: r.map D.b)).bool :: bsL r.length (r.map D.b) = _
    rw [bsL_map r]; rfl
/-! the first loop -/
structure Inv (L : KV) (S : List Bool) : Prop where
  ris : Ris L
  bd : ∀ x ∈ keys L, -10 ≤ x ∧ x ≤ 9
  len : S.length = 20
  at_ : ∀ j : Nat, j < 20 → S.getD j false = decide ((j : Int) - 10 ∈ keys L)
theorem Inv.le {L : KV} {S : List Bool} (h : Inv L S) : L.length ≤ 20 := by
  have := ris_len h.ris h.bd (by omega); omega
variable (F : Facts preK fK preS fS preE fE wOk wI)
include F
theorem end_ok {L : KV} (hr : Ris L) (hl : L.length ≤ 20) {b0 : Bool} {N : Nat} (hN : 40 ≤ N) : endK preS fS preE fE N b0 (enc (tabI L)) (Int.ofNat L.length) = some [.b true] := by
  unfold endK
  rw [F.s2.2, show hdD [enc selD] = enc selD from rfl, dec_enc, dec_enc, (F.q L hr hl).2, F.s2.1, (F.q L hr hl).1]
  show ifb true (ifb true (ifb (ifb (eqI (Int.ofNat (rowsI L).length) (Int.ofNat L.length)) false true) (some [.b false]) (loopK (step2 (Int.ofNat L.length)) N [.b b0, .i 0, .i 0, .l (rowsI L), .i 0])) none) none = _
  rw [rowsI_len, show eqI (Int.ofNat L.length) (Int.ofNat L.length) = true by rw [eqI_eq]; simp]
  exact loop2 hr hl N 0 (by omega) (by omega)
theorem loop1 {xs : List Int} (hx : ∀ x ∈ xs, inI64 x) {b0 : Bool} {N : Nat} (hN : 40 ≤ N) : ∀ (m i : Nat) (L : KV) (S : List Bool), Inv L S → i ≤ 30 → 30 < m + i →
    loopK (step1 preS fS preE fE wOk wI N (xs.map fun x => [.i x])) m (.b b0 :: enc (tabI L) :: .i (Int.ofNat L.length) :: .i (Int.ofNat i) :: S.map D.b) = some [.b true] := by
  intro m
  induction m with
  | zero => intro i L S _ h1 h2; omega
  | succ m ih =>
    intro i L S hI h1 h2
    show step1 preS fS preE fE wOk wI N (xs.map fun x => [.i x]) (loopK (step1 preS fS preE fE wOk wI N (xs.map fun x => [.i x])) m) (.b b0 :: enc (tabI L) :: .i (Int.ofNat L.length) :: .i (Int.ofNat i) :: S.map D.b) = _
    have ih' := fun (L : KV) (S : List Bool) => ih (i + 1) L S
    generalize loopK (step1 preS fS preE fE wOk wI N (xs.map fun x => [.i x])) m = K at ih' ⊢
    have hend := end_ok F hI.ris hI.le (b0 := b0) hN
    unfold step1
    simp only [show (hdD (D.b b0 :: enc (tabI L) :: D.i (Int.ofNat L.length) :: D.i (Int.ofNat i) :: S.map D.b)).bool = b0 from rfl,
      show v1 (D.b b0 :: enc (tabI L) :: D.i (Int.ofNat L.length) :: D.i (Int.ofNat i) :: S.map D.b) = enc (tabI L) from rfl,
      show (v2 (D.b b0 :: enc (tabI L) :: D.i (Int.ofNat L.length) :: D.i (Int.ofNat i) :: S.map D.b)).int = Int.ofNat L.length from rfl,
      show (v3 (D.b b0 :: enc (tabI L) :: D.i (Int.ofNat L.length) :: D.i (Int.ofNat i) :: S.map D.b)).int = Int.ofNat i from rfl,
      show (D.b b0 :: enc (tabI L) :: D.i (Int.ofNat L.length) :: D.i (Int.ofNat i) :: S.map D.b).tail.tail.tail.tail = S.map D.b from rfl]
    rw [show bsL 20 (S.map D.b) = S by rw [← hI.len]; exact bsL_map S, dec_enc, toN_of]
    by_cases hi : i < xs.length
    · rw [show ltI (Int.ofNat i) (Int.ofNat (xs.map fun x => [D.i x]).length) = true by rw [ltI_eq]; simpa using hi, ifb_tt]
      by_cases h30 : i < 30
      · rw [show ltI (Int.ofNat i) 30 = true by rw [ltI_eq]; simp; omega, ifb_tt, inR_of (j := Int.ofNat i) (by simp) (by simpa using hi), ifb_tt]
        rw [show (List.getD ((xs.map fun x => [D.i x]).getD i []) 0 (D.i 0)).int = xs[i] by
          rw [List.getD_eq_getElem?_getD (l := xs.map _), List.getElem?_map, List.getElem?_eq_getElem hi]; rfl]
        obtain ⟨w1, w2⟩ := F.w xs[i] (hx _ (List.getElem_mem hi))
        rw [w1, w2, ifb_tt]
        have hm0 : 0 ≤ xs[i] % 20 := Int.emod_nonneg _ (by omega)
        have hm1 : xs[i] % 20 < 20 := Int.emod_lt_of_pos _ (by omega)
        obtain ⟨c, hc⟩ := Int.eq_ofNat_of_zero_le hm0
        rw [hc] at hm1 ⊢
        have hc20 : c < 20 := by omega
        rw [show toN (c : Int) = c from rfl, show Nat.add 0 (Nat.mul c 1) = c by show 0 + c * 1 = c; omega]
        rw [show wrapF .i64 (subI (c : Int) 10) = (c : Int) - 10 by rw [subI_eq, wrap_sm] <;> omega]
        rw [inR_of (j := (c : Int)) (by omega) (by omega), show Nat.ble c 19 = true by rw [Nat.ble_eq]; omega, one_sm (i := i) (by omega)]
        have hs := hI.at_ c hc20
        by_cases hk : (c : Int) - 10 ∈ keys L
        · obtain ⟨p1, p2, _⟩ := F.e L ((c : Int) - 10) (Int.ofNat i) hI.ris hI.le (fun h => absurd hk h)
          rw [p1, p2 hk]
          rw [show hdD ([enc (tabI L), D.i 8, D.l [], D.i 0] : List D) = enc (tabI L) from rfl, show (hdD ([enc (tabI L), D.i 8, D.l [], D.i 0] : List D).tail).int = 8 from rfl, dec_enc]
          rw [hs, decide_eq_true hk, show eqI 8 0 = false from rfl, show eqI 8 8 = true from rfl]
          rw [setB_eq]
          refine ih' L (setb c 0 S) ⟨hI.ris, hI.bd, by rw [setb_len]; exact hI.len, fun j hj => ?_⟩ (by omega) (by omega)
          rw [setb_at c 0 S j (by rw [hI.len]; exact hj), hI.at_ j hj]
          by_cases e : c = j
          · subst e; simp [hk]
          · simp [e]
        · have hb : ∀ x ∈ keys (insr L ((c : Int) - 10) (Int.ofNat i)), -10 ≤ x ∧ x ≤ 9 := fun x hx => by
            rw [insr_keys] at hx
            rcases hx with rfl | hx
            · omega
            · exact hI.bd x hx
          have hr := insr_ris (v := Int.ofNat i) hI.ris hk
          have hl : L.length < 20 := by
            have := ris_len hr hb (by omega)
            rw [insr_len] at this; omega
          obtain ⟨p1, _, p2⟩ := F.e L ((c : Int) - 10) (Int.ofNat i) hI.ris hI.le (fun _ => hl)
          rw [p1, p2 hk]
          rw [show hdD ([enc (tabI (insr L ((c : Int) - 10) (Int.ofNat i))), D.i 0, D.l [], D.i 1] : List D) = enc (tabI (insr L ((c : Int) - 10) (Int.ofNat i))) from rfl, show (hdD ([enc (tabI (insr L ((c : Int) - 10) (Int.ofNat i))), D.i 0, D.l [], D.i 1] : List D).tail).int = 0 from rfl, dec_enc]
          rw [hs, decide_eq_false hk, show eqI 0 0 = true from rfl]
          rw [setB_eq, one_sm (i := L.length) (by omega)]
          have := ih' (insr L ((c : Int) - 10) (Int.ofNat i)) (setb c 0 S) ⟨hr, hb, by rw [setb_len]; exact hI.len, fun j hj => ?_⟩ (by omega) (by omega)
          · rw [insr_len] at this; exact this
          rw [setb_at c 0 S j (by rw [hI.len]; exact hj), hI.at_ j hj]
          apply Bool.eq_iff_iff.2
          simp only [Bool.or_eq_true, decide_eq_true_eq]
          rw [insr_keys]
          constructor
          · rintro (h | h)
            · left; omega
            · exact .inr h
          · rintro (h | h)
            · left; omega
            · exact .inr h
      · rw [show ltI (Int.ofNat i) 30 = false by rw [ltI_eq]; simp; omega, ifb_ff]
        exact hend
    · rw [show ltI (Int.ofNat i) (Int.ofNat (xs.map fun x => [D.i x]).length) = false by rw [ltI_eq]; simp; omega, ifb_ff]
      exact hend
theorem law_true {xs : List Int} (hx : ∀ x ∈ xs, inI64 x) {N : Nat} (hN : 40 ≤ N) : lawK preK fK preS fS preE fE wOk wI N (xs.map fun x => [.i x]) = some [.b true] := by
  unfold lawK
  rw [F.k.1, F.k.2, F.s1.1, F.s1.2, show hdD [enc crD] = enc crD from rfl, dec_enc, F.c.1, F.c.2]
  rw [show hdD ([enc (tabI []), D.i 0, D.l [], D.i 0] : List D) = enc (tabI []) from rfl, dec_enc]
  have := loop1 F hx (b0 := false) hN N 0 [] (List.replicate 20 false) ⟨List.Pairwise.nil, (fun x hx => by cases hx), rfl, fun j hj => ?_⟩ (by omega) (by omega)
  · exact this
  · rw [List.getD_eq_getElem?_getD, List.getElem?_replicate]
    simp [hj, keys]
end
end Go.Sy
