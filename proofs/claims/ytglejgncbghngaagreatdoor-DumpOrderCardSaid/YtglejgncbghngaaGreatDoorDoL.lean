/- A part of the proof: what a machine of our own over the model's code answers is what the model does; no condition. -/
import Derived.Test.YtglejgncbghngaaGreatDoorDoB
set_option linter.all false
open Go Go.Av Go.Sy Go.Proofs
set_option maxRecDepth 1000000
set_option linter.all false
noncomputable section
namespace Go.Sy
/-! ### The plain law -/
/-! reading back what a round is handed -/
theorem bsL_eq : ∀ (S : List Bool) (q : List D) (n : Nat), S.length = n → bsL n (bD S ++ q) = S
  | [], q, n, h => by subst h; rfl
  | b :: S, q, n, h => by
    subst h
    show b :: bsL S.length (bD S ++ q) = b :: S
    rw [bsL_eq S q _ rfl]
theorem bsL_eq0 (S : List Bool) (n : Nat) (h : S.length = n) : bsL n (bD S) = S := by
  have := bsL_eq S [] n h
  rwa [List.append_nil] at this
theorem isL_eq : ∀ (A : List Int) (q : List D) (n : Nat), A.length = n → isL n (iD A ++ q) = A
  | [], q, n, h => by subst h; rfl
  | b :: S, q, n, h => by
    subst h
    show b :: isL S.length (iD S ++ q) = b :: S
    rw [isL_eq S q _ rfl]
theorem tl_bD : ∀ (S : List Bool) (q : List D) (n : Nat), S.length = n → tl n (bD S ++ q) = q
  | [], q, n, h => by subst h; rfl
  | b :: S, q, n, h => by
    subst h
    show tl S.length (bD S ++ q) = q
    exact tl_bD S q _ rfl
theorem tl_cons (n : Nat) (a : D) (q : List D) : tl (n + 1) (a :: q) = tl n q := rfl
theorem hdD_cons (a : List (List D)) (q : List D) : (hdD (.l a :: q)).rows = a := rfl
theorem loopK_s {ρ : Type} (step : (List D → Option ρ) → List D → Option ρ) (n : Nat) (v : List D) : loopK step (n + 1) v = step (loopK step n) v := rfl
theorem setb_eq (x : Bool) : ∀ (S : List Bool) (ix j : Nat), setb (j + ix) x j S = S.set ix x
  | [], ix, j => by cases ix <;> rfl
  | b :: S, 0, j => by
    show ifb (Nat.beq (j + 0) j) x b :: setb (j + 0) x (j + 1) S = x :: S
    rw [Nat.add_zero, Nat.beq_refl]
    show x :: _ = _
    congr 1
    have : ∀ (S : List Bool) (i : Nat), j < i → setb j x i S = S := by
      intro S
      induction S with
      | nil => intro i _; rfl
      | cons c S ih =>
        intro i hi
        show ifb (Nat.beq j i) x c :: setb j x (i + 1) S = c :: S
        have : Nat.beq j i = false := by
          cases e : Nat.beq j i with
          | false => rfl
          | true => have := Nat.eq_of_beq_eq_true e; omega
        rw [this, ih (i + 1) (by omega)]
    exact this S (j + 1) (by omega)
  | b :: S, ix + 1, j => by
    show ifb (Nat.beq (j + (ix + 1)) j) x b :: setb (j + (ix + 1)) x (j + 1) S = b :: S.set ix x
    have : Nat.beq (j + (ix + 1)) j = false := by
      cases e : Nat.beq (j + (ix + 1)) j with
      | false => rfl
      | true => have := Nat.eq_of_beq_eq_true e; omega
    rw [this, show j + (ix + 1) = (j + 1) + ix by omega, setb_eq x S ix (j + 1)]
theorem seti_eq (x : Int) : ∀ (S : List Int) (ix j : Nat), seti (j + ix) x j S = S.set ix x
  | [], ix, j => by cases ix <;> rfl
  | b :: S, 0, j => by
    show ifb (Nat.beq (j + 0) j) x b :: seti (j + 0) x (j + 1) S = x :: S
    rw [Nat.add_zero, Nat.beq_refl]
    show x :: _ = _
    congr 1
    have : ∀ (S : List Int) (i : Nat), j < i → seti j x i S = S := by
      intro S
      induction S with
      | nil => intro i _; rfl
      | cons c S ih =>
        intro i hi
        show ifb (Nat.beq j i) x c :: seti j x (i + 1) S = c :: S
        have : Nat.beq j i = false := by
          cases e : Nat.beq j i with
          | false => rfl
          | true => have := Nat.eq_of_beq_eq_true e; omega
        rw [this, ih (i + 1) (by omega)]
    exact this S (j + 1) (by omega)
  | b :: S, ix + 1, j => by
    show ifb (Nat.beq (j + (ix + 1)) j) x b :: seti (j + (ix + 1)) x (j + 1) S = b :: S.set ix x
    have : Nat.beq (j + (ix + 1)) j = false := by
      cases e : Nat.beq (j + (ix + 1)) j with
      | false => rfl
      | true => have := Nat.eq_of_beq_eq_true e; omega
    rw [this, show j + (ix + 1) = (j + 1) + ix by omega, seti_eq x S ix (j + 1)]
theorem setb0 (x : Bool) (S : List Bool) (ix : Nat) : setb ix x 0 S = S.set ix x := by
  have := setb_eq x S ix 0
  rwa [Nat.zero_add] at this
theorem seti0 (x : Int) (S : List Int) (ix : Nat) : seti ix x 0 S = S.set ix x := by
  have := seti_eq x S ix 0
  rwa [Nat.zero_add] at this
theorem ixA_eq (a b : Nat) : ixA (Int.ofNat a) (Int.ofNat b) = a * 8 + b := by
  show 0 + a * 8 + b * 1 = _; omega
theorem ix1_eq (a : Nat) : ix1 (Int.ofNat a) = a := by
  show 0 + a * 1 = _; omega
theorem acc_eq {a b : Nat} (ha : a < 8) (hb : b < 8) (e : Option (List D)) : acc (Int.ofNat a) (Int.ofNat b) e = e := by
  unfold acc
  rw [ixA_eq, inN, inN, blt_t ha, blt_t hb, ble_t (show a * 8 + b ≤ 63 by omega)]
theorem acc1_eq {a : Nat} (ha : a < 8) (e : Option (List D)) : acc1 (Int.ofNat a) e = e := by
  unfold acc1
  rw [ix1_eq, inN, blt_t ha, ble_t (show a ≤ 7 by omega)]
theorem wrap_sm {n : Int} (h : -1000000 ≤ n) (h2 : n ≤ 1000000) : wrapF .i64 n = n := by
  rw [wrapF_eq]; simp [IntKind.wrap, IntKind.bits, IntKind.signed]; omega
theorem wrap_u8 {n : Int} (h : 0 ≤ n) (h2 : n < 256) : wrapF .u8 n = n := by
  rw [wrapF_eq]; simp [IntKind.wrap, IntKind.bits, IntKind.signed]; omega
theorem one_n {i : Nat} (h : i < 1000000) : one (Int.ofNat i) = Int.ofNat (i + 1) := wrap1 h
theorem tx_eq {m : Nat} (h : m < 8) : tx (Int.ofNat m) = [97 + m] := by
  rcases m with _ | _ | _ | _ | _ | _ | _ | _ | m
  all_goals first | rfl | omega
theorem chkT_eq {m : Nat} (h : m < 8) (e : Option (List D)) : chkT (Int.ofNat m) e = e := by
  rcases m with _ | _ | _ | _ | _ | _ | _ | _ | m
  all_goals first | rfl | omega
/-! the tables -/
def lkD (m : Nat) : List D := [.i I0, .s [116, 97 + m]]
def rowD (L : Nat → List Nat) (i : Nat) : List D := [.s [116, 97 + i], .l [[.s [107], .i (Int.ofNat 2), .b true]], .i I0, .l [], .i I0, .s [], .i I0, .i I0, .i I0, .s [], .l [], .l ((L i).map lkD), .l []]
def lk1 (k : Nat) (xs : List Int) (p : Nat) : List Nat := if p < xs.length then (if (xs.getD p 0 % 12).toNat < k then [(xs.getD p 0 % 12).toNat] else []) else []
def Lk (k : Nat) (xs : List Int) (a : Nat) : List Nat := lk1 k xs (2 * a) ++ lk1 k xs (2 * a + 1)
theorem lk1_lt {k : Nat} {xs : List Int} {p m : Nat} (h : m ∈ lk1 k xs p) : m < k := by
  unfold lk1 at h
  split at h
  · split at h
    · rename_i h2
      rw [List.mem_singleton] at h; omega
    · cases h
  · cases h
theorem Lk_lt {k : Nat} {xs : List Int} {a m : Nat} (h : m ∈ Lk k xs a) : m < k := by
  rcases List.mem_append.1 h with h | h <;> exact lk1_lt h
theorem lk1_len (k : Nat) (xs : List Int) (p : Nat) : (lk1 k xs p).length ≤ 1 := by
  unfold lk1
  split
  · split <;> simp
  · simp
theorem Lk_len (k : Nat) (xs : List Int) (a : Nat) : (Lk k xs a).length ≤ 2 := by
  unfold Lk
  rw [List.length_append]
  have := lk1_len k xs (2 * a)
  have := lk1_len k xs (2 * a + 1)
  omega
theorem rowD_ok {k : Nat} (L : Nat → List Nat) : RowOk L (rowD L) lkD k :=
  ⟨fun i _ => rfl, fun i _ => rfl, fun m => rfl⟩
/-- some truths set in a line -/
def setA (S : List Bool) (i : Nat) (l : List Nat) : List Bool := l.foldl (fun S m => S.set (i * 8 + m) true) S
theorem setA_len (i : Nat) : ∀ (l : List Nat) (S : List Bool), (setA S i l).length = S.length
  | [], S => rfl
  | m :: l, S => by
    show (setA (S.set (i * 8 + m) true) i l).length = _
    rw [setA_len i l, List.length_set]
theorem setA_at {i : Nat} (hi : i < 8) : ∀ (l : List Nat) (S : List Bool), S.length = 64 → (∀ m ∈ l, m < 8) → ∀ a b, a < 8 → b < 8 → (Ord.at8 (setA S i l) a b = true ↔ (Ord.at8 S a b = true ∨ (a = i ∧ b ∈ l)))
  | [], S, _, _, a, b, _, _ => by
    show Ord.at8 S a b = true ↔ _
    constructor
    · exact .inl
    · rintro (h | ⟨_, h⟩)
      · exact h
      · cases h
  | m :: l, S, hS, hl, a, b, ha, hb => by
    show Ord.at8 (setA (S.set (i * 8 + m) true) i l) a b = true ↔ _
    rw [setA_at hi l _ (by rw [List.length_set]; exact hS) (fun x hx => hl x (.tail _ hx)) a b ha hb, Ord.at8_set hS hi (hl m (.head _)) ha hb]
    by_cases e : a = i ∧ b = m
    · rw [if_pos e]
      constructor
      · intro _; exact .inr ⟨e.1, by rw [e.2]; exact .head _⟩
      · intro _; exact .inl rfl
    · rw [if_neg e]
      constructor
      · rintro (h | ⟨h1, h2⟩)
        · exact .inl h
        · exact .inr ⟨h1, .tail _ h2⟩
      · rintro (h | ⟨h1, h2⟩)
        · exact .inl h
        · rcases List.mem_cons.1 h2 with h2 | h2
          · exact absurd ⟨h1, h2⟩ e
          · exact .inr ⟨h1, h2⟩
section
variable {preK : List DV → Bool} {fK : List DV → List D} {wOk : Int → Int → Bool} {wI : Int → Int → Int}
structure FactsO (preK : List DV → Bool) (fK : List DV → List D) (wOk : Int → Int → Bool) (wI : Int → Int → Int) : Prop where
  k : preK [] = true ∧ (hdD (fK [])).bool = true
  w : ∀ n : Int, inI64 n → wOk n (Int.ofNat 7) = true ∧ wI n (Int.ofNat 7) = n % 7
  w12 : ∀ n : Int, inI64 n → wOk n (Int.ofNat 12) = true ∧ wI n (Int.ofNat 12) = n % 12
theorem mod_nat (x : Int) (m : Int) (h : 0 < m) : x % m = Int.ofNat (x % m).toNat := by
  have := Int.emod_nonneg x (b := m) (by omega)
  show x % m = ((x % m).toNat : Int)
  omega
/-- a link, of a number -/
def linkX (wOk : Int → Int → Bool) (wI : Int → Int → Int) (x k i : Int) (S : List Bool) (lk : List (List D)) (go : List Bool → List (List D) → Option (List D)) : Option (List D) :=
  ifb (wOk x (Int.ofNat 12)) (ifb (ltI (wI x (Int.ofNat 12)) k) (chkT (wI x (Int.ofNat 12)) (ifb (fitsA (Nat.succ lk.length) 24) (acc i (wI x (Int.ofNat 12)) (go (setb (ixA i (wI x (Int.ofNat 12))) true 0 S) (lk ++ [lkT (wI x (Int.ofNat 12))]))) none)) (go S lk)) none
def linkP (wOk : Int → Int → Bool) (wI : Int → Int → Int) (ls : List (List D)) (k i : Int) (S : List Bool) (lk : List (List D)) (go : List Bool → List (List D) → Option (List D)) (p : Int) : Option (List D) :=
  ifb (ltI p (Int.ofNat ls.length)) (ifb (inR p ls.length) (linkX wOk wI (D.int (List.getD (List.getD ls (toN p) []) 0 (.i I0))) k i S lk go) none) (go S lk)
theorem linkAt_p (ls : List (List D)) (k i c : Int) (S : List Bool) (lk : List (List D)) (go : List Bool → List (List D) → Option (List D)) :
    linkAt wOk wI ls k i c S lk go = linkP wOk wI ls k i S lk go (wrapF .i64 (addI (wrapF .i64 (Int.ofNat 2 * i)) c)) := rfl
theorem linkX_eq (F : FactsO preK fK wOk wI) {x : Int} (hx : inI64 x) {k i : Nat} (hk : k ≤ 8) (hi : i < 8) (S : List Bool) (lk : List Nat) (hl : lk.length ≤ 1) (go : List Bool → List (List D) → Option (List D)) :
    linkX wOk wI x (Int.ofNat k) (Int.ofNat i) S (lk.map lkD) go = if (x % 12).toNat < k then go (S.set (i * 8 + (x % 12).toNat) true) ((lk ++ [(x % 12).toNat]).map lkD) else go S (lk.map lkD) := by
  obtain ⟨w1, w2⟩ := F.w12 _ hx
  unfold linkX
  rw [w1, w2, mod_nat x 12 (by omega)]
  have e : (Int.ofNat (x % 12).toNat).toNat = (x % 12).toNat := rfl
  rw [e]
  generalize (x % 12).toNat = m
  rw [ltN, ifb_true]
  by_cases hmk : m < k
  · rw [blt_t hmk, if_pos hmk, chkT_eq (by omega), fits_sm (by simp only [List.length_map, Nat.succ_eq_add_one]; omega) (by omega), ifb_true, ifb_true, acc_eq hi (by omega), ixA_eq, setb0]
    have : lkT (Int.ofNat m) = lkD m := by
      unfold lkT
      rw [tx_eq (by omega)]; rfl
    rw [this, List.map_append]; rfl
  · rw [blt_f (by omega), if_neg hmk, ifb_false]
theorem link_eq (F : FactsO preK fK wOk wI) {xs : List Int} (hx : ∀ x ∈ xs, inI64 x) {k i c : Nat} (hk : k ≤ 8) (hi : i < 8) (hc : c < 2) (S : List Bool) (lk : List Nat) (hl : lk.length ≤ 1) (go : List Bool → List (List D) → Option (List D)) :
    linkAt wOk wI (xs.map fun x => [.i x]) (Int.ofNat k) (Int.ofNat i) (Int.ofNat c) S (lk.map lkD) go = go (setA S i (lk1 k xs (2 * i + c))) ((lk ++ lk1 k xs (2 * i + c)).map lkD) := by
  have hp : wrapF .i64 (addI (wrapF .i64 (Int.ofNat 2 * Int.ofNat i)) (Int.ofNat c)) = Int.ofNat (2 * i + c) := by
    rw [addI_eq, wrap_sm (n := Int.ofNat 2 * Int.ofNat i), wrap_sm] <;> simp only [Int.ofNat_eq_natCast] <;> omega
  rw [linkAt_p, hp]
  unfold linkP lk1
  rw [List.length_map, toN_nat, ltN, inN]
  by_cases h : 2 * i + c < xs.length
  · rw [blt_t h, if_pos h, ifb_true, ifb_true]
    have hg : D.int (List.getD (List.getD (xs.map fun x => [D.i x]) (2 * i + c) []) 0 (.i I0)) = xs.getD (2 * i + c) 0 := by
      rw [List.getD_eq_getElem?_getD (l := xs.map _), List.getElem?_map, List.getElem?_eq_getElem h, List.getD_eq_getElem?_getD (l := xs), List.getElem?_eq_getElem h]; rfl
    have hm : xs.getD (2 * i + c) 0 ∈ xs := by
      rw [List.getD_eq_getElem?_getD, List.getElem?_eq_getElem h]; exact List.getElem_mem h
    rw [hg, linkX_eq F (hx _ hm) hk hi S lk hl]
    split
    · rfl
    · rw [List.append_nil]; rfl
  · rw [blt_f (by omega), if_neg h, List.append_nil, ifb_false]; rfl
/-- so far -/
structure TabS (L : Nat → List Nat) (i : Nat) (S : List Bool) : Prop where
  len : S.length = 64
  at8 : ∀ a b, a < 8 → b < 8 → (Ord.at8 S a b = true ↔ (a < i ∧ b ∈ L a))
def finT (rec : List D → Option (List D)) (i : Int) (rows : List (List D)) (S : List Bool) (lk : List (List D)) : Option (List D) :=
  ifb (fitsA (Nat.succ rows.length) 208) (rec (.i (one i) :: (bD S ++ [.l (rows ++ [rowT i lk])]))) none
def stepTX (wOk : Int → Int → Bool) (wI : Int → Int → Int) (N : Nat) (ls : List (List D)) (k : Int) (rec : List D → Option (List D)) (i : Int) (S : List Bool) (rows : List (List D)) : Option (List D) :=
  ifb (ltI i k) (chkT i (linkAt wOk wI ls k i I0 S [] fun S lk => linkAt wOk wI ls k i (one I0) S lk (finT rec i rows)))
    (loopK (stepM ordPre ordF N k rows) N (.i I0 :: (bD S ++ zD)))
theorem stepT_x (N : Nat) (ls : List (List D)) (k : Int) (rec : List D → Option (List D)) (v : List D) :
    stepT ordPre ordF wOk wI N ls k rec v = stepTX wOk wI N ls k rec (hdD v).int (bsL 64 v.tail) (hdD (tl 65 v)).rows := by kernel_rfl
theorem tab_loop (F : FactsO preK fK wOk wI) {xs : List Int} (hx : ∀ x ∈ xs, inI64 x) {k N : Nat} (hk : k ≤ 7) : ∀ (n i : Nat) (S : List Bool), i ≤ k → k < n + i → TabS (Lk k xs) i S →
    ∃ S', TabS (Lk k xs) k S' ∧ loopK (stepT ordPre ordF wOk wI N (xs.map fun x => [.i x]) (Int.ofNat k)) n (.i (Int.ofNat i) :: (bD S ++ [.l ((List.range i).map (rowD (Lk k xs)))])) =
      loopK (stepM ordPre ordF N (Int.ofNat k) ((List.range k).map (rowD (Lk k xs)))) N (.i I0 :: (bD S' ++ zD)) := by
  intro n
  induction n with
  | zero => intro i S h1 h2; omega
  | succ n ih =>
    intro i S h1 h2 hS
    rw [loopK_s]
    have ih' := ih (i + 1)
    generalize loopK (stepT ordPre ordF wOk wI N (xs.map fun x => [.i x]) (Int.ofNat k)) n = K at ih' ⊢
    have e1 : (hdD (D.i (Int.ofNat i) :: (bD S ++ [.l ((List.range i).map (rowD (Lk k xs)))]))).int = Int.ofNat i := rfl
    have e2 : bsL 64 (D.i (Int.ofNat i) :: (bD S ++ [.l ((List.range i).map (rowD (Lk k xs)))])).tail = S := by
      rw [List.tail_cons]; exact bsL_eq S _ 64 hS.len
    have e3 : (hdD (tl 65 (D.i (Int.ofNat i) :: (bD S ++ [.l ((List.range i).map (rowD (Lk k xs)))])))).rows = (List.range i).map (rowD (Lk k xs)) := by
      rw [tl_cons, tl_bD S _ 64 hS.len, hdD_cons]
    rw [stepT_x, e1, e2, e3]
    unfold stepTX
    rw [ltN]
    by_cases hi : i < k
    · have hi8 : i < 8 := by omega
      rw [blt_t hi, ifb_true, chkT_eq hi8, show one I0 = Int.ofNat 1 from wrap1 (i := 0) (by omega), show I0 = Int.ofNat 0 from rfl, show ([] : List (List D)) = [].map lkD from rfl]
      have hlk : ([] ++ lk1 k xs (2 * i + 0)).length ≤ 1 := by rw [List.nil_append]; exact lk1_len _ _ _
      rw [link_eq F hx (by omega) hi8 (by omega) S [] (by simp)]
      rw [link_eq F hx (by omega) hi8 (by omega) _ _ hlk]
      unfold finT
      rw [fits_sm (by simp only [List.length_map, List.length_range, Nat.succ_eq_add_one]; omega) (by omega), ifb_true, one_n (by omega)]
      have hr : (List.range i).map (rowD (Lk k xs)) ++ [rowT (Int.ofNat i) (([] ++ lk1 k xs (2 * i + 0) ++ lk1 k xs (2 * i + 1)).map lkD)] = (List.range (i + 1)).map (rowD (Lk k xs)) := by
        have e : rowT (Int.ofNat i) (([] ++ lk1 k xs (2 * i + 0) ++ lk1 k xs (2 * i + 1)).map lkD) = rowD (Lk k xs) i := by
          unfold rowT rowD
          rw [tx_eq hi8]; rfl
        rw [e, List.range_succ, List.map_append (l₁ := List.range i)]; rfl
      rw [hr]
      refine ih' _ hi (by omega) ⟨by rw [setA_len, setA_len]; exact hS.len, fun a b ha hb => ?_⟩
      have hm : ∀ p m, m ∈ lk1 k xs p → m < 8 := fun p m hm => by have := lk1_lt hm; omega
      rw [setA_at hi8 _ _ (by rw [setA_len]; exact hS.len) (hm _) a b ha hb, setA_at hi8 _ _ hS.len (hm _) a b ha hb, hS.at8 a b ha hb]
      constructor
      · rintro ((⟨h1, h2⟩ | ⟨h1, h2⟩) | ⟨h1, h2⟩)
        · exact ⟨by omega, h2⟩
        · subst h1; exact ⟨by omega, List.mem_append.2 (.inl h2)⟩
        · subst h1; exact ⟨by omega, List.mem_append.2 (.inr h2)⟩
      · rintro ⟨h1, h4⟩
        by_cases e : a = i
        · subst e
          rcases List.mem_append.1 h4 with h4 | h4
          · exact .inl (.inr ⟨rfl, h4⟩)
          · exact .inr ⟨rfl, h4⟩
        · exact .inl (.inl ⟨by omega, h4⟩)
    · have : i = k := by omega
      subst this
      rw [blt_f (Nat.le_refl _), ifb_false]
      exact ⟨S, hS, rfl⟩
/-! all ways -/
theorem loopJ {L : Nat → List Nat} {k m i : Nat} (hk : k ≤ 8) (hm : m < k) (hi : i < k) (recI : List D → Option (List D)) : ∀ (n j : Nat) (S : List Bool), j ≤ k → k < n + j → Ord.FW L k m i j S →
    ∃ S', Ord.FW L k m i k S' ∧ loopK (stepJ (Int.ofNat k) (Int.ofNat m) (Int.ofNat i) recI) n (.i (Int.ofNat j) :: (bD S ++ zD)) = recI (.i (Int.ofNat (i + 1)) :: (bD S' ++ zD)) := by
  intro n
  induction n with
  | zero => intro j S h1 h2; omega
  | succ n ih =>
    intro j S h1 h2 hS
    show ∃ S', _ ∧ stepJ (Int.ofNat k) (Int.ofNat m) (Int.ofNat i) recI (loopK (stepJ (Int.ofNat k) (Int.ofNat m) (Int.ofNat i) recI) n) (.i (Int.ofNat j) :: (bD S ++ zD)) = _
    have ih' := ih (j + 1)
    generalize loopK (stepJ (Int.ofNat k) (Int.ofNat m) (Int.ofNat i) recI) n = K at ih' ⊢
    unfold stepJ
    have e1 : (hdD (D.i (Int.ofNat j) :: (bD S ++ zD))).int = Int.ofNat j := rfl
    have e2 : bsL 64 (D.i (Int.ofNat j) :: (bD S ++ zD)).tail = S := by
      rw [List.tail_cons]; exact bsL_eq S _ 64 hS.len
    simp only [e1, e2]
    rw [ltN]
    by_cases hj : j < k
    · rw [blt_t hj]
      simp only [acc_eq (show i < 8 by omega) (show j < 8 by omega), acc_eq (show i < 8 by omega) (show m < 8 by omega), acc_eq (show m < 8 by omega) (show j < 8 by omega), ixA_eq, setb0, one_n (show j < 1000000 by omega)]
      have hv : (ifb (ifb (S.getD (i * 8 + j) false) false true) (ifb (S.getD (i * 8 + m) false) (K (.i (Int.ofNat (j + 1)) :: (bD (S.set (i * 8 + j) (S.getD (m * 8 + j) false)) ++ zD))) (K (.i (Int.ofNat (j + 1)) :: (bD (S.set (i * 8 + j) false) ++ zD)))) (K (.i (Int.ofNat (j + 1)) :: (bD (S.set (i * 8 + j) true) ++ zD)))) = K (.i (Int.ofNat (j + 1)) :: (bD (S.set (i * 8 + j) (Ord.fwV S m i j)) ++ zD)) := by
        unfold Ord.fwV Ord.at8
        cases S.getD (i * 8 + j) false <;> cases S.getD (i * 8 + m) false <;> rfl
      show ∃ S', _ ∧ (ifb (ifb (S.getD (i * 8 + j) false) false true) (ifb (S.getD (i * 8 + m) false) (K (.i (Int.ofNat (j + 1)) :: (bD (S.set (i * 8 + j) (S.getD (m * 8 + j) false)) ++ zD))) (K (.i (Int.ofNat (j + 1)) :: (bD (S.set (i * 8 + j) false) ++ zD)))) (K (.i (Int.ofNat (j + 1)) :: (bD (S.set (i * 8 + j) true) ++ zD)))) = _
      rw [hv]
      exact ih' _ hj (by omega) (hS.step hk hm hi hj)
    · have : j = k := by omega
      subst this
      rw [blt_f (Nat.le_refl _), ifb_false, one_n (by omega)]
      exact ⟨S, hS, rfl⟩
theorem loopI {L : Nat → List Nat} {k m N : Nat} (hk : k ≤ 8) (hm : m < k) (hN : 8 < N) (recM : List D → Option (List D)) : ∀ (n i : Nat) (S : List Bool), i ≤ k → k < n + i → Ord.FW L k m i 0 S →
    ∃ S', Ord.FW L k m k 0 S' ∧ loopK (stepI N (Int.ofNat k) (Int.ofNat m) recM) n (.i (Int.ofNat i) :: (bD S ++ zD)) = recM (.i (Int.ofNat (m + 1)) :: (bD S' ++ zD)) := by
  intro n
  induction n with
  | zero => intro i S h1 h2; omega
  | succ n ih =>
    intro i S h1 h2 hS
    show ∃ S', _ ∧ stepI N (Int.ofNat k) (Int.ofNat m) recM (loopK (stepI N (Int.ofNat k) (Int.ofNat m) recM) n) (.i (Int.ofNat i) :: (bD S ++ zD)) = _
    have ih' := ih (i + 1)
    generalize loopK (stepI N (Int.ofNat k) (Int.ofNat m) recM) n = K at ih' ⊢
    unfold stepI
    have e1 : (hdD (D.i (Int.ofNat i) :: (bD S ++ zD))).int = Int.ofNat i := rfl
    have e2 : bsL 64 (D.i (Int.ofNat i) :: (bD S ++ zD)).tail = S := by
      rw [List.tail_cons]; exact bsL_eq S _ 64 hS.len
    simp only [e1, e2]
    rw [ltN]
    by_cases hi : i < k
    · rw [blt_t hi]
      obtain ⟨S1, h3, h4⟩ := loopJ hk hm hi K N 0 S (by omega) (by omega) hS
      obtain ⟨S2, h5, h6⟩ := ih' S1 hi (by omega) h3.line
      exact ⟨S2, h5, h4.trans h6⟩
    · have : i = k := by omega
      subst this
      rw [blt_f (by omega), one_n (by omega)]
      exact ⟨S, hS, rfl⟩
theorem loopM {L : Nat → List Nat} {k N : Nat} (hk : k ≤ 8) (hN : 8 < N) (rows : List (List D)) : ∀ (n m : Nat) (S : List Bool), m ≤ k → k < n + m → Ord.FW L k m 0 0 S →
    ∃ S', Ord.FW L k k 0 0 S' ∧ loopK (stepM ordPre ordF N (Int.ofNat k) rows) n (.i (Int.ofNat m) :: (bD S ++ zD)) = lastK ordPre ordF N (Int.ofNat k) S' rows := by
  intro n
  induction n with
  | zero => intro i S h1 h2; omega
  | succ n ih =>
    intro m S h1 h2 hS
    show ∃ S', _ ∧ stepM ordPre ordF N (Int.ofNat k) rows (loopK (stepM ordPre ordF N (Int.ofNat k) rows) n) (.i (Int.ofNat m) :: (bD S ++ zD)) = _
    have ih' := ih (m + 1)
    generalize loopK (stepM ordPre ordF N (Int.ofNat k) rows) n = K at ih' ⊢
    unfold stepM
    have e1 : (hdD (D.i (Int.ofNat m) :: (bD S ++ zD))).int = Int.ofNat m := rfl
    have e2 : bsL 64 (D.i (Int.ofNat m) :: (bD S ++ zD)).tail = S := by
      rw [List.tail_cons]; exact bsL_eq S _ 64 hS.len
    simp only [e1, e2]
    rw [ltN]
    by_cases hm : m < k
    · rw [blt_t hm]
      obtain ⟨S1, h3, h4⟩ := loopI hk hm hN K N 0 S (by omega) (by omega) hS
      obtain ⟨S2, h5, h6⟩ := ih' S1 hm (by omega) h3.turn
      exact ⟨S2, h5, h4.trans h6⟩
    · have : m = k := by omega
      subst this
      rw [blt_f (by omega)]
      exact ⟨S, hS, rfl⟩
end
end Go.Sy


open Go Go.Av Go.Sy Go.Proofs
set_option maxRecDepth 1000000
set_option linter.all false
noncomputable section
namespace Go.Ord
variable {L : Nat → List Nat}
theorem ordN_mem : ∀ (n : Nat) (left o : List Nat), left.length = n → ∀ x ∈ ordN L n left o, x ∈ left ∨ x ∈ o
  | 0, left, o, _, x, hx => .inr hx
  | n + 1, left, o, hl, x, hx => by
    have hne : left ≠ [] := fun e => by rw [e] at hl; cases hl
    have hp := Sy.fpN_lt (L := L) o left hne
    have hm : left.getD (fpN L o left 0) 0 ∈ left := by
      rw [List.getD_eq_getElem?_getD, List.getElem?_eq_getElem hp]; exact List.getElem_mem hp
    rcases ordN_mem n _ _ (by rw [List.length_eraseIdx, if_pos hp]; omega) x hx with h | h
    · exact .inl (List.mem_of_mem_eraseIdx h)
    · rcases List.mem_append.1 h with h | h
      · exact .inr h
      · rw [List.mem_singleton] at h; subst h; exact .inl hm
theorem ordN_len : ∀ (n : Nat) (left o : List Nat), (ordN L n left o).length = o.length + n
  | 0, left, o => rfl
  | n + 1, left, o => by
    show (ordN L n _ (o ++ [left.getD (fpN L o left 0) 0])).length = _
    rw [ordN_len n, List.length_append]
    show o.length + 1 + n = _
    omega
end Go.Ord
namespace Go.Sy
/-- an order: all stand, each once, those that are free behind all that they lead to -/
structure OrdOk (L : Nat → List Nat) (k : Nat) (o : List Nat) : Prop where
  len : o.length = k
  lt : ∀ x ∈ o, x < k
  nd : o.Nodup
  cov : ∀ x, x < k → x ∈ o
  good : Ord.Good L o
theorem ord_good {L : Nat → List Nat} {k : Nat} (hb : ∀ i, i < k → ∀ m ∈ L i, m < k) : OrdOk L k (Ord.ordN L k (List.range k) []) := by
  have s := Ord.ordN_ok (L := L) k (List.range k) [] List.length_range (Ord.start_ok hb)
  refine ⟨by rw [Ord.ordN_len]; simp, fun x hx => ?_, ?_, fun x hx => ?_, s.good⟩
  · rcases Ord.ordN_mem k _ _ List.length_range x hx with h | h
    · exact List.mem_range.1 h
    · cases h
  · have := s.nd
    rwa [List.nil_append] at this
  · rcases s.cov x hx with h | h
    · cases h
    · exact h
section
/-! ### The last loops -/
/-- the first: no place is known -/
theorem loop10 {k N : Nat} (hk : k ≤ 7) (S : List Bool) (o : List (List D)) : ∀ (n i : Nat) (A : List Int), i ≤ k → k < n + i → A.length = 8 → (∀ x, x < i → A.getD x 0 = -1) →
    ∃ A', A'.length = 8 ∧ (∀ x, x < k → A'.getD x 0 = -1) ∧ loopK (step10 N (Int.ofNat k) S o) n (.i (Int.ofNat i) :: (iD A ++ zD)) = loopK (step12 N (Int.ofNat k) S o) N (.b false :: .i I0 :: (iD A' ++ zD)) := by
  intro n
  induction n with
  | zero => intro i A h1 h2; omega
  | succ n ih =>
    intro i A h1 h2 hA hv
    rw [loopK_s]
    have ih' := ih (i + 1)
    generalize loopK (step10 N (Int.ofNat k) S o) n = K at ih' ⊢
    unfold step10
    have e1 : (hdD (D.i (Int.ofNat i) :: (iD A ++ zD))).int = Int.ofNat i := rfl
    have e2 : isL 8 (D.i (Int.ofNat i) :: (iD A ++ zD)).tail = A := by
      rw [List.tail_cons]; exact isL_eq A _ 8 hA
    simp only [e1, e2]
    rw [ltN]
    by_cases hi : i < k
    · rw [blt_t hi, ifb_true, acc1_eq (by omega), ix1_eq, seti0, one_n (by omega)]
      refine ih' _ hi (by omega) (by rw [List.length_set]; exact hA) fun x hx => ?_
      rw [List.getD_eq_getElem?_getD, List.getElem?_set]
      by_cases e : i = x
      · rw [if_pos e, if_pos (by omega)]; rfl
      · rw [if_neg e, ← List.getD_eq_getElem?_getD]
        exact hv x (by omega)
    · have : i = k := by omega
      subst this
      rw [blt_f (Nat.le_refl _), ifb_false]
      exact ⟨A, hA, hv, rfl⟩
/-- places that are known of an order's first ones -/
structure AtS (k : Nat) (o : List Nat) (i : Nat) (A : List Int) : Prop where
  len : A.length = 8
  is : ∀ b x, b < i → o[b]? = some x → A.getD x 0 = Int.ofNat b
  no : ∀ x, x < k → x ∉ o.take i → A.getD x 0 = -1
def at2 (o : List (List D)) (i : Int) : Int := Int.ofNat ((gS (rw_ o i) 0).getD (toN (Int.ofNat 1)) 0)
def ch2 (o : List (List D)) (i : Int) (e : Option (List D)) : Option (List D) := ifb (inR i o.length) (ifb (inR (Int.ofNat 1) (lenR (gS (rw_ o i) 0))) e none) none
def step12X (N : Nat) (k : Int) (S : List Bool) (o : List (List D)) (rec : List D → Option (List D)) (r : Bool) (i : Int) (A : List Int) (c x : Int) : Option (List D) :=
  ifb (ltI i (Int.ofNat o.length)) (ifb (inR i o.length) (ifb (ifb (ifb (eqI (Int.ofNat (lenR (gS (rw_ o i) 0))) (Int.ofNat 2)) false true) false true)
    (ch2 o i (ifb (ifb (ltI c (Int.ofNat 97)) false true)
      (ch2 o i (ifb (ifb (ifb (ltI x k) false true) false true)
        (ch2 o i (acc1 x (ifb (ifb (ltI (A.getD (ix1 x) I0) I0) false true) (some [.b false]) (ch2 o i (acc1 x (rec (.b r :: .i (one i) :: (iD (seti (ix1 x) i 0 A) ++ zD))))))))
        (some [.b false])))
      (some [.b false])))
    (some [.b false])) none)
    (loopK (step14 N k o) N (.b r :: .i I0 :: (bD S ++ (iD A ++ zD))))
theorem step12_x (N : Nat) (k : Int) (S : List Bool) (o : List (List D)) (rec : List D → Option (List D)) (v : List D) :
    step12 N k S o rec v = step12X N k S o rec (hdD v).bool (v1 v) (isL 8 v.tail.tail) (at2 o (v1 v)) (wrapF .i64 (wrapF .u8 (subI (at2 o (v1 v)) (Int.ofNat 97)))) := by kernel_rfl
theorem ch2_eq {o : List Nat} {i : Nat} (hi : i < o.length) (e : Option (List D)) : ch2 (o.map nmD) (Int.ofNat i) e = e := by
  unfold ch2
  have hg : gS (rw_ (o.map nmD) (Int.ofNat i)) 0 = nm (o.getD i 0) := by
    rw [rw_nat, List.getD_eq_getElem?_getD, List.getElem?_map, List.getElem?_eq_getElem hi, List.getD_eq_getElem?_getD, List.getElem?_eq_getElem hi]; rfl
  rw [hg, inN, List.length_map, blt_t hi]; rfl
theorem loop12 {L : Nat → List Nat} {k N : Nat} (hk : k ≤ 7) (S : List Bool) {o : List Nat} (O : OrdOk L k o) (r : Bool) : ∀ (n i : Nat) (A : List Int), i ≤ k → k < n + i → AtS k o i A →
    ∃ A', AtS k o k A' ∧ loopK (step12 N (Int.ofNat k) S (o.map nmD)) n (.b r :: .i (Int.ofNat i) :: (iD A ++ zD)) = loopK (step14 N (Int.ofNat k) (o.map nmD)) N (.b r :: .i I0 :: (bD S ++ (iD A' ++ zD))) := by
  intro n
  induction n with
  | zero => intro i A h1 h2; omega
  | succ n ih =>
    intro i A h1 h2 hA
    rw [loopK_s]
    have ih' := ih (i + 1)
    generalize loopK (step12 N (Int.ofNat k) S (o.map nmD)) n = K at ih' ⊢
    have e1 : v1 (D.b r :: .i (Int.ofNat i) :: (iD A ++ zD)) = Int.ofNat i := rfl
    have e2 : isL 8 (D.b r :: .i (Int.ofNat i) :: (iD A ++ zD)).tail.tail = A := by
      rw [List.tail_cons, List.tail_cons]; exact isL_eq A _ 8 hA.len
    have e3 : (hdD (D.b r :: .i (Int.ofNat i) :: (iD A ++ zD))).bool = r := rfl
    rw [step12_x, e1, e2, e3]
    unfold step12X
    rw [ltN, List.length_map, O.len, inN]
    by_cases hi : i < k
    · have hio : i < o.length := by rw [O.len]; exact hi
      have hg : gS (rw_ (o.map nmD) (Int.ofNat i)) 0 = nm (o.getD i 0) := by
        rw [rw_nat, List.getD_eq_getElem?_getD, List.getElem?_map, List.getElem?_eq_getElem hio, List.getD_eq_getElem?_getD, List.getElem?_eq_getElem hio]; rfl
      have ho : o[i]? = some (o.getD i 0) := by rw [List.getD_eq_getElem?_getD, List.getElem?_eq_getElem hio]; rfl
      have hm : o.getD i 0 ∈ o := List.mem_iff_getElem?.2 ⟨i, ho⟩
      have hx := O.lt _ hm
      have ha : at2 (o.map nmD) (Int.ofNat i) = Int.ofNat (97 + o.getD i 0) := by unfold at2; rw [hg]; rfl
      have hn : o.getD i 0 ∉ o.take i := by
        intro h
        obtain ⟨b, hb⟩ := List.mem_iff_getElem?.1 h
        rw [List.getElem?_take] at hb
        split at hb
        · rename_i hbi
          obtain ⟨hb1, hb2⟩ := List.getElem?_eq_some_iff.1 hb
          obtain ⟨hi1, hi2⟩ := List.getElem?_eq_some_iff.1 ho
          have := (List.nodup_iff_pairwise_ne.1 O.nd)
          exact (List.pairwise_iff_getElem.1 O.nd) b i hb1 hi1 hbi (hb2.trans hi2.symm)
        · cases hb
      rw [ha]
      generalize o.getD i 0 = x at hg ho hm hx ha hn
      have hw : wrapF .i64 (wrapF .u8 (subI (Int.ofNat (97 + x)) (Int.ofNat 97))) = Int.ofNat x := by
        rw [subI_eq, wrap_u8, wrap_sm] <;> simp only [Int.ofNat_eq_natCast] <;> omega
      rw [hw]
      simp only [ch2_eq hio]
      rw [hg, blt_t hi, show eqI (Int.ofNat (lenR (nm x))) (Int.ofNat 2) = true from rfl, ltN (97 + x) 97, blt_f (show 97 ≤ 97 + x by omega), ltN x k, blt_t hx]
      rw [acc1_eq (by omega), acc1_eq (by omega), ix1_eq, show I0 = (0 : Int) from rfl, hA.no x hx hn, seti0, one_n (by omega)]
      show ∃ A', _ ∧ K (.b r :: .i (Int.ofNat (i + 1)) :: (iD (A.set x (Int.ofNat i)) ++ zD)) = _
      refine ih' _ hi (by omega) ⟨by rw [List.length_set]; exact hA.len, fun b y hb hy => ?_, fun y hy hn' => ?_⟩
      · rw [List.getD_eq_getElem?_getD, List.getElem?_set]
        by_cases e : x = y
        · subst e
          rw [if_pos rfl, if_pos (by rw [hA.len]; omega)]
          have : b = i := by
            obtain ⟨hb1, hb2⟩ := List.getElem?_eq_some_iff.1 hy
            obtain ⟨hi1, hi2⟩ := List.getElem?_eq_some_iff.1 ho
            by_cases e : b = i
            · exact e
            · exact absurd (hb2.trans hi2.symm) ((List.pairwise_iff_getElem.1 O.nd) b i hb1 hi1 (by omega))
          rw [this]; rfl
        · rw [if_neg e, ← List.getD_eq_getElem?_getD]
          refine hA.is b y ?_ hy
          by_cases hbi : b = i
          · subst hbi
            rw [ho] at hy
            exact absurd (Option.some.inj hy) e
          · omega
      · rw [List.take_succ, ho] at hn'
        have h1 : y ∉ o.take i ∧ y ≠ x := by simpa using hn'
        rw [List.getD_eq_getElem?_getD, List.getElem?_set, if_neg (fun e => h1.2 e.symm), ← List.getD_eq_getElem?_getD]
        exact hA.no y hy h1.1
    · have : i = k := by omega
      subst this
      rw [blt_f (Nat.le_refl _), ifb_false]
      exact ⟨A, hA, rfl⟩
end
end Go.Sy


open Go Go.Av Go.Sy Go.Proofs
set_option maxRecDepth 1000000
set_option linter.all false
noncomputable section
namespace Go.Sy
section
variable {L : Nat → List Nat} {k N : Nat} {S : List Bool} {o : List Nat} {A : List Int}
/-- what is known ahead of the last loops -/
theorem R_lt {L : Nat → List Nat} {k : Nat} (hb : ∀ i, i < k → ∀ m ∈ L i, m < k) {i j : Nat} (h : Ord.R L i j) : i < k → j < k := by
  induction h with
  | one h => exact fun hi => hb _ hi _ h
  | more h _ ih => exact fun hi => ih (hb _ hi _ h)
structure LastS (L : Nat → List Nat) (k : Nat) (S : List Bool) (o : List Nat) (A : List Int) : Prop where
  hk : k ≤ 7
  ord : OrdOk L k o
  sl : S.length = 64
  ways : ∀ a b, a < k → b < k → (Ord.at8 S a b = true ↔ Ord.R L a b)
  ats : AtS k o k A
  bd : ∀ i, i < k → ∀ m ∈ L i, m < k
theorem LastS.at (H : LastS L k S o A) {x : Nat} (hx : x < k) : ∃ b, b < k ∧ o[b]? = some x ∧ A.getD x 0 = Int.ofNat b := by
  obtain ⟨b, hb⟩ := List.mem_iff_getElem?.1 (H.ord.cov x hx)
  have hbl : b < k := by have := (List.getElem?_eq_some_iff.1 hb).1; rw [H.ord.len] at this; exact this
  exact ⟨b, hbl, hb, H.ats.is b x hbl hb⟩
theorem read2 (hS : S.length = 64) (hA : A.length = 8) (a b : D) : bsL 64 (a :: b :: (bD S ++ (iD A ++ zD))).tail.tail = S ∧ isL 8 (tl 66 (a :: b :: (bD S ++ (iD A ++ zD)))) = A := by
  refine ⟨?_, ?_⟩
  · rw [List.tail_cons, List.tail_cons]; exact bsL_eq S _ 64 hS
  · rw [tl_cons, tl_cons, tl_bD S _ 64 hS]; exact isL_eq A _ 8 hA
def step18X (k i : Int) (free : Bool) (recO rec : List D → Option (List D)) (r : Bool) (j : Int) (S : List Bool) (A : List Int) : Option (List D) :=
  ifb (ltI j k) (acc i j (ifb (S.getD (ixA i j) false) (ifb (ifb (eqI j i) false true) (ifb free (acc j i (ifb (ifb (S.getD (ixA j i) false) false true)
    (acc1 j (acc1 i (ifb (ifb (ltI (A.getD (ix1 i) I0) (A.getD (ix1 j) I0)) false true) (rec (.b r :: .i (one j) :: (bD S ++ (iD A ++ zD)))) (some [.b false])))) (rec (.b r :: .i (one j) :: (bD S ++ (iD A ++ zD)))))) (rec (.b r :: .i (one j) :: (bD S ++ (iD A ++ zD))))) (rec (.b r :: .i (one j) :: (bD S ++ (iD A ++ zD))))) (rec (.b r :: .i (one j) :: (bD S ++ (iD A ++ zD))))))
    (recO (.b r :: .i (one i) :: (bD S ++ (iD A ++ zD))))
theorem step18_x (k i : Int) (free : Bool) (recO rec : List D → Option (List D)) (v : List D) :
    step18 k i free recO rec v = step18X k i free recO rec (hdD v).bool (v1 v) (bsL 64 v.tail.tail) (isL 8 (tl 66 v)) := by
  unfold step18 step18X
  generalize isL 8 (tl 66 v) = A
  generalize bsL 64 v.tail.tail = S
  simp only []
  cases ltI (A.getD (ix1 i) I0) (A.getD (ix1 (v1 v)) I0)
  · rfl
  · rfl
theorem loop18 (H : LastS L k S o A) {i : Nat} (hi : i < k) {free : Bool} (hf : free = true → Ord.Free L i) (recO : List D → Option (List D)) (r : Bool) : ∀ (n j : Nat), j ≤ k → k < n + j →
    loopK (step18 (Int.ofNat k) (Int.ofNat i) free recO) n (.b r :: .i (Int.ofNat j) :: (bD S ++ (iD A ++ zD))) = recO (.b r :: .i (Int.ofNat (i + 1)) :: (bD S ++ (iD A ++ zD))) := by
  intro n
  induction n with
  | zero => intro j h1 h2; omega
  | succ n ih =>
    intro j h1 h2
    have hk := H.hk
    rw [loopK_s]
    have ih' := ih (j + 1)
    generalize loopK (step18 (Int.ofNat k) (Int.ofNat i) free recO) n = K at ih' ⊢
    obtain ⟨e2, e3⟩ := read2 H.sl H.ats.len (.b r) (.i (Int.ofNat j))
    have e1 : v1 (D.b r :: .i (Int.ofNat j) :: (bD S ++ (iD A ++ zD))) = Int.ofNat j := rfl
    have e0 : (hdD (D.b r :: .i (Int.ofNat j) :: (bD S ++ (iD A ++ zD)))).bool = r := rfl
    rw [step18_x, e0, e1, e2, e3]
    unfold step18X
    rw [ltN]
    by_cases hj : j < k
    · rw [blt_t hj, ifb_true, one_n (by omega), ih' hj (by omega)]
      rw [acc_eq (show i < 8 by omega) (show j < 8 by omega), acc_eq (show j < 8 by omega) (show i < 8 by omega), acc1_eq (show j < 8 by omega), acc1_eq (show i < 8 by omega), ixA_eq, ixA_eq, ix1_eq, ix1_eq]
      cases e4 : S.getD (i * 8 + j) false with
      | false => rfl
      | true =>
        by_cases hji : j = i
        · rw [hji, show eqI (Int.ofNat i) (Int.ofNat i) = true by rw [eqI_eq]; simp]
        · rw [eq_dec (show Int.ofNat j ≠ Int.ofNat i from fun h => hji (Int.ofNat.inj h))]
          cases e5 : free with
          | false => rfl
          | true =>
            have hF := hf e5
            have hR : Ord.R L i j := (H.ways i j hi hj).1 e4
            obtain ⟨a, ha, hoa, hA⟩ := H.at hi
            obtain ⟨b, hb, hob⟩ := H.ord.good a i hoa hF j hji hR
            have hB := H.ats.is b j (by omega) hob
            rw [show I0 = (0 : Int) from rfl, hA, hB, ltN, blt_f (show b ≤ a by omega)]
            cases S.getD (j * 8 + i) false <;> rfl
    · have : j = k := by omega
      subst this
      rw [blt_f (Nat.le_refl _), ifb_false, one_n (by omega)]
def step16X (N : Nat) (k i : Int) (r : Bool) (A : List Int) (recO rec : List D → Option (List D)) (free : Bool) (j : Int) (S : List Bool) : Option (List D) :=
  ifb (ltI j k) (acc i j (ifb (S.getD (ixA i j) false) (acc j j (ifb (S.getD (ixA j j) false) (ifb (ifb (eqI j i) false true) (rec (.b false :: .i (one j) :: (bD S ++ zD))) (rec (.b free :: .i (one j) :: (bD S ++ zD)))) (rec (.b free :: .i (one j) :: (bD S ++ zD))))) (rec (.b free :: .i (one j) :: (bD S ++ zD)))))
    (loopK (step18 k i free recO) N (.b r :: .i I0 :: (bD S ++ (iD A ++ zD))))
theorem step16_x (N : Nat) (k i : Int) (r : Bool) (A : List Int) (recO rec : List D → Option (List D)) (v : List D) :
    step16 N k i r A recO rec v = step16X N k i r A recO rec (hdD v).bool (v1 v) (bsL 64 v.tail.tail) := by kernel_rfl
theorem loop16 (H : LastS L k S o A) (hN : 8 < N) {i : Nat} (hi : i < k) (recO : List D → Option (List D)) (r : Bool) : ∀ (n j : Nat) (free : Bool), j ≤ k → k < n + j →
    (free = true → ∀ x, x < j → x ≠ i → Ord.R L i x → ¬ Ord.R L x x) →
    loopK (step16 N (Int.ofNat k) (Int.ofNat i) r A recO) n (.b free :: .i (Int.ofNat j) :: (bD S ++ zD)) = recO (.b r :: .i (Int.ofNat (i + 1)) :: (bD S ++ (iD A ++ zD))) := by
  intro n
  induction n with
  | zero => intro j free h1 h2; omega
  | succ n ih =>
    intro j free h1 h2 hf
    have hk := H.hk
    rw [loopK_s]
    have ih' := ih (j + 1)
    generalize loopK (step16 N (Int.ofNat k) (Int.ofNat i) r A recO) n = K at ih' ⊢
    have e2 : bsL 64 (D.b free :: .i (Int.ofNat j) :: (bD S ++ zD)).tail.tail = S := by
      rw [List.tail_cons, List.tail_cons]; exact bsL_eq S _ 64 H.sl
    have e1 : v1 (D.b free :: .i (Int.ofNat j) :: (bD S ++ zD)) = Int.ofNat j := rfl
    have e0 : (hdD (D.b free :: .i (Int.ofNat j) :: (bD S ++ zD))).bool = free := rfl
    rw [step16_x, e0, e1, e2]
    unfold step16X
    rw [ltN]
    by_cases hj : j < k
    · rw [blt_t hj, ifb_true, one_n (by omega)]
      rw [acc_eq (show i < 8 by omega) (show j < 8 by omega), acc_eq (show j < 8 by omega) (show j < 8 by omega), ixA_eq, ixA_eq]
      have keep : (j ≠ i → Ord.R L i j → ¬ Ord.R L j j) → K (.b free :: .i (Int.ofNat (j + 1)) :: (bD S ++ zD)) = recO (.b r :: .i (Int.ofNat (i + 1)) :: (bD S ++ (iD A ++ zD))) := by
        intro h
        refine ih' free hj (by omega) fun e x hx hne => ?_
        by_cases ex : x = j
        · subst ex; exact h hne
        · exact hf e x (by omega) hne
      cases e4 : S.getD (i * 8 + j) false with
      | false =>
        refine keep fun _ hr => ?_
        have := (H.ways i j hi hj).2 hr
        unfold Ord.at8 at this
        rw [e4] at this; cases this
      | true =>
        cases e5 : S.getD (j * 8 + j) false with
        | false =>
          refine keep fun _ _ hr => ?_
          have := (H.ways j j hj hj).2 hr
          unfold Ord.at8 at this
          rw [e5] at this; cases this
        | true =>
          by_cases hji : j = i
          · rw [hji, show eqI (Int.ofNat i) (Int.ofNat i) = true by rw [eqI_eq]; simp]
            rw [hji] at keep
            exact keep fun h => absurd rfl h
          · rw [eq_dec (show Int.ofNat j ≠ Int.ofNat i from fun h => hji (Int.ofNat.inj h))]
            exact ih' false hj (by omega) fun e => by cases e
    · have : j = k := by omega
      subst this
      rw [blt_f (Nat.le_refl _), ifb_false]
      refine loop18 H hi (fun e x hne hr hxx => ?_) recO r N 0 (by omega) (by omega)
      exact hf e x (R_lt H.bd hr hi) hne hr hxx
def step14X (N : Nat) (k : Int) (o : List (List D)) (rec : List D → Option (List D)) (r : Bool) (i : Int) (S : List Bool) (A : List Int) : Option (List D) :=
  ifb (ltI i k) (acc1 i (loopK (step16 N k i r A rec) N (.b (ifb (ltI (A.getD (ix1 i) I0) I0) false true) :: .i I0 :: (bD S ++ zD))))
    (some [.b (eqI (Int.ofNat o.length) k)])
theorem step14_x (N : Nat) (k : Int) (o : List (List D)) (rec : List D → Option (List D)) (r : Bool) (i : Int) (S : List Bool) (A : List Int) (v : List D) (h0 : (hdD v).bool = r) (h1 : v1 v = i) (h2 : bsL 64 v.tail.tail = S) (h3 : isL 8 (tl 66 v) = A) :
    step14 N k o rec v = step14X N k o rec r i S A := by
  subst h0 h1 h2 h3
  rfl
theorem loop14 (H : LastS L k S o A) (hN : 8 < N) (r : Bool) : ∀ (n i : Nat), i ≤ k → k < n + i →
    loopK (step14 N (Int.ofNat k) (o.map nmD)) n (.b r :: .i (Int.ofNat i) :: (bD S ++ (iD A ++ zD))) = some [.b true] := by
  intro n
  induction n with
  | zero => intro i h1 h2; omega
  | succ n ih =>
    intro i h1 h2
    have hk := H.hk
    rw [loopK_s]
    have ih' := ih (i + 1)
    generalize loopK (step14 N (Int.ofNat k) (o.map nmD)) n = K at ih' ⊢
    obtain ⟨e2, e3⟩ := read2 H.sl H.ats.len (.b r) (.i (Int.ofNat i))
    rw [step14_x (r := r) (i := Int.ofNat i) (S := S) (A := A) _ _ _ _ _ rfl rfl e2 e3]
    unfold step14X
    rw [ltN, List.length_map, H.ord.len]
    by_cases hi : i < k
    · rw [blt_t hi, ifb_true, acc1_eq (by omega), show I0 = Int.ofNat 0 from rfl]
      rw [loop16 H hN hi K r N 0 _ (by omega) (by omega) (fun _ x hx => absurd hx (Nat.not_lt_zero x))]
      exact ih' hi (by omega)
    · have : i = k := by omega
      subst this
      rw [blt_f (Nat.le_refl _), ifb_false, show eqI (Int.ofNat i) (Int.ofNat i) = true by rw [eqI_eq]; simp]
end
/-! ### The law -/
section
variable {preK : List DV → Bool} {fK : List DV → List D} {wOk : Int → Int → Bool} {wI : Int → Int → Int}
theorem getD_rep (n x : Nat) : (List.replicate n false).getD x false = false := by
  rw [List.getD_eq_getElem?_getD, List.getElem?_replicate]
  split <;> rfl
theorem lawO_true (F : FactsO preK fK wOk wI) {n : Int} (hn : inI64 n) {xs : List Int} (hx : ∀ x ∈ xs, inI64 x) {N : Nat} (hN : 20 ≤ N) :
    lawO preK fK ordPre ordF wOk wI N n (xs.map fun x => [.i x]) = some [.b true] := by
  obtain ⟨w1, w2⟩ := F.w n hn
  have hk : ∃ k : Nat, 1 ≤ k ∧ k ≤ 7 ∧ wrapF .i64 (addI (Int.ofNat 1) (wI n (Int.ofNat 7))) = Int.ofNat k := by
    rw [w2]
    have h0 := Int.emod_nonneg n (b := 7) (by omega)
    have h1 := Int.emod_lt_of_pos n (b := 7) (by omega)
    refine ⟨(1 + n % 7).toNat, by omega, by omega, ?_⟩
    rw [addI_eq, wrap_sm] <;> simp only [Int.ofNat_eq_natCast] <;> omega
  obtain ⟨k, hk1, hk7, ek⟩ := hk
  unfold lawO
  rw [F.k.1, F.k.2, w1, ek]
  show loopK (stepT ordPre ordF wOk wI N (xs.map fun x => [.i x]) (Int.ofNat k)) N (.i (Int.ofNat 0) :: (bD (List.replicate 64 false) ++ [.l ((List.range 0).map (rowD (Lk k xs)))])) = _
  obtain ⟨S1, hS1, e1⟩ := tab_loop (N := N) F hx hk7 N 0 (List.replicate 64 false) (Nat.zero_le _) (by omega) ⟨List.length_replicate, fun a b ha hb => by
    unfold Ord.at8
    rw [getD_rep]
    constructor
    · intro h; cases h
    · intro h; omega⟩
  rw [e1]
  have hbd : ∀ i, i < k → ∀ m ∈ Lk k xs i, m < k := fun i _ m hm => Lk_lt hm
  -- the ways of those that are none of the tables: none
  let L : Nat → List Nat := fun a => if a < k then Lk k xs a else []
  have hL : ∀ a, a < k → L a = Lk k xs a := fun a ha => if_pos ha
  have hbdL : ∀ i, i < k → ∀ m ∈ L i, m < k := fun i hi m hm => by rw [hL i hi] at hm; exact Lk_lt hm
  obtain ⟨S2, hS2, e2⟩ := loopM (L := L) (k := k) (N := N) (by omega) (by omega) ((List.range k).map (rowD (Lk k xs))) N 0 S1 (by omega) (by omega) (Ord.FW.start hS1.len (fun a b ha hb => by
    rw [hS1.at8 a b ha hb]
    show _ ↔ b ∈ (if a < k then Lk k xs a else [])
    constructor
    · rintro ⟨h1, h2⟩; rw [if_pos h1]; exact h2
    · intro h
      split at h
      · rename_i h1; exact ⟨h1, h⟩
      · cases h) (by omega))
  show loopK (stepM ordPre ordF N (Int.ofNat k) ((List.range k).map (rowD (Lk k xs)))) N (.i (Int.ofNat 0) :: (bD S1 ++ zD)) = _
  rw [e2]
  have hrow : (List.range k).map (rowD (Lk k xs)) = (List.range k).map (rowD L) := by
    apply List.map_congr_left
    intro a ha
    unfold rowD
    rw [hL a (List.mem_range.1 ha)]
  rw [hrow]
  have R := rowD_ok (k := k) L
  have hpre : ordPre [.l ((List.range k).map (rowD L))] = true := by
    rw [ordPre_iff]
    show 0 < ((List.range k).map (rowD L)).length ∧ ((List.range k).map (rowD L)).length ≤ 12 ∧ Srt ((List.range k).map (rowD L)) ∧ fewL ((List.range k).map (rowD L))
    refine ⟨by simp; omega, by simp; omega, srt_rows R, few_rows R fun i hi => ?_⟩
    rw [hL i hi]; exact Lk_len _ _ _
  have hf : ordF [.l ((List.range k).map (rowD L))] = (Ord.ordN L k (List.range k) []).map nmD := by
    show ordG ((List.range k).map (rowD L)).length ((List.range k).map (rowD L)) [] = _
    rw [List.length_map, List.length_range]
    exact ord_rows R
  unfold lastK
  rw [hpre, hf, ifb_true]
  have O := ord_good (L := L) (k := k) hbdL
  generalize Ord.ordN L k (List.range k) [] = o at O
  obtain ⟨A1, hA1, hA2, e3⟩ := loop10 (N := N) hk7 S2 (o.map nmD) N 0 (List.replicate 8 I0) (by omega) (by omega) List.length_replicate (fun x hx => absurd hx (Nat.not_lt_zero x))
  show loopK (step10 N (Int.ofNat k) S2 (o.map nmD)) N (.i (Int.ofNat 0) :: (iD (List.replicate 8 I0) ++ zD)) = _
  rw [e3]
  obtain ⟨A2, hA3, e4⟩ := loop12 (N := N) hk7 S2 O false N 0 A1 (by omega) (by omega) ⟨hA1, fun b x hb _ => absurd hb (Nat.not_lt_zero b), fun x hx _ => hA2 x hx⟩
  show loopK (step12 N (Int.ofNat k) S2 (o.map nmD)) N (.b false :: .i (Int.ofNat 0) :: (iD A1 ++ zD)) = _
  rw [e4]
  have H : LastS L k S2 o A2 := ⟨hk7, O, hS2.len, fun a b ha hb => hS2.all (by omega) hbdL ha hb, hA3, hbdL⟩
  exact loop14 H (by omega) false N 0 (by omega) (by omega)
end
end Go.Sy
