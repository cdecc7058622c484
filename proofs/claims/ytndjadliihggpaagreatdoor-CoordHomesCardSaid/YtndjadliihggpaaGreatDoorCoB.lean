/- A part of the proof: what a machine of our own over the model's code answers is what the model does; no condition. -/
import Derived.Test.YtndjadliihggpaaGreatDoorCoA
set_option linter.all false
open Go Go.Av Go.Proofs
set_option maxRecDepth 1000000
namespace Go.Av
/-! ### Sums of two numbers' multiples, as tokens -/
structure Fm where
  c0 : Nat
  c1 : Nat
  c2 : Nat
noncomputable def fdec (k : Nat) : Fm := ⟨k % 1000000, k / 1000000 % 1000, k / 1000000000⟩
noncomputable def fmk (c0 c1 c2 : Nat) : Option AVal :=
  ifb (Nat.blt c0 1000000 && (Nat.blt c1 1000 && Nat.blt c2 1000)) (some (ifb (Nat.beq c1 0 && Nat.beq c2 0) (.i .i64 (Int.ofNat c0)) (.tok (3 + (c0 + 1000000 * (c1 + 1000 * c2)))))) none
noncomputable def fof : AVal → Option Fm
  | .i .i64 (.ofNat n) => ifb (Nat.blt n 1000000) (some ⟨n, 0, 0⟩) none
  | .tok k => ifb (Nat.blt k 3) none (some (fdec (k - 3)))
  | _ => none
noncomputable def fval (A B : Int) (f : Fm) : Int := f.c0 + f.c1 * A + f.c2 * B
noncomputable def feq (ne : Bool) (x y : Fm) : Option Bool :=
  ifb (Nat.beq x.c0 y.c0 && (Nat.beq x.c1 y.c1 && Nat.beq x.c2 y.c2)) (some true)
  (ifb ((Nat.beq (x.c1 % 100) 0 && Nat.beq (x.c2 % 100) 0) && ((Nat.beq (y.c1 % 100) 0 && Nat.beq (y.c2 % 100) 0) && !Nat.beq (x.c0 % 100) (y.c0 % 100))) (some false)
  (ifb (ne && (Nat.beq x.c0 y.c0 && ((Nat.beq x.c2 0 && Nat.beq y.c1 0) && (Nat.beq x.c1 y.c2 && Nat.blt 0 x.c1)))) (some false)
  (ifb (ne && (Nat.beq x.c0 y.c0 && ((Nat.beq x.c1 0 && Nat.beq y.c2 0) && (Nat.beq x.c2 y.c1 && Nat.blt 0 x.c2)))) (some false)
  (ifb ((Nat.beq y.c1 0 && Nat.beq y.c2 0) && Nat.blt y.c0 x.c0) (some false) none))))
noncomputable def ftwo (ne : Bool) (op : BinOp) (a b : AVal) : Option AVal := ob (fof a) fun x => ob (fof b) fun y => match op with
  | .add => fmk (x.c0 + y.c0) (x.c1 + y.c1) (x.c2 + y.c2)
  | .mul => ifb (Nat.beq x.c1 0 && Nat.beq x.c2 0) (fmk (x.c0 * y.c0) (x.c0 * y.c1) (x.c0 * y.c2)) none
  | .eql => ob (feq ne x y) fun t => some (.b t)
  | .neq => ob (feq ne x y) fun t => some (.b !t)
  | _ => none
theorem fdec_mk {c0 c1 c2 : Nat} (h0 : c0 < 1000000) (h1 : c1 < 1000) : fdec (c0 + 1000000 * (c1 + 1000 * c2)) = ⟨c0, c1, c2⟩ := by
  unfold fdec
  have e1 : (c0 + 1000000 * (c1 + 1000 * c2)) % 1000000 = c0 := by omega
  have e2 : (c0 + 1000000 * (c1 + 1000 * c2)) / 1000000 % 1000 = c1 := by omega
  have e3 : (c0 + 1000000 * (c1 + 1000 * c2)) / 1000000000 = c2 := by omega
  rw [e1, e2, e3]
section
variable {A B : Int}
noncomputable def fvalT (no other sp A B : Int) (k : Nat) : Value := if k = 0 then .int .i64 no else if k = 1 then .int .i64 other else if k = 2 then .int .i64 sp else .int .i64 (fval A B (fdec (k - 3)))
theorem fvalT_3 {no other sp : Int} (k : Nat) : fvalT no other sp A B (3 + k) = .int .i64 (fval A B (fdec k)) := by
  unfold fvalT; rw [if_neg (by omega), if_neg (by omega), if_neg (by omega)]; congr 3; omega
theorem fof_ok {no other sp : Int} {a : AVal} {f : Fm} {a' : Value} (h : fof a = some f) (t : TV (fvalT no other sp A B) a a') : a' = .int .i64 (fval A B f) := by
  unfold fof at h
  split at h
  · rw [ifb_eq] at h
    obtain ⟨_, h⟩ := h
    cases h; cases t; simp [fval]
  · rename_i k
    cases hk : Nat.blt k 3 with
    | true => rw [hk] at h; cases h
    | false =>
      rw [hk] at h; cases h
      have hk3 : 3 ≤ k := by
        have : ¬ k < 3 := by rw [← Nat.blt_eq, hk]; simp
        omega
      cases t
      obtain ⟨j, rfl⟩ : ∃ j, k = 3 + j := ⟨k - 3, by omega⟩
      rw [fvalT_3]; congr 3; omega
  · cases h
theorem fmk_ok {no other sp : Int} {c0 c1 c2 : Nat} {v : AVal} (h : fmk c0 c1 c2 = some v) : TV (fvalT no other sp A B) v (.int .i64 (fval A B ⟨c0, c1, c2⟩)) ∧ c0 < 1000000 ∧ c1 < 1000 ∧ c2 < 1000 := by
  unfold fmk at h
  rw [ifb_eq] at h
  obtain ⟨g, h⟩ := h
  simp only [Bool.and_eq_true, Nat.blt_eq] at g
  obtain ⟨g0, g1, g2⟩ := g
  refine ⟨?_, g0, g1, g2⟩
  cases hc : (Nat.beq c1 0 && Nat.beq c2 0) with
  | true =>
    rw [hc] at h; cases h
    simp only [Bool.and_eq_true, Nat.beq_eq] at hc
    obtain ⟨rfl, rfl⟩ := hc
    have : fval A B ⟨c0, 0, 0⟩ = Int.ofNat c0 := by simp [fval]
    rw [this]; exact .i _ _
  | false =>
    rw [hc] at h; cases h
    have := TV.tok (val := fvalT no other sp A B) (3 + (c0 + 1000000 * (c1 + 1000 * c2)))
    rw [fvalT_3, fdec_mk g0 g1] at this
    exact this
theorem fval_bd (hA : 0 ≤ A ∧ A < 1000) (hB : 0 ≤ B ∧ B < 1000) {c0 c1 c2 : Nat} (h0 : c0 < 1000000) (h1 : c1 < 1000) (h2 : c2 < 1000) : 0 ≤ fval A B ⟨c0, c1, c2⟩ ∧ fval A B ⟨c0, c1, c2⟩ < 3000000 := by
  unfold fval
  have e1 : (0 : Int) ≤ (c1 : Int) * A := Int.mul_nonneg (by omega) hA.1
  have e2 : (0 : Int) ≤ (c2 : Int) * B := Int.mul_nonneg (by omega) hB.1
  have e3 : (c1 : Int) * A ≤ 999 * 999 := Int.mul_le_mul (by omega) (by omega) hA.1 (by omega)
  have e4 : (c2 : Int) * B ≤ 999 * 999 := Int.mul_le_mul (by omega) (by omega) hB.1 (by omega)
  show 0 ≤ (c0 : Int) + c1 * A + c2 * B ∧ (c0 : Int) + c1 * A + c2 * B < 3000000
  omega
theorem wrap_in {n : Int} (h : 0 ≤ n ∧ n < 3000000) : IntKind.i64.wrap n = n := by
  simp [IntKind.wrap, IntKind.bits, IntKind.signed]; omega
theorem feq_ok {ne : Bool} (hA : 0 ≤ A ∧ A < 1000) (hB : 0 ≤ B ∧ B < 1000) (hne : ne = true → A ≠ B) {x y : Fm} {t : Bool} (h : feq ne x y = some t) : t = decide (fval A B x = fval A B y) := by
  obtain ⟨x0, x1, x2⟩ := x
  obtain ⟨y0, y1, y2⟩ := y
  unfold feq at h
  simp only at h
  unfold fval
  simp only
  rcases ifb_or h with ⟨g, h⟩ | ⟨_, h⟩
  · cases h
    simp only [Bool.and_eq_true, Nat.beq_eq] at g
    obtain ⟨rfl, rfl, rfl⟩ := g
    simp
  rcases ifb_or h with ⟨g, h⟩ | ⟨_, h⟩
  · cases h
    simp only [Bool.and_eq_true, Nat.beq_eq, Bool.not_eq_true'] at g
    obtain ⟨⟨g1, g2⟩, ⟨g3, g4⟩, g5⟩ := g
    obtain ⟨a, rfl⟩ : ∃ a, x1 = 100 * a := ⟨x1 / 100, by omega⟩
    obtain ⟨b, rfl⟩ : ∃ a, x2 = 100 * a := ⟨x2 / 100, by omega⟩
    obtain ⟨c, rfl⟩ : ∃ a, y1 = 100 * a := ⟨y1 / 100, by omega⟩
    obtain ⟨d, rfl⟩ : ∃ a, y2 = 100 * a := ⟨y2 / 100, by omega⟩
    symm
    rw [decide_eq_false_iff_not]
    intro e
    push_cast at e
    rw [Int.mul_assoc, Int.mul_assoc, Int.mul_assoc, Int.mul_assoc] at e
    have g5' : ¬ x0 % 100 = y0 % 100 := fun e => by rw [e, Nat.beq_refl] at g5; cases g5
    omega
  rcases ifb_or h with ⟨g, h⟩ | ⟨_, h⟩
  · cases h
    simp only [Bool.and_eq_true, Nat.beq_eq, Nat.blt_eq] at g
    obtain ⟨g0, rfl, ⟨rfl, rfl⟩, rfl, g5⟩ := g
    symm
    rw [decide_eq_false_iff_not]
    intro e
    have e' : (x1 : Int) * A = x1 * B := by push_cast at e; omega
    exact hne g0 (Int.eq_of_mul_eq_mul_left (by omega) e')
  rcases ifb_or h with ⟨g, h⟩ | ⟨_, h⟩
  · cases h
    simp only [Bool.and_eq_true, Nat.beq_eq, Nat.blt_eq] at g
    obtain ⟨g0, rfl, ⟨rfl, rfl⟩, rfl, g5⟩ := g
    symm
    rw [decide_eq_false_iff_not]
    intro e
    have e' : (x2 : Int) * A = x2 * B := by push_cast at e; omega
    exact hne g0 (Int.eq_of_mul_eq_mul_left (by omega) e')
  rw [ifb_eq] at h
  obtain ⟨g, h⟩ := h
  cases h
  simp only [Bool.and_eq_true, Nat.beq_eq, Nat.blt_eq] at g
  obtain ⟨⟨rfl, rfl⟩, g⟩ := g
  symm
  rw [decide_eq_false_iff_not]
  intro e
  have e1 : (0 : Int) ≤ (x1 : Int) * A := Int.mul_nonneg (by omega) hA.1
  have e2 : (0 : Int) ≤ (x2 : Int) * B := Int.mul_nonneg (by omega) hB.1
  push_cast at e
  omega
end
@[reducible] noncomputable def tokF (no other sp A B : Int) (ne : Bool) (hA : 0 ≤ A ∧ A < 1000) (hB : 0 ≤ B ∧ B < 1000) (hne : ne = true → A ≠ B) : Tok where
  val := fvalT no other sp A B
  one := fun k => by unfold fvalT; split <;> (try rfl); split <;> (try rfl); split <;> rfl
  nb := fun k b => by unfold fvalT; split <;> (try (intro h; cases h)); split <;> (try (intro h; cases h)); split <;> (intro h; cases h)
  two := ftwo ne
  len := fun _ => none
  len_ok := fun _ _ h => by cases h
  two_ok := fun P op t x y a b v a' b' w h ha hb => by
    unfold ftwo at h
    rw [ob_eq] at h
    obtain ⟨f, h1, h⟩ := h
    rw [ob_eq] at h
    obtain ⟨g, h2, h⟩ := h
    have ea := fof_ok h1 ha
    have eb := fof_ok h2 hb
    subst ea; subst eb
    obtain ⟨x0, x1, x2⟩ := f
    obtain ⟨y0, y1, y2⟩ := g
    simp only at h
    split at h
    · obtain ⟨q1, q2, q3, q4⟩ := fmk_ok (A := A) (B := B) (no := no) (other := other) (sp := sp) h
      refine ⟨_, q1, ?_⟩
      have e : fval A B ⟨x0, x1, x2⟩ + fval A B ⟨y0, y1, y2⟩ = fval A B ⟨x0 + y0, x1 + y1, x2 + y2⟩ := by
        unfold fval; simp only; push_cast; rw [Int.add_mul, Int.add_mul]; omega
      letI : Tok := tokL []
      have := bin_add (P := P) (t := t) (x := x) (y := y) (w := w) (k := .i64) (a := fval A B ⟨x0, x1, x2⟩) (c := fval A B ⟨y0, y1, y2⟩)
      rw [e, wrap_in (fval_bd hA hB q2 q3 q4)] at this
      exact this
    · rw [ifb_eq] at h
      obtain ⟨hc, h⟩ := h
      simp only [Bool.and_eq_true, Nat.beq_eq] at hc
      obtain ⟨rfl, rfl⟩ := hc
      obtain ⟨q1, q2, q3, q4⟩ := fmk_ok (A := A) (B := B) (no := no) (other := other) (sp := sp) h
      refine ⟨_, q1, ?_⟩
      have e : fval A B ⟨x0, 0, 0⟩ * fval A B ⟨y0, y1, y2⟩ = fval A B ⟨x0 * y0, x0 * y1, x0 * y2⟩ := by
        unfold fval; simp only; push_cast
        rw [Int.zero_mul, Int.zero_mul, Int.add_zero, Int.add_zero, Int.mul_add, Int.mul_add, Int.mul_assoc, Int.mul_assoc]
      letI : Tok := tokL []
      have := bin_mul (P := P) (t := t) (x := x) (y := y) (w := w) (k := .i64) (a := fval A B ⟨x0, 0, 0⟩) (c := fval A B ⟨y0, y1, y2⟩)
      rw [e, wrap_in (fval_bd hA hB q2 q3 q4)] at this
      exact this
    · rw [ob_eq] at h
      obtain ⟨r, h3, h⟩ := h
      cases h
      refine ⟨_, .b r, ?_⟩
      rw [feq_ok hA hB hne h3]
      simp [eqGuard, binOp, Op.intCmp]
      exact Bool.eq_iff_iff.2 (by simp)
    · rw [ob_eq] at h
      obtain ⟨r, h3, h⟩ := h
      cases h
      refine ⟨_, .b (!r), ?_⟩
      rw [feq_ok hA hB hne h3]
      simp [eqGuard, binOp, Op.intCmp]
      exact congrArg not (Bool.eq_iff_iff.2 (by simp))
    · cases h
end Go.Av


open Go Go.Av Go.Proofs
set_option maxRecDepth 1000000
namespace Go.Proofs
open Go
theorem within19 (n m : Int) (w : World) (hm : 0 < m) (hm2 : m < 1000000) (hn1 : -9223372036854775808 ≤ n) (hn2 : n < 9223372036854775808) :
    Calls Tryz.prog 19 #[.int .i64 n, .int .i64 m] w fun e w' => e = .returned (.int .i64 (n % m)) ∧ w' = w := by
  obtain ⟨hl, hu⟩ := tmod_lt' n m hm
  have he := emod_tmod n m
  have HE := Lib.hid he
  clear he
  go_enter Tryz.func19, Tryz.ntmps19
  go_wp2
  · go_ret
    refine ⟨?_, rfl⟩
    have h0 : n.tmod m < 0 := by assumption
    have e2 : n % m = n.tmod m + m := by
      rw [HE.out, ← Int.add_emod_right, Int.emod_eq_of_lt (by omega) (by omega)]
    rw [e2]; rfl
  · go_ret
    refine ⟨?_, rfl⟩
    have h0 : 0 ≤ n.tmod m := by assumption
    rw [HE.out, Int.emod_eq_of_lt h0 hu]; rfl
end Go.Proofs
namespace Go.Av
theorem withinC : WithinOk Tryz.prog 19 := by
  letI := tokL []
  exact ⟨Go.Av.enters_of tz_gor Tryz.func19 (by kernel_rfl), fun n m w h1 h2 h3 => Go.Proofs.within19 n m w h1 h2 h3.1 h3.2⟩
noncomputable def fsG [Tok] (l : List RemT) (k : Nat) : Option AFun := ifb (Nat.beq k 19) (some (.sem (withinG l))) (fsB k)
theorem fsG_ok [Tok] (l : List RemT) (hl : ∀ e ∈ l, RemOk e) : FsOk Tryz.prog (fsG l) := by
  intro k fn h
  unfold fsG at h
  rcases ifb_or h with ⟨h1, h⟩ | ⟨_, h⟩
  · cases h; rw [Nat.eq_of_beq_eq_true h1]; exact .sem (withinG_sem withinC hl)
  exact fsB_ok k fn h
def tA : AVal := .tok 1000003
def tB : AVal := .tok 1000000003
end Go.Av
