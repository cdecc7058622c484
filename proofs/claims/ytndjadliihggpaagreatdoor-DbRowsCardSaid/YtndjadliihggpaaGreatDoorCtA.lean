/- A part of the proof: what a machine of our own over the model's code answers is what the model does; no condition. -/
import Derived.Test.YtndjadliihggpaaGreatDoorSyC
import Derived.Test.YtndjadliihggpaaGreatDoorProg
import Derived.KernelRfl
import Derived.Test.YtndjadliihggpaaGreatDoorCoA
set_option linter.all false
open Go Go.Av Go.Sy Go.Proofs
set_option maxRecDepth 1000000
set_option linter.all false
noncomputable section
namespace Go.Sy
/-! ref1.Same of two TInts, ref5.find -/
abbrev nSame := 93
abbrev nFind := 41
abbrev nLinked := 96
abbrev nTwice := 38
def samePre (ds : List D) : Bool := ifb (eqI (D.int (List.getD ds 0 (.i 0))) 2) (eqI (D.int (List.getD ds 4 (.i 0))) 2) false
def sameF (ds : List D) : Bool := eqI (D.int (List.getD ds 1 (.i 0))) (D.int (List.getD ds 5 (.i 0)))
def conSame : Con := ⟨[.ag [.i .i64 0, .i .i64 0, .i .i64 0, .s []], .ag [.i .i64 0, .i .i64 0, .i .i64 0, .s []]], .tu [.b false, .b false], samePre, fun ds => [.b (sameF ds), .b true], true⟩
def findG (s : List Nat) : List (List D) → Nat → Int
  | [], _ => -1
  | r :: q, i => bif seq (D.str (List.getD r 0 (.i 0))) s then Int.ofNat i else findG s q (i + 1)
def findF (ds : List D) : Int := findG (D.str (List.getD ds 1 (.i 0))) (D.rows (List.getD ds 0 (.i 0))) 0
def findPre (ds : List D) : Bool := Nat.blt (D.rows (List.getD ds 0 (.i 0))).length 1000000
def conFind : Con := ⟨[.l 81 false [], .s []], .i .i64 0, findPre, fun ds => [.i (findF ds)], true⟩
theorem same_den [Tok] (n a m b : Int) (s t : List Nat) : codeS Tryz.prog (fun _ => none) (fun _ => {}) 100 9 nSame [.ag [.i .i64 2, .i .i64 n, .i .i64 a, .s s], .ag [.i .i64 2, .i .i64 m, .i .i64 b, .s t]] [] (kR (.tu [.b false, .b false])) = ifb (ltI n m) (some [.b false, .b true]) (ifb (!(!(ltI m n))) (some [.b false, .b true]) (some [.b true, .b true])) := by kernel_rfl
def gI (r : List D) (k : Nat) : Int := D.int (List.getD r k (D.i (Int.ofNat 0)))
def gS (r : List D) (k : Nat) : List Nat := D.str (List.getD r k (D.i (Int.ofNat 0)))
def gR (r : List D) (k : Nat) : List (List D) := D.rows (List.getD r k (D.i (Int.ofNat 0)))
def rw_ (l : List (List D)) (i : Int) : List D := List.getD l (toN i) []
def v1 (v : List D) : Int := D.int (hdD (List.tail v))
def stepFind (d : List (List D)) (s : List Nat) (rec : List D → Option (List D)) (v : List D) : Option (List D) :=
  ifb (ltI (v1 v) (Int.ofNat d.length)) (ifb (inR (v1 v) d.length) (ifb (seq (gS (rw_ d (v1 v)) 0) s) (some [D.i (v1 v)]) (rec [D.i (D.int (hdD v)), D.i (wrapF .i64 (addI (v1 v) (Int.ofNat 1)))])) none) (some [D.i (-1)])
theorem find_den [Tok] (N : Nat) (d : List (List D)) (s : List Nat) : codeS Tryz.prog (fun _ => none) (fun _ => {}) N 9 nFind [.l 81 false d, .s s] [] (kR (.i .i64 0)) = loopK (stepFind d s) N [D.i (Int.ofNat 0), D.i (Int.ofNat 0)] := by kernel_rfl
def ctL [Tok] : Ctr (List D) := updC (updC (fun _ => none) nSame conSame.ctr) nFind conFind.ctr
def hsL : Nat → Hint := fun j => bif Nat.beq j nLinked then { fz := [3] } else {}
/-- the inner loop: k: the other table's place -/
def stepI (d : List (List D)) (k : Int) (out : Bool → Option (List D)) (rec : List D → Option (List D)) (v : List D) : Option (List D) :=
  ifb (ifb (ltI k 0) false true) (ifb (inR k d.length) (ifb (ltI (v1 v) (Int.ofNat (gR (rw_ d k) 12).length))
    (ifb (inR k d.length) (ifb (inR (v1 v) (gR (rw_ d k) 12).length) (ifb (inR k d.length) (ifb (inR (gI (rw_ d k) 2) (gR (rw_ (gR (rw_ d k) 12) (v1 v)) 0).length)
      (let q := rw_ (gR (rw_ (gR (rw_ d k) 12) (v1 v)) 0) (gI (rw_ d k) 2)
       let w := [D.i (D.int (hdD v.tail.tail)), D.i (D.int (hdD v.tail.tail.tail)), D.i (D.int (hdD v.tail.tail.tail.tail)), D.s (D.str (hdD v.tail.tail.tail.tail.tail))]
       let e := [D.i (gI q 0), D.i (gI q 1), D.i (gI q 2), D.s (gS q 3)]
       ifb (samePre (w ++ e)) (ifb (ifb (D.bool (hdD v)) false true)
        (rec (D.b (D.bool (hdD [D.b (sameF (w ++ e)), D.b true])) :: D.i (wrapF .i64 (addI (v1 v) (Int.ofNat 1))) :: w))
        (rec (D.b true :: D.i (wrapF .i64 (addI (v1 v) (Int.ofNat 1))) :: w))) none) none) none) none) none) (out (D.bool (hdD v)))) none) (out (D.bool (hdD v)))
def kOf (d l4 : List (List D)) (a : Int) : Int := D.int (hdD [D.i (findF [D.l d, D.s (gS (rw_ l4 a) 1)])])
def outB (rec1 : List D → Option (List D)) (u : List D) (c : Bool) : Option (List D) := ifb (ifb c false true) (some [D.b false]) (rec1 [D.b (D.bool (hdD u)), D.i (wrapF .i64 (addI (v1 u) (Int.ofNat 1)))])
def x0 (l4 l5 : List (List D)) (a b : Int) : List D := rw_ (gR (rw_ l5 b) 0) (gI (rw_ l4 a) 0)
/-- the middle loop; fin: what comes behind it -/
def stepB (N : Nat) (d l4 l5 : List (List D)) (a : Int) (fin : List D → Option (List D)) (rec1 : List D → Option (List D)) (u : List D) : Option (List D) :=
  ifb (ltI (v1 u) (Int.ofNat l5.length)) (ifb (inR (v1 u) l5.length) (ifb (inR a l4.length) (ifb (inR (gI (rw_ l4 a) 0) (gR (rw_ l5 (v1 u)) 0).length)
    (loopK (stepI d (kOf d l4 a) (outB rec1 u)) N [D.b (eqI (gI (x0 l4 l5 a (v1 u)) 0) (Int.ofNat 0)), D.i (Int.ofNat 0), D.i (gI (x0 l4 l5 a (v1 u)) 0), D.i (gI (x0 l4 l5 a (v1 u)) 1), D.i (gI (x0 l4 l5 a (v1 u)) 2), D.s (gS (x0 l4 l5 a (v1 u)) 3)]) none) none) none) (fin u)
def stepA (N : Nat) (d l4 l5 : List (List D)) (rec : List D → Option (List D)) (v : List D) : Option (List D) :=
  ifb (ltI (v1 v) (Int.ofNat l4.length)) (ifb (inR (v1 v) l4.length) (ifb (findPre [D.l d, D.s (gS (rw_ l4 (v1 v)) 1)])
    (loopK (stepB N d l4 l5 (v1 v) (fun u => rec [D.b (D.bool (hdD u)), D.i (wrapF .i64 (addI (v1 v) (Int.ofNat 1)))])) N [D.b (D.bool (hdD v)), D.i (Int.ofNat 0)]) none) none) (some [D.b true])
theorem linked_den [Tok] (N : Nat) (d : List (List D)) (s1 : List Nat) (l1 : List (List D)) (i1 : Int) (l2 : List (List D)) (i2 : Int) (s2 : List Nat) (i3 i4 i5 : Int) (s3 : List Nat) (l3 l4 l5 : List (List D)) :
    codeS Tryz.prog ctL hsL N 9 nLinked [.l 81 false d, .ag [.s s1, .l 100 false l1, .i .i64 i1, .l 3 false l2, .i .i64 i2, .s s2, .i .i64 i3, .i .i64 i4, .i .i64 i5, .s s3, .l 34 false l3, .l 106 false l4, .l 38 false l5]] [] (kR (.b false)) =
    loopK (stepA N d l4 l5) N [D.b false, D.i (Int.ofNat 0)] := by kernel_rfl
end Go.Sy


open Go Go.Av Go.Sy Go.Proofs
set_option linter.all false
noncomputable section
namespace Go.Sy
theorem wrap1 {i : Nat} (h : i < 1000000) : wrapF .i64 (addI (Int.ofNat i) (Int.ofNat 1)) = Int.ofNat (i + 1) := by
  show ifb (Nat.blt (i + 1) 4611686018427387904) (Int.ofNat (i + 1)) _ = _
  have : Nat.blt (i + 1) 4611686018427387904 = true := by rw [Nat.blt_eq]; omega
  rw [this]
theorem ltN (i n : Nat) : ltI (Int.ofNat i) (Int.ofNat n) = Nat.blt i n := rfl
theorem inN (i n : Nat) : inR (Int.ofNat i) n = Nat.blt i n := rfl
theorem blt_t {i n : Nat} (h : i < n) : Nat.blt i n = true := by rw [Nat.blt_eq]; exact h
theorem blt_f {i n : Nat} (h : n ≤ i) : Nat.blt i n = false := by
  cases e : Nat.blt i n with
  | false => rfl
  | true => rw [Nat.blt_eq] at e; omega
theorem rw_nat (l : List (List D)) (i : Nat) : rw_ l (Int.ofNat i) = l.getD i [] := rfl
theorem drop_at {α : Type} {l : List α} {i : Nat} (h : i < l.length) (z : α) : l.drop i = l.getD i z :: l.drop (i + 1) ∧ l.getD i z ∈ l := by
  have e : l.getD i z = l[i] := by rw [List.getD_eq_getElem?_getD, List.getElem?_eq_getElem h]; rfl
  rw [e]; exact ⟨List.drop_eq_getElem_cons h, List.getElem_mem h⟩
/-! find -/
theorem find_loop [Tok] {d : List (List D)} {s : List Nat} (hd : d.length < 1000000) : ∀ (n i : Nat) (x : D), d.length < n + i → i ≤ d.length →
    loopK (stepFind d s) n [x, D.i (Int.ofNat i)] = some [D.i (findG s (d.drop i) i)] := by
  intro n
  induction n with
  | zero => intro i x h1 h2; omega
  | succ n ih =>
    intro i x h1 h2
    show stepFind d s (loopK (stepFind d s) n) [x, D.i (Int.ofNat i)] = _
    generalize loopK (stepFind d s) n = K at ih ⊢
    unfold stepFind
    rw [show v1 [x, D.i (Int.ofNat i)] = Int.ofNat i from rfl, ltN, inN, rw_nat]
    by_cases hi : i < d.length
    · rw [blt_t hi, ifb_true, ifb_true, (drop_at hi []).1]
      show _ = some [D.i (bif seq (gS (d.getD i []) 0) s then Int.ofNat i else findG s (d.drop (i + 1)) (i + 1))]
      cases e : seq (gS (d.getD i []) 0) s with
      | true => rfl
      | false =>
        rw [ifb_false, wrap1 (by omega)]
        exact ih (i + 1) _ (by omega) hi
    · rw [blt_f (by omega), ifb_false, List.drop_of_length_le (by omega)]; rfl
/-! the inner loop -/
def hasQ (kx : Int) (y1 : Int) (rows : List (List D)) : Bool := rows.any fun r => eqI y1 (gI (rw_ (gR r 0) kx) 1)
def okQ (kx : Int) (rows : List (List D)) : Bool := rows.all fun r => inR kx (gR r 0).length && eqI (gI (rw_ (gR r 0) kx) 0) 2
theorem inner_ok [Tok] {d : List (List D)} {out : Bool → Option (List D)} {y1 y2 : Int} {y3 : List Nat} {k : Nat} (hkd : k < d.length)
    (hr : (gR (d.getD k []) 12).length < 1000000) (hq : okQ (gI (d.getD k []) 2) (gR (d.getD k []) 12) = true) : ∀ (n i : Nat) (c : Bool), (gR (d.getD k []) 12).length < n + i → i ≤ (gR (d.getD k []) 12).length →
    loopK (stepI d (Int.ofNat k) out) n [D.b c, D.i (Int.ofNat i), D.i 2, D.i y1, D.i y2, D.s y3] = out (c || hasQ (gI (d.getD k []) 2) y1 ((gR (d.getD k []) 12).drop i)) := by
  intro n
  induction n with
  | zero => intro i c h1 h2; omega
  | succ n ih =>
    intro i c h1 h2
    show stepI d (Int.ofNat k) out (loopK (stepI d (Int.ofNat k) out) n) [D.b c, D.i (Int.ofNat i), D.i 2, D.i y1, D.i y2, D.s y3] = _
    generalize loopK (stepI d (Int.ofNat k) out) n = K at ih ⊢
    unfold stepI
    rw [show v1 [D.b c, D.i (Int.ofNat i), D.i 2, D.i y1, D.i y2, D.s y3] = Int.ofNat i from rfl, show ltI (Int.ofNat k) 0 = false from rfl, inN, rw_nat, ltN, inN, rw_nat, blt_t hkd]
    by_cases hi : i < (gR (d.getD k []) 12).length
    · obtain ⟨hdr, hmem⟩ := drop_at hi []
      rw [blt_t hi]
      have hq' := List.all_eq_true.1 hq _ hmem
      rw [Bool.and_eq_true] at hq'
      rw [hq'.1]
      have hpre : samePre ([D.i 2, D.i y1, D.i y2, D.s y3] ++ [D.i (gI (rw_ (gR ((gR (d.getD k []) 12).getD i []) 0) (gI (d.getD k []) 2)) 0), D.i (gI (rw_ (gR ((gR (d.getD k []) 12).getD i []) 0) (gI (d.getD k []) 2)) 1), D.i (gI (rw_ (gR ((gR (d.getD k []) 12).getD i []) 0) (gI (d.getD k []) 2)) 2), D.s (gS (rw_ (gR ((gR (d.getD k []) 12).getD i []) 0) (gI (d.getD k []) 2)) 3)]) = true := by
        show ifb (eqI 2 2) (eqI (gI (rw_ (gR ((gR (d.getD k []) 12).getD i []) 0) (gI (d.getD k []) 2)) 0) 2) false = true
        rw [hq'.2]; rfl
      show ifb (samePre ([D.i 2, D.i y1, D.i y2, D.s y3] ++ _)) (ifb (ifb c false true) (K (D.b (eqI y1 (gI (rw_ (gR ((gR (d.getD k []) 12).getD i []) 0) (gI (d.getD k []) 2)) 1)) :: D.i (wrapF .i64 (addI (Int.ofNat i) (Int.ofNat 1))) :: [D.i 2, D.i y1, D.i y2, D.s y3])) (K (D.b true :: D.i (wrapF .i64 (addI (Int.ofNat i) (Int.ofNat 1))) :: [D.i 2, D.i y1, D.i y2, D.s y3]))) none = _
      rw [hpre, ifb_true, wrap1 (by omega)]
      have hh : hasQ (gI (d.getD k []) 2) y1 ((gR (d.getD k []) 12).drop i) = (eqI y1 (gI (rw_ (gR ((gR (d.getD k []) 12).getD i []) 0) (gI (d.getD k []) 2)) 1) || hasQ (gI (d.getD k []) 2) y1 ((gR (d.getD k []) 12).drop (i + 1))) := by
        rw [hdr]; rfl
      rw [hh]
      cases c with
      | true => exact ih (i + 1) true (by omega) hi
      | false => exact ih (i + 1) _ (by omega) hi
    · rw [blt_f (by omega), List.drop_of_length_le (show (gR (d.getD k []) 12).length ≤ i by omega)]
      show out c = out (c || false)
      rw [Bool.or_false]
end Go.Sy


open Go Go.Av Go.Sy Go.Proofs
set_option linter.all false
noncomputable section
namespace Go.Sy
def M : Nat := 1000000
/-- of a link: the other table's place, if it is there -/
def kL (d : List (List D)) (L : List D) : Option Nat := Int.rec (fun k => some k) (fun _ => none) (findG (gS L 1) d 0)
def xC (L r : List D) : List D := rw_ (gR r 0) (gI L 0)
def okRow (L r : List D) : Bool := inR (gI L 0) (gR r 0).length && eqI (gI (xC L r) 0) 2
def okT (t : List D) : Bool := Nat.blt (gR t 12).length M && okQ (gI t 2) (gR t 12)
def okLink (d l5 : List (List D)) (L : List D) : Bool := Option.rec false (fun k => Nat.blt k d.length && okT (d.getD k []) && l5.all (okRow L)) (kL d L)
def goodLink (d l5 : List (List D)) (L : List D) : Bool := Option.rec false (fun k => l5.all fun r => hasQ (gI (d.getD k []) 2) (gI (xC L r) 1) (gR (d.getD k []) 12)) (kL d L)
theorem eqI_t {a b : Int} (h : eqI a b = true) : a = b := by rw [eqI_eq] at h; exact of_decide_eq_true h
theorem mid_ok [Tok] {N : Nat} {d l4 l5 : List (List D)} {a : Nat} {fin : List D → Option (List D)} (hN : M ≤ N) (ha : a < l4.length) (h5 : l5.length < M) {k : Nat} (hk : kL d (l4.getD a []) = some k) (hkd : k < d.length) (hT : okT (d.getD k []) = true)
    (hrow : l5.all (okRow (l4.getD a [])) = true) : ∀ (n i : Nat) (fl : Bool), l5.length < n + i → i ≤ l5.length →
    loopK (stepB N d l4 l5 (Int.ofNat a) fin) n [D.b fl, D.i (Int.ofNat i)] =
      ifb ((l5.drop i).all fun r => hasQ (gI (d.getD k []) 2) (gI (xC (l4.getD a []) r) 1) (gR (d.getD k []) 12)) (fin [D.b fl, D.i (Int.ofNat l5.length)]) (some [D.b false]) := by
  unfold okT at hT
  rw [Bool.and_eq_true] at hT
  obtain ⟨hr, hq⟩ := hT
  have hr : (gR (d.getD k []) 12).length < M := by rwa [Nat.blt_eq] at hr
  have hkk : kOf d l4 (Int.ofNat a) = Int.ofNat k := by
    show findG (gS (l4.getD a []) 1) d 0 = Int.ofNat k
    unfold kL at hk
    cases e : findG (gS (l4.getD a []) 1) d 0 with
    | ofNat j => rw [e] at hk; cases hk; rfl
    | negSucc j => rw [e] at hk; cases hk
  intro n
  induction n with
  | zero => intro i fl h1 h2; omega
  | succ n ih =>
    intro i fl h1 h2
    show stepB N d l4 l5 (Int.ofNat a) fin (loopK (stepB N d l4 l5 (Int.ofNat a) fin) n) [D.b fl, D.i (Int.ofNat i)] = _
    generalize loopK (stepB N d l4 l5 (Int.ofNat a) fin) n = K at ih ⊢
    unfold stepB
    rw [show v1 [D.b fl, D.i (Int.ofNat i)] = Int.ofNat i from rfl, ltN, inN, inN, rw_nat, rw_nat, blt_t ha, hkk]
    by_cases hi : i < l5.length
    · obtain ⟨hdr, hmem⟩ := drop_at hi []
      have hro := List.all_eq_true.1 hrow _ hmem
      unfold okRow at hro
      rw [Bool.and_eq_true] at hro
      rw [blt_t hi, hro.1, hdr]
      have hx : x0 l4 l5 (Int.ofNat a) (Int.ofNat i) = xC (l4.getD a []) (l5.getD i []) := rfl
      rw [hx, eqI_t hro.2]
      have hin := inner_ok (out := outB K [D.b fl, D.i (Int.ofNat i)]) (y1 := gI (xC (l4.getD a []) (l5.getD i [])) 1) (y2 := gI (xC (l4.getD a []) (l5.getD i [])) 2) (y3 := gS (xC (l4.getD a []) (l5.getD i [])) 3) hkd (by exact hr) hq N 0 false (by unfold M at *; omega) (Nat.zero_le _)
      show loopK (stepI d (Int.ofNat k) (outB K [D.b fl, D.i (Int.ofNat i)])) N [D.b false, D.i (Int.ofNat 0), D.i 2, _, _, _] = _
      rw [hin]
      show ifb (ifb (hasQ (gI (d.getD k []) 2) (gI (xC (l4.getD a []) (l5.getD i [])) 1) (gR (d.getD k []) 12)) false true) (some [D.b false]) (K [D.b fl, D.i (wrapF .i64 (addI (Int.ofNat i) (Int.ofNat 1)))]) = _
      rw [wrap1 (by unfold M at *; omega), ih (i + 1) fl (by omega) hi, List.all_cons]
      cases hasQ (gI (d.getD k []) 2) (gI (xC (l4.getD a []) (l5.getD i [])) 1) (gR (d.getD k []) 12) <;> rfl
    · have : i = l5.length := by omega
      subst this
      rw [blt_f (Nat.le_refl _), List.drop_of_length_le (Nat.le_refl _)]
      rfl
theorem out_ok [Tok] {N : Nat} {d l4 l5 : List (List D)} (hN : M ≤ N) (h4 : l4.length < M) (h5 : l5.length < M) (hd : d.length < M) (hL : l4.all (okLink d l5) = true) : ∀ (n a : Nat) (fl : Bool), l4.length < n + a → a ≤ l4.length →
    loopK (stepA N d l4 l5) n [D.b fl, D.i (Int.ofNat a)] = some [D.b ((l4.drop a).all (goodLink d l5))] := by
  intro n
  induction n with
  | zero => intro a fl h1 h2; omega
  | succ n ih =>
    intro a fl h1 h2
    show stepA N d l4 l5 (loopK (stepA N d l4 l5) n) [D.b fl, D.i (Int.ofNat a)] = _
    generalize loopK (stepA N d l4 l5) n = K at ih ⊢
    unfold stepA
    rw [show v1 [D.b fl, D.i (Int.ofNat a)] = Int.ofNat a from rfl, ltN, inN, rw_nat]
    by_cases hi : a < l4.length
    · obtain ⟨hdr, hmem⟩ := drop_at hi []
      have hl := List.all_eq_true.1 hL _ hmem
      unfold okLink at hl
      have hp : findPre [D.l d, D.s (gS (l4.getD a []) 1)] = true := blt_t hd
      rw [blt_t hi, hp, hdr, List.all_cons]
      cases hk : kL d (l4.getD a []) with
      | none => rw [hk] at hl; cases hl
      | some k =>
        rw [hk] at hl
        have hl : (Nat.blt k d.length && okT (d.getD k []) && l5.all (okRow (l4.getD a []))) = true := hl
        rw [Bool.and_eq_true, Bool.and_eq_true, Nat.blt_eq] at hl
        have hm := mid_ok (N := N) (fin := fun u => K [D.b (D.bool (hdD u)), D.i (wrapF .i64 (addI (Int.ofNat a) (Int.ofNat 1)))]) hN hi h5 hk hl.1.1 hl.1.2 hl.2 N 0 fl (by unfold M at *; omega) (Nat.zero_le _)
        show loopK (stepB N d l4 l5 (Int.ofNat a) (fun u => K [D.b (D.bool (hdD u)), D.i (wrapF .i64 (addI (Int.ofNat a) (Int.ofNat 1)))])) N [D.b fl, D.i (Int.ofNat 0)] = _
        rw [hm]
        have hg : goodLink d l5 (l4.getD a []) = l5.all fun r => hasQ (gI (d.getD k []) 2) (gI (xC (l4.getD a []) r) 1) (gR (d.getD k []) 12) := by unfold goodLink; rw [hk]
        rw [hg, List.drop_zero]
        show ifb _ (K [D.b fl, D.i (wrapF .i64 (addI (Int.ofNat a) (Int.ofNat 1)))]) _ = _
        rw [wrap1 (by unfold M at *; omega), ih (a + 1) fl (by omega) hi]
        cases l5.all fun r => hasQ (gI (d.getD k []) 2) (gI (xC (l4.getD a []) r) 1) (gR (d.getD k []) 12) <;> rfl
    · rw [blt_f (by omega), List.drop_of_length_le (by omega)]; rfl
end Go.Sy


open Go Go.Av Go.Sy Go.Proofs
set_option linter.all false
noncomputable section
namespace Go.Sy
theorem fill_same (ds : List D) : fill conSame.skA ds = [.ag [.i .i64 (gI ds 0), .i .i64 (gI ds 1), .i .i64 (gI ds 2), .s (gS ds 3)], .ag [.i .i64 (gI ds 4), .i .i64 (gI ds 5), .i .i64 (gI ds 6), .s (gS ds 7)]] := by
  rcases ds with _ | ⟨_, _ | ⟨_, _ | ⟨_, _ | ⟨_, _ | ⟨_, _ | ⟨_, _ | ⟨_, _ | ⟨_, _⟩⟩⟩⟩⟩⟩⟩⟩ <;> rfl
theorem fill_find (ds : List D) : fill conFind.skA ds = [.l 81 false (gR ds 0), .s (gS ds 1)] := by
  rcases ds with _ | ⟨_, _ | ⟨_, _⟩⟩ <;> rfl
def linkedPre (ds : List D) : Bool := Nat.blt (gR ds 12).length M && Nat.blt (gR ds 13).length M && Nat.blt (gR ds 0).length M && (gR ds 12).all (okLink (gR ds 0) (gR ds 13))
def linkedF (ds : List D) : Bool := (gR ds 12).all (goodLink (gR ds 0) (gR ds 13))
def conLinked : Con := ⟨[.l 81 false [], .ag [.s [], .l 100 false [], .i .i64 0, .l 3 false [], .i .i64 0, .s [], .i .i64 0, .i .i64 0, .i .i64 0, .s [], .l 34 false [], .l 106 false [], .l 38 false []]], .b false, linkedPre, fun ds => [D.b (linkedF ds)], true⟩
theorem fill_linked (ds : List D) : fill conLinked.skA ds = [.l 81 false (gR ds 0), .ag [.s (gS ds 1), .l 100 false (gR ds 2), .i .i64 (gI ds 3), .l 3 false (gR ds 4), .i .i64 (gI ds 5), .s (gS ds 6), .i .i64 (gI ds 7), .i .i64 (gI ds 8), .i .i64 (gI ds 9), .s (gS ds 10), .l 34 false (gR ds 11), .l 106 false (gR ds 12), .l 38 false (gR ds 13)]] := by
  rcases ds with _ | ⟨_, _ | ⟨_, _ | ⟨_, _ | ⟨_, _ | ⟨_, _ | ⟨_, _ | ⟨_, _ | ⟨_, _ | ⟨_, _ | ⟨_, _ | ⟨_, _ | ⟨_, _ | ⟨_, _ | ⟨_, _⟩⟩⟩⟩⟩⟩⟩⟩⟩⟩⟩⟩⟩⟩ <;> rfl
variable [Tok] {fs : Nat → Option AFun}
theorem same_ok (hj : ∀ i fn, Tryz.prog.funcs[i]? = some fn → fs i = funK Tryz.prog fn) : CallG Tryz.prog fs nSame conSame.ctr := by
  refine Con.ok (ct := fun _ => none) (hs := fun _ => {}) (c := conSame) (fun _ _ h => nomatch h) (fun i fn _ h => hj i fn h) (fun fn h => hj _ fn h) rfl fun ds hp => ⟨100, 9, ?_⟩
  rw [fill_same]
  have h : ifb (eqI (gI ds 0) 2) (eqI (gI ds 4) 2) false = true := hp
  have h0 : gI ds 0 = 2 := by cases e : eqI (gI ds 0) 2 with
    | true => exact eqI_t e
    | false => rw [e] at h; cases h
  have h4 : gI ds 4 = 2 := by
    have h1 : eqI (gI ds 0) 2 = true := by rw [h0]; rfl
    rw [h1] at h
    exact eqI_t h
  rw [h0, h4]
  refine (same_den _ _ _ _ _ _).trans ?_
  show _ = some [D.b (eqI (gI ds 1) (gI ds 5)), D.b true]
  rw [eqI_eq, ltI_eq, ltI_eq]
  rcases Int.lt_trichotomy (gI ds 1) (gI ds 5) with h | h | h
  · rw [decide_eq_true h, decide_eq_false (show ¬ gI ds 1 = gI ds 5 by omega)]
  · rw [h, decide_eq_false (Int.lt_irrefl _), decide_eq_true rfl]; rfl
  · rw [decide_eq_false (show ¬ gI ds 1 < gI ds 5 by omega), decide_eq_true h, decide_eq_false (show ¬ gI ds 1 = gI ds 5 by omega)]; rfl
theorem find_ok (hj : ∀ i fn, Tryz.prog.funcs[i]? = some fn → fs i = funK Tryz.prog fn) : CallG Tryz.prog fs nFind conFind.ctr := by
  refine Con.ok (ct := fun _ => none) (hs := fun _ => {}) (c := conFind) (fun _ _ h => nomatch h) (fun i fn _ h => hj i fn h) (fun fn h => hj _ fn h) rfl fun ds hp => ⟨1000001, 9, ?_⟩
  rw [fill_find]
  have h : Nat.blt (gR ds 0).length 1000000 = true := hp
  rw [Nat.blt_eq] at h
  refine (find_den _ _ _).trans ?_
  rw [find_loop h 1000001 0 _ (by omega) (Nat.zero_le _)]
  rfl
theorem linked_ok (hj : ∀ i fn, Tryz.prog.funcs[i]? = some fn → fs i = funK Tryz.prog fn) : CallG Tryz.prog fs nLinked conLinked.ctr := by
  have hno : CtrOk Tryz.prog fs (fun _ => none : Ctr (List D)) := by
    intro j g e; cases e
  have hct : CtrOk Tryz.prog fs ctL := CtrOk.upd (CtrOk.upd hno (same_ok hj)) (find_ok hj)
  have key : ∀ ds, conLinked.pre ds = true → ∃ N d, codeS Tryz.prog ctL hsL N d nLinked (fill conLinked.skA ds) [] (kR conLinked.skR) = some (conLinked.f ds) := fun ds hp => by
    refine ⟨1000001, 9, ?_⟩
    rw [fill_linked]
    have h : (Nat.blt (gR ds 12).length M && Nat.blt (gR ds 13).length M && Nat.blt (gR ds 0).length M && (gR ds 12).all (okLink (gR ds 0) (gR ds 13))) = true := hp
    simp only [Bool.and_eq_true, Nat.blt_eq] at h
    obtain ⟨⟨⟨h1, h2⟩, h3⟩, h4⟩ := h
    refine (linked_den _ _ _ _ _ _ _ _ _ _ _ _ _ _ _).trans ?_
    rw [out_ok (by unfold M; omega) h1 h2 h3 h4 1000001 0 false (by unfold M at h1; omega) (Nat.zero_le _)]
    rfl
  unfold CallG
  intro Z h m sh az avs k r H V e
  exact Con.ok hct (fun i fn _ h => hj i fn h) (fun fn h => hj _ fn h) rfl key H V e
end Go.Sy


open Go Go.Av Go.Sy Go.Proofs
set_option maxRecDepth 1000000
set_option linter.all false
noncomputable section
namespace Go.Sy
def ctT [Tok] : Ctr (List D) := updC (fun _ => none) nSame conSame.ctr
def hsT : Nat → Hint := fun j => bif Nat.beq j nTwice then { fz := [1] } else {}
def cK (i1 : Int) (c : Int) : Int := gI (rw_ [[D.i i1]] c) 0
def xT (i1 : Int) (l5 : List (List D)) (c i : Int) : List D := rw_ (gR (rw_ l5 i) 0) (cK i1 c)
def four (x : List D) : List D := [D.i (gI x 0), D.i (gI x 1), D.i (gI x 2), D.s (gS x 3)]
def stepT3 (i1 : Int) (l5 : List (List D)) (c i : Int) (fin : List D → Option (List D)) (rec : List D → Option (List D)) (v : List D) : Option (List D) :=
  ifb (ltI (v1 v) i) (ifb (inR i l5.length) (ifb (inR c 1) (ifb (inR (cK i1 c) (gR (rw_ l5 i) 0).length) (ifb (inR (v1 v) l5.length) (ifb (inR c 1) (ifb (inR (cK i1 c) (gR (rw_ l5 (v1 v)) 0).length)
    (ifb (samePre (four (xT i1 l5 c i) ++ four (xT i1 l5 c (v1 v)))) (ifb (D.bool (hdD [D.b (sameF (four (xT i1 l5 c i) ++ four (xT i1 l5 c (v1 v)))), D.b true])) (some [D.b true])
      (rec [D.b (D.bool (hdD v)), D.i (wrapF .i64 (addI (v1 v) (Int.ofNat 1)))])) none) none) none) none) none) none) none) (fin v)
def stepT2 (N : Nat) (i1 : Int) (l5 : List (List D)) (c : Int) (fin : List D → Option (List D)) (rec : List D → Option (List D)) (u : List D) : Option (List D) :=
  ifb (ltI (v1 u) (Int.ofNat l5.length)) (loopK (stepT3 i1 l5 c (v1 u) (fun v => rec [D.b (D.bool (hdD v)), D.i (wrapF .i64 (addI (v1 u) (Int.ofNat 1)))])) N [D.b (D.bool (hdD u)), D.i (Int.ofNat 0)]) (fin u)
def stepT1 (N : Nat) (i1 : Int) (l5 : List (List D)) (rec : List D → Option (List D)) (v : List D) : Option (List D) :=
  ifb (ltI (v1 v) (Int.ofNat 1)) (loopK (stepT2 N i1 l5 (v1 v) (fun u => rec [D.b (D.bool (hdD u)), D.i (wrapF .i64 (addI (v1 v) (Int.ofNat 1)))])) N [D.b (D.bool (hdD v)), D.i (Int.ofNat 0)]) (some [D.b false])
theorem twice_den [Tok] (N : Nat) (s1 : List Nat) (l1 : List (List D)) (i1 : Int) (i2 : Int) (s2 : List Nat) (i3 i4 i5 : Int) (s3 : List Nat) (l3 l4 l5 : List (List D)) :
    codeS Tryz.prog ctT hsT N 9 nTwice [.ag [.s s1, .l 100 false l1, .i .i64 i1, .l 3 false [], .i .i64 i2, .s s2, .i .i64 i3, .i .i64 i4, .i .i64 i5, .s s3, .l 34 false l3, .l 106 false l4, .l 38 false l5]] [] (kR (.b false)) =
    loopK (stepT1 N i1 l5) N [D.b false, D.i (Int.ofNat 0)] := by kernel_rfl
end Go.Sy


open Go Go.Av Go.Sy Go.Proofs
set_option linter.all false
noncomputable section
namespace Go.Sy
/-- a row's key; are two alike? -/
def kV (i1 : Int) (r : List D) : List D := rw_ (gR r 0) i1
def eqV (i1 : Int) (r q : List D) : Bool := eqI (gI (kV i1 r) 1) (gI (kV i1 q) 1)
def okV (i1 : Int) (r : List D) : Bool := inR i1 (gR r 0).length && eqI (gI (kV i1 r) 0) 2
def twR (i1 : Int) : List (List D) → List (List D) → Bool
  | _, [] => false
  | p, r :: q => (p.any fun k => eqV i1 r k) || twR i1 (p ++ [r]) q
theorem t3_ok [Tok] {i1 : Int} {l5 : List (List D)} (h5 : l5.length < M) (hv : l5.all (okV i1) = true) {i : Nat} (hi : i < l5.length) {fin : List D → Option (List D)} : ∀ (n k : Nat) (fl : Bool), i < n + k → k ≤ i →
    loopK (stepT3 i1 l5 (Int.ofNat 0) (Int.ofNat i) fin) n [D.b fl, D.i (Int.ofNat k)] = ifb (((l5.take i).drop k).any fun r => eqV i1 (l5.getD i []) r) (some [D.b true]) (fin [D.b fl, D.i (Int.ofNat i)]) := by
  intro n
  induction n with
  | zero => intro k fl h1 h2; omega
  | succ n ih =>
    intro k fl h1 h2
    show stepT3 i1 l5 (Int.ofNat 0) (Int.ofNat i) fin (loopK (stepT3 i1 l5 (Int.ofNat 0) (Int.ofNat i) fin) n) [D.b fl, D.i (Int.ofNat k)] = _
    generalize loopK (stepT3 i1 l5 (Int.ofNat 0) (Int.ofNat i) fin) n = K at ih ⊢
    unfold stepT3
    have hck : cK i1 (Int.ofNat 0) = i1 := rfl
    rw [show v1 [D.b fl, D.i (Int.ofNat k)] = Int.ofNat k from rfl, hck, ltN, inN, inN, inN, rw_nat, rw_nat, blt_t hi]
    by_cases hk : k < i
    · have hkl : k < l5.length := by omega
      have htl : k < (l5.take i).length := by rw [List.length_take]; omega
      obtain ⟨hdr, _⟩ := drop_at htl []
      have hg : (l5.take i).getD k [] = l5.getD k [] := by
        rw [List.getD_eq_getElem?_getD, List.getD_eq_getElem?_getD, List.getElem?_take, if_pos hk]
      rw [hg] at hdr
      have hmk := (drop_at hkl ([] : List D)).2
      have hmi := (drop_at hi ([] : List D)).2
      have ok1 := List.all_eq_true.1 hv _ hmk
      have ok2 := List.all_eq_true.1 hv _ hmi
      unfold okV at ok1 ok2
      rw [Bool.and_eq_true] at ok1 ok2
      have e01 : Nat.blt 0 1 = true := rfl
      rw [blt_t hk, blt_t hkl, ok1.1, ok2.1, hdr, List.any_cons]
      have hx1 : xT i1 l5 (Int.ofNat 0) (Int.ofNat i) = kV i1 (l5.getD i []) := rfl
      have hx2 : xT i1 l5 (Int.ofNat 0) (Int.ofNat k) = kV i1 (l5.getD k []) := rfl
      rw [hx1, hx2]
      have hpre : samePre (four (kV i1 (l5.getD i [])) ++ four (kV i1 (l5.getD k []))) = true := by
        show ifb (eqI (gI (kV i1 (l5.getD i [])) 0) 2) (eqI (gI (kV i1 (l5.getD k [])) 0) 2) false = true
        rw [ok1.2, ok2.2]
      rw [hpre]
      show ifb (eqV i1 (l5.getD i []) (l5.getD k [])) (some [D.b true]) (K [D.b fl, D.i (wrapF .i64 (addI (Int.ofNat k) (Int.ofNat 1)))]) = _
      rw [wrap1 (by unfold M at *; omega), ih (k + 1) fl (by omega) hk]
      cases eqV i1 (l5.getD i []) (l5.getD k []) <;> rfl
    · have : k = i := by omega
      subst this
      rw [blt_f (Nat.le_refl _), List.drop_of_length_le (by rw [List.length_take]; omega)]
      rfl
theorem t2_ok [Tok] {N : Nat} (hN : M ≤ N) {i1 : Int} {l5 : List (List D)} (h5 : l5.length < M) (hv : l5.all (okV i1) = true) {fin : List D → Option (List D)} : ∀ (n i : Nat) (fl : Bool), l5.length < n + i → i ≤ l5.length →
    loopK (stepT2 N i1 l5 (Int.ofNat 0) fin) n [D.b fl, D.i (Int.ofNat i)] = ifb (twR i1 (l5.take i) (l5.drop i)) (some [D.b true]) (fin [D.b fl, D.i (Int.ofNat l5.length)]) := by
  intro n
  induction n with
  | zero => intro i fl h1 h2; omega
  | succ n ih =>
    intro i fl h1 h2
    show stepT2 N i1 l5 (Int.ofNat 0) fin (loopK (stepT2 N i1 l5 (Int.ofNat 0) fin) n) [D.b fl, D.i (Int.ofNat i)] = _
    generalize loopK (stepT2 N i1 l5 (Int.ofNat 0) fin) n = K at ih ⊢
    unfold stepT2
    rw [show v1 [D.b fl, D.i (Int.ofNat i)] = Int.ofNat i from rfl, ltN]
    by_cases hi : i < l5.length
    · have ht := t3_ok h5 hv hi (fin := fun v => K [D.b (D.bool (hdD v)), D.i (wrapF .i64 (addI (Int.ofNat i) (Int.ofNat 1)))]) N 0 fl (by unfold M at *; omega) (Nat.zero_le _)
      rw [blt_t hi]
      show loopK (stepT3 i1 l5 (Int.ofNat 0) (Int.ofNat i) (fun v => K [D.b (D.bool (hdD v)), D.i (wrapF .i64 (addI (Int.ofNat i) (Int.ofNat 1)))])) N [D.b fl, D.i (Int.ofNat 0)] = _
      rw [ht, List.drop_zero, (drop_at hi []).1]
      have htk : l5.take i ++ [l5.getD i []] = l5.take (i + 1) := by
        rw [List.getD_eq_getElem?_getD, List.getElem?_eq_getElem hi]
        exact List.take_append_getElem hi
      show ifb _ _ (K [D.b fl, D.i (wrapF .i64 (addI (Int.ofNat i) (Int.ofNat 1)))]) = ifb (((l5.take i).any fun k => eqV i1 (l5.getD i []) k) || twR i1 (l5.take i ++ [l5.getD i []]) (l5.drop (i + 1))) _ _
      rw [wrap1 (by unfold M at *; omega), ih (i + 1) fl (by omega) hi, htk]
      cases (l5.take i).any fun k => eqV i1 (l5.getD i []) k <;> rfl
    · have : i = l5.length := by omega
      subst this
      rw [blt_f (Nat.le_refl _), List.drop_of_length_le (Nat.le_refl _)]
      rfl
def twicePre (ds : List D) : Bool := Nat.beq (gR ds 3).length 0 && Nat.blt (gR ds 12).length M && (gR ds 12).all (okV (gI ds 2))
def twiceF (ds : List D) : Bool := twR (gI ds 2) [] (gR ds 12)
def conTwice : Con := ⟨[.ag [.s [], .l 100 false [], .i .i64 0, .l 3 false [], .i .i64 0, .s [], .i .i64 0, .i .i64 0, .i .i64 0, .s [], .l 34 false [], .l 106 false [], .l 38 false []]], .b false, twicePre, fun ds => [D.b (twiceF ds)], true⟩
theorem fill_twice (ds : List D) : fill conTwice.skA ds = [.ag [.s (gS ds 0), .l 100 false (gR ds 1), .i .i64 (gI ds 2), .l 3 false (gR ds 3), .i .i64 (gI ds 4), .s (gS ds 5), .i .i64 (gI ds 6), .i .i64 (gI ds 7), .i .i64 (gI ds 8), .s (gS ds 9), .l 34 false (gR ds 10), .l 106 false (gR ds 11), .l 38 false (gR ds 12)]] := by
  rcases ds with _ | ⟨_, _ | ⟨_, _ | ⟨_, _ | ⟨_, _ | ⟨_, _ | ⟨_, _ | ⟨_, _ | ⟨_, _ | ⟨_, _ | ⟨_, _ | ⟨_, _ | ⟨_, _ | ⟨_, _⟩⟩⟩⟩⟩⟩⟩⟩⟩⟩⟩⟩⟩ <;> rfl
theorem twice_ok [Tok] {fs : Nat → Option AFun} (hj : ∀ i fn, Tryz.prog.funcs[i]? = some fn → fs i = funK Tryz.prog fn) : CallG Tryz.prog fs nTwice conTwice.ctr := by
  have hno : CtrOk Tryz.prog fs (fun _ => none : Ctr (List D)) := by
    intro j g e; cases e
  have hct : CtrOk Tryz.prog fs ctT := CtrOk.upd hno (same_ok hj)
  have key : ∀ ds, conTwice.pre ds = true → ∃ N d, codeS Tryz.prog ctT hsT N d nTwice (fill conTwice.skA ds) [] (kR conTwice.skR) = some (conTwice.f ds) := fun ds hp => by
    obtain ⟨K, hK⟩ : ∃ K, M ≤ K := ⟨M, Nat.le_refl _⟩
    refine ⟨K + 1 + 1, 9, ?_⟩
    rw [fill_twice]
    have h : (Nat.beq (gR ds 3).length 0 && Nat.blt (gR ds 12).length M && (gR ds 12).all (okV (gI ds 2))) = true := hp
    simp only [Bool.and_eq_true, Nat.blt_eq, Nat.beq_eq] at h
    obtain ⟨⟨h1, h2⟩, h3⟩ := h
    rw [List.eq_nil_of_length_eq_zero h1]
    refine (twice_den _ _ _ _ _ _ _ _ _ _ _ _ _).trans ?_
    rw [loopK_succ]
    show loopK (stepT2 (K + 1 + 1) (gI ds 2) (gR ds 12) (Int.ofNat 0) (fun u => loopK (stepT1 (K + 1 + 1) (gI ds 2) (gR ds 12)) (K + 1) [D.b (D.bool (hdD u)), D.i (wrapF .i64 (addI (Int.ofNat 0) (Int.ofNat 1)))])) (K + 1 + 1) [D.b false, D.i (Int.ofNat 0)] = _
    rw [t2_ok (by omega) h2 h3 (K + 1 + 1) 0 false (by omega) (Nat.zero_le _), loopK_succ]
    show ifb (twR (gI ds 2) [] (gR ds 12)) (some [D.b true]) (some [D.b false]) = some [D.b (twR (gI ds 2) [] (gR ds 12))]
    cases twR (gI ds 2) [] (gR ds 12) <;> rfl
  unfold CallG
  intro Z h m sh az avs k r H V e
  exact Con.ok hct (fun i fn _ h => hj i fn h) (fun fn h => hj _ fn h) rfl key H V e
end Go.Sy


open Go Go.Av Go.Sy Go.Proofs
set_option maxRecDepth 1000000
set_option linter.all false
noncomputable section
namespace Go.Sy
abbrev nKeyed := 245
def hsK : Nat → Hint := fun j => bif Nat.beq j nKeyed then { fz := [2, 3] } else {}
def eq4 (x : List D) (a1 a2 a3 : Int) (a4 : List Nat) : Bool := ifb (eqI (gI x 0) a1) (ifb (eqI (gI x 1) a2) (ifb (eqI (gI x 2) a3) (ifb (seq (gS x 3) a4) true false) false) false) false
def stepK (i1 : Int) (l5 : List (List D)) (a1 a2 a3 : Int) (a4 : List Nat) (rec : List D → Option (List D)) (v : List D) : Option (List D) :=
  ifb (ltI (v1 v) (Int.ofNat l5.length)) (ifb (inR (v1 v) l5.length) (ifb (ltI i1 (Int.ofNat (gR (rw_ l5 (v1 v)) 0).length)) (ifb (inR i1 (gR (rw_ l5 (v1 v)) 0).length)
    (ifb (eq4 (rw_ (gR (rw_ l5 (v1 v)) 0) i1) a1 a2 a3 a4) (some [D.b (ifb (ltI (v1 v) (Int.ofNat 0)) false true)]) (rec [D.i (D.int (hdD v)), D.i (wrapF .i64 (addI (v1 v) (Int.ofNat 1)))])) none)
    (rec [D.i (D.int (hdD v)), D.i (wrapF .i64 (addI (v1 v) (Int.ofNat 1)))])) none) (some [D.b false])
theorem keyed_den [Tok] (N : Nat) (s1 : List Nat) (l1 : List (List D)) (i1 : Int) (l2 : List (List D)) (i2 : Int) (s2 : List Nat) (i3 i4 i5 : Int) (s3 : List Nat) (l3 l4 l5 : List (List D)) (a1 a2 a3 : Int) (a4 : List Nat) :
    codeS Tryz.prog (fun _ => none) hsK N 9 nKeyed [.ag [.s s1, .l 100 false l1, .i .i64 i1, .l 3 false l2, .i .i64 i2, .s s2, .i .i64 i3, .i .i64 i4, .i .i64 i5, .s s3, .l 34 false l3, .l 106 false l4, .l 38 false l5], .ag [.i .i64 a1, .i .i64 a2, .i .i64 a3, .s a4]] [] (kR (.b false)) =
    loopK (stepK i1 l5 a1 a2 a3 a4) N [D.i (Int.ofNat 0), D.i (Int.ofNat 0)] := by kernel_rfl
def hasK (i1 : Int) (a1 a2 a3 : Int) (a4 : List Nat) (rows : List (List D)) : Bool := rows.any fun r => eq4 (kV i1 r) a1 a2 a3 a4
theorem keyed_loop [Tok] {i1 : Int} {l5 : List (List D)} {a1 a2 a3 : Int} {a4 : List Nat} (h5 : l5.length < M) (hv : (l5.all fun r => inR i1 (gR r 0).length) = true) : ∀ (n i : Nat) (x : Int), l5.length < n + i → i ≤ l5.length →
    loopK (stepK i1 l5 a1 a2 a3 a4) n [D.i x, D.i (Int.ofNat i)] = some [D.b (hasK i1 a1 a2 a3 a4 (l5.drop i))] := by
  intro n
  induction n with
  | zero => intro i x h1 h2; omega
  | succ n ih =>
    intro i x h1 h2
    show stepK i1 l5 a1 a2 a3 a4 (loopK (stepK i1 l5 a1 a2 a3 a4) n) [D.i x, D.i (Int.ofNat i)] = _
    generalize loopK (stepK i1 l5 a1 a2 a3 a4) n = K at ih ⊢
    unfold stepK
    rw [show v1 [D.i x, D.i (Int.ofNat i)] = Int.ofNat i from rfl, ltN, inN, rw_nat]
    by_cases hi : i < l5.length
    · obtain ⟨hdr, hmem⟩ := drop_at hi []
      have hin := List.all_eq_true.1 hv _ hmem
      have hlt : ltI i1 (Int.ofNat (gR (l5.getD i []) 0).length) = true := by
        cases i1 with
        | ofNat j => exact hin
        | negSucc j => cases (show false = true from hin)
      rw [blt_t hi, hlt, hin, hdr]
      show ifb (eq4 (kV i1 (l5.getD i [])) a1 a2 a3 a4) (some [D.b (ifb (ltI (Int.ofNat i) (Int.ofNat 0)) false true)]) (K [D.i x, D.i (wrapF .i64 (addI (Int.ofNat i) (Int.ofNat 1)))]) = some [D.b (eq4 (kV i1 (l5.getD i [])) a1 a2 a3 a4 || hasK i1 a1 a2 a3 a4 (l5.drop (i + 1)))]
      rw [wrap1 (by unfold M at *; omega), ih (i + 1) x (by omega) hi, ltN, blt_f (Nat.zero_le _)]
      cases eq4 (kV i1 (l5.getD i [])) a1 a2 a3 a4 <;> rfl
    · rw [blt_f (by omega), List.drop_of_length_le (by omega)]; rfl
def keyedPre (ds : List D) : Bool := Nat.blt (gR ds 12).length M && (gR ds 12).all fun r => inR (gI ds 2) (gR r 0).length
def keyedF (ds : List D) : Bool := hasK (gI ds 2) (gI ds 13) (gI ds 14) (gI ds 15) (gS ds 16) (gR ds 12)
def conKeyed : Con := ⟨[.ag [.s [], .l 100 false [], .i .i64 0, .l 3 false [], .i .i64 0, .s [], .i .i64 0, .i .i64 0, .i .i64 0, .s [], .l 34 false [], .l 106 false [], .l 38 false []], .ag [.i .i64 0, .i .i64 0, .i .i64 0, .s []]], .b false, keyedPre, fun ds => [D.b (keyedF ds)], true⟩
theorem fill_keyed (ds : List D) : fill conKeyed.skA ds = [.ag [.s (gS ds 0), .l 100 false (gR ds 1), .i .i64 (gI ds 2), .l 3 false (gR ds 3), .i .i64 (gI ds 4), .s (gS ds 5), .i .i64 (gI ds 6), .i .i64 (gI ds 7), .i .i64 (gI ds 8), .s (gS ds 9), .l 34 false (gR ds 10), .l 106 false (gR ds 11), .l 38 false (gR ds 12)], .ag [.i .i64 (gI ds 13), .i .i64 (gI ds 14), .i .i64 (gI ds 15), .s (gS ds 16)]] := by
  rcases ds with _ | ⟨_, _ | ⟨_, _ | ⟨_, _ | ⟨_, _ | ⟨_, _ | ⟨_, _ | ⟨_, _ | ⟨_, _ | ⟨_, _ | ⟨_, _ | ⟨_, _ | ⟨_, _ | ⟨_, _ | ⟨_, _ | ⟨_, _ | ⟨_, _ | ⟨_, _⟩⟩⟩⟩⟩⟩⟩⟩⟩⟩⟩⟩⟩⟩⟩⟩⟩ <;> rfl
theorem keyed_ok [Tok] {fs : Nat → Option AFun} (hj : ∀ i fn, Tryz.prog.funcs[i]? = some fn → fs i = funK Tryz.prog fn) : CallG Tryz.prog fs nKeyed conKeyed.ctr := by
  have hno : CtrOk Tryz.prog fs (fun _ => none : Ctr (List D)) := by
    intro j g e; cases e
  have key : ∀ ds, conKeyed.pre ds = true → ∃ N d, codeS Tryz.prog (fun _ => none) hsK N d nKeyed (fill conKeyed.skA ds) [] (kR conKeyed.skR) = some (conKeyed.f ds) := fun ds hp => by
    refine ⟨M + 1, 9, ?_⟩
    rw [fill_keyed]
    have h : (Nat.blt (gR ds 12).length M && (gR ds 12).all fun r => inR (gI ds 2) (gR r 0).length) = true := hp
    rw [Bool.and_eq_true, Nat.blt_eq] at h
    refine (keyed_den _ _ _ _ _ _ _ _ _ _ _ _ _ _ _ _ _ _).trans ?_
    rw [keyed_loop h.1 h.2 (M + 1) 0 (Int.ofNat 0) (by omega) (Nat.zero_le _)]
    rfl
  unfold CallG
  intro Z h m sh az avs k r H V e
  exact Con.ok hno (fun i fn _ h => hj i fn h) (fun fn h => hj _ fn h) rfl key H V e
end Go.Sy


open Go Go.Av Go.Sy Go.Proofs
set_option maxRecDepth 1000000
set_option linter.all false
noncomputable section
namespace Go.Sy
abbrev nDfind := 112
abbrev nDfindC := 195
abbrev nDlinked := 157
def hsF : Nat → Hint := fun j => bif Nat.beq j nDfind then { fz := [3] } else bif Nat.beq j nDfindC then { fz := [2] } else {}
theorem dfind_den [Tok] (N : Nat) (d : List (List D)) (s : List Nat) : codeS Tryz.prog (fun _ => none) hsF N 9 nDfind [.l 81 false d, .s s] [] (kR (.i .i64 0)) = loopK (stepFind d s) N [D.i (Int.ofNat 0), D.i (Int.ofNat 0)] := by kernel_rfl
def hsD : Nat → Hint := fun j => bif Nat.beq j nDlinked then { fz := [3, 4, 5] } else {}
def ctD [Tok] : Ctr (List D) := updC (updC (fun _ => none) nDfind conFind.ctr) nKeyed conKeyed.ctr
def v2 (v : List D) : Int := D.int (hdD v.tail.tail)
def tab13 (t : List D) : List D := [D.s (gS t 0), D.l (gR t 1), D.i (gI t 2), D.l (gR t 3), D.i (gI t 4), D.s (gS t 5), D.i (gI t 6), D.i (gI t 7), D.i (gI t 8), D.s (gS t 9), D.l (gR t 10), D.l (gR t 11), D.l (gR t 12)]
def xL (c : Int) (r : List D) : List D := rw_ (gR r 0) c
def stepL (d l5 : List (List D)) (c : Int) (rec : List D → Option (List D)) (v : List D) : Option (List D) :=
  ifb (ltI (v1 v) (Int.ofNat l5.length)) (ifb (inR (v1 v) l5.length) (ifb (inR c (gR (rw_ l5 (v1 v)) 0).length)
    (ifb (ifb (eqI (gI (xL c (rw_ l5 (v1 v))) 0) (Int.ofNat 0)) false true)
      (ifb (inR (v2 v) d.length) (ifb (inR c (gR (rw_ l5 (v1 v)) 0).length) (ifb (keyedPre (tab13 (rw_ d (v2 v)) ++ four (xL c (rw_ l5 (v1 v)))))
        (ifb (ifb (D.bool (hdD [D.b (keyedF (tab13 (rw_ d (v2 v)) ++ four (xL c (rw_ l5 (v1 v)))))])) false true) (some [D.b (ifb (ifb (ltI (v1 v) (Int.ofNat 0)) false true) false true)])
          (rec [D.i (D.int (hdD v)), D.i (wrapF .i64 (addI (v1 v) (Int.ofNat 1))), D.i (v2 v)])) none) none) none)
      (rec [D.i (D.int (hdD v)), D.i (wrapF .i64 (addI (v1 v) (Int.ofNat 1))), D.i (v2 v)])) none) none) (some [D.b true])
theorem dlinked_den [Tok] (N : Nat) (d : List (List D)) (s1 : List Nat) (l1 : List (List D)) (i1 : Int) (l2 : List (List D)) (i2 : Int) (s2 : List Nat) (i3 i4 i5 : Int) (s3 : List Nat) (l3 l4 l5 : List (List D)) (c : Int) (tn : List Nat) :
    codeS Tryz.prog ctD hsD N 9 nDlinked [.l 81 false d, .ag [.s s1, .l 100 false l1, .i .i64 i1, .l 3 false l2, .i .i64 i2, .s s2, .i .i64 i3, .i .i64 i4, .i .i64 i5, .s s3, .l 34 false l3, .l 106 false l4, .l 38 false l5], .ag [.i .i64 c, .s tn]] [] (kR (.b false)) =
    ifb (findPre [D.l d, D.s tn]) (ifb (ifb (ltI (D.int (hdD [D.i (findF [D.l d, D.s tn])])) (Int.ofNat 0)) false true) (loopK (stepL d l5 c) N [D.i (Int.ofNat 0), D.i (Int.ofNat 0), D.i (D.int (hdD [D.i (findF [D.l d, D.s tn])]))]) (some [D.b false])) none := by kernel_rfl
def okD (t : List D) : Bool := Nat.blt (gR t 12).length M && (gR t 12).all fun r => inR (gI t 2) (gR r 0).length
def goodD (t : List D) (c : Int) (r : List D) : Bool := eqI (gI (xL c r) 0) (Int.ofNat 0) || hasK (gI t 2) (gI (xL c r) 0) (gI (xL c r) 1) (gI (xL c r) 2) (gS (xL c r) 3) (gR t 12)
theorem dl_loop [Tok] {d l5 : List (List D)} {c : Int} (h5 : l5.length < M) (hc : (l5.all fun r => inR c (gR r 0).length) = true) {k : Nat} (hk : k < d.length) (ht : okD (d.getD k []) = true) : ∀ (n i : Nat) (x : Int), l5.length < n + i → i ≤ l5.length →
    loopK (stepL d l5 c) n [D.i x, D.i (Int.ofNat i), D.i (Int.ofNat k)] = some [D.b ((l5.drop i).all (goodD (d.getD k []) c))] := by
  intro n
  induction n with
  | zero => intro i x h1 h2; omega
  | succ n ih =>
    intro i x h1 h2
    show stepL d l5 c (loopK (stepL d l5 c) n) [D.i x, D.i (Int.ofNat i), D.i (Int.ofNat k)] = _
    generalize loopK (stepL d l5 c) n = K at ih ⊢
    unfold stepL
    rw [show v1 [D.i x, D.i (Int.ofNat i), D.i (Int.ofNat k)] = Int.ofNat i from rfl, show v2 [D.i x, D.i (Int.ofNat i), D.i (Int.ofNat k)] = Int.ofNat k from rfl, ltN, inN, inN, rw_nat, rw_nat, blt_t hk]
    by_cases hi : i < l5.length
    · obtain ⟨hdr, hmem⟩ := drop_at hi []
      have hin := List.all_eq_true.1 hc _ hmem
      have hp : keyedPre (tab13 (d.getD k []) ++ four (xL c (l5.getD i []))) = true := ht
      have hf : keyedF (tab13 (d.getD k []) ++ four (xL c (l5.getD i []))) = hasK (gI (d.getD k []) 2) (gI (xL c (l5.getD i [])) 0) (gI (xL c (l5.getD i [])) 1) (gI (xL c (l5.getD i [])) 2) (gS (xL c (l5.getD i [])) 3) (gR (d.getD k []) 12) := rfl
      rw [blt_t hi, hin, hp, hf, hdr, List.all_cons, ltN, blt_f (Nat.zero_le _), wrap1 (by unfold M at *; omega)]
      have hr : K [D.i (D.int (hdD [D.i x, D.i (Int.ofNat i), D.i (Int.ofNat k)])), D.i (Int.ofNat (i + 1)), D.i (Int.ofNat k)] = some [D.b ((l5.drop (i + 1)).all (goodD (d.getD k []) c))] := ih (i + 1) x (by omega) hi
      rw [hr]
      unfold goodD
      cases eqI (gI (xL c (l5.getD i [])) 0) (Int.ofNat 0) with
      | true => rfl
      | false => cases hasK (gI (d.getD k []) 2) (gI (xL c (l5.getD i [])) 0) (gI (xL c (l5.getD i [])) 1) (gI (xL c (l5.getD i [])) 2) (gS (xL c (l5.getD i [])) 3) (gR (d.getD k []) 12) <;> rfl
    · rw [blt_f (by omega), List.drop_of_length_le (by omega)]; rfl
def kD (ds : List D) : Option Nat := Int.rec (fun k => some k) (fun _ => none) (findG (gS ds 15) (gR ds 0) 0)
def dlPre (ds : List D) : Bool := Nat.blt (gR ds 0).length 1000000 && Nat.blt (gR ds 13).length M && ((gR ds 13).all fun r => inR (gI ds 14) (gR r 0).length) && Option.rec false (fun k => Nat.blt k (gR ds 0).length && okD ((gR ds 0).getD k [])) (kD ds)
def dlF (ds : List D) : Bool := Option.rec false (fun k => (gR ds 13).all (goodD ((gR ds 0).getD k []) (gI ds 14))) (kD ds)
def conDl : Con := ⟨[.l 81 false [], .ag [.s [], .l 100 false [], .i .i64 0, .l 3 false [], .i .i64 0, .s [], .i .i64 0, .i .i64 0, .i .i64 0, .s [], .l 34 false [], .l 106 false [], .l 38 false []], .ag [.i .i64 0, .s []]], .b false, dlPre, fun ds => [D.b (dlF ds)], true⟩
theorem fill_dl (ds : List D) : fill conDl.skA ds = [.l 81 false (gR ds 0), .ag [.s (gS ds 1), .l 100 false (gR ds 2), .i .i64 (gI ds 3), .l 3 false (gR ds 4), .i .i64 (gI ds 5), .s (gS ds 6), .i .i64 (gI ds 7), .i .i64 (gI ds 8), .i .i64 (gI ds 9), .s (gS ds 10), .l 34 false (gR ds 11), .l 106 false (gR ds 12), .l 38 false (gR ds 13)], .ag [.i .i64 (gI ds 14), .s (gS ds 15)]] := by
  rcases ds with _ | ⟨_, _ | ⟨_, _ | ⟨_, _ | ⟨_, _ | ⟨_, _ | ⟨_, _ | ⟨_, _ | ⟨_, _ | ⟨_, _ | ⟨_, _ | ⟨_, _ | ⟨_, _ | ⟨_, _ | ⟨_, _ | ⟨_, _ | ⟨_, _⟩⟩⟩⟩⟩⟩⟩⟩⟩⟩⟩⟩⟩⟩⟩⟩ <;> rfl
theorem dfind_ok [Tok] {fs : Nat → Option AFun} (hj : ∀ i fn, Tryz.prog.funcs[i]? = some fn → fs i = funK Tryz.prog fn) : CallG Tryz.prog fs nDfind conFind.ctr := by
  have hno : CtrOk Tryz.prog fs (fun _ => none : Ctr (List D)) := by
    intro j g e; cases e
  have key : ∀ ds, conFind.pre ds = true → ∃ N d, codeS Tryz.prog (fun _ => none) hsF N d nDfind (fill conFind.skA ds) [] (kR conFind.skR) = some (conFind.f ds) := fun ds hp => by
    refine ⟨1000001, 9, ?_⟩
    rw [fill_find]
    have h : Nat.blt (gR ds 0).length 1000000 = true := hp
    rw [Nat.blt_eq] at h
    refine (dfind_den _ _ _).trans ?_
    rw [find_loop h 1000001 0 _ (by omega) (Nat.zero_le _)]
    rfl
  unfold CallG
  intro Z h m sh az avs k r H V e
  exact Con.ok hno (fun i fn _ h => hj i fn h) (fun fn h => hj _ fn h) rfl key H V e
theorem dl_ok [Tok] {fs : Nat → Option AFun} (hj : ∀ i fn, Tryz.prog.funcs[i]? = some fn → fs i = funK Tryz.prog fn) : CallG Tryz.prog fs nDlinked conDl.ctr := by
  have hno : CtrOk Tryz.prog fs (fun _ => none : Ctr (List D)) := by
    intro j g e; cases e
  have hct : CtrOk Tryz.prog fs ctD := CtrOk.upd (CtrOk.upd hno (dfind_ok hj)) (keyed_ok hj)
  have key : ∀ ds, conDl.pre ds = true → ∃ N d, codeS Tryz.prog ctD hsD N d nDlinked (fill conDl.skA ds) [] (kR conDl.skR) = some (conDl.f ds) := fun ds hp => by
    refine ⟨M + 1, 9, ?_⟩
    rw [fill_dl]
    have h : (Nat.blt (gR ds 0).length 1000000 && Nat.blt (gR ds 13).length M && ((gR ds 13).all fun r => inR (gI ds 14) (gR r 0).length) && Option.rec false (fun k => Nat.blt k (gR ds 0).length && okD ((gR ds 0).getD k [])) (kD ds)) = true := hp
    rw [Bool.and_eq_true, Bool.and_eq_true, Bool.and_eq_true, Nat.blt_eq] at h
    obtain ⟨⟨⟨h1, h2⟩, h3⟩, h4⟩ := h
    refine (dlinked_den _ _ _ _ _ _ _ _ _ _ _ _ _ _ _ _ _).trans ?_
    show _ = some [D.b (dlF ds)]
    unfold dlF
    have hfp : findPre [D.l (gR ds 0), D.s (gS ds 15)] = true := blt_t h1
    rw [hfp]
    cases hk : kD ds with
    | none => rw [hk] at h4; cases h4
    | some k =>
      rw [hk] at h4
      have h4 : (Nat.blt k (gR ds 0).length && okD ((gR ds 0).getD k [])) = true := h4
      rw [Bool.and_eq_true, Nat.blt_eq] at h4
      have hto : findF [D.l (gR ds 0), D.s (gS ds 15)] = Int.ofNat k := by
        show findG (gS ds 15) (gR ds 0) 0 = _
        unfold kD at hk
        cases e : findG (gS ds 15) (gR ds 0) 0 with
        | ofNat j => rw [e] at hk; cases hk; rfl
        | negSucc j => rw [e] at hk; cases hk
      rw [hto]
      show loopK (stepL (gR ds 0) (gR ds 13) (gI ds 14)) (M + 1) [D.i (Int.ofNat 0), D.i (Int.ofNat 0), D.i (Int.ofNat k)] = _
      have h2' : (gR ds 13).length < M := by rwa [Nat.blt_eq] at h2
      rw [dl_loop h2' h3 h4.1 h4.2 (M + 1) 0 (Int.ofNat 0) (by omega) (Nat.zero_le _)]
      rfl
  unfold CallG
  intro Z h m sh az avs k r H V e
  exact Con.ok hct (fun i fn _ h => hj i fn h) (fun fn h => hj _ fn h) rfl key H V e
end Go.Sy


open Go Go.Av Go.Sy Go.Proofs
set_option linter.all false
namespace Go.Av
theorem own_funs [Tok] : ∀ (i : Nat) (fn : Func), Tryz.prog.funcs[i]? = some fn → ownF Tryz.prog i = funK Tryz.prog fn := by
  intro i fn h
  unfold ownF
  simp only [h]
end Go.Av
