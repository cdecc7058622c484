/- A part of the proof: what a machine of our own over the model's code answers is what the model does; no condition. -/
import Derived.Test.YtglejgncbghngaaGreatDoorSyC
import Derived.Test.YtglejgncbghngaaGreatDoorCoA
import Derived.Test.YtglejgncbghngaaGreatDoorEnA
set_option linter.all false
open Go Go.Av Go.Sy Go.Proofs
set_option maxRecDepth 1000000
set_option linter.all false
noncomputable section
namespace Go.Sy
/-! ### slices.Contains of texts; dump.ready; strings.Compare -/
def gS (r : List D) (k : Nat) : List Nat := D.str (List.getD r k (D.i (Int.ofNat 0)))
def gR (r : List D) (k : Nat) : List (List D) := D.rows (List.getD r k (D.i (Int.ofNat 0)))
def rw_ (l : List (List D)) (i : Int) : List D := List.getD l (toN i) []
def v1 (v : List D) : Int := D.int (hdD (List.tail v))
def one (x : Int) : Int := wrapF .i64 (addI x (Int.ofNat 1))
/-- how two texts compare -/
def cmpG (a b : List Nat) : Int := ifb (sless a b) (-1) (ifb (seq a b) 0 1)
def cmpCtr (l : List SV) (sh : SH) (k : SV → SH → Option (List D)) : Option (List D) := match l with
  | [.s a, .s b] => k (.i .i64 (cmpG a b)) sh
  | _ => none
/-- not to be called -/
def noCtr (l : List SV) (sh : SH) (k : SV → SH → Option (List D)) : Option (List D) := none
/-- what all contracts stand on -/
def base : Ctr (List D) := fun j => bif Nat.beq j 231 then some cmpCtr else bif Nat.beq j 17 then some noCtr else bif Nat.beq j 18 then some noCtr else none
/-- is a text one of some? -/
def hasG (l : List (List D)) (s : List Nat) : Bool := l.any fun r => seq s (gS r 0)
def few (l : List (List D)) : Bool := Nat.blt l.length 1000000
def hasPre (ds : List D) : Bool := few (gR ds 0)
def conHas : Con := ⟨[.l 9 false [], .s []], .b false, hasPre, fun ds => [.b (hasG (gR ds 0) (gS ds 1))], true⟩
def stepHas (l : List (List D)) (s : List Nat) (rec : List D → Option (List D)) (v : List D) : Option (List D) :=
  ifb (ltI (v1 v) (Int.ofNat l.length)) (ifb (inR (v1 v) l.length) (ifb (seq s (gS (rw_ l (v1 v)) 0)) (some [D.b (ifb (ltI (v1 v) (Int.ofNat 0)) false true)]) (rec [D.i (D.int (hdD v)), D.i (one (v1 v))])) none)
    (some [D.b (ifb (ltI (Int.negSucc 0) (Int.ofNat 0)) false true)])
theorem has_den [Tok] (N : Nat) (l : List (List D)) (s : List Nat) : codeS Tryz.prog base (fun _ => {}) N 9 233 [.l 9 false l, .s s] [] (kR (.b false)) = loopK (stepHas l s) N [D.i (Int.ofNat 0), D.i (Int.ofNat 0)] := by kernel_rfl
/-! ready -/
abbrev tabS : List SV := [.s [], .l 44 false [], .i .i64 0, .l 3 false [], .i .i64 0, .s [], .i .i64 0, .i .i64 0, .i .i64 0, .s [], .l 50 false [], .l 55 false []]
/-- are a table's links to itself, and to some? -/
def rdyG (s : List Nat) (links names : List (List D)) : Bool := links.all fun l => hasG (names ++ [[D.s s]]) (gS l 1)
def rdyPre (ds : List D) : Bool := few (gR ds 11) && Nat.blt (gR ds 12).length 1000
def conRdy : Con := ⟨[.ag tabS, .l 9 false []], .b false, rdyPre, fun ds => [.b (rdyG (gS ds 0) (gR ds 11) (gR ds 12))], true⟩
def ctA [Tok] : Ctr (List D) := fun j => bif Nat.beq j 233 then some conHas.ctr else base j
def stepRdy (links names : List (List D)) (rec : List D → Option (List D)) (v : List D) : Option (List D) :=
  let nm := (hdD v.tail.tail).rows
  ifb (ltI (v1 v) (Int.ofNat links.length)) (ifb (inR (v1 v) links.length) (ifb (hasPre [D.l nm, D.s (gS (rw_ links (v1 v)) 1)])
    (ifb (ifb (hasG nm (gS (rw_ links (v1 v)) 1)) false true) (some [D.b (ifb (ifb (ltI (v1 v) (Int.ofNat 0)) false true) false true)])
      (rec [D.i (D.int (hdD v)), D.i (one (v1 v)), D.l nm])) none) none) (some [D.b (ifb (ifb (ltI (Int.negSucc 0) (Int.ofNat 0)) false true) false true)])
def rdyL (N : Nat) (links names : List (List D)) : Option (List D) := loopK (stepRdy links names) N [D.i (Int.ofNat 0), D.i (Int.ofNat 0), D.l names]
def hsA (j : Nat) : Hint := { fz := [2] }
theorem rdy_den [Tok] (N : Nat) (s1 : List Nat) (l1 : List (List D)) (i1 : Int) (l2 : List (List D)) (i2 : Int) (s2 : List Nat) (i3 i4 i5 : Int) (s3 : List Nat) (l3 l4 names : List (List D)) :
    codeS Tryz.prog ctA hsA N 9 58 [.ag [.s s1, .l 44 false l1, .i .i64 i1, .l 3 false l2, .i .i64 i2, .s s2, .i .i64 i3, .i .i64 i4, .i .i64 i5, .s s3, .l 50 false l3, .l 55 false l4], .l 9 false names] [] (kR (.b false)) =
    ifb (Nat.ble 1 names.length)
      (ifb (Nat.beq names.length 0) (ifb (fitsA 1 16) (rdyL N l4 [[D.s s1]]) none) (ifb (fitsA (Nat.add 0 names.length) 16) (ifb (fitsA (Nat.succ names.length) 16) (rdyL N l4 (names ++ [[D.s s1]])) none) none))
      (both (ifb (fitsA 1 16) (rdyL N l4 [[D.s s1]]) none)
        (ifb (Nat.beq names.length 0) (ifb (fitsA 1 16) (rdyL N l4 [[D.s s1]]) none) (ifb (fitsA (Nat.add 0 names.length) 16) (ifb (fitsA (Nat.succ names.length) 16) (rdyL N l4 (names ++ [[D.s s1]])) none) none))) := by kernel_rfl
end Go.Sy


open Go Go.Av Go.Sy Go.Proofs
set_option maxRecDepth 1000000
set_option linter.all false
noncomputable section
namespace Go.Sy
/-! ### strings.Compare, bits.Len -/
theorem cmp_den [Tok] (a b : List Nat) : codeS Tryz.prog base (fun _ => {}) 100 9 55 [.s a, .s b] [] (kR (.i .i64 0)) = some [.i (cmpG a b)] := by kernel_rfl
/-! ### dump.Order -/
section
variable (cmpI : List Nat → List Nat → Int) (lenI : Int → Int)
def conCmp : Con := ⟨[.s [], .s []], .i .i64 0, fun _ => true, fun ds => [.i (cmpI (gS ds 0) (gS ds 1))], true⟩
def conLen : Con := ⟨[.i .u64 0], .i .i64 0, fun ds => inR (D.int (List.getD ds 0 (.i (Int.ofNat 0)))) 13, fun ds => [.i (lenI (D.int (List.getD ds 0 (.i (Int.ofNat 0)))))], true⟩
def ctO [Tok] : Ctr (List D) := fun j => bif Nat.beq j 58 then some conRdy.ctr else bif Nat.beq j 55 then some (conCmp cmpI).ctr else bif Nat.beq j 120 then some (conLen lenI).ctr else base j
def hsO (j : Nat) : Hint := bif Nat.beq j 19 then { view := [3], boxes := [9] } else bif Nat.beq j 221 then { wr := [0] } else bif Nat.beq j 119 then { prune := [5], wr := [0] } else bif Nat.beq j 54 then { fz := [2, 3] } else bif Nat.beq j 57 then { fz := [2] } else {}
def gI (r : List D) (k : Nat) : Int := D.int (List.getD r k (D.i (Int.ofNat 0)))
def dec1 (x : Int) : Int := wrapF .i64 (subI x (Int.ofNat 1))
/-- an element's cells, one by one -/
def ex12 (r : List D) : List D := [.s (gS r 0), .l (gR r 1), .i (gI r 2), .l (gR r 3), .i (gI r 4), .s (gS r 5), .i (gI r 6), .i (gI r 7), .i (gI r 8), .s (gS r 9), .l (gR r 10), .l (gR r 11)]
def ex13 (r : List D) : List D := [.s (gS r 0), .l (gR r 1), .i (gI r 2), .l (gR r 3), .i (gI r 4), .s (gS r 5), .i (gI r 6), .i (gI r 7), .i (gI r 8), .s (gS r 9), .l (gR r 10), .l (gR r 11), .l (gR r 12)]
def zero13 : List D := [.s [], .l [], .i (Int.ofNat 0), .l [], .i (Int.ofNat 0), .s [], .i (Int.ofNat 0), .i (Int.ofNat 0), .i (Int.ofNat 0), .s [], .l [], .l [], .l []]
/-- one is told, and taken away -/
def putO (lo hi : Nat) (rows out : List (List D)) (AT : Int) (rec : List D → Option (List D)) : Option (List D) :=
  let LEN := Nat.sub hi lo
  let NL := Nat.sub rows.length lo
  let AT1 := one AT
  let a := Nat.add lo (toN AT)
  let out' : D := .l (out ++ [[.s (gS (rows.getD a []) 0)]])
  let mv := List.take (Nat.sub (Nat.add lo (toN (Int.ofNat LEN))) (Nat.add lo (toN AT1))) (List.drop (Nat.add lo (toN AT1)) rows)
  let lo0 := Nat.add lo (toN (Int.ofNat 0))
  let cl (rows2 : List (List D)) (hi2 : Nat) : Option (List D) :=
    ifb (ifb (inB (Int.ofNat LEN) (Nat.sub rows2.length lo0)) (ifb (inB (Int.ofNat (Nat.sub hi2 lo0)) (toN (Int.ofNat LEN))) (ifb (inB (Int.ofNat LEN) (toN (Int.ofNat (Nat.sub rows2.length lo0)))) (inB (Int.ofNat (Nat.sub rows2.length lo0)) (Nat.sub rows2.length lo0)) false) false) false)
      (rec [.i (Int.ofNat lo0), .i (Int.ofNat hi2), .l (List.take (Nat.add lo0 (toN (Int.ofNat (Nat.sub hi2 lo0)))) rows2 ++ (List.replicate (Nat.sub (Nat.add lo0 (toN (Int.ofNat LEN))) (Nat.add lo0 (toN (Int.ofNat (Nat.sub hi2 lo0))))) zero13 ++ List.drop (Nat.add lo0 (toN (Int.ofNat LEN))) rows2)), out']) none
  ifb (inR AT LEN) (ifb (fitsA (Nat.succ out.length) 16) (ifb (ifb (inB AT1 NL) (ifb (inB AT (toN AT1)) (ifb (inB AT1 (toN (Int.ofNat LEN))) (inB (Int.ofNat LEN) NL) false) false) false)
    (ifb (eqI AT AT1) (rec [.i (Int.ofNat lo), .i (Int.ofNat hi), .l rows, out'])
      (ifb (ifb (inB AT NL) (ifb (inB (Int.ofNat 0) (toN AT)) (ifb (inB AT (toN (Int.ofNat NL))) (inB (Int.ofNat NL) NL) false) false) false)
        (ifb (ifb (inB (Int.ofNat LEN) NL) (ifb (inB AT1 (toN (Int.ofNat LEN))) (ifb (inB (Int.ofNat LEN) (toN (Int.ofNat NL))) (inB (Int.ofNat NL) NL) false) false) false)
          (ifb (Nat.beq mv.length 0) (cl rows a)
            (ifb (Nat.ble (Nat.add a mv.length) rows.length) (cl (List.take a rows ++ (mv ++ List.drop (Nat.add a mv.length) rows)) (Nat.add a mv.length)) none)) none) none)) none) none) none
/-- which is the first that may be told? -/
def step4 (lo hi : Nat) (rows : List (List D)) (rec3 : List D → Option (List D)) (rec : List D → Option (List D)) (v : List D) : Option (List D) :=
  let i := v1 v
  let out := (hdD v.tail.tail).rows
  let row := rows.getD (Nat.add lo (toN i)) []
  ifb (ltI i (Int.ofNat (Nat.sub hi lo))) (ifb (inR i (Nat.sub hi lo)) (ifb (rdyPre (ex12 row ++ [.l out])) (ifb (rdyG (gS row 0) (gR row 11) out)
    (putO lo hi rows out (ifb (ltI (Int.ofNat 0) i) i (Int.ofNat 0)) rec3) (rec [.i (hdD v).int, .i (one i), .l out])) none) none)
    (putO lo hi rows out (ifb (ltI (Int.ofNat 0) (Int.negSucc 0)) (Int.negSucc 0) (Int.ofNat 0)) rec3)
def finO (out : List (List D)) : Option (List D) :=
  let e : Option (List D) := ifb (Nat.beq out.length 0) (some [.l []]) (ifb (fitsA (Nat.add 0 out.length) 16) (some [.l out]) none)
  ifb (Nat.ble 1 out.length) e (both (some [.l []]) e)
def step3 (N : Nat) (rec : List D → Option (List D)) (v : List D) : Option (List D) :=
  let lo := toN (hdD v).int
  let hi := toN (v1 v)
  let rows := (hdD v.tail.tail).rows
  let out := (hdD v.tail.tail.tail).rows
  ifb (ifb (ifb (ltI (Int.ofNat 0) (Int.ofNat (Nat.sub hi lo))) false true) false true) (loopK (step4 lo hi rows rec) N [.i (Int.ofNat 0), .i (Int.ofNat 0), .l out]) (finO out)
/-- what comes behind the sorting -/
def afterO (N : Nat) (rows : List (List D)) : Option (List D) := loopK (step3 N) N [.i (Int.ofNat 0), .i (Int.ofNat rows.length), .l rows, .l []]
def step2 (a i : Int) (rowsH rows5 : List (List D)) (rec1 : List D → Option (List D)) (rec : List D → Option (List D)) (v : List D) : Option (List D) :=
  let j := (hdD v).int
  let rows := (hdD v.tail).rows
  let n := rows.length
  let out : Option (List D) := ifb (ifb (Nat.beq n rows5.length) true false) (rec1 [.i (one i), .l rows]) none
  let s1 := List.set rows (toN j) (ex13 (rows.getD (toN (dec1 j)) []))
  let s2 := List.set s1 (toN (dec1 j)) (ex13 (rows.getD (toN j) []))
  ifb (ifb (ifb (ltI a j) false true) false true)
    (ifb (inR j n) (ifb (inR (dec1 j) n) (ifb (ltI (cmpI (gS (rows.getD (toN j) []) 0) (gS (rows.getD (toN (dec1 j)) []) 0)) (Int.ofNat 0))
      (ifb (inR (dec1 j) n) (ifb (inR j n) (ifb (inR j n) (ifb (inR (dec1 j) s1.length) (ifb (ifb (Nat.beq s2.length rowsH.length) true false) (rec [.i (dec1 j), .l s2]) none) none) none) none) none)
      out) none) none) out
def step1 (N : Nat) (a b : Int) (rows5 : List (List D)) (rec : List D → Option (List D)) (v : List D) : Option (List D) :=
  let i := (hdD v).int
  let rows := (hdD v.tail).rows
  ifb (ltI i b) (loopK (step2 cmpI a i rows rows5 rec) N [.i i, .l rows]) (afterO N rows)
def step0 (N : Nat) (rec : List D → Option (List D)) (v : List D) : Option (List D) :=
  let a := (hdD v).int
  let b := v1 v
  let rows := (hdD v.tail.tail.tail.tail.tail).rows
  ifb (ifb (ltI (Int.ofNat 12) (wrapF .i64 (subI b a))) false true) (loopK (step1 cmpI N a b rows) N [.i (one a), .l rows]) none
def orderD (N : Nat) (d : List (List D)) : Option (List D) :=
  ifb (fitsA (Nat.add 0 d.length) 208) (ifb (inR (wrapF .u64 (Int.ofNat d.length)) 13) (loopK (step0 cmpI N) N [.i (Int.ofNat 0), .i (Int.ofNat d.length), .i (lenI (wrapF .u64 (Int.ofNat d.length))), .b true, .b true, .l d]) none) none
theorem order_den [Tok] (N : Nat) (r : List D) (q : List (List D)) : codeS Tryz.prog (ctO cmpI lenI) hsO N 9 19 [.l 58 false (r :: q)] [] (kO 9) = orderD cmpI lenI N (r :: q) := by kernel_rfl
end
end Go.Sy


open Go Go.Av Go.Sy Go.Proofs
set_option maxRecDepth 1000000
set_option linter.all false
noncomputable section
namespace Go.Sy
/-! ### The contracts are so -/
theorem wrap1 {i : Nat} (h : i < 1000000) : one (Int.ofNat i) = Int.ofNat (i + 1) := by
  show ifb (Nat.blt (i + 1) 4611686018427387904) (Int.ofNat (i + 1)) _ = _
  have : Nat.blt (i + 1) 4611686018427387904 = true := by rw [Nat.blt_eq]; omega
  rw [this]
theorem ltN (i n : Nat) : ltI (Int.ofNat i) (Int.ofNat n) = Nat.blt i n := rfl
theorem inN (i n : Nat) : inR (Int.ofNat i) n = Nat.blt i n := rfl
theorem blt_t {i n : Nat} (h : i < n) : Nat.blt i n = true := by rw [Nat.blt_eq]; exact h
theorem blt_f {i n : Nat} (h : n ≤ i) : Nat.blt i n = false := by
  cases e : Nat.blt i n with
  | false => rfl
  | true => rw [Nat.blt_eq] at e; omega
theorem rw_nat (l : List (List D)) (i : Nat) : rw_ l (Int.ofNat i) = l.getD i [] := rfl
theorem drop_at {α : Type} {l : List α} {i : Nat} (h : i < l.length) (z : α) : l.drop i = l.getD i z :: l.drop (i + 1) ∧ l.getD i z ∈ l := by
  have e : l.getD i z = l[i] := by rw [List.getD_eq_getElem?_getD, List.getElem?_eq_getElem h]; rfl
  rw [e]; exact ⟨List.drop_eq_getElem_cons h, List.getElem_mem h⟩
theorem has_loop [Tok] {l : List (List D)} {s : List Nat} (hl : l.length < 1000000) : ∀ (n i : Nat) (x : Int), l.length < n + i → i ≤ l.length →
    loopK (stepHas l s) n [D.i x, D.i (Int.ofNat i)] = some [D.b (hasG (l.drop i) s)] := by
  intro n
  induction n with
  | zero => intro i x h1 h2; omega
  | succ n ih =>
    intro i x h1 h2
    show stepHas l s (loopK (stepHas l s) n) [D.i x, D.i (Int.ofNat i)] = _
    generalize loopK (stepHas l s) n = K at ih ⊢
    unfold stepHas
    rw [show v1 [D.i x, D.i (Int.ofNat i)] = Int.ofNat i from rfl, ltN, inN, rw_nat, ltN]
    by_cases hi : i < l.length
    · rw [blt_t hi, ifb_true, ifb_true, (drop_at hi []).1]
      show _ = some [D.b (seq s (gS (l.getD i []) 0) || hasG (l.drop (i + 1)) s)]
      cases e : seq s (gS (l.getD i []) 0) with
      | true => rw [blt_f (Nat.zero_le i)]; rfl
      | false =>
        rw [ifb_false, wrap1 (by omega)]
        exact ih (i + 1) _ (by omega) hi
    · rw [blt_f (by omega), ifb_false, List.drop_of_length_le (by omega)]; rfl
instance glbK : Glb := ⟨GG⟩
/-- the functions: the program's own, and the texts' order -/
def fsO [Tok] (k : Nat) : Option AFun := ifb (Nat.beq k 231) (some (.sem cmpA)) (ifb (Nat.beq k 17) (some (.sem (pureC TTDw 20 [] (memoF l17)))) (ifb (Nat.beq k 18) (some (.sem wSem)) (ownF Tryz.prog k)))
theorem fsO_ok [Tok] : FsOk Tryz.prog fsO := by
  intro k fn h
  unfold fsO at h
  rcases ifb_or h with ⟨h1, h⟩ | ⟨_, h⟩
  · cases h; rw [Nat.eq_of_beq_eq_true h1]; exact .sem (cmp_sem tz_cmp)
  rcases ifb_or h with ⟨h1, h⟩ | ⟨_, h⟩
  · cases h; rw [Nat.eq_of_beq_eq_true h1]; exact .sem (pureC_sem p17 tz_lt)
  rcases ifb_or h with ⟨h1, h⟩ | ⟨_, h⟩
  · cases h; rw [Nat.eq_of_beq_eq_true h1]; exact .sem (wSem_ok within_ok18)
  exact ownF_ok tz_gor h
/-- those that are the program's own -/
def ownP (i : Nat) : Bool := !(Nat.beq i 231 || Nat.beq i 17 || Nat.beq i 18)
theorem fs_own [Tok] {i : Nat} (h1 : ownP i = true) {fn : Func} (h : Tryz.prog.funcs[i]? = some fn) : fsO i = funK Tryz.prog fn := by
  unfold ownP at h1
  simp only [Bool.not_eq_true', Bool.or_eq_false_iff] at h1
  unfold fsO
  rw [h1.1.1, h1.1.2, h1.2]
  show ownF Tryz.prog i = _
  unfold ownF
  simp only [h]
/-- contracts that hold, over functions most of which are the program's own -/
structure Stand [Tok] (fs : Nat → Option AFun) (ct : Ctr (List D)) : Prop where
  ok : CtrOk Tryz.prog fs ct
  own : ∀ i fn, ct i = none → Tryz.prog.funcs[i]? = some fn → fs i = funK Tryz.prog fn
theorem cmp_ok [Tok] {fs : Nat → Option AFun} (hf : fs 231 = some (.sem cmpA)) : CallG Tryz.prog fs 231 cmpCtr := by
  unfold CallG
  intro Z h m sh sl avs k r H V e
  unfold cmpCtr at e
  split at e
  · rename_i a b
    simp only [SVRL, SVR] at V
    obtain ⟨_, _, rfl, rfl, _, _, rfl, rfl, rfl⟩ := V
    refine ⟨.i .i64 (cmpG a b), h, Z, m, sh, _, Evn.of fun n => ?_, Tran.refl H, by simp only [SVR], e⟩
    unfold callF
    rw [hf]
    rfl
  · cases e
theorem no_ok [Tok] {fs : Nat → Option AFun} {j : Nat} : CallG Tryz.prog fs j noCtr := by
  unfold CallG
  intro Z h m sh sl avs k r H V e
  cases e
theorem base_ok [Tok] : Stand fsO base := by
  refine ⟨?_, fun i fn h hf => ?_⟩
  · unfold CtrOk
    intro i g h
    unfold base at h
    cases hb : Nat.beq i 231 with
    | true => rw [hb] at h; cases h; rw [Nat.eq_of_beq_eq_true hb]; exact cmp_ok rfl
    | false =>
    rw [hb] at h
    cases hc : Nat.beq i 17 with
    | true => rw [hc] at h; cases h; exact no_ok
    | false =>
    rw [hc] at h
    cases hd : Nat.beq i 18 with
    | true => rw [hd] at h; cases h; exact no_ok
    | false => rw [hd] at h; cases h
  · unfold base at h
    refine fs_own ?_ hf
    unfold ownP
    cases hb : Nat.beq i 231 with
    | true => rw [hb] at h; cases h
    | false =>
    rw [hb] at h
    cases hc : Nat.beq i 17 with
    | true => rw [hc] at h; cases h
    | false =>
    rw [hc] at h
    cases hd : Nat.beq i 18 with
    | true => rw [hd] at h; cases h
    | false => rfl
theorem Stand.upd [Tok] {fs : Nat → Option AFun} {ct ct' : Ctr (List D)} (h : Stand fs ct) {j : Nat} {g : List SV → SH → (SV → SH → Option (List D)) → Option (List D)} (hg : CallG Tryz.prog fs j g) (he : ∀ i, ct' i = bif Nat.beq i j then some g else ct i) : Stand fs ct' := by
  refine ⟨?_, fun i fn hn hf => ?_⟩
  · unfold CtrOk
    intro i g' hi
    rw [he] at hi
    cases hb : Nat.beq i j with
    | true => rw [hb] at hi; cases hi; rw [Nat.eq_of_beq_eq_true hb]; exact hg
    | false => rw [hb] at hi; exact h.ok i g' hi
  · rw [he] at hn
    cases hb : Nat.beq i j with
    | true => rw [hb] at hn; cases hn
    | false => rw [hb] at hn; exact h.own i fn hn hf
theorem rdy_loop [Tok] {links names : List (List D)} (hl : links.length < 1000000) (hn : names.length < 1000000) : ∀ (n i : Nat) (x : Int), links.length < n + i → i ≤ links.length →
    loopK (stepRdy links names) n [D.i x, D.i (Int.ofNat i), D.l names] = some [D.b ((links.drop i).all fun l => hasG names (gS l 1))] := by
  intro n
  induction n with
  | zero => intro i x h1 h2; omega
  | succ n ih =>
    intro i x h1 h2
    show stepRdy links names (loopK (stepRdy links names) n) [D.i x, D.i (Int.ofNat i), D.l names] = _
    generalize loopK (stepRdy links names) n = K at ih ⊢
    unfold stepRdy
    simp only [show v1 [D.i x, D.i (Int.ofNat i), D.l names] = Int.ofNat i from rfl, show (hdD [D.i x, D.i (Int.ofNat i), D.l names].tail.tail).rows = names from rfl, show (hdD [D.i x, D.i (Int.ofNat i), D.l names]).int = x from rfl]
    rw [ltN, inN, rw_nat, ltN]
    by_cases hi : i < links.length
    · rw [blt_t hi, ifb_true, ifb_true, (drop_at hi []).1]
      rw [show hasPre [D.l names, D.s (gS (links.getD i []) 1)] = true from blt_t hn, ifb_true]
      show _ = some [D.b (hasG names (gS (links.getD i []) 1) && (links.drop (i + 1)).all fun l => hasG names (gS l 1))]
      cases e : hasG names (gS (links.getD i []) 1) with
      | false => rw [blt_f (Nat.zero_le i)]; rfl
      | true =>
        show K [D.i x, D.i (one (Int.ofNat i)), D.l names] = _
        rw [wrap1 (by omega)]
        exact ih (i + 1) _ (by omega) hi
    · rw [blt_f (by omega), ifb_false, List.drop_of_length_le (by omega)]; rfl
theorem own_at [Tok] {j : Nat} (h : ownP j = true) : ∀ fn, Tryz.prog.funcs[j]? = some fn → fsO j = funK Tryz.prog fn := fun fn hf => fs_own h hf
theorem has_ok [Tok] : CallG Tryz.prog fsO 233 conHas.ctr := by
  refine Con.ok (ct := base) (hs := fun _ => {}) base_ok.ok base_ok.own (own_at rfl) rfl fun ds hp => ?_
  have hl : (gR ds 0).length < 1000000 := by rw [← Nat.blt_eq]; exact hp
  refine ⟨(gR ds 0).length + 1, 9, ?_⟩
  have e := has_den ((gR ds 0).length + 1) (gR ds 0) (gS ds 1)
  rw [has_loop hl _ 0 _ (by omega) (by omega), List.drop_zero] at e
  have ef : fill conHas.skA ds = [.l 9 false (gR ds 0), .s (gS ds 1)] := by
    cases ds with
    | nil => rfl
    | cons a r => cases r <;> rfl
  rw [ef]; exact e
end Go.Sy


open Go Go.Av Go.Sy Go.Proofs
set_option maxRecDepth 1000000
set_option linter.all false
noncomputable section
namespace Go.Sy
theorem tl_getD (l : List D) (k : Nat) (d : D) : l.tail.getD k d = l.getD (k + 1) d := by cases l <;> simp
theorem both_self {ρ : Type} (x : Option ρ) : both x x = x := by unfold both; rw [if_pos rfl]
theorem fits_sm {n b : Nat} (h : n < 1000000) (hb : b ≤ 1000) : fitsA n b = true := by
  rw [fitsA_iff]
  have h1 : 140737488355328 / 1001 ≤ 140737488355328 / (b + 1) := Nat.div_le_div_left (by omega) (by omega)
  have h2 : (140737488355328 : Nat) / 1001 = 140596891463 := by decide
  omega
theorem fill_rdy (ds : List D) : fill conRdy.skA ds = [.ag [.s (gS ds 0), .l 44 false (gR ds 1), .i .i64 (gI ds 2), .l 3 false (gR ds 3), .i .i64 (gI ds 4), .s (gS ds 5), .i .i64 (gI ds 6), .i .i64 (gI ds 7), .i .i64 (gI ds 8), .s (gS ds 9), .l 50 false (gR ds 10), .l 55 false (gR ds 11)], .l 9 false (gR ds 12)] := by
  show [SV.ag [.s (hdD ds).str, .l 44 false (hdD ds.tail).rows, .i .i64 (hdD ds.tail.tail).int, .l 3 false (hdD ds.tail.tail.tail).rows, .i .i64 (hdD ds.tail.tail.tail.tail).int, .s (hdD ds.tail.tail.tail.tail.tail).str, .i .i64 (hdD ds.tail.tail.tail.tail.tail.tail).int, .i .i64 (hdD ds.tail.tail.tail.tail.tail.tail.tail).int, .i .i64 (hdD ds.tail.tail.tail.tail.tail.tail.tail.tail).int, .s (hdD ds.tail.tail.tail.tail.tail.tail.tail.tail.tail).str, .l 50 false (hdD ds.tail.tail.tail.tail.tail.tail.tail.tail.tail.tail).rows, .l 55 false (hdD ds.tail.tail.tail.tail.tail.tail.tail.tail.tail.tail.tail).rows], .l 9 false (hdD ds.tail.tail.tail.tail.tail.tail.tail.tail.tail.tail.tail.tail).rows] = _
  simp only [hdD, tl_getD, gS, gR, gI]
  rfl
theorem rdyL_eq [Tok] {N : Nat} {links names : List (List D)} (hl : links.length < 1000000) (hn : names.length < 1000000) (hN : links.length < N) : rdyL N links names = some [.b (links.all fun l => hasG names (gS l 1))] := by
  unfold rdyL
  have := rdy_loop hl hn N 0 (Int.ofNat 0) (by omega) (by omega)
  rw [List.drop_zero] at this
  exact this
theorem ctA_ok [Tok] : Stand fsO ctA := base_ok.upd has_ok fun i => rfl
theorem rdy_ok [Tok] : CallG Tryz.prog fsO 58 conRdy.ctr := by
  refine Con.ok (ct := ctA) (hs := hsA) ctA_ok.ok ctA_ok.own (own_at rfl) rfl fun ds hp => ?_
  have hp : (few (gR ds 11) && Nat.blt (gR ds 12).length 1000) = true := hp
  simp only [Bool.and_eq_true] at hp
  have hl : (gR ds 11).length < 1000000 := by rw [← Nat.blt_eq]; exact hp.1
  have hn : (gR ds 12).length < 1000 := by rw [← Nat.blt_eq]; exact hp.2
  refine ⟨(gR ds 11).length + 1, 9, ?_⟩
  rw [fill_rdy]
  refine (rdy_den ((gR ds 11).length + 1) (gS ds 0) (gR ds 1) (gI ds 2) (gR ds 3) (gI ds 4) (gS ds 5) (gI ds 6) (gI ds 7) (gI ds 8) (gS ds 9) (gR ds 10) (gR ds 11) (gR ds 12)).trans ?_
  show _ = some [D.b (rdyG (gS ds 0) (gR ds 11) (gR ds 12))]
  generalize gR ds 12 = names at hn ⊢
  generalize gR ds 11 = links at hl ⊢
  generalize gS ds 0 = s
  unfold rdyG
  cases names with
  | nil =>
    rw [rdyL_eq (names := [[D.s s]]) hl (by simp) (by omega)]
    rw [fits_sm (n := 1) (b := 16) (by omega) (by omega)]
    show both _ _ = _
    exact both_self _
  | cons a r =>
    rw [rdyL_eq (names := (a :: r) ++ [[D.s s]]) hl (by simp at hn ⊢; omega) (by omega)]
    have h1 : Nat.ble 1 (a :: r).length = true := by rw [Nat.ble_eq]; simp
    have h2 : Nat.beq (a :: r).length 0 = false := rfl
    have e1 : Nat.add 0 (a :: r).length = (a :: r).length := by show 0 + _ = _; omega
    rw [h1, h2, e1, fits_sm (n := (a :: r).length) (b := 16) (by omega) (by omega), fits_sm (n := Nat.succ (a :: r).length) (b := 16) (by show _ + 1 < _; omega) (by omega)]
/-! strings.Compare -/
theorem str_ok [Tok] : CallG Tryz.prog fsO 55 (conCmp cmpG).ctr := by
  refine Con.ok (ct := base) (hs := fun _ => {}) base_ok.ok base_ok.own (own_at rfl) rfl fun ds hp => ?_
  refine ⟨100, 9, ?_⟩
  have ef : fill (conCmp cmpG).skA ds = [.s (gS ds 0), .s (gS ds 1)] := by
    cases ds with
    | nil => rfl
    | cons a r => cases r <;> rfl
  rw [ef]; exact cmp_den (gS ds 0) (gS ds 1)
/-! bits.Len of so few -/
def lenG (n : Int) : Int := ([0, 1, 2, 2, 3, 3, 3, 3, 4, 4, 4, 4, 4] : List Int).getD (toN n) 0
theorem len_d0 [Tok] : codeS Tryz.prog base (fun _ => {}) 100 9 120 [.i .u64 (Int.ofNat 0)] [] (kR (.i .i64 0)) = some [.i (lenG (Int.ofNat 0))] := by kernel_rfl
theorem len_d1 [Tok] : codeS Tryz.prog base (fun _ => {}) 100 9 120 [.i .u64 (Int.ofNat 1)] [] (kR (.i .i64 0)) = some [.i (lenG (Int.ofNat 1))] := by kernel_rfl
theorem len_d2 [Tok] : codeS Tryz.prog base (fun _ => {}) 100 9 120 [.i .u64 (Int.ofNat 2)] [] (kR (.i .i64 0)) = some [.i (lenG (Int.ofNat 2))] := by kernel_rfl
theorem len_d3 [Tok] : codeS Tryz.prog base (fun _ => {}) 100 9 120 [.i .u64 (Int.ofNat 3)] [] (kR (.i .i64 0)) = some [.i (lenG (Int.ofNat 3))] := by kernel_rfl
theorem len_d4 [Tok] : codeS Tryz.prog base (fun _ => {}) 100 9 120 [.i .u64 (Int.ofNat 4)] [] (kR (.i .i64 0)) = some [.i (lenG (Int.ofNat 4))] := by kernel_rfl
theorem len_d5 [Tok] : codeS Tryz.prog base (fun _ => {}) 100 9 120 [.i .u64 (Int.ofNat 5)] [] (kR (.i .i64 0)) = some [.i (lenG (Int.ofNat 5))] := by kernel_rfl
theorem len_d6 [Tok] : codeS Tryz.prog base (fun _ => {}) 100 9 120 [.i .u64 (Int.ofNat 6)] [] (kR (.i .i64 0)) = some [.i (lenG (Int.ofNat 6))] := by kernel_rfl
theorem len_d7 [Tok] : codeS Tryz.prog base (fun _ => {}) 100 9 120 [.i .u64 (Int.ofNat 7)] [] (kR (.i .i64 0)) = some [.i (lenG (Int.ofNat 7))] := by kernel_rfl
theorem len_d8 [Tok] : codeS Tryz.prog base (fun _ => {}) 100 9 120 [.i .u64 (Int.ofNat 8)] [] (kR (.i .i64 0)) = some [.i (lenG (Int.ofNat 8))] := by kernel_rfl
theorem len_d9 [Tok] : codeS Tryz.prog base (fun _ => {}) 100 9 120 [.i .u64 (Int.ofNat 9)] [] (kR (.i .i64 0)) = some [.i (lenG (Int.ofNat 9))] := by kernel_rfl
theorem len_d10 [Tok] : codeS Tryz.prog base (fun _ => {}) 100 9 120 [.i .u64 (Int.ofNat 10)] [] (kR (.i .i64 0)) = some [.i (lenG (Int.ofNat 10))] := by kernel_rfl
theorem len_d11 [Tok] : codeS Tryz.prog base (fun _ => {}) 100 9 120 [.i .u64 (Int.ofNat 11)] [] (kR (.i .i64 0)) = some [.i (lenG (Int.ofNat 11))] := by kernel_rfl
theorem len_d12 [Tok] : codeS Tryz.prog base (fun _ => {}) 100 9 120 [.i .u64 (Int.ofNat 12)] [] (kR (.i .i64 0)) = some [.i (lenG (Int.ofNat 12))] := by kernel_rfl
theorem len_den [Tok] : ∀ k : Nat, k < 13 → codeS Tryz.prog base (fun _ => {}) 100 9 120 [.i .u64 (Int.ofNat k)] [] (kR (.i .i64 0)) = some [.i (lenG (Int.ofNat k))] := by
  intro k hk
  have : k = 0 ∨ k = 1 ∨ k = 2 ∨ k = 3 ∨ k = 4 ∨ k = 5 ∨ k = 6 ∨ k = 7 ∨ k = 8 ∨ k = 9 ∨ k = 10 ∨ k = 11 ∨ k = 12 := by omega
  rcases this with rfl | rfl | rfl | rfl | rfl | rfl | rfl | rfl | rfl | rfl | rfl | rfl | rfl
  · exact len_d0
  · exact len_d1
  · exact len_d2
  · exact len_d3
  · exact len_d4
  · exact len_d5
  · exact len_d6
  · exact len_d7
  · exact len_d8
  · exact len_d9
  · exact len_d10
  · exact len_d11
  · exact len_d12
theorem len_ok [Tok] : CallG Tryz.prog fsO 120 (conLen lenG).ctr := by
  refine Con.ok (ct := base) (hs := fun _ => {}) base_ok.ok base_ok.own (own_at rfl) rfl fun ds hp => ?_
  refine ⟨100, 9, ?_⟩
  have hp : inR (D.int (List.getD ds 0 (.i (Int.ofNat 0)))) 13 = true := hp
  have ef : fill (conLen lenG).skA ds = [.i .u64 (D.int (List.getD ds 0 (.i (Int.ofNat 0))))] := rfl
  rw [ef]
  show _ = some [D.i (lenG (D.int (List.getD ds 0 (.i (Int.ofNat 0)))))]
  generalize D.int (List.getD ds 0 (.i (Int.ofNat 0))) = n at hp ⊢
  cases n with
  | negSucc m => cases hp
  | ofNat k => exact len_den k (by rw [← Nat.blt_eq]; exact hp)
theorem ctO_ok [Tok] : Stand fsO (ctO cmpG lenG) := by
  refine ((base_ok.upd (ct' := fun j => bif Nat.beq j 120 then some (conLen lenG).ctr else base j) len_ok fun i => rfl).upd (ct' := fun j => bif Nat.beq j 55 then some (conCmp cmpG).ctr else bif Nat.beq j 120 then some (conLen lenG).ctr else base j) str_ok fun i => rfl).upd rdy_ok fun i => rfl
end Go.Sy
