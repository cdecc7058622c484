/- A part of the proof: what a machine of our own over the model's code answers is what the model does; no condition. -/
import Derived.Test.YtglejgncbghngaaGreatDoorDoA
import Derived.Test.YtglejgncbghngaaGreatDoorSyC
set_option linter.all false
open Go Go.Av Go.Sy Go.Proofs
set_option maxRecDepth 1000000
set_option linter.all false
noncomputable section
namespace Go.Sy
/-! ### What Order comes to -/
def rdyR (out : List (List D)) (r : List D) : Bool := rdyG (gS r 0) (gR r 11) out
/-- the first that may be told, from a place on; else the very first -/
def fp (out : List (List D)) : List (List D) → Nat → Nat
  | [], _ => 0
  | r :: q, i => bif rdyR out r then i else fp out q (i + 1)
def ordG : Nat → List (List D) → List (List D) → List (List D)
  | 0, _, out => out
  | n + 1, left, out => ordG n (left.eraseIdx (fp out left 0)) (out ++ [[.s (gS (left.getD (fp out left 0) []) 0)]])
theorem fp_lt (out : List (List D)) : ∀ (l : List (List D)) (i : Nat), fp out l i = 0 ∨ fp out l i < i + l.length
  | [], i => .inl rfl
  | r :: q, i => by
    show (bif rdyR out r then i else fp out q (i + 1)) = 0 ∨ (bif rdyR out r then i else fp out q (i + 1)) < _
    cases rdyR out r with
    | true => exact .inr (by simp)
    | false =>
      rcases fp_lt out q (i + 1) with h | h
      · exact .inl h
      · exact .inr (by show fp out q (i + 1) < _; simp; omega)
theorem inB_n (i n : Nat) : inB (Int.ofNat i) n = Nat.ble i n := rfl
theorem ble_t {i n : Nat} (h : i ≤ n) : Nat.ble i n = true := by rw [Nat.ble_eq]; exact h
theorem toN_nat (i : Nat) : toN (Int.ofNat i) = i := rfl
theorem eq_dec {a c : Int} (h : a ≠ c) : eqI a c = false := by rw [eqI_eq]; simpa using h
theorem put_ok {hi a : Nat} {rows out : List (List D)} {rec : List D → Option (List D)} (h1 : hi ≤ rows.length) (h2 : a < hi) (h3 : out.length < 1000) (h4 : hi < 1000) :
    ∃ rows', rows'.length = rows.length ∧ rows'.take (hi - 1) = (rows.take hi).eraseIdx a ∧ putO 0 hi rows out (Int.ofNat a) rec = rec [.i (Int.ofNat 0), .i (Int.ofNat (hi - 1)), .l rows', .l (out ++ [[.s (gS (rows.getD a []) 0)]])] := by
  have e0 : ∀ x, Nat.add 0 x = x := fun x => by show 0 + x = x; omega
  have hs : Nat.sub hi 0 = hi := rfl
  have hn : Nat.sub rows.length 0 = rows.length := rfl
  have her : (rows.take hi).eraseIdx a = rows.take a ++ (rows.take hi).drop (a + 1) := by
    rw [List.eraseIdx_eq_take_drop_succ, List.take_take, Nat.min_eq_left (by omega)]
  have hmv : List.take (Nat.sub hi (a + 1)) (List.drop (a + 1) rows) = (rows.take hi).drop (a + 1) := by
    rw [List.drop_take]; rfl
  have hml : ((rows.take hi).drop (a + 1)).length = hi - (a + 1) := by simp; omega
  unfold putO
  simp only [hs, hn, toN_nat, e0, wrap1 (show a < 1000000 by omega), hmv]
  rw [inN, blt_t h2, fits_sm (n := Nat.succ out.length) (b := 16) (by show _ + 1 < _; omega) (by omega)]
  simp only [inB_n]
  rw [ble_t (show a + 1 ≤ rows.length by omega), ble_t (show a ≤ a + 1 by omega), ble_t (show a + 1 ≤ hi by omega), ble_t h1, ble_t (show a ≤ rows.length by omega), ble_t (show 0 ≤ a by omega), ble_t (Nat.le_refl rows.length)]
  rw [eq_dec (show Int.ofNat a ≠ Int.ofNat (a + 1) from fun h => by have := Int.ofNat.inj h; omega)]
  by_cases hlast : a + 1 = hi
  · have hz : ((rows.take hi).drop (a + 1)).length = 0 := by rw [hml]; omega
    rw [hz]
    have hsa : Nat.sub a 0 = a := rfl
    simp only [show Nat.beq 0 0 = true from rfl, hsa]
    rw [ble_t (show a ≤ hi by omega)]
    refine ⟨List.take a rows ++ (List.replicate (Nat.sub hi a) zero13 ++ List.drop hi rows), ?_, ?_, ?_⟩
    · simp only [List.length_append, List.length_take, List.length_replicate, List.length_drop]
      show min a rows.length + (hi - a + (rows.length - hi)) = _
      omega
    · rw [her, List.eq_nil_of_length_eq_zero hz, List.append_nil, List.take_append_of_le_length (by simp; omega), List.take_take]
      congr 1; omega
    · rw [show hi - 1 = a by omega]
  · have hz : Nat.beq ((rows.take hi).drop (a + 1)).length 0 = false := by
      cases e : Nat.beq ((rows.take hi).drop (a + 1)).length 0 with
      | false => rfl
      | true => have := Nat.eq_of_beq_eq_true e; omega
    rw [hz]
    generalize hM : (rows.take hi).drop (a + 1) = mv at *
    have ha2 : Nat.add a mv.length = hi - 1 := by show a + mv.length = _; omega
    rw [ha2, ble_t (show hi - 1 ≤ rows.length by omega)]
    have hR : (List.take a rows ++ (mv ++ List.drop (hi - 1) rows)).length = rows.length := by simp; omega
    generalize hr2 : List.take a rows ++ (mv ++ List.drop (hi - 1) rows) = rows2 at *
    have hs2 : Nat.sub rows2.length 0 = rows2.length := rfl
    have hs3 : Nat.sub (hi - 1) 0 = hi - 1 := rfl
    simp only [hs2, hs3]
    rw [hR, ble_t h1, ble_t (show hi - 1 ≤ hi by omega), ble_t (Nat.le_refl rows.length)]
    refine ⟨List.take (hi - 1) rows2 ++ (List.replicate (Nat.sub hi (hi - 1)) zero13 ++ List.drop hi rows2), ?_, ?_, ?_⟩
    · simp only [List.length_append, List.length_take, List.length_replicate, List.length_drop]
      show min (hi - 1) rows2.length + (hi - (hi - 1) + (rows2.length - hi)) = _
      omega
    · rw [her, List.take_append_of_le_length (by simp; omega), List.take_take, Nat.min_self, ← hr2]
      rw [← List.append_assoc, List.take_append_of_le_length (by simp; omega), List.take_of_length_le (by simp; omega)]
    · rfl
/-- so few links -/
def fewL (l : List (List D)) : Prop := ∀ r ∈ l, (gR r 11).length < 1000000
theorem pick_ok {hi : Nat} {rows out : List (List D)} {rec3 : List D → Option (List D)} (h1 : hi ≤ rows.length) (h4 : hi < 1000) (h3 : out.length < 1000) (hf : fewL (rows.take hi)) : ∀ (n i : Nat) (x : Int), hi < n + i → i ≤ hi →
    loopK (step4 0 hi rows rec3) n [.i x, .i (Int.ofNat i), .l out] = putO 0 hi rows out (Int.ofNat (fp out ((rows.take hi).drop i) i)) rec3 := by
  intro n
  induction n with
  | zero => intro i x g1 g2; omega
  | succ n ih =>
    intro i x g1 g2
    show step4 0 hi rows rec3 (loopK (step4 0 hi rows rec3) n) [.i x, .i (Int.ofNat i), .l out] = _
    generalize loopK (step4 0 hi rows rec3) n = K at ih ⊢
    unfold step4
    have e0 : ∀ x, Nat.add 0 x = x := fun x => by show 0 + x = x; omega
    simp only [show v1 [D.i x, D.i (Int.ofNat i), D.l out] = Int.ofNat i from rfl, show (hdD [D.i x, D.i (Int.ofNat i), D.l out].tail.tail).rows = out from rfl, show (hdD [D.i x, D.i (Int.ofNat i), D.l out]).int = x from rfl, toN_nat, e0, show Nat.sub hi 0 = hi from rfl]
    rw [ltN, inN]
    by_cases hi' : i < hi
    · have hlt : i < (rows.take hi).length := by simp; omega
      obtain ⟨hd, hm⟩ := drop_at hlt []
      have hrow : (rows.take hi).getD i [] = rows.getD i [] := by
        rw [List.getD_eq_getElem?_getD, List.getD_eq_getElem?_getD, List.getElem?_take, if_pos hi']
      rw [hrow] at hd hm
      rw [blt_t hi', hd]
      have hp : rdyPre (ex12 (rows.getD i []) ++ [D.l out]) = true := by
        show (few (gR (rows.getD i []) 11) && Nat.blt out.length 1000) = true
        have k1 : few (gR (rows.getD i []) 11) = true := blt_t (hf _ hm)
        rw [k1, blt_t h3]; rfl
      rw [hp]
      show (ifb (rdyR out (rows.getD i [])) (putO 0 hi rows out (ifb (ltI (Int.ofNat 0) (Int.ofNat i)) (Int.ofNat i) (Int.ofNat 0)) rec3) (K [.i x, .i (one (Int.ofNat i)), .l out])) = putO 0 hi rows out (Int.ofNat (bif rdyR out (rows.getD i []) then i else fp out ((rows.take hi).drop (i + 1)) (i + 1))) rec3
      cases hr : rdyR out (rows.getD i []) with
      | true =>
        show putO 0 hi rows out (ifb (ltI (Int.ofNat 0) (Int.ofNat i)) (Int.ofNat i) (Int.ofNat 0)) rec3 = putO 0 hi rows out (Int.ofNat i) rec3
        rw [ltN]
        cases i with
        | zero => rfl
        | succ i => rw [blt_t (Nat.succ_pos i)]
      | false =>
        show K [.i x, .i (one (Int.ofNat i)), .l out] = _
        rw [wrap1 (by omega)]
        exact ih (i + 1) x (by omega) (by omega)
    · rw [blt_f (by omega), List.drop_of_length_le (by simp; omega)]
      rfl
theorem after_loop {N : Nat} : ∀ (hi : Nat) {rows out : List (List D)} (m : Nat), hi ≤ rows.length → hi < 1000 → out.length + hi < 1000 → fewL (rows.take hi) → hi < m → hi < N → (hi = 0 → out ≠ []) →
    loopK (step3 N) m [.i (Int.ofNat 0), .i (Int.ofNat hi), .l rows, .l out] = some [.l (ordG hi (rows.take hi) out)] := by
  intro hi
  induction hi with
  | zero =>
    intro rows out m h1 h2 h3 h4 h5 h6 h7
    obtain ⟨m, rfl⟩ : ∃ k, m = k + 1 := ⟨m - 1, by omega⟩
    show finO out = some [.l out]
    have hne := h7 rfl
    cases out with
    | nil => exact absurd rfl hne
    | cons a r =>
      unfold finO
      have g1 : Nat.ble 1 (a :: r).length = true := by rw [Nat.ble_eq]; simp
      have g2 : Nat.beq (a :: r).length 0 = false := rfl
      have e1 : Nat.add 0 (a :: r).length = (a :: r).length := by show 0 + _ = _; omega
      simp only [g1, g2, e1]
      rw [fits_sm (n := (a :: r).length) (b := 16) (by omega) (by omega)]
  | succ hi ih =>
    intro rows out m h1 h2 h3 h4 h5 h6 _
    obtain ⟨m, rfl⟩ : ∃ k, m = k + 1 := ⟨m - 1, by omega⟩
    show step3 N (loopK (step3 N) m) [.i (Int.ofNat 0), .i (Int.ofNat (hi + 1)), .l rows, .l out] = _
    have ih' := fun (rows out : List (List D)) => ih (rows := rows) (out := out) m
    generalize loopK (step3 N) m = K at ih' ⊢
    unfold step3
    simp only [show (hdD [D.i (Int.ofNat 0), D.i (Int.ofNat (hi + 1)), D.l rows, D.l out]).int = Int.ofNat 0 from rfl, show v1 [D.i (Int.ofNat 0), D.i (Int.ofNat (hi + 1)), D.l rows, D.l out] = Int.ofNat (hi + 1) from rfl,
      show (hdD [D.i (Int.ofNat 0), D.i (Int.ofNat (hi + 1)), D.l rows, D.l out].tail.tail).rows = rows from rfl, show (hdD [D.i (Int.ofNat 0), D.i (Int.ofNat (hi + 1)), D.l rows, D.l out].tail.tail.tail).rows = out from rfl, toN_nat, show Nat.sub (hi + 1) 0 = hi + 1 from rfl]
    rw [ltN, blt_t (Nat.succ_pos hi)]
    show loopK (step4 0 (hi + 1) rows K) N [.i (Int.ofNat 0), .i (Int.ofNat 0), .l out] = _
    rw [pick_ok h1 h2 (by omega) h4 N 0 (Int.ofNat 0) (by omega) (by omega), List.drop_zero]
    have hlen : (rows.take (hi + 1)).length = hi + 1 := by simp; omega
    have ha : fp out (rows.take (hi + 1)) 0 < hi + 1 := by
      rcases fp_lt out (rows.take (hi + 1)) 0 with h | h
      · omega
      · omega
    obtain ⟨rows', k1, k2, k3⟩ := put_ok (out := out) (rec := K) h1 ha (by omega) (by omega)
    rw [k3]
    have hrow : (rows.take (hi + 1)).getD (fp out (rows.take (hi + 1)) 0) [] = rows.getD (fp out (rows.take (hi + 1)) 0) [] := by
      rw [List.getD_eq_getElem?_getD, List.getD_eq_getElem?_getD, List.getElem?_take, if_pos ha]
    have k2 : rows'.take hi = (rows.take (hi + 1)).eraseIdx (fp out (rows.take (hi + 1)) 0) := k2
    show K [.i (Int.ofNat 0), .i (Int.ofNat hi), .l rows', .l _] = some [.l (ordG hi ((rows.take (hi + 1)).eraseIdx (fp out (rows.take (hi + 1)) 0)) (out ++ [[.s (gS ((rows.take (hi + 1)).getD (fp out (rows.take (hi + 1)) 0) []) 0)]]))]
    rw [hrow, ← k2]
    exact ih' rows' _ (by omega) (by omega) (by simp; omega) (fun r hr => h4 r (by rw [k2] at hr; exact List.mem_of_mem_eraseIdx hr)) (by omega) (by omega) (fun _ => by simp)
end Go.Sy


open Go Go.Av Go.Sy Go.Proofs
set_option maxRecDepth 1000000
set_option linter.all false
noncomputable section
namespace Go.Sy
/-- names do not fall -/
def Srt (d : List (List D)) : Prop := ∀ j, j + 1 < d.length → ltI (cmpG (gS (d.getD (j + 1) []) 0) (gS (d.getD j []) 0)) (Int.ofNat 0) = false
theorem dec_nat {j : Nat} (h : j < 1000000) : dec1 (Int.ofNat (j + 1)) = Int.ofNat j := by
  unfold dec1
  rw [subI_eq, wrapF_eq]
  simp only [IntKind.wrap, IntKind.bits, IntKind.signed, Int.ofNat_eq_natCast]
  simp; omega
theorem ins_ok {N i : Nat} {rows : List (List D)} {rec1 : List D → Option (List D)} (hs : Srt rows) (h0 : 0 < i) (h1 : i < rows.length) (h2 : rows.length < 1000) (hN : 0 < N) :
    loopK (step2 cmpG (Int.ofNat 0) (Int.ofNat i) rows rows rec1) N [.i (Int.ofNat i), .l rows] = rec1 [.i (Int.ofNat (i + 1)), .l rows] := by
  obtain ⟨n, rfl⟩ : ∃ k, N = k + 1 := ⟨N - 1, by omega⟩
  obtain ⟨j, rfl⟩ : ∃ k, i = k + 1 := ⟨i - 1, by omega⟩
  show step2 cmpG (Int.ofNat 0) (Int.ofNat (j + 1)) rows rows rec1 (loopK (step2 cmpG (Int.ofNat 0) (Int.ofNat (j + 1)) rows rows rec1) n) [.i (Int.ofNat (j + 1)), .l rows] = _
  generalize loopK (step2 cmpG (Int.ofNat 0) (Int.ofNat (j + 1)) rows rows rec1) n = K
  unfold step2
  simp only [show (hdD [D.i (Int.ofNat (j + 1)), D.l rows]).int = Int.ofNat (j + 1) from rfl, show (hdD [D.i (Int.ofNat (j + 1)), D.l rows].tail).rows = rows from rfl]
  rw [dec_nat (by omega), toN_nat, toN_nat, hs j h1, ltN, inN, inN, blt_t (show j + 1 < rows.length from h1), blt_t (show j < rows.length by omega), blt_t (Nat.succ_pos j), wrap1 (by omega), Nat.beq_refl]
theorem sort_loop {N : Nat} {rows : List (List D)} (hs : Srt rows) (h2 : rows.length < 1000) (hN : 0 < N) : ∀ (m i : Nat), 0 < i → i ≤ rows.length → rows.length < m + i →
    loopK (step1 cmpG N (Int.ofNat 0) (Int.ofNat rows.length) rows) m [.i (Int.ofNat i), .l rows] = afterO N rows := by
  intro m
  induction m with
  | zero => intro i h0 h1 h3; omega
  | succ m ih =>
    intro i h0 h1 h3
    show step1 cmpG N (Int.ofNat 0) (Int.ofNat rows.length) rows (loopK (step1 cmpG N (Int.ofNat 0) (Int.ofNat rows.length) rows) m) [.i (Int.ofNat i), .l rows] = _
    have ih' := ih (i + 1)
    generalize loopK (step1 cmpG N (Int.ofNat 0) (Int.ofNat rows.length) rows) m = K at ih' ⊢
    unfold step1
    simp only [show (hdD [D.i (Int.ofNat i), D.l rows]).int = Int.ofNat i from rfl, show (hdD [D.i (Int.ofNat i), D.l rows].tail).rows = rows from rfl]
    rw [ltN]
    by_cases hi : i < rows.length
    · rw [blt_t hi]
      show loopK (step2 cmpG (Int.ofNat 0) (Int.ofNat i) rows rows K) N [.i (Int.ofNat i), .l rows] = _
      rw [ins_ok hs h0 hi h2 hN]
      exact ih' (by omega) hi (by omega)
    · rw [blt_f (by omega)]
theorem order_eq {N : Nat} {d : List (List D)} (h0 : 0 < d.length) (h1 : d.length ≤ 12) (hs : Srt d) (hf : fewL d) (hN : 20 ≤ N) : orderD cmpG lenG N d = some [.l (ordG d.length d [])] := by
  obtain ⟨n, rfl⟩ : ∃ k, N = k + 1 := ⟨N - 1, by omega⟩
  unfold orderD
  have e1 : Nat.add 0 d.length = d.length := by show 0 + _ = _; omega
  have e2 : inR (wrapF .u64 (Int.ofNat d.length)) 13 = true := by
    have : wrapF .u64 (Int.ofNat d.length) = Int.ofNat d.length := by
      rw [wrapF_eq]
      simp only [IntKind.wrap, IntKind.bits, IntKind.signed, Int.ofNat_eq_natCast]
      simp; omega
    rw [this, inN]; exact blt_t (by omega)
  rw [e1, fits_sm (n := d.length) (b := 208) (by omega) (by omega), e2]
  show step0 cmpG (n + 1) (loopK (step0 cmpG (n + 1)) n) [.i (Int.ofNat 0), .i (Int.ofNat d.length), .i _, .b true, .b true, .l d] = _
  generalize loopK (step0 cmpG (n + 1)) n = K
  unfold step0
  simp only [show ∀ x, (hdD [D.i (Int.ofNat 0), D.i (Int.ofNat d.length), D.i x, D.b true, D.b true, D.l d]).int = Int.ofNat 0 from fun _ => rfl, show ∀ x, v1 [D.i (Int.ofNat 0), D.i (Int.ofNat d.length), D.i x, D.b true, D.b true, D.l d] = Int.ofNat d.length from fun _ => rfl, show ∀ x, (hdD [D.i (Int.ofNat 0), D.i (Int.ofNat d.length), D.i x, D.b true, D.b true, D.l d].tail.tail.tail.tail.tail).rows = d from fun _ => rfl]
  have e3 : wrapF .i64 (subI (Int.ofNat d.length) (Int.ofNat 0)) = Int.ofNat d.length := by
    rw [subI_eq, wrapF_eq]
    simp only [IntKind.wrap, IntKind.bits, IntKind.signed, Int.ofNat_eq_natCast]
    simp; omega
  rw [e3, ltN, blt_f h1, wrap1 (i := 0) (by omega)]
  show loopK (step1 cmpG (n + 1) (Int.ofNat 0) (Int.ofNat d.length) d) (n + 1) [.i (Int.ofNat 1), .l d] = _
  rw [sort_loop hs (by omega) (by omega) (n + 1) 1 (by omega) (by omega) (by omega)]
  have ht : d.take d.length = d := List.take_length
  have := after_loop (N := n + 1) d.length (rows := d) (out := []) (n + 1) (Nat.le_refl _) (by omega) (by simp; omega) (by rw [ht]; exact hf) (by omega) (by omega) (fun h => by omega)
  rw [ht] at this
  exact this
open Classical in
def ordPre (ds : List D) : Bool := decide (0 < (gR ds 0).length ∧ (gR ds 0).length ≤ 12 ∧ Srt (gR ds 0) ∧ fewL (gR ds 0))
open Classical in
theorem ordPre_iff (ds : List D) : ordPre ds = true ↔ (0 < (gR ds 0).length ∧ (gR ds 0).length ≤ 12 ∧ Srt (gR ds 0) ∧ fewL (gR ds 0)) := by unfold ordPre; rw [decide_eq_true_eq]
def ordF (ds : List D) : List (List D) := ordG (gR ds 0).length (gR ds 0) []
def conOrd : ConO := ⟨[.l 58 false []], 9, ordPre, ordF, false⟩
theorem ord_ok [Tok] : CallG Tryz.prog fsO 19 conOrd.ctr := by
  refine ConO.ok (cf := ctO cmpG lenG) (hs := hsO) ctO_ok.ok ctO_ok.own (own_at rfl) rfl fun ds hp => ?_
  · have hp : ordPre ds = true := hp
    obtain ⟨h0, h1, h2, h3⟩ := (ordPre_iff ds).1 hp
    refine ⟨20, 9, ?_⟩
    have ef : fill conOrd.skA ds = [.l 58 false (gR ds 0)] := rfl
    rw [ef]
    show _ = some [D.l (ordG (gR ds 0).length (gR ds 0) [])]
    rw [← order_eq h0 h1 h2 h3 (Nat.le_refl 20)]
    generalize gR ds 0 = d at h0 ⊢
    cases d with
    | nil => cases h0
    | cons r q => exact order_den cmpG lenG 20 r q
end Go.Sy


set_option linter.all false
/-! Which stands ahead of which: plain. -/
namespace Go.Ord
section
variable (L : Nat → List Nat)
/-- there is a way of links from one to another -/
inductive R : Nat → Nat → Prop
  | one {i m : Nat} : m ∈ L i → R i m
  | more {i m j : Nat} : m ∈ L i → R m j → R i j
variable {L}
theorem R.trans {i j k : Nat} (a : R L i j) (c : R L j k) : R L i k := by
  induction a with
  | one h => exact .more h c
  | more h _ ih => exact .more h (ih c)
/-- what is linked to does not come back to itself -/
def Free (L : Nat → List Nat) (i : Nat) : Prop := ∀ j, j ≠ i → R L i j → ¬ R L j j
theorem Free.down {i m : Nat} (h : Free L i) (hm : R L i m) (hne : m ≠ i) : Free L m := by
  intro j hj hr hjj
  by_cases e : j = i
  · subst e
    exact h m hne hm (hr.trans hm)
  · exact h j e (hm.trans hr) hjj
/-- some that each lead to one of them: one comes back to itself -/
theorem no_end : ∀ (n : Nat) (U : List Nat), U.length ≤ n → U ≠ [] → (∀ u ∈ U, ¬ R L u u) → (∀ u ∈ U, ∃ m ∈ U, R L u m) → False := by
  classical
  intro n
  induction n with
  | zero => intro U h hne _ _; exact hne (List.eq_nil_of_length_eq_zero (by omega))
  | succ n ih =>
    intro U h hne h1 h2
    cases U with
    | nil => exact hne rfl
    | cons u0 q =>
      obtain ⟨m0, hm0, hr0⟩ := h2 u0 (.head _)
      refine ih ((u0 :: q).filter fun m => decide (R L u0 m)) ?_ ?_ (fun u hu => h1 u (List.mem_filter.1 hu).1) (fun u hu => ?_)
      · rw [List.filter_cons, if_neg (by simpa using h1 u0 (.head _))]
        have := List.length_filter_le (fun m => decide (R L u0 m)) q
        simp only [List.length_cons] at h
        omega
      · intro e
        have : m0 ∈ (u0 :: q).filter fun m => decide (R L u0 m) := List.mem_filter.2 ⟨hm0, by simpa using hr0⟩
        rw [e] at this; cases this
      · obtain ⟨hu1, hu2⟩ := List.mem_filter.1 hu
        obtain ⟨m, hm, hr⟩ := h2 u hu1
        have hu2 : R L u0 u := by simpa using hu2
        exact ⟨m, List.mem_filter.2 ⟨hm, by simpa using hu2.trans hr⟩, hr⟩
/-! ### The picking -/
def rdyN (L : Nat → List Nat) (o : List Nat) (i : Nat) : Bool := (L i).all fun m => Nat.beq m i || o.contains m
def fpN (L : Nat → List Nat) (o : List Nat) : List Nat → Nat → Nat
  | [], _ => 0
  | r :: q, i => bif rdyN L o r then i else fpN L o q (i + 1)
def ordN (L : Nat → List Nat) : Nat → List Nat → List Nat → List Nat
  | 0, _, out => out
  | n + 1, left, out => ordN L n (left.eraseIdx (fpN L out left 0)) (out ++ [left.getD (fpN L out left 0) 0])
theorem rdyN_iff {o : List Nat} {i : Nat} : rdyN L o i = true ↔ ∀ m ∈ L i, m = i ∨ m ∈ o := by
  unfold rdyN
  rw [List.all_eq_true]
  constructor
  · intro h m hm
    have := h m hm
    simp only [Bool.or_eq_true, Nat.beq_eq, List.contains_iff_mem] at this
    exact this
  · intro h m hm
    simp only [Bool.or_eq_true, Nat.beq_eq, List.contains_iff_mem]
    exact h m hm
/-- the one that is picked: it may be told, or none may -/
theorem fpN_at (o : List Nat) : ∀ (l : List Nat) (i : Nat), (∃ j x, fpN L o l i = i + j ∧ l[j]? = some x ∧ rdyN L o x = true) ∨ (fpN L o l i = 0 ∧ ∀ x ∈ l, rdyN L o x = false)
  | [], i => .inr ⟨rfl, fun x hx => by cases hx⟩
  | r :: q, i => by
    cases e : rdyN L o r with
    | true => exact .inl ⟨0, r, by show (bif rdyN L o r then i else _) = _; rw [e]; rfl, rfl, e⟩
    | false =>
      have e1 : fpN L o (r :: q) i = fpN L o q (i + 1) := by show (bif rdyN L o r then i else _) = _; rw [e]; rfl
      rcases fpN_at o q (i + 1) with ⟨j, x, h1, h2, h3⟩ | ⟨h1, h2⟩
      · exact .inl ⟨j + 1, x, by rw [e1, h1]; omega, h2, h3⟩
      · refine .inr ⟨by rw [e1, h1], fun x hx => ?_⟩
        rcases List.mem_cons.1 hx with rfl | hx
        · exact e
        · exact h2 x hx
/-- what stands so far: those that are free stand behind all that they lead to -/
def Good (L : Nat → List Nat) (o : List Nat) : Prop := ∀ (a : Nat) (i : Nat), o[a]? = some i → Free L i → ∀ j, j ≠ i → R L i j → ∃ b, b < a ∧ o[b]? = some j
structure St (L : Nat → List Nat) (k : Nat) (left o : List Nat) : Prop where
  bd : ∀ i, i < k → ∀ m ∈ L i, m < k
  cov : ∀ i, i < k → i ∈ left ∨ i ∈ o
  lt : ∀ i ∈ left, i < k
  nd : (left ++ o).Nodup
  good : Good L o
theorem St.mem {k : Nat} {left o : List Nat} (s : St L k left o) {i : Nat} (h : i < k) (hn : i ∉ left) : i ∈ o := (s.cov i h).resolve_left hn
/-- what is led to is one of them, too -/
theorem St.reach {k : Nat} {left o : List Nat} (s : St L k left o) {i j : Nat} (hi : i < k) (h : R L i j) : j < k := by
  induction h with
  | one h => exact s.bd _ hi _ h
  | more h _ ih => exact ih (s.bd _ hi _ h)
theorem St.good_in {k : Nat} {left o : List Nat} (s : St L k left o) {m j : Nat} (hm : m ∈ o) (hf : Free L m) (hr : R L m j) : j ∈ o := by
  by_cases e : j = m
  · rw [e]; exact hm
  · obtain ⟨a, ha⟩ := List.mem_iff_getElem?.1 hm
    obtain ⟨b, _, hb⟩ := s.good a m ha hf j e hr
    exact List.mem_iff_getElem?.2 ⟨b, hb⟩
theorem St.next {k : Nat} {left o : List Nat} (s : St L k left o) (hne : left ≠ []) : St L k (left.eraseIdx (fpN L o left 0)) (o ++ [left.getD (fpN L o left 0) 0]) := by
  classical
  -- the one that is picked
  obtain ⟨p, x, hp, hx⟩ : ∃ p x, fpN L o left 0 = p ∧ left[p]? = some x := by
    rcases fpN_at (L := L) o left 0 with ⟨j, x, h1, h2, _⟩ | ⟨h1, _⟩
    · exact ⟨j, x, by rw [h1]; omega, h2⟩
    · cases left with
      | nil => exact absurd rfl hne
      | cons a q => exact ⟨0, a, h1, rfl⟩
  have hxl : x ∈ left := List.mem_iff_getElem?.2 ⟨p, hx⟩
  have hxk := s.lt x hxl
  have all : Free L x → ∀ j, j ≠ x → R L x j → j ∈ o := by
    intro hf
    rcases fpN_at (L := L) o left 0 with ⟨j, y, h1, h2, h3⟩ | ⟨h1, h2⟩
    · have : y = x := by
        rw [h1] at hp
        have : j = p := by omega
        subst this
        rw [h2] at hx; cases hx; rfl
      subst this
      rw [rdyN_iff] at h3
      intro j' hj hr
      have key : ∀ {a j' : Nat}, R L a j' → a = y → j' ≠ y → j' ∈ o := by
        intro a j' hr
        induction hr with
        | one h =>
          intro e hj; subst e
          exact (h3 _ h).resolve_left hj
        | @more i m j'' h hr2 ih =>
          intro e hj; subst e
          rcases h3 _ h with e | e
          · exact ih e hj
          · by_cases em : m = i
            · exact ih em hj
            · exact s.good_in e (hf.down (.one h) em) hr2
      exact key hr rfl hj
    · intro j hj hr
      have hjk := s.reach hxk hr
      by_cases hjl : j ∈ left
      · exfalso
        refine no_end (L := L) left.length (left.filter fun u => decide (u ≠ x ∧ R L x u)) (List.length_filter_le _ _) ?_ ?_ ?_
        · intro e
          have : j ∈ left.filter fun u => decide (u ≠ x ∧ R L x u) := List.mem_filter.2 ⟨hjl, by simpa using ⟨hj, hr⟩⟩
          rw [e] at this; cases this
        · intro u hu
          have hu2 : u ≠ x ∧ R L x u := by simpa using (List.mem_filter.1 hu).2
          exact hf u hu2.1 hu2.2
        · intro u hu
          obtain ⟨hul, hu2⟩ := List.mem_filter.1 hu
          have hu2 : u ≠ x ∧ R L x u := by simpa using hu2
          have hnr := h2 u hul
          have : ¬ ∀ m ∈ L u, m = u ∨ m ∈ o := fun h => by rw [rdyN_iff.2 h] at hnr; cases hnr
          obtain ⟨m, hm⟩ := Classical.not_forall.1 this
          have hm : m ∈ L u ∧ ¬ (m = u ∨ m ∈ o) := by simpa using hm
          obtain ⟨hm1, hm2⟩ := hm
          have hm3 : m ≠ u ∧ m ∉ o := ⟨fun e => hm2 (.inl e), fun e => hm2 (.inr e)⟩
          have hmk := s.bd u (s.lt u hul) m hm1
          have hml : m ∈ left := (s.cov m hmk).resolve_right hm3.2
          have hxm : R L x m := hu2.2.trans (.one hm1)
          have hmx : m ≠ x := fun e => by
            subst e
            exact hf u hu2.1 hu2.2 (R.trans (.one hm1) hu2.2)
          exact ⟨m, List.mem_filter.2 ⟨hml, by simpa using ⟨hmx, hxm⟩⟩, .one hm1⟩
      · exact s.mem hjk hjl
  have hgd : left.getD p 0 = x := by rw [List.getD_eq_getElem?_getD, hx]; rfl
  rw [hp, hgd]
  have hsplit : left.eraseIdx p = left.take p ++ left.drop (p + 1) := List.eraseIdx_eq_take_drop_succ left p
  have hpl : p < left.length := (List.getElem?_eq_some_iff.1 hx).1
  have hwhole : left = left.take p ++ x :: left.drop (p + 1) := by
    have e : left[p] = x := (List.getElem?_eq_some_iff.1 hx).2
    rw [← e]; simp
  refine ⟨s.bd, fun i hi => ?_, fun i hi => s.lt i (List.mem_of_mem_eraseIdx hi), ?_, ?_⟩
  · rcases s.cov i hi with h | h
    · by_cases e : i = x
      · right; simp [e]
      · left
        rw [hsplit]
        rw [hwhole] at h
        simp only [List.mem_append, List.mem_cons] at h ⊢
        rcases h with h | h | h
        · exact .inl h
        · exact absurd h e
        · exact .inr h
    · right; simp [h]
  · have hnd := s.nd
    rw [hwhole] at hnd
    rw [hsplit]
    have hperm : (left.take p ++ x :: left.drop (p + 1) ++ o).Perm (left.take p ++ left.drop (p + 1) ++ (o ++ [x])) := by
      have h1 : (left.take p ++ x :: left.drop (p + 1) ++ o).Perm (x :: (left.take p ++ left.drop (p + 1) ++ o)) := by
        rw [List.append_assoc, List.append_assoc]
        exact List.perm_middle
      have h2 : (left.take p ++ left.drop (p + 1) ++ (o ++ [x])).Perm (x :: (left.take p ++ left.drop (p + 1) ++ o)) := by
        rw [← List.append_assoc]
        exact List.perm_append_singleton _ _
      exact h1.trans h2.symm
    exact hperm.nodup_iff.1 hnd
  · intro a i ha hf j hj hr
    by_cases hal : a < o.length
    · rw [List.getElem?_append_left hal] at ha
      obtain ⟨b, hb, hbo⟩ := s.good a i ha hf j hj hr
      exact ⟨b, hb, by rw [List.getElem?_append_left (by omega)]; exact hbo⟩
    · have hae : a = o.length := by
        have := (List.getElem?_eq_some_iff.1 ha).1
        simp at this; omega
      subst hae
      rw [List.getElem?_append_right (Nat.le_refl _), Nat.sub_self] at ha
      have hix : i = x := by simpa using ha.symm
      subst hix
      obtain ⟨b, hb⟩ := List.mem_iff_getElem?.1 (all hf j hj hr)
      have hbl := (List.getElem?_eq_some_iff.1 hb).1
      exact ⟨b, hbl, by rw [List.getElem?_append_left hbl]; exact hb⟩
theorem ordN_ok {k : Nat} : ∀ (n : Nat) (left o : List Nat), left.length = n → St L k left o → St L k [] (ordN L n left o)
  | 0, left, o, h, s => by
    have : left = [] := List.eq_nil_of_length_eq_zero h
    subst this; exact s
  | n + 1, left, o, h, s => by
    have hne : left ≠ [] := fun e => by rw [e] at h; cases h
    refine ordN_ok n _ _ ?_ (s.next hne)
    have hp : fpN L o left 0 < left.length := by
      rcases fpN_at (L := L) o left 0 with ⟨j, x, h1, h2, _⟩ | ⟨h1, _⟩
      · have := (List.getElem?_eq_some_iff.1 h2).1; omega
      · omega
    rw [List.length_eraseIdx, if_pos hp]; omega
theorem start_ok {k : Nat} (hb : ∀ i, i < k → ∀ m ∈ L i, m < k) : St L k (List.range k) [] :=
  ⟨hb, fun i hi => .inl (List.mem_range.2 hi), fun i hi => List.mem_range.1 hi, by rw [List.append_nil]; exact List.nodup_range, fun a i h => by cases h⟩
end
end Go.Ord


set_option linter.all false
/-! All ways, as they are reckoned: plain. -/
namespace Go.Ord
section
variable (L : Nat → List Nat)
/-- ways that go over nodes below a number -/
inductive Pm (m : Nat) : Nat → Nat → Prop
  | one {i j : Nat} : j ∈ L i → Pm m i j
  | more {i c j : Nat} : c ∈ L i → c < m → Pm m c j → Pm m i j
variable {L}
theorem Pm.r {m i j : Nat} (h : Pm L m i j) : R L i j := by
  induction h with
  | one h => exact .one h
  | more h _ _ ih => exact .more h ih
theorem Pm.of_r {k : Nat} (hb : ∀ i, i < k → ∀ m ∈ L i, m < k) {i j : Nat} (h : R L i j) : i < k → Pm L k i j := by
  induction h with
  | one h => exact fun _ => .one h
  | more h _ ih => exact fun hi => .more h (hb _ hi _ h) (ih (hb _ hi _ h))
theorem Pm.split {m i j : Nat} (h : Pm L (m + 1) i j) : Pm L m i j ∨ (Pm L m i m ∧ Pm L m m j) := by
  induction h with
  | one h => exact .inl (.one h)
  | @more i c j h hc _ ih =>
    by_cases e : c = m
    · subst e
      rcases ih with ih | ⟨_, ih⟩
      · exact .inr ⟨.one h, ih⟩
      · exact .inr ⟨.one h, ih⟩
    · have hc : c < m := by omega
      rcases ih with ih | ⟨a, b⟩
      · exact .inl (.more h hc ih)
      · exact .inr ⟨.more h hc a, b⟩
def at8 (S : List Bool) (a b : Nat) : Bool := S.getD (a * 8 + b) false
theorem at8_set {S : List Bool} (h : S.length = 64) {i j a b : Nat} (hi : i < 8) (hj : j < 8) (ha : a < 8) (hb : b < 8) (x : Bool) : at8 (S.set (i * 8 + j) x) a b = if a = i ∧ b = j then x else at8 S a b := by
  unfold at8
  rw [List.getD_eq_getElem?_getD, List.getD_eq_getElem?_getD, List.getElem?_set]
  by_cases e : a = i ∧ b = j
  · obtain ⟨rfl, rfl⟩ := e
    rw [if_pos rfl, if_pos (by omega), if_pos ⟨rfl, rfl⟩]; rfl
  · rw [if_neg (by omega), if_neg e]
structure FW (L : Nat → List Nat) (k m i j : Nat) (S : List Bool) : Prop where
  len : S.length = 64
  snd : ∀ a b, a < 8 → b < 8 → at8 S a b = true → R L a b
  cmp : ∀ a b, a < k → b < k → Pm L m a b → at8 S a b = true
  now : ∀ a b, a < k → b < k → (a < i ∨ (a = i ∧ b < j)) → Pm L (m + 1) a b → at8 S a b = true
def fwV (S : List Bool) (m i j : Nat) : Bool := at8 S i j || (at8 S i m && at8 S m j)
theorem FW.step {k m i j : Nat} {S : List Bool} (h : FW L k m i j S) (hk : k ≤ 8) (hm : m < k) (hi : i < k) (hj : j < k) : FW L k m i (j + 1) (S.set (i * 8 + j) (fwV S m i j)) := by
  have hs : ∀ a b, a < 8 → b < 8 → at8 (S.set (i * 8 + j) (fwV S m i j)) a b = if a = i ∧ b = j then fwV S m i j else at8 S a b := fun a b ha hb => at8_set h.len (by omega) (by omega) ha hb _
  have mono : ∀ a b, a < 8 → b < 8 → at8 S a b = true → at8 (S.set (i * 8 + j) (fwV S m i j)) a b = true := by
    intro a b ha hb hx
    rw [hs a b ha hb]
    split
    · rename_i e; obtain ⟨rfl, rfl⟩ := e
      unfold fwV; rw [hx]; rfl
    · exact hx
  refine ⟨by rw [List.length_set]; exact h.len, fun a b ha hb hx => ?_, fun a b ha hb hx => mono a b (by omega) (by omega) (h.cmp a b ha hb hx), fun a b ha hb hlt hx => ?_⟩
  · rw [hs a b ha hb] at hx
    split at hx
    · rename_i e; obtain ⟨rfl, rfl⟩ := e
      unfold fwV at hx
      rw [Bool.or_eq_true, Bool.and_eq_true] at hx
      rcases hx with hx | ⟨h1, h2⟩
      · exact h.snd _ _ ha hb hx
      · exact (h.snd _ _ ha (by omega) h1).trans (h.snd _ _ (by omega) hb h2)
    · exact h.snd a b ha hb hx
  · by_cases e : a = i ∧ b = j
    · rw [hs a b (by omega) (by omega), if_pos e]
      obtain ⟨rfl, rfl⟩ := e
      unfold fwV
      rcases hx.split with hx | ⟨h1, h2⟩
      · rw [h.cmp _ _ ha hb hx]; rfl
      · rw [h.cmp _ _ ha hm h1, h.cmp _ _ hm hb h2]; simp
    · refine mono a b (by omega) (by omega) (h.now a b ha hb ?_ hx)
      rcases hlt with h1 | ⟨h1, h2⟩
      · exact .inl h1
      · exact .inr ⟨h1, by omega⟩
theorem FW.line {k m i : Nat} {S : List Bool} (h : FW L k m i k S) : FW L k m (i + 1) 0 S :=
  ⟨h.len, h.snd, h.cmp, fun a b ha hb hlt => h.now a b ha hb (by omega)⟩
theorem FW.turn {k m : Nat} {S : List Bool} (h : FW L k m k 0 S) : FW L k (m + 1) 0 0 S :=
  ⟨h.len, h.snd, fun a b ha hb hx => h.now a b ha hb (.inl ha) hx, fun a b ha hb hlt => by omega⟩
/-- behind the loops -/
theorem FW.all {k : Nat} {S : List Bool} (h : FW L k k 0 0 S) (hk : k ≤ 8) (hb : ∀ i, i < k → ∀ m ∈ L i, m < k) {a b : Nat} (ha : a < k) (hb' : b < k) : at8 S a b = true ↔ R L a b :=
  ⟨h.snd a b (by omega) (by omega), fun hr => h.cmp a b ha hb' (Pm.of_r hb hr ha)⟩
/-- ahead of the loops -/
theorem FW.start {k : Nat} {S : List Bool} (hl : S.length = 64) (h : ∀ a b, a < 8 → b < 8 → (at8 S a b = true ↔ b ∈ L a)) (hk : k ≤ 8) : FW L k 0 0 0 S := by
  refine ⟨hl, fun a b ha hb hx => .one ((h a b ha hb).1 hx), fun a b ha hb hx => ?_, fun a b ha hb hlt => by omega⟩
  cases hx with
  | one h' => exact (h a b (by omega) (by omega)).2 h'
  | more _ hc _ => omega
end
end Go.Ord


open Go Go.Av Go.Sy Go.Proofs
set_option maxRecDepth 1000000
set_option linter.all false
noncomputable section
namespace Go.Sy
/-! ### Order over the law's tables: the picking over numbers -/
def nm (i : Nat) : List Nat := [116, 97 + i]
theorem seq_nm (i j : Nat) : seq (nm i) (nm j) = Nat.beq i j := by
  cases e : Nat.beq i j with
  | true => rw [Nat.eq_of_beq_eq_true e]; exact seq_eq.2 rfl
  | false =>
    cases e2 : seq (nm i) (nm j) with
    | false => rfl
    | true =>
      have h := seq_eq.1 e2
      unfold nm at h
      have : i = j := by simpa using h
      rw [this, Nat.beq_refl] at e; cases e
variable (L : Nat → List Nat) (row lk : Nat → List D)
structure RowOk (k : Nat) : Prop where
  name : ∀ i, i < k → gS (row i) 0 = nm i
  links : ∀ i, i < k → gR (row i) 11 = (L i).map lk
  link : ∀ m, gS (lk m) 1 = nm m
variable {L row lk}
def nmD (i : Nat) : List D := [.s (nm i)]
theorem has_nm (l : List Nat) (i : Nat) : hasG (l.map nmD) (nm i) = l.contains i := by
  induction l with
  | nil => rfl
  | cons a q ih =>
    show (seq (nm i) (nm a) || hasG (q.map nmD) (nm i)) = ((a :: q).contains i)
    rw [ih, seq_nm, List.contains_cons]
    congr 1
    cases e : Nat.beq i a with
    | true => rw [Nat.eq_of_beq_eq_true e]; simp
    | false =>
      have : i ≠ a := fun h => by rw [h, Nat.beq_refl] at e; cases e
      simpa using this
theorem rdy_eq {k : Nat} (R : RowOk L row lk k) {i : Nat} (hi : i < k) (o : List Nat) : rdyR (o.map nmD) (row i) = Ord.rdyN L o i := by
  unfold rdyR rdyG Ord.rdyN
  rw [R.name i hi, R.links i hi, List.all_map]
  congr 1
  funext m
  show hasG (o.map nmD ++ [nmD i]) (gS (lk m) 1) = _
  rw [R.link, show o.map nmD ++ [nmD i] = (o ++ [i]).map nmD by simp, has_nm]
  show (o ++ [i]).contains m = (Nat.beq m i || o.contains m)
  cases e : Nat.beq m i with
  | true => rw [Nat.eq_of_beq_eq_true e]; simp
  | false =>
    have : m ≠ i := fun h => by rw [h, Nat.beq_refl] at e; cases e
    simp [this]
theorem fp_eq {k : Nat} (R : RowOk L row lk k) (o : List Nat) : ∀ (l : List Nat) (i : Nat), (∀ x ∈ l, x < k) → fp (o.map nmD) (l.map row) i = Ord.fpN L o l i
  | [], i, _ => rfl
  | x :: q, i, h => by
    show (bif rdyR (o.map nmD) (row x) then i else fp (o.map nmD) (q.map row) (i + 1)) = bif Ord.rdyN L o x then i else Ord.fpN L o q (i + 1)
    rw [rdy_eq R (h x (.head _)), fp_eq R o q (i + 1) fun x hx => h x (.tail _ hx)]
theorem fpN_lt (o : List Nat) (l : List Nat) (h : l ≠ []) : Ord.fpN L o l 0 < l.length := by
  have hl : 0 < l.length := List.length_pos_iff.2 h
  rcases Ord.fpN_at (L := L) o l 0 with ⟨j, x, h1, h2, _⟩ | ⟨h1, _⟩
  · have := (List.getElem?_eq_some_iff.1 h2).1; omega
  · omega
theorem ord_eq {k : Nat} (R : RowOk L row lk k) : ∀ (n : Nat) (l o : List Nat), l.length = n → (∀ x ∈ l, x < k) → ordG n (l.map row) (o.map nmD) = (Ord.ordN L n l o).map nmD
  | 0, l, o, _, _ => rfl
  | n + 1, l, o, hl, h => by
    show ordG n ((l.map row).eraseIdx (fp (o.map nmD) (l.map row) 0)) (o.map nmD ++ [[.s (gS ((l.map row).getD (fp (o.map nmD) (l.map row) 0) []) 0)]]) = _
    rw [fp_eq R o l 0 h]
    have hne : l ≠ [] := fun e => by rw [e] at hl; cases hl
    have hp := fpN_lt (L := L) o l hne
    have hg : (l.map row).getD (Ord.fpN L o l 0) [] = row (l.getD (Ord.fpN L o l 0) 0) := by
      rw [List.getD_eq_getElem?_getD, List.getD_eq_getElem?_getD, List.getElem?_map, List.getElem?_eq_getElem hp]; rfl
    have hm : l.getD (Ord.fpN L o l 0) 0 ∈ l := by
      rw [List.getD_eq_getElem?_getD, List.getElem?_eq_getElem hp]; exact List.getElem_mem hp
    rw [hg, R.name _ (h _ hm)]
    have e1 : (l.map row).eraseIdx (Ord.fpN L o l 0) = (l.eraseIdx (Ord.fpN L o l 0)).map row := by simp [List.eraseIdx_eq_take_drop_succ]
    have e2 : o.map nmD ++ [[D.s (nm (l.getD (Ord.fpN L o l 0) 0))]] = (o ++ [l.getD (Ord.fpN L o l 0) 0]).map nmD := by simp [nmD]
    rw [e1, e2]
    refine ord_eq R n _ _ ?_ fun x hx => h x (List.mem_of_mem_eraseIdx hx)
    rw [List.length_eraseIdx, if_pos hp]; omega
/-- the names rise -/
theorem cmp_nm {i j : Nat} (h : i < j) : ltI (cmpG (nm j) (nm i)) (Int.ofNat 0) = false := by
  have h1 : sless (nm j) (nm i) = false := by
    show ifb (Nat.blt 116 116) true (ifb (Nat.beq 116 116) (ifb (Nat.blt (97 + j) (97 + i)) true (ifb (Nat.beq (97 + j) (97 + i)) false false)) false) = false
    have g1 : Nat.blt (97 + j) (97 + i) = false := by
      cases e : Nat.blt (97 + j) (97 + i) with
      | false => rfl
      | true => rw [Nat.blt_eq] at e; omega
    rw [g1]
    show (ifb (Nat.beq (97 + j) (97 + i)) false false) = false
    cases Nat.beq (97 + j) (97 + i) <;> rfl
  have h2 : seq (nm j) (nm i) = false := by
    rw [seq_nm]
    cases e : Nat.beq j i with
    | false => rfl
    | true => have := Nat.eq_of_beq_eq_true e; omega
  unfold cmpG
  rw [h1, h2]; rfl
theorem srt_rows {k : Nat} (R : RowOk L row lk k) : Srt ((List.range k).map row) := by
  intro j hj
  have hj : j + 1 < k := by simpa using hj
  have g : ∀ i, i < k → ((List.range k).map row).getD i [] = row i := fun i hi => by
    rw [List.getD_eq_getElem?_getD, List.getElem?_map, List.getElem?_range hi]; rfl
  rw [g _ hj, g _ (by omega), R.name _ hj, R.name _ (by omega)]
  exact cmp_nm (by omega)
theorem few_rows {k : Nat} (R : RowOk L row lk k) (hl : ∀ i, i < k → (L i).length ≤ 2) : fewL ((List.range k).map row) := by
  intro r hr
  obtain ⟨i, hi, rfl⟩ := List.mem_map.1 hr
  have hi := List.mem_range.1 hi
  rw [R.links i hi, List.length_map]
  have := hl i hi; omega
/-- what Order comes to over the law's tables -/
theorem ord_rows {k : Nat} (R : RowOk L row lk k) : ordG k ((List.range k).map row) [] = (Ord.ordN L k (List.range k) []).map nmD :=
  ord_eq R k (List.range k) [] List.length_range fun x hx => List.mem_range.1 hx
end Go.Sy


open Go Go.Av Go.Sy Go.Proofs
set_option maxRecDepth 1000000
set_option linter.all false
noncomputable section
namespace Go.Sy
/-! ### What the law's function comes to -/
section
variable (preK : List DV → Bool) (fK : List DV → List D) (preO : List D → Bool) (fO : List D → List (List D)) (wOk : Int → Int → Bool) (wI : Int → Int → Int)
def conKn : ConP := ⟨.b false, preK, fK⟩
def conOr : ConO := ⟨[.l 58 false []], 9, preO, fO, false⟩
def conWn (l : List SV) (sh : SH) (k : SV → SH → Option (List D)) : Option (List D) := match l with
  | [.i .i64 n, .i .i64 m] => ifb (wOk n m) (k (.i .i64 (wI n m)) sh) none
  | _ => none
def ctL [Tok] : Ctr (List D) := fun j => bif Nat.beq j 17 then some ((conKn preK fK).ctr Tryz.prog) else bif Nat.beq j 18 then some (conWn wOk wI) else bif Nat.beq j 19 then some (conOr preO fO).ctr else base j
def hsL (j : Nat) : Hint := bif Nat.beq j 4 then { un := [11], grow := [(6, 58)] } else {}
/-- so many truths, so many numbers -/
def bsL : Nat → List D → List Bool
  | 0, _ => []
  | n + 1, v => (hdD v).bool :: bsL n v.tail
def isL : Nat → List D → List Int
  | 0, _ => []
  | n + 1, v => (hdD v).int :: isL n v.tail
def tl : Nat → List D → List D
  | 0, v => v
  | n + 1, v => tl n v.tail
def setb (ix : Nat) (x : Bool) : Nat → List Bool → List Bool
  | _, [] => []
  | j, b :: r => ifb (Nat.beq ix j) x b :: setb ix x (j + 1) r
def seti (ix : Nat) (x : Int) : Nat → List Int → List Int
  | _, [] => []
  | j, b :: r => ifb (Nat.beq ix j) x b :: seti ix x (j + 1) r
def bD (S : List Bool) : List D := S.map D.b
def iD (A : List Int) : List D := A.map D.i
/-- the tables' row, given up -/
def zD : List D := [.l []]
def ixA (a b : Int) : Nat := Nat.add (Nat.add 0 (Nat.mul (toN a) 8)) (Nat.mul (toN b) 1)
def ix1 (a : Int) : Nat := Nat.add 0 (Nat.mul (toN a) 1)
def acc (a b : Int) (e : Option (List D)) : Option (List D) := ifb (inR a 8) (ifb (inR b 8) (ifb (Nat.ble (ixA a b) 63) e none) none) none
def acc1 (a : Int) (e : Option (List D)) : Option (List D) := ifb (inR a 8) (ifb (Nat.ble (ix1 a) 7) e none) none
def I0 : Int := Int.ofNat 0
/-! the last loops -/
def step18 (k i : Int) (free : Bool) (recO rec : List D → Option (List D)) (v : List D) : Option (List D) :=
  let r := (hdD v).bool
  let j := v1 v
  let S := bsL 64 v.tail.tail
  let A := isL 8 (tl 66 v)
  let next := rec (.b r :: .i (one j) :: (bD S ++ (iD A ++ zD)))
  ifb (ltI j k) (acc i j (ifb (S.getD (ixA i j) false) (ifb (ifb (eqI j i) false true) (ifb free (acc j i (ifb (ifb (S.getD (ixA j i) false) false true)
    (acc1 j (acc1 i (ifb (ifb (ifb (ltI (A.getD (ix1 i) I0) (A.getD (ix1 j) I0)) false true) false true) (some [.b false]) next))) next)) next) next) next))
    (recO (.b r :: .i (one i) :: (bD S ++ (iD A ++ zD))))
def step16 (N : Nat) (k i : Int) (r : Bool) (A : List Int) (recO rec : List D → Option (List D)) (v : List D) : Option (List D) :=
  let free := (hdD v).bool
  let j := v1 v
  let S := bsL 64 v.tail.tail
  let nx (f : Bool) := rec (.b f :: .i (one j) :: (bD S ++ zD))
  ifb (ltI j k) (acc i j (ifb (S.getD (ixA i j) false) (acc j j (ifb (S.getD (ixA j j) false) (ifb (ifb (eqI j i) false true) (nx false) (nx free)) (nx free))) (nx free)))
    (loopK (step18 k i free recO) N (.b r :: .i I0 :: (bD S ++ (iD A ++ zD))))
def step14 (N : Nat) (k : Int) (o : List (List D)) (rec : List D → Option (List D)) (v : List D) : Option (List D) :=
  let r := (hdD v).bool
  let i := v1 v
  let S := bsL 64 v.tail.tail
  let A := isL 8 (tl 66 v)
  ifb (ltI i k) (acc1 i (loopK (step16 N k i r A rec) N (.b (ifb (ltI (A.getD (ix1 i) I0) I0) false true) :: .i I0 :: (bD S ++ zD))))
    (some [.b (eqI (Int.ofNat o.length) k)])
def step12 (N : Nat) (k : Int) (S : List Bool) (o : List (List D)) (rec : List D → Option (List D)) (v : List D) : Option (List D) :=
  let r := (hdD v).bool
  let i := v1 v
  let A := isL 8 v.tail.tail
  let s := gS (rw_ o i) 0
  let c := Int.ofNat (s.getD (toN (Int.ofNat 1)) 0)
  let x := wrapF .i64 (wrapF .u8 (subI c (Int.ofNat 97)))
  let ch (e : Option (List D)) := ifb (inR i o.length) (ifb (inR (Int.ofNat 1) (lenR s)) e none) none
  ifb (ltI i (Int.ofNat o.length)) (ifb (inR i o.length) (ifb (ifb (ifb (eqI (Int.ofNat (lenR s)) (Int.ofNat 2)) false true) false true)
    (ch (ifb (ifb (ltI c (Int.ofNat 97)) false true)
      (ch (ifb (ifb (ifb (ltI x k) false true) false true)
        (ch (acc1 x (ifb (ifb (ltI (A.getD (ix1 x) I0) I0) false true) (some [.b false]) (ch (acc1 x (rec (.b r :: .i (one i) :: (iD (seti (ix1 x) i 0 A) ++ zD))))))))
        (some [.b false])))
      (some [.b false])))
    (some [.b false])) none)
    (loopK (step14 N k o) N (.b r :: .i I0 :: (bD S ++ (iD A ++ zD))))
def step10 (N : Nat) (k : Int) (S : List Bool) (o : List (List D)) (rec : List D → Option (List D)) (v : List D) : Option (List D) :=
  let i := (hdD v).int
  let A := isL 8 v.tail
  ifb (ltI i k) (acc1 i (rec (.i (one i) :: (iD (seti (ix1 i) (Int.negSucc 0) 0 A) ++ zD))))
    (loopK (step12 N k S o) N (.b false :: .i I0 :: (iD A ++ zD)))
def lastK (N : Nat) (k : Int) (S : List Bool) (rows : List (List D)) : Option (List D) :=
  ifb (preO [.l rows]) (loopK (step10 N k S (fO [.l rows])) N (.i I0 :: (iD (List.replicate 8 I0) ++ zD))) none
/-! all ways -/
def stepJ (k m i : Int) (recI rec : List D → Option (List D)) (v : List D) : Option (List D) :=
  let j := (hdD v).int
  let S := bsL 64 v.tail
  let st (x : Bool) := acc i j (rec (.i (one j) :: (bD (setb (ixA i j) x 0 S) ++ zD)))
  ifb (ltI j k) (acc i j (ifb (ifb (S.getD (ixA i j) false) false true) (acc i m (ifb (S.getD (ixA i m) false) (acc m j (st (S.getD (ixA m j) false))) (st false))) (st true)))
    (recI (.i (one i) :: (bD S ++ zD)))
def stepI (N : Nat) (k m : Int) (recM rec : List D → Option (List D)) (v : List D) : Option (List D) :=
  let i := (hdD v).int
  let S := bsL 64 v.tail
  ifb (ltI i k) (loopK (stepJ k m i rec) N (.i I0 :: (bD S ++ zD))) (recM (.i (one m) :: (bD S ++ zD)))
def stepM (N : Nat) (k : Int) (rows : List (List D)) (rec : List D → Option (List D)) (v : List D) : Option (List D) :=
  let m := (hdD v).int
  let S := bsL 64 v.tail
  ifb (ltI m k) (loopK (stepI N k m rec) N (.i I0 :: (bD S ++ zD))) (lastK preO fO N k S rows)
/-! the tables -/
def tx (m : Int) : List Nat := List.take (Nat.sub (toN (one m)) (toN m)) (List.drop (toN m) [97, 98, 99, 100, 101, 102, 103, 104])
def chkT (m : Int) (e : Option (List D)) : Option (List D) :=
  ifb (ifb (inB (one m) 8) (inB m (toN (one m))) false) (ifb (Nat.ble (Nat.add 1 (lenR (tx m))) 2147483648) e none) none
def lkT (m : Int) : List D := [.i I0, .s (116 :: tx m)]
def linkAt (ls : List (List D)) (k i c : Int) (S : List Bool) (lk : List (List D)) (go : List Bool → List (List D) → Option (List D)) : Option (List D) :=
  let p := wrapF .i64 (addI (wrapF .i64 (Int.ofNat 2 * i)) c)
  let x := D.int (List.getD (List.getD ls (toN p) []) 0 (.i I0))
  let m := wI x (Int.ofNat 12)
  ifb (ltI p (Int.ofNat ls.length)) (ifb (inR p ls.length) (ifb (wOk x (Int.ofNat 12)) (ifb (ltI m k)
    (chkT m (ifb (fitsA (Nat.succ lk.length) 24) (acc i m (go (setb (ixA i m) true 0 S) (lk ++ [lkT m]))) none))
    (go S lk)) none) none) (go S lk)
def rowT (i : Int) (lk : List (List D)) : List D := [.s (116 :: tx i), .l [[.s [107], .i (Int.ofNat 2), .b true]], .i I0, .l [], .i I0, .s [], .i I0, .i I0, .i I0, .s [], .l [], .l lk, .l []]
def stepT (N : Nat) (ls : List (List D)) (k : Int) (rec : List D → Option (List D)) (v : List D) : Option (List D) :=
  let i := (hdD v).int
  let S := bsL 64 v.tail
  let rows := (hdD (tl 65 v)).rows
  let fin (S : List Bool) (lk : List (List D)) : Option (List D) := ifb (fitsA (Nat.succ rows.length) 208) (rec (.i (one i) :: (bD S ++ [.l (rows ++ [rowT i lk])]))) none
  ifb (ltI i k) (chkT i (linkAt wOk wI ls k i I0 S [] fun S lk => linkAt wOk wI ls k i (one I0) S lk fin))
    (loopK (stepM preO fO N k rows) N (.i I0 :: (bD S ++ zD)))
/-- the law's function -/
def lawO (N : Nat) (n : Int) (ls : List (List D)) : Option (List D) :=
  ifb (preK []) (ifb (ifb (hdD (fK [])).bool false true) (some [.b false])
    (ifb (wOk n (Int.ofNat 7)) (loopK (stepT preO fO wOk wI N ls (wrapF .i64 (addI (Int.ofNat 1) (wI n (Int.ofNat 7))))) N (.i I0 :: (bD (List.replicate 64 false) ++ [.l []]))) none)) none
end
end Go.Sy
