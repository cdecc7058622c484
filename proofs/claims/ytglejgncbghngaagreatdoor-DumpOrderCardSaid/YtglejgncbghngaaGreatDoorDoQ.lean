/- A part of the proof: what a machine of our own over the model's code answers is what the model does; no condition. -/
import Derived.Test.YtglejgncbghngaaGreatDoorDoK
import Derived.Test.YtglejgncbghngaaGreatDoorDoL
set_option linter.all false
open Go Go.Av Go.Sy Go.Proofs
set_option maxRecDepth 1000000
set_option linter.all false
noncomputable section
namespace Go.Sy
/-! ### The contracts hold; the law's run -/
theorem k17 : memoF l17 [] = some (.b true) := by kernel_rfl
theorem ct3 : ct Tryz.prog 3 = some [.i .i64] := by kernel_rfl
abbrev preKn : List DV → Bool := preG Tryz.prog TTDw 20 [] (.b false) (memoF l17)
abbrev fKn : List DV → List D := fG Tryz.prog (.b false) (memoF l17)
theorem facts [Tok] : FactsO preKn fKn wOkB (fun n m => n % m) where
  k := by
    obtain ⟨h1, h2⟩ := preG_of (P := Tryz.prog) (T := TTDw) (n := 20) (shs := []) (skR := .b false) (l := [.b true]) k17 rfl rfl rfl
    exact ⟨h1, by show (hdD (fG Tryz.prog (.b false) (memoF l17) [])).bool = true; rw [h2]; rfl⟩
  w := fun n hn => ⟨wOkB_of (by decide) (by decide) hn, rfl⟩
  w12 := fun n hn => ⟨wOkB_of (by decide) (by decide) hn, rfl⟩
variable [Tok]
abbrev ctW : Ctr (List D) := ctL preKn fKn ordPre ordF wOkB (fun n m => n % m)
theorem ctW_ok : Stand fsO ctW := by
  refine ((base_ok.upd (ct' := fun j => bif Nat.beq j 19 then some (conOr ordPre ordF).ctr else base j) (g := (conOr ordPre ordF).ctr) ord_ok fun i => rfl).upd (ct' := fun j => bif Nat.beq j 18 then some (conWn wOkB (fun n m => n % m)) else bif Nat.beq j 19 then some (conOr ordPre ordF).ctr else base j) (j := 18) (g := conWn wOkB (fun n m => n % m)) (conWi_ok rfl) fun i => rfl).upd (j := 17) (g := (conKn preKn fKn).ctr Tryz.prog) (conG_ok rfl) fun i => rfl
theorem law_code {n : Int} (hn : inI64 n) {xs : List Int} (hx : ∀ x ∈ xs, inI64 x) : codeS Tryz.prog ctW hsL 40 9 4 [.i .i64 n, .l 3 false (xs.map fun x => [.i x])] [] (kR (.b false)) = some [.b true] :=
  (lawO_den _ _ _ _ _ _ 40 n _).trans (lawO_true facts hn hx (by decide))
theorem law_enters : ∀ (args : Array Value) (w : World), (callFunc 4 args).run Tryz.prog w = .ok (.enter 4 args) w := enters_of tz_gor Tryz.func4 (by kernel_rfl)
theorem law_own : ∀ fn : Func, Tryz.prog.funcs[4]? = some fn → fsO 4 = funK Tryz.prog fn := own_at rfl
theorem ints_rows {Z : Pos → Prop} {h : Hp} : ∀ xs : List Int, RowsR Tryz.prog Z h (xs.map fun x => [D.i x]) [.i .i64] (xs.map (AVal.i .i64))
  | [] => by simp only [List.map_nil, RowsR]
  | x :: r => by
    simp only [List.map_cons, RowsR]
    exact ⟨[.i .i64 x], r.map (AVal.i .i64), rfl, by simp only [RowR, Sy.CR, and_true], ints_rows r⟩
theorem ints_VRL {σ : Sg} : ∀ xs : List Int, VRL σ (xs.map (AVal.i .i64)) (xs.map (Value.int .i64))
  | [] => VRL.nil
  | x :: r => VRL.cons (by simp only [VR]) (ints_VRL r)
section
variable {n : Int} (hn : inI64 n)
include hn
/-- no slice, or an empty one -/
theorem law_nil {W : World} (hg : GlobW Tryz.prog GG W) : Calls Tryz.prog 4 #[.int .i64 n, .slice none 0 0] W fun e W' => e = .returned (.bool true) ∧ Kept W W' := by
  obtain ⟨σ, s, hg0, hnt⟩ := start_sim hg
  have hf : ∀ b : Pos, (hG Tryz.prog GG).next.toNat ≤ b.toNat → (hG Tryz.prog GG).get b = none := fun b hb => by
    cases hx : (hG Tryz.prog GG).get b with
    | none => rfl
    | some x => obtain ⟨I, hI⟩ := s.old hx; rw [s.fresh b hb] at hI; cases hI
  refine law_top tz_mixed fsO_ok ctW_ok.ok ctW_ok.own law_own law_enters (law_code hn (xs := []) (fun x hx => by cases hx)) s hg0 hnt (start_heap (hG_GZ hg (Nat.le_refl _) (fun _ _ => rfl)) hf) (avs := [.i .i64 n, .sl none 0 0 0]) ?_ ?_
  · refine SVRL.cons (by simp only [SVR]) (SVRL.cons ?_ SVRL.nil)
    simp only [SVR]
    exact ⟨none, 0, 0, rfl, Nat.le_refl _, .inl rfl, (fun h => by cases h), .inl rfl⟩
  · exact VRL.cons (by simp only [VR]) (VRL.cons (by simp only [VR]) VRL.nil)
theorem law_empty {W : World} (hg : GlobW Tryz.prog GG W) (a : Addr) : Calls Tryz.prog 4 #[.int .i64 n, .slice (some a) 0 0] W fun e W' => e = .returned (.bool true) ∧ Kept W W' := by
  obtain ⟨σ, s, hg0, hnt⟩ := start_sim hg
  have hf : ∀ b : Pos, (hG Tryz.prog GG).next.toNat ≤ b.toNat → (hG Tryz.prog GG).get b = none := fun b hb => by
    cases hx : (hG Tryz.prog GG).get b with
    | none => rfl
    | some x => obtain ⟨I, hI⟩ := s.old hx; rw [s.fresh b hb] at hI; cases hI
  refine law_top tz_mixed fsO_ok ctW_ok.ok ctW_ok.own law_own law_enters (law_code hn (xs := []) (fun x hx => by cases hx)) s hg0 hnt (start_heap (hG_GZ hg (Nat.le_refl _) (fun _ _ => rfl)) hf) (avs := [.i .i64 n, .sl (some (Pos.ofNat GG.1, 0)) 0 0 0]) ?_ ?_
  · refine SVRL.cons (by simp only [SVR]) (SVRL.cons ?_ SVRL.nil)
    simp only [SVR]
    exact ⟨_, 0, 0, rfl, Nat.le_refl _, .inl rfl, (fun h => by cases h), .inl rfl⟩
  · obtain ⟨I, hI, _⟩ := hg0 GG.1 tz_lt
    refine VRL.cons (by simp only [VR]) (VRL.cons ?_ VRL.nil)
    rw [VR_sl_some]
    exact ⟨I, a, 0, hI, rfl, Nat.le_refl _, .inr ⟨rfl, rfl⟩⟩
/-- a slice of ints, some behind its end -/
theorem law_row {W : World} (hg : GlobW Tryz.prog GG W) {cb co cap : Nat} {xs ys : List Int} {arr : Array Value} {el : TypeId} {fz : Nat × Nat} (hx : ∀ x ∈ xs, inI64 x) (hW : W.heap[cb]? = some (.cells arr el fz)) (hcap : cap = xs.length + ys.length)
    (hle : co + cap ≤ arr.size) (hv : (arr.toList.drop co).take cap = (xs ++ ys).map (Value.int .i64)) : Calls Tryz.prog 4 #[.int .i64 n, .slice (some ⟨cb, co, none⟩) xs.length cap] W fun e W' => e = .returned (.bool true) ∧ Kept W W' := by
  have hl : ((xs ++ ys).map (AVal.i .i64)).length = cap := by simp [hcap]
  obtain ⟨σ, s, hg0, hnt, hσ⟩ := start_row (vs := (xs ++ ys).map (AVal.i .i64)) hg hW (by rw [hl]; exact hle) (fun σ => by rw [hl, hv]; exact ints_VRL _)
  have hnx : (hG Tryz.prog GG).next.toNat ≤ ((hG Tryz.prog GG).new (.cells ⟨(xs ++ ys).map (AVal.i .i64), false, []⟩)).next.toNat := by rw [Hp.new_next, Pos.toNat_succ]; omega
  have hf : ∀ b : Pos, ((hG Tryz.prog GG).new (.cells ⟨(xs ++ ys).map (AVal.i .i64), false, []⟩)).next.toNat ≤ b.toNat → ((hG Tryz.prog GG).new (.cells ⟨(xs ++ ys).map (AVal.i .i64), false, []⟩)).get b = none := fun b hb => by
    cases hx : ((hG Tryz.prog GG).new (.cells ⟨(xs ++ ys).map (AVal.i .i64), false, []⟩)).get b with
    | none => rfl
    | some x => obtain ⟨I, hI⟩ := s.old hx; rw [s.fresh b hb] at hI; cases hI
  refine law_top tz_mixed fsO_ok ctW_ok.ok ctW_ok.own law_own law_enters (law_code hn (xs := xs) hx) s hg0 hnt (start_heap (hG_GZ hg hnx (fun b hb => Hp.get_new_other _ _ _ (fun e => by subst e; exact absurd hb (Nat.lt_irrefl _)))) hf) (avs := [.i .i64 n, .sl (some ((hG Tryz.prog GG).next, 0)) xs.length cap 0]) ?_ ?_
  · refine SVRL.cons (by simp only [SVR]) (SVRL.cons ?_ SVRL.nil)
    simp only [SVR]
    refine ⟨some ((hG Tryz.prog GG).next, 0), cap, 0, by rw [List.length_map], by rw [List.length_map]; omega, .inl rfl, (fun h => by cases h), .inr ⟨(hG Tryz.prog GG).next, 0, rfl, ?_, [.i .i64], (xs ++ ys).map (AVal.i .i64), false, [], ct3, Hp.get_new_same _ _, ?_, ?_⟩⟩
    · show (hG Tryz.prog GG).next.toNat < ((hG Tryz.prog GG).new (.cells ⟨(xs ++ ys).map (AVal.i .i64), false, []⟩)).next.toNat
      rw [Hp.new_next, Pos.toNat_succ]; omega
    · simp
    · have : (((xs ++ ys).map (AVal.i .i64)).drop 0).take ((xs.map fun x => [D.i x]).length * [CT.i .i64].length) = xs.map (AVal.i .i64) := by simp
      rw [this]
      exact ints_rows xs
  · refine VRL.cons (by simp only [VR]) (VRL.cons ?_ VRL.nil)
    rw [VR_sl_some]
    exact ⟨_, _, cap, hσ, rfl, by omega, .inl ⟨by rw [Nat.add_zero], .inl rfl⟩⟩
end
end Go.Sy
