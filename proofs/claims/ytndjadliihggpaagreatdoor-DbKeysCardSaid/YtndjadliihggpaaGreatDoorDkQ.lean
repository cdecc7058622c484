/- A part of the proof: what a machine of our own over the model's code answers is what the model does; no condition. -/
import Derived.Test.YtndjadliihggpaaGreatDoorDkP
import Derived.Test.YtndjadliihggpaaGreatDoorCoA
import Derived.Test.YtndjadliihggpaaGreatDoorEnA
set_option linter.all false
open Go Go.Av Go.Sy Go.Proofs
set_option maxRecDepth 1000000
set_option linter.all false
noncomputable section
namespace Go.Av
instance glbK : Glb := ⟨GG⟩
theorem k9 : memoF l9 [] = some (.b true) := by kernel_rfl
theorem k13a : memoF l13 [.s crt] = some crD := by kernel_rfl
theorem k13b : memoF l13 [.s sel] = some selD := by kernel_rfl
theorem k12 : memoF l12 [.nil, crD] = some (ansD (tabI []) 0 [] 0) := by kernel_rfl
theorem ct38 : ct Tryz.prog 38 = some [.l 31] := by kernel_rfl
theorem ct31 : ct Tryz.prog 31 = some [.i .i64, .i .i64, .i .i64, .s] := by kernel_rfl
theorem ct3 : ct Tryz.prog 3 = some [.i .i64] := by kernel_rfl
theorem exec_all [Tok] : PureOk Tryz.prog GG 12 (relF Tells) := exec_pure (Go.Sy.PureOk.sub p12 fun ds r h => by
  obtain ⟨rfl, rfl⟩ := relF_eq h
  exact k12)
/-! ### What the values are like -/
theorem wf_rows : ∀ (L : KV), wfL (L.map rowI) = true
  | [] => rfl
  | p :: r => by simp only [List.map_cons, wfL, wf_rows r, Bool.and_true]; rfl
theorem wf_rws : ∀ (L : KV), wfD (rwsD (L.map rowI)) = true
  | [] => rfl
  | p :: r => by
    have h := wf_rows (p :: r)
    simp only [List.map_cons] at h
    simp only [List.map_cons, rwsD, wfD, h, List.length_cons, Nat.mul_one, Bool.and_true, Nat.beq_refl]
    rfl
theorem wf_tab (L : KV) : wfD (tabI L) = true := by
  simp only [tabI, tabD, wfD, wfL, wf_rws]; rfl
theorem wf_ans (L : KV) (e : Int) (M : KV) (n : Int) : wfD (ansD (tabI L) e (M.map rowI) n) = true := by
  simp only [ansD, wfD, wfL, wf_tab, wf_rws]; rfl
theorem ty_rows (n : Nat) : ∀ (L : KV), tyR (tyD TK (n + 2)) [.sl 4] [] (L.map rowI) = true
  | [] => rfl
  | p :: r => by
    simp only [List.map_cons, tyR, ty_rows n r, Bool.and_true]
    rfl
theorem ty_tab0 (d : DV) : tyD TK 20 (.sl 7) (.sl 1 13 [.s [116], .sl 2 3 [.s [107], .i .i64 2, .b true, .s [118], .i .i64 2, .b false], .i .i64 0, .nil, .i .i64 0, .s [], .i .i64 0, .i .i64 0, .i .i64 0, .s [], .nil, .nil, d]) = (tyD TK 19 (.sl 8) d && true) := by kernel_rfl
theorem ty_rws0 (n : Nat) (l : List DV) : tyD TK 19 (.sl 8) (.sl n 1 l) = tyR (tyD TK 18) [.sl 4] [] l := by kernel_rfl
theorem ty_tab (L : KV) : tyD TK 20 (.sl 7) (tabI L) = true := by
  have h := ty_rows 16 L
  unfold tabI tabD
  rw [ty_tab0, Bool.and_true]
  generalize L.map rowI = l at h
  cases l with
  | nil => rfl
  | cons a q => rw [rwsD, ty_rws0]; exact h
theorem ty_ins (L : KV) (k v : Int) : tyR (tyD TK 20) [] [.sl 7, .ag 5] [tabI L, insD (.i .i64 k) (.i .i64 v)] = true := by
  simp only [tyR, ty_tab, Bool.true_and, Bool.and_true]; rfl
theorem ty_sel (L : KV) : tyR (tyD TK 20) [] [.sl 7, .ag 5] [tabI L, selD] = true := by
  simp only [tyR, ty_tab, Bool.true_and, Bool.and_true]; rfl
theorem dv_row (p : Int × Int) : dvD Tryz.prog (.l 31) (rowI p) = some (.l [[.i 2, .i p.1, .i 0, .s []], [.i 2, .i p.2, .i 0, .s []]]) := by
  unfold rowI rwD
  simp only [dvD, ct31]
  rfl
theorem dv_cells : ∀ (L : KV), cellsD Tryz.prog [.l 31] [] (L.map rowI) = some ([], rowsI L)
  | [] => rfl
  | p :: r => by
    simp only [List.map_cons, cellsD, dv_row, dv_cells r]
    rfl
theorem dv_rows (L : KV) : dvD Tryz.prog (.l 38) (rwsD (L.map rowI)) = some (.l (rowsI L)) := by
  have h := dv_cells L
  have hl := rowsI_len L
  cases L with
  | nil => rfl
  | cons p r =>
    have hn : ((p :: r).map rowI).length = (rowsI (p :: r)).length := by rw [hl]; simp
    generalize (p :: r).map rowI = l at h hn
    cases l with
    | nil => rw [hl] at hn; cases hn
    | cons a q =>
      simp only [rwsD, dvD, ct38, h]
      rw [hn, hl]
      show (bif Nat.beq (r.length + 1) 0 then some (D.l []) else bif true then (bif Nat.beq (r.length + 1) (r.length + 1) then some (D.l (rowsI (p :: r))) else none) else none) = _
      rw [Nat.beq_refl]; rfl
abbrev skE : SV := .tu [.o .nil, .ag [.i .i64 0, .l 38 false [], .i .i64 0]]
theorem mt_ans (d : DV) (e : Int) (M : KV) (n : Int) : mtO Tryz.prog skE (ansD d e (M.map rowI) n) = some [enc d, .i e, .l (rowsI M), .i n] := by
  unfold ansD
  simp only [mtO, mtOL, dv_rows]
  rfl
/-! ### The facts -/
abbrev shE : List Sh := [.sl 7, .ag 5]
theorem facts [Tok] : Facts (preG Tryz.prog TK 20 [] (.b false) (memoF l9)) (fG Tryz.prog (.b false) (memoF l9)) (preG Tryz.prog TK 20 [.flat] (.o .nil) (memoF l13)) (fG Tryz.prog (.o .nil) (memoF l13))
    (preG Tryz.prog TK 20 shE skE (relF Tells)) (fG Tryz.prog skE (relF Tells)) wOkB (fun n m => n % m) where
  k := by
    obtain ⟨h1, h2⟩ := preG_of (P := Tryz.prog) (T := TK) (n := 20) (shs := []) (skR := .b false) (l := [.b true]) k9 rfl rfl rfl
    exact ⟨h1, by rw [h2]; rfl⟩
  s1 := preG_of (P := Tryz.prog) (T := TK) (n := 20) (shs := [.flat]) (skR := .o .nil) k13a (by kernel_rfl) rfl rfl
  s2 := preG_of (P := Tryz.prog) (T := TK) (n := 20) (shs := [.flat]) (skR := .o .nil) k13b (by kernel_rfl) rfl rfl
  c := preG_of (relF_of Tells_fn (.inl ⟨rfl, rfl⟩)) (wf_ans [] 0 [] 0) (by kernel_rfl) (mt_ans _ 0 [] 0)
  e := fun L k v hr hl hk => by
    by_cases hm : k ∈ keys L
    · have h : relF Tells [tabI L, insD (.i .i64 k) (.i .i64 v)] = some (ansD (tabI L) 8 [] 0) := relF_of Tells_fn (.inr (.inl ⟨L, k, v, hr, hl, hk, rfl, fun _ => rfl, fun h => absurd hm h⟩))
      obtain ⟨h1, h2⟩ := preG_of (T := TK) (n := 20) (shs := shE) h (wf_ans L 8 [] 0) (ty_ins L k v) (mt_ans (tabI L) 8 [] 0)
      exact ⟨h1, fun _ => h2, fun h => absurd hm h⟩
    · have h : relF Tells [tabI L, insD (.i .i64 k) (.i .i64 v)] = some (ansD (tabI (insr L k v)) 0 [] 1) := relF_of Tells_fn (.inr (.inl ⟨L, k, v, hr, hl, hk, rfl, fun h => absurd h hm, fun _ => rfl⟩))
      obtain ⟨h1, h2⟩ := preG_of (T := TK) (n := 20) (shs := shE) h (wf_ans (insr L k v) 0 [] 1) (ty_ins L k v) (mt_ans (tabI (insr L k v)) 0 [] 1)
      exact ⟨h1, fun h => absurd h hm, fun _ => h2⟩
  q := fun L hr hl => by
    have h : relF Tells [tabI L, selD] = some (ansD (tabI L) 0 (L.map rowI) 0) := relF_of Tells_fn (.inr (.inr ⟨L, hr, hl, rfl, rfl⟩))
    exact preG_of (T := TK) (n := 20) (shs := shE) h (wf_ans L 0 L 0) (ty_sel L) (mt_ans (tabI L) 0 L 0)
  w := fun n hn => ⟨wOkB_of (by decide) (by decide) hn, rfl⟩
/-! ### The law's run -/
variable [Tok]
def fsK (k : Nat) : Option AFun := ifb (Nat.beq k 9) (some (.sem (pureC TK 20 [] (memoF l9)))) (ifb (Nat.beq k 13) (some (.sem (pureC TK 20 [.flat] (memoF l13)))) (ifb (Nat.beq k 12) (some (.sem (pureC TK 20 shE (relF Tells)))) (ifb (Nat.beq k 10) (some (.sem wSem)) (ownF Tryz.prog k))))
theorem fsK_ok : FsOk Tryz.prog fsK := by
  intro k fn h
  unfold fsK at h
  rcases ifb_or h with ⟨h1, h⟩ | ⟨_, h⟩
  · cases h; rw [Nat.eq_of_beq_eq_true h1]; exact .sem (pureC_sem p9 tz_lt)
  rcases ifb_or h with ⟨h1, h⟩ | ⟨_, h⟩
  · cases h; rw [Nat.eq_of_beq_eq_true h1]; exact .sem (pureC_sem p13 tz_lt)
  rcases ifb_or h with ⟨h1, h⟩ | ⟨_, h⟩
  · cases h; rw [Nat.eq_of_beq_eq_true h1]; exact .sem (pureC_sem exec_all tz_lt)
  rcases ifb_or h with ⟨h1, h⟩ | ⟨_, h⟩
  · cases h; rw [Nat.eq_of_beq_eq_true h1]; exact .sem (wSem_ok within_ok)
  exact ownF_ok tz_gor h
theorem own_funs : ∀ (i : Nat) (fn : Func), Tryz.prog.funcs[i]? = some fn → ownF Tryz.prog i = funK Tryz.prog fn := by
  intro i fn h
  unfold ownF
  simp only [h]
abbrev ctL : Ctr (List D) := ctK (preG Tryz.prog TK 20 [] (.b false) (memoF l9)) (fG Tryz.prog (.b false) (memoF l9)) (preG Tryz.prog TK 20 [.flat] (.o .nil) (memoF l13)) (fG Tryz.prog (.o .nil) (memoF l13))
    (preG Tryz.prog TK 20 shE skE (relF Tells)) (fG Tryz.prog skE (relF Tells)) wOkB (fun n m => n % m)
theorem ctL_ok : CtrOk Tryz.prog fsK ctL := by
  unfold CtrOk
  intro j g h
  unfold ctL ctK at h
  cases h9 : Nat.beq j 9 with
  | true =>
    rw [h9] at h; cases h
    obtain rfl := Nat.eq_of_beq_eq_true h9
    exact conG_ok rfl
  | false =>
  rw [h9] at h
  cases h13 : Nat.beq j 13 with
  | true =>
    rw [h13] at h; cases h
    obtain rfl := Nat.eq_of_beq_eq_true h13
    exact conG_ok rfl
  | false =>
  rw [h13] at h
  cases h12 : Nat.beq j 12 with
  | true =>
    rw [h12] at h; cases h
    obtain rfl := Nat.eq_of_beq_eq_true h12
    exact conG_ok rfl
  | false =>
  rw [h12] at h
  cases h10 : Nat.beq j 10 with
  | true =>
    rw [h10] at h; cases h
    obtain rfl := Nat.eq_of_beq_eq_true h10
    exact conWi_ok rfl
  | false => rw [h10] at h; cases h
theorem own_else : ∀ (i : Nat) (fn : Func), ctL i = none → Tryz.prog.funcs[i]? = some fn → fsK i = funK Tryz.prog fn := by
  intro i fn h hf
  unfold ctL ctK at h
  unfold fsK
  cases h9 : Nat.beq i 9 with
  | true => rw [h9] at h; cases h
  | false =>
  rw [h9] at h
  cases h13 : Nat.beq i 13 with
  | true => rw [h13] at h; cases h
  | false =>
  rw [h13] at h
  cases h12 : Nat.beq i 12 with
  | true => rw [h12] at h; cases h
  | false =>
  rw [h12] at h
  cases h10 : Nat.beq i 10 with
  | true => rw [h10] at h; cases h
  | false => exact own_funs i fn hf
theorem law_code {xs : List Int} (hx : ∀ x ∈ xs, inI64 x) : codeS Tryz.prog ctL (fun _ => {}) 40 9 4 [.l 3 false (xs.map fun x => [.i x])] [] (kR (.b false)) = some [.b true] :=
  (law_den _ _ _ _ _ _ _ _ 40 _).trans (law_true facts hx (Nat.le_refl 40))
theorem law_enters : ∀ (args : Array Value) (w : World), (callFunc 4 args).run Tryz.prog w = .ok (.enter 4 args) w := enters_of tz_gor Tryz.func4 (by kernel_rfl)
theorem law_own : ∀ fn : Func, Tryz.prog.funcs[4]? = some fn → fsK 4 = funK Tryz.prog fn := fun fn h => own_funs 4 fn h
theorem ints_rows {Z : Pos → Prop} {h : Hp} : ∀ xs : List Int, RowsR Tryz.prog Z h (xs.map fun x => [D.i x]) [.i .i64] (xs.map (AVal.i .i64))
  | [] => by simp only [List.map_nil, RowsR]
  | x :: r => by
    simp only [List.map_cons, RowsR]
    exact ⟨[.i .i64 x], r.map (AVal.i .i64), rfl, by simp only [RowR, Sy.CR, and_true], ints_rows r⟩
theorem ints_VRL {σ : Sg} : ∀ xs : List Int, VRL σ (xs.map (AVal.i .i64)) (xs.map (Value.int .i64))
  | [] => VRL.nil
  | x :: r => VRL.cons (by simp only [VR]) (ints_VRL r)
/-- no slice, or an empty one -/
theorem law_nil {W : World} (hg : GlobW Tryz.prog GG W) : Calls Tryz.prog 4 #[.slice none 0 0] W fun e W' => e = .returned (.bool true) ∧ Kept W W' := by
  obtain ⟨σ, s, hg0, hnt⟩ := start_sim hg
  have hf : ∀ b : Pos, (hG Tryz.prog GG).next.toNat ≤ b.toNat → (hG Tryz.prog GG).get b = none := fun b hb => by
    cases hx : (hG Tryz.prog GG).get b with
    | none => rfl
    | some x => obtain ⟨I, hI⟩ := s.old hx; rw [s.fresh b hb] at hI; cases hI
  refine law_top tz_mixed fsK_ok ctL_ok own_else law_own law_enters (law_code (xs := []) (fun x hx => by cases hx)) s hg0 hnt (start_heap (hG_GZ hg (Nat.le_refl _) (fun _ _ => rfl)) hf) (avs := [.sl none 0 0 0]) ?_ ?_
  · refine SVRL.cons ?_ SVRL.nil
    simp only [SVR]
    exact ⟨none, 0, 0, rfl, Nat.le_refl _, .inl rfl, (fun h => by cases h), .inl rfl⟩
  · exact VRL.cons (by simp only [VR]) VRL.nil
theorem law_empty {W : World} (hg : GlobW Tryz.prog GG W) (a : Addr) : Calls Tryz.prog 4 #[.slice (some a) 0 0] W fun e W' => e = .returned (.bool true) ∧ Kept W W' := by
  obtain ⟨σ, s, hg0, hnt⟩ := start_sim hg
  have hf : ∀ b : Pos, (hG Tryz.prog GG).next.toNat ≤ b.toNat → (hG Tryz.prog GG).get b = none := fun b hb => by
    cases hx : (hG Tryz.prog GG).get b with
    | none => rfl
    | some x => obtain ⟨I, hI⟩ := s.old hx; rw [s.fresh b hb] at hI; cases hI
  refine law_top tz_mixed fsK_ok ctL_ok own_else law_own law_enters (law_code (xs := []) (fun x hx => by cases hx)) s hg0 hnt (start_heap (hG_GZ hg (Nat.le_refl _) (fun _ _ => rfl)) hf) (avs := [.sl (some (Pos.ofNat GG.1, 0)) 0 0 0]) ?_ ?_
  · refine SVRL.cons ?_ SVRL.nil
    simp only [SVR]
    exact ⟨_, 0, 0, rfl, Nat.le_refl _, .inl rfl, (fun h => by cases h), .inl rfl⟩
  · obtain ⟨I, hI, _⟩ := hg0 GG.1 tz_lt
    refine VRL.cons ?_ VRL.nil
    rw [VR_sl_some]
    exact ⟨I, a, 0, hI, rfl, Nat.le_refl _, .inr ⟨rfl, rfl⟩⟩
/-- a slice of ints, some behind its end -/
theorem law_row {W : World} (hg : GlobW Tryz.prog GG W) {cb co cap : Nat} {xs ys : List Int} {arr : Array Value} {el : TypeId} {fz : Nat × Nat} (hx : ∀ x ∈ xs, inI64 x) (hW : W.heap[cb]? = some (.cells arr el fz)) (hcap : cap = xs.length + ys.length)
    (hle : co + cap ≤ arr.size) (hv : (arr.toList.drop co).take cap = (xs ++ ys).map (Value.int .i64)) : Calls Tryz.prog 4 #[.slice (some ⟨cb, co, none⟩) xs.length cap] W fun e W' => e = .returned (.bool true) ∧ Kept W W' := by
  have hl : ((xs ++ ys).map (AVal.i .i64)).length = cap := by simp [hcap]
  obtain ⟨σ, s, hg0, hnt, hσ⟩ := start_row (vs := (xs ++ ys).map (AVal.i .i64)) hg hW (by rw [hl]; exact hle) (fun σ => by rw [hl, hv]; exact ints_VRL _)
  have hn : (hG Tryz.prog GG).next.toNat ≤ ((hG Tryz.prog GG).new (.cells ⟨(xs ++ ys).map (AVal.i .i64), false, []⟩)).next.toNat := by rw [Hp.new_next, Pos.toNat_succ]; omega
  have hf : ∀ b : Pos, ((hG Tryz.prog GG).new (.cells ⟨(xs ++ ys).map (AVal.i .i64), false, []⟩)).next.toNat ≤ b.toNat → ((hG Tryz.prog GG).new (.cells ⟨(xs ++ ys).map (AVal.i .i64), false, []⟩)).get b = none := fun b hb => by
    cases hx : ((hG Tryz.prog GG).new (.cells ⟨(xs ++ ys).map (AVal.i .i64), false, []⟩)).get b with
    | none => rfl
    | some x => obtain ⟨I, hI⟩ := s.old hx; rw [s.fresh b hb] at hI; cases hI
  refine law_top tz_mixed fsK_ok ctL_ok own_else law_own law_enters (law_code (xs := xs) hx) s hg0 hnt (start_heap (hG_GZ hg hn (fun b hb => Hp.get_new_other _ _ _ (fun e => by subst e; exact absurd hb (Nat.lt_irrefl _)))) hf) (avs := [.sl (some ((hG Tryz.prog GG).next, 0)) xs.length cap 0]) ?_ ?_
  · refine SVRL.cons ?_ SVRL.nil
    simp only [SVR]
    refine ⟨some ((hG Tryz.prog GG).next, 0), cap, 0, by rw [List.length_map], by rw [List.length_map]; omega, .inl rfl, (fun h => by cases h), .inr ⟨(hG Tryz.prog GG).next, 0, rfl, ?_, [.i .i64], (xs ++ ys).map (AVal.i .i64), false, [], ct3, Hp.get_new_same _ _, ?_, ?_⟩⟩
    · show (hG Tryz.prog GG).next.toNat < ((hG Tryz.prog GG).new (.cells ⟨(xs ++ ys).map (AVal.i .i64), false, []⟩)).next.toNat
      rw [Hp.new_next, Pos.toNat_succ]; omega
    · simp
    · have : (((xs ++ ys).map (AVal.i .i64)).drop 0).take ((xs.map fun x => [D.i x]).length * [CT.i .i64].length) = xs.map (AVal.i .i64) := by simp
      rw [this]
      exact ints_rows xs
  · refine VRL.cons ?_ VRL.nil
    rw [VR_sl_some]
    exact ⟨_, _, cap, hσ, rfl, by omega, .inl ⟨by rw [Nat.add_zero], .inl rfl⟩⟩
end Go.Av
