/- A part of the proof: what a machine of our own over the model's code answers is what the model does; no condition. -/
import Derived.Test.YtndjadliihggpaaGreatDoorDkC
import Derived.Test.YtndjadliihggpaaGreatDoorDkD
import Derived.Test.YtndjadliihggpaaGreatDoorAwC
import Derived.Test.YtndjadliihggpaaGreatDoorSyC
set_option linter.all false
open Go Go.Av Go.Sy Go.Proofs
set_option linter.all false
noncomputable section
namespace Go.Av
/-! ### Tokens as ints -/
mutual
def subD (K : Nat → Int) : DV → DV
  | .sl n e cs => .sl n e (subL K cs)
  | .ag cs => .ag (subL K cs)
  | .tu cs => .tu (subL K cs)
  | .t k => .i .i64 (K k)
  | d => d
def subL (K : Nat → Int) : List DV → List DV
  | [] => []
  | a :: r => subD K a :: subL K r
end
theorem subL_map (K : Nat → Int) : ∀ l : List DV, subL K l = l.map (subD K)
  | [] => rfl
  | a :: r => by rw [subL, subL_map K r]; rfl
theorem subL_len (K : Nat → Int) (l : List DV) : (subL K l).length = l.length := by rw [subL_map]; simp
mutual
theorem DR_sub {w : World} {Q : Nat → Prop} {T1 T2 : Tok} {K : Nat → Int} (h1 : ∀ k, T1.val k = .int .i64 (K k)) : ∀ (d : DV) (v : Value), @DR T1 w Q d v ↔ @DR T2 w Q (subD K d) v
  | .i k n, v => by simp only [subD, DR]
  | .b c, v => by simp only [subD, DR]
  | .s l, v => by simp only [subD, DR]
  | .nil, v => by simp only [subD, DR]
  | .t k, v => by simp only [subD, DR]; rw [h1]
  | .sl n e cs, v => by
    have hl : ∀ l, @DRL T1 w Q cs l ↔ @DRL T2 w Q (subL K cs) l := fun l => DRL_sub h1 cs l
    have hn : subL K cs = [] ↔ cs = [] := by cases cs <;> simp [subL]
    simp only [subD, DR, hl, hn, subL_len]
  | .ag cs, v => by
    have hl : ∀ l, @DRL T1 w Q cs l ↔ @DRL T2 w Q (subL K cs) l := fun l => DRL_sub h1 cs l
    simp only [subD, DR, hl]
  | .tu cs, v => by
    have hl : ∀ l, @DRL T1 w Q cs l ↔ @DRL T2 w Q (subL K cs) l := fun l => DRL_sub h1 cs l
    simp only [subD, DR, hl]
theorem DRL_sub {w : World} {Q : Nat → Prop} {T1 T2 : Tok} {K : Nat → Int} (h1 : ∀ k, T1.val k = .int .i64 (K k)) : ∀ (d : List DV) (v : List Value), @DRL T1 w Q d v ↔ @DRL T2 w Q (subL K d) v
  | [], v => by simp only [subL, DRL]
  | a :: r, v => by
    have e1 : ∀ x, @DR T1 w Q a x ↔ @DR T2 w Q (subD K a) x := fun x => DR_sub h1 a x
    have e2 : ∀ x, @DRL T1 w Q r x ↔ @DRL T2 w Q (subL K r) x := fun x => DRL_sub h1 r x
    simp only [subL, DRL, e1, e2]
end
/-- what one entry of tokens tells of ints -/
theorem ent_sub {P : Program} {G : Nat × List Nat} {k : Nat} {T1 T2 : Tok} {K : Nat → Int} (h1 : ∀ k, T1.val k = .int .i64 (K k)) {e : Ent} (h : @PureOk T1 P G k (memoF [e])) {w : World} {args' : Array Value} (hg : GlobW P G w) (hds : @DRL T2 w (fun _ => True) (subL K e.args) args'.toList) :
    ((callFunc k args').run P w = .ok (.enter k args') w ∧ ∀ n, CallsIn Fence.wide n P k args' w (@PureR T2 w (subD K e.res))) ∨ ∃ v' w', (callFunc k args').run P w = .ok (.value v') w' ∧ @PureR T2 w (subD K e.res) (.returned v') w' := by
  have hF : memoF [e] e.args = some e.res := by
    show ifb (DV.sames e.args e.args) (some e.res) none = _
    rw [DV.sames_refl]
  have hr : ∀ x w', @PureR T1 w e.res x w' → @PureR T2 w (subD K e.res) x w' := fun x w' hp => by
    cases x with
    | returned v' => exact ⟨hp.1, (DR_sub h1 _ _).1 hp.2⟩
    | panicked c => exact hp.elim
    | outgrown => exact hp.elim
  rcases h w args' e.args e.res hg ((DRL_sub h1 _ _).2 hds) hF with ⟨k1, k2⟩ | ⟨v', w', k1, k2⟩
  · exact .inl ⟨k1, fun n => (k2 n).mono fun x w' hp => hr x w' hp⟩
  · exact .inr ⟨v', w', k1, hr _ _ k2⟩
theorem ck_all : ∀ (n : Nat), n ≤ 20 → ∀ (K : Nat → Int) (hK : Rise n K), ∀ e ∈ allE n, okE n K hK e = true := by
  intro n hn K hK
  obtain rfl | rfl | rfl | rfl | rfl | rfl | rfl | rfl | rfl | rfl | rfl | rfl | rfl | rfl | rfl | rfl | rfl | rfl | rfl | rfl | rfl : n = 0 ∨ n = 1 ∨ n = 2 ∨ n = 3 ∨ n = 4 ∨ n = 5 ∨ n = 6 ∨ n = 7 ∨ n = 8 ∨ n = 9 ∨ n = 10 ∨ n = 11 ∨ n = 12 ∨ n = 13 ∨ n = 14 ∨ n = 15 ∨ n = 16 ∨ n = 17 ∨ n = 18 ∨ n = 19 ∨ n = 20 := by omega
  · exact ck_0 K hK
  · exact ck_1 K hK
  · exact ck_2 K hK
  · exact ck_3 K hK
  · exact ck_4 K hK
  · exact ck_5 K hK
  · exact ck_6 K hK
  · exact ck_7 K hK
  · exact ck_8 K hK
  · exact ck_9 K hK
  · exact ck_10 K hK
  · exact ck_11 K hK
  · exact ck_12 K hK
  · exact ck_13 K hK
  · exact ck_14 K hK
  · exact ck_15 K hK
  · exact ck_16 K hK
  · exact ck_17 K hK
  · exact ck_18 K hK
  · exact ck_19 K hK
  · exact ck_20 K hK
theorem ent_pure {n : Nat} (hn : n ≤ 20) {K : Nat → Int} (hK : Rise n K) {e : Ent} (he : e ∈ allE n) : @PureOk (tokO n K hK) Tryz.prog GG 12 (memoF [e]) := by
  letI := tokO n K hK
  refine memo_pure (fs := fsB) (n := 100000) (m := 20) (T := TK) (shr := .tu 10) tz_mixed fsB_ok (fun e' he' => ?_)
  rw [List.mem_singleton] at he'
  subst he'
  exact ck_all n hn K hK e' he
/-! ### Rows -/
theorem sub_row {K : Nat → Int} {k v : DV} : subD K (rwD k v) = rwD (subD K k) (subD K v) := by simp only [rwD, subD, subL]
theorem sub_rws {K : Nat → Int} {l : List DV} : subD K (rwsD l) = rwsD (l.map (subD K)) := by
  cases l with
  | nil => simp only [rwsD, subD, List.map_nil]
  | cons a r => simp only [rwsD, subD, List.map_cons, subL, subL_map, List.length_cons, List.length_map]
theorem sub_tab {K : Nat → Int} {l : List DV} : subD K (tabD l) = tabD (l.map (subD K)) := by simp only [tabD, subD, subL, sub_rws]
theorem sub_ins {K : Nat → Int} {k v : DV} : subD K (insD k v) = insD (subD K k) (subD K v) := by simp only [insD, subD, subL, sub_row]
theorem sub_sel {K : Nat → Int} : subD K selD = selD := by simp only [selD, subD, subL]
theorem sub_ans {K : Nat → Int} {d : DV} {e : Int} {l : List DV} {n : Int} : subD K (ansD d e l n) = ansD (subD K d) e (l.map (subD K)) n := by simp only [ansD, subD, subL, sub_rws]
/-- the tokens' ints: keys, values; the last of all -/
def kOf (L : KV) (v : Int) (a : Nat) : Int := if a < 100 then (L.getD a (0, 0)).1 else if a = 199 then v else (L.getD (a - 100) (0, 0)).2
theorem kOf_rise {L : KV} {v : Int} (hr : Ris L) (hl : L.length ≤ 20) : Rise L.length (kOf L v) := by
  intro a b hab hb
  unfold kOf
  rw [if_pos (by omega), if_pos (by omega), List.getD_eq_getElem?_getD, List.getD_eq_getElem?_getD, List.getElem?_eq_getElem (by omega : a < L.length), List.getElem?_eq_getElem hb]
  exact (List.pairwise_iff_getElem.1 hr) a b (by omega) hb hab
theorem row_of {L : KV} {v : Int} (hl : L.length ≤ 20) {a : Nat} (ha : a < L.length) : subD (kOf L v) (tkR a) = rowI (L.getD a (0, 0)) := by
  unfold tkR rowI
  rw [sub_row]
  simp only [subD]
  congr 2
  · unfold kOf; rw [if_pos (by omega)]
  · unfold kOf; rw [if_neg (by omega), if_neg (by omega)]; congr 2; omega
theorem rows_of {L : KV} {v : Int} (hl : L.length ≤ 20) : (tkL (List.range L.length)).map (subD (kOf L v)) = L.map rowI := by
  apply List.ext_getElem?
  intro i
  unfold tkL
  rw [List.getElem?_map, List.getElem?_map, List.getElem?_map]
  by_cases hi : i < L.length
  · rw [List.getElem?_range hi, List.getElem?_eq_getElem hi]
    simp only [Option.map_some]
    rw [row_of hl hi, List.getD_eq_getElem?_getD, List.getElem?_eq_getElem hi]; rfl
  · rw [List.getElem?_eq_none (by simpa using hi), List.getElem?_eq_none (by omega)]; rfl
theorem but_of {L1 L2 : KV} {x : Int × Int} {v : Int} (hl : (L1 ++ x :: L2).length ≤ 20) : (tkL (but (L1 ++ x :: L2).length L1.length)).map (subD (kOf (L1 ++ x :: L2) v)) = (L1 ++ L2).map rowI := by
  have hlen : (L1 ++ x :: L2).length = L1.length + (L2.length + 1) := by simp
  unfold but tkL
  rw [List.map_append, List.map_append, List.map_append, List.map_map, List.map_map, List.map_map]
  congr 1
  · apply List.ext_getElem?
    intro i
    rw [List.getElem?_map, List.getElem?_map]
    by_cases hi : i < L1.length
    · rw [List.getElem?_range hi, List.getElem?_eq_getElem hi]
      simp only [Option.map_some, Function.comp]
      rw [row_of hl (by omega), List.getD_eq_getElem?_getD, List.getElem?_append_left hi, List.getElem?_eq_getElem hi]; rfl
    · rw [List.getElem?_eq_none (by simpa using hi), List.getElem?_eq_none (by omega)]; rfl
  · apply List.ext_getElem?
    intro i
    rw [List.getElem?_map, List.getElem?_map, hlen]
    by_cases hi : i < L2.length
    · rw [List.getElem?_range (by omega), List.getElem?_eq_getElem hi]
      simp only [Option.map_some, Function.comp]
      rw [row_of hl (by omega), List.getD_eq_getElem?_getD, List.getElem?_append_right (by omega), show L1.length + 1 + i - L1.length = i + 1 by omega, List.getElem?_cons_succ, List.getElem?_eq_getElem hi]; rfl
    · rw [List.getElem?_eq_none (by simp; omega), List.getElem?_eq_none (by omega)]; rfl
theorem insr_split {k v : Int} : ∀ {L : KV}, ∃ L1 L2, L = L1 ++ L2 ∧ insr L k v = L1 ++ (k, v) :: L2
  | [] => ⟨[], [], rfl, rfl⟩
  | p :: r => by
    unfold insr
    split
    · exact ⟨[], p :: r, rfl, rfl⟩
    · obtain ⟨L1, L2, e1, e2⟩ := insr_split (k := k) (v := v) (L := r)
      exact ⟨p :: L1, L2, by rw [e1]; rfl, by rw [e2]; rfl⟩
/-! ### What 'Exec' answers of the table -/
def Tells (ds : List DV) (r : DV) : Prop :=
  (ds = [.nil, crD] ∧ r = ansD (tabI []) 0 [] 0) ∨
  (∃ (L : KV) (k v : Int), Ris L ∧ L.length ≤ 20 ∧ (k ∉ keys L → L.length < 20) ∧ ds = [tabI L, insD (.i .i64 k) (.i .i64 v)] ∧ (k ∈ keys L → r = ansD (tabI L) 8 [] 0) ∧ (k ∉ keys L → r = ansD (tabI (insr L k v)) 0 [] 1)) ∨
  (∃ L : KV, Ris L ∧ L.length ≤ 20 ∧ ds = [tabI L, selD] ∧ r = ansD (tabI L) 0 (L.map rowI) 0)
theorem rowI_inj {a c : Int × Int} (h : rowI a = rowI c) : a = c := by
  obtain ⟨a1, a2⟩ := a; obtain ⟨c1, c2⟩ := c
  simp only [rowI, rwD, DV.sl.injEq, List.cons.injEq, DV.i.injEq, true_and, and_true] at h
  rw [h.1, h.2]
theorem map_inj {α β : Type} {f : α → β} (hf : ∀ a c, f a = f c → a = c) : ∀ {l m : List α}, l.map f = m.map f → l = m
  | [], [], _ => rfl
  | [], _ :: _, h => by simp at h
  | _ :: _, [], h => by simp at h
  | a :: r, c :: q, h => by simp only [List.map_cons, List.cons.injEq] at h; rw [hf _ _ h.1, map_inj hf h.2]
theorem rwsD_inj {l m : List DV} (h : rwsD l = rwsD m) : l = m := by
  cases l <;> cases m <;> simp only [rwsD, DV.sl.injEq, reduceCtorEq] at h
  · rfl
  · rw [h.2.2]
theorem tabI_inj {L M : KV} (h : tabI L = tabI M) : L = M := by
  simp only [tabI, tabD, DV.sl.injEq, List.cons.injEq, true_and, and_true] at h
  exact map_inj (fun _ _ => rowI_inj) (rwsD_inj h)
theorem insI_inj {k v k' v' : Int} (h : insD (.i .i64 k) (.i .i64 v) = insD (.i .i64 k') (.i .i64 v')) : k = k' ∧ v = v' := by
  simp only [insD, rwD, DV.ag.injEq, DV.sl.injEq, List.cons.injEq, DV.i.injEq, true_and, and_true] at h
  exact h
theorem Tells_fn : ∀ (ds : List DV) (r r' : DV), Tells ds r → Tells ds r' → r = r' := by
  rintro ds r r' (⟨rfl, rfl⟩ | ⟨L, k, v, h1, h2, h3, rfl, h4, h5⟩ | ⟨L, h1, h2, rfl, rfl⟩) (⟨e, rfl⟩ | ⟨M, k', v', g1, g2, g3, e, g4, g5⟩ | ⟨M, g1, g2, e, rfl⟩)
  · rfl
  · simp [tabI, tabD] at e
  · simp [tabI, tabD] at e
  · simp [tabI, tabD] at e
  · simp only [List.cons.injEq, and_true] at e
    have e1 := tabI_inj e.1
    obtain ⟨e2, e3⟩ := insI_inj e.2
    subst e1; subst e2; subst e3
    by_cases hk : k ∈ keys L
    · rw [h4 hk, g4 hk]
    · rw [h5 hk, g5 hk]
  · simp [insD, selD] at e
  · simp [tabI, tabD] at e
  · simp [insD, selD] at e
  · simp only [List.cons.injEq, and_true] at e
    have e1 := tabI_inj e
    subst e1; rfl
theorem exec_pure [Tok] (hc : PureOk Tryz.prog GG 12 (relF fun ds r => ds = [.nil, crD] ∧ r = ansD (tabI []) 0 [] 0)) : PureOk Tryz.prog GG 12 (relF Tells) := by
  intro w args' ds r hg hds hF
  rcases relF_eq hF with ⟨rfl, rfl⟩ | ⟨L, k, v, h1, h2, h3, rfl, h4, h5⟩ | ⟨L, h1, h2, rfl, rfl⟩
  · exact hc w args' _ _ hg hds (relF_of (fun _ _ _ h h2 => h.2.trans h2.2.symm) ⟨rfl, rfl⟩)
  · by_cases hk : k ∈ keys L
    · rw [h4 hk]
      obtain ⟨q, hq, hqk⟩ := List.mem_map.1 hk
      obtain ⟨p, hp, rfl⟩ := List.mem_iff_getElem.1 hq
      have hm : dupE L.length p ∈ allE L.length := by
        unfold allE
        exact List.mem_append_left _ (List.mem_append_right _ (List.mem_map_of_mem (List.mem_range.2 hp)))
      have hsub : subL (kOf L v) (dupE L.length p).args = [tabI L, insD (.i .i64 k) (.i .i64 v)] := by
        show [subD (kOf L v) (tabD _), subD (kOf L v) (insD _ _)] = _
        rw [sub_tab, sub_ins, rows_of h2]
        simp only [subD]
        rw [show kOf L v p = k by unfold kOf; rw [if_pos (by omega), List.getD_eq_getElem?_getD, List.getElem?_eq_getElem hp]; exact hqk, show kOf L v 199 = v from rfl]
        rfl
      have hres : subD (kOf L v) (dupE L.length p).res = ansD (tabI L) 8 [] 0 := by
        show subD (kOf L v) (ansD _ _ _ _) = _
        rw [sub_ans, sub_tab, rows_of h2]; rfl
      have := ent_sub (T2 := ‹Tok›) (K := kOf L v) (fun _ => rfl) (ent_pure h2 (kOf_rise h1 h2) hm) hg (by rw [hsub]; exact hds)
      rw [hres] at this
      exact this
    · rw [h5 hk]
      have hl := h3 hk
      obtain ⟨L1, L2, e1, e2⟩ := insr_split (k := k) (v := v) (L := L)
      have hr2 := insr_ris (v := v) h1 hk
      have hn : (insr L k v).length = L.length + 1 := insr_len k v L
      rw [e2] at hr2 hn
      have hM : (L1 ++ (k, v) :: L2).length ≤ 20 := by omega
      have hp : L1.length < (L1 ++ (k, v) :: L2).length := by simp
      have hm : newE (L1 ++ (k, v) :: L2).length L1.length ∈ allE (L1 ++ (k, v) :: L2).length := by
        unfold allE
        exact List.mem_append_left _ (List.mem_append_left _ (List.mem_map_of_mem (List.mem_range.2 hp)))
      have hx : (L1 ++ (k, v) :: L2).getD L1.length (0, 0) = (k, v) := by
        rw [List.getD_eq_getElem?_getD, List.getElem?_append_right (Nat.le_refl _), Nat.sub_self]; rfl
      have hsub : subL (kOf (L1 ++ (k, v) :: L2) v) (newE (L1 ++ (k, v) :: L2).length L1.length).args = [tabI L, insD (.i .i64 k) (.i .i64 v)] := by
        show [subD (kOf (L1 ++ (k, v) :: L2) v) (tabD _), subD (kOf (L1 ++ (k, v) :: L2) v) (insD _ _)] = _
        rw [sub_tab, sub_ins, but_of hM, e1]
        simp only [subD]
        rw [show kOf (L1 ++ (k, v) :: L2) v L1.length = k by unfold kOf; rw [if_pos (by omega), hx], show kOf (L1 ++ (k, v) :: L2) v (100 + L1.length) = v by unfold kOf; rw [if_neg (by omega), if_neg (by omega), show 100 + L1.length - 100 = L1.length by omega, hx]]
        rfl
      have hres : subD (kOf (L1 ++ (k, v) :: L2) v) (newE (L1 ++ (k, v) :: L2).length L1.length).res = ansD (tabI (insr L k v)) 0 [] 1 := by
        show subD (kOf (L1 ++ (k, v) :: L2) v) (ansD _ _ _ _) = _
        rw [sub_ans, sub_tab, rows_of hM, e2]; rfl
      have := ent_sub (T2 := ‹Tok›) (K := kOf (L1 ++ (k, v) :: L2) v) (fun _ => rfl) (ent_pure hM (kOf_rise hr2 hM) hm) hg (by rw [hsub]; exact hds)
      rw [hres] at this
      exact this
  · have hm : selE L.length ∈ allE L.length := by
      unfold allE
      exact List.mem_append_right _ (List.mem_singleton.2 rfl)
    have hsub : subL (kOf L 0) (selE L.length).args = [tabI L, selD] := by
      show [subD (kOf L 0) (tabD _), subD (kOf L 0) selD] = _
      rw [sub_tab, sub_sel, rows_of h2]; rfl
    have hres : subD (kOf L 0) (selE L.length).res = ansD (tabI L) 0 (L.map rowI) 0 := by
      show subD (kOf L 0) (ansD _ _ _ _) = _
      rw [sub_ans, sub_tab, rows_of h2]; rfl
    have := ent_sub (T2 := ‹Tok›) (K := kOf L 0) (fun _ => rfl) (ent_pure h2 (kOf_rise h1 h2) hm) hg (by rw [hsub]; exact hds)
    rw [hres] at this
    exact this
end Go.Av
