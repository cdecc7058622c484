/- A part of the proof: what a machine of our own over the model's code answers is what the model does; no condition. -/
import Derived.Test.YtndjadliihggpaaGreatDoorSyB
import Derived.Test.YtndjadliihggpaaGreatDoorAwB
set_option linter.all false
set_option linter.all false
/-! A contract over values without places as a function of Av's deep values (PureOk). -/
noncomputable section
namespace Go.Sy
open Go Go.Av
section
variable (P : Program)
mutual
/-- a deep value as a cell -/
def dvD : CT → DV → Option D
  | .i k, .i j n => bif keq k j then some (.i n) else none
  | .b, .b c => some (.b c)
  | .s, .s l => some (.s l)
  | .l _, .nil => some (.l [])
  | .l e, .sl n ec cs => match ct P e with
    | some cts => bif Nat.beq n 0 then some (.l []) else bif Nat.beq ec cts.length then (match cellsD cts [] cs with | some ([], rows) => bif Nat.beq rows.length n then some (.l rows) else none | _ => none) else none
    | none => none
  | _, _ => none
def cellsD : List CT → List CT → List DV → Option (List D × List (List D))
  | _, [], [] => some ([], [])
  | _, _ :: _, [] => none
  | all, [], d :: r => match all with
    | c :: cs => match dvD c d, cellsD (c :: cs) cs r with | some x, some (row, rows) => some ([], (x :: row) :: rows) | _, _ => none
    | [] => none
  | all, c :: cs, d :: r => match dvD c d, cellsD all cs r with | some x, some (row, rows) => some (x :: row, rows) | _, _ => none
end
mutual
def mtD : SV → DV → Option (List D)
  | .i k _, .i j n => bif keq k j then some [.i n] else none
  | .b _, .b c => some [.b c]
  | .s _, .s l => some [.s l]
  | .l e false _, d => match dvD P (.l e) d with | some x => some [x] | none => none
  | .ag t, .ag l => mtDL t l
  | .tu t, .tu l => mtDL t l
  | _, _ => none
def mtDL : List SV → List DV → Option (List D)
  | [], [] => some []
  | a :: r, d :: q => match mtD a d, mtDL r q with | some x, some y => some (x ++ y) | _, _ => none
  | _, _ => none
end
mutual
def svDV : SV → Option DV
  | .i k n => some (.i k n)
  | .b c => some (.b c)
  | .s l => some (.s l)
  | .ag l => match svDVs l with | some x => some (.ag x) | none => none
  | .tu l => match svDVs l with | some x => some (.tu x) | none => none
  | _ => none
def svDVs : List SV → Option (List DV)
  | [] => some []
  | a :: r => match svDV a, svDVs r with | some x, some y => some (x :: y) | _, _ => none
end
/-- a contract's function over deep values -/
def conF (c : Con) (dvs : List DV) : Option DV := match mtDL P c.skA dvs with | some ds => bif c.pre ds then svDV (fill1 c.skR (c.f ds)) else none | none => none
end
variable {P : Program} [Tok]
mutual
theorem lay_ext : ∀ (d : DV) (h : Hp), h.next.toNat ≤ (lay d h).2.next.toNat ∧ ∀ b : Pos, b.toNat < h.next.toNat → (lay d h).2.get b = h.get b
  | .i k n, h => ⟨Nat.le_refl _, fun _ _ => rfl⟩
  | .b c, h => ⟨Nat.le_refl _, fun _ _ => rfl⟩
  | .s l, h => ⟨Nat.le_refl _, fun _ _ => rfl⟩
  | .nil, h => ⟨Nat.le_refl _, fun _ _ => rfl⟩
  | .sl 0 e cs, h => ⟨by simp only [lay]; show _ ≤ h.next.succ.toNat; rw [Pos.toNat_succ]; omega, fun _ _ => by simp only [lay]; rfl⟩
  | .sl (n + 1) e cs, h => by
    have := layL_ext cs h
    simp only [lay]
    generalize layL cs h = r at this
    obtain ⟨vs, h1⟩ := r
    simp only at this ⊢
    refine ⟨by rw [Hp.new_next, Pos.toNat_succ]; omega, fun b hb => ?_⟩
    rw [Hp.get_new_other _ _ _ (fun e => by subst e; omega)]
    exact this.2 b hb
  | .ag cs, h => by have := layL_ext cs h; simp only [lay]; generalize layL cs h = r at this; obtain ⟨vs, h1⟩ := r; exact this
  | .tu cs, h => by have := layL_ext cs h; simp only [lay]; generalize layL cs h = r at this; obtain ⟨vs, h1⟩ := r; exact this
theorem layL_ext : ∀ (ds : List DV) (h : Hp), h.next.toNat ≤ (layL ds h).2.next.toNat ∧ ∀ b : Pos, b.toNat < h.next.toNat → (layL ds h).2.get b = h.get b
  | [], h => ⟨Nat.le_refl _, fun _ _ => rfl⟩
  | d :: r, h => by
    have h1 := lay_ext d h
    simp only [layL]
    generalize lay d h = x at h1
    obtain ⟨v, hh⟩ := x
    have h2 := layL_ext r hh
    simp only at h1 h2 ⊢
    generalize layL r hh = y at h2
    obtain ⟨vs, hh2⟩ := y
    exact ⟨Nat.le_trans h1.1 h2.1, fun b hb => (h2.2 b (by omega)).trans (h1.2 b hb)⟩
end
/-- a heap that has all that another one has -/
def Has (Z : Pos → Prop) (h h2 : Hp) : Prop := ∀ b : Pos, b.toNat < h.next.toNat → h2.get b = h.get b ∧ Z b
theorem Has.down {Z : Pos → Prop} {h h1 h2 : Hp} (k : Has Z h1 h2) (e : h.next.toNat ≤ h1.next.toNat ∧ ∀ b : Pos, b.toNat < h.next.toNat → h1.get b = h.get b) : Has Z h h2 :=
  fun b hb => ⟨(k b (by omega)).1.trans (e.2 b hb), (k b (by omega)).2⟩
mutual
theorem dvD_ok {Z : Pos → Prop} {h2 : Hp} : ∀ (d : DV) (c : CT) (x : D) (h : Hp), dvD P c d = some x → Has Z (lay d h).2 h2 → CR P Z h2 x c (lay d h).1
  | .i k n, c, x, h, e, H => by
    cases c <;> simp only [dvD, reduceCtorEq] at e
    rename_i k'
    obtain ⟨hk, e⟩ := bif_eq e rfl
    cases e
    rw [keq_eq] at hk
    subst hk
    simp only [CR, lay]
  | .b v, c, x, h, e, H => by
    cases c <;> simp only [dvD, reduceCtorEq] at e
    cases e
    simp only [CR, lay]
  | .s l, c, x, h, e, H => by
    cases c <;> simp only [dvD, reduceCtorEq] at e
    cases e
    simp only [CR, lay]
  | .nil, c, x, h, e, H => by
    cases c <;> simp only [dvD, reduceCtorEq] at e
    cases e
    simp only [CR, lay]
    exact ⟨none, 0, 0, rfl, Nat.le_refl _, .inl rfl, .inl trivial⟩
  | .sl n ec cs, c, x, h, e, H => by
    cases c <;> simp only [dvD, reduceCtorEq] at e
    rename_i e'
    split at e
    · rename_i cts hct
      cases n with
      | zero =>
        cases (show some (D.l []) = some x from e)
        simp only [CR, lay]
        exact ⟨_, 0, 0, rfl, Nat.le_refl _, .inl rfl, .inl trivial⟩
      | succ n =>
        have e : (bif Nat.beq ec cts.length then (match cellsD P cts [] cs with | some ([], rows) => bif Nat.beq rows.length (n + 1) then some (D.l rows) else none | _ => none) else none) = some x := e
        obtain ⟨he, e⟩ := bif_eq e rfl
        rw [Nat.beq_eq] at he
        split at e
        · rename_i rows hc
          obtain ⟨hl, e⟩ := bif_eq e rfl
          rw [Nat.beq_eq] at hl
          cases e
          have hx := layL_ext cs h
          have ih := cellsD_ok (Z := Z) (h2 := h2) cs cts [] [] rows h hc
          simp only [lay] at H ⊢
          generalize layL cs h = r at hx ih H
          obtain ⟨vs, h1⟩ := r
          simp only at hx ih H ⊢
          have hn : h1.next.toNat < (h1.new (.cells ⟨vs, false, []⟩)).next.toNat := by rw [Hp.new_next, Pos.toNat_succ]; omega
          obtain ⟨l1, l2, e1, e2, e3⟩ := ih (H.down ⟨Nat.le_of_lt hn, fun b hb => Hp.get_new_other _ _ _ (fun e => by subst e; omega)⟩)
          have : l1 = [] := by cases l1 with | nil => rfl | cons a b => simp only [RowR] at e2
          subst this
          have e1 : vs = l2 := e1
          subst e1
          obtain ⟨g1, g2⟩ := H _ hn
          rw [Hp.get_new_same] at g1
          have hlen := e3.length
          simp only [CR]
          refine ⟨some (h1.next, 0), n + 1, ec, by rw [hl], by rw [hl]; exact Nat.le_refl _, .inr ⟨cts, hct, he⟩, .inr ⟨cts, h1.next, 0, vs, false, [], hct, rfl, g2, g1, by omega, ?_⟩⟩
          rw [List.drop_zero, List.take_of_length_le (by omega)]
          exact e3
        · cases e
    · cases e
  | .ag l, c, x, h, e, H => by cases c <;> simp only [dvD, reduceCtorEq] at e
  | .tu l, c, x, h, e, H => by cases c <;> simp only [dvD, reduceCtorEq] at e
theorem cellsD_ok {Z : Pos → Prop} {h2 : Hp} : ∀ (ds : List DV) (all cs : List CT) (row : List D) (rows : List (List D)) (h : Hp), cellsD P all cs ds = some (row, rows) → Has Z (layL ds h).2 h2 → ∃ l1 l2, (layL ds h).1 = l1 ++ l2 ∧ RowR P Z h2 row cs l1 ∧ RowsR P Z h2 rows all l2
  | [], all, [], row, rows, h, e, H => by
    simp only [cellsD] at e
    cases e
    exact ⟨[], [], rfl, by simp only [RowR], by simp only [RowsR]⟩
  | [], all, c :: cs, row, rows, h, e, H => by simp only [cellsD, reduceCtorEq] at e
  | d :: r, all, [], row, rows, h, e, H => by
    simp only [cellsD] at e
    split at e
    · rename_i c cs
      split at e
      · rename_i x row' rows' hx hr
        cases e
        have h1 := dvD_ok (Z := Z) (h2 := h2) d c x h hx
        have k1 := lay_ext d h
        simp only [layL] at H ⊢
        generalize lay d h = y at h1 H k1
        obtain ⟨v, hh⟩ := y
        have h3 := cellsD_ok (Z := Z) (h2 := h2) r (c :: cs) cs row' rows' hh hr
        have k2 := layL_ext r hh
        simp only at h1 h3 H k2 ⊢
        generalize layL r hh = y at h3 H k2
        obtain ⟨vs, hh2⟩ := y
        simp only at h1 h3 H k2 ⊢
        obtain ⟨l1, l2, e1, e2, e3⟩ := h3 H
        exact ⟨[], v :: vs, rfl, by simp only [RowR], by simp only [RowsR]; exact ⟨v :: l1, l2, by rw [e1]; rfl, by simp only [RowR]; exact ⟨h1 (H.down k2), e2⟩, e3⟩⟩
      · cases e
    · cases e
  | d :: r, all, c :: cs, row, rows, h, e, H => by
    simp only [cellsD] at e
    split at e
    · rename_i x row' rows' hx hr
      cases e
      have h1 := dvD_ok (Z := Z) (h2 := h2) d c x h hx
      have k1 := lay_ext d h
      simp only [layL] at H ⊢
      generalize lay d h = y at h1 H k1
      obtain ⟨v, hh⟩ := y
      have h3 := cellsD_ok (Z := Z) (h2 := h2) r all cs row' rows hh hr
      have k2 := layL_ext r hh
      simp only at h1 h3 H k2 ⊢
      generalize layL r hh = y at h3 H k2
      obtain ⟨vs, hh2⟩ := y
      simp only at h1 h3 H k2 ⊢
      obtain ⟨l1, l2, e1, e2, e3⟩ := h3 H
      exact ⟨v :: l1, l2, by rw [e1]; rfl, by simp only [RowR]; exact ⟨h1 (H.down k2), e2⟩, e3⟩
    · cases e
end
theorem frzH_nil : ∀ l : List Nat, frzH l [] = []
  | [] => rfl
  | id :: r => by
    unfold frzH
    have : frz1 [] id = [] := by unfold frz1; simp
    rw [this]; exact frzH_nil r
mutual
theorem mtD_ok {Z : Pos → Prop} {h2 : Hp} : ∀ (sk : SV) (d : DV) (ds : List D) (h : Hp), mtD P sk d = some ds → Has Z (lay d h).2 h2 → ∀ r, ∃ s, flV sk (ds ++ r) = (s, r) ∧ SVR P Z h2 [] [] s (lay d h).1 ∧ mtV 0 [] sk s = some (ds, [])
  | .i k n, d, ds, h, e, H, r => by
    cases d <;> simp only [mtD, reduceCtorEq] at e
    obtain ⟨hk, e⟩ := bif_eq e rfl
    cases e
    have hk' := keq_eq.1 hk
    subst hk'
    exact ⟨_, rfl, by simp only [SVR, lay, hdD]; rfl, by simp only [mtV]; rw [hk]; rfl⟩
  | .b c, d, ds, h, e, H, r => by
    cases d <;> simp only [mtD, reduceCtorEq] at e
    cases e
    exact ⟨_, rfl, by simp only [SVR, lay, hdD]; rfl, by simp only [mtV]; rfl⟩
  | .s l, d, ds, h, e, H, r => by
    cases d <;> simp only [mtD, reduceCtorEq] at e
    cases e
    exact ⟨_, rfl, by simp only [SVR, lay, hdD]; rfl, by simp only [mtV]; rfl⟩
  | .l e' false rows, d, ds, h, e, H, r => by
    simp only [mtD] at e
    split at e
    · rename_i x hx
      cases e
      have hc := dvD_ok (Z := Z) (h2 := h2) d _ x h hx H
      cases x with
      | l rs =>
        refine ⟨_, rfl, ?_, by simp only [mtV]; simp; rfl⟩
        simp only [CR] at hc
        obtain ⟨a, c, g, e1, e2, e3, e4⟩ := hc
        simp only [SVR]
        refine ⟨a, c, g, e1, e2, e3, (fun h => nomatch h), ?_⟩
        rcases e4 with e4 | ⟨cts, b, o, vs, own, st, q1, q2, q3, q4, q5, q6⟩
        · exact .inl e4
        · exact .inr ⟨b, o, q2, q3, cts, vs, own, st, q1, q4, q5, q6⟩
      | _ => simp only [CR] at hc
    · cases e
  | .ag t, d, ds, h, e, H, r => by
    cases d <;> simp only [mtD, reduceCtorEq] at e
    rename_i l
    have h1 := fun H => mtDL_ok (Z := Z) (h2 := h2) t l ds h e H r
    simp only [lay] at H ⊢
    generalize layL l h = y at h1 H
    obtain ⟨vs, hh⟩ := y
    obtain ⟨s, e1, e2, e3⟩ := h1 H
    exact ⟨.ag s, by simp only [flV, e1], by simp only [SVR]; exact ⟨_, rfl, e2⟩, by simp only [mtV]; exact e3⟩
  | .tu t, d, ds, h, e, H, r => by
    cases d <;> simp only [mtD, reduceCtorEq] at e
    rename_i l
    have h1 := fun H => mtDL_ok (Z := Z) (h2 := h2) t l ds h e H r
    simp only [lay] at H ⊢
    generalize layL l h = y at h1 H
    obtain ⟨vs, hh⟩ := y
    obtain ⟨s, e1, e2, e3⟩ := h1 H
    exact ⟨.tu s, by simp only [flV, e1], by simp only [SVR]; exact ⟨_, rfl, e2⟩, by simp only [mtV]; exact e3⟩
  | .l _ true _, d, ds, h, e, H, r => by simp only [mtD, reduceCtorEq] at e
  | .nl, d, ds, h, e, H, r => by simp only [mtD, reduceCtorEq] at e
  | .sa _, d, ds, h, e, H, r => by simp only [mtD, reduceCtorEq] at e
  | .sv _ _ _, d, ds, h, e, H, r => by simp only [mtD, reduceCtorEq] at e
  | .q _ _ _ _, d, ds, h, e, H, r => by simp only [mtD, reduceCtorEq] at e
  | .qa _ _ _, d, ds, h, e, H, r => by simp only [mtD, reduceCtorEq] at e
  | .p _, d, ds, h, e, H, r => by simp only [mtD, reduceCtorEq] at e
  | .pa _ _, d, ds, h, e, H, r => by simp only [mtD, reduceCtorEq] at e
  | .fn _ _ _, d, ds, h, e, H, r => by simp only [mtD, reduceCtorEq] at e
  | .nilF, d, ds, h, e, H, r => by simp only [mtD, reduceCtorEq] at e
  | .nilI, d, ds, h, e, H, r => by simp only [mtD, reduceCtorEq] at e
  | .mp _, d, ds, h, e, H, r => by simp only [mtD, reduceCtorEq] at e
  | .x, d, ds, h, e, H, r => by simp only [mtD, reduceCtorEq] at e
theorem mtDL_ok {Z : Pos → Prop} {h2 : Hp} : ∀ (sk : List SV) (d : List DV) (ds : List D) (h : Hp), mtDL P sk d = some ds → Has Z (layL d h).2 h2 → ∀ r, ∃ s, flL sk (ds ++ r) = (s, r) ∧ SVRL P Z h2 [] [] s (layL d h).1 ∧ mtL 0 [] sk s = some (ds, [])
  | [], [], ds, h, e, H, r => by simp only [mtDL] at e; cases e; exact ⟨[], rfl, by simp only [SVRL, layL], by simp only [mtL]⟩
  | [], _ :: _, ds, h, e, H, r => by simp only [mtDL, reduceCtorEq] at e
  | _ :: _, [], ds, h, e, H, r => by simp only [mtDL, reduceCtorEq] at e
  | a :: q, d :: q', ds, h, e, H, r => by
    simp only [mtDL] at e
    split at e
    · rename_i x y hx hy
      cases e
      have h1 := fun H => mtD_ok (Z := Z) (h2 := h2) a d x h hx H (y ++ r)
      have k1 := lay_ext d h
      simp only [layL] at H ⊢
      generalize lay d h = z at h1 H k1
      obtain ⟨v, hh⟩ := z
      have h3 := fun H => mtDL_ok (Z := Z) (h2 := h2) q q' y hh hy H r
      have k2 := layL_ext q' hh
      simp only at h1 h3 H k2 ⊢
      generalize layL q' hh = z at h3 H k2
      obtain ⟨vs, hh2⟩ := z
      simp only at h1 h3 H k2 ⊢
      obtain ⟨s1, e1, e2, e3⟩ := h1 (H.down k2)
      obtain ⟨s2, f1, f2, f3⟩ := h3 H
      exact ⟨s1 :: s2, by simp only [flL, List.append_assoc, e1, f1], by simp only [SVRL]; exact ⟨_, _, rfl, e2, f2⟩, by simp only [mtL, e3, f3]; simp⟩
    · cases e
end
mutual
theorem svDV_ok {Z : Pos → Prop} {h : Hp} {m : List (Option Pos)} {sh : SH} {σ : Sg} {w : World} {Q : Nat → Prop} : ∀ (s : SV) (d : DV) (v : AVal) (v' : Value), svDV s = some d → SVR P Z h m sh s v → VR σ v v' → DR w Q d v'
  | .i k n, d, v, v', e, hv, hr => by simp only [svDV] at e; cases e; simp only [SVR] at hv; subst hv; rw [VR_i] at hr; simp only [DR]; exact hr
  | .b c, d, v, v', e, hv, hr => by simp only [svDV] at e; cases e; simp only [SVR] at hv; subst hv; simp only [VR] at hr; simp only [DR]; exact hr
  | .s l, d, v, v', e, hv, hr => by simp only [svDV] at e; cases e; simp only [SVR] at hv; subst hv; simp only [VR] at hr; simp only [DR]; exact hr
  | .ag l, d, v, v', e, hv, hr => by
    simp only [svDV] at e
    split at e
    · rename_i x hx
      cases e
      simp only [SVR] at hv
      obtain ⟨l', rfl, hv⟩ := hv
      simp only [VR] at hr
      obtain ⟨q, rfl, hr⟩ := hr
      simp only [DR]
      exact ⟨q, rfl, svDVs_ok l x l' _ hx hv hr⟩
    · cases e
  | .tu l, d, v, v', e, hv, hr => by
    simp only [svDV] at e
    split at e
    · rename_i x hx
      cases e
      simp only [SVR] at hv
      obtain ⟨l', rfl, hv⟩ := hv
      simp only [VR] at hr
      obtain ⟨q, rfl, hr⟩ := hr
      simp only [DR]
      exact ⟨q, rfl, svDVs_ok l x l' _ hx hv hr⟩
    · cases e
  | .l _ _ _, d, v, v', e, hv, hr => by simp only [svDV, reduceCtorEq] at e
  | .nl, d, v, v', e, hv, hr => by simp only [svDV, reduceCtorEq] at e
  | .sa _, d, v, v', e, hv, hr => by simp only [svDV, reduceCtorEq] at e
  | .sv _ _ _, d, v, v', e, hv, hr => by simp only [svDV, reduceCtorEq] at e
  | .q _ _ _ _, d, v, v', e, hv, hr => by simp only [svDV, reduceCtorEq] at e
  | .qa _ _ _, d, v, v', e, hv, hr => by simp only [svDV, reduceCtorEq] at e
  | .p _, d, v, v', e, hv, hr => by simp only [svDV, reduceCtorEq] at e
  | .pa _ _, d, v, v', e, hv, hr => by simp only [svDV, reduceCtorEq] at e
  | .fn _ _ _, d, v, v', e, hv, hr => by simp only [svDV, reduceCtorEq] at e
  | .nilF, d, v, v', e, hv, hr => by simp only [svDV, reduceCtorEq] at e
  | .nilI, d, v, v', e, hv, hr => by simp only [svDV, reduceCtorEq] at e
  | .mp _, d, v, v', e, hv, hr => by simp only [svDV, reduceCtorEq] at e
  | .x, d, v, v', e, hv, hr => by simp only [svDV, reduceCtorEq] at e
theorem svDVs_ok {Z : Pos → Prop} {h : Hp} {m : List (Option Pos)} {sh : SH} {σ : Sg} {w : World} {Q : Nat → Prop} : ∀ (s : List SV) (d : List DV) (v : List AVal) (v' : List Value), svDVs s = some d → SVRL P Z h m sh s v → VRL σ v v' → DRL w Q d v'
  | [], d, v, v', e, hv, hr => by simp only [svDVs] at e; cases e; simp only [SVRL] at hv; subst hv; simp only [VRL] at hr; simp only [DRL]; exact hr
  | a :: r, d, v, v', e, hv, hr => by
    simp only [svDVs] at e
    split at e
    · rename_i x y hx hy
      cases e
      simp only [SVRL] at hv
      obtain ⟨v1, q1, rfl, h1, h2⟩ := hv
      simp only [VRL] at hr
      obtain ⟨u1, q2, rfl, h3, h4⟩ := hr
      simp only [DRL]
      exact ⟨u1, q2, rfl, svDV_ok a x v1 u1 hx h1 h3, svDVs_ok r y q1 q2 hy h2 h4⟩
    · cases e
end
/-- a contract over values without places is a function of deep values -/
theorem con_pure {fs : Nat → Option AFun} {j : Nat} {G : Nat × List Nat} {c : Con} (hmx : P.follows .mixedOrders = true) (hfs : FsOk P fs) (hc : CallG P fs j c.ctr) : PureOk P G j (conF P c) := by
  intro w args' dvs r hg hds hF
  unfold conF at hF
  split at hF
  · rename_i ds hd
    obtain ⟨hp, hF⟩ := bif_eq hF rfl
    obtain ⟨σ0, s0, hg0, hnt⟩ := start_sim hg
    obtain ⟨σC, lC, hvs⟩ := layL_ok dvs s0 (Q := fun _ => True) (fun b x I hb hx _ => absurd hx (hnt b x hb)) hds
    have hm := mtDL_ok (P := P) (Z := fun b => b.toNat < (layL dvs (hG P G)).2.next.toNat) (h2 := (layL dvs (hG P G)).2) c.skA dvs ds (hG P G) hd (fun b hb => ⟨rfl, hb⟩) []
    generalize layL dvs (hG P G) = q at lC hvs hm
    obtain ⟨vs, hC⟩ := q
    simp only at lC hvs hm
    obtain ⟨s, m1, m2, m3⟩ := hm
    have hfr : ∀ b : Pos, hC.next.toNat ≤ b.toNat → hC.get b = none := fun b hb => by
      cases hx : hC.get b with
      | none => rfl
      | some x => obtain ⟨I, hI⟩ := lC.sim.old hx; rw [lC.sim.fresh b hb] at hI; cases hI
    have hH : HeapR P (fun b => b.toNat < hC.next.toNat) hC [] [] := ⟨rfl, (fun id x p h1 => by cases h1), (fun id b h1 => by cases h1), (fun i j x y b _ h1 => by cases h1), (fun b h => h), (fun b hb => absurd hb foot_nil), (fun b hb => absurd hb foot_nil), (fun i j x y b c z h1 => by cases h1), hfr⟩
    let kk : SV → SH → Option (List D) := fun a _ => open Classical in if a = fill1 c.skR (c.f ds) then some [] else none
    have hk : c.ctr s [] kk = some [] := by
      unfold Con.ctr
      rw [frzH_nil, m3]
      simp only [hp]
      show kk (fill1 c.skR (c.f ds)) (bif c.ro then [] else []) = some []
      simp only [kk, if_true]
    obtain ⟨v, h', Z', m', sh', s', hev, T, hv, hks⟩ := hc hH m2 hk
    have hs' : s' = fill1 c.skR (c.f ds) := by
      simp only [kk] at hks
      split at hks
      · assumption
      · cases hks
    obtain ⟨n, hn⟩ := hev
    have hcall : call P fs n j vs hC = some (v, h') := hn n (Nat.le_refl _)
    have hno : ∀ j, ¬ Tch σC hC j := by
      rintro j ⟨b, x, I, hb, hx, hI, _⟩
      by_cases hlt : b.toNat < (hG P G).next.toNat
      · rw [lC.get b hlt] at hb; exact hnt b x hb hx
      · exact lC.new b x (by omega) hb hx
    have fin : ∀ σ' v' w', VR σ' v v' → Sim σ' h' w' → Step σC hC w σ' h' w' → PureR w r (.returned v') w' := by
      intro σ' v' w' hv' s' t'
      refine ⟨⟨t'.os, t'.tape, t'.output, t'.size, fun j hj => t'.unt j hj (hno j)⟩, ?_⟩
      rw [hs'] at hv
      exact svDV_ok _ _ _ _ hF hv hv'
    rcases call_sound hmx hfs hcall hvs lC.sim (hg0.mono lC.le) with ⟨h1, h2⟩ | ⟨v', w', h1, σ', h2, h3, h4⟩
    · refine .inl ⟨h1, fun n => (h2 n).mono fun e w' hr => ?_⟩
      cases e with
      | returned v' => obtain ⟨σ', q1, q2, q3⟩ := hr; exact fin σ' v' w' q1 q2 q3
      | panicked c => exact hr.elim
      | outgrown => exact hr.elim
    · exact .inr ⟨v', w', h1, fin σ' v' w' h2 h3 h4⟩
  · cases hF
end Go.Sy
