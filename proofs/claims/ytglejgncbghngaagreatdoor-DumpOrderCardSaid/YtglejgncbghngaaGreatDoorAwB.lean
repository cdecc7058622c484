/- A part of the proof: what a machine of our own over the model's code answers is what the model does; no condition. -/
import Derived.Test.YtglejgncbghngaaGreatDoorAwA
import Derived.OrdersIn
import Derived.OwnWalkIn
import Derived.RangeFuncLeaves
import Derived.RangeFuncIn
import Derived.LoopNIn
import Derived.Scope
import Derived.Laws.Externs
set_option linter.all false
namespace Go.Av
variable [Tok]
variable {P : Program}
theorem Sim.wext {σ : Sg} {h : Hp} {w w' : World} (s : Sim σ h w) (hsz : w.heap.size ≤ w'.heap.size) (hw : ∀ k, k < w.heap.size → w'.heap[k]? = w.heap[k]?) : Sim σ h w' :=
  ⟨fun b x hb => let ⟨I, hI, hR⟩ := s.blk b x hb; ⟨I, hI, by rw [hw _ (s.bound _ _ hI)]; exact hR⟩, s.fresh, fun b I hI => Nat.lt_of_lt_of_le (s.bound b I hI) hsz, s.sep, s.stl⟩
theorem Step.grow {σ : Sg} {h h' : Hp} {w w' : World} {J : BI} (s : Sim σ h w) (hg : ∀ b x, h'.get b = some x → touch x → b ≠ h.next → h.get b = some x) (hJ : J.cb < w.heap.size → Tch σ h J.cb)
    (hs : Wsame w w') (hsz : w.heap.size ≤ w'.heap.size) (hw : ∀ k, k < w.heap.size → ¬ Tch σ h k → w'.heap[k]? = w.heap[k]?) (hn : h'.next = h.next.succ) (hd : ∀ b : Pos, b.toNat < h.next.toNat → h.get b = none → h'.get b = none) : Step σ h w (σ.set h.next J) h' w' := by
  have hb : σ h.next = none := s.fresh _ (Nat.le_refl _)
  refine ⟨Sg.le_set J hb, hs.os, hs.tape, hs.output, hsz, hw, ?_, by rw [hn, Pos.toNat_succ]; omega, fun c hc => Sg.set_other _ _ (fun e => by subst e; omega), hd, fun k hk ht c K hc e => by
    by_cases e' : c = h.next
    · subst e'; rw [Sg.set_same] at hc; cases hc; subst e; exact absurd (hJ hk) ht
    · rwa [Sg.set_other _ _ e'] at hc⟩
  rintro k hk ⟨b, x, I, hbx, ht, hI, e⟩
  by_cases eb : b = h.next
  · subst eb
    rw [Sg.set_same] at hI
    cases hI
    subst e
    exact hJ hk
  · rw [Sg.set_other _ _ eb] at hI
    exact ⟨b, x, I, hg b x hbx ht eb, ht, hI, e⟩
theorem take_drop_pre {α : Type} {A B : List α} {o co len : Nat} (h : A.take o = B.take o) (hle : co + len ≤ o) : (A.drop co).take len = (B.drop co).take len := by
  rw [List.take_drop, List.take_drop]
  have : ∀ X : List α, X.take (co + len) = (X.take o).take (co + len) := fun X => by rw [List.take_take, Nat.min_eq_left hle]
  rw [this A, this B, h]
/-- what is made of a slice's cells and new ones -/
structure Gr (σ : Sg) (h : Hp) (w : World) (a : Adr) (I : BI) (len n esz : Nat) (c : Cells) (old new : List AVal) (new' : List Value) : Prop where
  hI : σ a.1 = some I
  hc : h.get a.1 = some (.cells c)
  hold : takeX (len * esz) (c.vs.drop a.2) = some old
  hnew : VRL σ new new'
  hlen : new.length = n * esz
/-- in place -/
theorem grow_in {σ : Sg} {h : Hp} {w : World} {a : Adr} {I : BI} {len n esz cap c' : Nat} {c : Cells} {old new : List AVal} {new' : List Value} (s : Sim σ h w) (g : Gr σ h w a I len n esz c old new new') (hown : c.own = true)
    (hcap : len ≤ cap) (hreach : a.2 + cap * esz = I.len) (hroom : I.co + a.2 + c' * esz = I.csz) (hfit : len + n ≤ c') {h' : Hp} {st : List Pos} (hn : h'.next = h.next.succ)
    (hh : (a.2 + len * esz = c.vs.length ∧ st = a.1 :: c.stale ∧ h' = (h.new (.cells ⟨old ++ new, true, st⟩)).put a.1 (.cells ⟨c.vs, false, []⟩)) ∨
      (st = [] ∧ h' = ((h.new (.cells ⟨old ++ new, true, st⟩)).kill c.stale).put a.1 .dead)) :
    Sim (σ.set h.next ⟨I.cb, I.co + a.2, (len + n) * esz, I.csz⟩) h' (w.setCells I.cb (I.co + a.2 + len * esz) new') ∧ Step σ h w (σ.set h.next ⟨I.cb, I.co + a.2, (len + n) * esz, I.csz⟩) h' (w.setCells I.cb (I.co + a.2 + len * esz) new') ∧
      (∀ j, j < n * esz → (w.cell? ⟨I.cb, I.co + a.2 + len * esz + j, none⟩).isSome = true) ∧ (∀ j, j < n * esz → w.frozen? ⟨I.cb, I.co + a.2 + len * esz + j, none⟩ = false) := by
  obtain ⟨arr, el, fz, e1, e2, e4, e5, e6, e7⟩ := s.cells g.hI (Hp.cells_eq.2 g.hc)
  have hold := takeX_eq.1 g.hold
  have hnl : new'.length = n * esz := by rw [g.hnew.length, g.hlen]
  have hsum : (len + n) * esz = len * esz + n * esz := Nat.add_mul _ _ _
  have hle1 : (len + n) * esz ≤ c' * esz := Nat.mul_le_mul_right _ hfit
  have hle2 : len * esz ≤ cap * esz := Nat.mul_le_mul_right _ hcap
  have hfit' : I.co + a.2 + len * esz + new'.length ≤ arr.size := by omega
  obtain ⟨arr', g1, g2⟩ := setCells_heap I.cb new' (I.co + a.2 + len * esz) w arr el fz e1 hfit'
  obtain ⟨z1, z2, z3, z4⟩ := setCells_same I.cb new' (I.co + a.2 + len * esz) w
  have hsz : arr'.size = arr.size := by
    have := congrArg List.length g2
    simp at this; omega
  have hpre : arr'.toList.take (I.co + a.2 + len * esz) = arr.toList.take (I.co + a.2 + len * esz) := by
    rw [g2, List.append_assoc, List.take_append_of_le_length (by simp; omega), List.take_take, Nat.min_self]
  have hbn : σ h.next = none := s.fresh _ (Nat.le_refl _)
  have hle := Sg.le_set (σ := σ) (b := h.next) ⟨I.cb, I.co + a.2, (len + n) * esz, I.csz⟩ hbn
  have hol : old.length = len * esz := by rw [hold.2]; simp at hold ⊢; omega
  have hR : ∀ st, BlkR (σ.set h.next ⟨I.cb, I.co + a.2, (len + n) * esz, I.csz⟩) (w.setCells I.cb (I.co + a.2 + len * esz) new').heap[I.cb]? ⟨I.cb, I.co + a.2, (len + n) * esz, I.csz⟩ (.cells ⟨old ++ new, true, st⟩) := by
    intro st
    refine ⟨arr', el, fz, g1, ?_, (show I.csz = arr'.size by omega), ?_, ?_, fun _ j hj => e7 hown j (by omega)⟩
    · simp only [List.length_append, hol, g.hlen]; omega
    · show I.co + a.2 + (len + n) * esz ≤ arr'.size; omega
    · show VRL _ _ ((arr'.toList.drop (I.co + a.2)).take ((len + n) * esz))
      rw [g2, layList _ _ _ _ _ (by simp; omega) (by omega)]
      refine VRL.mono hle _ _ ?_
      have hX : (((arr.toList.drop (I.co + a.2)).take ((len + n) * esz)).drop (len * esz + new'.length)) = [] := List.drop_eq_nil_of_le (by rw [List.length_take, List.length_drop, Array.length_toList]; omega)
      rw [hX, List.take_take, Nat.min_eq_left (by omega), List.append_nil]
      refine VRL.append ?_ g.hnew
      rw [hold.2]
      have := (e6.drop a.2).take (len * esz)
      rwa [drop_take_part _ _ _ _ _ (by omega)] at this
  have htch : Tch σ h I.cb := ⟨a.1, _, I, g.hc, hown, g.hI, rfl⟩
  have hne : a.1 ≠ h.next := fun e => by have := g.hI; rw [e, hbn] at this; cases this
  have hstn : ∀ d ∈ c.stale, d ≠ h.next := fun d hd e => by
    obtain ⟨y, hy⟩ := s.stl _ _ g.hc d hd
    obtain ⟨K, hK⟩ := s.old hy
    rw [e, hbn] at hK; cases hK
  refine ⟨?_, ?_, ?_, ?_⟩
  · rcases hh with ⟨hA, rfl, rfl⟩ | ⟨rfl, rfl⟩
    · have s1 := s.demote g.hc
      have s2 := s1.share (w' := w.setCells I.cb (I.co + a.2 + len * esz) new') (J := ⟨I.cb, I.co + a.2, (len + n) * esz, I.csz⟩) (l := old ++ new) (st := a.1 :: c.stale) (show I.cb < w.heap.size from s.bound _ _ g.hI) (fun d K y hd hK hy hyd => by
        have base : K.co + K.len ≤ I.co + I.len → (∃ cy, y = .cells cy ∧ cy.own = false) → BlkR σ w.heap[K.cb]? K y → BlkR σ (w.setCells I.cb (I.co + a.2 + len * esz) new').heap[K.cb]? K y := by
          rintro h1 ⟨cy, rfl, h2⟩ ⟨ar, l1, f1, q1, q2, q4, q5, q6, q7⟩
          have hK' : K.cb = I.cb := hK
          rw [hK', e1] at q1
          cases q1
          rw [hK', g1]
          refine ⟨arr', _, _, rfl, q2, by omega, by omega, ?_, fun e => by rw [h2] at e; cases e⟩
          rw [take_drop_pre hpre (by omega)]; exact q6
        by_cases ed : d = a.1
        · subst ed
          rw [g.hI] at hd; cases hd
          rw [Hp.get_put_same] at hy
          cases hy
          obtain ⟨_, hq, hB⟩ := s1.blk a.1 _ (Hp.get_put_same _ _ _)
          rw [g.hI] at hq; cases hq
          exact ⟨List.mem_cons_self, ⟨_, rfl, rfl⟩, by show I.co + I.len ≤ I.co + a.2 + (len + n) * esz; omega, base (Nat.le_refl _) ⟨_, rfl, rfl⟩ hB⟩
        · rw [Hp.get_put_other _ _ _ _ ed] at hy
          obtain ⟨cx, cy, k1, k2, k3, k4, k5⟩ := s.sep a.1 d I K _ y (Ne.symm ed) g.hI hd hK.symm g.hc hy hown hyd
          cases k1
          obtain ⟨K', hK', hB⟩ := s.blk d y hy
          rw [hd] at hK'; cases hK'
          exact ⟨List.mem_cons_of_mem _ k3, ⟨cy, k2, k4⟩, by show K.co + K.len ≤ I.co + a.2 + (len + n) * esz; omega, base k5 ⟨cy, k2, k4⟩ hB⟩) z1 (fun k hk => setCells_other _ _ _ _ _ hk) (hR _) (fun d hd => by
        rcases List.mem_cons.1 hd with rfl | hd
        · exact ⟨_, Hp.get_put_same _ _ _⟩
        · obtain ⟨y, hy⟩ := s.stl _ _ g.hc d hd
          by_cases e : d = a.1
          · subst e; exact ⟨_, Hp.get_put_same _ _ _⟩
          · exact ⟨y, by rw [Hp.get_put_other _ _ _ _ e]; exact hy⟩)
      refine s2.congr rfl (fun d => ?_)
      by_cases e : d = a.1
      · subst e
        rw [Hp.get_put_same, Hp.get_new_other _ _ _ (show a.1 ≠ (h.put a.1 _).next from hne), Hp.get_put_same]
      · rw [Hp.get_put_other _ _ _ _ e]
        by_cases e' : d = h.next
        · subst e'; rw [Hp.get_new_same]; exact (Hp.get_new_same (h.put a.1 _) _).symm
        · rw [Hp.get_new_other _ _ _ e', Hp.get_new_other _ _ _ (show d ≠ (h.put a.1 _).next from e'), Hp.get_put_other _ _ _ _ e]
    · obtain ⟨s1, _⟩ := s.upd (h' := (h.kill c.stale).put a.1 .dead) (w' := w) (st := c.stale) g.hc hown g.hI (fun c' e => by cases e; rfl) (x0' := .dead) (fun c' e => nomatch e) (by rw [Hp.put_next, Hp.kill_next]) (fun b => by
        by_cases e : b = a.1
        · subst e; rw [Hp.get_put_same, if_pos rfl]
        · rw [Hp.get_put_other _ _ _ _ e, if_neg e, Hp.kill_get]) (s.stl _ _ g.hc) rfl (fun _ _ => rfl) ⟨rfl, rfl, rfl⟩ trivial
      have hnx : ((h.kill c.stale).put a.1 .dead).next = h.next := by rw [Hp.put_next, Hp.kill_next]
      have s2 := s1.share (w' := w.setCells I.cb (I.co + a.2 + len * esz) new') (J := ⟨I.cb, I.co + a.2, (len + n) * esz, I.csz⟩) (l := old ++ new) (st := []) (show I.cb < w.heap.size from s.bound _ _ g.hI) (fun d K y hd hK hy hyd => by
        exfalso
        by_cases ed : d = a.1
        · subst ed; rw [Hp.get_put_same] at hy; cases hy; exact hyd rfl
        · rw [Hp.get_put_other _ _ _ _ ed, Hp.kill_get] at hy
          by_cases es : d ∈ c.stale
          · rw [if_pos es] at hy; cases hy; exact hyd rfl
          · rw [if_neg es] at hy
            obtain ⟨cx, cy, k1, k2, k3, k4, k5⟩ := s.sep a.1 d I K _ y (Ne.symm ed) g.hI hd hK.symm g.hc hy hown hyd
            cases k1
            exact es k3) z1 (fun k hk => setCells_other _ _ _ _ _ hk) (by rw [hnx]; exact hR _) (fun d hd => nomatch hd)
      rw [hnx] at s2
      refine s2.congr (by rw [Hp.put_next, Hp.kill_next, Hp.new_next, Hp.new_next, hnx]) (fun d => ?_)
      by_cases e : d = a.1
      · subst e
        rw [Hp.get_put_same, Hp.get_new_other _ _ _ (by rw [hnx]; exact hne), Hp.get_put_same]
      · rw [Hp.get_put_other _ _ _ _ e, Hp.kill_get]
        by_cases e' : d = h.next
        · subst e'
          rw [if_neg (fun hd => hstn _ hd rfl), Hp.get_new_same]
          have := Hp.get_new_same ((h.kill c.stale).put a.1 .dead) (.cells ⟨old ++ new, true, []⟩)
          rw [hnx] at this
          exact this.symm
        · rw [Hp.get_new_other _ _ _ e', Hp.get_new_other _ _ _ (by rw [hnx]; exact e'), Hp.get_put_other _ _ _ _ e, Hp.kill_get]
  · refine Step.grow s ?_ (fun _ => htch) ⟨z2, z3, z4⟩ (Nat.le_of_eq z1.symm) (fun k hk ht => setCells_other _ _ _ _ _ (fun e => ht (by rw [e]; exact htch))) hn ?_
    · intro b x hb ht eb
      rcases hh with ⟨hA, rfl, rfl⟩ | ⟨rfl, rfl⟩
      · by_cases e : b = a.1
        · subst e; rw [Hp.get_put_same] at hb; cases hb; cases ht
        · rw [Hp.get_put_other _ _ _ _ e, Hp.get_new_other _ _ _ eb] at hb; exact hb
      · by_cases e : b = a.1
        · subst e; rw [Hp.get_put_same] at hb; cases hb; cases ht
        · rw [Hp.get_put_other _ _ _ _ e, Hp.kill_get] at hb
          split at hb
          · cases hb; cases ht
          · rw [Hp.get_new_other _ _ _ eb] at hb; exact hb
    · intro b hlt hb
      have eb : b ≠ h.next := fun e => by subst e; omega
      have ea : b ≠ a.1 := fun e => by subst e; rw [g.hc] at hb; cases hb
      rcases hh with ⟨hA, rfl, rfl⟩ | ⟨rfl, rfl⟩
      · rw [Hp.get_put_other _ _ _ _ ea, Hp.get_new_other _ _ _ eb]; exact hb
      · rw [Hp.get_put_other _ _ _ _ ea, Hp.kill_get, if_neg (fun hd => by obtain ⟨y, hy⟩ := s.stl _ _ g.hc b hd; rw [hb] at hy; cases hy), Hp.get_new_other _ _ _ eb]; exact hb
  · intro j hj; rw [cell_of e1]; simp; omega
  · intro j hj; rw [frozen_of e1]; exact e7 hown _ (by omega)
end Go.Av


namespace Go.Av
variable [Tok]
variable {P : Program}
/-- in a new block of the model's -/
theorem grow_out {σ : Sg} {h : Hp} {w w' : World} {arr : Array Value} {el : TypeId} {l : List AVal} (s : Sim σ h w) (hsz : w'.heap.size = w.heap.size + 1) (hw : ∀ k, k < w.heap.size → w'.heap[k]? = w.heap[k]?) (hs : Wsame w w')
    (hat : w'.heap[w.heap.size]? = some (.cells arr el (0, 0))) (hl : VRL σ l (arr.toList.take l.length)) (hll : l.length ≤ arr.size) {h' : Hp} {st : List Pos}
    (hh : (st = [] ∧ h' = h.new (.cells ⟨l, true, st⟩)) ∨ (∃ (a : Pos) (c : Cells), h.get a = some (.cells c) ∧ c.own = true ∧ ((st = a :: c.stale ∧ h' = (h.new (.cells ⟨l, true, st⟩)).put a (.cells ⟨c.vs, false, []⟩)) ∨
      (st = [] ∧ h' = ((h.new (.cells ⟨l, true, st⟩)).kill c.stale).put a .dead)))) :
    Sim (σ.set h.next ⟨w.heap.size, 0, l.length, arr.size⟩) h' w' ∧ Step σ h w (σ.set h.next ⟨w.heap.size, 0, l.length, arr.size⟩) h' w' := by
  have hbn : σ h.next = none := s.fresh _ (Nat.le_refl _)
  have hle := Sg.le_set (σ := σ) (b := h.next) ⟨w.heap.size, 0, l.length, arr.size⟩ hbn
  have hR : ∀ st, BlkR (σ.set h.next ⟨w.heap.size, 0, l.length, arr.size⟩) w'.heap[w.heap.size]? ⟨w.heap.size, 0, l.length, arr.size⟩ (.cells ⟨l, true, st⟩) := fun st => by
    rw [hat]
    exact ⟨arr, el, (0, 0), rfl, rfl, rfl, by show 0 + l.length ≤ arr.size; omega, VRL.mono hle _ _ hl, fun _ j _ => by simp⟩
  rcases hh with ⟨rfl, rfl⟩ | ⟨a, c, hc, hown, hh⟩
  · exact s.new rfl hsz hw hs (hR []) (fun c e => by cases e; rfl)
  · obtain ⟨I, hI⟩ := s.old hc
    have hne : a ≠ h.next := fun e => by rw [e, hbn] at hI; cases hI
    have hstn : ∀ d ∈ c.stale, d ≠ h.next := fun d hd e => by
      obtain ⟨y, hy⟩ := s.stl _ _ hc d hd
      obtain ⟨K, hK⟩ := s.old hy
      rw [e, hbn] at hK; cases hK
    refine ⟨?_, Step.grow s ?_ (fun h => absurd h (Nat.lt_irrefl _)) hs (by omega) (fun k hk _ => hw k hk) (by rcases hh with ⟨_, rfl⟩ | ⟨_, rfl⟩ <;> simp [Hp.put_next, Hp.kill_next, Hp.new_next]) ?_⟩
    · rcases hh with ⟨rfl, rfl⟩ | ⟨rfl, rfl⟩
      · have s1 := (s.demote hc).wext (w' := w') (by omega) hw
        have s2 := s1.share (w' := w') (J := ⟨w.heap.size, 0, l.length, arr.size⟩) (l := l) (st := a :: c.stale) (by show w.heap.size < w'.heap.size; omega) (fun d K y hd hK _ _ => by
          have := s.bound d K hd
          have hK' : K.cb = w.heap.size := hK
          omega) rfl (fun _ _ => rfl) (hR _) (fun d hd => by
          rcases List.mem_cons.1 hd with rfl | hd
          · exact ⟨_, Hp.get_put_same _ _ _⟩
          · obtain ⟨y, hy⟩ := s.stl _ _ hc d hd
            by_cases e : d = a
            · subst e; exact ⟨_, Hp.get_put_same _ _ _⟩
            · exact ⟨y, by rw [Hp.get_put_other _ _ _ _ e]; exact hy⟩)
        refine s2.congr rfl (fun d => ?_)
        by_cases e : d = a
        · subst e
          rw [Hp.get_put_same, Hp.get_new_other _ _ _ (show d ≠ (h.put d _).next from hne), Hp.get_put_same]
        · rw [Hp.get_put_other _ _ _ _ e]
          by_cases e' : d = h.next
          · subst e'; rw [Hp.get_new_same]; exact (Hp.get_new_same (h.put a _) _).symm
          · rw [Hp.get_new_other _ _ _ e', Hp.get_new_other _ _ _ (show d ≠ (h.put a _).next from e'), Hp.get_put_other _ _ _ _ e]
      · obtain ⟨s1, _⟩ := s.upd (h' := (h.kill c.stale).put a .dead) (w' := w) (st := c.stale) hc hown hI (fun c' e => by cases e; rfl) (x0' := .dead) (fun c' e => nomatch e) (by rw [Hp.put_next, Hp.kill_next]) (fun b => by
          by_cases e : b = a
          · subst e; rw [Hp.get_put_same, if_pos rfl]
          · rw [Hp.get_put_other _ _ _ _ e, if_neg e, Hp.kill_get]) (s.stl _ _ hc) rfl (fun _ _ => rfl) ⟨rfl, rfl, rfl⟩ trivial
        have hnx : ((h.kill c.stale).put a .dead).next = h.next := by rw [Hp.put_next, Hp.kill_next]
        have s2 := (s1.new (I := ⟨w.heap.size, 0, l.length, arr.size⟩) (x := .cells ⟨l, true, []⟩) rfl hsz hw hs (by rw [hnx]; exact hR []) (fun c e => by cases e; rfl)).1
        rw [hnx] at s2
        refine s2.congr (by rw [Hp.put_next, Hp.kill_next, Hp.new_next, Hp.new_next, hnx]) (fun d => ?_)
        by_cases e : d = a
        · subst e
          rw [Hp.get_put_same, Hp.get_new_other _ _ _ (by rw [hnx]; exact hne), Hp.get_put_same]
        · rw [Hp.get_put_other _ _ _ _ e, Hp.kill_get]
          by_cases e' : d = h.next
          · subst e'
            rw [if_neg (fun hd => hstn _ hd rfl), Hp.get_new_same]
            have := Hp.get_new_same ((h.kill c.stale).put a .dead) (.cells ⟨l, true, []⟩)
            rw [hnx] at this
            exact this.symm
          · rw [Hp.get_new_other _ _ _ e', Hp.get_new_other _ _ _ (by rw [hnx]; exact e'), Hp.get_put_other _ _ _ _ e, Hp.kill_get]
    · intro b x hb ht eb
      rcases hh with ⟨rfl, rfl⟩ | ⟨rfl, rfl⟩
      · by_cases e : b = a
        · subst e; rw [Hp.get_put_same] at hb; cases hb; cases ht
        · rw [Hp.get_put_other _ _ _ _ e, Hp.get_new_other _ _ _ eb] at hb; exact hb
      · by_cases e : b = a
        · subst e; rw [Hp.get_put_same] at hb; cases hb; cases ht
        · rw [Hp.get_put_other _ _ _ _ e, Hp.kill_get] at hb
          split at hb
          · cases hb; cases ht
          · rw [Hp.get_new_other _ _ _ eb] at hb; exact hb
    · intro b hlt hb
      have eb : b ≠ h.next := fun e => by subst e; omega
      have ea : b ≠ a := fun e => by subst e; rw [hc] at hb; cases hb
      rcases hh with ⟨rfl, rfl⟩ | ⟨rfl, rfl⟩
      · rw [Hp.get_put_other _ _ _ _ ea, Hp.get_new_other _ _ _ eb]; exact hb
      · rw [Hp.get_put_other _ _ _ _ ea, Hp.kill_get, if_neg (fun hd => by obtain ⟨y, hy⟩ := s.stl _ _ hc b hd; rw [hb] at hy; cases hy), Hp.get_new_other _ _ _ eb]; exact hb
/-! ### What append does -/
/-- cells of a slice, of a text -/
theorem first_sl {σ : Sg} {h : Hp} {w : World} (s : Sim σ h w) {a : Adr} {m c g k size n : Nat} {v : Value} {l : List AVal} (hv : VR σ (.sl (some a) m c g) v) (hr : h.read a k = some l) (hk : k = n * size) (hm : n ≤ m) :
    ∃ L : Array Value, (Builtin.firstCells size n v).run P w = .ok L w ∧ VRL σ l L.toList := by
  rw [VR_sl_some] at hv
  obtain ⟨I, p, c', hI, rfl, hmc, hs⟩ := hv
  obtain ⟨arr, el, fz, h1, h2, h3⟩ := s.read hI hr
  rcases hs with ⟨rfl, _⟩ | ⟨hz, _⟩
  · subst hk
    exact ⟨_, by simp only [Builtin.firstCells]; exact loadCells_ok h1 h3, by simpa using h2⟩
  · have hn : n = 0 := by omega
    subst hn
    rw [Nat.zero_mul] at hk
    subst hk
    refine ⟨#[], ?_, ?_⟩
    · simp [Builtin.firstCells, loadCells, loadCellsFrom]
    · simpa using h2
theorem ofBytes_take {σ : Sg} {bs : List UInt8} {n : Nat} : VRL σ (ofBytes ((bs.map UInt8.toNat).take n)) ((bs.take n).map fun c => Value.int .u8 (c.toNat : Int)) := by
  rw [← List.map_take]; exact bytesL _
theorem growBy_le (need : Nat) : ∀ (r c : Nat), c < need + (need + 768) / 4 + 1 → Builtin.growBy need r c ≤ need + (need + 768) / 4 + 1
  | 0, c, h => by simp only [Builtin.growBy]; omega
  | r + 1, c, h => by
    unfold Builtin.growBy
    split
    · omega
    · exact growBy_le need r _ (by omega)
theorem nextcap_le (need old : Nat) (h : old < need) : Builtin.nextslicecap need old ≤ 4 * need + 4096 := by
  unfold Builtin.nextslicecap
  split
  · omega
  · split
    · omega
    · have := growBy_le need 4 old (by omega); omega
theorem zeroCells_list (Z : Array Value) (n : Nat) : (Builtin.zeroCells Z n).toList = (List.range n).flatMap fun _ => Z.toList := zeros_list Z n
theorem zeroCells_size (Z : Array Value) (n : Nat) : (Builtin.zeroCells Z n).size = n * Z.size := by simp [Builtin.zeroCells]
end Go.Av


namespace Go.Av
variable [Tok]
variable {P : Program}
section
variable {w w' : World} {t u ty e : TypeId} {i : TypeInfo} {du : TypeDesc} {Z x : Value} {base : Option Addr} {sLen sCap n : Nat} {L O : Array Value}
theorem app_fits (ht : P.underlying t = some (.slice e)) (hi : P.info? e = some i) (hd : P.underlying u = some du) (hdu : (∃ e', du = .slice e') ∨ du = .string) (hn : (Builtin.lenOf x).run P w = .ok n w)
    (hf : (Builtin.firstCells i.size n x).run P w = .ok L w) (hle : sLen + n ≤ sCap) (hst : ∀ a, base = some a → (storeCells (a.add (sLen * i.size)) L.toList).run P w = .ok () w') (hno : base = none → w' = w) :
    (Builtin.append_ #[t, u] ty #[.slice base sLen sCap, x]).run P w = .ok (.slice base (sLen + n) sCap) w' := by
  unfold Builtin.append_
  rcases hdu with ⟨e', rfl⟩ | rfl <;>
  · simp only [List.getElem?_toArray, List.getElem?_cons_zero, List.getElem?_cons_succ, Sem.run_bind, r_under ht, Result.andThen_ok, r_sizeOf hi, r_under hd, Sem.run_pure, Bool.false_eq_true, if_false, hn, Bool.not_false, if_true]
    rw [if_pos hle]
    simp only [Sem.run_bind, hf, Result.andThen_ok]
    cases base with
    | none => rw [hno rfl]; rfl
    | some a => simp only [Sem.run_bind, hst a rfl, Result.andThen_ok]; rfl
theorem app_grow (ht : P.underlying t = some (.slice e)) (hi : P.info? e = some i) (hz : i.zero = some Z) (hd : P.underlying u = some du) (hdu : (∃ e', du = .slice e') ∨ du = .string) (hn : (Builtin.lenOf x).run P w = .ok n w)
    (hb : (4 * (sLen + n) + 4096) * (i.bytes + 1) ≤ 140737488355328) (hgt : sCap < sLen + n) (ho : (Builtin.firstCells i.size sLen (.slice base sLen sCap)).run P { w with drawn := w.drawn + 1 } = .ok O { w with drawn := w.drawn + 1 })
    (hf : (Builtin.firstCells i.size n x).run P { w with drawn := w.drawn + 1 } = .ok L { w with drawn := w.drawn + 1 }) :
    ∃ c, sLen + n ≤ c ∧ (Builtin.append_ #[t, u] ty #[.slice base sLen sCap, x]).run P w = .ok (.slice (some ⟨w.heap.size, 0, none⟩) (sLen + n) c) { w with drawn := w.drawn + 1, heap := w.heap.push (.cells (O ++ L ++ Builtin.zeroCells Z.cells (c - (sLen + n))) e) } := by
  obtain ⟨c, hc, hq⟩ : ∃ c, sLen + n ≤ c ∧ (Question.appendCap (sLen + n) sCap e).cut (w.tape w.drawn (.appendCap (sLen + n) sCap e)) = c := ⟨_, Nat.le_add_right _ _, rfl⟩
  refine ⟨c, hc, ?_⟩
  have hb1 : 4 * (sLen + n) + 4096 ≤ (4 * (sLen + n) + 4096) * (i.bytes + 1) := Nat.le_mul_of_pos_right _ (by omega)
  have hb2 : Builtin.nextslicecap (sLen + n) sCap * i.bytes ≤ (4 * (sLen + n) + 4096) * (i.bytes + 1) := Nat.mul_le_mul (nextcap_le _ _ hgt) (by omega)
  have hmax : ¬ ((sLen + n : Nat) : Int) > IntKind.i64.max := by
    show ¬ ((sLen + n : Nat) : Int) > 9223372036854775807
    omega
  have hbig : ¬ Builtin.nextslicecap (sLen + n) sCap * i.bytes > 2 ^ 48 := by omega
  unfold Builtin.append_
  rcases hdu with ⟨e', rfl⟩ | rfl <;>
  · simp only [List.getElem?_toArray, List.getElem?_cons_zero, List.getElem?_cons_succ, Sem.run_bind, r_under ht, Result.andThen_ok, r_sizeOf hi, r_under hd, Sem.run_pure, Bool.false_eq_true, if_false, hn, Bool.not_false, if_true, false_or]
    rw [if_neg (by omega)]
    simp only [Sem.run_bind, r_typeInfo hi, Result.andThen_ok]
    rw [if_neg (fun h => hmax h.1)]
    simp only [Sem.run_bind, Sem.run_pure, r_typeInfo hi, Result.andThen_ok]
    rw [if_neg hbig]
    simp only [Sem.run_bind, run_choose, r_typeInfo hi]
    rw [if_neg (by simp [Question.forced])]
    simp only [Result.andThen_ok, hq, run_askRoom, ho, hf, r_typeInfo hi, r_zero hi hz, Go.newRow, run_newObj, Sem.run_pure, Sem.run_bind]
variable {k : IntKind}
theorem wrap_nat {n : Nat} (h : n ≤ 16777216) : IntKind.i64.wrap (n : Int) = n := by
  unfold IntKind.wrap
  simp only [IntKind.bits, IntKind.signed, ge_iff_le]
  rw [Int.emod_eq_of_lt (by omega) (by omega)]
  simp; omega
theorem app_fitsZ (ht : P.underlying t = some (.slice e)) (hi : P.info? e = some i) (hz : i.zero = some Z) (hZ : Z.cells.size = i.size) (hd : P.underlying u = some (.int k)) {k' : IntKind} (hx : x = .int k' (n : Int)) (hn : n ≤ 16777216) (hm : i.bytes ≤ 16777216)
    (hle : sLen + n ≤ sCap) (hst : ∀ a, base = some a → (storeCells (a.add (sLen * i.size)) (Builtin.zeroCells Z.cells n).toList).run P w = .ok () w') (hno : base = none → w' = w) :
    (Builtin.append_ #[t, u] ty #[.slice base sLen sCap, x]).run P w = .ok (.slice base (sLen + n) sCap) w' := by
  have hbig : ¬ (n : Int) * (i.bytes : Int) > 2 ^ 48 := by
    have : n * i.bytes ≤ 16777216 * 16777216 := Nat.mul_le_mul hn hm
    have h2 : (n : Int) * (i.bytes : Int) = ((n * i.bytes : Nat) : Int) := by rw [Int.natCast_mul]
    omega
  have happ : (if n * i.size = 0 then (pure #[] : Sem (Array Value)) else (do pure (Builtin.zeroCells (← zeroValue e).cells n))).run P w = .ok (Builtin.zeroCells Z.cells n) w := by
    split
    · rename_i h
      have : Builtin.zeroCells Z.cells n = #[] := by apply Array.eq_empty_of_size_eq_zero; rw [zeroCells_size, hZ]; exact h
      rw [this]; rfl
    · simp only [Sem.run_bind, r_zero hi hz, Result.andThen_ok, Sem.run_pure]
  subst hx
  unfold Builtin.append_
  simp only [List.getElem?_toArray, List.getElem?_cons_zero, List.getElem?_cons_succ, Sem.run_bind, r_under ht, Result.andThen_ok, r_sizeOf hi, r_under hd, Sem.run_pure, if_true, asInt, asIntOf, wrap_nat hn]
  rw [if_neg (by omega)]
  simp only [Sem.run_bind, Sem.run_pure, r_typeInfo hi, Result.andThen_ok]
  rw [if_neg hbig]
  simp only [Sem.run_bind, Sem.run_pure, Result.andThen_ok, Int.toNat_natCast, Bool.not_true, Bool.false_eq_true, if_false]
  rw [if_pos hle]
  simp only [Sem.run_bind]
  rw [happ]
  simp only [Result.andThen_ok]
  cases base with
  | none => rw [hno rfl]; rfl
  | some a => simp only [Sem.run_bind, hst a rfl, Result.andThen_ok]; rfl
theorem app_growZ (ht : P.underlying t = some (.slice e)) (hi : P.info? e = some i) (hz : i.zero = some Z) (hZ : Z.cells.size = i.size) (hd : P.underlying u = some (.int k)) {k' : IntKind} (hx : x = .int k' (n : Int)) (hn : n ≤ 16777216) (hm : i.bytes ≤ 16777216)
    (hb : (4 * (sLen + n) + 4096) * (i.bytes + 1) ≤ 140737488355328) (hgt : sCap < sLen + n) (ho : (Builtin.firstCells i.size sLen (.slice base sLen sCap)).run P { w with drawn := w.drawn + 1 } = .ok O { w with drawn := w.drawn + 1 }) :
    ∃ c, sLen + n ≤ c ∧ (Builtin.append_ #[t, u] ty #[.slice base sLen sCap, x]).run P w = .ok (.slice (some ⟨w.heap.size, 0, none⟩) (sLen + n) c) { w with drawn := w.drawn + 1, heap := w.heap.push (.cells (O ++ Builtin.zeroCells Z.cells n ++ Builtin.zeroCells Z.cells (c - (sLen + n))) e) } := by
  obtain ⟨c, hc, hq⟩ : ∃ c, sLen + n ≤ c ∧ (Question.appendCap (sLen + n) sCap e).cut (w.tape w.drawn (.appendCap (sLen + n) sCap e)) = c := ⟨_, Nat.le_add_right _ _, rfl⟩
  refine ⟨c, hc, ?_⟩
  have hbig0 : ¬ (n : Int) * (i.bytes : Int) > 2 ^ 48 := by
    have : n * i.bytes ≤ 16777216 * 16777216 := Nat.mul_le_mul hn hm
    have h2 : (n : Int) * (i.bytes : Int) = ((n * i.bytes : Nat) : Int) := by rw [Int.natCast_mul]
    omega
  have happ : ∀ w0, (if n * i.size = 0 then (pure #[] : Sem (Array Value)) else (do pure (Builtin.zeroCells (← zeroValue e).cells n))).run P w0 = .ok (Builtin.zeroCells Z.cells n) w0 := by
    intro w0
    split
    · rename_i h
      have : Builtin.zeroCells Z.cells n = #[] := by apply Array.eq_empty_of_size_eq_zero; rw [zeroCells_size, hZ]; exact h
      rw [this]; rfl
    · simp only [Sem.run_bind, r_zero hi hz, Result.andThen_ok, Sem.run_pure]
  have hb1 : 4 * (sLen + n) + 4096 ≤ (4 * (sLen + n) + 4096) * (i.bytes + 1) := Nat.le_mul_of_pos_right _ (by omega)
  have hb2 : Builtin.nextslicecap (sLen + n) sCap * i.bytes ≤ (4 * (sLen + n) + 4096) * (i.bytes + 1) := Nat.mul_le_mul (nextcap_le _ _ hgt) (by omega)
  have hmax : ¬ ((sLen + n : Nat) : Int) > IntKind.i64.max := by
    show ¬ ((sLen + n : Nat) : Int) > 9223372036854775807
    omega
  have hbig : ¬ Builtin.nextslicecap (sLen + n) sCap * i.bytes > 2 ^ 48 := by omega
  subst hx
  unfold Builtin.append_
  simp only [List.getElem?_toArray, List.getElem?_cons_zero, List.getElem?_cons_succ, Sem.run_bind, r_under ht, Result.andThen_ok, r_sizeOf hi, r_under hd, Sem.run_pure, if_true, asInt, asIntOf, wrap_nat hn]
  rw [if_neg (by omega)]
  simp only [Sem.run_bind, Sem.run_pure, r_typeInfo hi, Result.andThen_ok]
  rw [if_neg hbig0]
  simp only [Sem.run_bind, Sem.run_pure, Result.andThen_ok, Int.toNat_natCast, Bool.not_true, Bool.false_eq_true, if_false]
  rw [if_neg (by omega)]
  simp only [Sem.run_bind, r_typeInfo hi, Result.andThen_ok]
  rw [if_neg (fun h => hmax h.1)]
  simp only [Sem.run_bind, Sem.run_pure, r_typeInfo hi, Result.andThen_ok]
  rw [if_neg hbig]
  simp only [Sem.run_bind, run_choose, r_typeInfo hi]
  rw [if_neg (by simp [Question.forced])]
  simp only [Result.andThen_ok, hq, run_askRoom, ho]
  rw [happ]
  simp only [Result.andThen_ok, r_zero hi hz, Go.newRow, run_newObj, Sem.run_pure, Sem.run_bind]
end
end Go.Av


namespace Go.Av
variable [Tok]
variable {P : Program}
theorem read_of {h : Hp} {a : Adr} {k : Nat} {c : Cells} {l : List AVal} (hc : h.cells a.1 = some c) (hl : takeX k (dropR a.2 c.vs) = some l) : h.read a k = some l := by
  unfold Hp.read; rw [ob_eq]; exact ⟨c, hc, hl⟩
theorem append_ok {σ : Sg} {h : Hp} {w : World} {s : Sl} {sv : Value} {n esz bytes : Nat} {new : List AVal} {L : Array Value} {Z : Array Value} {el : TypeId} {nx : Nx} {run : World → Result Next} (si : Sim σ h w) (hv : VR σ (.sl s.a s.len s.cap s.g) sv)
    (hnew : VRL σ new L.toList) (hZ : Z.size = esz) (e : appendA h esz bytes s n new = some nx)
    (fits : ∀ base sLen sCap w', sv = .slice base sLen sCap → sLen + n ≤ sCap → (∀ a, base = some a → (storeCells (a.add (sLen * esz)) L.toList).run P w = .ok () w') → (base = none → w' = w) → run w = .ok (.value (.slice base (sLen + n) sCap)) w')
    (grow : ∀ base sLen sCap O, sv = .slice base sLen sCap → (4 * (sLen + n) + 4096) * (bytes + 1) ≤ 140737488355328 → sCap < sLen + n → (Builtin.firstCells esz sLen sv).run P { w with drawn := w.drawn + 1 } = .ok O { w with drawn := w.drawn + 1 } →
      ∃ c, sLen + n ≤ c ∧ run w = .ok (.value (.slice (some ⟨w.heap.size, 0, none⟩) (sLen + n) c)) { w with drawn := w.drawn + 1, heap := w.heap.push (.cells (O ++ L ++ Builtin.zeroCells Z (c - (sLen + n))) el) }) :
    TurnR P run σ h w nx := by
  simp only [appendA, ifb_eq, Bool.and_eq_true, Nat.beq_eq, lenR_eq, Nat.blt_eq] at e
  obtain ⟨⟨h1, h2, h3⟩, e⟩ := e
  simp only [Nat.mul_eq] at h2
  have hLl : L.size = n * esz := by have := hnew.length; rw [h2] at this; simpa using this
  have si1 := (si.drew (w.drawn + 1)).1
  -- a new block of the model's
  have out : ∀ {sLen c : Nat} {old : List AVal} {O : Array Value} {h' : Hp} {st : List Pos}, old.length = sLen * esz → VRL σ old O.toList → sLen + n ≤ c →
      ((st = [] ∧ h' = h.new (.cells ⟨old ++ new, true, st⟩)) ∨ (∃ (a : Pos) (c : Cells), h.get a = some (.cells c) ∧ c.own = true ∧ ((st = a :: c.stale ∧ h' = (h.new (.cells ⟨old ++ new, true, st⟩)).put a (.cells ⟨c.vs, false, []⟩)) ∨
        (st = [] ∧ h' = ((h.new (.cells ⟨old ++ new, true, st⟩)).kill c.stale).put a .dead)))) →
      run w = .ok (.value (.slice (some ⟨w.heap.size, 0, none⟩) (sLen + n) c)) { w with drawn := w.drawn + 1, heap := w.heap.push (.cells (O ++ L ++ Builtin.zeroCells Z (c - (sLen + n))) el) } →
      TurnR P run σ h w (.val (.sl (some (h.next, 0)) (sLen + n) (sLen + n) esz) h') := by
    intro sLen c old O h' st ho hO hc hh hr
    have hOs : O.size = sLen * esz := by have := hO.length; rw [ho] at this; simpa using this
    have hl : (old ++ new).length = (sLen + n) * esz := by rw [List.length_append, ho, h2, Nat.add_mul]
    have hsize : (O ++ L ++ Builtin.zeroCells Z (c - (sLen + n))).size = c * esz := by
      simp only [Array.size_append, hOs, hLl, zeroCells_size, hZ]
      rw [← Nat.add_mul, ← Nat.add_mul]; congr 1; omega
    have hle : (sLen + n) * esz ≤ c * esz := Nat.mul_le_mul_right _ hc
    obtain ⟨g1, g2⟩ := grow_out (w' := { w with drawn := w.drawn + 1, heap := w.heap.push (.cells (O ++ L ++ Builtin.zeroCells Z (c - (sLen + n))) el) }) (arr := O ++ L ++ Builtin.zeroCells Z (c - (sLen + n))) (el := el) (l := old ++ new) si (by simp)
      (fun k hk => by simp [Array.getElem?_push, Nat.ne_of_lt hk]) ⟨rfl, rfl, rfl⟩ (by simp) (by
        rw [hl]
        have : (O ++ L ++ Builtin.zeroCells Z (c - (sLen + n))).toList.take ((sLen + n) * esz) = O.toList ++ L.toList := by
          rw [Array.toList_append, List.take_append_of_le_length (by simp [hOs, hLl, Nat.add_mul])]
          rw [Array.toList_append]
          exact List.take_of_length_le (by simp [hOs, hLl, Nat.add_mul])
        rw [this]
        exact hO.append hnew) (by omega) hh
    refine ⟨_, _, _, _, hr, .inl rfl, ?_, g1, g2⟩
    rw [VR_sl_some]
    exact ⟨_, _, _, Sg.set_same _ _ _, rfl, Nat.le_refl _, .inl ⟨by simp, .inr ⟨h3, by rw [hl]; simp, hc, by show 0 + 0 + c * esz = _; rw [hsize]; simp⟩⟩⟩
  unfold appendTo at e
  cases ha : s.a with
  | none =>
    rw [ha] at e hv
    simp only [VR] at hv
    change ifb (Nat.ble (s.len + n) s.cap) (some (Nx.val (.sl none (s.len + n) s.cap 0) h)) (ifb (fitsA (s.len + n) bytes && Nat.beq s.len 0) (newRow h esz new [] (s.len + n) fun h' => h') none) = some nx at e
    cases hle : Nat.ble (s.len + n) s.cap with
    | true =>
      rw [hle] at e
      cases (show some (Nx.val (.sl none (s.len + n) s.cap 0) h) = some nx from e)
      have := Nat.le_of_ble_eq_true hle
      exact ⟨_, _, w, σ, fits none s.len s.cap w hv this (fun a e => nomatch e) (fun _ => rfl), .inl rfl, by simp only [VR], si, Step.refl _ _ _⟩
    | false =>
      rw [hle] at e
      have hgt : s.cap < s.len + n := by
        rcases Nat.lt_or_ge s.cap (s.len + n) with h | h
        · exact h
        · rw [Nat.ble_eq_true_of_le h] at hle; cases hle
      rw [ifb_false] at e
      have e' := e
      simp only [ifb_eq, Bool.and_eq_true, Nat.beq_eq] at e'
      obtain ⟨⟨hf, h0⟩, e'⟩ := e'
      cases e'
      have hf := fitsA_le hf
      obtain ⟨c, hc, hr⟩ := grow none s.len s.cap #[] hv hf hgt (by rw [hv]; simp [Builtin.firstCells])
      exact out (old := []) (O := #[]) (by simp [h0]) VRL.nil hc (.inl ⟨rfl, rfl⟩) hr
  | some a =>
    rw [ha] at e hv
    have hvv := hv
    rw [VR_sl_some] at hv
    obtain ⟨I, p, c', hI, hsv, hnc, hs⟩ := hv
    change ifb (Nat.ble (s.len + n) s.cap) (ob (h.write (moved a (s.len * esz)) new) fun h' => some (Nx.val (.sl (some a) (s.len + n) s.cap s.g) h'))
      (ifb (fitsA (s.len + n) bytes) (ifb (Nat.beq s.len 0 && Nat.beq s.g 0) (newRow h esz new [] (s.len + n) fun h' => h') (ob (h.cells a.1) fun c => ob (takeX (s.len * esz) (dropR a.2 c.vs)) fun old => more h esz a s.len s.g (s.len + n) c (appR old new))) none) = some nx at e
    have hcc : s.cap ≤ c' := by
      rcases hs with ⟨_, h | ⟨_, _, h, _⟩⟩ | ⟨h, _⟩ <;> omega
    cases hle : Nat.ble (s.len + n) s.cap with
    | true =>
      rw [hle] at e
      have hle' := Nat.le_of_ble_eq_true hle
      have e' : ob (h.write (moved a (s.len * esz)) new) (fun h' => some (Nx.val (.sl (some a) (s.len + n) s.cap s.g) h')) = some nx := e
      rw [ob_eq] at e'
      obtain ⟨h', e1, e2⟩ := e'
      cases e2
      obtain ⟨w', r1, r2, r3⟩ := si.write (P := P) (a := moved a (s.len * esz)) hI e1 hnew
      have hst : (storeCells (p.add (s.len * esz)) L.toList).run P w = .ok () w' := by
        rcases hs with ⟨rfl, _⟩ | ⟨hz, _⟩
        · rw [add_none, Nat.add_assoc]; exact r1
        · have hn0 : n = 0 := by omega
          have : L.toList = [] := by apply List.eq_nil_of_length_eq_zero; rw [Array.length_toList, hLl, hn0]; simp
          rw [this] at r1 ⊢
          exact r1
      refine ⟨_, _, w', σ, fits (some p) s.len c' w' hsv (by omega) (fun a e => by cases e; exact hst) (fun e => nomatch e), .inl rfl, ?_, r2, r3⟩
      rw [VR_sl_some]
      exact ⟨I, p, c', hI, rfl, hle', hs⟩
    | false =>
      rw [hle] at e
      have hgt : s.cap < s.len + n := by
        rcases Nat.lt_or_ge s.cap (s.len + n) with h | h
        · exact h
        · rw [Nat.ble_eq_true_of_le h] at hle; cases hle
      rw [ifb_false] at e
      rw [ifb_eq] at e
      obtain ⟨hf, e⟩ := e
      have hor : ∀ {α : Type} {c : Bool} {a b r : α}, ifb c a b = r → (c = true ∧ a = r) ∨ (c = false ∧ b = r) := fun {_ c _ _ _} h => by cases c <;> simp [ifb] at h <;> simp [h]
      rcases hor e with ⟨h00, e⟩ | ⟨_, e'⟩
      · have hf := fitsA_le hf
        simp only [Bool.and_eq_true, Nat.beq_eq] at h00
        obtain ⟨hl0, hg0⟩ := h00
        cases e
        have hlt : c' < s.len + n := by
          rcases hs with ⟨_, h | ⟨h, _⟩⟩ | ⟨_, h⟩ <;> omega
        obtain ⟨cc, hc1, hr⟩ := grow (some p) s.len c' #[] hsv hf hlt (by rw [hsv, hl0]; simp [Builtin.firstCells, loadCells, loadCellsFrom])
        exact out (old := []) (O := #[]) (by simp [hl0]) VRL.nil hc1 (.inl ⟨rfl, rfl⟩) hr
      simp only [ob_eq] at e'
      obtain ⟨c, hc, old, hold, e'⟩ := e'
      have hf := fitsA_le hf
      rw [appR_eq] at e'
      have hread := read_of hc hold
      obtain ⟨O, hO, hOr⟩ := first_sl (P := P) si1 (n := s.len) (size := esz) (by rw [ha] at *; exact hvv) hread rfl (Nat.le_refl _)
      have hol : old.length = s.len * esz := by
        rw [takeX_eq] at hold
        rw [hold.2, List.length_take]; omega
      have hold' : takeX (s.len * esz) (c.vs.drop a.2) = some old := by rw [← dropR_eq]; exact hold
      have far : ∀ {h' st}, c' < s.len + n → ((st = [] ∧ h' = h.new (.cells ⟨old ++ new, true, st⟩)) ∨ (∃ (a : Pos) (c : Cells), h.get a = some (.cells c) ∧ c.own = true ∧ ((st = a :: c.stale ∧ h' = (h.new (.cells ⟨old ++ new, true, st⟩)).put a (.cells ⟨c.vs, false, []⟩)) ∨
          (st = [] ∧ h' = ((h.new (.cells ⟨old ++ new, true, st⟩)).kill c.stale).put a .dead)))) → TurnR P run σ h w (.val (.sl (some (h.next, 0)) (s.len + n) (s.len + n) esz) h') := by
        intro h' st hlt hh
        obtain ⟨cc, hc1, hr⟩ := grow (some p) s.len c' O hsv hf hlt hO
        exact out hol hOr hc1 hh hr
      unfold more at e'
      cases hg0 : Nat.beq s.g 0 with
      | true =>
        rw [hg0] at e'
        cases (show newRow h esz (old ++ new) [] (s.len + n) (fun h' => h') = some nx from e')
        rw [Nat.beq_eq] at hg0
        refine far ?_ (.inl ⟨rfl, rfl⟩)
        rcases hs with ⟨_, h | ⟨h, _⟩⟩ | ⟨_, h⟩ <;> omega
      | false =>
        rw [hg0] at e'
        have e2 : ifb (Nat.beq s.g esz) (grown h esz a s.len (s.len + n) c (old ++ new)) none = some nx := e'
        simp only [ifb_eq, Nat.beq_eq, grown] at e2
        obtain ⟨hge, hown, e2⟩ := e2
        have hcg := Hp.cells_eq.1 hc
        have both : ∀ {h' st}, h'.next = h.next.succ → ((a.2 + s.len * esz = c.vs.length ∧ st = a.1 :: c.stale ∧ h' = (h.new (.cells ⟨old ++ new, true, st⟩)).put a.1 (.cells ⟨c.vs, false, []⟩)) ∨
            (st = [] ∧ h' = ((h.new (.cells ⟨old ++ new, true, st⟩)).kill c.stale).put a.1 .dead)) → TurnR P run σ h w (.val (.sl (some (h.next, 0)) (s.len + n) (s.len + n) esz) h') := by
          intro h' st hn hh
          rcases Nat.lt_or_ge c' (s.len + n) with hlt | hroom
          · refine far (st := st) hlt (.inr ⟨a.1, c, hcg, hown, ?_⟩)
            rcases hh with ⟨_, h1, h2⟩ | h1
            · exact .inl ⟨h1, h2⟩
            · exact .inr h1
          · have hs' : p = ⟨I.cb, I.co + a.2, none⟩ ∧ a.2 + s.cap * esz = I.len ∧ I.co + a.2 + c' * esz = I.csz := by
              rcases hs with ⟨h1, h | ⟨_, h4, _, h5⟩⟩ | ⟨h, h'⟩
              · omega
              · exact ⟨h1, by rw [← hge]; exact h4, by rw [← hge]; exact h5⟩
              · omega
            obtain ⟨rfl, hreach, hcsz⟩ := hs'
            obtain ⟨g1, g2, g3, g4⟩ := grow_in (st := st) (new' := L.toList) si ⟨hI, hcg, hold', hnew, h2⟩ hown hnc hreach hcsz hroom hn hh
            have hst := run_storeCells_cells (P := P) I.cb (I.co + a.2 + s.len * esz) L.toList 0 w (fun j hj => by
              rw [Nat.add_zero]; exact g3 j (by rw [Array.length_toList, hLl] at hj; exact hj)) (fun j hj => by
              rw [Nat.add_zero]; exact g4 j (by rw [Array.length_toList, hLl] at hj; exact hj)) (hnew.oneCell h1)
            rw [Nat.add_zero] at hst
            refine ⟨_, _, _, _, fits (some ⟨I.cb, I.co + a.2, none⟩) s.len c' _ hsv hroom (fun a' e => by cases e; rw [add_none]; exact hst) (fun e => nomatch e), .inl rfl, ?_, g1, g2⟩
            rw [VR_sl_some]
            exact ⟨_, _, c', Sg.set_same _ _ _, rfl, Nat.le_refl _, .inl ⟨by simp, .inr ⟨h3, by simp, hroom, by show I.co + a.2 + 0 + c' * esz = I.csz; omega⟩⟩⟩
        cases hA : Nat.beq (Nat.add a.2 (Nat.mul s.len esz)) (lenR c.vs) with
        | true =>
          rw [hA] at e2
          cases (show newRow h esz (old ++ new) (a.1 :: c.stale) (s.len + n) (fun h' => h'.put a.1 (.cells ⟨c.vs, false, []⟩)) = some nx from e2)
          rw [Nat.beq_eq, lenR_eq] at hA
          exact both rfl (.inl ⟨hA, rfl, rfl⟩)
        | false =>
          rw [hA] at e2
          cases (show newRow h esz (old ++ new) [] (s.len + n) (fun h' => (h'.kill c.stale).put a.1 .dead) = some nx from e2)
          exact both (by rw [Hp.put_next, Hp.kill_next]; rfl) (.inr ⟨rfl, rfl⟩)
end Go.Av


namespace Go.Av
variable [Tok]
variable {P : Program}
section
variable {o : Oper} {c : Call} {t u : TypeId} {x y : Operand} {x' y' : AOpd} {e : TypeId} {n m : Nat} {z : AVal} {d : TypeDesc}
theorem elemK_eq (h : elemK P t = some (e, n, m)) : P.underlying t = some (.slice e) ∧ ∃ i, P.info? e = some i ∧ i.size = n ∧ i.bytes = m := by
  unfold elemK at h
  split at h
  · rename_i e' hu
    split at h
    · rename_i hi; cases h; exact ⟨hu, infoK_eq hi⟩
    · cases h
  · cases h
/-- what append adds -/
theorem src_ok {σ : Sg} {h : Hp} {w : World} (s : Sim σ h w) {esz : Nat} {X : AVal} {v : Value} {q : Nat × List AVal} (hq : srcA h esz X = some q) (hv : VR σ X v) :
    (∀ w', (Builtin.lenOf v).run P w' = .ok q.1 w') ∧ ∃ L : Array Value, (∀ d, (Builtin.firstCells esz q.1 v).run P { w with drawn := d } = .ok L { w with drawn := d }) ∧ VRL σ q.2 L.toList := by
  cases X with
  | s l =>
    change srcS l h esz = some q at hq
    simp only [srcS, lenR_eq, Option.some.injEq] at hq
    subst hq
    rw [VR_s] at hv
    obtain ⟨p, rfl, rfl⟩ := hv
    have hsz := size_map (s := p) rfl
    refine ⟨fun w' => by simp only [Builtin.lenOf]; rw [← hsz]; rfl, (p.extract 0 p.size).data.map fun b => .int .u8 b.toNat, fun d => by simp only [Builtin.firstCells, ← hsz]; rfl, ?_⟩
    have : (p.extract 0 p.size).data.toList = p.data.toList := by
      rw [ByteArray.data_extract, Array.toList_extract, List.extract_eq_take_drop, List.drop_zero]
      exact List.take_of_length_le (by rw [Array.length_toList]; exact Nat.le_refl _)
    rw [Array.toList_map, this]
    exact bytesL _
  | sl a k cap g =>
    change srcSl a k cap g h esz = some q at hq
    have hor : ∀ {α : Type} {c : Bool} {a b r : α}, ifb c a b = r → (c = true ∧ a = r) ∨ (c = false ∧ b = r) := fun {_ c _ _ _} h => by cases c <;> simp [ifb] at h <;> simp [h]
    rcases hor hq with ⟨h0, hq⟩ | ⟨_, hq⟩
    · cases hq
      rw [Nat.beq_eq] at h0
      obtain ⟨sa, sc, hsv, _⟩ := VR_sl hv
      subst h0
      rw [hsv]
      refine ⟨fun w' => by simp [Builtin.lenOf], #[], fun d => ?_, VRL.nil⟩
      cases sa with
      | none => simp [Builtin.firstCells]
      | some p => simp [Builtin.firstCells, loadCells, loadCellsFrom]
    cases a with
    | none => cases (show none = some q from hq)
    | some a =>
      change ob (h.read a (k * esz)) (fun l => some (k, l)) = some q at hq
      rw [ob_eq] at hq
      obtain ⟨l, e1, e2⟩ := hq
      cases e2
      have hvv := hv
      rw [VR_sl_some] at hv
      obtain ⟨I, p, c', hI, rfl, hkc, hs⟩ := hv
      refine ⟨fun w' => by simp [Builtin.lenOf], ?_⟩
      have f := fun d => first_sl (P := P) (s.drew d).1 hvv e1 rfl (Nat.le_refl _)
      obtain ⟨L, hL, hr⟩ := f 0
      refine ⟨L, fun d => ?_, hr⟩
      obtain ⟨L', hL', hr'⟩ := f d
      obtain ⟨arr, el, fz, h1, h2, h3⟩ := s.read hI e1
      rcases hs with ⟨rfl, _⟩ | ⟨hz, _⟩
      · have k0 := loadCells_ok (P := P) (w := { w with drawn := 0 }) h1 h3
        have kd := loadCells_ok (P := P) (w := { w with drawn := d }) h1 h3
        simp only [Builtin.firstCells] at hL ⊢
        rw [k0] at hL
        cases hL
        exact kd
      · have hk0 : k = 0 := by omega
        subst hk0
        simp [Builtin.firstCells, loadCells, loadCellsFrom] at hL ⊢
        exact hL
  | _ => cases (show none = some q from hq)
theorem turn_append (ho : o.op = .call c) (hc : c.callee = .builtin .append) (ht : c.argTypes = #[t, u]) (hxs : c.args = #[x, y]) (he : elemK P t = some (e, n, m)) (hz : zeroK P e = some z) (hzn : z.cells.length = n) (hd : P.underlying u = some d)
    (hdu : (∃ e', d = .slice e') ∨ d = .string) (hx : co P x = some x') (hy : co P y = some y') : TurnS P o fun f h => kAppend f h n m x' y' := by
  intro σ N f ac h w nx hf hg s e'
  simp only [kAppend, ob_eq, asSl_eq] at e'
  obtain ⟨sl, e1, q, e2, e3⟩ := e'
  obtain ⟨hu, i, hi, hin, him⟩ := elemK_eq he
  obtain ⟨i', Z, z1, z2, z3⟩ := zeroK_eq hz
  rw [hi] at z1
  cases z1
  have hv := co_ok hx hf hg
  rw [e1] at hv
  obtain ⟨hlen, L, hL, hr⟩ := src_ok (P := P) s e2 (co_ok hy hf hg)
  have hZ := cells_length (cv_ok z3 (σ := σ))
  have hb : ∀ {r : Result Next}, (∀ cs : Array Bool, (builtin .append c.argTypes o.type cs #[ac.eval x, ac.eval y]).run P w = r) → (execOp ac.eval o).run P w = r := fun h => exec_blt ho hc hxs (by simpa using h _)
  refine append_ok (P := P) (Z := Z.cells) (el := e) s hv hr (by rw [hZ, hzn]) e3 (fun base sLen sCap w' hsv hle hst hno => hb fun cs => ?_) (fun base sLen sCap O hsv hbd hgt hO => ?_)
  · have := app_fits (ty := o.type) hu hi hd hdu (hlen w) (by rw [hin]; exact hL w.drawn) hle (by rw [hin]; exact hst) hno
    simp only [builtin, ht, hsv, Sem.run_bind, this, Result.andThen_ok, Sem.run_pure]
  · rw [hsv] at hO
    obtain ⟨cc, hcc, h4⟩ := app_grow (ty := o.type) hu hi z2 hd hdu (hlen w) (by rw [him]; exact hbd) hgt (by rw [hin]; exact hO) (by rw [hin]; exact hL _)
    refine ⟨cc, hcc, hb fun cs => ?_⟩
    simp only [builtin, ht, hsv, Sem.run_bind, h4, Result.andThen_ok, Sem.run_pure]
theorem turn_appendZ {k : IntKind} (ho : o.op = .call c) (hc : c.callee = .builtin .append) (ht : c.argTypes = #[t, u]) (hxs : c.args = #[x, y]) (he : elemK P t = some (e, n, m)) (hz : zeroK P e = some z) (hzn : z.cells.length = n) (hm : m ≤ 16777216)
    (hd : P.underlying u = some (.int k)) (hx : co P x = some x') (hy : co P y = some y') : TurnS P o fun f h => kAppendZ f h z.cells n m x' y' := by
  intro σ N f ac h w nx hf hg s e'
  simp only [kAppendZ, ob_eq, asSl_eq, asI_eq, natOf_eq] at e'
  obtain ⟨sl, e1, j, ⟨k', e2⟩, j', ⟨rfl, hj⟩, e3⟩ := e'
  obtain ⟨hu, i, hi, hin, him⟩ := elemK_eq he
  obtain ⟨i', Z, z1, z2, z3⟩ := zeroK_eq hz
  rw [hi] at z1
  cases z1
  have hv := co_ok hx hf hg
  rw [e1] at hv
  have hy' := co_ok hy hf hg
  rw [e2, VR_i] at hy'
  have hZv : VR σ z Z := cv_ok z3
  have hZ := cells_length hZv
  have hr : VRL σ (repR z.cells j') (Builtin.zeroCells Z.cells j').toList := by rw [zeroCells_list]; exact VRL_rep hZv.cells j'
  have hb : ∀ {r : Result Next}, (∀ cs : Array Bool, (builtin .append c.argTypes o.type cs #[ac.eval x, ac.eval y]).run P w = r) → (execOp ac.eval o).run P w = r := fun h => exec_blt ho hc hxs (by simpa using h _)
  refine append_ok (P := P) (Z := Z.cells) (el := e) s hv hr (by rw [hZ, hzn]) e3 (fun base sLen sCap w' hsv hle hst hno => hb fun cs => ?_) (fun base sLen sCap O hsv hbd hgt hO => ?_)
  · have := app_fitsZ (ty := o.type) hu hi z2 (by rw [hZ, hzn, hin]) hd hy' hj (by rw [him]; exact hm) hle (by rw [hin]; exact hst) hno
    simp only [builtin, ht, hsv, Sem.run_bind, this, Result.andThen_ok, Sem.run_pure]
  · rw [hsv] at hO
    obtain ⟨cc, hcc, h4⟩ := app_growZ (ty := o.type) hu hi z2 (by rw [hZ, hzn, hin]) hd hy' hj (by rw [him]; exact hm) (by rw [him]; exact hbd) hgt (by rw [hin]; exact hO)
    refine ⟨cc, hcc, hb fun cs => ?_⟩
    simp only [builtin, ht, hsv, Sem.run_bind, h4, Result.andThen_ok, Sem.run_pure]
theorem slot_write {σ : Sg} {h h' : Hp} {w : World} (s : Sim σ h w) {a : Adr} {k cap g : Nat} {v : Value} {ws : List AVal} {vs : List Value} (hv : VR σ (.sl (some a) k cap g) v) (hw : h.write a ws = some h') (hvs : VRL σ ws vs) (hz : k = 0 → ws = []) :
    ∃ p c' w', v = .slice (some p) k c' ∧ (storeCells p vs).run P w = .ok () w' ∧ Sim σ h' w' ∧ Step σ h w σ h' w' := by
  rw [VR_sl_some] at hv
  obtain ⟨I, p, c', hI, rfl, hkc, hs⟩ := hv
  obtain ⟨w', r1, r2, r3⟩ := s.write (P := P) hI hw hvs
  rcases hs with ⟨rfl, _⟩ | ⟨h0, _⟩
  · exact ⟨_, c', w', rfl, r1, r2, r3⟩
  · have := hz (by omega)
    subst this
    simp only [VRL] at hvs
    subst hvs
    exact ⟨p, c', w', rfl, r1, r2, r3⟩
theorem turn_clear (ho : o.op = .call c) (hc : c.callee = .builtin .clear) (ht : c.argTypes = #[t]) (hxs : c.args = #[x]) (he : elemK P t = some (e, n, m)) (hz : zeroK P e = some z) (hx : co P x = some x') : TurnS P o fun f h => kClear f h z.cells x' := by
  intro σ N f ac h w nx hf hg s e'
  simp only [kClear, ob_eq, asSl_eq] at e'
  obtain ⟨sl, e1, e2⟩ := e'
  obtain ⟨hu, i, hi, hin, him⟩ := elemK_eq he
  obtain ⟨i', Z, z1, z2, z3⟩ := zeroK_eq hz
  have hv := co_ok hx hf hg
  rw [e1] at hv
  have hZv : VR σ z Z := cv_ok z3
  have hb : ∀ {r : Result Next}, (∀ cs : Array Bool, (builtin .clear c.argTypes o.type cs #[ac.eval x]).run P w = r) → (execOp ac.eval o).run P w = r := fun h => exec_blt ho hc hxs (by simpa using h _)
  have hun : VR σ undefA (.tuple #[]) := VR_undef
  cases ha : sl.a with
  | none =>
    rw [ha] at e2 hv
    cases (show some (Nx.val undefA h) = some nx from e2)
    simp only [VR] at hv
    refine ⟨_, _, w, σ, hb (fun cs => ?_), .inl rfl, hun, s, Step.refl _ _ _⟩
    simp [builtin, ht, Builtin.clear_, r_under hu, hv]
  | some a =>
    rw [ha] at e2 hv
    change ob (h.write a (repR z.cells sl.len)) (fun h' => some (Nx.val undefA h')) = some nx at e2
    rw [ob_eq] at e2
    obtain ⟨h', e3, e4⟩ := e2
    cases e4
    have hr : VRL σ (repR z.cells sl.len) (Builtin.zeroCells Z.cells sl.len).toList := by rw [zeroCells_list]; exact VRL_rep hZv.cells _
    obtain ⟨p, c', w', h1, h2, h3, h4⟩ := slot_write (P := P) s hv e3 hr (fun h => by rw [h]; rfl)
    refine ⟨_, _, w', σ, hb (fun cs => ?_), .inl rfl, hun, h3, h4⟩
    cases hl : sl.len with
    | zero =>
      rw [hl] at h1 h2
      have : (Builtin.zeroCells Z.cells 0).toList = [] := by simp [Builtin.zeroCells]
      rw [this] at h2
      cases h2
      simp [builtin, ht, Builtin.clear_, r_under hu, h1]
    | succ l =>
      rw [hl] at h1 h2
      simp [builtin, ht, Builtin.clear_, r_under hu, h1, r_zero z1 z2, h2]
end
end Go.Av


namespace Go.Av
variable [Tok]
variable {P : Program}
section
variable {o : Oper} {c : Call} {t u : TypeId} {x y : Operand} {x' y' : AOpd} {e : TypeId} {n m : Nat}
theorem minN_eq (a b : Nat) : minN a b = Nat.min a b := by
  unfold minN
  cases h : Nat.ble a b with
  | true => have := Nat.le_of_ble_eq_true h; show a = _; simp [Nat.min_def]; omega
  | false =>
    have : ¬ a ≤ b := fun h' => by rw [Nat.ble_eq_true_of_le h'] at h; cases h
    show b = _; simp [Nat.min_def]; omega
theorem copyTo_ok {σ : Sg} {h : Hp} {w : World} {k : Nat} {d : Sl} {dv : Value} {cs : List AVal} {L : Array Value} {nx : Nx} {run : World → Result Next} (s : Sim σ h w) (hd : VR σ (.sl d.a d.len d.cap d.g) dv) (hr : VRL σ cs L.toList) (hz : d.len = 0 → cs = [])
    (e : copyTo h k d.a cs = some nx) (hrun : ∀ base c' w', dv = .slice base d.len c' → (∀ a, base = some a → (storeCells a L.toList).run P w = .ok () w') → (base = none → w' = w) → run w = .ok (.value (.int .i64 k)) w') : TurnR P run σ h w nx := by
  cases ha : d.a with
  | none =>
    rw [ha] at e hd
    change ifb (Nat.beq (lenR cs) 0) (some (Nx.val (.i .i64 (Int.ofNat k)) h)) none = some nx at e
    rw [ifb_eq] at e
    cases e.2
    simp only [VR] at hd
    exact ⟨_, _, w, σ, hrun none d.cap w hd (fun a e => nomatch e) (fun _ => rfl), .inl rfl, VR_ii, s, Step.refl _ _ _⟩
  | some a =>
    rw [ha] at e hd
    change ob (h.write a cs) (fun h' => some (Nx.val (.i .i64 (Int.ofNat k)) h')) = some nx at e
    rw [ob_eq] at e
    obtain ⟨h', e1, e2⟩ := e
    cases e2
    obtain ⟨p, c', w', g1, g2, g3, g4⟩ := slot_write (P := P) s hd e1 hr hz
    exact ⟨_, _, w', σ, hrun (some p) c' w' g1 (fun a e => by cases e; exact g2) (fun e => nomatch e), .inl rfl, VR_ii, g3, g4⟩
theorem turn_copy {r : List TypeId} (ho : o.op = .call c) (hc : c.callee = .builtin .copy) (ht : c.argTypes.toList = t :: r) (hxs : c.args = #[x, y]) (he : elemK P t = some (e, n, m)) (hx : co P x = some x') (hy : co P y = some y') : TurnS P o fun f h => kCopy f h n x' y' := by
  intro σ N f ac h w nx hf hg s e'
  simp only [kCopy, ob_eq, asSl_eq] at e'
  obtain ⟨d, e1, e2⟩ := e'
  obtain ⟨hu, i, hi, hin, him⟩ := elemK_eq he
  have hd := co_ok hx hf hg
  rw [e1] at hd
  have hs := co_ok hy hf hg
  have hb : ∀ {r : Result Next}, (∀ cs : Array Bool, (builtin .copy c.argTypes o.type cs #[ac.eval x, ac.eval y]).run P w = r) → (execOp ac.eval o).run P w = r := fun h => exec_blt ho hc hxs (by simpa using h _)
  have ht0 : c.argTypes[0]? = some t := by rw [← Array.getElem?_toList, ht]; rfl
  have fin : ∀ {k lv : Nat} {L : Array Value} {base : Option Addr} {c' : Nat} {w' : World}, ac.eval x = .slice base d.len c' → (Builtin.lenOf (ac.eval y)).run P w = .ok lv w → Nat.min lv d.len = k → (Builtin.firstCells n k (ac.eval y)).run P w = .ok L w →
      (∀ a, base = some a → (storeCells a L.toList).run P w = .ok () w') → (base = none → w' = w) → (execOp ac.eval o).run P w = .ok (.value (.int .i64 k)) w' := by
    intro k lv L base c' w' hdv hl hk hfc hst hno
    refine hb fun cs => ?_
    simp only [builtin, Builtin.copy_, ht0, hdv, List.getElem?_toArray, List.getElem?_cons_zero, List.getElem?_cons_succ, Sem.run_bind, r_under hu, Result.andThen_ok, hl, hk, r_sizeOf hi, hin, hfc]
    cases base with
    | none => rw [hno rfl]; rfl
    | some a => simp only [Sem.run_bind, hst a rfl, Result.andThen_ok]; rfl
  cases hY : ev f y' with
  | s l =>
    rw [hY] at e2 hs
    change cpS l h n d = some nx at e2
    simp only [cpS, ob_eq, lenR_eq, minN_eq] at e2
    obtain ⟨q, e3, e4⟩ := e2
    rw [takeX_eq] at e3
    obtain ⟨e3, rfl⟩ := e3
    rw [VR_s] at hs
    obtain ⟨p, hs, rfl⟩ := hs
    have hsz := size_map (s := p) rfl
    refine copyTo_ok (P := P) (L := (p.extract 0 (Nat.min p.size d.len)).data.map fun b => .int .u8 b.toNat) s hd ?_ (fun h0 => ?_) e4 (fun base c' w' hdv hst hno => ?_)
    · rw [Array.toList_map, ByteArray.data_extract, Array.toList_extract, List.extract_eq_take_drop, List.drop_zero, ← hsz]
      exact ofBytes_take
    · rw [h0]; simp [ofBytes, mapR_eq]
    · rw [← hsz]
      exact fin (lv := p.size) hdv (by rw [hs]; rfl) rfl (by rw [hs]; rfl) hst hno
  | sl a k cap g =>
    rw [hY] at e2 hs
    change cpSl a k cap g h n d = some nx at e2
    cases a with
    | none =>
      change ifb (Nat.beq k 0) (some (Nx.val (.i .i64 0) h)) none = some nx at e2
      rw [ifb_eq, Nat.beq_eq] at e2
      obtain ⟨rfl, e2⟩ := e2
      cases e2
      simp only [VR] at hs
      refine ⟨_, _, w, σ, ?_, .inl rfl, VR_ii, s, Step.refl _ _ _⟩
      obtain ⟨da, dc, hdv, _⟩ := VR_sl hd
      exact fin (k := 0) (lv := 0) (L := #[]) hdv (by rw [hs]; rfl) (by simp) (by rw [hs]; simp [Builtin.firstCells]) (fun a _ => rfl) (fun _ => rfl)
    | some a =>
      change ob (h.read a (minN k d.len * n)) (fun cs => copyTo h (minN k d.len) d.a cs) = some nx at e2
      simp only [ob_eq, minN_eq] at e2
      obtain ⟨cs, e3, e4⟩ := e2
      obtain ⟨L, hL, hr⟩ := first_sl (P := P) s hs e3 rfl (Nat.min_le_left _ _)
      refine copyTo_ok (P := P) (L := L) s hd hr (fun h0 => ?_) e4 (fun base c' w' hdv hst hno => ?_)
      · rw [h0] at e3
        have hm0 : Nat.min k 0 * n = 0 := by simp
        rw [hm0] at e3
        unfold Hp.read at e3
        rw [ob_eq] at e3
        obtain ⟨c0, _, e5⟩ := e3
        cases (show some [] = some cs from e5)
        rfl
      · obtain ⟨sa, sc, hsv, _⟩ := VR_sl hs
        exact fin (lv := k) hdv (by rw [hsv]; rfl) rfl hL hst hno
  | _ => rw [hY] at e2; cases (show none = some nx from e2)
end
end Go.Av


namespace Go.Av
variable [Tok]
variable {P : Program}
/-- what is told of an operation -/
def OpS (P : Program) (o : Oper) : AOp → Prop
  | .calc g => CalcS P o g
  | .read g => ReadS P o g
  | .make g => MakeS P o g
  | .turn g => TurnS P o g
theorem coO_none {x : Option Operand} (h : coO P x = some none) : x = none := by
  cases x with
  | none => rfl
  | some z => simp only [coO] at h; split at h <;> cases h
theorem cos_nil {xs : List Operand} (h : cos P xs = some []) : xs = [] := by
  cases xs with
  | nil => rfl
  | cons x r =>
    unfold cos at h
    split at h
    · split at h <;> cases h
    · cases h
theorem cos_cons {xs : List Operand} {y : AOpd} {l : List AOpd} (h : cos P xs = some (y :: l)) : ∃ x r, xs = x :: r ∧ co P x = some y ∧ cos P r = some l := by
  cases xs with
  | nil => cases h
  | cons x r =>
    unfold cos at h
    split at h
    · split at h
      · cases h; exact ⟨x, r, rfl, by assumption, by assumption⟩
      · cases h
    · cases h
theorem bltK_ok {o : Oper} {c : Call} {b : Builtin} {as : List AOpd} {a : AOp} (ho : o.op = .call c) (hc : c.callee = .builtin b) (has : cos P c.args.toList = some as) (h : bltK P b c.argTypes.toList as = some a) : OpS P o a := by
  have two : ∀ {s x : AOpd}, as = [s, x] → ∃ p q, c.args = #[p, q] ∧ co P p = some s ∧ co P q = some x := by
    rintro s x rfl
    obtain ⟨p, r, e1, e2, e3⟩ := cos_cons has
    obtain ⟨q, r', e4, e5, e6⟩ := cos_cons e3
    have := cos_nil e6
    subst this
    subst e4
    exact ⟨p, q, by apply Array.ext'; rw [e1], e2, e5⟩
  have one : ∀ {s : AOpd}, as = [s] → ∃ p, c.args = #[p] ∧ co P p = some s := by
    rintro s rfl
    obtain ⟨p, r, e1, e2, e3⟩ := cos_cons has
    have := cos_nil e3
    subst this
    exact ⟨p, by apply Array.ext'; rw [e1], e2⟩
  have ty1 : ∀ {t : TypeId}, c.argTypes.toList = [t] → c.argTypes = #[t] := fun e => by apply Array.ext'; rw [e]
  have ty2 : ∀ {t u : TypeId}, c.argTypes.toList = [t, u] → c.argTypes = #[t, u] := fun e => by apply Array.ext'; rw [e]
  unfold bltK at h
  split at h
  · rename_i t u s x hts
    obtain ⟨p, q, hxs, hp, hq⟩ := two rfl
    split at h
    · rename_i e n m he
      split at h
      · rename_i z hz
        simp only [cond_eq_ite] at h
        split at h
        · rename_i hc'
          simp only [Bool.and_eq_true, Nat.beq_eq, Nat.blt_eq] at hc'
          split at h
          · split at h
            · rename_i hu hm
              cases h; exact turn_appendZ ho hc (ty2 hts) hxs he hz hc'.1 (Nat.le_of_ble_eq_true hm) hu hp hq
            · cases h
          · rename_i hu; cases h; exact turn_append ho hc (ty2 hts) hxs he hz hc'.1 hu (.inl ⟨_, rfl⟩) hp hq
          · split at h
            · rename_i hu _; cases h; exact turn_append ho hc (ty2 hts) hxs he hz hc'.1 hu (.inr rfl) hp hq
            · cases h
          · cases h
        · cases h
      · cases h
    · cases h
  · rename_i t x hts
    obtain ⟨p, hxs, hp⟩ := one rfl
    split at h
    · rename_i hu; cases h; exact calc_lenS ho hc (ty1 hts) hxs hu hp
    · rename_i hu; cases h; exact calc_len ho hc (ty1 hts) hxs hu hp
    · rename_i hu; cases h; exact read_lenMap ho hc (ty1 hts) hxs hu hp
    · cases h
  · rename_i t x hts
    obtain ⟨p, hxs, hp⟩ := one rfl
    split at h
    · rename_i hu; cases h; exact calc_cap ho hc (ty1 hts) hxs hu hp
    · cases h
  · rename_i t x hts
    obtain ⟨p, hxs, hp⟩ := one rfl
    split at h
    · rename_i e n m he
      split at h
      · rename_i z hz
        simp only [cond_eq_ite] at h
        split at h
        · cases h; exact turn_clear ho hc (ty1 hts) hxs he hz hp
        · cases h
      · cases h
    · cases h
  · rename_i t r d s hts
    obtain ⟨p, q, hxs, hp, hq⟩ := two rfl
    split at h
    · rename_i e n m he
      cases h; exact turn_copy ho hc hts hxs he hp hq
    · cases h
  · rename_i ts x l
    cases h
    obtain ⟨p, r, e1, e2, e3⟩ := cos_cons has
    exact calc_max ho hc e1 e2 e3
  · rename_i ts x l
    cases h
    obtain ⟨p, r, e1, e2, e3⟩ := cos_cons has
    exact calc_min ho hc e1 e2 e3
  · cases h
theorem cop_ok {o : Oper} {a : AOp} (h : cop P o.op = some a) : OpS P o a := by
  cases ho : o.op with
  | move x =>
    rw [ho] at h
    simp only [cop] at h
    split at h
    · cases h; exact calc_move (.inl ho) (by assumption)
    · cases h
  | assign x =>
    rw [ho] at h
    simp only [cop] at h
    split at h
    · cases h; exact calc_move (.inr ho) (by assumption)
    · cases h
  | pick c x y =>
    rw [ho] at h
    simp only [cop] at h
    split at h
    · cases h; exact calc_pick ho (by assumption) (by assumption) (by assumption)
    · cases h
  | alloc t =>
    rw [ho] at h
    simp only [cop] at h
    split at h
    · cases h; exact make_alloc ho (by assumption)
    · cases h
  | box t x =>
    rw [ho] at h
    simp only [cop] at h
    split at h
    · cases h; exact make_box ho (by assumption)
    · cases h
  | build t ps =>
    rw [ho] at h
    simp only [cop] at h
    split at h
    · split at h
      · split at h
        · split at h
          · cases h; exact calc_build_struct ho (by assumption) (by assumption) (by assumption) (by assumption)
          · cases h
        · cases h
      · split at h
        · split at h
          · cases h; exact calc_build_array ho (by assumption) (by assumption) (by assumption) (by assumption)
          · cases h
        · cases h
      · cases h
    · cases h
  | buildSlice t len ps =>
    rw [ho] at h
    simp only [cop] at h
    split at h
    · rename_i e n m he
      split at h
      · split at h
        · simp only [cond_eq_ite] at h
          split at h
          · rename_i hc
            cases h
            simp only [Bool.and_eq_true, Nat.beq_eq, Nat.blt_eq] at hc
            obtain ⟨hu, i, hi, hin, him⟩ := elemK_eq he
            exact make_buildSl (m := m) ho hu (by unfold infoK; rw [hi]; simp [hin, him]) (by assumption) (by assumption) (Nat.le_of_ble_eq_true hc.1) hc.2.1 hc.2.2
          · cases h
        · cases h
      · cases h
    · cases h
  | load t x =>
    rw [ho] at h
    simp only [cop] at h
    split at h
    · cases h; exact read_load (agg := true) ho (by assumption) (fun _ => by assumption) rfl (by assumption)
    · cases h; exact read_load (agg := false) (sz := 0) (m := 0) ho (by assumption) (fun e => nomatch e) rfl (by assumption)
    · cases h
  | store t x y =>
    rw [ho] at h
    simp only [cop] at h
    split at h
    · cases h; exact turn_store ho (by assumption) (by assumption) (by assumption)
    · cases h
  | nilCheck x =>
    rw [ho] at h
    simp only [cop] at h
    split at h
    · cases h; exact calc_nilck ho (by assumption)
    · cases h
  | binOp op t x y k =>
    rw [ho] at h
    simp only [cop] at h
    split at h
    · rename_i x' y' hx hy
      cases h
      have : ∃ g, binK op (eqK P t) x' y' = .calc g := by cases op <;> exact ⟨_, rfl⟩
      obtain ⟨g, hg⟩ := this
      rw [hg]
      exact calc_bin ho hx hy hg
    · cases h
  | unOp op t x =>
    rw [ho] at h
    simp only [cop] at h
    split at h
    · cases h; exact calc_un ho (by assumption)
    · cases h
  | convert s d x =>
    rw [ho] at h
    simp only [cop] at h
    split at h
    · cases h; exact calc_conv_int ho (by assumption) (by assumption) (by assumption)
    · cases h; exact calc_conv_str ho (by assumption) (by assumption) (by assumption)
    · split at h
      · cases h; exact make_bytes ho (by assumption) (by assumption) (by assumption) (by assumption)
      · cases h
    · split at h
      · cases h; exact read_toStr ho (by assumption) (by assumption) (by assumption) (by assumption)
      · cases h
    · cases h
  | makeInterface t x =>
    rw [ho] at h
    simp only [cop] at h
    split at h
    · cases h
    · rename_i d y hn hu hx; cases h
      exact calc_iface ho hu (fun ms e => by subst e; exact absurd rfl (hn _)) hx
    · cases h
  | makeFunc g a c =>
    rw [ho] at h
    simp only [cop] at h
    cases g with
    | func g =>
      simp only at h
      split at h
      · cases h; exact calc_func ho (by assumption) (by assumption)
      · cases h
    | _ => cases h
  | makeMap t r =>
    rw [ho] at h
    cases r with
    | none => simp only [cop] at h; cases h; exact make_map ho
    | some r => simp only [cop] at h; cases h
  | makeSlice t l c =>
    rw [ho] at h
    simp only [cop] at h
    split at h
    · rename_i e n m l' c' he hl hc
      split at h
      · simp only [cond_eq_ite] at h
        split at h
        · rename_i hq
          cases h
          simp only [Bool.and_eq_true, Nat.beq_eq, Nat.blt_eq] at hq
          obtain ⟨hu, i, hi, hin, him⟩ := elemK_eq he
          exact make_slice ho hu (by unfold infoK; rw [hi]; simp [hin, him]) (by assumption) hq.1 hq.2 hl hc
        · cases h
      · cases h
    · cases h
  | slice t x lo hi mx =>
    rw [ho] at h
    simp only [cop] at h
    split at h
    · split at h
      · split at h
        · rename_i hmx
          have := coO_none hmx
          subst this
          cases h; exact calc_sliceStr ho (by assumption) (by assumption) (by assumption) (by assumption)
        · cases h
      · split at h
        · split at h
          · cases h
          · rename_i hne
            cases h
            refine calc_slice ho (by assumption) (by assumption) (by assumption) (by assumption) (by assumption) (by assumption) ?_
            intro hs
            obtain ⟨v, hv⟩ := Option.isSome_iff_exists.1 hs
            exact Option.isSome_iff_ne_none.2 (hne v hv)
        · cases h
      · split at h
        · rename_i hmx
          have := coO_none hmx
          subst this
          cases h; exact calc_sliceArr ho (by assumption) (by assumption) (by assumption) (by assumption) (by assumption)
        · cases h
      · cases h
    · cases h
  | fieldAddr t x j =>
    rw [ho] at h
    simp only [cop] at h
    split at h
    · split at h
      · split at h
        · cases h; exact calc_fieldAddr ho (by assumption) (by assumption) (by assumption) (by assumption)
        · cases h
      · cases h
    · cases h
  | field t x j =>
    rw [ho] at h
    simp only [cop] at h
    split at h
    · split at h
      · split at h
        · cases h; exact calc_field (agg := true) ho (by assumption) (by assumption) (by assumption) (.inl (by assumption)) rfl (by assumption)
        · cases h; exact calc_field (agg := false) (sz := 0) (m := 0) ho (by assumption) (by assumption) (by assumption) (.inr rfl) rfl (by assumption)
        · cases h
      · cases h
    · cases h
  | indexAddr t x ix =>
    rw [ho] at h
    simp only [cop] at h
    split at h
    · split at h
      · cases h; exact calc_indexArr ho (by assumption) (by assumption) (by assumption) (by assumption)
      · cases h
    · split at h
      · cases h; exact calc_indexSl ho (by assumption) (by assumption) (by assumption) (by assumption)
      · cases h
    · cases h
  | index t x ix =>
    rw [ho] at h
    simp only [cop] at h
    split at h
    · cases h; exact calc_indexStr ho (by assumption) (by assumption) (by assumption)
    · split at h
      · cases h; exact calc_indexVal (agg := true) ho (by assumption) (by assumption) (by assumption) rfl (by assumption) (by assumption)
      · cases h; exact calc_indexVal (agg := false) ho (by assumption) (by assumption) (by assumption) rfl (by assumption) (by assumption)
      · cases h
    · cases h
  | lookup t x ix ok =>
    rw [ho] at h
    simp only [cop] at h
    split at h
    · split at h
      · cases h; exact read_lookup ho (by assumption) (by assumption) (by assumption) (by assumption) (by assumption)
      · cases h
    · cases h
  | mapUpdate t x y z =>
    rw [ho] at h
    simp only [cop] at h
    split at h
    · split at h
      · cases h; exact turn_update ho (by assumption) (by assumption) (by assumption) (by assumption) (by assumption)
      · cases h
    · cases h
  | mapEntry t x y =>
    rw [ho] at h
    simp only [cop] at h
    split at h
    · split at h
      · cases h; exact turn_entry ho (by assumption) (by assumption) (by assumption) (by assumption) (by assumption)
      · cases h
    · cases h
  | entryStore t x y z =>
    rw [ho] at h
    simp only [cop] at h
    split at h
    · cases h; exact turn_entrySt ho (by assumption) (by assumption) (by assumption)
    · cases h
  | range t x =>
    rw [ho] at h
    simp only [cop] at h
    split at h
    · cases h; exact make_range ho (by assumption) (by assumption)
    · cases h
  | next x b =>
    rw [ho] at h
    cases b with
    | true =>
      simp only [cop] at h
      split at h
      · cases h; exact turn_next ho (by assumption)
      · cases h
    | false => simp only [cop] at h; cases h
  | extract t ix =>
    rw [ho] at h
    simp only [cop] at h
    split at h
    · cases h; exact calc_extract ho (by assumption)
    · cases h
  | call c =>
    rw [ho] at h
    simp only [cop] at h
    split at h
    · split at h
      · cases h; exact turn_call ho (by assumption) (by assumption) (by assumption)
      · cases h
    · exact bltK_ok ho (by assumption) (by assumption) h
    · cases h
  | _ => rw [ho] at h; cases h
end Go.Av


namespace Go.Av
variable [Tok]
variable {P : Program}
/-! ### Calls, rounds -/
def RetR (σ : Sg) (h : Hp) (w : World) (v : AVal) (h' : Hp) : Ending → World → Prop
  | .returned v', w' => ∃ σ', VR σ' v v' ∧ Sim σ' h' w' ∧ Step σ h w σ' h' w'
  | _, _ => False
def CallOk (P : Program) (C : Nat → List AVal → Hp → Option (AVal × Hp)) : Prop :=
  ∀ (k : Nat) (args : List AVal) (h : Hp) (v : AVal) (h' : Hp) (σ : Sg) (w : World) (args' : Array Value), C k args h = some (v, h') → VRL σ args args'.toList → Sim σ h w → GlobR P σ →
    ((callFunc k args').run P w = .ok (.enter k args') w ∧ ∀ n, CallsIn Fence.wide n P k args' w (RetR σ h w v h')) ∨
    ∃ v' w', (callFunc k args').run P w = .ok (.value v') w' ∧ ∃ σ', VR σ' v v' ∧ Sim σ' h' w' ∧ Step σ h w σ' h' w'
def RoundOk (P : Program) (R : Pos → List AVal → Hp → Option (AVal × Hp)) : Prop :=
  ∀ (l : Pos) (args : List AVal) (h : Hp) (v : AVal) (h' : Hp) (σ : Sg) (w : World) (args' : Array Value) (I : BI), R l args h = some (v, h') → VRL σ args args'.toList → Sim σ h w → GlobR P σ → σ l = some I →
    ∃ f tmps assign body, (Instr.yield I.cb args').run P w = .ok (.round I.cb f tmps assign body) w ∧ ∀ n, RoundIn Fence.wide n P I.cb f tmps assign body w (RetR σ h w v h')
def FenceOk (F : Fence) : Prop := F = Fence.wide ∨ ∃ l, F = Fence.wide.inRound l
theorem FenceOk.depth {F : Fence} (h : FenceOk F) : F.depth = none := by rcases h with rfl | ⟨l, rfl⟩ <;> rfl
theorem FenceOk.fn {F : Fence} (h : FenceOk F) (f : FuncId) : F.fn f := by rcases h with rfl | ⟨l, rfl⟩ <;> exact trivial
theorem FenceOk.calls {F : Fence} (h : FenceOk F) {n : Nat} {f : FuncId} {args : Array Value} {w : World} {R : Ending → World → Prop} (hc : CallsIn Fence.wide n P f args w R) : CallsIn F n P f args w R := by
  rcases h with rfl | ⟨l, rfl⟩ <;> exact hc
theorem FenceOk.rounds {F : Fence} (h : FenceOk F) {n l : Nat} {f : FuncId} {tmps : Array Value} {a b : Code} {w : World} {R : Ending → World → Prop} (hc : RoundIn Fence.wide n P l f tmps a b w R) : RoundIn F n P l f tmps a b w R := by
  rcases h with rfl | ⟨l, rfl⟩ <;> exact hc
/-- what comes of a step's turn -/
theorem nx_ok {E : Env} {F : Fence} (hF : FenceOk F) (hC : CallOk P (callF E.fs E.go)) (hR : RoundOk P (roundF E.P E.go)) {σ : Sg} {h h' : Hp} {w : World} {nx : Nx} {v : AVal} {o : Oper} {ac : Act} {n : Nat}
    {K : Act → World → Prop} {Q : Exit → Act → World → Prop} (hg : GlobR P σ) (s : Sim σ h w) (hn : nxF E h nx = some (v, h')) (ht : TurnR P (fun w => (execOp ac.eval o).run P w) σ h w nx)
    (hK : ∀ v' w' σ', VR σ' v v' → Sim σ' h' w' → Step σ h w σ' h' w' → K (ac.put o.dst v') w') : o.uponIn F n P ac K Q ((execOp ac.eval o).run P w) := by
  have hd : F.depth.isSome = true → 1 ≤ n := fun h => by rw [hF.depth] at h; cases h
  cases nx with
  | val v1 h1 =>
    cases (show some (v1, h1) = some (v, h') from hn)
    obtain ⟨r, v', w', σ', h2, h3, h4, h5, h6⟩ := ht
    simp only at h2
    rw [h2]
    rcases h3 with rfl | ⟨rfl, rfl⟩
    · exact hK _ _ _ h4 h5 h6
    · exact hK _ _ _ h4 h5 h6
  | enter k args =>
    obtain ⟨args', h2, h3⟩ := ht
    simp only at h2
    rw [h2]
    rcases hC k args h v h' σ w args' hn h3 s hg with ⟨h4, h5⟩ | ⟨v', w', h4, σ', h5, h6, h7⟩
    · rw [h4]
      exact ⟨hd, (hF.calls (h5 (n - 1))).mono fun e w' hr => by
        cases e with
        | returned v' => obtain ⟨σ', g1, g2, g3⟩ := hr; exact hK _ _ _ g1 g2 g3
        | panicked c => exact hr.elim
        | outgrown => exact hr.elim⟩
    · rw [h4]
      exact hK _ _ _ h5 h6 h7
  | round l args =>
    obtain ⟨args', I, hI, h2, h3⟩ := ht
    simp only at h2
    rw [h2]
    obtain ⟨f, tmps, assign, body, h4, h5⟩ := hR l args h v h' σ w args' I hn h3 s hg hI
    rw [h4]
    exact ⟨hd, (hF.rounds (h5 (n - 1))).mono fun e w' hr => by
      cases e with
      | returned v' => obtain ⟨σ', g1, g2, g3⟩ := hr; exact hK _ _ _ g1 g2 g3
      | panicked c => exact hr.elim
      | outgrown => exact hr.elim⟩
/-! ### One step -/
theorem put_ok {σ : Sg} {N : Nat} {f : Fr} {ac : Act} {d : Option Tmp} {v : AVal} {v' : Value} (hd : dstK N d = true) (hf : FrR σ N f ac.tmps) (hv : VR σ v v') : FrR σ N (stO f (posO d) v) (ac.put d v').tmps := by
  cases d with
  | none => exact hf
  | some t =>
    simp only [dstK, Bool.and_eq_true, Nat.blt_eq] at hd
    exact hf.put t hd.1 hd.2 hv
theorem put_defers (ac : Act) (d : Option Tmp) (v : Value) : (ac.put d v).defers = ac.defers := by cases d <;> rfl
theorem guard_ok {σ : Sg} {N : Nat} {f : Fr} {ac : Act} {ops : Array Oper} {o : Oper} (ha : ∀ p ∈ ops.toList, dstK N p.dst = true) (hf : FrR σ N f ac.tmps) : goA f (guardK ops o.guard) = Region.wanted o (yielded ops ac.tmps) := by
  unfold Region.wanted
  cases hg : o.guard with
  | none => rfl
  | some x =>
    obtain ⟨j, want⟩ := x
    show goA f (some (posO ((ops[j]?).bind (·.dst)), want)) = (yielded ops ac.tmps j == some want)
    unfold yielded
    cases hd : (ops[j]?).bind (·.dst) with
    | none => rfl
    | some t =>
      show isB want (f.gt (slot t)) = _
      obtain ⟨p, hp, hp'⟩ := Option.bind_eq_some_iff.1 hd
      have := ha p (by rw [Array.mem_toList_iff]; exact Array.mem_of_getElem? hp)
      rw [hp'] at this
      simp only [dstK, Bool.and_eq_true, Nat.blt_eq] at this
      have hv := hf.2 t this.2
      have ht : ac.tmps[t]? = some (ac.tmps.getD t undef) := by
        have : t < ac.tmps.size := by rw [hf.1]; exact this.1
        simp [Array.getD, this]
      simp only [Option.bind_some, ht]
      generalize ac.tmps.getD t undef = y at hv
      cases hX : f.gt (slot t) with
      | b c =>
        rw [hX, VR_b] at hv
        subst hv
        show ifb want c (!c) = (some c == some want)
        cases want <;> cases c <;> rfl
      | i k n => rw [hX, VR_i] at hv; subst hv; rfl
      | s l => rw [hX, VR_s] at hv; obtain ⟨_, rfl, _⟩ := hv; rfl
      | p a => rw [hX] at hv; obtain ⟨_, rfl, _⟩ := VR_p hv; rfl
      | sl a n c g => rw [hX] at hv; obtain ⟨_, _, rfl, _⟩ := VR_sl hv; rfl
      | fn g a c => rw [hX] at hv; simp only [VR] at hv; obtain ⟨_, _, _, rfl, _⟩ := hv; rfl
      | nilF => rw [hX] at hv; simp only [VR] at hv; subst hv; rfl
      | ifc t x => rw [hX] at hv; simp only [VR] at hv; obtain ⟨_, rfl, _⟩ := hv; rfl
      | nilI => rw [hX] at hv; simp only [VR] at hv; subst hv; rfl
      | ag l => rw [hX] at hv; simp only [VR] at hv; obtain ⟨_, rfl, _⟩ := hv; rfl
      | tu l => rw [hX] at hv; simp only [VR] at hv; obtain ⟨_, rfl, _⟩ := hv; rfl
      | mp a => rw [hX] at hv; obtain ⟨_, rfl, _⟩ := VR_mp hv; rfl
      | tok k =>
        rw [hX] at hv
        simp only [VR] at hv
        have := Tok.nb (self := inferInstance) k
        cases y with
        | bool b => exact absurd hv.symm (this b)
        | _ => rfl
/-- the operation of a step, if it has not failed -/
theorem opK_cases {N : Nat} {o : Oper} : (dstK N o.dst = true ∧ ∃ a, cop P o.op = some a ∧ opK P N o = a) ∨ opK P N o = kFail := by
  unfold opK
  cases dstK N o.dst with
  | false => exact .inr rfl
  | true =>
    cases hc : cop P o.op with
    | none => exact .inr rfl
    | some a => exact .inl ⟨rfl, a, rfl, rfl⟩
theorem cop_not_defer {o : Oper} {a : AOp} (h : cop P o.op = some a) : ∀ c, o.op ≠ .defer c := fun c e => by rw [e] at h; cases h
theorem step_ok {E : Env} {F : Fence} (hF : FenceOk F) (hC : CallOk P (callF E.fs E.go)) (hR : RoundOk P (roundF E.P E.go)) {σ : Sg} {h : Hp} {w : World} {N n i : Nat} {f : Fr} {ac : Act} {ops : Array Oper} {o : Oper} {x : FH}
    {K : Act → World → Prop} {Q : Exit → Act → World → Prop} (ho : ops[i]? = some o) (ha : ∀ p ∈ ops.toList, dstK N p.dst = true) (hf : FrR σ N f ac.tmps) (hg : GlobR P σ) (s : Sim σ h w) (hx : stepO E f h (operK P N ops o) = some x)
    (hK : ∀ ac' w' σ', FrR σ' N x.f ac'.tmps → Sim σ' x.h w' → Step σ h w σ' x.h w' → ac'.defers = ac.defers → K ac' w') : wpOpIn F n P ops Q i K ac w := by
  have hdst : dstK N o.dst = true := ha o (by rw [Array.mem_toList_iff]; exact Array.mem_of_getElem? ho)
  unfold wpOpIn
  simp only [ho]
  rw [← guard_ok (o := o) ha hf]
  have hgo : goA f (operK P N ops o).guard = goA f (guardK ops o.guard) := rfl
  unfold stepO at hx
  rw [hgo] at hx
  cases hgd : goA f (guardK ops o.guard) with
  | false =>
    rw [hgd] at hx
    cases (show some (⟨stO f (posO o.dst) undefA, h⟩ : FH) = some x from hx)
    rw [if_neg (by simp)]
    exact ⟨fun f _ => hF.fn f, hK _ _ σ (put_ok hdst hf VR_undef) s (Step.refl _ _ _) (put_defers _ _ _)⟩
  | true =>
    rw [hgd] at hx
    rw [if_pos rfl]
    have hx' : opF E f h (posO o.dst) (opK P N o) = some x := hx
    rcases opK_cases (P := P) (N := N) (o := o) with ⟨_, a, hc, hop⟩ | hop
    · rw [hop] at hx'
      refine ⟨fun f _ => hF.fn f, ?_⟩
      rw [Oper.semAt_plain F _ _ (cop_not_defer hc)]
      have hS := cop_ok hc
      cases a with
      | «calc» g =>
        change ob (g f h) (putV f h (posO o.dst)) = some x at hx'
        rw [ob_eq] at hx'
        obtain ⟨v, h1, h2⟩ := hx'
        cases h2
        obtain ⟨v', h3, h4⟩ := hS σ N f ac h w v hf hg h1
        rw [h3]
        exact hK _ _ σ (put_ok hdst hf h4) s (Step.refl _ _ _) (put_defers _ _ _)
      | read g =>
        change ob (g f h) (putV f h (posO o.dst)) = some x at hx'
        rw [ob_eq] at hx'
        obtain ⟨v, h1, h2⟩ := hx'
        cases h2
        obtain ⟨v', h3, h4⟩ := hS σ N f ac h w v hf hg s h1
        rw [h3]
        exact hK _ _ σ (put_ok hdst hf h4) s (Step.refl _ _ _) (put_defers _ _ _)
      | make g =>
        change ob (g f h.next) (putM f h (posO o.dst)) = some x at hx'
        rw [ob_eq] at hx'
        obtain ⟨m, h1, h2⟩ := hx'
        cases h2
        obtain ⟨v', w', I, h3, h4, h5, h6, h7, h8, h9⟩ := hS σ N f ac h.next w m hf hg h1
        have hb : σ h.next = none := s.fresh _ (Nat.le_refl _)
        obtain ⟨h10, h11⟩ := h9 (σ.set h.next I) (Sg.le_set I hb) (Sg.set_same _ _ _)
        obtain ⟨g1, g2⟩ := s.new h4 h5 h6 h7 h11 h8
        rw [h3]
        exact hK _ _ _ (put_ok hdst (hf.mono (Sg.le_set I hb)) h10) g1 g2 (put_defers _ _ _)
      | turn g =>
        change ob (g f h) (fun nx => ob (nxF E h nx) (putX f (posO o.dst))) = some x at hx'
        simp only [ob_eq] at hx'
        obtain ⟨nx, h1, ⟨v, h'⟩, h2, h3⟩ := hx'
        cases h3
        exact nx_ok hF hC hR hg s h2 (hS σ N f ac h w nx hf hg s h1) (fun v' w' σ' g1 g2 g3 => hK _ _ σ' (put_ok hdst (hf.mono g3.le) g1) g2 g3 (put_defers _ _ _))
    · rw [hop] at hx'
      cases hx'
end Go.Av


namespace Go.Av
variable [Tok]
variable {P : Program}
/-! ### A region in the order of the text -/
theorem opsF_cons {E : Env} {o : AOper} {l : List AOper} {f : Fr} {h : Hp} {x : FH} (hx : opsF E (o :: l) f h = some x) : ∃ y, stepO E f h o = some y ∧ opsF E l y.f y.h = some x := by
  change ob (stepO E f h o) (fun y => opsF E l y.f y.h) = some x at hx
  rw [ob_eq] at hx
  exact hx
theorem ops_ok {E : Env} {F : Fence} (hF : FenceOk F) (hC : CallOk P (callF E.fs E.go)) (hR : RoundOk P (roundF E.P E.go)) {N n : Nat} {ops : Array Oper} (ha : ∀ p ∈ ops.toList, dstK N p.dst = true) {Q : Exit → Act → World → Prop} {x : FH} :
    ∀ (rest : List Oper) (k : Nat) (σ : Sg) (h : Hp) (w : World) (f : Fr) (ac : Act), ops.toList.drop k = rest → FrR σ N f ac.tmps → GlobR P σ → Sim σ h w → opsF E (mapR (operK P N ops) rest) f h = some x →
      (∀ ac' w' σ', FrR σ' N x.f ac'.tmps → Sim σ' x.h w' → Step σ h w σ' x.h w' → ac'.defers = ac.defers → Q .normal ac' w') → wpOpsIn F n P ops Q (List.range' k rest.length) ac w
  | [], k, σ, h, w, f, ac, hr, hf, hg, s, hx, hK => by
    cases (show some (⟨f, h⟩ : FH) = some x from hx)
    exact hK _ _ σ hf s (Step.refl _ _ _) rfl
  | o :: rest, k, σ, h, w, f, ac, hr, hf, hg, s, hx, hK => by
    obtain ⟨y, h1, h2⟩ := opsF_cons (o := operK P N ops o) (l := mapR (operK P N ops) rest) hx
    rw [List.length_cons, List.range'_succ, wpOpsIn_cons]
    have ho : ops[k]? = some o := by
      have := congrArg (fun l => l[0]?) hr
      simpa using this
    have hr' : ops.toList.drop (k + 1) = rest := by
      have := congrArg List.tail hr
      simpa using this
    exact step_ok hF hC hR ho ha hf hg s h1 (fun ac' w' σ' g1 g2 g3 g4 =>
      ops_ok hF hC hR ha rest (k + 1) σ' y.h w' y.f ac' hr' g1 (hg.mono g3.le) g2 h2 (fun ac'' w'' σ'' g5 g6 g7 g8 => hK ac'' w'' σ'' g5 g6 (g3.trans g7) (g8.trans g4)))
/-- how code is left -/
def ExR : Ex → Exit → Prop
  | .norm, .normal => True
  | .exit i, .exit j => i = j
  | .goto l, .goto m => l = m
  | .ret, .ret => True
  | _, _ => False
end Go.Av


namespace Go.Av
variable [Tok]
variable {P : Program}
/-! ### Marks of ranges over functions -/
def markOf (r : Nat) : Deferred := { target := .collected r, args := #[] }
def MarksOk (B : Nat) (w : World) (ds : List Deferred) : Prop := B ≤ w.heap.size ∧ ∃ rs : List Nat, ds = rs.map markOf ∧ rs.Nodup ∧ ∀ r ∈ rs, B ≤ r ∧ w.heap[r]? = some (.deferred (some []))
theorem tch_obj {σ : Sg} {h : Hp} {w : World} (s : Sim σ h w) {k : Nat} (ht : Tch σ h k) : ∀ d, w.heap[k]? ≠ some (.deferred d) := by
  obtain ⟨b, x, I, hb, ht, hI, rfl⟩ := ht
  obtain ⟨J, hJ, hR⟩ := s.blk b x hb
  rw [hI] at hJ; cases hJ
  intro d e
  cases x with
  | cells c => obtain ⟨_, _, _, h1, _⟩ := hR; rw [e] at h1; cases h1
  | map es c => obtain ⟨_, h1, _⟩ := hR; rw [e] at h1; cases h1
  | loop l => obtain ⟨_, h1, _⟩ := hR; rw [e] at h1; cases h1
  | siter l n => obtain ⟨_, h1, _⟩ := hR; rw [e] at h1; cases h1
  | dead => exact ht
theorem MarksOk.step {B : Nat} {σ σ' : Sg} {h h' : Hp} {w w' : World} {ds : List Deferred} (m : MarksOk B w ds) (s : Sim σ h w) (t : Step σ h w σ' h' w') : MarksOk B w' ds := by
  obtain ⟨h0, rs, h1, h2, h3⟩ := m
  refine ⟨Nat.le_trans h0 t.size, rs, h1, h2, fun r hr => ?_⟩
  obtain ⟨hB, this⟩ := h3 r hr
  refine ⟨hB, ?_⟩
  have hlt : r < w.heap.size := (Array.getElem?_eq_some_iff.1 this).1
  rw [t.unt r hlt (fun ht => tch_obj s ht _ this)]
  exact this
theorem MarksOk.nil {B : Nat} {w : World} (h : B ≤ w.heap.size) : MarksOk B w [] := ⟨h, [], rfl, List.nodup_nil, fun _ h => nomatch h⟩
/-- what code comes to -/
def PostO (B N : Nat) (σ : Sg) (h : Hp) (w : World) (o : Out) : Exit → Act → World → Prop := fun e a' w' =>
  ExR o.e e ∧ ∃ σ', FrR σ' N o.f a'.tmps ∧ Sim σ' o.h w' ∧ Step σ h w σ' o.h w' ∧ MarksOk B w' a'.defers
def CodeOk (P : Program) (rec : Rec) : Prop :=
  ∀ (B : Nat) (rf : Bool) (N : Nat) (c : Code) (f : Fr) (h : Hp) (o : Out) (F : Fence) (σ : Sg) (w : World) (ac : Act) (n : Nat), rec (cc P N rf c) f h = some o → FenceOk F → (rf = true → F = Fence.wide) →
    FrR σ N f ac.tmps → GlobR P σ → Sim σ h w → MarksOk B w ac.defers → c.wpIn F n P (PostO B N σ h w o) ac w
theorem PostO.trans {B N : Nat} {σ σ1 : Sg} {h h1 : Hp} {w w1 : World} {o : Out} (t : Step σ h w σ1 h1 w1) {e : Exit} {a : Act} {w' : World} (p : PostO B N σ1 h1 w1 o e a w') : PostO B N σ h w o e a w' := by
  obtain ⟨h1, σ', h2, h3, h4, h5⟩ := p
  exact ⟨h1, σ', h2, h3, t.trans h4, h5⟩
section
variable {E : Env} {F : Fence} {B N n : Nat} {σ : Sg} {h : Hp} {w : World} {f : Fr} {ac : Act} {o : Out}
theorem region_ok (hF : FenceOk F) (hC : CallOk P (callF E.fs E.go)) (hR : RoundOk P (roundF E.P E.go)) {id : Nat} {ops : Array Oper} (ha : ∀ p ∈ ops.toList, dstK N p.dst = true) (hf : FrR σ N f ac.tmps) (hg : GlobR P σ) (s : Sim σ h w) (hm : MarksOk B w ac.defers)
    (hx : cRegion (opersK P N ops) E f h = some o) : (Code.region id ops false).wpIn F n P (PostO B N σ h w o) ac w := by
  unfold cRegion at hx
  rw [ob_eq] at hx
  obtain ⟨x, h1, h2⟩ := hx
  cases h2
  refine wpIn_region ?_
  rw [List.range_eq_range', ← Array.length_toList]
  exact ops_ok hF hC hR ha ops.toList 0 σ h w f ac (by simp) hf hg s h1 (fun ac' w' σ' g1 g2 g3 g4 => ⟨trivial, σ', g1, g2, g3, by rw [g4]; exact hm.step s g3⟩)
theorem seq_ok (hrec : CodeOk P E.go) {rf : Bool} {x y : Code} (hF : FenceOk F) (hrf : rf = true → F = Fence.wide) (hf : FrR σ N f ac.tmps) (hg : GlobR P σ) (s : Sim σ h w) (hm : MarksOk B w ac.defers)
    (hx : ob (E.go (cc P N rf x) f h) (sqStep E.go (cc P N rf y)) = some o) : (Code.seq x y).wpIn F n P (PostO B N σ h w o) ac w := by
  rw [ob_eq] at hx
  obtain ⟨o1, h1, h2⟩ := hx
  refine wpIn_seq (wpIn_mono (hrec B rf N x f h o1 F σ w ac n h1 hF hrf hf hg s hm) ?_)
  rintro e a' w' ⟨he, σ', g1, g2, g3, g4⟩
  obtain ⟨oe, of, oh⟩ := o1
  cases oe with
  | norm =>
    cases e <;> try exact he.elim
    have h2' : E.go (cc P N rf y) of oh = some o := h2
    exact wpIn_mono (hrec B rf N y of oh o F σ' w' a' n h2' hF hrf g1 (hg.mono g3.le) g2 g4) (fun e a w hp => hp.trans g3)
  | exit i =>
    cases (show some (⟨.exit i, of, oh⟩ : Out) = some o from h2)
    cases e <;> try exact he.elim
    exact ⟨he, σ', g1, g2, g3, g4⟩
  | goto i =>
    cases (show some (⟨.goto i, of, oh⟩ : Out) = some o from h2)
    cases e <;> try exact he.elim
    exact ⟨he, σ', g1, g2, g3, g4⟩
  | ret =>
    cases (show some (⟨.ret, of, oh⟩ : Out) = some o from h2)
    cases e <;> try exact he.elim
    exact ⟨he, σ', g1, g2, g3, g4⟩
end
end Go.Av


namespace Go.Av
variable [Tok]
variable {P : Program}
section
variable {E : Env} {F : Fence} {B N n : Nat} {σ : Sg} {h : Hp} {w : World} {f : Fr} {ac : Act} {o : Out}
theorem cond_ok (hrec : CodeOk P E.go) {rf : Bool} {c : Operand} {c' : AOpd} {x y : Code} (hF : FenceOk F) (hrf : rf = true → F = Fence.wide) (hf : FrR σ N f ac.tmps) (hg : GlobR P σ) (s : Sim σ h w) (hm : MarksOk B w ac.defers) (hc : co P c = some c')
    (hx : ob (asB (ev f c')) (fun t => E.go (ifb t (cc P N rf x) (cc P N rf y)) f h) = some o) : (Code.cond c x y).wpIn F n P (PostO B N σ h w o) ac w := by
  simp only [ob_eq, asB_eq] at hx
  obtain ⟨t, h1, h2⟩ := hx
  have hv := co_ok hc hf hg
  rw [h1, VR_b] at hv
  refine wpIn_cond hv ?_
  cases t with
  | true => exact hrec B rf N x f h o F σ w ac n h2 hF hrf hf hg s hm
  | false => exact hrec B rf N y f h o F σ w ac n h2 hF hrf hf hg s hm
theorem block_ok (hrec : CodeOk P E.go) {rf : Bool} {id : Nat} {x : Code} (hF : FenceOk F) (hrf : rf = true → F = Fence.wide) (hf : FrR σ N f ac.tmps) (hg : GlobR P σ) (s : Sim σ h w) (hm : MarksOk B w ac.defers)
    (hx : ob (E.go (cc P N rf x) f h) (blStep id) = some o) : (Code.block id x).wpIn F n P (PostO B N σ h w o) ac w := by
  rw [ob_eq] at hx
  obtain ⟨o1, h1, h2⟩ := hx
  refine wpIn_block (wpIn_mono (hrec B rf N x f h o1 F σ w ac n h1 hF hrf hf hg s hm) ?_)
  rintro e a' w' ⟨he, p⟩
  obtain ⟨oe, of, oh⟩ := o1
  cases oe with
  | norm =>
    cases (show some (⟨.norm, of, oh⟩ : Out) = some o from h2)
    cases e <;> try exact he.elim
    exact ⟨he, p⟩
  | exit i =>
    have h2' : ifb (Nat.beq i id) (some (⟨.norm, of, oh⟩ : Out)) (some ⟨.exit i, of, oh⟩) = some o := h2
    cases e <;> try exact he.elim
    rename_i j
    have he' : i = j := he
    subst he'
    show if i = id then _ else _
    cases hb : Nat.beq i id with
    | true =>
      rw [hb] at h2'
      cases (show some (⟨.norm, of, oh⟩ : Out) = some o from h2')
      rw [if_pos (by simpa using hb)]
      exact ⟨trivial, p⟩
    | false =>
      rw [hb] at h2'
      cases (show some (⟨.exit i, of, oh⟩ : Out) = some o from h2')
      rw [if_neg (by intro e; rw [e] at hb; simp at hb)]
      exact ⟨rfl, p⟩
  | goto i =>
    cases (show some (⟨.goto i, of, oh⟩ : Out) = some o from h2)
    cases e <;> try exact he.elim
    exact ⟨he, p⟩
  | ret =>
    cases (show some (⟨.ret, of, oh⟩ : Out) = some o from h2)
    cases e <;> try exact he.elim
    exact ⟨he, p⟩
theorem rounds_mono {x : Code} {Q Q' : Exit → Act → World → Prop} (hq : ∀ e a w, Q e a w → Q' e a w) : ∀ (m : Nat) {a : Act} {w : World}, Code.roundsIn F n P x Q m a w → Code.roundsIn F n P x Q' m a w
  | 0, _, _, h => h
  | m + 1, a, w, h => by
    rw [roundsIn_succ] at h ⊢
    refine wpIn_mono h ?_
    intro e a' w' h'
    cases e with
    | normal => exact rounds_mono hq m h'
    | _ => exact hq _ _ _ h'
theorem rounds_ok (hrec : CodeOk P E.go) {rf : Bool} {x : Code} (hF : FenceOk F) (hrf : rf = true → F = Fence.wide) : ∀ (m : Nat) (σ : Sg) (h : Hp) (w : World) (f : Fr) (ac : Act), FrR σ N f ac.tmps → GlobR P σ → Sim σ h w → MarksOk B w ac.defers →
    loopF E.go (cc P N rf x) m f h = some o → Code.roundsIn F n P x (PostO B N σ h w o) m ac w
  | 0, σ, h, w, f, ac, hf, hg, s, hm, hx => by cases (show none = some o from hx)
  | m + 1, σ, h, w, f, ac, hf, hg, s, hm, hx => by
    change ob (E.go (cc P N rf x) f h) (lpStep (loopF E.go (cc P N rf x) m)) = some o at hx
    rw [ob_eq] at hx
    obtain ⟨o1, h1, h2⟩ := hx
    rw [roundsIn_succ]
    refine wpIn_mono (hrec B rf N x f h o1 F σ w ac n h1 hF hrf hf hg s hm) ?_
    rintro e a' w' ⟨he, σ', g1, g2, g3, g4⟩
    obtain ⟨oe, of, oh⟩ := o1
    cases oe with
    | norm =>
      cases e <;> try exact he.elim
      have ih := rounds_ok hrec hF hrf m σ' oh w' of a' g1 (hg.mono g3.le) g2 g4 h2
      exact rounds_mono (fun e a w hp => hp.trans g3) m ih
    | exit i =>
      cases (show some (⟨.exit i, of, oh⟩ : Out) = some o from h2)
      cases e <;> try exact he.elim
      exact ⟨he, σ', g1, g2, g3, g4⟩
    | goto i =>
      cases (show some (⟨.goto i, of, oh⟩ : Out) = some o from h2)
      cases e <;> try exact he.elim
      exact ⟨he, σ', g1, g2, g3, g4⟩
    | ret =>
      cases (show some (⟨.ret, of, oh⟩ : Out) = some o from h2)
      cases e <;> try exact he.elim
      exact ⟨he, σ', g1, g2, g3, g4⟩
end
end Go.Av


namespace Go.Av
variable [Tok]
variable {P : Program}
/-! ### Scopes -/
theorem stepR_scope {b : Frame} {a : Act} {k : List Item} {cs : List Frame} {w : World} {c : Code} : step P (lone (b.atR a (.code (.scope c) :: k)) cs w) = .next (lone (b.atR a (.code c :: .inScope c :: k)) cs w) :=
  step_lone_go (by simp [stepG, stepG.exec, Frame.atR])
theorem stepR_inScope {b : Frame} {a : Act} {k : List Item} {cs : List Frame} {w : World} {c : Code} : step P (lone (b.atR a (.inScope c :: k)) cs w) = .next (lone (b.atR a k) cs w) :=
  step_lone_go (by simp [stepG, stepG.exec, Frame.atR])
def ScopeQ (c : Code) (Q : Exit → Act → World → Prop) (J : Code → Act → World → Prop) : Exit → Act → World → Prop
  | .goto l, a, w => match findLabel c l with
    | some rest => J rest a w
    | none => Q (.goto l) a w
  | e, a, w => Q e a w
def scopesIn (F : Fence) (n : Nat) (P : Program) (c : Code) (Q : Exit → Act → World → Prop) : Nat → Code → Act → World → Prop
  | 0, _, _, _ => False
  | m + 1, x, a, w => x.wpIn F n P (ScopeQ c Q (scopesIn F n P c Q m)) a w
theorem wpIn_scope {F : Fence} {n : Nat} {Q : Exit → Act → World → Prop} {a : Act} {w : World} {c : Code} (m : Nat) (h : scopesIn F n P c Q m c a w) : (Code.scope c).wpIn F n P Q a w := by
  intro b k cs hro hb hr
  have key : ∀ (m : Nat) (x : Code) (a : Act) (w : World), scopesIn F n P c Q m x a w →
      ∃ e a' w', Q e a' w' ∧ ArrivesIn (Machine.fenced P F) P (lone (b.atR a (.code x :: .inScope c :: k)) cs w) b k cs e a' w' := by
    intro m
    induction m with
    | zero => intro x a w h; exact h.elim
    | succ m ih =>
      intro x a w h
      obtain ⟨e, a₁, w₁, hq, harr⟩ := h b (.inScope c :: k) cs hro hb hr
      cases e with
      | normal => exact ⟨.normal, a₁, w₁, hq, StepsIn.trans harr (.one (fenced_calm hb hr rfl) stepR_inScope)⟩
      | exit id => exact ⟨_, a₁, w₁, hq, fun k' hk => harr.1 k' (by simpa [exitTo] using hk), fun h1 h2 => harr.2 h1 (by simpa [exitTo] using h2)⟩
      | goto l =>
        cases hf : findLabel c l with
        | some rest =>
          simp only [ScopeQ, hf] at hq
          obtain ⟨e₂, a₂, w₂, hq₂, harr₂⟩ := ih rest a₁ w₁ hq
          exact ⟨e₂, a₂, w₂, hq₂, .of_steps (harr.1 _ (by simp [gotoIn, hf])) harr₂⟩
        | none =>
          simp only [ScopeQ, hf] at hq
          exact ⟨_, a₁, w₁, hq, fun k' hk => harr.1 k' (by simpa [gotoIn, hf] using hk), fun h1 h2 => harr.2 h1 (by simpa [gotoIn, hf] using h2)⟩
      | ret => exact ⟨_, a₁, w₁, hq, harr⟩
      | panic ch => exact ⟨_, a₁, w₁, hq, harr⟩
      | outgrown => exact ⟨_, a₁, w₁, hq, harr⟩
  obtain ⟨e, a', w', hq, harr⟩ := key m c a w h
  exact ⟨e, a', w', hq, .of_steps (.one (fenced_calm hb hr rfl) stepR_scope) harr⟩
theorem findLab_ok {N : Nat} {rf : Bool} (l : Nat) : ∀ (c : Code), findLab (cc P N rf c) l = (findLabel c l).map (cc P N rf) := by
  intro c
  induction c with
  | seq a b iha ihb =>
    show findLab (.seq (cc P N rf a) (cc P N rf b)) l = _
    simp only [findLab, findLabel, iha, ihb]
    cases findLabel a l <;> rfl
  | label l' =>
    show findLab (.label l') l = _
    simp only [findLab, findLabel]
    by_cases h : l' = l
    · rw [if_pos h, if_pos (by simpa using h)]; rfl
    · rw [if_neg h, if_neg (by simpa using h)]; rfl
  | region id ops d =>
    show findLab (regK P N ops d) l = _
    unfold regK
    cases ops.toList.all (fun o => dstK N o.dst) with
    | false => rfl
    | true =>
      cases d with
      | false => rfl
      | true => cases planK P N ops <;> rfl
  | cond c a b =>
    show findLab (condK P c _ _) l = _
    unfold condK
    cases co P c <;> rfl
  | rangeFunc f ps a b =>
    show findLab (rangeK P N rf f ps a b) l = _
    unfold rangeK
    cases (rf && ps.toList.all (fun p => Nat.blt p N && Nat.blt p 512)) with
    | false => rfl
    | true => cases co P f <;> rfl
  | _ => rfl
end Go.Av


namespace Go.Av
variable [Tok]
variable {P : Program}
section
variable {E : Env} {F : Fence} {B N n : Nat} {σ : Sg} {h : Hp} {w : World} {f : Fr} {ac : Act} {o : Out}
theorem scopes_mono {c : Code} {Q Q' : Exit → Act → World → Prop} (hq : ∀ e a w, Q e a w → Q' e a w) : ∀ (m : Nat) {x : Code} {a : Act} {w : World}, scopesIn F n P c Q m x a w → scopesIn F n P c Q' m x a w
  | 0, _, _, _, h => h
  | m + 1, x, a, w, h => by
    refine wpIn_mono (show x.wpIn F n P (ScopeQ c Q (scopesIn F n P c Q m)) a w from h) ?_
    intro e a' w' h'
    cases e with
    | goto l =>
      simp only [ScopeQ] at h' ⊢
      cases hf : findLabel c l with
      | some rest => rw [hf] at h'; exact scopes_mono hq m h'
      | none => rw [hf] at h'; exact hq _ _ _ h'
    | _ => exact hq _ _ _ h'
theorem scopes_ok (hrec : CodeOk P E.go) {rf : Bool} {c : Code} (hF : FenceOk F) (hrf : rf = true → F = Fence.wide) : ∀ (m : Nat) (x : Code) (σ : Sg) (h : Hp) (w : World) (f : Fr) (ac : Act), FrR σ N f ac.tmps → GlobR P σ → Sim σ h w → MarksOk B w ac.defers →
    scopeF E.go (cc P N rf c) m (cc P N rf x) f h = some o → scopesIn F n P c (PostO B N σ h w o) m x ac w
  | 0, x, σ, h, w, f, ac, hf, hg, s, hm, hx => by cases (show none = some o from hx)
  | m + 1, x, σ, h, w, f, ac, hf, hg, s, hm, hx => by
    change ob (E.go (cc P N rf x) f h) (scStep (cc P N rf c) (scopeF E.go (cc P N rf c) m)) = some o at hx
    rw [ob_eq] at hx
    obtain ⟨o1, h1, h2⟩ := hx
    refine wpIn_mono (hrec B rf N x f h o1 F σ w ac n h1 hF hrf hf hg s hm) ?_
    rintro e a' w' ⟨he, σ', g1, g2, g3, g4⟩
    obtain ⟨oe, of, oh⟩ := o1
    cases oe with
    | norm =>
      cases (show some (⟨.norm, of, oh⟩ : Out) = some o from h2)
      cases e <;> try exact he.elim
      exact ⟨he, σ', g1, g2, g3, g4⟩
    | exit i =>
      cases (show some (⟨.exit i, of, oh⟩ : Out) = some o from h2)
      cases e <;> try exact he.elim
      exact ⟨he, σ', g1, g2, g3, g4⟩
    | ret =>
      cases (show some (⟨.ret, of, oh⟩ : Out) = some o from h2)
      cases e <;> try exact he.elim
      exact ⟨he, σ', g1, g2, g3, g4⟩
    | goto l =>
      cases e <;> try exact he.elim
      rename_i l'
      have hl : l = l' := he
      subst hl
      change Option.rec (some (⟨.goto l, of, oh⟩ : Out)) (fun r => scopeF E.go (cc P N rf c) m r of oh) (findLab (cc P N rf c) l) = some o at h2
      rw [findLab_ok] at h2
      simp only [ScopeQ]
      cases hl : findLabel c l with
      | none =>
        rw [hl] at h2
        cases (show some (⟨.goto l, of, oh⟩ : Out) = some o from h2)
        exact ⟨rfl, σ', g1, g2, g3, g4⟩
      | some rest =>
        rw [hl] at h2
        exact scopes_mono (fun e a w hp => hp.trans g3) m (scopes_ok hrec hF hrf m rest σ' oh w' of a' g1 (hg.mono g3.le) g2 g4 h2)
theorem scope_ok (hrec : CodeOk P E.go) {rf : Bool} {c : Code} (hF : FenceOk F) (hrf : rf = true → F = Fence.wide) (hf : FrR σ N f ac.tmps) (hg : GlobR P σ) (s : Sim σ h w) (hm : MarksOk B w ac.defers) {m : Nat}
    (hx : scopeF E.go (cc P N rf c) m (cc P N rf c) f h = some o) : (Code.scope c).wpIn F n P (PostO B N σ h w o) ac w :=
  wpIn_scope m (scopes_ok hrec hF hrf m c σ h w f ac hf hg s hm hx)
end
end Go.Av


namespace Go.Av
variable [Tok]
variable {P : Program}
/-! ### Ranges over functions -/
def CodeCallOk (P : Program) (C : Nat → List AVal → Hp → Option (AVal × Hp)) : Prop :=
  ∀ (k : Nat) (args : List AVal) (h : Hp) (v : AVal) (h' : Hp) (σ : Sg) (w : World) (args' : Array Value), C k args h = some (v, h') → VRL σ args args'.toList → Sim σ h w → GlobR P σ →
    (callFunc k args').run P w = .ok (.enter k args') w ∧ ∀ n, CallsIn Fence.wide n P k args' w (RetR σ h w v h')
theorem asLoop_eq {x : Blk} {l : LoopA} : asLoop x = some l ↔ x = .loop l := by
  cases x with
  | loop m => show some m = some l ↔ _; simp
  | _ => show none = some l ↔ _; simp
theorem loopAt_eq {h : Hp} {l : Pos} {r : LoopA} : loopAt h l = some r ↔ h.get l = some (.loop r) := by
  unfold loopAt; rw [ob_eq]
  constructor
  · rintro ⟨x, h1, h2⟩; rw [asLoop_eq] at h2; rw [h1, h2]
  · intro h1; exact ⟨_, h1, asLoop_eq.2 rfl⟩
theorem asFn_eq {v : AVal} {g : FnV} (h : asFn v = some g) : v = .fn (.func g.k) g.a g.c := by
  unfold asFn at h
  split at h
  · cases h; rfl
  · cases h
/-- a loop's record is turned -/
theorem Sim.loop {σ : Sg} {h : Hp} {w : World} (s : Sim σ h w) {l : Pos} {I : BI} {r r' : LoopA} {R R' : Loop} (hI : σ l = some I) (hl : h.get l = some (.loop r)) (_hw : w.heap[I.cb]? = some (.loop R)) (hR : LoopR σ r' R') :
    Sim σ (h.put l (.loop r')) { w with heap := w.heap.setIfInBounds I.cb (.loop R') } ∧ Step σ h w σ (h.put l (.loop r')) { w with heap := w.heap.setIfInBounds I.cb (.loop R') } := by
  have hb := s.bound _ _ hI
  refine s.upd (st := []) hl trivial hI (fun c e => nomatch e) (x0' := .loop r') (fun c e => nomatch e) rfl (fun d => ?_) (fun d hd => nomatch hd) (by simp) (fun k hk => ?_) ⟨rfl, rfl, rfl⟩ ⟨R', ?_, hR⟩
  · by_cases e : d = l
    · subst e; rw [Hp.get_put_same, if_pos rfl]
    · rw [Hp.get_put_other _ _ _ _ e, if_neg e]; simp
  · simp [Array.getElem?_setIfInBounds_ne (Ne.symm hk)]
  · simp [hb]
theorem get_loop {w : World} {r : Nat} {R : Loop} (h : w.heap[r]? = some (.loop R)) : (Instr.getLoop r).run P w = .ok R w := by simp [Instr.getLoop, getObj, Sem.run, h]
theorem set_loop {w : World} {r : Nat} {R : Loop} (o : Obj) (h : w.heap[r]? = some (.loop R)) : (setObj r o).run P w = .ok () { w with heap := w.heap.setIfInBounds r o } := by simp [setObj, Sem.run, h]
section
variable {E : Env} {F : Fence} {B N n : Nat} {σ : Sg} {h : Hp} {w : World} {f : Fr} {ac : Act} {o : Out}
theorem wp_ret {Q : Exit → Act → World → Prop} {a : Act} {w : World} (h : Q .ret a w) : Code.ret.wpIn F n P Q a w := wpIn_ret h
theorem range_ok (hC : CodeCallOk P (codeF E.fs E.go)) {g : Operand} {g' : AOpd} {ps : Array Tmp} {a b : Code} (hw : F = Fence.wide) (hps : ∀ p ∈ ps.toList, p < N ∧ p < 512) (hg' : co P g = some g')
    (hf : FrR σ N f ac.tmps) (hg : GlobR P σ) (s : Sim σ h w) (hm : MarksOk B w ac.defers) (hx : cRange g' N (ps.toList.map slot) a b E f h = some o) : (Code.rangeFunc g ps a b).wpIn F n P (PostO B N σ h w o) ac w := by
  subst hw
  unfold cRange rangeTo at hx
  simp only [ob_eq] at hx
  obtain ⟨g1, e1, ⟨v, h1⟩, e2, e3⟩ := hx
  have e1 := asFn_eq e1
  have hv := co_ok hg' hf hg
  rw [e1] at hv
  simp only [VR, FnR] at hv
  obtain ⟨k', first', cap', hv, hk, hA, hB⟩ := hv
  subst hk
  -- the block of deferred calls
  let wA : World := { w with heap := w.heap.push (.deferred (some [])) }
  have sA : Sim σ h wA := s.wext (by simp [wA]) (fun k hk => push_lt w _ k hk)
  let R : Go.Loop := { state := .ready, pending := none, fn := 0, tmps := ac.tmps, params := ps, assign := a, body := b, defers := w.heap.size }
  refine wpIn_rangeFunc (fun fn _ => ?_)
  let R : Go.Loop := { state := .ready, pending := none, fn := fn, tmps := ac.tmps, params := ps, assign := a, body := b, defers := w.heap.size }
  let wB : World := { wA with heap := wA.heap.push (.loop R) }
  have hlr : ∀ τ : Sg, σ.le τ → LoopR τ ⟨.ready, none, N, f, ps.toList.map slot, a, b⟩ R := fun τ ht => ⟨rfl, rfl, rfl, hps, hf.mono ht, rfl, rfl⟩
  have hbn : σ h.next = none := s.fresh _ (Nat.le_refl _)
  obtain ⟨sB, tB⟩ := sA.push (I := ⟨wA.heap.size, 0, 0, 0⟩) (x := .loop ⟨.ready, none, N, f, ps.toList.map slot, a, b⟩) (.loop R) rfl ⟨R, rfl, hlr _ (Sg.le_set _ hbn)⟩ (fun c e => nomatch e)
  have hσl : (σ.set h.next ⟨wA.heap.size, 0, 0, 0⟩) h.next = some ⟨wA.heap.size, 0, 0, 0⟩ := Sg.set_same _ _ _
  have hargs : VRL (σ.set h.next ⟨wA.heap.size, 0, 0, 0⟩) (appR g1.a (.fn (.yield h.next) [] [] :: g1.c)) (first' ++ #[Value.func (.yield wA.heap.size) #[] #[]] ++ cap').toList := by
    rw [appR_eq]
    simp only [Array.toList_append, List.append_assoc]
    refine (hA.mono (Sg.le_set _ hbn)).append ((VRL.cons ?_ VRL.nil).append (hB.mono (Sg.le_set _ hbn)))
    simp only [VR, FnR]
    exact ⟨_, #[], #[], rfl, ⟨_, hσl, rfl⟩, VRL.nil, VRL.nil⟩
  have tA : Step σ h w (σ.set h.next ⟨wA.heap.size, 0, 0, 0⟩) (h.new (.loop ⟨.ready, none, N, f, ps.toList.map slot, a, b⟩)) wB :=
    ⟨tB.le, rfl, rfl, rfl, Nat.le_trans (by simp [wA]) tB.size, fun k hk ht => (tB.unt k (by simp [wA]; omega) ht).trans (push_lt w _ k hk), fun k hk ht => tB.tch k (by simp [wA]; omega) ht, tB.nx, tB.old, tB.dom, fun k hk ht c J hc e => tB.nm k (by simp [wA]; omega) ht c J hc e⟩
  obtain ⟨c1, c2⟩ := hC g1.k _ _ v h1 _ wB _ e2 hargs sB (hg.mono tB.le)
  refine ⟨wA.heap.size, [markOf w.heap.size], wB, { target := .fn (.func g1.k) cap', args := first' ++ #[Value.func (.yield wA.heap.size) #[] #[]] }, wB, g1.k, first' ++ #[Value.func (.yield wA.heap.size) #[] #[]] ++ cap', wB, ?_, ?_, fun _ _ => trivial, ?_, (fun e => nomatch e), ?_⟩
  · simp [Instr.enterLoop, Fence.wide, wA, wB, R, markOf]
  · have hcst : ∀ x : Value, ac.eval (.const x) = x := fun _ => rfl
    simp [resolve, hv, Deferred.ofValue, hcst]
  · exact c1
  · refine (c2 _).mono ?_
    rintro e w3 hr
    cases e with
    | returned v3 =>
      obtain ⟨σ3, hv3, s3, t3⟩ := hr
      unfold endR at e3
      simp only [ob_eq, loopAt_eq] at e3
      obtain ⟨r, hr1, e3⟩ := e3
      have hσ3 : σ3 h.next = some ⟨wA.heap.size, 0, 0, 0⟩ := t3.le _ _ hσl
      obtain ⟨J, hJ, R3, hR1, hR2⟩ := s3.blk _ _ hr1
      rw [hσ3] at hJ; cases hJ
      have hr2 : isBusy r.state = false ∧ afterR f (h1.put h.next (.loop { r with state := .exhausted })) r.pending = some o := by
        cases hb : isBusy r.state with
        | true => rw [hb] at e3; cases (show none = some o from e3)
        | false => rw [hb] at e3; exact ⟨rfl, e3⟩
      obtain ⟨hb, e4⟩ := hr2
      obtain ⟨s4, t4⟩ := s3.loop (R' := { R3 with state := .exhausted }) hσ3 hr1 hR1 (r' := { r with state := .exhausted }) ⟨rfl, hR2.pending, hR2.params, hR2.small, hR2.tmps, hR2.assign, hR2.body⟩
      have hnb : R3.state ≠ .busy := fun e => by rw [hR2.state] at e; rw [e] at hb; cases hb
      have tt := tA.trans (t3.trans t4)
      have hm' : MarksOk B { w3 with heap := w3.heap.setIfInBounds wA.heap.size (.loop { R3 with state := .exhausted }) } ([markOf w.heap.size] ++ ac.defers) := by
        obtain ⟨q0, rs, q1, q2, q3⟩ := hm.step s tt
        refine ⟨q0, w.heap.size :: rs, by rw [q1]; rfl, List.nodup_cons.2 ⟨fun hin => ?_, q2⟩, ?_⟩
        · have := (show ∀ r ∈ rs, B ≤ r ∧ w.heap[r]? = some (.deferred (some [])) from ?_) _ hin
          · simp at this
          · obtain ⟨_, rs', q1', _, q3'⟩ := hm
            have : rs' = rs := by
              have := q1'.symm.trans q1
              have hinj : ∀ x y, markOf x = markOf y → x = y := fun x y e => by unfold markOf at e; injection e with e; injection e
              exact List.map_inj_right hinj |>.1 this
            subst this; exact q3'
        · intro r hr
          rcases List.mem_cons.1 hr with rfl | hr
          · have hlt : w.heap.size < wB.heap.size := by simp [wB, wA]; omega
            have hB : wB.heap[w.heap.size]? = some (.deferred (some [])) := by simp [wB, wA, Array.getElem?_push]
            refine ⟨hm.1, ?_⟩
            rw [(t3.trans t4).unt _ hlt (fun ht => tch_obj sB ht _ hB)]
            exact hB
          · exact q3 r hr
      refine ⟨R3.pending, { w3 with heap := w3.heap.setIfInBounds wA.heap.size (.loop { R3 with state := .exhausted }) }, by simp [Instr.endLoop, get_loop hR1, set_loop _ hR1, hnb], ?_⟩
      have hpp := hR2.pending
      change Sim σ3 _ { w3 with heap := w3.heap.setIfInBounds wA.heap.size (.loop { R3 with state := .exhausted }) } at s4
      change Step σ h w σ3 _ { w3 with heap := w3.heap.setIfInBounds wA.heap.size (.loop { R3 with state := .exhausted }) } at tt
      generalize ({ w3 with heap := w3.heap.setIfInBounds wA.heap.size (.loop { R3 with state := .exhausted }) } : World) = wX at s4 tt hm' ⊢
      generalize h1.put h.next (.loop { r with state := .exhausted }) = hX at s4 tt e4
      generalize R3.pending = pd at hpp ⊢
      subst hpp
      have hF : FrR σ3 N f ac.tmps := hf.mono (Sg.le_trans tB.le t3.le)
      cases hp : r.pending with
      | none =>
        rw [hp] at e4
        cases (show some (⟨.norm, f, _⟩ : Out) = some o from e4)
        exact ⟨trivial, σ3, hF, s4, tt, hm'⟩
      | some c =>
        rw [hp] at e4
        cases c <;> first | (cases (show none = some o from e4)) | skip
        · rename_i i
          cases (show some (⟨.exit i, f, _⟩ : Out) = some o from e4)
          exact wpIn_exit ⟨rfl, σ3, hF, s4, tt, hm'⟩
        · rename_i i
          cases (show some (⟨.goto i, f, _⟩ : Out) = some o from e4)
          exact wpIn_goto ⟨rfl, σ3, hF, s4, tt, hm'⟩
        · cases (show some (⟨.ret, f, _⟩ : Out) = some o from e4)
          exact wpIn_ret ⟨trivial, σ3, hF, s4, tt, hm'⟩
    | panicked c => exact hr.elim
    | outgrown => exact hr.elim
end
end Go.Av


namespace Go.Av
variable [Tok]
variable {P : Program}
/-! ### Rounds -/
theorem setPar_ok {σ : Sg} {N : Nat} : ∀ (ps : List Nat) (args : List AVal) (args' : List Value) (f : Fr) (a : Array Value), (∀ p ∈ ps, p < N ∧ p < 512) → VRL σ args args' → ps.length = args.length → FrR σ N f a →
    FrR σ N (setPar (ps.map slot) args f) ((ps.zip args').foldl (fun t (x : Nat × Value) => t.setIfInBounds x.1 x.2) a)
  | [], args, args', f, a, _, _, _, hf => hf
  | p :: ps, [], args', f, a, _, _, hl, hf => by simp at hl
  | p :: ps, x :: args, args', f, a, hp, hv, hl, hf => by
    simp only [VRL] at hv
    obtain ⟨v, q, rfl, h1, h2⟩ := hv
    have := hp p (by simp)
    exact setPar_ok ps args q (f.st (slot p) x) (a.setIfInBounds p v) (fun p' h => hp p' (by simp [h])) h2 (by simpa using hl) (hf.put p this.1 this.2 h1)
theorem isReady_eq {s : LoopState} (h : isReady s = true) : s = .ready := by cases s <;> first | rfl | cases h
theorem isNorm_eq {s : Ex} (h : isNorm s = true) : s = .norm := by cases s <;> first | rfl | cases h
section
variable {E : Env} {v : AVal}
theorem end_ok {l : Pos} {I : BI} {σ : Sg} {oe : Ex} {of : Fr} {h h' : Hp} {w : World} (s : Sim σ h w) (hI : σ l = some I) (e : endRd l ⟨oe, of, h⟩ = some (v, h')) :
    ∃ v' w', (Instr.endRound I.cb (jumpOf oe)).run P w = .ok v' w' ∧ VR σ v v' ∧ Sim σ h' w' ∧ Step σ h w σ h' w' := by
  unfold endRd at e
  simp only [ob_eq, loopAt_eq] at e
  obtain ⟨r, h1, h2⟩ := e
  cases h2
  obtain ⟨J, hJ, R, hR1, hR2⟩ := s.blk _ _ h1
  rw [hI] at hJ; cases hJ
  obtain ⟨g1, g2⟩ := s.loop (r' := { r with state := ifb (jumpOf oe).isNone .ready .done, pending := jumpOf oe }) (R' := { R with state := if (jumpOf oe).isNone then .ready else .done, pending := jumpOf oe }) hI h1 hR1
    ⟨by cases (jumpOf oe).isNone <;> rfl, rfl, hR2.params, hR2.small, hR2.tmps, hR2.assign, hR2.body⟩
  exact ⟨.bool (jumpOf oe).isNone, _, by simp [Instr.endRound, get_loop hR1, set_loop _ hR1], VR_b.2 rfl, g1, g2⟩
theorem round_ok (hrec : CodeOk P E.go) : RoundOk P (roundF P E.go) := by
  intro l args h v h' σ w args' I hx hargs s hg hI
  unfold roundF at hx
  simp only [ob_eq, loopAt_eq, ifb_eq, Nat.beq_eq, lenR_eq] at hx
  obtain ⟨r, hr, hlen, o1, e1, e2⟩ := hx
  obtain ⟨J, hJ, R, hR1, hR2⟩ := s.blk _ _ hr
  rw [hI] at hJ; cases hJ
  have hps : ∀ p ∈ R.params.toList, p < r.nt ∧ p < 512 := hR2.small
  have hal := hargs.length
  rw [hR2.params, List.length_map] at hlen
  refine ⟨R.fn, (R.params.zip args').foldl (fun tmps (t, a) => tmps.setIfInBounds t a) R.tmps, R.assign, R.body, ?_, fun n => roundIn_of_wpIn trivial ?_⟩
  · have : args'.size = R.params.size := by simp only [Array.length_toList] at hal hlen; omega
    simp [Instr.yield, get_loop hR1, this]
  have hf0 : FrR σ r.nt (setPar r.params args r.tmps) ((R.params.zip args').foldl (fun tmps (t, a) => tmps.setIfInBounds t a) R.tmps) := by
    have := setPar_ok R.params.toList args args'.toList r.tmps R.tmps hps hargs hlen hR2.tmps
    rw [← hR2.params, ← Array.toList_zip, Array.foldl_toList] at this
    exact this
  rw [hR2.assign]
  refine wpIn_mono (hrec w.heap.size false r.nt r.assign _ h o1 (Fence.wide.inRound I.cb) σ w _ n e1 (.inr ⟨_, rfl⟩) (fun e => nomatch e) hf0 hg s (MarksOk.nil (Nat.le_refl _))) ?_
  rintro e a1 w1 ⟨he, σ1, g1, g2, g3, g4⟩
  obtain ⟨oe, of, oh⟩ := o1
  unfold bodyRd at e2
  simp only [ifb_eq, ob_eq, loopAt_eq] at e2
  obtain ⟨hn, r1, hr1, hrd, o2, e3, e4⟩ := e2
  have hn := isNorm_eq hn
  change oe = Ex.norm at hn
  subst hn
  cases e <;> try exact he.elim
  have hI1 := g3.le _ _ hI
  obtain ⟨J, hJ, R1, hS1, hS2⟩ := g2.blk _ _ hr1
  rw [hI1] at hJ; cases hJ
  have hrd := isReady_eq hrd
  obtain ⟨k1, k2⟩ := g2.loop (r' := { r1 with state := .busy }) (R' := { R1 with state := .busy }) hI1 hr1 hS1 ⟨rfl, hS2.pending, hS2.params, hS2.small, hS2.tmps, hS2.assign, hS2.body⟩
  show ∃ w₂, (Instr.beginRound I.cb).run P w1 = .ok () w₂ ∧ _
  refine ⟨{ w1 with heap := w1.heap.setIfInBounds I.cb (.loop { R1 with state := .busy }) }, by simp [Instr.beginRound, get_loop hS1, set_loop _ hS1, hS2.state, hrd], ?_⟩
  rw [hR2.body]
  refine wpIn_mono (hrec w.heap.size false r.nt r.body of _ o2 (Fence.wide.inRound I.cb) σ1 _ a1 n e3 (.inr ⟨_, rfl⟩) (fun e => nomatch e) g1 (hg.mono g3.le) k1 (g4.step g2 k2)) ?_
  rintro e a2 w2 ⟨he, σ2, q1, q2, q3, q4⟩
  obtain ⟨oe, of2, oh2⟩ := o2
  obtain ⟨v', w', z1, z2, z3, z4⟩ := end_ok (P := P) q2 (q3.le _ _ hI1) e4
  have hall := (g3.trans (k2.trans q3)).trans z4
  cases oe with
  | norm => cases e <;> first | exact he.elim | exact ⟨v', w', z1, σ2, z2, z3, hall⟩
  | exit i =>
    cases e <;> try exact he.elim
    have he' : i = _ := he
    subst he'
    exact ⟨v', w', z1, σ2, z2, z3, hall⟩
  | goto i =>
    cases e <;> try exact he.elim
    have he' : i = _ := he
    subst he'
    exact ⟨v', w', z1, σ2, z2, z3, hall⟩
  | ret => cases e <;> first | exact he.elim | exact ⟨v', w', z1, σ2, z2, z3, hall⟩
end
end Go.Av


namespace Go.Av
variable [Tok]
variable {P : Program}
/-! ### Calls -/
/-- marks are taken: nothing that is known of is turned -/
theorem Sim.collect {σ : Sg} {h : Hp} {w : World} (s : Sim σ h w) {r : Nat} (hr : w.heap[r]? = some (.deferred (some []))) : Sim σ h { w with heap := w.heap.setIfInBounds r (.deferred none) } := by
  have hg : ∀ b x I, h.get b = some x → σ b = some I → x ≠ .dead → I.cb ≠ r := by
    intro b x I hb hI hd e
    obtain ⟨J, hJ, hR⟩ := s.blk b x hb
    rw [hI] at hJ; cases hJ
    subst e
    cases x with
    | cells c => obtain ⟨_, _, _, h1, _⟩ := hR; rw [hr] at h1; cases h1
    | map es c => obtain ⟨_, h1, _⟩ := hR; rw [hr] at h1; cases h1
    | loop l => obtain ⟨_, h1, _⟩ := hR; rw [hr] at h1; cases h1
    | siter l n => obtain ⟨_, h1, _⟩ := hR; rw [hr] at h1; cases h1
    | dead => exact hd rfl
  refine ⟨fun b x hb => ?_, s.fresh, fun b I hI => by have := s.bound b I hI; simpa using this, s.sep, s.stl⟩
  obtain ⟨I, hI, hR⟩ := s.blk b x hb
  refine ⟨I, hI, ?_⟩
  by_cases hd : x = .dead
  · subst hd; trivial
  · have := hg b x I hb hI hd
    have e : ({ w with heap := w.heap.setIfInBounds r (.deferred none) } : World).heap[I.cb]? = w.heap[I.cb]? := by
      simp [Array.getElem?_setIfInBounds_ne (Ne.symm this)]
    rw [e]; exact hR
theorem take_deferred {w : World} {r : Nat} (hr : w.heap[r]? = some (.deferred (some []))) : (Instr.takeDeferred r).run P w = .ok [] { w with heap := w.heap.setIfInBounds r (.deferred none) } := by
  have hlt : r < w.heap.size := (Array.getElem?_eq_some_iff.1 hr).1
  simp [Instr.takeDeferred, getObj, setObj, Sem.run, hr]
def StepB (B : Nat) (σ : Sg) (h : Hp) (w : World) (σ' : Sg) (h' : Hp) (w' : World) : Prop := w.heap.size = B ∧ Step σ h w σ' h' w'
theorem leaves_ok {F : Fence} {n : Nat} {fn : Func} {tmps : Array Value} {R : Ending → World → Prop} {B : Nat} {σ σ0 : Sg} {h h0 : Hp} {w0 : World} (hB : w0.heap.size = B)
    (hR : ∀ w, Sim σ h w → Step σ0 h0 w0 σ h w → ∃ v, (results fn tmps).run P w = .ok v w ∧ R (.returned v) w) :
    ∀ (rs : List Nat) (w : World), Sim σ h w → Step σ0 h0 w0 σ h w → rs.Nodup → (∀ r ∈ rs, B ≤ r ∧ w.heap[r]? = some (.deferred (some []))) → LeavesInM F n P fn tmps R (rs.map markOf) .returning w
  | [], w, s, t, _, _ => hR w s t
  | r :: rs, w, s, t, hn, hd => by
    obtain ⟨hBr, hr⟩ := hd r (by simp)
    have hn' := List.nodup_cons.1 hn
    refine ⟨by simp, .inl ⟨r, _, rfl, take_deferred hr, ?_⟩⟩
    refine leaves_ok hB hR rs _ (s.collect hr) ⟨t.le, t.os, t.tape, t.output, by simpa using t.size, fun k hk ht => ?_, t.tch, t.nx, t.old, t.dom, t.nm⟩ hn'.2 (fun q hq => ⟨(hd q (by simp [hq])).1, ?_⟩)
    · rw [← t.unt k hk ht]
      have : r ≠ k := by omega
      simp [Array.getElem?_setIfInBounds_ne this]
    · have : r ≠ q := fun e => hn'.1 (by rw [e]; exact hq)
      rw [← (hd q (by simp [hq])).2]
      simp [Array.getElem?_setIfInBounds_ne this]
def resOf (tmps : Array Value) : ResultVar → Sem Value
  | .tmp t => pure (tmps.getD t undef)
  | .cell a t => do loadVar t (← asAddr (tmps.getD a undef))
theorem res_ok {σ : Sg} {N : Nat} {f : Fr} {h : Hp} {tmps : Array Value} {w : World} (hf : FrR σ N f tmps) (s : Sim σ h w) : ∀ {r : List ResultVar} {l : List ARes} {v : List AVal}, resK P r = some l → ressA f h l = some v →
    ∃ v', (r.mapM (resOf tmps)).run P w = .ok v' w ∧ VRL σ v v'
  | [], l, v, hl, hv => by
    cases (show some [] = some l from hl)
    cases (show some [] = some v from hv)
    exact ⟨[], rfl, VRL.nil⟩
  | .tmp t :: r, l, v, hl, hv => by
    simp only [resK] at hl
    cases ht : Nat.blt t 512 with
    | false => rw [ht] at hl; cases hl
    | true =>
      rw [ht] at hl
      simp only [cond_true] at hl
      cases hk : resK P r with
      | none => rw [hk] at hl; cases hl
      | some q =>
        rw [hk] at hl
        cases hl
        change ob (some (f.gt (slot t))) (fun v => ob (ressA f h q) fun vs => some (v :: vs)) = some v at hv
        simp only [ob_eq] at hv
        obtain ⟨y, hy, vs, h1, h2⟩ := hv
        cases hy; cases h2
        obtain ⟨v', g1, g2⟩ := res_ok hf s hk h1
        refine ⟨tmps.getD t undef :: v', ?_, VRL.cons (hf.2 t (by simpa using ht)) g2⟩
        simp [List.mapM_cons, resOf, g1]
  | .cell a t :: r, l, v, hl, hv => by
    simp only [resK] at hl
    cases ht : Nat.blt a 512 with
    | false => rw [ht] at hl; cases hl
    | true =>
      rw [ht] at hl
      simp only [Bool.not_true, cond_false] at hl
      have hfa := hf.2 a (by simpa using ht)
      cases hag : aggK P t with
      | none => rw [hag] at hl; simp at hl
      | some agg =>
        rw [hag] at hl
        cases hk : resK P r with
        | none => rw [hk] at hl; cases agg <;> simp at hl
        | some q =>
          have key : ∃ n, l = .cell (slot a) agg n :: q ∧ (agg = true → ∃ m, infoK P t = some (n, m)) ∧ (agg = false → n = 1) := by
            rw [hk] at hl
            cases agg with
            | false => cases hl; exact ⟨1, rfl, (fun e => nomatch e), fun _ => rfl⟩
            | true =>
              cases hi : infoK P t with
              | none => rw [hi] at hl; simp at hl
              | some p => obtain ⟨n, m⟩ := p; rw [hi] at hl; cases hl; exact ⟨n, rfl, fun _ => ⟨m, rfl⟩, (fun e => nomatch e)⟩
          obtain ⟨n, rfl, hn1, hn2⟩ := key
          change ob (resA f h (.cell (slot a) agg n)) (fun v => ob (ressA f h q) fun vs => some (v :: vs)) = some v at hv
          simp only [ob_eq, resA, asP_eq] at hv
          obtain ⟨y, ⟨ad, h3, cs, h4, h5⟩, vs, h1, h2⟩ := hv
          cases h2
          obtain ⟨v', g1, g2⟩ := res_ok hf s hk h1
          rw [h3, VR_p_some] at hfa
          obtain ⟨I, hI, hfa⟩ := hfa
          obtain ⟨arr, el, fz, k1, k2, k3⟩ := s.read hI h4
          have hcell : ∃ y', (do loadVar t (← asAddr (tmps.getD a undef)) : Sem Value).run P w = .ok y' w ∧ VR σ y y' := by
            rcases pack_ok h5 k2 with ⟨rfl, k4⟩ | ⟨rfl, y', k4, k5⟩
            · obtain ⟨m, hm⟩ := hn1 rfl
              obtain ⟨i, h7, h8, _⟩ := infoK_eq hm
              refine ⟨_, ?_, k4⟩
              have := loadCells_ok (P := P) k1 k3
              simp [hfa, asAddr, loadVar, aggK_true hag, r_sizeOf h7, h8, this]
            · refine ⟨y', ?_, k5⟩
              have hc : w.cell? ⟨I.cb, I.co + ad.2, none⟩ = some y' := by
                rw [cell_of k1]
                have := congrArg (fun l => l[0]?) k4
                rw [hn2 rfl] at this
                simpa using this
              simp [hfa, asAddr, loadVar, aggK_false hag, hc]
          obtain ⟨y', q1, q2⟩ := hcell
          refine ⟨y' :: v', ?_, VRL.cons q2 g2⟩
          simp only [List.mapM_cons, resOf, Sem.run_bind, Result.andThen_ok, g1, Sem.run_pure]
          simp only [Sem.run_bind] at q1
          rw [q1]; simp [g1]
theorem results_ok {σ : Sg} {N : Nat} {f : Fr} {h : Hp} {tmps : Array Value} {w : World} (hf : FrR σ N f tmps) (s : Sim σ h w) {fn : Func} {l : List ARes} {v : List AVal} (hl : resK P fn.results.toList = some l) (hv : ressA f h l = some v) :
    ∃ v', (results fn tmps).run P w = .ok v' w ∧ VR σ (retA v) v' := by
  obtain ⟨vs, h1, h2⟩ := res_ok (P := P) hf s hl hv
  have hrun : ∃ v', (results fn tmps).run P w = .ok v' w ∧ v' = if h : vs.toArray.size = 1 then vs.toArray[0] else .tuple vs.toArray := by
    refine ⟨_, ?_, rfl⟩
    simp only [results, Array.mapM_eq_mapM_toList, Sem.run_bind, Sem.run_map]
    change ((Sem.run P (List.mapM (resOf tmps) fn.results.toList) w).andThen _).andThen _ = _
    rw [h1]
    rfl
  obtain ⟨v', g1, g2⟩ := hrun
  refine ⟨v', g1, ?_⟩
  subst g2
  cases v with
  | nil =>
    simp only [VRL] at h2; subst h2
    show VR σ (.tu []) _
    simp only [VR]; exact ⟨#[], rfl, VRL.nil⟩
  | cons x r =>
    obtain ⟨y, q, rfl, h4, h5⟩ := (by simpa only [VRL] using h2)
    cases r with
    | nil => simp only [VRL] at h5; subst h5; exact h4
    | cons x2 r =>
      obtain ⟨y2, q2, rfl, h6, h7⟩ := (by simpa only [VRL] using h5)
      show VR σ (.tu (x :: x2 :: r)) _
      simp only [VR]
      exact ⟨_, by simp, VRL.cons h4 (VRL.cons h6 h7)⟩
end Go.Av


namespace Go.Av
variable [Tok]
variable {P : Program}
/-- what is told of a function that is known by what it computes -/
def SemOk (P : Program) (k : Nat) (g : List AVal → Hp → Option (AVal × Hp)) : Prop :=
  ∀ (args : List AVal) (h : Hp) (v : AVal) (h' : Hp) (σ : Sg) (w : World) (args' : Array Value), g args h = some (v, h') → VRL σ args args'.toList → Sim σ h w → GlobR P σ →
    ((callFunc k args').run P w = .ok (.enter k args') w ∧ ∀ n, CallsIn Fence.wide n P k args' w (RetR σ h w v h')) ∨
    ∃ v' w', (callFunc k args').run P w = .ok (.value v') w' ∧ ∃ σ', VR σ' v v' ∧ Sim σ' h' w' ∧ Step σ h w σ' h' w'
inductive FunOk (P : Program) (k : Nat) : AFun → Prop
  | code {fn : Func} {c : Code} {m : Nat} {res : List ARes} {body : ACode} (hf : P.funcs[k]? = some fn) (hb : fn.body = some c) (hn : (fn.name == "runtime.NumGoroutine") = false) (hm : (Nat.ble m 40 && Nat.ble m fn.ntmps) = true)
      (hr : resK P fn.results.toList = some res) (hc : cc P fn.ntmps true c = body) : FunOk P k (.code m res body)
  | sem {g : List AVal → Hp → Option (AVal × Hp)} (h : SemOk P k g) : FunOk P k (.sem g)
def FsOk (P : Program) (fs : Nat → Option AFun) : Prop := ∀ k fn, fs k = some fn → FunOk P k fn
theorem args_ok {σ : Sg} {N : Nat} {args : List AVal} {args' : Array Value} (hv : VRL σ args args'.toList) (h40 : args.length ≤ 40) (hN : args.length ≤ N) :
    FrR σ N (setPar argSlots args Fr.none) (args' ++ Array.replicate (N - args'.size) undef) := by
  have hl := hv.length
  simp only [Array.length_toList] at hl
  have key : ∀ (n : Nat) (i : Nat) (args : List AVal) (vs : List Value) (f : Fr), i + n = 40 → VRL σ args vs → args.length ≤ n →
      ∀ t, t < 512 → (setPar ((List.range' i n).map slot) args f).gt (slot t) = (if i ≤ t ∧ t < i + args.length then args.getD (t - i) undefA else f.gt (slot t)) := by
    intro n
    induction n with
    | zero =>
      intro i args vs f _ _ hl t ht
      have : args = [] := by cases args with | nil => rfl | cons _ _ => simp at hl
      subst this
      simp only [List.range'_zero, List.map_nil, List.length_nil, Nat.add_zero]
      rw [if_neg (by omega)]; rfl
    | succ n ih =>
      intro i args vs f hi hv hl t ht
      cases args with
      | nil =>
        simp only [List.range'_succ, List.map_cons, List.length_nil, Nat.add_zero]
        rw [if_neg (by omega)]; rfl
      | cons x r =>
        simp only [VRL] at hv
        obtain ⟨v, q, rfl, h1, h2⟩ := hv
        simp only [List.range'_succ, List.map_cons]
        show (setPar ((List.range' (i + 1) n).map slot) r (f.st (slot i) x)).gt (slot t) = _
        rw [ih (i + 1) r q (f.st (slot i) x) (by omega) h2 (by simpa using hl) t ht]
        by_cases e : t = i
        · subst e
          rw [if_neg (by omega), if_pos (by simp), Fr.gt_same]; simp
        · by_cases e2 : i + 1 ≤ t ∧ t < i + 1 + r.length
          · rw [if_pos e2, if_pos (by simp; omega)]
            rw [show t - i = (t - (i + 1)) + 1 by omega]; simp
          · rw [if_neg e2, if_neg (by simp; omega), Fr.gt_other]
            intro e3
            have := slot_inj ht (by omega) e3
            exact e this
  refine ⟨by simp; omega, fun t ht => ?_⟩
  have := key 40 0 args args'.toList Fr.none rfl hv h40 t ht
  have h' : setPar argSlots args Fr.none = setPar ((List.range' 0 40).map slot) args Fr.none := by rw [← List.range_eq_range']; rfl
  rw [h', this]
  by_cases e : t < args.length
  · rw [if_pos (by omega)]
    obtain ⟨y, h1, h2⟩ := hv.get t (args.getD t undefA) (by simp [List.getD, e])
    have h3 : t < args'.size := by omega
    rw [Array.getElem?_toList] at h1
    have : (args' ++ Array.replicate (N - args'.size) undef).getD t undef = y := by
      simp [Array.getD_eq_getD_getElem?, Array.getElem?_append, h3]
      simpa [h3] using h1
    rw [this]; simpa using h2
  · rw [if_neg (by omega), Fr.gt_none]
    have : (args' ++ Array.replicate (N - args'.size) undef).getD t undef = undef := by
      have h3 : ¬ t < args'.size := by omega
      simp only [Array.getD_eq_getD_getElem?, Array.getElem?_append, h3, if_false, Array.getElem?_replicate]
      split <;> rfl
    rw [this]; exact VR_undef
theorem code_call_ok {fs : Nat → Option AFun} {rec : Rec} (hfs : FsOk P fs) (hrec : CodeOk P rec) : CodeCallOk P (codeF fs rec) := by
  intro k args h v h' σ w args' hx hargs s hg
  unfold codeF at hx
  rw [ob_eq] at hx
  obtain ⟨fn, h1, h2⟩ := hx
  cases fn with
  | sem g => cases (show none = some (v, h') from h2)
  | code m res body =>
    change ifb (Nat.ble (lenR args) m) (ob (rec body (setPar argSlots args Fr.none) h) (finish res)) none = some (v, h') at h2
    rw [ifb_eq, ob_eq, lenR_eq] at h2
    obtain ⟨hle, o, h3, h4⟩ := h2
    have hok := hfs k _ h1
    cases hok with
    | code hf hb hn hm hr hc =>
      rename_i fn c
      subst hc
      simp only [Bool.and_eq_true, Nat.ble_eq] at hm hle
      have hal := hargs.length
      simp only [Array.length_toList] at hal
      refine ⟨?_, fun n => ?_⟩
      · have hn' : ¬ fn.name = "runtime.NumGoroutine" := by simpa using hn
        simp [callFunc, hf, hn', hb]
      · refine callsIn_of_wp_marks hf hb trivial ?_
        have hf0 : FrR σ fn.ntmps (setPar argSlots args Fr.none) (args' ++ Array.replicate (fn.ntmps - args'.size) undef) := args_ok hargs (by omega) (by omega)
        refine wpIn_mono (hrec w.heap.size true fn.ntmps c _ h o Fence.wide σ w _ n h3 (.inl rfl) (fun _ => rfl) hf0 hg s (MarksOk.nil (Nat.le_refl _))) ?_
        rintro e a1 w1 ⟨he, σ1, g1, g2, g3, g0, rs, q1, q2, q3⟩
        have key : ∀ vs, ressA o.f o.h res = some vs → (v, h') = (retA vs, o.h) → LeavesInM Fence.wide n P fn a1.tmps (RetR σ h w v h') a1.defers .returning w1 := by
          intro vs hvs e
          cases e
          rw [q1]
          refine leaves_ok (B := w.heap.size) rfl (fun w2 s2 t2 => ?_) rs w1 g2 g3 q2 q3
          obtain ⟨v', z1, z2⟩ := results_ok (P := P) g1 s2 hr hvs
          exact ⟨v', z1, σ1, z2, s2, t2⟩
        obtain ⟨oe, of, oh⟩ := o
        cases oe with
        | norm =>
          cases e <;> try exact he.elim
          change ob (ressA of oh res) (fun l => some (retA l, oh)) = some (v, h') at h4
          rw [ob_eq] at h4
          obtain ⟨vs, hvs, e⟩ := h4
          exact key vs hvs (Option.some.inj e).symm
        | ret =>
          cases e <;> try exact he.elim
          change ob (ressA of oh res) (fun l => some (retA l, oh)) = some (v, h') at h4
          rw [ob_eq] at h4
          obtain ⟨vs, hvs, e⟩ := h4
          exact key vs hvs (Option.some.inj e).symm
        | exit i => cases (show none = some (v, h') from h4)
        | goto i => cases (show none = some (v, h') from h4)
theorem call_ok {fs : Nat → Option AFun} {rec : Rec} (hfs : FsOk P fs) (hrec : CodeOk P rec) : CallOk P (callF fs rec) := by
  intro k args h v h' σ w args' hx hargs s hg
  have hx' := hx
  unfold callF at hx
  rw [ob_eq] at hx
  obtain ⟨fn, h1, h2⟩ := hx
  cases fn with
  | sem g =>
    cases hfs k _ h1 with
    | sem hs => exact hs args h v h' σ w args' h2 hargs s hg
  | code m res body => exact .inl (code_call_ok hfs hrec k args h v h' σ w args' (by unfold codeF; rw [h1]; exact h2) hargs s hg)
end Go.Av


namespace Go.Av
variable [Tok]
variable {P : Program}
/-! ### An operation looks at its operands only -/
def AOp.same (f f' : Fr) : AOp → Prop
  | .calc g => ∀ h, g f h = g f' h
  | .read g => ∀ h, g f h = g f' h
  | .make g => ∀ b, g f b = g f' b
  | .turn g => ∀ h, g f h = g f' h
def Lk (f f' : Fr) (l : List Slot) : Prop := ∀ p ∈ l, f.gt p = f'.gt p
theorem mem_looksO {t : Nat} : ∀ {l : List Operand}, Operand.tmp t ∈ l → slot t ∈ looksO l
  | .tmp u :: r, h => by
    rcases List.mem_cons.1 h with h | h
    · cases h; exact List.mem_cons_self
    · exact List.mem_cons_of_mem _ (mem_looksO h)
  | .const v :: r, h => by
    rcases List.mem_cons.1 h with h | h
    · cases h
    · exact mem_looksO (l := r) h
  | .global v :: r, h => by
    rcases List.mem_cons.1 h with h | h
    · cases h
    · exact mem_looksO (l := r) h
  | .func v :: r, h => by
    rcases List.mem_cons.1 h with h | h
    · cases h
    · exact mem_looksO (l := r) h
theorem ev_same {f f' : Fr} {l : List Operand} (ha : Lk f f' (looksO l)) (x : Operand) (x' : AOpd) (hm : x ∈ l) (h : co P x = some x') : ev f x' = ev f' x' := by
  cases x with
  | tmp t =>
    simp only [co] at h
    cases ht : Nat.blt t 512 with
    | false => rw [ht] at h; cases h
    | true => rw [ht] at h; cases h; exact ha _ (mem_looksO hm)
  | const v =>
    simp only [co] at h
    split at h
    · cases h; rfl
    · cases h
  | global g =>
    simp only [co] at h
    cases ht : Nat.blt g P.globals.size with
    | false => rw [ht] at h; cases h
    | true => rw [ht] at h; cases h; rfl
  | func g => simp only [co] at h; cases h; rfl
theorem evL_same {f f' : Fr} {l : List Operand} (ha : Lk f f' (looksO l)) : ∀ (xs : List Operand) (xs' : List AOpd), (∀ x ∈ xs, x ∈ l) → cos P xs = some xs' → evL f xs' = evL f' xs'
  | [], xs', _, h => by cases h; rfl
  | x :: r, xs', hm, h => by
    simp only [cos] at h
    split at h
    · rename_i a hx
      split at h
      · rename_i q hq
        cases h
        show ev f a :: evL f q = ev f' a :: evL f' q
        rw [ev_same ha x a (hm x (by simp)) hx, evL_same ha r q (fun y hy => hm y (by simp [hy])) hq]
      · cases h
    · cases h
theorem evO_same {f f' : Fr} {l : List Operand} (ha : Lk f f' (looksO l)) (x : Option Operand) (x' : Option AOpd) (hm : ∀ y, x = some y → y ∈ l) (h : coO P x = some x') (d m : Nat) : bound f x' d m = bound f' x' d m := by
  cases x with
  | none => cases h; rfl
  | some y =>
    simp only [coO] at h
    split at h
    · rename_i a hy
      cases h
      show ob (asI (ev f a)) _ = ob (asI (ev f' a)) _
      rw [ev_same ha y a (hm y rfl) hy]
    · cases h
theorem fill_same {f f' : Fr} {l : List Operand} (ha : Lk f f' (looksO l)) {place : Nat → Option (Nat × Nat)} : ∀ (ps : List (Nat × Operand)) (ps' : List Part), (∀ x ∈ ps, x.2 ∈ l) → partsK P place ps = some ps' → ∀ z, fill f ps' z = fill f' ps' z
  | [], ps', _, h, z => by cases h; rfl
  | (i, x) :: r, ps', hm, h, z => by
    simp only [partsK] at h
    split at h
    · rename_i o n a q _ hx hq
      cases h
      have e := ev_same ha x a (hm (i, x) (by simp)) hx
      have ih := fill_same ha r q (fun y hy => hm y (by simp [hy])) hq
      show ifb (Nat.beq (lenR (ev f a).cells) n) (ob (layR (ev f a).cells o z) (fill f q)) none = ifb (Nat.beq (lenR (ev f' a).cells) n) (ob (layR (ev f' a).cells o z) (fill f' q)) none
      rw [e, show fill f q = fill f' q from funext ih]
    · cases h
section
variable {f f' : Fr} {l : List Operand}
theorem binK_same {op : BinOp} {q : EqK} {x y : AOpd} (hx : ev f x = ev f' x) (hy : ev f y = ev f' y) : AOp.same f f' (binK op q x y) := by
  cases op <;> intro h <;> simp only [twoT, kAdd, kSub, kMul, kQuo, kRem, kBit, kShl, kShr, kLss, kLeq, kGtr, kGeq, kEql, kNeq, hx, hy]
theorem bltK_same {b : Builtin} {ts : List TypeId} {xs : List Operand} {as : List AOpd} {a : AOp} (has : cos P xs = some as) (hE : ∀ y ∈ as, ev f y = ev f' y) (hL : ∀ q, (∀ y ∈ q, y ∈ as) → evL f q = evL f' q) (h : bltK P b ts as = some a) : AOp.same f f' a := by
  unfold bltK at h
  split at h
  · split at h
    · split at h
      · simp only [cond_eq_ite] at h
        split at h
        · split at h
          · split at h
            · cases h; intro h; simp only [kAppendZ, hE _ (List.mem_cons_self), hE _ (List.mem_cons_of_mem _ List.mem_cons_self)]
            · cases h
          · cases h; intro h; simp only [kAppend, hE _ (List.mem_cons_self), hE _ (List.mem_cons_of_mem _ List.mem_cons_self)]
          · split at h
            · cases h; intro h; simp only [kAppend, hE _ (List.mem_cons_self), hE _ (List.mem_cons_of_mem _ List.mem_cons_self)]
            · cases h
          · cases h
        · cases h
      · cases h
    · cases h
  · split at h
    · cases h; intro h; simp only [kLenS, lenT, hE _ (List.mem_cons_self)]
    · cases h; intro h; simp only [kLen, hE _ (List.mem_cons_self)]
    · cases h; intro h; simp only [kLenMap, hE _ (List.mem_cons_self)]
    · cases h
  · split at h
    · cases h; intro h; simp only [kCap, hE _ (List.mem_cons_self)]
    · cases h
  · split at h
    · split at h
      · simp only [cond_eq_ite] at h
        split at h
        · cases h; intro h; simp only [kClear, hE _ (List.mem_cons_self)]
        · cases h
      · cases h
    · cases h
  · split at h
    · cases h; intro h; simp only [kCopy, hE _ (List.mem_cons_self), hE _ (List.mem_cons_of_mem _ List.mem_cons_self)]
    · cases h
  · cases h; intro h; simp only [kMax, hE _ (List.mem_cons_self), hL _ (fun y hy => List.mem_cons_of_mem _ hy)]
  · cases h; intro h; simp only [kMin, hE _ (List.mem_cons_self), hL _ (fun y hy => List.mem_cons_of_mem _ hy)]
  · cases h
end
end Go.Av


namespace Go.Av
variable [Tok]
variable {P : Program}
theorem evL_of {f f' : Fr} : ∀ {q : List AOpd}, (∀ y ∈ q, ev f y = ev f' y) → evL f q = evL f' q
  | [], _ => rfl
  | y :: r, h => by
    show ev f y :: evL f r = ev f' y :: evL f' r
    rw [h y (by simp), evL_of (fun z hz => h z (by simp [hz]))]
theorem cos_mem : ∀ {xs : List Operand} {as : List AOpd}, cos P xs = some as → ∀ y ∈ as, ∃ x ∈ xs, co P x = some y
  | [], as, h, y, hy => by cases h; cases hy
  | x :: r, as, h, y, hy => by
    simp only [cos] at h
    split at h
    · rename_i a hx
      split at h
      · rename_i q hq
        cases h
        rcases List.mem_cons.1 hy with rfl | hy
        · exact ⟨x, by simp, hx⟩
        · obtain ⟨z, h1, h2⟩ := cos_mem hq y hy
          exact ⟨z, by simp [h1], h2⟩
      · cases h
    · cases h
theorem cop_same {o : Op} {a : AOp} {f f' : Fr} (h : cop P o = some a) (ha : Lk f f' (looksO o.operands.toList)) : AOp.same f f' a := by
  have E := fun x x' => ev_same (P := P) ha x x'
  have EL := fun xs xs' => evL_same (P := P) ha xs xs'
  have EO := fun x x' => evO_same (P := P) ha x x'
  have EF := fun place ps ps' => fill_same (P := P) ha (place := place) ps ps'
  clear ha
  cases o with
  | move x =>
    simp only [cop] at h
    split at h
    · rename_i hx; cases h; intro _; simp only [kMov, E x _ (by simp [Op.operands]) hx]
    · cases h
  | assign x =>
    simp only [cop] at h
    split at h
    · rename_i hx; cases h; intro _; simp only [kMov, E x _ (by simp [Op.operands]) hx]
    · cases h
  | pick c x y =>
    simp only [cop] at h
    split at h
    · rename_i h1 h2 h3; cases h; intro _; simp only [kPick, E c _ (by simp [Op.operands]) h1, E x _ (by simp [Op.operands]) h2, E y _ (by simp [Op.operands]) h3]
    · cases h
  | alloc t =>
    simp only [cop] at h
    split at h
    · cases h; intro _; rfl
    · cases h
  | box t x =>
    simp only [cop] at h
    split at h
    · rename_i h1; cases h; intro _; simp only [kBox, E x _ (by simp [Op.operands]) h1]
    · cases h
  | build t ps =>
    simp only [cop] at h
    split at h
    · split at h
      · split at h
        · split at h
          · rename_i l hl; cases h; intro _; simp only [kBuild, EF _ _ l (fun x hx => by simp [Op.operands]; exact ⟨x.1, by simpa using hx⟩) hl]
          · cases h
        · cases h
      · split at h
        · split at h
          · rename_i l hl; cases h; intro _; simp only [kBuild, EF _ _ l (fun x hx => by simp [Op.operands]; exact ⟨x.1, by simpa using hx⟩) hl]
          · cases h
        · cases h
      · cases h
    · cases h
  | buildSlice t len ps =>
    simp only [cop] at h
    split at h
    · split at h
      · split at h
        · rename_i l hl
          simp only [cond_eq_ite] at h
          split at h
          · cases h; intro _; simp only [kBuildSl, EF _ _ l (fun x hx => by simp [Op.operands]; exact ⟨x.1, by simpa using hx⟩) hl]
          · cases h
        · cases h
      · cases h
    · cases h
  | load t x =>
    simp only [cop] at h
    split at h
    · rename_i h1; cases h; intro _; simp only [kLoad, E x _ (by simp [Op.operands]) h1]
    · rename_i h1; cases h; intro _; simp only [kLoad, E x _ (by simp [Op.operands]) h1]
    · cases h
  | store t x y =>
    simp only [cop] at h
    split at h
    · rename_i h1 h2; cases h; intro _; simp only [kStore, E x _ (by simp [Op.operands]) h1, E y _ (by simp [Op.operands]) h2]
    · cases h
  | nilCheck x =>
    simp only [cop] at h
    split at h
    · rename_i h1; cases h; intro _; simp only [kNilck, E x _ (by simp [Op.operands]) h1]
    · cases h
  | binOp op t x y u =>
    simp only [cop] at h
    split at h
    · rename_i h1 h2; cases h; exact binK_same (E x _ (by simp [Op.operands]) h1) (E y _ (by simp [Op.operands]) h2)
    · cases h
  | unOp op t x =>
    simp only [cop] at h
    split at h
    · rename_i h1; cases h; intro _; simp only [kUn, E x _ (by simp [Op.operands]) h1]
    · cases h
  | convert s d x =>
    simp only [cop] at h
    split at h
    · rename_i h1; cases h; intro _; simp only [kInt, E x _ (by simp [Op.operands]) h1]
    · rename_i h1; cases h; intro _; simp only [kStr, E x _ (by simp [Op.operands]) h1]
    · rename_i h1
      split at h
      · cases h; intro _; simp only [kToBytes, E x _ (by simp [Op.operands]) h1]
      · cases h
    · rename_i h1
      split at h
      · cases h; intro _; simp only [kToStr, E x _ (by simp [Op.operands]) h1]
      · cases h
    · cases h
  | makeInterface t x =>
    simp only [cop] at h
    split at h
    · cases h
    · rename_i h1; cases h; intro _; simp only [kIface, E x _ (by simp [Op.operands]) h1]
    · cases h
  | makeFunc fn xs ys =>
    cases fn with
    | func g =>
      simp only [cop] at h
      split at h
      · rename_i h1 h2; cases h; intro _; simp only [kFunc, EL _ _ (fun x hx => by simp only [Op.operands, Array.toList_append]; exact List.mem_append_left _ hx) h1, EL _ _ (fun x hx => by simp only [Op.operands, Array.toList_append]; exact List.mem_append_right _ hx) h2]
      · cases h
    | _ => simp only [cop] at h; cases h
  | makeMap t r =>
    cases r with
    | none => simp only [cop] at h; cases h; intro _; rfl
    | some x => simp only [cop] at h; cases h
  | makeSlice t x y =>
    simp only [cop] at h
    split at h
    · rename_i h1 h2
      split at h
      · simp only [cond_eq_ite] at h
        split at h
        · cases h; intro _; simp only [kMkSl, E x _ (by simp [Op.operands]) h1, E y _ (by simp [Op.operands]) h2]
        · cases h
      · cases h
    · cases h
  | slice t x lo hi mx =>
    simp only [cop] at h
    split at h
    · rename_i x' lo' hi' mx' h1 h2 h3 h4
      have e1 := E x _ (by simp [Op.operands]) h1
      have e2 := EO lo _ (fun y hy => by simp [Op.operands, hy]) h2
      have e3 := EO hi _ (fun y hy => by simp [Op.operands, hy]) h3
      have e4 := EO mx _ (fun y hy => by simp [Op.operands, hy]) h4
      split at h
      · split at h
        · cases h; intro _; simp only [kSliceStr, e1, e2, e3]
        · cases h
      · split at h
        · split at h
          · cases h
          · cases h; intro _; simp only [kSlice, e1, e2, e3, e4]
        · cases h
      · split at h
        · cases h; intro _; simp only [kSliceArr, e1, e2, e3]
        · cases h
      · cases h
    · cases h
  | fieldAddr t x j =>
    simp only [cop] at h
    split at h
    · rename_i h1
      split at h
      · split at h
        · cases h; intro _; simp only [kFieldAddr, E x _ (by simp [Op.operands]) h1]
        · cases h
      · cases h
    · cases h
  | field t x j =>
    simp only [cop] at h
    split at h
    · rename_i h1
      split at h
      · split at h
        · cases h; intro _; simp only [kField, E x _ (by simp [Op.operands]) h1]
        · cases h; intro _; simp only [kField, E x _ (by simp [Op.operands]) h1]
        · cases h
      · cases h
    · cases h
  | indexAddr t x y =>
    simp only [cop] at h
    split at h
    · rename_i h1 h2
      split at h
      · cases h; intro _; simp only [kIndexArr, E x _ (by simp [Op.operands]) h1, E y _ (by simp [Op.operands]) h2]
      · cases h
    · rename_i h1 h2
      split at h
      · cases h; intro _; simp only [kIndexSl, E x _ (by simp [Op.operands]) h1, E y _ (by simp [Op.operands]) h2]
      · cases h
    · cases h
  | index t x y =>
    simp only [cop] at h
    split at h
    · rename_i h1 h2
      cases h; intro _; simp only [kIndexStr, E x _ (by simp [Op.operands]) h1, E y _ (by simp [Op.operands]) h2]
    · rename_i h1 h2
      split at h
      · cases h; intro _; simp only [kIndexVal, E x _ (by simp [Op.operands]) h1, E y _ (by simp [Op.operands]) h2]
      · cases h; intro _; simp only [kIndexVal, E x _ (by simp [Op.operands]) h1, E y _ (by simp [Op.operands]) h2]
      · cases h
    · cases h
  | lookup t x y ok =>
    simp only [cop] at h
    split at h
    · rename_i h1 h2
      split at h
      · cases h; intro _; simp only [kLookup, E x _ (by simp [Op.operands]) h1, E y _ (by simp [Op.operands]) h2]
      · cases h
    · cases h
  | mapUpdate t x y z =>
    simp only [cop] at h
    split at h
    · rename_i h1 h2 h3
      split at h
      · cases h; intro _; simp only [kUpdate, E x _ (by simp [Op.operands]) h1, E y _ (by simp [Op.operands]) h2, E z _ (by simp [Op.operands]) h3]
      · cases h
    · cases h
  | mapEntry t x y =>
    simp only [cop] at h
    split at h
    · rename_i h1 h2
      split at h
      · cases h; intro _; simp only [kEntry, E x _ (by simp [Op.operands]) h1, E y _ (by simp [Op.operands]) h2]
      · cases h
    · cases h
  | entryStore t x y z =>
    simp only [cop] at h
    split at h
    · rename_i h1 h2 h3
      cases h; intro _; simp only [kEntrySt, E x _ (by simp [Op.operands]) h1, E y _ (by simp [Op.operands]) h2, E z _ (by simp [Op.operands]) h3]
    · cases h
  | range t x =>
    simp only [cop] at h
    split at h
    · rename_i h1; cases h; intro _; simp only [kRange, E x _ (by simp [Op.operands]) h1]
    · cases h
  | next x b =>
    cases b with
    | false => simp only [cop] at h; cases h
    | true =>
      simp only [cop] at h
      split at h
      · rename_i h1; cases h; intro _; simp only [kNext, E x _ (by simp [Op.operands]) h1]
      · cases h
  | extract x j =>
    simp only [cop] at h
    split at h
    · rename_i h1; cases h; intro _; simp only [kExtract, E x _ (by simp [Op.operands]) h1]
    · cases h
  | call c =>
    simp only [cop] at h
    split at h
    · rename_i g as hc has
      split at h
      · rename_i h1; cases h; intro _; simp only [kCall, E g _ (by simp [Op.operands, Call.operands, hc]) h1, EL _ _ (fun x hx => by simp [Op.operands, Call.operands, hc]; right; simpa using hx) has]
      · cases h
    · rename_i b as hc has
      have hm : ∀ y ∈ as, ev f y = ev f' y := fun y hy => by
        obtain ⟨x, h1, h2⟩ := cos_mem has y hy
        exact E x y (by simp [Op.operands, Call.operands, hc]; simpa using h1) h2
      exact bltK_same has hm (fun q hq => evL_of (fun y hy => hm y (hq y hy))) h
    · cases h
  | _ => simp only [cop] at h; cases h
end Go.Av


namespace Go.Av
variable [Tok]
variable {P : Program}
/-! ### Regions that draw: who waits for whom -/
inductive AncR (ops : Array Oper) : Nat → Nat → Prop
  | one {i : Nat} {o : Oper} {e : Edge} (ho : ops[i]? = some o) (he : e ∈ o.after) (hb : Region.binds .any e = true) : AncR ops i e.on
  | more {i : Nat} {o : Oper} {e : Edge} {j : Nat} (ho : ops[i]? = some o) (he : e ∈ o.after) (hb : Region.binds .any e = true) (h : AncR ops e.on j) : AncR ops i j
theorem anc_before {ops : Array Oper} {i j : Nat} (h : ancK (Region.before ops) i j = true) : AncR ops i j := by
  have key : (fun (n : Nat) (acc : Array Nat) => acc.size = n ∧ ∀ i j, (acc.getD i 0).testBit j = true → AncR ops i j) ops.size (Region.before ops) := by
    unfold Region.before
    refine Array.foldl_induction (fun (n : Nat) (acc : Array Nat) => acc.size = n ∧ ∀ i j, (acc.getD i 0).testBit j = true → AncR ops i j) ⟨rfl, fun i j h => by simp at h⟩ ?_
    rintro ⟨n, hn⟩ acc ⟨h1, h2⟩
    refine ⟨by simp [h1], fun i j hij => ?_⟩
    have inner : (fun (_ : Nat) (s : Nat) => ∀ j, s.testBit j = true → AncR ops n j) ops[n].after.size (ops[n].after.foldl (fun s e => if Region.binds .any e then s ||| 2 ^ e.on ||| acc.getD e.on 0 else s) 0) := by
      refine Array.foldl_induction (fun (_ : Nat) (s : Nat) => ∀ j, s.testBit j = true → AncR ops n j) (fun j h => by simp at h) ?_
      intro k s hs j hj
      have hmem : ops[n].after[k] ∈ ops[n].after := Array.getElem_mem _
      generalize ops[n].after[k] = e at hj hmem
      by_cases hb : Region.binds .any e = true
      · rw [if_pos hb] at hj
        simp only [Nat.testBit_or, Bool.or_eq_true, Nat.testBit_two_pow, decide_eq_true_eq] at hj
        rcases hj with (hj | hj) | hj
        · exact hs j hj
        · subst hj; exact .one (Array.getElem?_eq_getElem hn) hmem hb
        · exact .more (Array.getElem?_eq_getElem hn) hmem hb (h2 _ _ hj)
      · rw [if_neg hb] at hj; exact hs j hj
    change acc.size = n at h1
    obtain ⟨X, hX⟩ : ∃ X, X = (ops[n].after.foldl (fun s e => if Region.binds .any e then s ||| 2 ^ e.on ||| acc.getD e.on 0 else s) 0) := ⟨_, rfl⟩
    simp only [← hX] at inner
    have hij : ((acc.push X).getD i 0).testBit j = true := by rw [hX]; exact hij
    have hij' : ((acc.push X).getD i 0).testBit j = true → AncR ops i j := by
      intro hij
      rw [Array.getD_eq_getD_getElem?, Array.getElem?_push] at hij
      by_cases hi : i = acc.size
      · rw [if_pos hi] at hij
        rw [hi, h1]; exact inner j hij
      · rw [if_neg hi] at hij
        exact h2 i j (by rw [Array.getD_eq_getD_getElem?]; exact hij)
    exact hij' hij
  exact key.2 i j h
/-- what is waited for is done -/
theorem anc_done {ops : Array Oper} {S : Nat → Prop} (hS : ∀ (i : Nat) (o : Oper) (e : Edge), S i → ops[i]? = some o → e ∈ o.after → Region.binds .any e = true → S e.on) {i j : Nat} (h : AncR ops i j) :
    (∀ (o : Oper) (e : Edge), ops[i]? = some o → e ∈ o.after → Region.binds .any e = true → S e.on) → S j := by
  induction h with
  | one ho he hb => intro hp; exact hp _ _ ho he hb
  | more ho he hb h ih => intro hp; exact ih (fun o' e' ho' he' hb' => hS _ _ _ (hp _ _ ho he hb) ho' he' hb')
theorem memN_eq {i : Nat} : ∀ {l : List Nat}, memN i l = true ↔ i ∈ l
  | [] => by show false = true ↔ _; simp
  | j :: r => by
    show ifb (Nat.beq i j) true (memN i r) = true ↔ _
    cases h : Nat.beq i j with
    | true => rw [Nat.beq_eq] at h; subst h; show true = true ↔ _; simp
    | false =>
      have : i ≠ j := fun e => by subst e; simp at h
      show memN i r = true ↔ _
      rw [memN_eq]; simp [this]
theorem selP_mem {need : List Nat} {p : Pd} : ∀ {l : List Pd}, p ∈ selP need l ↔ p ∈ l ∧ p.i ∈ need
  | [] => by show p ∈ ([] : List Pd) ↔ _; simp
  | q :: r => by
    show p ∈ ifb (memN q.i need) (q :: selP need r) (selP need r) ↔ _
    cases h : memN q.i need with
    | true =>
      rw [memN_eq] at h
      show p ∈ q :: selP need r ↔ _
      rw [List.mem_cons, List.mem_cons, selP_mem]
      constructor
      · rintro (rfl | ⟨h1, h2⟩)
        · exact ⟨.inl rfl, h⟩
        · exact ⟨.inr h1, h2⟩
      · rintro ⟨rfl | h1, h2⟩
        · exact .inl rfl
        · exact .inr ⟨h1, h2⟩
    | false =>
      have h' : ¬ q.i ∈ need := fun e => by rw [memN_eq.2 e] at h; cases h
      show p ∈ selP need r ↔ _
      rw [List.mem_cons, selP_mem]
      constructor
      · rintro ⟨h1, h2⟩; exact ⟨.inr h1, h2⟩
      · rintro ⟨rfl | h1, h2⟩
        · exact absurd h2 h'
        · exact ⟨h1, h2⟩
theorem resP_mem {need : List Nat} {p : Pd} : ∀ {l : List Pd}, p ∈ resP need l ↔ p ∈ l ∧ ¬ p.i ∈ need
  | [] => by show p ∈ ([] : List Pd) ↔ _; simp
  | q :: r => by
    show p ∈ ifb (memN q.i need) (resP need r) (q :: resP need r) ↔ _
    cases h : memN q.i need with
    | true =>
      rw [memN_eq] at h
      show p ∈ resP need r ↔ _
      rw [List.mem_cons, resP_mem]
      constructor
      · rintro ⟨h1, h2⟩; exact ⟨.inr h1, h2⟩
      · rintro ⟨rfl | h1, h2⟩
        · exact absurd h h2
        · exact ⟨h1, h2⟩
    | false =>
      have h' : ¬ q.i ∈ need := fun e => by rw [memN_eq.2 e] at h; cases h
      show p ∈ q :: resP need r ↔ _
      rw [List.mem_cons, List.mem_cons, resP_mem]
      constructor
      · rintro (rfl | ⟨h1, h2⟩)
        · exact ⟨.inl rfl, h'⟩
        · exact ⟨.inr h1, h2⟩
      · rintro ⟨rfl | h1, h2⟩
        · exact .inl rfl
        · exact .inr ⟨h1, h2⟩
theorem selP_pair {need : List Nat} {R : Pd → Pd → Prop} : ∀ {l : List Pd}, l.Pairwise R → (selP need l).Pairwise R
  | [], _ => by show ([] : List Pd).Pairwise R; simp
  | q :: r, h => by
    rw [List.pairwise_cons] at h
    show (ifb (memN q.i need) (q :: selP need r) (selP need r)).Pairwise R
    cases memN q.i need with
    | true => exact List.pairwise_cons.2 ⟨fun p hp => h.1 p (selP_mem.1 hp).1, selP_pair h.2⟩
    | false => exact selP_pair h.2
theorem resP_pair {need : List Nat} {R : Pd → Pd → Prop} : ∀ {l : List Pd}, l.Pairwise R → (resP need l).Pairwise R
  | [], _ => by show ([] : List Pd).Pairwise R; simp
  | q :: r, h => by
    rw [List.pairwise_cons] at h
    show (ifb (memN q.i need) (resP need r) (q :: resP need r)).Pairwise R
    cases memN q.i need with
    | true => exact resP_pair h.2
    | false => exact List.pairwise_cons.2 ⟨fun p hp => h.1 p (resP_mem.1 hp).1, resP_pair h.2⟩
theorem allOk_pair {l : List AOper} {bits : Array Nat} : ∀ {c : List Nat}, allOk l bits c = true → c.Pairwise fun i j => pairOk l bits i j = true
  | [], _ => List.Pairwise.nil
  | i :: r, h => by
    simp only [allOk, Bool.and_eq_true, List.all_eq_true] at h
    exact List.pairwise_cons.2 ⟨h.1, allOk_pair h.2⟩
theorem nodup_le {α : Type} [DecidableEq α] : ∀ {l m : List α}, l.Nodup → (∀ x ∈ l, x ∈ m) → l.length ≤ m.length
  | [], _, _, _ => Nat.zero_le _
  | x :: r, m, h, hs => by
    rw [List.nodup_cons] at h
    have hx : x ∈ m := hs x (by simp)
    have := nodup_le (l := r) (m := m.erase x) h.2 (fun y hy => (List.mem_erase_of_ne (fun e => h.1 (by rw [← e]; exact hy))).2 (hs y (by simp [hy])))
    rw [List.length_erase_of_mem hx] at this
    have : 0 < m.length := List.length_pos_of_mem hx
    simp only [List.length_cons]; omega
def cntT (l : List AOper) (c : List Nat) : Nat := (c.filter fun i => Nat.beq (clsAt l i) 3).length
theorem orderK_spec {l : List AOper} {bits : Array Nat} {ws all : List Nat} : ∀ {r : List Nat} {k : Nat} {D : List DOper}, orderK l bits ws all r k = some D → D.length = r.length ∧
    ∀ (p : Nat) (d : DOper), D[p]? = some d → ∃ i o, r[p]? = some i ∧ l[i]? = some o ∧ d = { o := o, idx := i, lo := k + cntT l (r.take p) - countA bits i ws, need := needK l bits i all }
  | [], k, D, h => by cases h; exact ⟨rfl, fun p d h => by simp at h⟩
  | i :: r, k, D, h => by
    simp only [orderK] at h
    split at h
    · rename_i o ho
      split at h
      · rename_i q hq
        cases h
        obtain ⟨h1, h2⟩ := orderK_spec hq
        refine ⟨by simp [h1], fun p d hd => ?_⟩
        cases p with
        | zero =>
          simp only [List.getElem?_cons_zero, Option.some.injEq] at hd
          subst hd
          exact ⟨i, o, rfl, ho, by simp [cntT]⟩
        | succ p =>
          simp only [List.getElem?_cons_succ] at hd
          obtain ⟨j, o', h3, h4, h5⟩ := h2 p d hd
          refine ⟨j, o', by simpa using h3, h4, ?_⟩
          subst h5
          have hc : clsAt l i = clsOf o.op := by unfold clsAt; rw [ho]
          simp only [List.take_succ_cons, cntT, List.filter_cons, hc]
          cases Nat.beq (clsOf o.op) 3 with
          | true => simp only [cond_true, if_true, List.length_cons, DOper.mk.injEq, true_and, and_true]; omega
          | false => simp
      · cases h
    · cases h
end Go.Av


namespace Go.Av
variable [Tok]
variable {P : Program}
mutual
theorem same_eq : ∀ (v w : AVal), AVal.same v w = true → v = w
  | .i k n, w, h => by
    cases w <;> simp only [AVal.same, Bool.and_eq_true, decide_eq_true_eq, eqI_eq, Bool.false_eq_true] at h
    rw [h.1, h.2]
  | .b a, w, h => by cases w <;> simp [AVal.same] at h; rw [h]
  | .s a, w, h => by cases w <;> simp [AVal.same, seq_eq] at h; rw [h]
  | .p a, w, h => by cases w <;> simp [AVal.same] at h; rw [h]
  | .sl a n c g, w, h => by cases w <;> simp [AVal.same] at h; obtain ⟨⟨⟨h1, h2⟩, h3⟩, h4⟩ := h; rw [h1, h2, h3, h4]
  | .fn g a c, w, h => by
    cases w <;> simp only [AVal.same, Bool.and_eq_true, decide_eq_true_eq, Bool.false_eq_true] at h
    obtain ⟨⟨h1, h2⟩, h3⟩ := h
    rw [h1, sames_eq _ _ h2, sames_eq _ _ h3]
  | .nilF, w, h => by cases w <;> simp [AVal.same] at h; rfl
  | .ifc t v, w, h => by
    cases w <;> simp only [AVal.same, Bool.and_eq_true, decide_eq_true_eq, Bool.false_eq_true] at h
    rw [h.1, same_eq _ _ h.2]
  | .nilI, w, h => by cases w <;> simp [AVal.same] at h; rfl
  | .ag a, w, h => by
    cases w <;> simp only [AVal.same, Bool.false_eq_true] at h
    rw [sames_eq _ _ h]
  | .tu a, w, h => by
    cases w <;> simp only [AVal.same, Bool.false_eq_true] at h
    rw [sames_eq _ _ h]
  | .mp a, w, h => by cases w <;> simp [AVal.same] at h; rw [h]
  | .tok a, w, h => by cases w <;> simp [AVal.same] at h; rw [h]
theorem sames_eq : ∀ (v w : List AVal), samesL v w = true → v = w
  | [], w, h => by cases w <;> simp [samesL] at h; rfl
  | a :: r, w, h => by
    cases w <;> simp only [samesL, Bool.and_eq_true, Bool.false_eq_true] at h
    rw [same_eq _ _ h.1, sames_eq _ _ h.2]
end
theorem alike_eq {g : Fr → Hp → Option AVal} {f : Fr} {p : List Pd} {v : AVal} : ∀ {n : Nat} {hs : List Hp}, alike g f p v n hs = true → ∀ j, j < n → ∃ h, hs[j]? = some h ∧ g f (layP h p) = some v
  | 0, _, _, j, hj => absurd hj (Nat.not_lt_zero _)
  | n + 1, [], h, j, hj => by cases (show false = true from h)
  | n + 1, x :: r, h, j, hj => by
    change ifb (sameO v (g f (layP x p))) (alike g f p v n r) false = true at h
    cases hs : sameO v (g f (layP x p)) with
    | false => rw [hs] at h; cases h
    | true =>
      rw [hs] at h
      cases j with
      | zero =>
        refine ⟨x, rfl, ?_⟩
        cases hg : g f (layP x p) with
        | none => rw [hg] at hs; cases hs
        | some u =>
          rw [hg] at hs
          have := same_eq v u hs
          rw [this]
      | succ j => exact alike_eq (show alike g f p v n r = true from h) j (by omega)
/-! ### Laying -/
structure PendOk (B : Nat) (n0 : Pos) (σ : Sg) (H : Hp) (w : World) (pd : Pd) : Prop where
  ex : ∃ I, σ pd.b = some I ∧ BlkR σ w.heap[I.cb]? I pd.x ∧ (∀ c J, σ c = some J → J.cb = I.cb → c = pd.b) ∧ B ≤ I.cb
  no : H.get pd.b = none
  st : ∀ c, pd.x = .cells c → c.stale = []
  lo : n0.toNat ≤ pd.b.toNat
theorem layP_cons (H : Hp) (p : Pd) (r : List Pd) : layP H (p :: r) = (layP H r).put p.b p.x := rfl
theorem lay_all {σ σ0 : Sg} {h0 H : Hp} {w0 w : World} (s : Sim σ H w) (t : Step σ0 h0 w0 σ H w) : ∀ (l : List Pd), (∀ pd ∈ l, PendOk w0.heap.size h0.next σ H w pd) → l.Pairwise (fun a b => a.b ≠ b.b) →
    Sim σ (layP H l) w ∧ Step σ0 h0 w0 σ (layP H l) w ∧ (∀ c, (∀ pd ∈ l, pd.b ≠ c) → (layP H l).get c = H.get c) ∧ (layP H l).next = H.next
  | [], _, _ => ⟨s, t, fun _ _ => rfl, rfl⟩
  | p :: r, hp, hd => by
    rw [List.pairwise_cons] at hd
    obtain ⟨s1, t1, g1, n1⟩ := lay_all s t r (fun pd h => hp pd (by simp [h])) hd.2
    have hpo := hp p (by simp)
    obtain ⟨I, hI, hR, hu, hB⟩ := hpo.ex
    have hno : (layP H r).get p.b = none := by
      rw [g1 p.b (fun pd h e => hd.1 pd h e.symm)]; exact hpo.no
    have hg : ∀ c, c ≠ p.b → ((layP H r).put p.b p.x).get c = (layP H r).get c := fun c hc => Hp.get_put_other _ _ _ _ hc
    rw [layP_cons]
    refine ⟨s1.lay hno hI hR hpo.st hu, ⟨t1.le, t1.os, t1.tape, t1.output, t1.size, t1.unt, ?_, ?_, t1.old, ?_, t1.nm⟩, ?_, ?_⟩
    · rintro k hk ⟨b, x, J, hb, hx, hJ, e⟩
      by_cases eb : b = p.b
      · subst eb; rw [hI] at hJ; cases hJ; omega
      · rw [hg b eb] at hb; exact t1.tch k hk ⟨b, x, J, hb, hx, hJ, e⟩
    · rw [Hp.put_next]; exact t1.nx
    · intro b hb h
      rw [hg b (fun e => by subst e; have := hpo.lo; omega)]
      exact t1.dom b hb h
    · intro c hc
      rw [hg c (fun e => hc p (by simp) e.symm)]
      exact g1 c (fun pd h => hc pd (by simp [h]))
    · rw [Hp.put_next]; exact n1
/-! ### Frames of those that are done -/
noncomputable def frS (f : Fr) (dst : Nat → Option Slot) (val : Nat → AVal) (S : Nat → Bool) : Nat → Fr
  | 0 => f
  | p + 1 => if S p then stO (frS f dst val S p) (dst p) (val p) else frS f dst val S p
section
variable {f : Fr} {dst : Nat → Option Slot} {val : Nat → AVal} {S : Nat → Bool}
theorem stO_gt_ne {f : Fr} {d : Option Slot} {v : AVal} {t : Slot} (h : d ≠ some t) : (stO f d v).gt t = f.gt t := by
  cases d with
  | none => rfl
  | some u => exact Fr.gt_other _ _ _ _ (fun e => h (by rw [e]))
theorem frS_no {t : Slot} : ∀ {n : Nat}, (∀ q, q < n → S q = true → dst q ≠ some t) → (frS f dst val S n).gt t = f.gt t
  | 0, _ => rfl
  | n + 1, h => by
    have ih := frS_no (n := n) (fun q hq => h q (by omega))
    unfold frS
    split
    · rw [stO_gt_ne (h n (by omega) (by assumption))]; exact ih
    · exact ih
theorem frS_at {t : Slot} {p : Nat} (hS : S p = true) (hd : dst p = some t) : ∀ {n : Nat}, p < n → (∀ q, q < n → q ≠ p → dst q ≠ some t) → (frS f dst val S n).gt t = val p
  | 0, h, _ => absurd h (Nat.not_lt_zero _)
  | n + 1, h, hu => by
    unfold frS
    by_cases e : p = n
    · subst e
      rw [if_pos hS, hd]; exact Fr.gt_same _ _ _
    · have ih := frS_at hS hd (n := n) (by omega) (fun q hq => hu q (by omega))
      split
      · rw [stO_gt_ne (hu n (by omega) (Ne.symm e))]; exact ih
      · exact ih
theorem frS_add {S' : Nat → Bool} {p m : Nat} (hp : p < m) (hSp : S p = false) (hS' : ∀ q, q < m → S' q = (S q || decide (q = p))) (hu : ∀ q r t, q < m → r < m → dst q = some t → dst r = some t → q = r) (t : Slot) :
    (frS f dst val S' m).gt t = (stO (frS f dst val S m) (dst p) (val p)).gt t := by
  by_cases h : dst p = some t
  · rw [h, frS_at (p := p) (by rw [hS' p hp]; simp) h hp (fun q hq hne e => hne (hu q p t hq hp e h))]
    exact (Fr.gt_same _ _ _).symm
  · rw [stO_gt_ne h]
    by_cases hq : ∃ q, q < m ∧ S q = true ∧ dst q = some t
    · obtain ⟨q, h1, h2, h3⟩ := hq
      rw [frS_at (p := q) (by rw [hS' q h1, h2]; rfl) h3 h1 (fun r hr hne e => hne (hu r q t hr h1 e h3)), frS_at (p := q) h2 h3 h1 (fun r hr hne e => hne (hu r q t hr h1 e h3))]
    · rw [frS_no (fun q h1 h2 h3 => ?_), frS_no (fun q h1 h2 h3 => hq ⟨q, h1, h2, h3⟩)]
      rw [hS' q h1] at h2
      simp only [Bool.or_eq_true, decide_eq_true_eq] at h2
      rcases h2 with h2 | h2
      · exact hq ⟨q, h1, h2, h3⟩
      · subst h2; exact h h3
theorem frS_agree {p m : Nat} {t : Slot} (hp : p ≤ m) (hu : ∀ q r t, q < m → r < m → dst q = some t → dst r = some t → q = r) (h : ∀ q, q < m → dst q = some t → if q < p then S q = true else S q = false) :
    (frS f dst val S m).gt t = (frS f dst val (fun _ => true) p).gt t := by
  by_cases hq : ∃ q, q < m ∧ dst q = some t
  · obtain ⟨q, h1, h2⟩ := hq
    have h3 := h q h1 h2
    split at h3
    · rw [frS_at (p := q) h3 h2 h1 (fun r hr hne e => hne (hu r q t hr h1 e h2)), frS_at (p := q) rfl h2 (by assumption) (fun r hr hne e => hne (hu r q t (by omega) h1 e h2))]
    · rw [frS_no (fun r hr hs e => by have := hu r q t hr h1 e h2; subst this; rw [h3] at hs; cases hs), frS_no (fun r hr _ e => by have := hu r q t (by omega) h1 e h2; omega)]
  · rw [frS_no (fun q h1 _ h3 => hq ⟨q, h1, h3⟩), frS_no (fun q h1 _ h3 => hq ⟨q, by omega, h3⟩)]
end
theorem FrR.congr {σ : Sg} {N : Nat} {f f' : Fr} {a : Array Value} (h : FrR σ N f a) (e : ∀ t, f'.gt t = f.gt t) : FrR σ N f' a := ⟨h.1, fun t ht => by rw [e]; exact h.2 t ht⟩
/-! ### The one order -/
inductive DSt (E : Env) (s : DS) (d : DOper) : DS → AVal → Prop
  | skip (hg : goA s.f d.o.guard = false) (hc : clsOf d.o.op ≠ 3) : DSt E s d ⟨stO s.f d.o.dst undefA, s.h, s.hs, s.pend, s.n⟩ undefA
  | skipT (hg : goA s.f d.o.guard = false) (hc : clsOf d.o.op = 3) : DSt E s d ⟨stO s.f d.o.dst undefA, s.h, s.h :: s.hs, s.pend, s.n⟩ undefA
  | calc {g : Fr → Hp → Option AVal} {v : AVal} (hg : goA s.f d.o.guard = true) (ho : d.o.op = .calc g) (hv : g s.f s.h = some v) : DSt E s d ⟨stO s.f d.o.dst v, s.h, s.hs, s.pend, s.n⟩ v
  | read {g : Fr → Hp → Option AVal} {v : AVal} (hg : goA s.f d.o.guard = true) (ho : d.o.op = .read g) (hv : g s.f (layP s.h (selP d.need s.pend)) = some v) (ha : alike g s.f (selP d.need s.pend) v d.lo s.hs = true) :
      DSt E s d ⟨stO s.f d.o.dst v, s.h, s.hs, s.pend, s.n⟩ v
  | make {g : Fr → Pos → Option Made} {m : Made} (hg : goA s.f d.o.guard = true) (ho : d.o.op = .make g) (hv : g s.f s.n = some m) : DSt E s d ⟨stO s.f d.o.dst m.1, s.h, s.hs, ⟨d.idx, s.n, m.2⟩ :: s.pend, s.n.succ⟩ m.1
  | turn {g : Fr → Hp → Option Nx} {nx : Nx} {v : AVal} {h' : Hp} (hg : goA s.f d.o.guard = true) (ho : d.o.op = .turn g) (hv : g s.f (layP s.h (selP d.need s.pend)) = some nx) (hn : nxF E (layP s.h (selP d.need s.pend)) nx = some (v, h')) :
      DSt E s d ⟨stO s.f d.o.dst v, h', s.h :: s.hs, resP d.need s.pend, s.n⟩ v
theorem dStep_cases {E : Env} {s s' : DS} {d : DOper} (h : dStep E s d = some s') : ∃ v, DSt E s d s' v := by
  unfold dStep at h
  cases hg : goA s.f d.o.guard with
  | false =>
    rw [hg] at h
    have h' : some (dskip s d) = some s' := h
    unfold dskip at h'
    cases hc : Nat.beq (clsOf d.o.op) 3 with
    | true => rw [hc] at h'; cases h'; exact ⟨_, .skipT hg (by simpa using hc)⟩
    | false => rw [hc] at h'; cases h'; exact ⟨_, .skip hg (fun e => by rw [e] at hc; cases hc)⟩
  | true =>
    rw [hg] at h
    have h' : dopF E s d = some s' := h
    unfold dopF at h'
    cases ho : d.o.op with
    | «calc» g =>
      rw [ho] at h'
      change ob (g s.f s.h) (fun v => some { s with f := stO s.f d.o.dst v }) = some s' at h'
      rw [ob_eq] at h'
      obtain ⟨v, h1, h2⟩ := h'
      cases h2
      exact ⟨v, .calc hg ho h1⟩
    | read g =>
      rw [ho] at h'
      change ob (g s.f (layP s.h (selP d.need s.pend))) (fun v => ifb (alike g s.f (selP d.need s.pend) v d.lo s.hs) (some { s with f := stO s.f d.o.dst v }) none) = some s' at h'
      rw [ob_eq] at h'
      obtain ⟨v, h1, h2⟩ := h'
      rw [ifb_eq] at h2
      obtain ⟨h2, h3⟩ := h2
      cases h3
      exact ⟨v, .read hg ho h1 h2⟩
    | make g =>
      rw [ho] at h'
      change ob (g s.f s.n) (fun m => some { s with f := stO s.f d.o.dst m.1, pend := ⟨d.idx, s.n, m.2⟩ :: s.pend, n := s.n.succ }) = some s' at h'
      rw [ob_eq] at h'
      obtain ⟨m, h1, h2⟩ := h'
      cases h2
      exact ⟨m.1, .make hg ho h1⟩
    | turn g =>
      rw [ho] at h'
      change ob (g s.f (layP s.h (selP d.need s.pend))) (fun x => ob (nxF E (layP s.h (selP d.need s.pend)) x) fun y => some ⟨stO s.f d.o.dst y.1, y.2, s.h :: s.hs, resP d.need s.pend, s.n⟩) = some s' at h'
      simp only [ob_eq] at h'
      obtain ⟨nx, h1, ⟨v, h2⟩, h3, h4⟩ := h'
      cases h4
      exact ⟨v, .turn hg ho h1 h3⟩
theorem dops_st {E : Env} : ∀ {D : List DOper} {s sm : DS}, dopsF E D s = some sm → ∃ (st : Nat → DS) (val : Nat → AVal), st 0 = s ∧ st D.length = sm ∧ ∀ p d, D[p]? = some d → DSt E (st p) d (st (p + 1)) (val p)
  | [], s, sm, h => by
    cases (show some s = some sm from h)
    exact ⟨fun _ => s, fun _ => undefA, rfl, rfl, fun p d h => by simp at h⟩
  | d :: D, s, sm, h => by
    change ob (dStep E s d) (fun s => dopsF E D s) = some sm at h
    rw [ob_eq] at h
    obtain ⟨s1, h1, h2⟩ := h
    obtain ⟨v, hv⟩ := dStep_cases h1
    obtain ⟨st, val, g1, g2, g3⟩ := dops_st h2
    refine ⟨fun p => match p with | 0 => s | p + 1 => st p, fun p => match p with | 0 => v | p + 1 => val p, rfl, g2, fun p d' hd => ?_⟩
    cases p with
    | zero => simp only [List.getElem?_cons_zero, Option.some.injEq] at hd; subst hd; simp only [g1]; exact hv
    | succ p => exact g3 p d' (by simpa using hd)
end Go.Av


namespace Go.Av
variable [Tok]
variable {P : Program}
noncomputable def wsOf (P : Program) (N : Nat) (ops : Array Oper) : List Nat := (List.range ops.size).filter fun i => Nat.beq (clsAt (opersK P N ops) i) 3
/-- one run of a region that draws, in the one order -/
structure Run (P : Program) (E : Env) (N : Nat) (ops : Array Oper) (can : List Nat) (D : List DOper) (st : Nat → DS) (val : Nat → AVal) (f0 : Fr) (h0 : Hp) : Prop where
  len : D.length = ops.size
  clen : can.length = ops.size
  get : ∀ (p : Nat) (d : DOper), D[p]? = some d → ∃ (i : Nat) (o : Oper), can[p]? = some i ∧ ops[i]? = some o ∧
    d = { o := operK P N ops o, idx := i, lo := cntT (opersK P N ops) (can.take p) - countA (Region.before ops) i (wsOf P N ops), need := needK (opersK P N ops) (Region.before ops) i (List.range ops.size) }
  pair : can.Pairwise fun i j => pairOk (opersK P N ops) (Region.before ops) i j = true
  surj : ∀ i, i < ops.size → i ∈ can
  edge : ∀ (i : Nat) (o : Oper) (e : Edge), ops[i]? = some o → e ∈ o.after → Region.binds .any e = true → e.on < i
  s0 : st 0 = ⟨f0, ⟨h0.t, skipN h0.next (made D)⟩, [], [], h0.next⟩
  step : ∀ (p : Nat) (d : DOper), D[p]? = some d → DSt E (st p) d (st (p + 1)) (val p)
theorem opersK_get {N : Nat} {ops : Array Oper} {i : Nat} {o : AOper} : (opersK P N ops)[i]? = some o ↔ ∃ o', ops[i]? = some o' ∧ o = operK P N ops o' := by
  unfold opersK
  rw [mapR_eq, List.getElem?_map, Array.getElem?_toList]
  cases ops[i]? with
  | none => simp
  | some x => simp [eq_comm]
theorem plan_run {E : Env} {N : Nat} {ops : Array Oper} {D : List DOper} {f0 : Fr} {h0 : Hp} {sm : DS} (h : planK P N ops = some D) (hx : dopsF E D ⟨f0, ⟨h0.t, skipN h0.next (made D)⟩, [], [], h0.next⟩ = some sm) :
    ∃ can st val, Run P E N ops can D st val f0 h0 ∧ st ops.size = sm := by
  unfold planK at h
  simp only [cond_eq_ite] at h
  split at h
  · rename_i hc
    simp only [Bool.and_eq_true, Nat.beq_eq, List.all_eq_true] at hc
    obtain ⟨⟨⟨h1, h2⟩, h3⟩, h4⟩ := hc
    obtain ⟨g1, g2⟩ := orderK_spec h
    obtain ⟨st, val, k1, k2, k3⟩ := dops_st hx
    refine ⟨_, st, val, ⟨g1.trans h4, h4, ?_, allOk_pair h2, fun i hi => memN_eq.1 (h3 i (by simpa using hi)), ?_, k1, k3⟩, by rw [← k2, g1, h4]⟩
    · intro p d hd
      obtain ⟨i, o, q1, q2, q3⟩ := g2 p d hd
      obtain ⟨o', q4, rfl⟩ := opersK_get.1 q2
      refine ⟨i, o', q1, q4, ?_⟩
      rw [q3]; simp [wsOf]
    · intro i o e ho he hb
      unfold edgesOk at h1
      simp only [List.all_eq_true] at h1
      have := h1 i (by simpa using (Array.getElem?_eq_some_iff.1 ho).1)
      rw [ho] at this
      simp only [List.all_eq_true] at this
      have := this e (by simpa using he)
      rw [hb] at this
      simpa using this
  · cases h
namespace Run
variable {E : Env} {N : Nat} {ops : Array Oper} {can : List Nat} {D : List DOper} {st : Nat → DS} {val : Nat → AVal} {f0 : Fr} {h0 : Hp}
theorem at_ (R : Run P E N ops can D st val f0 h0) {p : Nat} (hp : p < ops.size) : ∃ i o d, can[p]? = some i ∧ ops[i]? = some o ∧ D[p]? = some d ∧ d.o = operK P N ops o ∧ d.idx = i ∧
    d.lo = cntT (opersK P N ops) (can.take p) - countA (Region.before ops) i (wsOf P N ops) ∧ d.need = needK (opersK P N ops) (Region.before ops) i (List.range ops.size) ∧ i < ops.size := by
  have : p < D.length := by rw [R.len]; exact hp
  obtain ⟨i, o, h1, h2, h3⟩ := R.get p _ (List.getElem?_eq_getElem this)
  refine ⟨i, o, _, h1, h2, List.getElem?_eq_getElem this, ?_, ?_, ?_, ?_, (Array.getElem?_eq_some_iff.1 h2).1⟩ <;> rw [h3]
theorem pos_ (R : Run P E N ops can D st val f0 h0) {i : Nat} (hi : i < ops.size) : ∃ p, p < ops.size ∧ can[p]? = some i := by
  obtain ⟨p, hp, e⟩ := List.mem_iff_getElem.1 (R.surj i hi)
  exact ⟨p, by rw [← R.clen]; exact hp, by rw [List.getElem?_eq_getElem hp, e]⟩
theorem pr (R : Run P E N ops can D st val f0 h0) {p q i j : Nat} (h : p < q) (hp : can[p]? = some i) (hq : can[q]? = some j) : pairOk (opersK P N ops) (Region.before ops) i j = true := by
  obtain ⟨h1, e1⟩ := List.getElem?_eq_some_iff.1 hp
  obtain ⟨h2, e2⟩ := List.getElem?_eq_some_iff.1 hq
  have := List.pairwise_iff_getElem.1 R.pair p q h1 h2 h
  rw [e1, e2] at this
  exact this
theorem pr' (R : Run P E N ops can D st val f0 h0) {p q i j : Nat} {oi oj : Oper} (h : p < q) (hp : can[p]? = some i) (hq : can[q]? = some j) (hi : ops[i]? = some oi) (hj : ops[j]? = some oj) :
    i ≠ j ∧ ancK (Region.before ops) i j = false ∧ dstEq (operK P N ops oi).dst (operK P N ops oj).dst = false ∧ (ancK (Region.before ops) j i = true ∨
      (dstIn (operK P N ops oi).dst (operK P N ops oj).looks = false ∧ dstIn (operK P N ops oj).dst (operK P N ops oi).looks = false ∧
        ¬ (clsOf (operK P N ops oi).op = 3 ∧ clsOf (operK P N ops oj).op = 3) ∧ ¬ (clsOf (operK P N ops oi).op = 1 ∧ clsOf (operK P N ops oj).op = 3))) := by
  have := R.pr h hp hq
  unfold pairOk at this
  rw [opersK_get.2 ⟨oi, hi, rfl⟩, opersK_get.2 ⟨oj, hj, rfl⟩] at this
  simp only [Bool.and_eq_true, Bool.or_eq_true, Bool.not_eq_true', Bool.and_eq_false_iff, Nat.beq_eq] at this
  obtain ⟨⟨h1, h2⟩, h3, h4⟩ := this
  refine ⟨fun e => by subst e; simp at h1, h2, h3, ?_⟩
  rcases h4 with h4 | ⟨⟨⟨h4, h5⟩, h6⟩, h7⟩
  · exact .inl h4
  · refine .inr ⟨h4, h5, fun ⟨e1, e2⟩ => ?_, fun ⟨e1, e2⟩ => ?_⟩
    · rw [e1, e2] at h6; simp at h6
    · rw [e1, e2] at h7; simp at h7
theorem inj (R : Run P E N ops can D st val f0 h0) {p q i : Nat} (hp : can[p]? = some i) (hq : can[q]? = some i) : p = q := by
  have hl : i < ops.size → p = q := fun hi => by
    obtain ⟨o, ho⟩ : ∃ o, ops[i]? = some o := ⟨_, Array.getElem?_eq_getElem hi⟩
    rcases Nat.lt_trichotomy p q with h | h | h
    · exact absurd rfl (R.pr' h hp hq ho ho).1
    · exact h
    · exact absurd rfl (R.pr' h hq hp ho ho).1
  have hp' : p < ops.size := by rw [← R.clen]; exact (List.getElem?_eq_some_iff.1 hp).1
  obtain ⟨i', o, d, h1, h2, _, _, _, _, _, h3⟩ := R.at_ hp'
  rw [hp] at h1; cases h1
  exact hl h3
def dst (D : List DOper) (p : Nat) : Option Slot := (D[p]?).bind fun d => d.o.dst
theorem memP_eq {t : Slot} : ∀ {l : List Slot}, memP t l = true ↔ t ∈ l
  | [] => by simp [memP]
  | q :: r => by simp [memP, memP_eq]
theorem uniq (R : Run P E N ops can D st val f0 h0) : ∀ q r t, q < ops.size → r < ops.size → dst D q = some t → dst D r = some t → q = r := by
  have key : ∀ q r t, q < r → r < ops.size → dst D q = some t → dst D r = some t → False := by
    intro q r t h hr h1 h2
    obtain ⟨i, oi, di, a1, a2, a3, a4, _⟩ := R.at_ (show q < ops.size by omega)
    obtain ⟨j, oj, dj, b1, b2, b3, b4, _⟩ := R.at_ hr
    have := (R.pr' h a1 b1 a2 b2).2.2.1
    unfold dst at h1 h2
    rw [a3] at h1; rw [b3] at h2
    simp only [Option.bind_some] at h1 h2
    rw [a4] at h1; rw [b4] at h2
    rw [h1, h2] at this
    simp [dstEq] at this
  intro q r t hq hr h1 h2
  rcases Nat.lt_trichotomy q r with h | h | h
  · exact (key q r t h hr h1 h2).elim
  · exact h
  · exact (key r q t h hq h2 h1).elim
theorem frame (R : Run P E N ops can D st val f0 h0) : ∀ p, p ≤ ops.size → (st p).f = frS f0 (dst D) val (fun _ => true) p
  | 0, _ => by rw [R.s0]; rfl
  | p + 1, hp => by
    obtain ⟨i, o, d, a1, a2, a3, _⟩ := R.at_ (show p < ops.size by omega)
    have ih := R.frame p (by omega)
    have hs := R.step p d a3
    have e : dst D p = d.o.dst := by unfold dst; rw [a3]; rfl
    unfold frS
    rw [if_pos rfl, ← ih, e]
    generalize st (p + 1) = s' at hs
    generalize val p = v at hs
    cases hs <;> rfl
/-- which turn the heap -/
def isT (D : List DOper) (p : Nat) : Bool := match D[p]? with | some d => Nat.beq (clsOf d.o.op) 3 | none => false
theorem isT_eq {d : DOper} {p : Nat} (h : D[p]? = some d) : isT D p = true ↔ clsOf d.o.op = 3 := by unfold isT; rw [h]; simp
theorem h_step (R : Run P E N ops can D st val f0 h0) {p : Nat} (hp : p < ops.size) : (isT D p = false ∧ (st (p + 1)).h = (st p).h ∧ (st (p + 1)).hs = (st p).hs) ∨ (isT D p = true ∧ (st (p + 1)).hs = (st p).h :: (st p).hs) := by
  obtain ⟨i, o, d, a1, a2, a3, _⟩ := R.at_ hp
  have hs := R.step p d a3
  have hT := isT_eq a3
  have nT : clsOf d.o.op ≠ 3 → isT D p = false := by
    intro hc
    cases h : isT D p with
    | false => rfl
    | true => exact absurd (hT.1 h) hc
  generalize st (p + 1) = s' at hs
  generalize val p = v at hs
  cases hs with
  | skip hg hc => exact .inl ⟨nT hc, rfl, rfl⟩
  | skipT hg hc => exact .inr ⟨hT.2 hc, rfl⟩
  | «calc» hg ho hv => exact .inl ⟨nT (by rw [ho]; simp [clsOf]), rfl, rfl⟩
  | read hg ho hv ha => exact .inl ⟨nT (by rw [ho]; simp [clsOf]), rfl, rfl⟩
  | make hg ho hv => exact .inl ⟨nT (by rw [ho]; simp [clsOf]), rfl, rfl⟩
  | turn hg ho hv hn => exact .inr ⟨hT.2 (by rw [ho]; rfl), rfl⟩
/-- heaps at earlier boundaries -/
def cnt (D : List DOper) : Nat → Nat
  | 0 => 0
  | p + 1 => cnt D p + (if isT D p then 1 else 0)
theorem cnt_mono {p q : Nat} (h : p ≤ q) : cnt D p ≤ cnt D q := by
  induction h with
  | refl => exact Nat.le_refl _
  | step h ih => exact Nat.le_trans ih (Nat.le_add_right _ _)
theorem heaps (R : Run P E N ops can D st val f0 h0) {p : Nat} : ∀ {q : Nat}, p ≤ q → q ≤ ops.size → (cnt D q = cnt D p → (st q).h = (st p).h) ∧ (∀ c, cnt D q = cnt D p + c + 1 → (st q).hs[c]? = some (st p).h) := by
  intro q h
  induction h with
  | refl => intro _; exact ⟨fun _ => rfl, fun c e => by omega⟩
  | step h ih =>
    rename_i q
    intro hq
    obtain ⟨i1, i2⟩ := ih (by omega)
    have hle : cnt D p ≤ cnt D q := cnt_mono h
    rcases R.h_step (show q < ops.size by omega) with ⟨e1, e2, e3⟩ | ⟨e1, e2⟩
    · have hc : cnt D (q + 1) = cnt D q := by simp [cnt, e1]
      show (cnt D (q + 1) = cnt D p → (st (q + 1)).h = (st p).h) ∧ ∀ c, cnt D (q + 1) = cnt D p + c + 1 → (st (q + 1)).hs[c]? = some (st p).h
      rw [hc, e2, e3]
      exact ⟨i1, i2⟩
    · have hc : cnt D (q + 1) = cnt D q + 1 := by simp [cnt, e1]
      refine ⟨fun e => ?_, fun c e => ?_⟩
      · have e' : cnt D (q + 1) = cnt D p := e
        omega
      · have e' : cnt D (q + 1) = cnt D p + c + 1 := e
        show (st (q + 1)).hs[c]? = _
        rw [e2]
        cases c with
        | zero => simp only [List.getElem?_cons_zero]; rw [i1 (by omega)]
        | succ c => simp only [List.getElem?_cons_succ]; exact i2 c (by omega)
/-! what is made -/
def Makes (D : List DOper) (st : Nat → DS) (val : Nat → AVal) (q : Nat) (pd : Pd) : Prop :=
  ∃ d g m, D[q]? = some d ∧ goA (st q).f d.o.guard = true ∧ d.o.op = .make g ∧ g (st q).f (st q).n = some m ∧ pd = ⟨d.idx, (st q).n, m.2⟩ ∧ (st (q + 1)).n = (st q).n.succ ∧ val q = m.1
theorem n_step (R : Run P E N ops can D st val f0 h0) {p : Nat} (hp : p < ops.size) : (st p).n.toNat ≤ (st (p + 1)).n.toNat ∧ ((st (p + 1)).n = (st p).n ∨ ((st (p + 1)).n = (st p).n.succ ∧ ∃ d, D[p]? = some d ∧ clsOf d.o.op = 2)) := by
  obtain ⟨i, o, d, a1, a2, a3, _⟩ := R.at_ hp
  have hs := R.step p d a3
  generalize st (p + 1) = s' at hs
  generalize val p = v at hs
  cases hs with
  | make hg ho hv => exact ⟨by show _ ≤ (st p).n.succ.toNat; rw [Pos.toNat_succ]; omega, .inr ⟨rfl, d, a3, by rw [ho]; rfl⟩⟩
  | _ => exact ⟨Nat.le_refl _, .inl rfl⟩
theorem n_mono (R : Run P E N ops can D st val f0 h0) {p : Nat} : ∀ {q : Nat}, p ≤ q → q ≤ ops.size → (st p).n.toNat ≤ (st q).n.toNat := by
  intro q h
  induction h with
  | refl => intro _; exact Nat.le_refl _
  | step h ih => intro hq; exact Nat.le_trans (ih (Nat.le_of_succ_le hq)) (R.n_step hq).1
theorem made_cons (d : DOper) (l : List DOper) : made (d :: l) = (if clsOf d.o.op = 2 then made l + 1 else made l) := by
  show ifb (Nat.beq (clsOf d.o.op) 2) (Nat.succ (made l)) (made l) = _
  by_cases h : clsOf d.o.op = 2
  · rw [if_pos h, h]; rfl
  · rw [if_neg h]
    have : Nat.beq (clsOf d.o.op) 2 = false := by
      cases e : Nat.beq (clsOf d.o.op) 2 with
      | false => rfl
      | true => exact absurd (Nat.eq_of_beq_eq_true e) h
    rw [this]
theorem skipN_toNat (p : Pos) : ∀ n, (skipN p n).toNat = p.toNat + n
  | 0 => rfl
  | n + 1 => by show (skipN p n).succ.toNat = _; rw [Pos.toNat_succ, skipN_toNat]; omega
theorem n_bound (R : Run P E N ops can D st val f0 h0) : ∀ p, p ≤ ops.size → (st p).n.toNat + made (D.drop p) ≤ (skipN h0.next (made D)).toNat
  | 0, _ => by rw [R.s0, skipN_toNat]; exact Nat.le_refl _
  | p + 1, hp => by
    have ih := R.n_bound p (by omega)
    obtain ⟨i, o, d, a1, a2, a3, _⟩ := R.at_ (show p < ops.size by omega)
    obtain ⟨hlt, e⟩ := List.getElem?_eq_some_iff.1 a3
    rw [List.drop_eq_getElem_cons hlt, e, made_cons] at ih
    rcases (R.n_step (show p < ops.size by omega)).2 with h | ⟨h, d', h1, h2⟩
    · rw [h]; split at ih <;> omega
    · rw [a3] at h1; cases h1
      rw [h, Pos.toNat_succ]; rw [if_pos h2] at ih; omega
theorem n_lo (R : Run P E N ops can D st val f0 h0) {p : Nat} (hp : p ≤ ops.size) : h0.next.toNat ≤ (st p).n.toNat := by
  have := R.n_mono (Nat.zero_le p) hp
  rw [R.s0] at this; exact this
theorem makes_b (R : Run P E N ops can D st val f0 h0) {q q' : Nat} {pd pd' : Pd} (h : q < q') (hq : q' ≤ ops.size) (h1 : Makes D st val q pd) (h2 : Makes D st val q' pd') : pd.b.toNat < pd'.b.toNat := by
  obtain ⟨d, g, m, _, _, _, _, rfl, e, _⟩ := h1
  obtain ⟨d', g', m', _, _, _, _, rfl, _, _⟩ := h2
  have := R.n_mono (p := q + 1) (q := q') h hq
  rw [e, Pos.toNat_succ] at this
  exact this
theorem makes_hi (R : Run P E N ops can D st val f0 h0) {q : Nat} {pd : Pd} (hq : q < ops.size) (h1 : Makes D st val q pd) : h0.next.toNat ≤ pd.b.toNat ∧ pd.b.toNat < (skipN h0.next (made D)).toNat := by
  obtain ⟨d, g, m, _, _, _, _, rfl, e, _⟩ := h1
  have b1 := R.n_lo (p := q) (by omega)
  have b2 := R.n_bound (q + 1) hq
  rw [e, Pos.toNat_succ] at b2
  exact ⟨b1, by show (st q).n.toNat < _; omega⟩
/-- is a turn done at r that waits for what is made? -/
def Uses (D : List DOper) (st : Nat → DS) (r : Nat) (pd : Pd) : Prop := ∃ d, D[r]? = some d ∧ goA (st r).f d.o.guard = true ∧ clsOf d.o.op = 3 ∧ pd.i ∈ d.need
theorem pend_made (R : Run P E N ops can D st val f0 h0) : ∀ p, p ≤ ops.size → ∀ pd ∈ (st p).pend, ∃ q, q < p ∧ Makes D st val q pd ∧ ∀ r, r < p → q < r → ¬ Uses D st r pd
  | 0, _, pd, h => by rw [R.s0] at h; cases h
  | p + 1, hp, pd, h => by
    obtain ⟨i, o, d, a1, a2, a3, _⟩ := R.at_ (show p < ops.size by omega)
    have hs := R.step p d a3
    have ih := R.pend_made p (by omega)
    have old : (∀ r, r = p → ¬ Uses D st r pd) → pd ∈ (st p).pend → ∃ q, q < p + 1 ∧ Makes D st val q pd ∧ ∀ r, r < p + 1 → q < r → ¬ Uses D st r pd := by
      intro hu hm
      obtain ⟨q, h1, h2, h3⟩ := ih pd hm
      refine ⟨q, by omega, h2, fun r hr hq => ?_⟩
      by_cases e : r = p
      · exact hu r e
      · exact h3 r (by omega) hq
    have nu : (clsOf d.o.op ≠ 3 ∨ goA (st p).f d.o.guard = false) → ∀ r, r = p → ¬ Uses D st r pd := by
      rintro hc r rfl ⟨d', e1, e2, e3, _⟩
      rw [a3] at e1; cases e1
      rcases hc with hc | hc
      · exact hc e3
      · rw [hc] at e2; cases e2
    have hmk : ∀ s', s' = st (p + 1) → ∀ v', v' = val p → DSt E (st p) d s' v' → pd ∈ s'.pend → ∃ q, q < p + 1 ∧ Makes D st val q pd ∧ ∀ r, r < p + 1 → q < r → ¬ Uses D st r pd := by
      intro s' es v' ev hs h
      cases hs with
      | skip hg hc => exact old (nu (.inl hc)) h
      | skipT hg hc => exact old (nu (.inr hg)) h
      | «calc» hg ho hv => exact old (nu (.inl (by rw [ho]; simp [clsOf]))) h
      | read hg ho hv ha => exact old (nu (.inl (by rw [ho]; simp [clsOf]))) h
      | make hg ho hv =>
        rcases List.mem_cons.1 h with rfl | h
        · exact ⟨p, by omega, ⟨d, _, _, a3, hg, ho, hv, rfl, by rw [← es], ev.symm⟩, fun r hr hq => by omega⟩
        · exact old (nu (.inl (by rw [ho]; simp [clsOf]))) h
      | turn hg ho hv hn =>
        obtain ⟨h1, h2⟩ := resP_mem.1 h
        refine old ?_ h1
        rintro r rfl ⟨d', e1, _, _, e4⟩
        rw [a3] at e1; cases e1
        exact h2 e4
    exact hmk _ rfl _ rfl hs h
theorem pend_pair (R : Run P E N ops can D st val f0 h0) : ∀ p, p ≤ ops.size → (st p).pend.Pairwise fun a b => a.b ≠ b.b
  | 0, _ => by rw [R.s0]; exact List.Pairwise.nil
  | p + 1, hp => by
    obtain ⟨i, o, d, a1, a2, a3, _⟩ := R.at_ (show p < ops.size by omega)
    have hs := R.step p d a3
    have ih := R.pend_pair p (by omega)
    have hm := R.pend_made p (by omega)
    generalize st (p + 1) = s' at hs
    generalize val p = v' at hs
    cases hs with
    | skip hg hc => exact ih
    | skipT hg hc => exact ih
    | «calc» hg ho hv => exact ih
    | read hg ho hv ha => exact ih
    | make hg ho hv =>
      refine List.pairwise_cons.2 ⟨fun b hb e => ?_, ih⟩
      obtain ⟨q, h1, ⟨d', g', m', _, _, _, _, e2, e3, _⟩, _⟩ := hm b hb
      have := R.n_mono (p := q + 1) (q := p) h1 (by omega)
      rw [e3, Pos.toNat_succ] at this
      have e : (st p).n = b.b := e
      rw [e, e2] at this
      simp only at this
      omega
    | turn hg ho hv hn => exact resP_pair ih
end Run
end Go.Av


namespace Go.Av
variable [Tok]
variable {P : Program}
def doneB (can U : List Nat) (p : Nat) : Bool := match can[p]? with | some i => !decide (i ∈ U) | none => false
theorem doneB_eq {can U : List Nat} {p i : Nat} (h : can[p]? = some i) : doneB can U p = !decide (i ∈ U) := by unfold doneB; rw [h]
theorem goA_same {f f' : Fr} {g : Option (Option Slot × Bool)} (h : Lk f f' (looksG g)) : goA f g = goA f' g := by
  cases g with
  | none => rfl
  | some x =>
    obtain ⟨p, w⟩ := x
    cases p with
    | none => rfl
    | some p => show isB w (f.gt p) = isB w (f'.gt p); rw [h p (by simp [looksG])]
theorem dstIn_of {t : Slot} {l : List Slot} (h : t ∈ l) : dstIn (some t) l = true := by unfold dstIn; exact Run.memP_eq.2 h
theorem nodup_range (n : Nat) : (List.range n).Nodup := List.nodup_range
section
variable {E : Env} {N : Nat} {ops : Array Oper} {can : List Nat} {D : List DOper} {st : Nat → DS} {val : Nat → AVal} {f0 : Fr} {h0 : Hp} {σ0 : Sg} {w0 : World} {ds0 : List Deferred}
/-- what holds when all but U are done -/
structure Inv (P : Program) (N : Nat) (ops : Array Oper) (can : List Nat) (D : List DOper) (st : Nat → DS) (val : Nat → AVal) (f0 : Fr) (h0 : Hp) (σ0 : Sg) (w0 : World) (ds0 : List Deferred) (U : List Nat) (p0 : Nat) (σ : Sg) (a : Act) (w : World) : Prop where
  le0 : p0 ≤ ops.size
  at0 : p0 = 0 ∨ ∃ q, p0 = q + 1 ∧ Run.isT D q = true
  turns : ∀ q i, can[q]? = some i → Run.isT D q = true → (¬ i ∈ U ↔ q < p0)
  closed : ∀ (i : Nat) (o : Oper) (e : Edge), ¬ i ∈ U → ops[i]? = some o → e ∈ o.after → Region.binds .any e = true → ¬ e.on ∈ U
  fr : FrR σ N (frS f0 (Run.dst D) val (doneB can U) ops.size) a.tmps
  sim : Sim σ (st p0).h w
  step : Step σ0 h0 w0 σ (st p0).h w
  nx : (skipN h0.next (made D)).toNat ≤ (st p0).h.next.toNat
  pend : ∀ q i pd, can[q]? = some i → ¬ i ∈ U → Run.Makes D st val q pd → (∀ r, r < p0 → ¬ Run.Uses D st r pd) → PendOk w0.heap.size h0.next σ (st p0).h w pd
  unm : ∀ q i pd, can[q]? = some i → i ∈ U → Run.Makes D st val q pd → σ pd.b = none
  df : a.defers = ds0
namespace Inv
variable {U : List Nat} {p0 : Nat} {σ : Sg} {a : Act} {w : World} {p i : Nat} {o : Oper}
theorem anc (I : Inv P N ops can D st val f0 h0 σ0 w0 ds0 U p0 σ a w) {j : Nat} (h : ancK (Region.before ops) i j = true) (hr : ∀ (o : Oper) (e : Edge), ops[i]? = some o → e ∈ o.after → Region.binds .any e = true → ¬ e.on ∈ U) : ¬ j ∈ U :=
  anc_done (S := fun j => ¬ j ∈ U) I.closed (anc_before h) hr
theorem anc' (I : Inv P N ops can D st val f0 h0 σ0 w0 ds0 U p0 σ a w) {j : Nat} (h : ancK (Region.before ops) i j = true) (hi : ¬ i ∈ U) : ¬ j ∈ U :=
  I.anc h (fun o e ho he hb => I.closed i o e hi ho he hb)
/-- alike where i looks -/
theorem looks (I : Inv P N ops can D st val f0 h0 σ0 w0 ds0 U p0 σ a w) (R : Run P E N ops can D st val f0 h0) (hp : can[p]? = some i) (ho : ops[i]? = some o) (hi : i ∈ U)
    (hr : ∀ (o : Oper) (e : Edge), ops[i]? = some o → e ∈ o.after → Region.binds .any e = true → ¬ e.on ∈ U) : Lk (st p).f (frS f0 (Run.dst D) val (doneB can U) ops.size) (operK P N ops o).looks := by
  have hpm : p < ops.size := by rw [← R.clen]; exact (List.getElem?_eq_some_iff.1 hp).1
  intro t ht
  rw [R.frame p (by omega)]
  refine (frS_agree (by omega) R.uniq (fun q hq hd => ?_)).symm
  obtain ⟨j, oj, dj, b1, b2, b3, b4, _⟩ := R.at_ hq
  have hdj : (operK P N ops oj).dst = some t := by
    unfold Run.dst at hd; rw [b3] at hd; rw [← b4]; exact hd
  rw [doneB_eq b1]
  split
  · rename_i hlt
    rcases (R.pr' hlt b1 hp b2 ho).2.2.2 with h | ⟨h, _⟩
    · have := I.anc h hr; simpa using this
    · rw [hdj, dstIn_of ht] at h; cases h
  · rename_i hge
    by_cases e : q = p
    · subst e; rw [hp] at b1; cases b1; simpa using hi
    · rcases (R.pr' (show p < q by omega) hp b1 ho b2).2.2.2 with h | ⟨_, h, _⟩
      · have : j ∈ U := by
          by_cases hj : j ∈ U
          · exact hj
          · exact absurd hi (I.anc' h hj)
        simpa using this
      · rw [hdj, dstIn_of ht] at h; cases h
theorem mem_er {U : List Nat} (hU : U.Nodup) {i j : Nat} : ¬ j ∈ U.erase i ↔ ¬ j ∈ U ∨ j = i := by
  rw [hU.mem_erase_iff]
  constructor
  · intro h
    by_cases e : j = i
    · exact .inr e
    · exact .inl fun hj => h ⟨e, hj⟩
  · rintro (h | h) ⟨h1, h2⟩
    · exact h h2
    · exact h1 h
/-- the frame when i is done, too -/
theorem frame (I : Inv P N ops can D st val f0 h0 σ0 w0 ds0 U p0 σ a w) (R : Run P E N ops can D st val f0 h0) (hU : U.Nodup) (hp : can[p]? = some i) (ho : ops[i]? = some o) (hi : i ∈ U) (hdst : dstK N o.dst = true)
    {σ' : Sg} (hle : σ.le σ') {v' : Value} (hv : VR σ' (val p) v') : FrR σ' N (frS f0 (Run.dst D) val (doneB can (U.erase i)) ops.size) (a.put o.dst v').tmps := by
  have hpm : p < ops.size := by rw [← R.clen]; exact (List.getElem?_eq_some_iff.1 hp).1
  obtain ⟨i', o', d, a1, a2, a3, a4, _⟩ := R.at_ hpm
  rw [hp] at a1; cases a1
  rw [ho] at a2; cases a2
  have hd : Run.dst D p = posO o.dst := by unfold Run.dst; rw [a3]; show d.o.dst = _; rw [a4]; rfl
  have h1 := put_ok (ac := a) hdst (I.fr.mono hle) hv
  refine h1.congr (fun t => ?_)
  rw [← hd]
  refine frS_add hpm ?_ (fun q hq => ?_) R.uniq t
  · rw [doneB_eq hp]; simpa using hi
  · obtain ⟨j, oj, dj, b1, b2, _⟩ := R.at_ hq
    rw [doneB_eq b1, doneB_eq b1]
    have := mem_er hU (i := i) (j := j)
    by_cases e : q = p
    · subst e; rw [hp] at b1; cases b1
      have h2 : ¬ i ∈ U.erase i := this.2 (.inr rfl)
      simp [h2]
    · have hne : j ≠ i := fun e' => e (R.inj b1 (by rw [e']; exact hp))
      by_cases hj : j ∈ U
      · have : j ∈ U.erase i := by
          by_cases h : j ∈ U.erase i
          · exact h
          · rcases this.1 h with h | h
            · exact absurd hj h
            · exact absurd h hne
        simp [hj, this, e]
      · have h2 : ¬ j ∈ U.erase i := this.2 (.inl hj)
        simp [hj, h2]
theorem closed' (I : Inv P N ops can D st val f0 h0 σ0 w0 ds0 U p0 σ a w) (hU : U.Nodup) (hr : ∀ (o : Oper) (e : Edge), ops[i]? = some o → e ∈ o.after → Region.binds .any e = true → ¬ e.on ∈ U) :
    ∀ (j : Nat) (o : Oper) (e : Edge), ¬ j ∈ U.erase i → ops[j]? = some o → e ∈ o.after → Region.binds .any e = true → ¬ e.on ∈ U.erase i := by
  intro j o e hj ho he hb
  have : ¬ e.on ∈ U := by
    rcases (mem_er hU).1 hj with h | h
    · exact I.closed j o e h ho he hb
    · subst h; exact hr o e ho he hb
  exact (mem_er hU).2 (.inl this)
/-- a step that turns nothing, makes nothing -/
theorem plain (I : Inv P N ops can D st val f0 h0 σ0 w0 ds0 U p0 σ a w) (R : Run P E N ops can D st val f0 h0) (hU : U.Nodup) (hp : can[p]? = some i) (ho : ops[i]? = some o) (hi : i ∈ U) (hdst : dstK N o.dst = true)
    (hr : ∀ (o : Oper) (e : Edge), ops[i]? = some o → e ∈ o.after → Region.binds .any e = true → ¬ e.on ∈ U) (hT : Run.isT D p = false) (hM : ∀ pd, ¬ Run.Makes D st val p pd) {v' : Value} (hv : VR σ (val p) v') :
    Inv P N ops can D st val f0 h0 σ0 w0 ds0 (U.erase i) p0 σ (a.put o.dst v') w where
  le0 := I.le0
  at0 := I.at0
  turns := fun q j hq hT' => by
    have : j ≠ i := fun e => by
      subst e; have := R.inj hq hp; subst this; rw [hT] at hT'; cases hT'
    rw [mem_er hU, ← I.turns q j hq hT']; simp [this]
  closed := I.closed' hU hr
  fr := I.frame R hU hp ho hi hdst (Sg.le_refl _) hv
  sim := I.sim
  step := I.step
  nx := I.nx
  pend := fun q j pd hq hj hm hu => by
    rcases (mem_er hU).1 hj with h | h
    · exact I.pend q j pd hq h hm hu
    · subst h; have := R.inj hq hp; subst this; exact absurd hm (hM pd)
  unm := fun q j pd hq hj hm => I.unm q j pd hq (List.mem_of_mem_erase hj) hm
  df := by rw [put_defers]; exact I.df
/-- where a turn stands -/
theorem turn_at (I : Inv P N ops can D st val f0 h0 σ0 w0 ds0 U p0 σ a w) (R : Run P E N ops can D st val f0 h0) (hp : can[p]? = some i) (hi : i ∈ U)
    (hr : ∀ (o : Oper) (e : Edge), ops[i]? = some o → e ∈ o.after → Region.binds .any e = true → ¬ e.on ∈ U) (hT : Run.isT D p = true) : p0 ≤ p ∧ (st p).h = (st p0).h ∧ (∀ r, p0 ≤ r → r < p → Run.isT D r = false) := by
  have hpm : p < ops.size := by rw [← R.clen]; exact (List.getElem?_eq_some_iff.1 hp).1
  have h1 : p0 ≤ p := by
    have := (I.turns p i hp hT)
    by_cases h : p < p0
    · exact absurd hi (this.2 h)
    · omega
  have h2 : ∀ r, p0 ≤ r → r < p → Run.isT D r = false := by
    intro r h3 h4
    cases h : Run.isT D r with
    | false => rfl
    | true =>
      obtain ⟨j, oj, dj, b1, b2, b3, b4, _⟩ := R.at_ (show r < ops.size by omega)
      obtain ⟨i', oi, di, a1, a2, a3, a4, _⟩ := R.at_ hpm
      rw [hp] at a1; cases a1
      rcases (R.pr' h4 b1 hp b2 a2).2.2.2 with h5 | ⟨_, _, h5, _⟩
      · have := (I.turns r j b1 h).1 (I.anc h5 hr)
        omega
      · exact absurd ⟨by rw [← b4]; exact (Run.isT_eq b3).1 h, by rw [← a4]; exact (Run.isT_eq a3).1 hT⟩ h5
  refine ⟨h1, (R.heaps h1 (by omega)).1 ?_, h2⟩
  clear hT hp
  induction h1 with
  | refl => rfl
  | step h ih =>
    rename_i q
    have e : Run.cnt D (q + 1) = Run.cnt D q + (if Run.isT D q then 1 else 0) := rfl
    show Run.cnt D (q + 1) = _
    rw [e, h2 q h (by omega)]
    simp only [Bool.false_eq_true, if_false, Nat.add_zero]
    exact ih (by omega) (fun r h3 h4 => h2 r h3 (by omega))
/-- turns when i is done -/
theorem turns' (I : Inv P N ops can D st val f0 h0 σ0 w0 ds0 U p0 σ a w) (R : Run P E N ops can D st val f0 h0) (hU : U.Nodup) (hp : can[p]? = some i) (hi : i ∈ U)
    (hr : ∀ (o : Oper) (e : Edge), ops[i]? = some o → e ∈ o.after → Region.binds .any e = true → ¬ e.on ∈ U) (hT : Run.isT D p = true) :
    ∀ q j, can[q]? = some j → Run.isT D q = true → (¬ j ∈ U.erase i ↔ q < p + 1) := by
  intro q j hq hTq
  obtain ⟨h1, _, h2⟩ := I.turn_at R hp hi hr hT
  rw [mem_er hU]
  constructor
  · rintro (h | h)
    · have := (I.turns q j hq hTq).1 h; omega
    · subst h; have := R.inj hq hp; omega
  · intro h
    by_cases e : q = p
    · subst e; rw [hp] at hq; cases hq; exact .inr rfl
    · refine .inl ((I.turns q j hq hTq).2 ?_)
      by_cases h3 : q < p0
      · exact h3
      · have := h2 q (by omega) (by omega); rw [this] at hTq; cases hTq
/-- those that i waits for -/
theorem sel (I : Inv P N ops can D st val f0 h0 σ0 w0 ds0 U p0 σ a w) (R : Run P E N ops can D st val f0 h0) (hp : can[p]? = some i)
    (hr : ∀ (o : Oper) (e : Edge), ops[i]? = some o → e ∈ o.after → Region.binds .any e = true → ¬ e.on ∈ U) (h0p : p0 ≤ p) {need : List Nat} (hn : need = needK (opersK P N ops) (Region.before ops) i (List.range ops.size)) :
    (∀ pd ∈ selP need (st p).pend, PendOk w0.heap.size h0.next σ (st p0).h w pd) ∧ (selP need (st p).pend).Pairwise (fun a b => a.b ≠ b.b) ∧ ∀ pd ∈ selP need (st p).pend, ∃ q, q < p ∧ Run.Makes D st val q pd := by
  have hpm : p < ops.size := by rw [← R.clen]; exact (List.getElem?_eq_some_iff.1 hp).1
  refine ⟨fun pd h => ?_, selP_pair (R.pend_pair p (by omega)), fun pd h => ?_⟩
  · obtain ⟨h1, h2⟩ := selP_mem.1 h
    obtain ⟨q, hq, hm, hu⟩ := R.pend_made p (by omega) pd h1
    obtain ⟨j, oj, dj, b1, b2, b3, b4, b5, _⟩ := R.at_ (show q < ops.size by omega)
    have hm' := hm
    obtain ⟨d', g, m, c1, c2, c3, c4, c5, _⟩ := hm'
    rw [b3] at c1; cases c1
    have hj : pd.i = j := by rw [c5]; exact b5
    rw [hj, hn] at h2
    unfold needK at h2
    simp only [List.mem_filter, Bool.and_eq_true] at h2
    refine I.pend q j pd b1 (I.anc h2.2.1 hr) hm (fun r hr0 hus => ?_)
    by_cases e : q < r
    · exact hu r (by omega) e hus
    · obtain ⟨dr, e1, e2, e3, e4⟩ := hus
      by_cases e' : r = q
      · subst e'; rw [b3] at e1; cases e1; rw [c3] at e3; cases e3
      · obtain ⟨k, ok, dk, k1, k2, k3, k4, k5, k6, k7, _⟩ := R.at_ (show r < ops.size by omega)
        rw [k3] at e1; cases e1
        rw [k7, hj] at e4
        unfold needK at e4
        simp only [List.mem_filter, Bool.and_eq_true] at e4
        have := (R.pr' (show r < q by omega) k1 b1 k2 b2).2.1
        rw [e4.2.1] at this; cases this
  · obtain ⟨h1, h2⟩ := selP_mem.1 h
    obtain ⟨q, hq, hm, _⟩ := R.pend_made p (by omega) pd h1
    exact ⟨q, hq, hm⟩
end Inv
end
end Go.Av


namespace Go.Av
variable [Tok]
variable {P : Program}
/-- a place is kept for a new block -/
theorem Step.reserve {σ0 σ : Sg} {h0 H : Hp} {w0 w w' : World} (t : Step σ0 h0 w0 σ H w) (s : Sim σ H w) {b : Pos} {I : BI} (hb : σ b = none) (hlo : h0.next.toNat ≤ b.toNat) (hI : I.cb = w.heap.size)
    (hsz : w'.heap.size = w.heap.size + 1) (hw : ∀ k, k < w.heap.size → w'.heap[k]? = w.heap[k]?) (hs : Wsame w w') : Step σ0 h0 w0 (σ.set b I) H w' := by
  have hsize := t.size
  refine ⟨Sg.le_trans t.le (Sg.le_set I hb), hs.os.trans t.os, hs.tape.trans t.tape, hs.output.trans t.output, by omega, fun k hk hn => (hw k (by omega)).trans (t.unt k hk hn), ?_, t.nx, ?_, t.dom, ?_⟩
  · rintro k hk ⟨c, x, J, hc, hx, hJ, e⟩
    by_cases ec : c = b
    · subst ec; rw [Sg.set_same] at hJ; cases hJ; omega
    · rw [Sg.set_other _ _ ec] at hJ; exact t.tch k hk ⟨c, x, J, hc, hx, hJ, e⟩
  · intro c hc
    rw [Sg.set_other _ _ (fun e => by subst e; omega)]; exact t.old c hc
  · intro k hk hn c J hJ e
    by_cases ec : c = b
    · subst ec; rw [Sg.set_same] at hJ; cases hJ; omega
    · rw [Sg.set_other _ _ ec] at hJ; exact t.nm k hk hn c J hJ e
section
variable {E : Env} {N : Nat} {ops : Array Oper} {can : List Nat} {D : List DOper} {st : Nat → DS} {val : Nat → AVal} {f0 : Fr} {h0 : Hp} {σ0 : Sg} {w0 : World} {ds0 : List Deferred}
namespace Run
theorem makes_fun {q : Nat} {pd pd' : Pd} (h1 : Makes D st val q pd) (h2 : Makes D st val q pd') : pd = pd' := by
  obtain ⟨d, g, m, a1, a2, a3, a4, a5, _⟩ := h1
  obtain ⟨d', g', m', b1, b2, b3, b4, b5, _⟩ := h2
  rw [a1] at b1; cases b1
  rw [a3] at b3; cases b3
  rw [a4] at b4; cases b4
  rw [a5, b5]
theorem makes_inj (R : Run P E N ops can D st val f0 h0) {q q' : Nat} {pd pd' : Pd} (hq : q < ops.size) (hq' : q' < ops.size) (h1 : Makes D st val q pd) (h2 : Makes D st val q' pd') (e : pd.b = pd'.b) : q = q' := by
  rcases Nat.lt_trichotomy q q' with h | h | h
  · have := R.makes_b h (by omega) h1 h2; rw [e] at this; omega
  · exact h
  · have := R.makes_b h (by omega) h2 h1; rw [e] at this; omega
theorem cnt_cntT (R : Run P E N ops can D st val f0 h0) : ∀ p, p ≤ ops.size → cntT (opersK P N ops) (can.take p) = cnt D p
  | 0, _ => by simp [cntT, cnt]
  | p + 1, hp => by
    have ih := R.cnt_cntT p (by omega)
    obtain ⟨i, o, d, a1, a2, a3, a4, _⟩ := R.at_ (show p < ops.size by omega)
    rw [List.take_succ, a1]
    unfold cntT at ih ⊢
    rw [List.filter_append, List.length_append, ih]
    have hc : clsAt (opersK P N ops) i = clsOf d.o.op := by unfold clsAt; rw [opersK_get.2 ⟨o, a2, rfl⟩, a4]
    have hT : isT D p = Nat.beq (clsOf d.o.op) 3 := by unfold isT; rw [a3]
    simp only [Option.toList_some, List.filter_cons, List.filter_nil, hc]
    show cnt D p + _ = cnt D p + (if isT D p then 1 else 0)
    rw [hT]
    cases Nat.beq (clsOf d.o.op) 3 <;> simp
end Run
namespace Inv
variable {U : List Nat} {p0 : Nat} {σ : Sg} {a : Act} {w : World} {p i : Nat} {o : Oper}
/-- where a read stands -/
theorem read_at (I : Inv P N ops can D st val f0 h0 σ0 w0 ds0 U p0 σ a w) (R : Run P E N ops can D st val f0 h0) (hp : can[p]? = some i) (ho : ops[i]? = some o) (hi : i ∈ U)
    (hr : ∀ (o : Oper) (e : Edge), ops[i]? = some o → e ∈ o.after → Region.binds .any e = true → ¬ e.on ∈ U) (hc : clsOf (operK P N ops o).op = 1) : p0 ≤ p ∧
    ((st p).h = (st p0).h ∨ ∃ c, c < cntT (opersK P N ops) (can.take p) - countA (Region.before ops) i (wsOf P N ops) ∧ (st p).hs[c]? = some (st p0).h) := by
  have hpm : p < ops.size := by rw [← R.clen]; exact (List.getElem?_eq_some_iff.1 hp).1
  have h1 : p0 ≤ p := by
    rcases I.at0 with h | ⟨q, h, hq⟩
    · omega
    · by_cases hlt : p < p0
      · obtain ⟨j, oj, dj, b1, b2, b3, b4, _⟩ := R.at_ (show q < ops.size by have := I.le0; omega)
        have hcj := (Run.isT_eq b3).1 hq
        rw [b4] at hcj
        by_cases e : q = p
        · subst e; rw [hp] at b1; cases b1; rw [ho] at b2; cases b2; rw [hc] at hcj; cases hcj
        · rcases (R.pr' (show p < q by omega) hp b1 ho b2).2.2.2 with h2 | ⟨_, _, _, h2⟩
          · exact absurd hi (I.anc' h2 ((I.turns q j b1 hq).2 (by omega)))
          · exact absurd ⟨hc, hcj⟩ h2
      · omega
  refine ⟨h1, ?_⟩
  have hle := Run.cnt_mono (D := D) h1
  by_cases e : Run.cnt D p = Run.cnt D p0
  · exact .inl ((R.heaps h1 (by omega)).1 e)
  · refine .inr ⟨Run.cnt D p - Run.cnt D p0 - 1, ?_, (R.heaps h1 (by omega)).2 _ (by omega)⟩
    rw [R.cnt_cntT p (by omega)]
    have hA : countA (Region.before ops) i (wsOf P N ops) ≤ Run.cnt D p0 := by
      rw [← R.cnt_cntT p0 I.le0]
      unfold countA cntT
      refine nodup_le ((nodup_range _).filter _ |>.filter _) (fun j hj => ?_)
      unfold wsOf at hj
      simp only [List.mem_filter, List.mem_range] at hj ⊢
      obtain ⟨⟨hj1, hj2⟩, hj3⟩ := hj
      refine ⟨?_, hj2⟩
      obtain ⟨q, hq, hqc⟩ := R.pos_ hj1
      obtain ⟨j', oj, dj, b1, b2, b3, b4, _⟩ := R.at_ hq
      rw [hqc] at b1; cases b1
      have hT : Run.isT D q = true := (Run.isT_eq b3).2 (by
        unfold clsAt at hj2; rw [opersK_get.2 ⟨oj, b2, rfl⟩] at hj2
        rw [b4]; simpa using hj2)
      have hlt := (I.turns q j hqc hT).1 (I.anc hj3 hr)
      exact List.mem_of_getElem? (i := q) (by rw [List.getElem?_take, if_pos hlt]; exact hqc)
    omega
/-- a new block -/
theorem made (I : Inv P N ops can D st val f0 h0 σ0 w0 ds0 U p0 σ a w) (R : Run P E N ops can D st val f0 h0) (hU : U.Nodup) (hp : can[p]? = some i) (ho : ops[i]? = some o) (hi : i ∈ U) (hdst : dstK N o.dst = true)
    (hr : ∀ (o : Oper) (e : Edge), ops[i]? = some o → e ∈ o.after → Region.binds .any e = true → ¬ e.on ∈ U) (hT : Run.isT D p = false) {pd : Pd} (hM : Run.Makes D st val p pd) {v' : Value} {w' : World} {J : BI}
    (h4 : J.cb = w.heap.size) (h5 : w'.heap.size = w.heap.size + 1) (h6 : ∀ k, k < w.heap.size → w'.heap[k]? = w.heap[k]?) (h7 : Wsame w w') (h8 : ∀ c, pd.x = .cells c → c.stale = [])
    (h9 : ∀ τ : Sg, σ.le τ → τ pd.b = some J → VR τ (val p) v' ∧ BlkR τ w'.heap[J.cb]? J pd.x) :
    Inv P N ops can D st val f0 h0 σ0 w0 ds0 (U.erase i) p0 (σ.set pd.b J) (a.put o.dst v') w' := by
  have hpm : p < ops.size := by rw [← R.clen]; exact (List.getElem?_eq_some_iff.1 hp).1
  have hb : σ pd.b = none := I.unm p i pd hp hi hM
  have hle : σ.le (σ.set pd.b J) := Sg.le_set J hb
  obtain ⟨hlo, hhi⟩ := R.makes_hi hpm hM
  obtain ⟨g1, g2⟩ := h9 _ hle (Sg.set_same _ _ _)
  have hnx := I.nx
  obtain ⟨s1, _⟩ := I.sim.reserve hb (by omega) h4 h5 h6 h7
  have hwsz := I.step.size
  exact {
    le0 := I.le0
    at0 := I.at0
    turns := fun q j hq hT' => by
      have : j ≠ i := fun e => by
        subst e; have := R.inj hq hp; subst this; rw [hT] at hT'; cases hT'
      rw [mem_er hU, ← I.turns q j hq hT']; simp [this]
    closed := I.closed' hU hr
    fr := I.frame R hU hp ho hi hdst hle g1
    sim := s1
    step := I.step.reserve I.sim hb hlo h4 h5 h6 h7
    nx := I.nx
    pend := fun q j pd' hq hj hm hu => by
      have hqm : q < ops.size := by rw [← R.clen]; exact (List.getElem?_eq_some_iff.1 hq).1
      by_cases e : q = p
      · subst e
        have := Run.makes_fun hm hM
        subst this
        refine ⟨⟨J, Sg.set_same _ _ _, g2, fun c K hc e => ?_, by omega⟩, ?_, h8, hlo⟩
        · by_cases ec : c = pd'.b
          · exact ec
          · rw [Sg.set_other _ _ ec] at hc
            have := I.sim.bound c K hc; omega
        · cases hg : (st p0).h.get pd'.b with
          | none => rfl
          | some x => obtain ⟨K, hK⟩ := I.sim.old hg; rw [hb] at hK; cases hK
      · have hji : ¬ j ∈ U := by
          rcases (mem_er hU).1 hj with h | h
          · exact h
          · subst h; exact absurd (R.inj hq hp) e
        have hk := I.pend q j pd' hq hji hm hu
        obtain ⟨K, k1, k2, k3, k4⟩ := hk.ex
        have hne : pd'.b ≠ pd.b := fun e' => e (R.makes_inj hqm hpm hm hM e')
        have hKb := I.sim.bound _ _ k1
        refine ⟨⟨K, by rw [Sg.set_other _ _ hne]; exact k1, by rw [h6 _ hKb]; exact k2.mono hle, fun c L hc e => ?_, k4⟩, hk.no, hk.st, hk.lo⟩
        by_cases ec : c = pd.b
        · subst ec; rw [Sg.set_same] at hc; cases hc; omega
        · rw [Sg.set_other _ _ ec] at hc; exact k3 c L hc e
    unm := fun q j pd' hq hj hm => by
      have hqm : q < ops.size := by rw [← R.clen]; exact (List.getElem?_eq_some_iff.1 hq).1
      have hne : pd'.b ≠ pd.b := fun e' => by
        have := R.makes_inj hqm hpm hm hM e'
        subst this; rw [hp] at hq; cases hq
        exact absurd hj ((mem_er hU).2 (.inr rfl))
      rw [Sg.set_other _ _ hne]
      exact I.unm q j pd' hq (List.mem_of_mem_erase hj) hm
    df := by rw [put_defers]; exact I.df }
/-- a turn that is not done -/
theorem skipT (I : Inv P N ops can D st val f0 h0 σ0 w0 ds0 U p0 σ a w) (R : Run P E N ops can D st val f0 h0) (hU : U.Nodup) (hp : can[p]? = some i) (ho : ops[i]? = some o) (hi : i ∈ U) (hdst : dstK N o.dst = true)
    (hr : ∀ (o : Oper) (e : Edge), ops[i]? = some o → e ∈ o.after → Region.binds .any e = true → ¬ e.on ∈ U) (hT : Run.isT D p = true) (hh : (st (p + 1)).h = (st p).h) (hM : ∀ pd, ¬ Run.Makes D st val p pd) {v' : Value} (hv : VR σ (val p) v') :
    Inv P N ops can D st val f0 h0 σ0 w0 ds0 (U.erase i) (p + 1) σ (a.put o.dst v') w := by
  have hpm : p < ops.size := by rw [← R.clen]; exact (List.getElem?_eq_some_iff.1 hp).1
  obtain ⟨t1, t2, t3⟩ := I.turn_at R hp hi hr hT
  have e : (st (p + 1)).h = (st p0).h := hh.trans t2
  exact {
    le0 := hpm
    at0 := .inr ⟨p, rfl, hT⟩
    turns := I.turns' R hU hp hi hr hT
    closed := I.closed' hU hr
    fr := I.frame R hU hp ho hi hdst (Sg.le_refl _) hv
    sim := by rw [e]; exact I.sim
    step := by rw [e]; exact I.step
    nx := by rw [e]; exact I.nx
    pend := fun q j pd hq hj hm hu => by
      rw [e]
      rcases (mem_er hU).1 hj with h | h
      · exact I.pend q j pd hq h hm (fun r hr => hu r (by omega))
      · subst h; have := R.inj hq hp; subst this; exact absurd hm (hM pd)
    unm := fun q j pd hq hj hm => I.unm q j pd hq (List.mem_of_mem_erase hj) hm
    df := by rw [put_defers]; exact I.df }
/-- a turn -/
theorem turned (I : Inv P N ops can D st val f0 h0 σ0 w0 ds0 U p0 σ a w) (R : Run P E N ops can D st val f0 h0) (hU : U.Nodup) (hp : can[p]? = some i) (ho : ops[i]? = some o) (hi : i ∈ U) (hdst : dstK N o.dst = true)
    (hr : ∀ (o : Oper) (e : Edge), ops[i]? = some o → e ∈ o.after → Region.binds .any e = true → ¬ e.on ∈ U) (hT : Run.isT D p = true) (hM : ∀ pd, ¬ Run.Makes D st val p pd) {d : DOper} (hD : D[p]? = some d) (hgd : goA (st p).f d.o.guard = true)
    {hin : Hp} (hin_eq : hin = layP (st p0).h (selP d.need (st p).pend)) {σ' : Sg} {w' : World} {v' : Value} (hv : VR σ' (val p) v') (s' : Sim σ' (st (p + 1)).h w') (t' : Step σ hin w σ' (st (p + 1)).h w') :
    Inv P N ops can D st val f0 h0 σ0 w0 ds0 (U.erase i) (p + 1) σ' (a.put o.dst v') w' := by
  have hpm : p < ops.size := by rw [← R.clen]; exact (List.getElem?_eq_some_iff.1 hp).1
  obtain ⟨t1, t2, t3⟩ := I.turn_at R hp hi hr hT
  obtain ⟨i', o', d', a1, a2, a3, a4, a5, a6, a7, _⟩ := R.at_ hpm
  rw [hp] at a1; cases a1
  rw [ho] at a2; cases a2
  rw [hD] at a3; cases a3
  obtain ⟨l1, l2, l3⟩ := I.sel R hp hr t1 a7
  obtain ⟨s1, st1, g1, n1⟩ := lay_all I.sim I.step _ l1 l2
  rw [← hin_eq] at s1 st1 g1 n1
  have hnx := I.nx
  have hcls : clsOf d.o.op = 3 := (Run.isT_eq hD).1 hT
  exact {
    le0 := hpm
    at0 := .inr ⟨p, rfl, hT⟩
    turns := I.turns' R hU hp hi hr hT
    closed := I.closed' hU hr
    fr := I.frame R hU hp ho hi hdst t'.le hv
    sim := s'
    step := st1.trans t'
    nx := by have := t'.nx; rw [n1] at this; omega
    pend := fun q j pd hq hj hm hu => by
      have hqm : q < ops.size := by rw [← R.clen]; exact (List.getElem?_eq_some_iff.1 hq).1
      have hji : ¬ j ∈ U := by
        rcases (mem_er hU).1 hj with h | h
        · exact h
        · subst h; have := R.inj hq hp; subst this; exact absurd hm (hM pd)
      have hk := I.pend q j pd hq hji hm (fun r hr => hu r (by omega))
      obtain ⟨K, k1, k2, k3, k4⟩ := hk.ex
      have hno : hin.get pd.b = none := by
        rw [g1 pd.b (fun pd' hpd' e => ?_)]
        · exact hk.no
        · obtain ⟨q', hq', hm'⟩ := l3 pd' hpd'
          have hqq := R.makes_inj (by omega) hqm hm' hm e
          subst hqq
          have := Run.makes_fun hm' hm
          subst this
          exact hu p (by omega) ⟨d, hD, hgd, hcls, (selP_mem.1 hpd').2⟩
      have hKb := I.sim.bound _ _ k1
      have hnt : ¬ Tch σ hin K.cb := by
        rintro ⟨b, x, L, hb, hx, hL, e⟩
        have := k3 b L hL e
        subst this
        rw [hno] at hb; cases hb
      have hhi := (R.makes_hi hqm hm).2
      refine ⟨⟨K, t'.le _ _ k1, by rw [t'.unt _ hKb hnt]; exact k2.mono t'.le, fun c L hc e => k3 c L (t'.nm _ hKb hnt c L hc e) e, k4⟩, t'.dom _ (by rw [n1]; omega) hno, hk.st, hk.lo⟩
    unm := fun q j pd hq hj hm => by
      have hqm : q < ops.size := by rw [← R.clen]; exact (List.getElem?_eq_some_iff.1 hq).1
      have hhi := (R.makes_hi hqm hm).2
      rw [t'.old _ (by rw [n1]; omega)]
      exact I.unm q j pd hq (List.mem_of_mem_erase hj) hm
    df := by rw [put_defers]; exact I.df }
end Inv
end
end Go.Av


namespace Go.Av
variable [Tok]
variable {P : Program}
section
variable {E : Env} {F : Fence} {N n : Nat} {ops : Array Oper} {can : List Nat} {D : List DOper} {st : Nat → DS} {val : Nat → AVal} {f0 : Fr} {h0 : Hp} {σ0 : Sg} {w0 : World} {ds0 : List Deferred}
theorem one_ok (hF : FenceOk F) (hC : CallOk P (callF E.fs E.go)) (hR : RoundOk P (roundF E.P E.go)) (R : Run P E N ops can D st val f0 h0) (ha : ∀ p ∈ ops.toList, dstK N p.dst = true) (hg0 : GlobR P σ0)
    {U : List Nat} {p0 : Nat} {σ : Sg} {a : Act} {w : World} {i : Nat} (I : Inv P N ops can D st val f0 h0 σ0 w0 ds0 U p0 σ a w) (hU : U.Nodup) (him : i < ops.size) (hi : i ∈ U)
    (hr : ∀ (o : Oper) (e : Edge), ops[i]? = some o → e ∈ o.after → Region.binds .any e = true → ¬ e.on ∈ U) {K : Act → World → Prop} {Q : Exit → Act → World → Prop}
    (hK : ∀ p0' σ' a' w', Inv P N ops can D st val f0 h0 σ0 w0 ds0 (U.erase i) p0' σ' a' w' → K a' w') : wpOpIn F n P ops Q i K a w := by
  obtain ⟨p, hpm, hp⟩ := R.pos_ him
  obtain ⟨i', o, d, a1, ho, hD, hdo, hdi, hdl, hdn, _⟩ := R.at_ hpm
  rw [hp] at a1; cases a1
  have hdst : dstK N o.dst = true := ha o (by rw [Array.mem_toList_iff]; exact Array.mem_of_getElem? ho)
  have hlk := I.looks R hp ho hi hr
  have hg : GlobR P σ := hg0.mono I.step.le
  have hgd : goA (st p).f (guardK ops o.guard) = goA (frS f0 (Run.dst D) val (doneB can U) ops.size) (guardK ops o.guard) :=
    goA_same (fun t ht => hlk t (by show t ∈ (operK P N ops o).looks; unfold operK; exact List.mem_append_left _ ht))
  have hs := R.step p d hD
  have hguard : d.o.guard = guardK ops o.guard := by rw [hdo]; rfl
  have hop : d.o.op = opK P N o := by rw [hdo]; rfl
  have nM : clsOf d.o.op ≠ 2 ∨ goA (st p).f d.o.guard = false → ∀ pd, ¬ Run.Makes D st val p pd := by
    rintro hc pd ⟨d', g, m, e1, e2, e3, _⟩
    rw [hD] at e1; cases e1
    rcases hc with hc | hc
    · rw [e3] at hc; exact hc rfl
    · rw [hc] at e2; cases e2
  have nT : clsOf d.o.op ≠ 3 → Run.isT D p = false := by
    intro hc
    cases h : Run.isT D p with
    | false => rfl
    | true => exact absurd ((Run.isT_eq hD).1 h) hc
  unfold wpOpIn
  simp only [ho]
  rw [← guard_ok (o := o) ha I.fr, ← hgd, ← hguard]
  have hsame : ∀ A, opK P N o = A → clsOf A ≤ 3 → (∃ A', cop P o.op = some A' ∧ A' = A) ∨ A = kFail := by
    intro A hA _
    rcases opK_cases (P := P) (N := N) (o := o) with ⟨_, A', hc, h⟩ | h
    · exact .inl ⟨A', hc, by rw [← h, hA]⟩
    · exact .inr (by rw [← hA, h])
  have hlk2 : Lk (st p).f (frS f0 (Run.dst D) val (doneB can U) ops.size) (looksO o.op.operands.toList) :=
    fun t ht => hlk t (by show t ∈ (operK P N ops o).looks; unfold operK; exact List.mem_append_right _ ht)
  -- where the operation is done
  have key : ∀ s' v', s' = st (p + 1) → v' = val p → DSt E (st p) d s' v' → if goA (st p).f d.o.guard = true then o.wpIn F n P a w K Q else (∀ f, o.about P w a.eval = some f → F.fn f) ∧ K (a.put o.dst undef) w := by
    intro s' v' es ev hs
    cases hs with
    | skip hgf hc =>
      rw [if_neg (by rw [hgf]; simp)]
      exact ⟨fun f _ => hF.fn f, hK p0 σ _ _ (I.plain R hU hp ho hi hdst hr (nT hc) (nM (.inr hgf)) (by rw [← ev]; exact VR_undef))⟩
    | skipT hgf hc =>
      rw [if_neg (by rw [hgf]; simp)]
      exact ⟨fun f _ => hF.fn f, hK (p + 1) σ _ _ (I.skipT R hU hp ho hi hdst hr ((Run.isT_eq hD).2 hc) (by rw [← es]) (nM (.inr hgf)) (by rw [← ev]; exact VR_undef))⟩
    | «calc» hgt hop' hv =>
      rename_i g
      rw [if_pos hgt]
      refine ⟨fun f _ => hF.fn f, ?_⟩
      rw [hop] at hop'
      rcases hsame _ hop' (by simp [clsOf]) with ⟨A, hc, rfl⟩ | h
      · rw [Oper.semAt_plain F _ _ (cop_not_defer hc)]
        have hS := cop_ok hc
        have hc' := cop_same hc hlk2 (st p).h
        rw [hc'] at hv
        obtain ⟨u, h3, h4⟩ := hS σ N _ a (st p).h w _ I.fr hg hv
        rw [h3]
        exact hK p0 σ _ _ (I.plain R hU hp ho hi hdst hr (nT (by rw [hop, hop']; simp [clsOf])) (nM (.inl (by rw [hop, hop']; simp [clsOf]))) (by rw [← ev]; exact h4))
      · unfold kFail at h; cases h; cases hv
    | read hgt hop' hv hal =>
      rename_i g
      rw [if_pos hgt]
      refine ⟨fun f _ => hF.fn f, ?_⟩
      have hcl : clsOf (operK P N ops o).op = 1 := by rw [← hdo, hop']; rfl
      obtain ⟨hle, hh⟩ := I.read_at R hp ho hi hr hcl
      obtain ⟨l1, l2, l3⟩ := I.sel R hp hr hle hdn
      obtain ⟨s1, st1, g1, n1⟩ := lay_all I.sim I.step _ l1 l2
      have hval : g (st p).f (layP (st p0).h (selP d.need (st p).pend)) = some v' := by
        rcases hh with h | ⟨c, hc, h⟩
        · rw [← h]; exact hv
        · obtain ⟨h', k1, k2⟩ := alike_eq hal c (by rw [hdl]; exact hc)
          rw [h] at k1; cases k1; exact k2
      rw [hop] at hop'
      rcases hsame _ hop' (by simp [clsOf]) with ⟨A, hc, rfl⟩ | h
      · rw [Oper.semAt_plain F _ _ (cop_not_defer hc)]
        have hS := cop_ok hc
        have hc' := cop_same hc hlk2 (layP (st p0).h (selP d.need (st p).pend))
        rw [hc'] at hval
        obtain ⟨u, h3, h4⟩ := hS σ N _ a _ w _ I.fr hg s1 hval
        rw [h3]
        exact hK p0 σ _ _ (I.plain R hU hp ho hi hdst hr (nT (by rw [hop, hop']; simp [clsOf])) (nM (.inl (by rw [hop, hop']; simp [clsOf]))) (by rw [← ev]; exact h4))
      · unfold kFail at h; cases h
    | make hgt hop' hv =>
      rename_i g m
      rw [if_pos hgt]
      refine ⟨fun f _ => hF.fn f, ?_⟩
      have hM : Run.Makes D st val p ⟨d.idx, (st p).n, m.2⟩ := ⟨d, g, m, hD, hgt, hop', hv, rfl, by rw [← es], ev.symm⟩
      have hnT : Run.isT D p = false := nT (by rw [hop']; simp [clsOf])
      rw [hop] at hop'
      rcases hsame _ hop' (by simp [clsOf]) with ⟨A, hc, rfl⟩ | h
      · rw [Oper.semAt_plain F _ _ (cop_not_defer hc)]
        have hS := cop_ok hc
        have hc' := cop_same hc hlk2 (st p).n
        rw [hc'] at hv
        obtain ⟨u, w', J, h3, h4, h5, h6, h7, h8, h9⟩ := hS σ N _ a (st p).n w _ I.fr hg hv
        rw [h3]
        exact hK p0 _ _ _ (I.made R hU hp ho hi hdst hr hnT hM h4 h5 h6 h7 h8 (by rw [← ev]; exact h9))
      · unfold kFail at h; cases h
    | turn hgt hop' hv hn =>
      rename_i g nx h'
      rw [if_pos hgt]
      refine ⟨fun f _ => hF.fn f, ?_⟩
      have hT : Run.isT D p = true := (Run.isT_eq hD).2 (by rw [hop']; rfl)
      obtain ⟨t1, t2, t3⟩ := I.turn_at R hp hi hr hT
      obtain ⟨l1, l2, l3⟩ := I.sel R hp hr t1 hdn
      obtain ⟨s1, st1, g1, n1⟩ := lay_all I.sim I.step _ l1 l2
      rw [t2] at hv hn
      have hh : (st (p + 1)).h = h' := by rw [← es]
      have hnM := nM (.inl (by rw [hop']; simp [clsOf]))
      rw [hop] at hop'
      rcases hsame _ hop' (by simp [clsOf]) with ⟨A, hc, rfl⟩ | h
      · rw [Oper.semAt_plain F _ _ (cop_not_defer hc)]
        have hS := cop_ok hc
        have hc' := cop_same hc hlk2 (layP (st p0).h (selP d.need (st p).pend))
        rw [hc'] at hv
        exact nx_ok hF hC hR hg s1 hn (hS σ N _ a _ w nx I.fr hg s1 hv) (fun u w' σ' g1 g2 g3 =>
          hK (p + 1) σ' _ _ (I.turned R hU hp ho hi hdst hr hT hnM hD hgt rfl (by rw [← ev]; exact g1) (by rw [hh]; exact g2) (by rw [hh]; exact g3)))
      · unfold kFail at h; cases h
  exact key _ _ rfl rfl hs
/-- every order -/
theorem any_ok (hF : FenceOk F) (hC : CallOk P (callF E.fs E.go)) (hR : RoundOk P (roundF E.P E.go)) (R : Run P E N ops can D st val f0 h0) (ha : ∀ p ∈ ops.toList, dstK N p.dst = true) (hg0 : GlobR P σ0) {Q : Exit → Act → World → Prop}
    (hQ : ∀ p0 σ a w, Inv P N ops can D st val f0 h0 σ0 w0 ds0 [] p0 σ a w → Q .normal a w) :
    ∀ (U : List Nat) (listed : Array Bool) (p0 : Nat) (σ : Sg) (a : Act) (w : World), U.Nodup → (∀ j ∈ U, j < ops.size) → listed.size = ops.size → (∀ j, j < ops.size → (listed.getD j true = true ↔ ¬ j ∈ U)) →
      Inv P N ops can D st val f0 h0 σ0 w0 ds0 U p0 σ a w → wpAnyIn F n P .any ops Q U.length listed a w := by
  have hget : ∀ (listed : Array Bool) (j : Nat), listed.size = ops.size → j < ops.size → listed.getD j false = listed.getD j true := fun l j h1 h2 => by
    have : j < l.size := by omega
    simp [this]
  have hready : ∀ (U : List Nat) (listed : Array Bool), listed.size = ops.size → (∀ j, j < ops.size → (listed.getD j true = true ↔ ¬ j ∈ U)) → ∀ i, i ∈ Region.ready .any ops listed →
      i < ops.size ∧ i ∈ U ∧ ∀ (o : Oper) (e : Edge), ops[i]? = some o → e ∈ o.after → Region.binds .any e = true → ¬ e.on ∈ U := by
    intro U listed hsz hl i hi
    obtain ⟨h1, o, h2, h3⟩ := mem_ready.1 hi
    have him : i < ops.size := (Array.getElem?_eq_some_iff.1 h2).1
    refine ⟨him, ?_, fun o' e ho he hb => ?_⟩
    · by_cases h : i ∈ U
      · exact h
      · rw [(hl i him).2 h] at h1; cases h1
    · rw [h2] at ho; cases ho
      have h4 := R.edge i o e h2 he hb
      have h5 := h3 e he hb
      rw [hget listed e.on hsz (by omega)] at h5
      exact (hl e.on (by omega)).1 h5
  have hnil : ∀ (U : List Nat) (listed : Array Bool), listed.size = ops.size → (∀ j ∈ U, j < ops.size) → (∀ j, j < ops.size → (listed.getD j true = true ↔ ¬ j ∈ U)) → Region.ready .any ops listed = [] → U = [] := by
    intro U listed hsz hU hl h
    have : ∀ i, i < ops.size → ¬ i ∈ U := by
      intro i
      induction i using Nat.strongRecOn with
      | ind i ih =>
        intro him hi
        have : i ∈ Region.ready .any ops listed := by
          refine mem_ready.2 ⟨?_, _, Array.getElem?_eq_getElem him, fun e he hb => ?_⟩
          · cases h' : listed.getD i true with
            | false => rfl
            | true => exact absurd hi ((hl i him).1 h')
          · have h4 := R.edge i _ e (Array.getElem?_eq_getElem him) he hb
            rw [hget listed e.on hsz (by omega)]
            exact (hl e.on (by omega)).2 (ih e.on h4 (by omega))
        rw [h] at this; cases this
    cases U with
    | nil => rfl
    | cons j r => exact absurd (List.mem_cons_self) (this j (hU j (by simp)))
  intro U
  generalize hk : U.length = k
  induction k generalizing U with
  | zero =>
    intro listed p0 σ a w hU hlt hsz hl I
    have : U = [] := List.eq_nil_of_length_eq_zero hk
    subst this
    refine ⟨?_, hQ p0 σ a w I⟩
    cases h : Region.ready .any ops listed with
    | nil => rfl
    | cons i r =>
      have := (hready [] listed hsz hl i (by rw [h]; simp)).2.1
      cases this
  | succ k ih =>
    intro listed p0 σ a w hU hlt hsz hl I
    refine ⟨fun h => ?_, fun i hi => ?_⟩
    · have := hnil U listed hsz hlt hl h
      subst this; simp at hk
    · obtain ⟨him, hiU, hr⟩ := hready U listed hsz hl i hi
      refine one_ok hF hC hR R ha hg0 I hU him hiU hr (fun p0' σ' a' w' I' => ?_)
      refine ih (U.erase i) (by rw [List.length_erase_of_mem hiU]; omega) (listed.setIfInBounds i true) p0' σ' a' w' (hU.erase i) (fun j hj => hlt j (List.mem_of_mem_erase hj)) (by simpa using hsz) (fun j hj => ?_) I'
      rw [Inv.mem_er hU]
      by_cases e : i = j
      · subst e
        have : i < listed.size := by omega
        simp [this]
      · rw [getD_set_ne true e, hl j hj]
        have : j ≠ i := fun h => e h.symm
        simp [this]
end
section
variable {E : Env} {F : Fence} {B N n : Nat} {σ : Sg} {h : Hp} {w : World} {f : Fr} {ac : Act} {o : Out}
theorem dregion_ok (hF : FenceOk F) (hC : CallOk P (callF E.fs E.go)) (hR : RoundOk P (roundF E.P E.go)) (hmx : P.follows .mixedOrders = true) {id : Nat} {ops : Array Oper} {D : List DOper} (ha : ∀ p ∈ ops.toList, dstK N p.dst = true) (hD : planK P N ops = some D)
    (hf : FrR σ N f ac.tmps) (hg : GlobR P σ) (s : Sim σ h w) (hm : MarksOk B w ac.defers) (hx : cDregion D E f h = some o) : (Code.region id ops true).wpIn F n P (PostO B N σ h w o) ac w := by
  unfold cDregion at hx
  rw [ob_eq] at hx
  obtain ⟨sm, h1, h2⟩ := hx
  obtain ⟨can, st, val, R, hsm⟩ := plan_run hD h1
  cases h2
  refine wpIn_region_any hmx ?_
  have hcard : (List.range ops.size).length = ops.size := List.length_range
  have hnx : (st 0).h.next.toNat = (skipN h.next (made D)).toNat := by rw [R.s0]
  have hdrew := s.drew (w.drawn + 1)
  have s0 : Sim σ (st 0).h { w with drawn := w.drawn + 1 } := by
    rw [R.s0]; exact hdrew.1.next_up (by rw [Run.skipN_toNat]; omega)
  have t0 : Step σ h w σ (st 0).h { w with drawn := w.drawn + 1 } := by
    rw [R.s0]
    have t := hdrew.2
    exact ⟨t.le, t.os, t.tape, t.output, t.size, t.unt, t.tch, (by show h.next.toNat ≤ (skipN h.next (made D)).toNat; rw [Run.skipN_toNat]; omega), t.old, t.dom, t.nm⟩
  have I0 : Inv P N ops can D st val f h σ w ac.defers (List.range ops.size) 0 σ ac { w with drawn := w.drawn + 1 } := {
    le0 := Nat.zero_le _
    at0 := .inl rfl
    turns := fun q i hq _ => by
      have hqm : q < ops.size := by rw [← R.clen]; exact (List.getElem?_eq_some_iff.1 hq).1
      obtain ⟨i', _, _, a1, _, _, _, _, _, _, a2⟩ := R.at_ hqm
      rw [hq] at a1; cases a1
      simp [a2]
    closed := fun i o e hi ho _ _ => by
      have : i < ops.size := (Array.getElem?_eq_some_iff.1 ho).1
      simp at hi; omega
    fr := by
      refine hf.congr (fun t => frS_no (fun q hq hs => ?_))
      obtain ⟨i', _, _, a1, _, _, _, _, _, _, a2⟩ := R.at_ hq
      rw [doneB_eq a1] at hs
      simp [a2] at hs
    sim := s0
    step := t0
    nx := Nat.le_of_eq hnx.symm
    pend := fun q i pd hq hi _ _ => by
      have hqm : q < ops.size := by rw [← R.clen]; exact (List.getElem?_eq_some_iff.1 hq).1
      obtain ⟨i', _, _, a1, _, _, _, _, _, _, a2⟩ := R.at_ hqm
      rw [hq] at a1; cases a1
      simp at hi; omega
    unm := fun q i pd hq _ hM => by
      have hqm : q < ops.size := by rw [← R.clen]; exact (List.getElem?_eq_some_iff.1 hq).1
      exact s.fresh _ (R.makes_hi hqm hM).1
    df := rfl }
  have := any_ok (n := n) hF hC hR R ha hg (Q := PostO B N σ h w ⟨.norm, sm.f, layP sm.h sm.pend⟩) ?_ (List.range ops.size) (Array.replicate ops.size false) 0 σ ac { w with drawn := w.drawn + 1 } (nodup_range _) (fun j hj => by simpa using hj) (by simp) (fun j hj => by simp [hj]) I0
  · rw [hcard] at this; exact this
  · intro p0 σ' a' w' I
    have hT : ∀ q, q < ops.size → Run.isT D q = true → q < p0 := fun q hq hT => by
      obtain ⟨i', _, _, a1, _⟩ := R.at_ hq
      exact (I.turns q i' a1 hT).1 (by simp)
    have hh : (st ops.size).h = (st p0).h := by
      refine (R.heaps I.le0 (Nat.le_refl _)).1 ?_
      have : ∀ q, p0 ≤ q → q ≤ ops.size → Run.cnt D q = Run.cnt D p0 := by
        intro q h1
        induction h1 with
        | refl => intro _; rfl
        | step h1 ih =>
          rename_i q
          intro h2
          show Run.cnt D q + _ = _
          have : Run.isT D q = false := by
            cases h3 : Run.isT D q with
            | false => rfl
            | true =>
              have h4 := hT q h2 h3
              have h5 : p0 ≤ q := h1
              omega
          rw [this, ih (Nat.le_of_succ_le h2)]; rfl
      exact this _ I.le0 (Nat.le_refl _)
    have hlay := lay_all I.sim I.step sm.pend (fun pd hpd => by
      rw [← hsm] at hpd
      obtain ⟨q, hq, hM, hu⟩ := R.pend_made ops.size (Nat.le_refl _) pd hpd
      obtain ⟨j, oj, dj, b1, b2, b3, b4, b5, _⟩ := R.at_ hq
      refine I.pend q j pd b1 (by simp) hM (fun r hr hus => ?_)
      by_cases e : q < r
      · exact hu r (by have := I.le0; omega) e hus
      · obtain ⟨dr, e1, e2, e3, e4⟩ := hus
        have hM' := hM
        obtain ⟨d', g, m, c1, c2, c3, c4, c5, _⟩ := hM'
        rw [b3] at c1; cases c1
        have hj : pd.i = j := by rw [c5]; exact b5
        by_cases e' : r = q
        · subst e'; rw [b3] at e1; cases e1; rw [c3] at e3; cases e3
        · obtain ⟨k, ok, dk, k1, k2, k3, k4, k5, k6, k7, _⟩ := R.at_ (show r < ops.size by omega)
          rw [k3] at e1; cases e1
          rw [k7, hj] at e4
          unfold needK at e4
          simp only [List.mem_filter, Bool.and_eq_true] at e4
          have := (R.pr' (show r < q by omega) k1 b1 k2 b2).2.1
          rw [e4.2.1] at this; cases this) (by rw [← hsm]; exact R.pend_pair _ (Nat.le_refl _))
    rw [← hh, hsm] at hlay
    obtain ⟨s1, t1, _, _⟩ := hlay
    refine ⟨trivial, σ', ?_, s1, t1, by rw [I.df]; exact hm.step s t1⟩
    have hfr := I.fr
    refine hfr.congr (fun t => ?_)
    rw [← hsm, R.frame _ (Nat.le_refl _)]
    refine (frS_agree (Nat.le_refl _) R.uniq (fun q hq _ => ?_)).symm
    rw [if_pos hq]
    obtain ⟨i', _, _, a1, _⟩ := R.at_ hq
    rw [doneB_eq a1]; simp
end
end Go.Av


namespace Go.Av
variable [Tok]
variable {P : Program}
theorem step_code {fs : Nat → Option AFun} {rec : Rec} {m : Nat} (hmx : P.follows .mixedOrders = true) (hfs : FsOk P fs) (hrec : CodeOk P rec) : CodeOk P fun c f h => stepF ⟨P, fs, rec, m⟩ c f h := by
  intro B rf N c f h o F σ w ac n hx hF hrf hf hg s hm
  have hC : CallOk P (callF fs rec) := call_ok hfs hrec
  have hCC : CodeCallOk P (codeF fs rec) := code_call_ok hfs hrec
  have hR : RoundOk P (roundF P rec) := round_ok (E := ⟨P, fs, rec, m⟩) hrec
  cases c with
  | skip =>
    cases (show some (⟨.norm, f, h⟩ : Out) = some o from hx)
    exact wpIn_skip ⟨trivial, σ, hf, s, Step.refl _ _ _, hm⟩
  | region id ops draw =>
    change stepF ⟨P, fs, rec, m⟩ (regK P N ops draw) f h = some o at hx
    unfold regK at hx
    simp only [cond_eq_ite] at hx
    split at hx
    · rename_i ha
      have ha : ∀ p ∈ ops.toList, dstK N p.dst = true := List.all_eq_true.1 ha
      split at hx
      · rename_i hd
        subst hd
        split at hx
        · rename_i D hD
          exact dregion_ok (E := ⟨P, fs, rec, m⟩) hF hC hR hmx ha hD hf hg s hm hx
        · cases (show none = some o from hx)
      · rename_i hd
        have hd : draw = false := by simpa using hd
        subst hd
        exact region_ok (E := ⟨P, fs, rec, m⟩) hF hC hR ha hf hg s hm hx
    · cases (show none = some o from hx)
  | seq a b => exact seq_ok (E := ⟨P, fs, rec, m⟩) hrec hF hrf hf hg s hm hx
  | cond c a b =>
    change stepF ⟨P, fs, rec, m⟩ (condK P c (cc P N rf a) (cc P N rf b)) f h = some o at hx
    unfold condK at hx
    split at hx
    · rename_i c' hc
      exact cond_ok (E := ⟨P, fs, rec, m⟩) hrec hF hrf hf hg s hm hc hx
    · cases (show none = some o from hx)
  | block id b => exact block_ok (E := ⟨P, fs, rec, m⟩) hrec hF hrf hf hg s hm hx
  | loop b => exact wpIn_loop_rounds m (rounds_ok (E := ⟨P, fs, rec, m⟩) hrec hF hrf m σ h w f ac hf hg s hm hx)
  | rangeFunc g ps a b =>
    change stepF ⟨P, fs, rec, m⟩ (rangeK P N rf g ps a b) f h = some o at hx
    unfold rangeK at hx
    simp only [cond_eq_ite] at hx
    split at hx
    · rename_i hc
      simp only [Bool.and_eq_true, List.all_eq_true, Nat.blt_eq] at hc
      split at hx
      · rename_i g' hg'
        exact range_ok (E := ⟨P, fs, rec, m⟩) hCC (hrf hc.1) hc.2 hg' hf hg s hm hx
      · cases (show none = some o from hx)
    · cases (show none = some o from hx)
  | exit id =>
    cases (show some (⟨.exit id, f, h⟩ : Out) = some o from hx)
    exact wpIn_exit ⟨rfl, σ, hf, s, Step.refl _ _ _, hm⟩
  | scope b => exact scope_ok (E := ⟨P, fs, rec, m⟩) hrec hF hrf hf hg s hm hx
  | label l =>
    cases (show some (⟨.norm, f, h⟩ : Out) = some o from hx)
    exact wpIn_label ⟨trivial, σ, hf, s, Step.refl _ _ _, hm⟩
  | goto l =>
    cases (show some (⟨.goto l, f, h⟩ : Out) = some o from hx)
    exact wpIn_goto ⟨rfl, σ, hf, s, Step.refl _ _ _, hm⟩
  | ret =>
    cases (show some (⟨.ret, f, h⟩ : Out) = some o from hx)
    exact wpIn_ret ⟨trivial, σ, hf, s, Step.refl _ _ _, hm⟩
  | refuse y => cases (show none = some o from hx)
theorem run_ok {fs : Nat → Option AFun} (hmx : P.follows .mixedOrders = true) (hfs : FsOk P fs) : ∀ n, CodeOk P (run P fs n)
  | 0 => fun B rf N c f h o F σ w ac n hx _ _ _ _ _ _ => by cases (show none = some o from hx)
  | n + 1 => step_code hmx hfs (run_ok hmx hfs n)
/-- what the machine answers is what the model does -/
theorem call_sound {fs : Nat → Option AFun} (hmx : P.follows .mixedOrders = true) (hfs : FsOk P fs) {n k : Nat} {args : List AVal} {h h' : Hp} {v : AVal} (hx : call P fs n k args h = some (v, h')) : 
    ∀ {σ : Sg} {w : World} {args' : Array Value}, VRL σ args args'.toList → Sim σ h w → GlobR P σ → ((callFunc k args').run P w = .ok (.enter k args') w ∧ ∀ n, CallsIn Fence.wide n P k args' w (RetR σ h w v h')) ∨
      ∃ v' w', (callFunc k args').run P w = .ok (.value v') w' ∧ ∃ σ', VR σ' v v' ∧ Sim σ' h' w' ∧ Step σ h w σ' h' w' :=
  fun ha s hg => call_ok hfs (run_ok hmx hfs n) k args h v h' _ _ _ hx ha s hg
end Go.Av


namespace Go.Av
variable [Tok]
variable {P : Program}
/-! ### Deep values: what a value holds, without places -/
inductive DV where
  | i (k : IntKind) (n : Int)
  | b (v : Bool)
  | s (l : List Nat)
  | nil
  | sl (n e : Nat) (cs : List DV)      -- a slice: so many elements of e cells
  | ag (cs : List DV)
  | tu (cs : List DV)
  | t (k : Nat)                        -- a token
  deriving Inhabited
mutual
/-- what a model's value holds in a world; the blocks are of Q -/
def DR (w : World) (Q : Nat → Prop) : DV → Value → Prop
  | .i k n, v => v = .int k n
  | .b c, v => v = .bool c
  | .s l, v => ∃ s, v = .string s ∧ s.data.toList.map UInt8.toNat = l
  | .nil, v => v = .slice none 0 0
  | .sl n e cs, v => (n = 0 ∧ cs = [] ∧ (∃ a, v = .slice (some a) 0 0) ∧ ∃ cb, Q cb ∧ cb < w.heap.size) ∨
      (0 < n ∧ ∃ cb co c' arr el fz, v = .slice (some ⟨cb, co, none⟩) n c' ∧ Q cb ∧ w.heap[cb]? = some (.cells arr el fz) ∧ co + n * e ≤ arr.size ∧ cs.length = n * e ∧
        DRL w Q cs ((arr.toList.drop co).take (n * e)) ∧ (c' = n ∨ (0 < e ∧ n ≤ c' ∧ co + c' * e = arr.size)))
  | .ag cs, v => ∃ l, v = .agg l ∧ DRL w Q cs l.toList
  | .tu cs, v => ∃ l, v = .tuple l ∧ DRL w Q cs l.toList
  | .t k, v => v = Tok.val k
def DRL (w : World) (Q : Nat → Prop) : List DV → List Value → Prop
  | [], l => l = []
  | d :: r, l => ∃ v q, l = v :: q ∧ DR w Q d v ∧ DRL w Q r q
end
theorem DRL.nil {w : World} {Q : Nat → Prop} : DRL w Q [] [] := by simp [DRL]
theorem DRL.cons {w : World} {Q : Nat → Prop} {d : DV} {v : Value} {r : List DV} {q : List Value} (h : DR w Q d v) (k : DRL w Q r q) : DRL w Q (d :: r) (v :: q) := by
  simp only [DRL]; exact ⟨v, q, rfl, h, k⟩
theorem DRL.length {w : World} {Q : Nat → Prop} : ∀ {a : List DV} {v : List Value}, DRL w Q a v → v.length = a.length
  | [], _, h => by simp only [DRL] at h; subst h; rfl
  | _ :: r, _, h => by simp only [DRL] at h; obtain ⟨v, q, e, _, h2⟩ := h; subst e; simp [DRL.length h2]
theorem DRL.append {w : World} {Q : Nat → Prop} : ∀ {a : List DV} {v : List Value} {b : List DV} {u : List Value}, DRL w Q a v → DRL w Q b u → DRL w Q (a ++ b) (v ++ u)
  | [], _, _, _, h, k => by simp only [DRL] at h; subst h; exact k
  | _ :: r, _, _, _, h, k => by simp only [DRL] at h; obtain ⟨v, q, e, h1, h2⟩ := h; subst e; exact DRL.cons h1 (DRL.append h2 k)
/-- what a slice's parts are -/
inductive Sh where
  | flat
  | sl (t : Nat)
  | ag (t : Nat)
  | tu (t : Nat)
section
variable (T : List (List Sh)) (lo : Nat) (h : Hp) (rec : Sh → AVal → Option DV)
def deepRow : List Sh → List AVal → Option (List DV × List AVal)
  | [], l => some ([], l)
  | _ :: _, [] => none
  | s :: r, v :: l => match rec s v with
    | some d => match deepRow r l with
      | some (ds, q) => some (d :: ds, q)
      | none => none
    | none => none
def deepRows (s : List Sh) : Nat → List AVal → Option (List DV × List AVal)
  | 0, l => some ([], l)
  | n + 1, l => match deepRow rec s l with
    | some (ds, q) => match deepRows s n q with
      | some (es, q) => some (ds ++ es, q)
      | none => none
    | none => none
noncomputable def isSomeR {α : Type} (o : Option α) : Bool := Option.rec false (fun _ => true) o
noncomputable def oneR (p : List DV × List AVal) : Option (List DV) := List.rec (some p.1) (fun _ _ _ => none) p.2
noncomputable def deepSl (s : List Sh) (b : Pos) (o n c g : Nat) : Option DV :=
  Nat.rec (ifb (Nat.beq c 0 && (Nat.beq g 0 && isSomeR (h.get (Pos.ofNat (lo - 1))))) (some (.sl 0 (lenR s) [])) none)
    (fun m _ => ifb (Nat.ble lo b.toNat && (Nat.beq c n && ((Nat.beq g 0 || Nat.beq g (lenR s)) && Nat.blt 0 (lenR s))))
      (ob (h.read (b, o) (Nat.mul n (lenR s))) fun l => ob (deepRows rec s n l) fun p => ob (oneR p) fun ds => some (.sl n (lenR s) ds)) none) n
noncomputable def deep1 : Sh → AVal → Option DV
  | .flat, .i k n => some (.i k n)
  | .flat, .b c => some (.b c)
  | .flat, .s l => some (.s l)
  | .flat, .tok k => some (.t k)
  | .sl _, .sl none 0 0 _ => some .nil
  | .sl t, .sl (some (b, o)) n c g => ob (T[t]?) fun s => deepSl lo h rec s b o n c g
  | .ag t, .ag l => ob (T[t]?) fun s => ob (deepRow rec s l) fun p => ob (oneR p) fun ds => some (.ag ds)
  | .tu t, .tu l => ob (T[t]?) fun s => ob (deepRow rec s l) fun p => ob (oneR p) fun ds => some (.tu ds)
  | _, _ => none
end
noncomputable def deepOf (T : List (List Sh)) (lo : Nat) (h : Hp) : Nat → Sh → AVal → Option DV
  | 0, _, _ => none
  | n + 1, s, v => deep1 T lo h (deepOf T lo h n) s v
section
variable {T : List (List Sh)} {lo : Nat} {h : Hp} {rec : Sh → AVal → Option DV} {σ : Sg} {w : World} {Q : Nat → Prop}
theorem deepRow_ok (hrec : ∀ s v d v', rec s v = some d → VR σ v v' → DR w Q d v') : ∀ {s : List Sh} {l q : List AVal} {ds : List DV} {l' : List Value}, deepRow rec s l = some (ds, q) → VRL σ l l' →
    ds.length = s.length ∧ ∃ m q', l' = m ++ q' ∧ DRL w Q ds m ∧ VRL σ q q'
  | [], l, q, ds, l', h, hv => by
    simp only [deepRow, Option.some.injEq, Prod.mk.injEq] at h
    obtain ⟨rfl, rfl⟩ := h
    exact ⟨rfl, [], l', rfl, DRL.nil, hv⟩
  | _ :: _, [], q, ds, l', h, hv => by simp [deepRow] at h
  | s :: r, v :: l, q, ds, l', h, hv => by
    simp only [deepRow] at h
    simp only [VRL] at hv
    obtain ⟨v', l'', rfl, h1, h2⟩ := hv
    split at h
    · rename_i d hd
      split at h
      · rename_i ds' q' hr
        simp only [Option.some.injEq, Prod.mk.injEq] at h
        obtain ⟨rfl, rfl⟩ := h
        obtain ⟨g0, m, q'', rfl, g1, g2⟩ := deepRow_ok hrec hr h2
        exact ⟨by simp [g0], v' :: m, q'', rfl, DRL.cons (hrec _ _ _ _ hd h1) g1, g2⟩
      · cases h
    · cases h
theorem deepRows_ok (hrec : ∀ s v d v', rec s v = some d → VR σ v v' → DR w Q d v') {s : List Sh} : ∀ {n : Nat} {l q : List AVal} {ds : List DV} {l' : List Value}, deepRows rec s n l = some (ds, q) → VRL σ l l' →
    ds.length = n * s.length ∧ ∃ m q', l' = m ++ q' ∧ DRL w Q ds m ∧ VRL σ q q'
  | 0, l, q, ds, l', h, hv => by
    simp only [deepRows, Option.some.injEq, Prod.mk.injEq] at h
    obtain ⟨rfl, rfl⟩ := h
    exact ⟨by simp, [], l', rfl, DRL.nil, hv⟩
  | n + 1, l, q, ds, l', h, hv => by
    simp only [deepRows] at h
    split at h
    · rename_i ds1 q1 h1
      split at h
      · rename_i ds2 q2 h2
        simp only [Option.some.injEq, Prod.mk.injEq] at h
        obtain ⟨rfl, rfl⟩ := h
        obtain ⟨g0, m, q', rfl, g1, g2⟩ := deepRow_ok hrec h1 hv
        obtain ⟨k0, m2, q2', rfl, k1, k2⟩ := deepRows_ok hrec h2 g2
        exact ⟨by simp [g0, k0, Nat.add_mul]; omega, m ++ m2, q2', by simp, g1.append k1, k2⟩
      · cases h
    · cases h
theorem isSomeR_eq {α : Type} {o : Option α} : isSomeR o = true ↔ ∃ x, o = some x := by
  cases o with
  | none => show false = true ↔ _; simp
  | some x => show true = true ↔ _; simp
theorem oneR_eq {p : List DV × List AVal} {ds : List DV} : oneR p = some ds ↔ p = (ds, []) := by
  obtain ⟨a, l⟩ := p
  cases l with
  | nil => show some a = some ds ↔ _; simp
  | cons x r => show none = some ds ↔ _; simp
theorem deepSl_ok (hs : Sim σ h w) (hQ : ∀ c I, lo ≤ c.toNat → σ c = some I → Q I.cb) (hrec : ∀ s v d v', rec s v = some d → VR σ v v' → DR w Q d v') (hlo : 0 < lo) {s : List Sh} {b : Pos} {o n c g : Nat} {d : DV} {v' : Value}
    (hd : deepSl lo h rec s b o n c g = some d) (hv : VR σ (.sl (some (b, o)) n c g) v') : DR w Q d v' := by
  rw [VR_sl_some] at hv
  obtain ⟨I, p, c', hI, hv, hS⟩ := hv
  cases n with
  | zero =>
    change ifb (Nat.beq c 0 && (Nat.beq g 0 && isSomeR (h.get (Pos.ofNat (lo - 1))))) (some (.sl 0 (lenR s) [])) none = some d at hd
    rw [ifb_eq] at hd
    simp only [Bool.and_eq_true, Nat.beq_eq, isSomeR_eq] at hd
    obtain ⟨⟨rfl, rfl, x, hx⟩, e⟩ := hd
    cases e
    simp only [DR]
    refine .inl ⟨trivial, trivial, ⟨p, ?_⟩, ?_⟩
    · obtain ⟨_, h1 | h1⟩ := hS
      · rcases h1.2 with h2 | h2
        · rw [hv, h2]
        · omega
      · rw [hv, h1.2]
    · obtain ⟨J, hJ, _⟩ := hs.blk _ _ hx
      exact ⟨J.cb, hQ _ J (by rw [Pos.toNat_ofNat]; omega) hJ, hs.bound _ _ hJ⟩
  | succ m =>
    change ifb (Nat.ble lo b.toNat && (Nat.beq c (m + 1) && ((Nat.beq g 0 || Nat.beq g (lenR s)) && Nat.blt 0 (lenR s))))
      (ob (h.read (b, o) (Nat.mul (m + 1) (lenR s))) fun l => ob (deepRows rec s (m + 1) l) fun p => ob (oneR p) fun ds => some (.sl (m + 1) (lenR s) ds)) none = some d at hd
    rw [ifb_eq] at hd
    simp only [Bool.and_eq_true, Bool.or_eq_true, Nat.beq_eq, Nat.ble_eq, Nat.blt_eq, lenR_eq, ob_eq, oneR_eq] at hd
    obtain ⟨⟨hb, rfl, hg, he⟩, l, hl, p1, hp1, ds, rfl, e⟩ := hd
    cases e
    obtain ⟨arr, el, fz, h1, h2, h3⟩ := hs.read (a := (b, o)) hI hl
    obtain ⟨k0, m', q', k1, k2, k3⟩ := deepRows_ok hrec hp1 h2
    simp only [VRL] at k3
    subst k3
    simp only [List.append_nil] at k1
    have hmul : Nat.mul (m + 1) s.length = (m + 1) * s.length := rfl
    rw [hmul] at k1 h3
    have hpos : 0 < (m + 1) * s.length := Nat.mul_pos (by omega) he
    obtain ⟨_, hS | hS⟩ := hS
    · obtain ⟨rfl, hS⟩ := hS
      simp only [DR]
      refine .inr ⟨by omega, I.cb, I.co + o, c', arr, el, fz, hv, hQ _ _ hb hI, h1, ?_, k0, ?_, ?_⟩
      · simp only [List.length_take, List.length_drop, Array.length_toList] at h3
        omega
      · rw [k1]; exact k2
      · rcases hS with h | ⟨h4, h5, h6, h7⟩
        · exact .inl h
        · rcases hg with hg | hg
          · omega
          · subst hg
            have hl' := hl
            unfold Hp.read at hl'
            rw [ob_eq] at hl'
            obtain ⟨cc, hcc, _⟩ := hl'
            obtain ⟨arr', el', fz', q1, q2, q3, _⟩ := hs.cells hI hcc
            rw [h1] at q1; cases q1
            exact .inr ⟨he, h6, by omega⟩
    · omega
theorem deep1_ok (hs : Sim σ h w) (hQ : ∀ c I, lo ≤ c.toNat → σ c = some I → Q I.cb) (hrec : ∀ s v d v', rec s v = some d → VR σ v v' → DR w Q d v') (hlo : 0 < lo) {s : Sh} {v : AVal} {d : DV} {v' : Value} (hd : deep1 T lo h rec s v = some d) (hv : VR σ v v') : DR w Q d v' := by
  unfold deep1 at hd
  split at hd
  · cases hd; exact hv
  · cases hd; exact hv
  · cases hd; exact hv
  · cases hd; simp only [VR] at hv; simp only [DR]; exact hv
  · cases hd; simp only [VR] at hv; simp only [DR]; exact hv
  · rw [ob_eq] at hd
    obtain ⟨s, _, hd⟩ := hd
    exact deepSl_ok hs hQ hrec hlo hd hv
  · simp only [ob_eq, oneR_eq] at hd
    obtain ⟨s, _, p, hp, ds, rfl, e⟩ := hd
    cases e
    simp only [VR] at hv
    obtain ⟨l', rfl, hv⟩ := hv
    obtain ⟨k0, m', q', k1, k2, k3⟩ := deepRow_ok hrec hp hv
    simp only [VRL] at k3
    subst k3
    simp only [List.append_nil] at k1
    simp only [DR]
    exact ⟨l', rfl, by rw [k1]; exact k2⟩
  · simp only [ob_eq, oneR_eq] at hd
    obtain ⟨s, _, p, hp, ds, rfl, e⟩ := hd
    cases e
    simp only [VR] at hv
    obtain ⟨l', rfl, hv⟩ := hv
    obtain ⟨k0, m', q', k1, k2, k3⟩ := deepRow_ok hrec hp hv
    simp only [VRL] at k3
    subst k3
    simp only [List.append_nil] at k1
    simp only [DR]
    exact ⟨l', rfl, by rw [k1]; exact k2⟩
  · cases hd
theorem deepOf_ok (hs : Sim σ h w) (hQ : ∀ c I, lo ≤ c.toNat → σ c = some I → Q I.cb) (hlo : 0 < lo) : ∀ (n : Nat) (s : Sh) (v : AVal) (d : DV) (v' : Value), deepOf T lo h n s v = some d → VR σ v v' → DR w Q d v'
  | 0, _, _, _, _, h, _ => by cases h
  | n + 1, s, v, d, v', h, hv => deep1_ok hs hQ (deepOf_ok hs hQ hlo n) hlo h hv
/-- several, each of its shape -/
theorem deepArgs_ok (hs : Sim σ h w) (hQ : ∀ c I, lo ≤ c.toNat → σ c = some I → Q I.cb) (hlo : 0 < lo) {n : Nat} {s : List Sh} {l : List AVal} {ds : List DV} {l' : List Value} (hd : deepRow (deepOf T lo h n) s l = some (ds, [])) (hv : VRL σ l l') : DRL w Q ds l' := by
  obtain ⟨k0, m', q', k1, k2, k3⟩ := deepRow_ok (deepOf_ok hs hQ hlo n) hd hv
  simp only [VRL] at k3
  subst k3
  simp only [List.append_nil] at k1
  rw [k1]; exact k2
end
end Go.Av


namespace Go.Av
variable [Tok]
variable {P : Program}
/-! ### Deep values are laid as blocks that are read only -/
mutual
noncomputable def lay : DV → Hp → AVal × Hp
  | .i k n, h => (.i k n, h)
  | .b c, h => (.b c, h)
  | .s l, h => (.s l, h)
  | .nil, h => (.sl none 0 0 0, h)
  | .sl n e cs, h => match n with
    | 0 => (.sl (some (h.next, 0)) 0 0 0, ⟨h.t, h.next.succ⟩)
    | m + 1 => match layL cs h with
      | (vs, h1) => (.sl (some (h1.next, 0)) (m + 1) (m + 1) e, h1.new (.cells ⟨vs, false, []⟩))
  | .ag cs, h => match layL cs h with
    | (vs, h1) => (.ag vs, h1)
  | .tu cs, h => match layL cs h with
    | (vs, h1) => (.tu vs, h1)
  | .t k, h => (.tok k, h)
noncomputable def layL : List DV → Hp → List AVal × Hp
  | [], h => ([], h)
  | d :: r, h => match lay d h with
    | (v, h1) => match layL r h1 with
      | (vs, h2) => (v :: vs, h2)
end
/-- what laying keeps -/
structure Laid (Q : Nat → Prop) (w : World) (σ : Sg) (h : Hp) (σ1 : Sg) (h1 : Hp) : Prop where
  le : σ.le σ1
  sim : Sim σ1 h1 w
  old : ∀ b : Pos, b.toNat < h.next.toNat → σ1 b = σ b
  nx : h.next.toNat ≤ h1.next.toNat
  get : ∀ b : Pos, b.toNat < h.next.toNat → h1.get b = h.get b
  new : ∀ (b : Pos) (x : Blk), h.next.toNat ≤ b.toNat → h1.get b = some x → ¬ touch x
  nm : ∀ c J, σ1 c = some J → σ c = some J ∨ Q J.cb
/-- blocks that may be written are none of Q's -/
def Safe (Q : Nat → Prop) (σ : Sg) (h : Hp) : Prop := ∀ b x I, h.get b = some x → touch x → σ b = some I → ¬ Q I.cb
theorem Laid.refl {Q : Nat → Prop} {w : World} {σ : Sg} {h : Hp} (s : Sim σ h w) : Laid Q w σ h σ h :=
  ⟨Sg.le_refl _, s, fun _ _ => rfl, Nat.le_refl _, fun _ _ => rfl, fun b x hb hx => (by obtain ⟨I, hI⟩ := s.old hx; rw [s.fresh b hb] at hI; cases hI), fun _ _ h => .inl h⟩
theorem Laid.trans {Q : Nat → Prop} {w : World} {σ σ1 σ2 : Sg} {h h1 h2 : Hp} (a : Laid Q w σ h σ1 h1) (c : Laid Q w σ1 h1 σ2 h2) : Laid Q w σ h σ2 h2 where
  le := Sg.le_trans a.le c.le
  sim := c.sim
  old := fun b hb => (c.old b (Nat.lt_of_lt_of_le hb a.nx)).trans (a.old b hb)
  nx := Nat.le_trans a.nx c.nx
  get := fun b hb => (c.get b (Nat.lt_of_lt_of_le hb a.nx)).trans (a.get b hb)
  new := fun b x hb hx => by
    by_cases h : b.toNat < h1.next.toNat
    · rw [c.get b h] at hx; exact a.new b x hb hx
    · exact c.new b x (by omega) hx
  nm := fun d J hd => by
    rcases c.nm d J hd with h | h
    · exact a.nm d J h
    · exact .inr h
theorem Laid.safe {Q : Nat → Prop} {w : World} {σ σ1 : Sg} {h h1 : Hp} (a : Laid Q w σ h σ1 h1) (hs : Safe Q σ h) : Safe Q σ1 h1 := by
  intro b x I hb hx hI
  by_cases hlt : b.toNat < h.next.toNat
  · rw [a.get b hlt] at hb; rw [a.old b hlt] at hI; exact hs b x I hb hx hI
  · exact absurd hx (a.new b x (by omega) hb)
/-- a view of a block of the model's -/
theorem lay_one {Q : Nat → Prop} {w : World} {σ : Sg} {h : Hp} (s : Sim σ h w) (hs : Safe Q σ h) {J : BI} {x : Blk} (hJ : J.cb < w.heap.size) (hQ : Q J.cb) (hx : ¬ touch x) (hR : BlkR (σ.set h.next J) w.heap[J.cb]? J x) (hst : ∀ c, x = .cells c → c.stale = []) :
    Laid Q w σ h (σ.set h.next J) (h.new x) := by
  have hb : σ h.next = none := s.fresh _ (Nat.le_refl _)
  have hle := Sg.le_set (σ := σ) (b := h.next) J hb
  have hg : ∀ c, (h.new x).get c = if c = h.next then some x else h.get c := fun c => by
    by_cases e : c = h.next
    · subst e; rw [Hp.get_new_same, if_pos rfl]
    · rw [Hp.get_new_other _ _ _ e, if_neg e]
  have hold : ∀ c : Pos, c.toNat < h.next.toNat → c ≠ h.next := fun c hc e => by subst e; omega
  refine ⟨hle, ⟨?_, ?_, ?_, ?_, ?_⟩, fun c hc => Sg.set_other _ _ (hold c hc), by rw [Hp.new_next, Pos.toNat_succ]; omega, fun c hc => by rw [hg, if_neg (hold c hc)], ?_, ?_⟩
  · intro c y hc
    rw [hg] at hc
    by_cases e : c = h.next
    · subst e; rw [if_pos rfl] at hc; cases hc; exact ⟨J, Sg.set_same _ _ _, hR⟩
    · rw [if_neg e] at hc
      obtain ⟨I, hI, hR'⟩ := s.blk c y hc
      exact ⟨I, hle _ _ hI, hR'.mono hle⟩
  · intro c hc
    rw [Hp.new_next, Pos.toNat_succ] at hc
    rw [Sg.set_other _ _ (fun e => by subst e; omega)]
    exact s.fresh c (by omega)
  · intro c I hI
    by_cases e : c = h.next
    · subst e; rw [Sg.set_same] at hI; cases hI; exact hJ
    · rw [Sg.set_other _ _ e] at hI; exact s.bound c I hI
  · intro c d I K y z hne hI hK e hc hd hty hz
    rw [hg] at hc hd
    by_cases e1 : c = h.next
    · subst e1; rw [if_pos rfl] at hc; cases hc; exact absurd hty hx
    · rw [if_neg e1] at hc
      rw [Sg.set_other _ _ e1] at hI
      by_cases e2 : d = h.next
      · subst e2
        rw [Sg.set_same] at hK; cases hK
        exact absurd (by rw [e]; exact hQ) (hs c y I hc hty hI)
      · rw [if_neg e2] at hd
        rw [Sg.set_other _ _ e2] at hK
        exact s.sep c d I K y z hne hI hK e hc hd hty hz
  · intro c y hc d hd
    rw [hg] at hc ⊢
    by_cases e : c = h.next
    · subst e; rw [if_pos rfl] at hc; cases hc; rw [hst y rfl] at hd; cases hd
    · rw [if_neg e] at hc
      split
      · exact ⟨_, rfl⟩
      · exact s.stl c y hc d hd
  · intro c y hc hy
    rw [hg] at hy
    by_cases e : c = h.next
    · subst e; rw [if_pos rfl] at hy; cases hy; exact hx
    · rw [if_neg e] at hy
      obtain ⟨I, hI⟩ := s.old hy
      rw [s.fresh c hc] at hI; cases hI
  · intro c K hc
    by_cases e : c = h.next
    · subst e; rw [Sg.set_same] at hc; cases hc; exact .inr hQ
    · rw [Sg.set_other _ _ e] at hc; exact .inl hc
/-- a place without a block -/
theorem lay_none {Q : Nat → Prop} {w : World} {σ : Sg} {h : Hp} (s : Sim σ h w) {J : BI} (hJ : J.cb < w.heap.size) (hQ : Q J.cb) : Laid Q w σ h (σ.set h.next J) ⟨h.t, h.next.succ⟩ := by
  have hb : σ h.next = none := s.fresh _ (Nat.le_refl _)
  have hle := Sg.le_set (σ := σ) (b := h.next) J hb
  have ne : ∀ c y, h.get c = some y → c ≠ h.next := fun c y hy e => by
    subst e; obtain ⟨K, hK⟩ := s.old hy; rw [hb] at hK; cases hK
  have un : ∀ c K, c ≠ h.next → σ.set h.next J c = some K → σ c = some K := fun c K hc hk => by rwa [Sg.set_other _ _ hc] at hk
  refine ⟨hle, ⟨?_, ?_, ?_, ?_, s.stl⟩, fun c hc => Sg.set_other _ _ (fun e => by subst e; omega), by show _ ≤ h.next.succ.toNat; rw [Pos.toNat_succ]; omega, fun _ _ => rfl, ?_, ?_⟩
  · intro c y hc
    obtain ⟨I, hI, hR'⟩ := s.blk c y hc
    exact ⟨I, hle _ _ hI, hR'.mono hle⟩
  · intro c hc
    have hc' : h.next.succ.toNat ≤ c.toNat := hc
    rw [Pos.toNat_succ] at hc'
    rw [Sg.set_other _ _ (fun e => by subst e; omega)]
    exact s.fresh c (by omega)
  · intro c I hI
    by_cases e : c = h.next
    · subst e; rw [Sg.set_same] at hI; cases hI; exact hJ
    · exact s.bound c I (un c I e hI)
  · intro c d I K y z hne hI hK e hc hd hty hz
    exact s.sep c d I K y z hne (un _ _ (ne c y hc) hI) (un _ _ (ne d z hd) hK) e hc hd hty hz
  · intro c y hc hy
    obtain ⟨I, hI⟩ := s.old (h := h) hy
    rw [s.fresh c hc] at hI; cases hI
  · intro c K hc
    by_cases e : c = h.next
    · subst e; rw [Sg.set_same] at hc; cases hc; exact .inr hQ
    · exact .inl (un c K e hc)
mutual
theorem lay_ok {Q : Nat → Prop} {w : World} : ∀ (d : DV) {σ : Sg} {h : Hp} {v' : Value}, Sim σ h w → Safe Q σ h → DR w Q d v' → ∃ σ1, Laid Q w σ h σ1 (lay d h).2 ∧ VR σ1 (lay d h).1 v'
  | .i k n, σ, h, v', s, hs, hd => ⟨σ, by simp only [lay]; exact Laid.refl s, by simp only [lay, VR]; simpa only [DR] using hd⟩
  | .b c, σ, h, v', s, hs, hd => ⟨σ, by simp only [lay]; exact Laid.refl s, by simp only [lay, VR]; simpa only [DR] using hd⟩
  | .s l, σ, h, v', s, hs, hd => ⟨σ, by simp only [lay]; exact Laid.refl s, by simp only [lay, VR]; simpa only [DR] using hd⟩
  | .nil, σ, h, v', s, hs, hd => ⟨σ, by simp only [lay]; exact Laid.refl s, by simp only [lay, VR]; simpa only [DR] using hd⟩
  | .sl 0 e cs, σ, h, v', s, hs, hd => by
    simp only [DR] at hd
    rcases hd with ⟨_, _, ⟨a, rfl⟩, cb, hQ, hlt⟩ | ⟨h0, _⟩
    · refine ⟨σ.set h.next ⟨cb, 0, 0, 0⟩, ?_, ?_⟩
      · simp only [lay]; exact lay_none s hlt hQ
      · simp only [lay]
        rw [VR_sl_some]
        exact ⟨⟨cb, 0, 0, 0⟩, a, 0, Sg.set_same _ _ _, rfl, Nat.le_refl _, .inr ⟨rfl, rfl⟩⟩
    · omega
  | .sl (n + 1) e cs, σ, h, v', s, hs, hd => by
    simp only [DR] at hd
    rcases hd with ⟨h0, _⟩ | ⟨_, cb, co, c', arr, el, fz, rfl, hQ, hh, hle, hlen, hcs, hc'⟩
    · omega
    · obtain ⟨σ1, l1, hv⟩ := layL_ok cs s hs hcs
      simp only [lay]
      generalize layL cs h = r at l1 hv
      obtain ⟨vs, h1⟩ := r
      simp only at l1 hv ⊢
      have hvl := hv.length
      have hlt : cb < w.heap.size := (Array.getElem?_eq_some_iff.1 hh).1
      have hlen2 : ((arr.toList.drop co).take ((n + 1) * e)).length = (n + 1) * e := by simp; omega
      rw [hlen2] at hvl
      have l2 := lay_one (J := ⟨cb, co, (n + 1) * e, arr.size⟩) (x := .cells ⟨vs, false, []⟩) l1.sim (l1.safe hs) hlt hQ (fun h => nomatch h)
        ⟨arr, el, fz, hh, by simpa using hvl, rfl, hle, VRL.mono (Sg.le_set _ (l1.sim.fresh _ (Nat.le_refl _))) _ _ hv, fun e => nomatch e⟩ (fun c e => by cases e; rfl)
      refine ⟨_, l1.trans l2, ?_⟩
      rw [VR_sl_some]
      refine ⟨⟨cb, co, (n + 1) * e, arr.size⟩, _, c', Sg.set_same _ _ _, rfl, Nat.le_refl _, .inl ⟨rfl, ?_⟩⟩
      rcases hc' with h | ⟨h1, h2, h3⟩
      · exact .inl h
      · exact .inr ⟨h1, by simp, h2, by simpa using h3⟩
  | .ag cs, σ, h, v', s, hs, hd => by
    simp only [DR] at hd
    obtain ⟨l, rfl, hcs⟩ := hd
    obtain ⟨σ1, l1, hv⟩ := layL_ok cs s hs hcs
    simp only [lay]
    generalize layL cs h = r at l1 hv
    obtain ⟨vs, h1⟩ := r
    exact ⟨σ1, l1, by simp only [VR]; exact ⟨l, rfl, hv⟩⟩
  | .tu cs, σ, h, v', s, hs, hd => by
    simp only [DR] at hd
    obtain ⟨l, rfl, hcs⟩ := hd
    obtain ⟨σ1, l1, hv⟩ := layL_ok cs s hs hcs
    simp only [lay]
    generalize layL cs h = r at l1 hv
    obtain ⟨vs, h1⟩ := r
    exact ⟨σ1, l1, by simp only [VR]; exact ⟨l, rfl, hv⟩⟩
  | .t k, σ, h, v', s, hs, hd => ⟨σ, by simp only [lay]; exact Laid.refl s, by simp only [lay, VR]; simpa only [DR] using hd⟩
theorem layL_ok {Q : Nat → Prop} {w : World} : ∀ (ds : List DV) {σ : Sg} {h : Hp} {vs' : List Value}, Sim σ h w → Safe Q σ h → DRL w Q ds vs' → ∃ σ1, Laid Q w σ h σ1 (layL ds h).2 ∧ VRL σ1 (layL ds h).1 vs'
  | [], σ, h, vs', s, hs, hd => ⟨σ, by simp only [layL]; exact Laid.refl s, by simp only [layL, VRL]; simpa only [DRL] using hd⟩
  | d :: r, σ, h, vs', s, hs, hd => by
    simp only [DRL] at hd
    obtain ⟨v', q, rfl, h1, h2⟩ := hd
    obtain ⟨σ1, l1, hv⟩ := lay_ok d s hs h1
    simp only [layL]
    generalize lay d h = x at l1 hv
    obtain ⟨v, hh⟩ := x
    simp only at l1 hv ⊢
    obtain ⟨σ2, l2, hvs⟩ := layL_ok r l1.sim (l1.safe hs) h2
    generalize layL r hh = y at l2 hvs
    obtain ⟨vs, hh2⟩ := y
    exact ⟨σ2, l1.trans l2, VRL.cons (hv.mono l2.le) hvs⟩
end
end Go.Av


namespace Go.Av
variable [Tok]
variable {P : Program}
/-! ### Functions of deep values -/
/-- nothing that was there is turned -/
structure KeptW (w w' : World) : Prop where
  os : w'.os = w.os
  tape : w'.tape = w.tape
  output : w'.output = w.output
  size : w.heap.size ≤ w'.heap.size
  heap : ∀ k, k < w.heap.size → w'.heap[k]? = w.heap[k]?
theorem KeptW.refl (w : World) : KeptW w w := ⟨rfl, rfl, rfl, Nat.le_refl _, fun _ _ => rfl⟩
/-- the one variable whose bytes are known -/
structure GlobW (P : Program) (G : Nat × List Nat) (w : World) : Prop where
  size : P.globals.size ≤ w.heap.size
  lt : G.1 < P.globals.size
  at_ : ∃ arr el fz, w.heap[G.1]? = some (.cells arr el fz) ∧ G.2.length ≤ arr.size ∧ arr.toList.take G.2.length = G.2.map fun c : Nat => Value.int .u8 (Int.ofNat c)
def PureR (w : World) (r : DV) : Ending → World → Prop
  | .returned v', w' => KeptW w w' ∧ DR w' (fun cb => w.heap.size ≤ cb) r v'
  | _, _ => False
def PureOk (P : Program) (G : Nat × List Nat) (k : Nat) (F : List DV → Option DV) : Prop :=
  ∀ (w : World) (args' : Array Value) (ds : List DV) (r : DV), GlobW P G w → DRL w (fun _ => True) ds args'.toList → F ds = some r →
    ((callFunc k args').run P w = .ok (.enter k args') w ∧ ∀ n, CallsIn Fence.wide n P k args' w (PureR w r)) ∨ ∃ v' w', (callFunc k args').run P w = .ok (.value v') w' ∧ PureR w r (.returned v') w'
noncomputable def globS (G : Nat × List Nat) (h : Hp) : Bool := Option.rec false (fun c => Option.rec false (fun l => seq l G.2) (bytesA c.vs)) (h.cells (Pos.ofNat G.1))
noncomputable def pureF (G : Nat × List Nat) (T : List (List Sh)) (n : Nat) (shs : List Sh) (F : List DV → Option DV) (args : List AVal) (h : Hp) : Option (AVal × Hp) :=
  ifb (globS G h) (ob (deepRow (deepOf T (Nat.succ G.1) h n) shs args) fun p => ob (oneR p) fun ds => ob (F ds) fun r => some (lay r h)) none
theorem globS_ok {G : Nat × List Nat} {h : Hp} {σ : Sg} {w : World} (s : Sim σ h w) (hg : GlobR P σ) (hlt : G.1 < P.globals.size) (hsz : P.globals.size ≤ w.heap.size) (e : globS G h = true) : GlobW P G w := by
  refine ⟨hsz, hlt, ?_⟩
  unfold globS at e
  cases hc : h.cells (Pos.ofNat G.1) with
  | none => rw [hc] at e; cases e
  | some c =>
    rw [hc] at e
    cases hb : bytesA c.vs with
    | none => rw [show (Option.rec false (fun c => Option.rec false (fun l => seq l G.2) (bytesA c.vs)) (some c) : Bool) = Option.rec false (fun l => seq l G.2) (bytesA c.vs) from rfl, hb] at e; cases e
    | some l =>
      rw [show (Option.rec false (fun c => Option.rec false (fun l => seq l G.2) (bytesA c.vs)) (some c) : Bool) = Option.rec false (fun l => seq l G.2) (bytesA c.vs) from rfl, hb] at e
      have e' : l = G.2 := seq_eq.1 e
      obtain ⟨I, hI, h1, h2⟩ := hg G.1 hlt
      obtain ⟨arr, el, fz, e1, e2, _, e4, e5, _⟩ := s.cells hI hc
      rw [h1] at e1
      rw [h2] at e4 e5
      obtain ⟨bs, q1, q2⟩ := bytes_ok hb e5
      have hlen : l.length = I.len := by rw [q1]; have := congrArg List.length q2; simp at this; simp; omega
      refine ⟨arr, el, fz, e1, by rw [← e', hlen]; omega, ?_⟩
      rw [← e', hlen]
      simp only [List.drop_zero] at q2
      rw [q2, q1, List.map_map]; rfl
theorem pure_sem {G : Nat × List Nat} {T : List (List Sh)} {n : Nat} {shs : List Sh} {F : List DV → Option DV} {k : Nat} (hp : PureOk P G k F) (hlt : G.1 < P.globals.size) : SemOk P k (pureF G T n shs F) := by
  intro args h v h' σ w args' e hargs s hg
  unfold pureF at e
  rw [ifb_eq] at e
  obtain ⟨eg, e⟩ := e
  simp only [ob_eq, oneR_eq] at e
  obtain ⟨p, hd, ds, rfl, r, hF, e⟩ := e
  have hsz : P.globals.size ≤ w.heap.size := by
    by_cases h0 : P.globals.size = 0
    · omega
    · obtain ⟨I, hI, h1, _⟩ := hg (P.globals.size - 1) (by omega)
      have := s.bound _ _ hI; omega
  have hG := globS_ok s hg hlt hsz eg
  have hds : DRL w (fun _ => True) ds args'.toList := deepArgs_ok s (fun _ _ _ _ => trivial) (by omega) hd hargs
  have fin : ∀ v' w', PureR w r (.returned v') w' → ∃ σ', VR σ' v v' ∧ Sim σ' h' w' ∧ Step σ h w σ' h' w' := by
    rintro v' w' ⟨hk, hr⟩
    have s' : Sim σ h w' := s.wext hk.size hk.heap
    have hsafe : Safe (fun cb => w.heap.size ≤ cb) σ h := fun b x I hb _ hI hle => by have := s.bound _ _ hI; omega
    obtain ⟨σ1, l, hv⟩ := lay_ok r s' hsafe hr
    have e' : lay r h = (v, h') := Option.some.inj e
    rw [e'] at l hv
    refine ⟨σ1, hv, l.sim, ⟨l.le, hk.os, hk.tape, hk.output, hk.size, fun j hj _ => hk.heap j hj, ?_, l.nx, l.old, fun b hb hn => by rw [l.get b hb]; exact hn, ?_⟩⟩
    · rintro j hj ⟨b, x, I, hb, hx, hI, e⟩
      by_cases hlt : b.toNat < h.next.toNat
      · exact ⟨b, x, I, by rw [← l.get b hlt]; exact hb, hx, by rw [← l.old b hlt]; exact hI, e⟩
      · exact absurd hx (l.new b x (by omega) hb)
    · intro j hj _ c J hc e
      rcases l.nm c J hc with h | h
      · exact h
      · omega
  rcases hp w args' ds r hG hds hF with ⟨h1, h2⟩ | ⟨v', w', h1, h2⟩
  · refine .inl ⟨h1, fun n => (h2 n).mono fun e w' hr => ?_⟩
    cases e with
    | returned v' => exact fin v' w' hr
    | panicked c => exact hr.elim
    | outgrown => exact hr.elim
  · exact .inr ⟨v', w', h1, fin v' w' h2⟩
/-! ### What the machine answers of deep values -/
mutual
def DV.same : DV → DV → Bool
  | .i k n, .i j m => decide (k = j) && decide (n = m)
  | .b a, .b c => a == c
  | .s a, .s c => decide (a = c)
  | .nil, .nil => true
  | .sl n e a, .sl m f c => Nat.beq n m && Nat.beq e f && DV.sames a c
  | .ag a, .ag c => DV.sames a c
  | .tu a, .tu c => DV.sames a c
  | .t a, .t c => Nat.beq a c
  | _, _ => false
def DV.sames : List DV → List DV → Bool
  | [], [] => true
  | a :: r, c :: q => DV.same a c && DV.sames r q
  | _, _ => false
end
mutual
theorem DV.same_eq : ∀ (a c : DV), DV.same a c = true → a = c
  | .i k n, c, h => by cases c <;> simp [DV.same] at h; rw [h.1, h.2]
  | .b a, c, h => by cases c <;> simp [DV.same] at h; rw [h]
  | .s a, c, h => by cases c <;> simp [DV.same] at h; rw [h]
  | .nil, c, h => by cases c <;> simp [DV.same] at h; rfl
  | .sl n e a, c, h => by
    cases c <;> simp only [DV.same, Bool.and_eq_true, Nat.beq_eq, Bool.false_eq_true] at h
    obtain ⟨⟨h1, h2⟩, h3⟩ := h
    rw [h1, h2, DV.sames_eq _ _ h3]
  | .ag a, c, h => by
    cases c <;> simp only [DV.same, Bool.false_eq_true] at h
    rw [DV.sames_eq _ _ h]
  | .tu a, c, h => by
    cases c <;> simp only [DV.same, Bool.false_eq_true] at h
    rw [DV.sames_eq _ _ h]
  | .t a, c, h => by
    cases c <;> simp only [DV.same, Nat.beq_eq, Bool.false_eq_true] at h
    rw [h]
theorem DV.sames_eq : ∀ (a c : List DV), DV.sames a c = true → a = c
  | [], c, h => by cases c <;> simp [DV.sames] at h; rfl
  | a :: r, c, h => by
    cases c <;> simp only [DV.sames, Bool.and_eq_true, Bool.false_eq_true] at h
    rw [DV.same_eq _ _ h.1, DV.sames_eq _ _ h.2]
end
noncomputable def hG (P : Program) (G : Nat × List Nat) : Hp := (⟨.leaf, Pos.ofNat P.globals.size⟩ : Hp).put (Pos.ofNat G.1) (.cells ⟨ofBytes G.2, false, []⟩)
structure Ent where
  args : List DV
  res : DV
noncomputable def checkR (T : List (List Sh)) (m : Nat) (shr : Sh) (lo : Nat) (res : DV) (x : AVal × Hp) : Bool := Option.rec false (fun r => DV.same r res) (deepOf T lo x.2 m shr x.1)
noncomputable def checkE (P : Program) (fs : Nat → Option AFun) (n : Nat) (G : Nat × List Nat) (T : List (List Sh)) (m k : Nat) (shr : Sh) (e : Ent) : Bool :=
  Option.rec false (checkR T m shr (layL e.args (hG P G)).2.next.toNat e.res) (call P fs n k (layL e.args (hG P G)).1 (layL e.args (hG P G)).2)
noncomputable def memoF (l : List Ent) (ds : List DV) : Option DV := List.rec none (fun e _ ih => ifb (DV.sames e.args ds) (some e.res) ih) l
theorem memoF_eq {l : List Ent} {ds : List DV} {r : DV} (h : memoF l ds = some r) : ∃ e ∈ l, e.args = ds ∧ e.res = r := by
  induction l with
  | nil => cases (show none = some r from h)
  | cons e l ih =>
    change ifb (DV.sames e.args ds) (some e.res) (memoF l ds) = some r at h
    cases hs : DV.sames e.args ds with
    | true => rw [hs] at h; cases (show some e.res = some r from h); exact ⟨e, by simp, DV.sames_eq _ _ hs, rfl⟩
    | false =>
      rw [hs] at h
      obtain ⟨e', h1, h2⟩ := ih h
      exact ⟨e', by simp [h1], h2⟩
theorem start_sim {G : Nat × List Nat} {w : World} (hg : GlobW P G w) : ∃ σ, Sim σ (hG P G) w ∧ GlobR P σ ∧ (∀ b x, (hG P G).get b = some x → ¬ touch x) := by
  obtain ⟨arr, el, fz, e1, e2, e3⟩ := hg.at_
  let σ : Sg := fun c => if c.toNat - 1 < P.globals.size then some ⟨c.toNat - 1, 0, if c.toNat - 1 = G.1 then G.2.length else 0, if c.toNat - 1 = G.1 then arr.size else 0⟩ else none
  have hon : ∀ g, g < P.globals.size → σ (Pos.ofNat g) = some ⟨g, 0, if g = G.1 then G.2.length else 0, if g = G.1 then arr.size else 0⟩ := fun g h => by
    simp only [σ, Pos.toNat_ofNat, Nat.add_sub_cancel]; rw [if_pos h]
  have hget : ∀ b x, (hG P G).get b = some x → b = Pos.ofNat G.1 ∧ x = .cells ⟨ofBytes G.2, false, []⟩ := by
    intro b x hb
    unfold hG at hb
    by_cases e : b = Pos.ofNat G.1
    · subst e; rw [Hp.get_put_same] at hb; cases hb; exact ⟨rfl, rfl⟩
    · rw [Hp.get_put_other _ _ _ _ e] at hb
      have : ∀ p : Pos, Tr.get p (Tr.leaf : Tr Blk) = none := by
        intro p; induction p with
        | h => rfl
        | o p ih => exact ih
        | i p ih => exact ih
      have hb' : Tr.get b (Tr.leaf : Tr Blk) = some x := hb
      rw [this] at hb'; cases hb'
  refine ⟨σ, ⟨?_, ?_, ?_, ?_, ?_⟩, fun g h => ⟨_, hon g h, rfl, rfl⟩, fun b x hb => by obtain ⟨_, rfl⟩ := hget b x hb; exact fun h => nomatch h⟩
  · intro b x hb
    obtain ⟨rfl, rfl⟩ := hget b x hb
    refine ⟨_, hon _ hg.lt, arr, el, fz, e1, ?_, ?_, ?_, ?_, fun h => nomatch h⟩
    · show (if G.1 = G.1 then G.2.length else 0) = _; rw [if_pos rfl]; unfold ofBytes; rw [mapR_eq, List.length_map]
    · show (if G.1 = G.1 then arr.size else 0) = _; rw [if_pos rfl]
    · show 0 + (if G.1 = G.1 then G.2.length else 0) ≤ _; rw [if_pos rfl]; omega
    · show VRL σ (ofBytes G.2) ((arr.toList.drop 0).take (if G.1 = G.1 then G.2.length else 0))
      rw [if_pos rfl, List.drop_zero, e3]
      unfold ofBytes; rw [mapR_eq]
      generalize G.2 = l
      induction l with
      | nil => exact VRL.nil
      | cons c r ih => exact VRL.cons (VR_i.2 rfl) ih
  · intro b hb
    have hb' : (Pos.ofNat P.globals.size).toNat ≤ b.toNat := hb
    rw [Pos.toNat_ofNat] at hb'
    simp only [σ]; rw [if_neg (by omega)]
  · intro b I hI
    simp only [σ] at hI
    split at hI
    · cases hI; have := hg.size; show b.toNat - 1 < _; omega
    · cases hI
  · intro b c I J x y hne hI hJ e hb hc ht hd
    obtain ⟨rfl, rfl⟩ := hget b x hb
    cases ht
  · intro b c hb d hd
    obtain ⟨rfl, e⟩ := hget b _ hb
    cases e; cases hd
theorem memo_pure {fs : Nat → Option AFun} {n m k : Nat} {G : Nat × List Nat} {T : List (List Sh)} {shr : Sh} {l : List Ent} (hmx : P.follows .mixedOrders = true) (hfs : FsOk P fs) (hl : ∀ e ∈ l, checkE P fs n G T m k shr e = true) : PureOk P G k (memoF l) := by
  intro w args' ds r hg hds hF
  obtain ⟨e, he, rfl, rfl⟩ := memoF_eq hF
  have hc := hl e he
  unfold checkE at hc
  obtain ⟨σ0, s0, hg0, hnt⟩ := start_sim hg
  obtain ⟨σC, lC, hvs⟩ := layL_ok e.args s0 (Q := fun _ => True) (fun b x I hb hx _ => absurd hx (hnt b x hb)) hds
  generalize layL e.args (hG P G) = q at lC hvs hc
  obtain ⟨vs, hC⟩ := q
  simp only at lC hvs hc
  cases hcall : call P fs n k vs hC with
  | none => rw [hcall] at hc; cases hc
  | some x =>
    rw [hcall] at hc
    obtain ⟨v, h'⟩ := x
    change checkR T m shr hC.next.toNat e.res (v, h') = true at hc
    unfold checkR at hc
    cases hd : deepOf T hC.next.toNat h' m shr v with
    | none => simp only [hd] at hc; cases hc
    | some d =>
      simp only [hd] at hc
      have hde := DV.same_eq _ _ hc
      have hno : ∀ j, ¬ Tch σC hC j := by
        rintro j ⟨b, x, I, hb, hx, hI, _⟩
        by_cases hlt : b.toNat < (hG P G).next.toNat
        · rw [lC.get b hlt] at hb; exact hnt b x hb hx
        · exact lC.new b x (by omega) hb hx
      have fin : ∀ σ' v' w', VR σ' v v' → Sim σ' h' w' → Step σC hC w σ' h' w' → PureR w e.res (.returned v') w' := by
        intro σ' v' w' hv s' t'
        refine ⟨⟨t'.os, t'.tape, t'.output, t'.size, fun j hj => t'.unt j hj (hno j)⟩, ?_⟩
        rw [← hde]
        refine deepOf_ok s' (fun c I hc hI => ?_) (Pos.toNat_pos _) m shr v d v' hd hv
        rcases Nat.lt_or_ge I.cb w.heap.size with hlt | hge
        · have := t'.nm _ hlt (hno _) c I hI rfl
          rw [lC.sim.fresh c hc] at this; cases this
        · exact hge
      rcases call_sound hmx hfs hcall hvs lC.sim (hg0.mono lC.le) with ⟨h1, h2⟩ | ⟨v', w', h1, σ', h2, h3, h4⟩
      · refine .inl ⟨h1, fun n => (h2 n).mono fun e w' hr => ?_⟩
        cases e with
        | returned v' => obtain ⟨σ', q1, q2, q3⟩ := hr; exact fin σ' v' w' q1 q2 q3
        | panicked c => exact hr.elim
        | outgrown => exact hr.elim
      · exact .inr ⟨v', w', h1, fin σ' v' w' h2 h3 h4⟩
end Go.Av


namespace Go.Av
variable [Tok]
variable {P : Program}
/-! ### Functions without a body -/
theorem ba_get (a : ByteArray) (i : Nat) : a[i]! = a.data.toList.getD i 0 := by
  by_cases h : i < a.size
  · rw [getElem!_pos a i h]
    have h' : i < a.data.toList.length := by simpa using h
    rw [List.getD_eq_getElem?_getD, List.getElem?_eq_getElem h']
    rfl
  · rw [getElem!_neg a i h]
    have h' : a.data.toList.length ≤ i := by simpa using h
    rw [List.getD_eq_getElem?_getD, List.getElem?_eq_none h']; rfl
theorem ba_size (a : ByteArray) : a.size = a.data.toList.length := by simp
def cmpF (x y : List UInt8) : Int :=
  match (List.range (min x.length y.length)).find? fun i => x.getD i 0 != y.getD i 0 with
  | some i => if x.getD i 0 < y.getD i 0 then -1 else 1
  | none => if x.length < y.length then -1 else if x.length > y.length then 1 else 0
theorem cmpF_cons (a b : UInt8) (x y : List UInt8) : cmpF (a :: x) (b :: y) = if a = b then cmpF x y else if a < b then -1 else 1 := by
  unfold cmpF
  rw [show min (a :: x).length (b :: y).length = min x.length y.length + 1 by simp, List.range_succ_eq_map, List.find?_cons]
  by_cases h : a = b
  · subst h
    simp only [List.getD_cons_zero, bne_self_eq_false, if_true, List.find?_map]
    have e : ((fun i => (a :: x).getD i 0 != (a :: y).getD i 0) ∘ Nat.succ) = fun i => x.getD i 0 != y.getD i 0 := by
      funext i; simp
    rw [e]
    cases (List.range (min x.length y.length)).find? (fun i => x.getD i 0 != y.getD i 0) with
    | none => simp
    | some i => simp
  · have : ((a :: x).getD 0 0 != (b :: y).getD 0 0) = true := by simpa using h
    rw [this, if_neg h]; simp
theorem cmpF_eq : ∀ (x y : List UInt8), cmpF x y = if sless (x.map UInt8.toNat) (y.map UInt8.toNat) then -1 else if seq (x.map UInt8.toNat) (y.map UInt8.toNat) then 0 else 1
  | [], [] => rfl
  | [], b :: y => by
    show cmpF [] (b :: y) = if true = true then (-1 : Int) else _
    simp [cmpF]
  | a :: x, [] => by
    show cmpF (a :: x) [] = if false = true then (-1 : Int) else if false = true then 0 else 1
    simp [cmpF]
  | a :: x, b :: y => by
    rw [cmpF_cons, cmpF_eq x y]
    show _ = if ifb (Nat.blt a.toNat b.toNat) true (ifb (Nat.beq a.toNat b.toNat) (sless (x.map UInt8.toNat) (y.map UInt8.toNat)) false) then (-1 : Int) else if ifb (Nat.beq a.toNat b.toNat) (seq (x.map UInt8.toNat) (y.map UInt8.toNat)) false then 0 else 1
    by_cases h : a = b
    · subst h
      have h1 : Nat.blt a.toNat a.toNat = false := by
        cases e : Nat.blt a.toNat a.toNat with
        | false => rfl
        | true => rw [Nat.blt_eq] at e; omega
      have h2 : Nat.beq a.toNat a.toNat = true := by simp
      rw [if_pos rfl, h1, h2]
    · have h2 : Nat.beq a.toNat b.toNat = false := by
        cases e : Nat.beq a.toNat b.toNat with
        | false => rfl
        | true => exact absurd (UInt8.toNat_inj.1 (by simpa using e)) h
      rw [if_neg h, h2]
      by_cases hl : a < b
      · have h1 : Nat.blt a.toNat b.toNat = true := by rw [Nat.blt_eq]; exact hl
        rw [if_pos hl, h1]; rfl
      · have h1 : Nat.blt a.toNat b.toNat = false := by
          cases e : Nat.blt a.toNat b.toNat with
          | false => rfl
          | true => rw [Nat.blt_eq] at e; exact absurd e hl
        rw [if_neg hl, h1]; rfl
theorem cmp_eq (a b : ByteArray) : Extern.BytealgCompare.cmp a b = cmpF a.data.toList b.data.toList := by
  unfold Extern.BytealgCompare.cmp cmpF
  simp only [ba_get, ba_size]
  rfl
/-- runtime.cmpstring -/
noncomputable def cmpA : List AVal → Hp → Option (AVal × Hp)
  | [.s a, .s b], h => some (.i .i64 (ifb (sless a b) (-1) (ifb (seq a b) 0 1)), h)
  | _, _ => none
structure Bare (P : Program) (k : Nat) (e : Array Value → Sem Value) : Prop where
  ex : ∃ fn, P.funcs[k]? = some fn ∧ (fn.name == "runtime.NumGoroutine") = false ∧ fn.body.isNone = true ∧ (Extern.findNext fn).isNone = true ∧ Extern.find fn = some e
theorem bare_run {k : Nat} {e : Array Value → Sem Value} (hb : Bare P k e) {args : Array Value} {w w' : World} {v : Value} (h : (e args).run P w = .ok v w') : (callFunc k args).run P w = .ok (.value v) w' := by
  obtain ⟨fn, h1, h2, h3, h4, h5⟩ := hb.ex
  rw [run_callFunc_extern h1 h2 h3 (by simpa using h4) h5, h]; rfl
theorem cmp_sem {k : Nat} (hb : Bare P k Extern.BytealgCompare.compare) : SemOk P k cmpA := by
  intro args h v h' σ w args' e hargs s hg
  unfold cmpA at e
  split at e
  · rename_i a b
    cases e
    simp only [VRL] at hargs
    obtain ⟨v1, q1, e1, h1, v2, q2, rfl, h2, rfl⟩ := hargs
    rw [VR_s] at h1 h2
    obtain ⟨s1, rfl, g1⟩ := h1
    obtain ⟨s2, rfl, g2⟩ := h2
    have ea : args' = #[.string s1, .string s2] := by
      apply Array.toList_inj.1; rw [e1]
    subst ea
    refine .inr ⟨.int .i64 (Extern.BytealgCompare.cmp s1 s2), w, bare_run hb ?_, σ, ?_, s, Step.refl _ _ _⟩
    · show Sem.run P (do pure (goInt (Extern.BytealgCompare.cmp (← Extern.Bytes.bytesOf (.string s1)) (← Extern.Bytes.bytesOf (.string s2))))) w = _
      simp [Extern.Bytes.bytesOf, goInt]
    · rw [VR_i, cmp_eq, cmpF_eq, g1, g2]
      cases sless a b with
      | true => rfl
      | false => cases seq a b <;> rfl
  · cases e
noncomputable def idxR (c : Nat) (l : List Nat) : Option Nat := List.rec none (fun x _ ih => ifb (Nat.beq x c) (some 0) (ob ih fun n => some (Nat.succ n))) l
theorem idx_eq (c : UInt8) : ∀ (x : List UInt8), (List.range x.length).find? (fun i => x.getD i 0 == c) = idxR c.toNat (x.map UInt8.toNat)
  | [] => rfl
  | a :: x => by
    rw [List.length_cons, List.range_succ_eq_map, List.find?_cons]
    show _ = ifb (Nat.beq a.toNat c.toNat) (some 0) (ob (idxR c.toNat (x.map UInt8.toNat)) fun n => some (Nat.succ n))
    by_cases h : a = c
    · subst h
      have h2 : Nat.beq a.toNat a.toNat = true := by simp
      rw [h2]; simp [ifb]
    · have h2 : Nat.beq a.toNat c.toNat = false := by
        cases e : Nat.beq a.toNat c.toNat with
        | false => rfl
        | true => exact absurd (UInt8.toNat_inj.1 (by simpa using e)) h
      rw [h2]
      have : ((a :: x).getD 0 0 == c) = false := by simpa using h
      rw [this]
      simp only [List.find?_map, ifb]
      have e : ((fun i => (a :: x).getD i 0 == c) ∘ Nat.succ) = fun i => x.getD i 0 == c := by
        funext i; simp
      rw [e, idx_eq c x]
      cases idxR c.toNat (x.map UInt8.toNat) <;> rfl
/-- internal/bytealg.IndexByteString -/
noncomputable def idxA : List AVal → Hp → Option (AVal × Hp)
  | [.s a, .i .u8 c], h => ob (natOf c 255) fun c => some (.i .i64 (Option.rec (-1) (fun n => Int.ofNat n) (idxR c a)), h)
  | _, _ => none
theorem idx_sem {k : Nat} (hb : Bare P k Extern.BytealgIndexByte.indexByte) : SemOk P k idxA := by
  intro args h v h' σ w args' e hargs s hg
  unfold idxA at e
  split at e
  · rename_i a c
    rw [ob_eq] at e
    obtain ⟨c', hc, e⟩ := e
    rw [natOf_eq] at hc
    obtain ⟨rfl, hc⟩ := hc
    cases e
    simp only [VRL] at hargs
    obtain ⟨v1, q1, e1, h1, v2, q2, rfl, h2, rfl⟩ := hargs
    rw [VR_s] at h1
    rw [VR_i] at h2
    obtain ⟨s1, rfl, g1⟩ := h1
    subst h2
    have ea : args' = #[.string s1, .int .u8 (c' : Int)] := by
      apply Array.toList_inj.1; rw [e1]
    subst ea
    refine .inr ⟨.int .i64 (firstIdx s1 (c' : Int).toNat.toUInt8), w, bare_run hb (run_indexByte_string _ _ _), σ, ?_, s, Step.refl _ _ _⟩
    rw [VR_i]
    have hf : firstIdx s1 (c' : Int).toNat.toUInt8 = Option.rec (-1) (fun n => Int.ofNat n) (idxR c' a) := by
      unfold firstIdx
      have hi := idx_eq (c' : Int).toNat.toUInt8 s1.data.toList
      have hcc : ((c' : Int).toNat.toUInt8).toNat = c' := by
        simp; omega
      rw [hcc, g1] at hi
      simp only [ba_get, ba_size, hi]
      cases idxR c' a <;> rfl
    rw [hf]
  · cases e
/-! ### All functions of a program -/
theorem funK_ok {k : Nat} {fn : Func} {af : AFun} (hf : P.funcs[k]? = some fn) (hn : (fn.name == "runtime.NumGoroutine") = false) (h : funK P fn = some af) : FunOk P k af := by
  unfold funK at h
  split at h
  · rename_i c hc
    split at h
    · rename_i l hl
      cases h
      refine .code hf hc hn ?_ hl rfl
      unfold minN
      cases e : Nat.ble 40 fn.ntmps with
      | true => show (Nat.ble 40 40 && Nat.ble 40 fn.ntmps) = true; rw [e]; rfl
      | false =>
        show (Nat.ble fn.ntmps 40 && Nat.ble fn.ntmps fn.ntmps) = true
        have : ¬ 40 ≤ fn.ntmps := fun h => by rw [Nat.ble_eq_true_of_le h] at e; cases e
        simp; omega
    · cases h
  · cases h
def noGor (P : Program) : Bool := P.funcs.all fun fn => !(fn.name == "runtime.NumGoroutine")
theorem noGor_at (h : noGor P = true) {k : Nat} {fn : Func} (hf : P.funcs[k]? = some fn) : (fn.name == "runtime.NumGoroutine") = false := by
  unfold noGor at h
  rw [Array.all_eq_true_iff_forall_mem] at h
  have := h fn (Array.mem_of_getElem? hf)
  simpa using this
/-- what the program's own text gives -/
noncomputable def ownF (P : Program) (k : Nat) : Option AFun := match P.funcs[k]? with
  | some fn => funK P fn
  | none => none
theorem ownF_ok (h : noGor P = true) {k : Nat} {af : AFun} (e : ownF P k = some af) : FunOk P k af := by
  unfold ownF at e
  split at e
  · rename_i fn hf; exact funK_ok hf (noGor_at h hf) e
  · cases e
end Go.Av


namespace Go.Av
variable {P : Program}
/-! ### A law over inputs that are not looked into -/
theorem allAnd {α : Type} {g : α → Bool} {l : List α} (h : allR g l = true) : ∀ e ∈ l, g e = true := by rw [allR_eq, List.all_eq_true] at h; exact h
theorem ifb_or {α : Type} {c : Bool} {a b r : α} (h : ifb c a b = r) : (c = true ∧ a = r) ∨ (c = false ∧ b = r) := by cases c <;> simp [ifb] at h <;> simp [h]
/-- the inputs -/
@[reducible] def tokL (l : List Int) : Tok := ⟨fun k => .int .i64 (l.getD k 0), fun _ => rfl, fun _ _ h => (nomatch h), fun _ _ _ => none, fun _ => none, fun _ _ => none, (fun _ _ _ _ _ _ _ _ _ _ _ h => by cases h), (fun _ _ _ _ _ h => by cases h), (fun _ _ h => by cases h)⟩
/-- a function of the program's has a body -/
theorem enters_of [Tok] {k : Nat} {fn : Func} (hg : noGor P = true) (hf : P.funcs[k]? = some fn) (hb : fn.body.isSome = true) (args : Array Value) (w : World) : (callFunc k args).run P w = .ok (.enter k args) w := by
  have hn' : ¬ fn.name = "runtime.NumGoroutine" := by simpa using noGor_at hg hf
  cases e : fn.body with
  | none => rw [e] at hb; cases hb
  | some c => simp [callFunc, hf, hn', e]
/-- an input of so many kinds, by its remainder: whose, by what, what -/
structure Rem where
  k : Nat
  m : Int
  r : Int
noncomputable def remF (k : Nat) (x : Int) (h : Hp) (l : List Rem) : Option (AVal × Hp) := List.rec none (fun e _ ih => ifb (Nat.beq e.k k && eqI e.m x) (some (.i .i64 e.r, h)) ih) l
noncomputable def withinL (l : List Rem) : List AVal → Hp → Option (AVal × Hp)
  | [.tok k, .i .i64 x], h => remF k x h l
  | _, _ => none
theorem remF_eq {k : Nat} {x : Int} {h : Hp} {v : AVal} {h' : Hp} : ∀ {l : List Rem}, remF k x h l = some (v, h') → ∃ e ∈ l, e.k = k ∧ e.m = x ∧ v = .i .i64 e.r ∧ h' = h
  | [], e => by cases (show none = some (v, h') from e)
  | y :: r, e => by
    change ifb (Nat.beq y.k k && eqI y.m x) (some (.i .i64 y.r, h)) (remF k x h r) = some (v, h') at e
    rcases ifb_or e with ⟨h1, e⟩ | ⟨_, e⟩
    · simp only [Bool.and_eq_true, Nat.beq_eq, eqI_eq, decide_eq_true_eq] at h1
      cases e
      exact ⟨y, by simp, h1.1, h1.2, rfl, rfl⟩
    · obtain ⟨z, h1, h2⟩ := remF_eq e
      exact ⟨z, by simp [h1], h2⟩
def inI64 (n : Int) : Prop := -9223372036854775808 ≤ n ∧ n < 9223372036854775808
/-- what is asked of 'within' -/
def WithinOk (P : Program) (k : Nat) : Prop := (∀ (args : Array Value) (w : World), (callFunc k args).run P w = .ok (.enter k args) w) ∧
  ∀ (n m : Int) (w : World), 0 < m → m < 1000000 → inI64 n → Calls P k #[.int .i64 n, .int .i64 m] w fun e w' => e = .returned (.int .i64 (n % m)) ∧ w' = w
theorem within_sem {k : Nat} (hk : WithinOk P k) {ns : List Int} {l : List Rem} (hl : ∀ e ∈ l, 0 < e.m ∧ e.m < 1000000 ∧ inI64 (ns.getD e.k 0) ∧ ns.getD e.k 0 % e.m = e.r) : letI := tokL ns; SemOk P k (withinL l) := by
  letI := tokL ns
  intro args h v h' σ w args' e hargs s hg
  unfold withinL at e
  split at e
  · rename_i j x
    obtain ⟨y, h1, rfl, rfl, rfl, rfl⟩ := remF_eq e
    obtain ⟨g1, g2, g3, g4⟩ := hl y h1
    simp only [VRL, VR] at hargs
    obtain ⟨v1, q1, e1, rfl, v2, q2, rfl, rfl, rfl⟩ := hargs
    have ea : args' = #[.int .i64 (ns.getD y.k 0), .int .i64 y.m] := by apply Array.toList_inj.1; rw [e1]; rfl
    subst ea
    refine .inl ⟨hk.1 _ _, fun n => callsIn_wide.2 ((hk.2 _ _ w g1 g2 g3).mono fun e w' ⟨he, hw⟩ => ?_)⟩
    subst he; subst hw
    exact ⟨σ, by simp only [VR]; rw [g4], s, Step.refl _ _ _⟩
  · cases e
/-- an input by its remainder, which is told as a value: whose, by what, what -/
structure RemT where
  k : Nat
  m : Int
  r : AVal
noncomputable def remG (k : Nat) (x : Int) (h : Hp) (l : List RemT) : Option (AVal × Hp) := List.rec none (fun e _ ih => ifb (Nat.beq e.k k && eqI e.m x) (some (e.r, h)) ih) l
noncomputable def withinG (l : List RemT) : List AVal → Hp → Option (AVal × Hp)
  | [.tok k, .i .i64 x], h => remG k x h l
  | _, _ => none
theorem remG_eq {k : Nat} {x : Int} {h : Hp} {v : AVal} {h' : Hp} : ∀ {l : List RemT}, remG k x h l = some (v, h') → ∃ e ∈ l, e.k = k ∧ e.m = x ∧ v = e.r ∧ h' = h
  | [], e => by cases (show none = some (v, h') from e)
  | y :: r, e => by
    change ifb (Nat.beq y.k k && eqI y.m x) (some (y.r, h)) (remG k x h r) = some (v, h') at e
    rcases ifb_or e with ⟨h1, e⟩ | ⟨_, e⟩
    · simp only [Bool.and_eq_true, Nat.beq_eq, eqI_eq, decide_eq_true_eq] at h1
      cases e
      exact ⟨y, by simp, h1.1, h1.2, rfl, rfl⟩
    · obtain ⟨z, h1, h2⟩ := remG_eq e
      exact ⟨z, by simp [h1], h2⟩
/-- what is asked of a remainder that is told -/
def RemOk [Tok] (e : RemT) : Prop := ∃ n : Int, 0 < e.m ∧ e.m < 1000000 ∧ inI64 n ∧ Tok.val e.k = .int .i64 n ∧ TV Tok.val e.r (.int .i64 (n % e.m))
theorem withinG_sem [Tok] {k : Nat} (hk : WithinOk P k) {l : List RemT} (hl : ∀ e ∈ l, RemOk e) : SemOk P k (withinG l) := by
  intro args h v h' σ w args' e hargs s hg
  unfold withinG at e
  split at e
  · rename_i j x
    obtain ⟨y, h1, rfl, rfl, rfl, rfl⟩ := remG_eq e
    obtain ⟨n, g1, g2, g3, g4, g5⟩ := hl y h1
    simp only [VRL, VR] at hargs
    obtain ⟨v1, q1, e1, rfl, v2, q2, rfl, rfl, rfl⟩ := hargs
    rw [g4] at e1
    have ea : args' = #[.int .i64 n, .int .i64 y.m] := by apply Array.toList_inj.1; rw [e1]
    subst ea
    refine .inl ⟨hk.1 _ _, fun n' => callsIn_wide.2 ((hk.2 _ _ w g1 g2 g3).mono fun e w' ⟨he, hw⟩ => ?_)⟩
    subst he; subst hw
    exact ⟨σ, g5.vr, s, Step.refl _ _ _⟩
  · cases e
noncomputable def isTR (x : AVal × Hp) : Bool := Option.rec false (fun b => b) (asB x.1)
noncomputable def isTr (x : Option (AVal × Hp)) : Bool := Option.rec false isTR x
/-- nothing that was there is turned -/
structure Kept (W W' : World) : Prop where
  os : W'.os = W.os
  output : W'.output = W.output
  heap : ∀ k, k < W.heap.size → W'.heap[k]? = W.heap[k]?
theorem top_run [Tok] {fs : Nat → Option AFun} {n f : Nat} {G : Nat × List Nat} {as : List AVal} {args' : Array Value} (hmx : P.follows .mixedOrders = true) (hfs : FsOk P fs) (t : isTr (call P fs n f as (hG P G)) = true) (hargs : ∀ σ, VRL σ as args'.toList)
    (hen : ∀ (args : Array Value) (w : World), (callFunc f args).run P w = .ok (.enter f args) w) {W : World} (hW : GlobW P G W) : Calls P f args' W fun e W' => e = .returned (.bool true) ∧ Kept W W' := by
  obtain ⟨σ, s, hg, hnt⟩ := start_sim hW
  cases hc : call P fs n f as (hG P G) with
  | none => rw [hc] at t; cases t
  | some x =>
    obtain ⟨v, h'⟩ := x
    rw [hc] at t
    have hv : v = .b true := by
      change Option.rec false (fun b => b) (asB v) = true at t
      cases hb : asB v with
      | none => rw [hb] at t; cases t
      | some b => rw [hb] at t; have t' : b = true := t; subst t'; exact asB_eq.1 hb
    subst hv
    rcases call_sound hmx hfs hc (hargs σ) s hg with ⟨_, h2⟩ | ⟨v', w', h1, _⟩
    · refine (callsIn_wide.1 (h2 0)).mono fun e W' hr => ?_
      cases e with
      | returned v' =>
        obtain ⟨σ', g1, g2, g3⟩ := hr
        rw [VR_b] at g1
        subst g1
        exact ⟨rfl, g3.os, g3.output, fun k hk => g3.unt k hk (fun ⟨b, x, I, hb, hx, _⟩ => hnt b x hb hx)⟩
      | panicked c => exact hr.elim
      | outgrown => exact hr.elim
    · rw [hen] at h1; cases h1
end Go.Av
