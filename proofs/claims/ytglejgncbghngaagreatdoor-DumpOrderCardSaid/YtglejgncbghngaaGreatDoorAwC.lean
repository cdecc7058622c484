/- A part of the proof: what a machine of our own over the model's code answers is what the model does; no condition. -/
import Derived.Test.YtglejgncbghngaaGreatDoorAwB
set_option linter.all false
namespace Go.Av
variable [Tok]
set_option linter.unusedSectionVars false
variable {P : Program}
/-! ### Functions that turn what they are handed: what one did to blocks like these, kept -/
/-- a cell: a value without a place, or a place in a numbered block -/
inductive CV where
  | k (v : AVal)
  | p (i o : Nat)
  | sl (i o n c g : Nat)
  deriving Inhabited
structure CB where
  vs : List CV
  own : Bool
inductive CR where
  | one (c : CV)
  | tu (l : List CV)
structure IoE where
  args : List CV
  paths : List (Nat × Nat)
  pre : List (Option CB)
  post : List (Option CB)
  npaths : List (Nat × Nat)
  new : List (Option CB)
  res : CR
noncomputable def inst (f : Nat → Pos) (c : CV) : AVal := CV.rec (fun v => v) (fun i o => .p (some (f i, o))) (fun i o n c g => .sl (some (f i, o)) n c g) c
noncomputable def instL (f : Nat → Pos) (l : List CV) : List AVal := mapR (inst f) l
noncomputable def instR (f : Nat → Pos) (r : CR) : AVal := CR.rec (fun c => inst f c) (fun l => .tu (instL f l)) r
/-- without a place -/
def flatV : AVal → Bool
  | .i _ _ => true
  | .b _ => true
  | .s _ => true
  | .p none => true
  | .sl none _ _ _ => true
  | .nilF => true
  | .nilI => true
  | _ => false
noncomputable def wfC (N : Nat) (c : CV) : Bool := CV.rec (fun v => flatV v) (fun i _ => Nat.blt i N) (fun i _ _ _ _ => Nat.blt i N) c
noncomputable def wfB (N : Nat) (o : Option CB) : Bool := Option.rec true (fun b => allR (wfC N) b.vs) o
noncomputable def wfR (N : Nat) (r : CR) : Bool := CR.rec (fun c => wfC N c) (fun l => allR (wfC N) l) r
noncomputable def eqP (p : Pos) : Pos → Bool := Pos.rec (motive := fun _ => Pos → Bool) (fun q => Pos.rec true (fun _ _ => false) (fun _ _ => false) q) (fun _ ih q => Pos.rec false (fun r _ => ih r) (fun _ _ => false) q) (fun _ ih q => Pos.rec false (fun _ _ => false) (fun r _ => ih r) q) p
theorem eqP_eq : ∀ {p q : Pos}, eqP p q = true ↔ p = q := by
  intro p
  induction p with
  | h => intro q; cases q <;> simp [eqP]
  | o p ih => intro q; cases q with
    | o q => show eqP p q = true ↔ _; rw [ih]; simp
    | h => simp [eqP]
    | i q => simp [eqP]
  | i p ih => intro q; cases q with
    | i q => show eqP p q = true ↔ _; rw [ih]; simp
    | h => simp [eqP]
    | o q => simp [eqP]
/-- alike -/
noncomputable def mtV (f : Nat → Pos) (c : CV) (v : AVal) : Bool :=
  CV.rec (fun v0 => AVal.same v0 v) (fun i o => Option.rec false (fun a => ifb (Nat.beq a.2 o) (eqP a.1 (f i)) false) (asP v))
    (fun i o n c g => Option.rec false (fun s => ifb (Nat.beq s.len n) (ifb (Nat.beq s.cap c) (ifb (Nat.beq s.g g) (Option.rec false (fun a => ifb (Nat.beq a.2 o) (eqP a.1 (f i)) false) s.a) false) false) false) (asSl v)) c
noncomputable def mtL (f : Nat → Pos) (cs : List CV) : List AVal → Bool :=
  List.rec (fun l => List.rec true (fun _ _ _ => false) l) (fun c _ ih l => List.rec false (fun v r _ => ifb (mtV f c v) (ih r) false) l) cs
theorem mtV_eq {f : Nat → Pos} {c : CV} {v : AVal} (h : mtV f c v = true) : v = inst f c := by
  cases c with
  | k v0 => exact (same_eq _ _ h).symm
  | p i o =>
    unfold mtV at h
    cases e : asP v with
    | none => simp only [e] at h; cases h
    | some a =>
      simp only [e] at h
      rw [asP_eq] at e
      cases h1 : Nat.beq a.2 o with
      | false => simp only [h1] at h; cases h
      | true =>
        simp only [h1] at h
        rw [Nat.beq_eq] at h1
        have h2 : a.1 = f i := eqP_eq.1 h
        subst e; obtain ⟨a1, a2⟩ := a; simp only at h1 h2; subst h1; subst h2; rfl
  | sl i o n c g =>
    unfold mtV at h
    cases e : asSl v with
    | none => simp only [e] at h; cases h
    | some s =>
      simp only [e] at h
      rw [asSl_eq] at e
      obtain ⟨sa, sn, sc, sg⟩ := s
      simp only at h e
      cases h1 : Nat.beq sn n with
      | false => simp only [h1] at h; cases h
      | true =>
      cases h2 : Nat.beq sc c with
      | false => simp only [h1, h2] at h; cases h
      | true =>
      cases h3 : Nat.beq sg g with
      | false => simp only [h1, h2, h3] at h; cases h
      | true =>
        simp only [h1, h2, h3] at h
        cases sa with
        | none => cases (show false = true from h)
        | some a =>
          cases h4 : Nat.beq a.2 o with
          | false => simp only [h4] at h; cases h
          | true =>
            simp only [h4] at h
            rw [Nat.beq_eq] at h1 h2 h3 h4
            have h5 : a.1 = f i := eqP_eq.1 h
            obtain ⟨a1, a2⟩ := a; simp only at h4 h5
            subst h1; subst h2; subst h3; subst h4; subst h5; subst e; rfl
theorem mtL_eq {f : Nat → Pos} : ∀ {cs : List CV} {l : List AVal}, mtL f cs l = true → l = instL f cs := by
  intro cs
  induction cs with
  | nil => intro l h; cases l with
    | nil => rfl
    | cons v r => cases (show false = true from h)
  | cons c cs ih => intro l h; cases l with
    | nil => cases (show false = true from h)
    | cons v r =>
      change ifb (mtV f c v) (mtL f cs r) false = true at h
      cases h1 : mtV f c v with
      | false => rw [h1] at h; cases h
      | true => rw [h1] at h; rw [mtV_eq h1, ih h]; rfl
theorem instL_map (f : Nat → Pos) (l : List CV) : instL f l = l.map (inst f) := mapR_eq _ _
theorem flatV_VR {σ τ : Sg} : ∀ {v : AVal} {v' : Value}, flatV v = true → VR σ v v' → VR τ v v'
  | .i _ _, _, _, h => by simpa only [VR] using h
  | .b _, _, _, h => by simpa only [VR] using h
  | .s _, _, _, h => by simpa only [VR] using h
  | .p none, _, _, h => by simpa only [VR] using h
  | .sl none _ _ _, _, _, h => by simpa only [VR] using h
  | .nilF, _, _, h => by simpa only [VR] using h
  | .nilI, _, _, h => by simpa only [VR] using h
  | .p (some _), _, h, _ => by cases h
  | .sl (some _) _ _ _, _, h, _ => by cases h
  | .fn _ _ _, _, h, _ => by cases h
  | .ifc _ _, _, h, _ => by cases h
  | .ag _, _, h, _ => by cases h
  | .tu _, _, h, _ => by cases h
  | .mp _, _, h, _ => by cases h
  | .tok _, _, h, _ => by cases h
/-- the same blocks by other names -/
def Ren (N : Nat) (σ : Sg) (f : Nat → Pos) (τ : Sg) (g : Nat → Pos) : Prop := ∀ i, i < N → ∀ I, σ (f i) = some I → τ (g i) = some I
theorem inst_VR {N : Nat} {σ τ : Sg} {f g : Nat → Pos} (hr : Ren N σ f τ g) {c : CV} {v' : Value} (hw : wfC N c = true) (h : VR σ (inst f c) v') : VR τ (inst g c) v' := by
  cases c with
  | k v => exact flatV_VR hw h
  | p i o =>
    have hi : i < N := by rw [← Nat.blt_eq]; exact hw
    change VR σ (.p (some (f i, o))) v' at h
    show VR τ (.p (some (g i, o))) v'
    simp only [VR] at h ⊢
    obtain ⟨I, h1, h2⟩ := h
    exact ⟨I, hr i hi I h1, h2⟩
  | sl i o n c e =>
    have hi : i < N := by rw [← Nat.blt_eq]; exact hw
    change VR σ (.sl (some (f i, o)) n c e) v' at h
    show VR τ (.sl (some (g i, o)) n c e) v'
    simp only [VR] at h ⊢
    obtain ⟨I, a, c', h1, h2⟩ := h
    exact ⟨I, a, c', hr i hi I h1, h2⟩
theorem instL_VRL {N : Nat} {σ τ : Sg} {f g : Nat → Pos} (hr : Ren N σ f τ g) : ∀ {l : List CV} {vs' : List Value}, allR (wfC N) l = true → VRL σ (instL f l) vs' → VRL τ (instL g l) vs' := by
  intro l
  induction l with
  | nil => intro vs' _ h; exact h
  | cons c l ih =>
    intro vs' hw h
    change ifb (wfC N c) (allR (wfC N) l) false = true at hw
    cases h1 : wfC N c with
    | false => rw [h1] at hw; simp [ifb] at hw
    | true =>
      rw [h1] at hw
      have hw' : allR (wfC N) l = true := by simpa [ifb] using hw
      change VRL σ (inst f c :: instL f l) vs' at h
      simp only [VRL] at h
      obtain ⟨v, q, rfl, h2, h3⟩ := h
      exact VRL.cons (inst_VR hr h1 h2) (ih hw' h3)
theorem instR_VR {N : Nat} {σ τ : Sg} {f g : Nat → Pos} (hr : Ren N σ f τ g) {r : CR} {v' : Value} (hw : wfR N r = true) (h : VR σ (instR f r) v') : VR τ (instR g r) v' := by
  cases r with
  | one c => exact inst_VR hr hw h
  | tu l =>
    change VR σ (.tu (instL f l)) v' at h
    show VR τ (.tu (instL g l)) v'
    simp only [VR] at h ⊢
    obtain ⟨l', e, h⟩ := h
    exact ⟨l', e, instL_VRL hr hw h⟩
/-! ### Blocks held against a heap; each once, and their stale ones -/
noncomputable def liveB (g : Pos) (h : Hp) (d : Pos) : Bool := ifb (eqP d g) false (Option.rec false (fun _ => true) (h.cells d))
noncomputable def mt (g : Pos) (f : Nat → Pos) (l : List (Option CB)) : Nat → Hp → Option Hp :=
  List.rec (fun _ h => some h) (fun o _ ih i h => Option.rec (ih (Nat.succ i) h) (fun b => ob (h.cells (f i)) fun c =>
    ifb (ifb b.own c.own (!c.own)) (ifb (mtL f b.vs c.vs) (ifb (eqP (f i) g) none (ifb (allR (liveB g h) c.stale) (ih (Nat.succ i) ((h.kill c.stale).put (f i) .dead)) none)) none) none) o) l
structure MtR (g : Pos) (f : Nat → Pos) (l : List (Option CB)) (i : Nat) (h h' : Hp) : Prop where
  at_ : ∀ j b, l[j]? = some (some b) → f (i + j) ≠ g ∧ ∃ st, h.get (f (i + j)) = some (.cells ⟨instL f b.vs, b.own, st⟩) ∧ (∀ d ∈ st, d ≠ g ∧ h'.get d = some .dead ∧ ∃ cd, h.get d = some (.cells cd)) ∧
    ∀ j' b', j' ≠ j → l[j']? = some (some b') → ¬ f (i + j') ∈ st
  inj : ∀ j j' b b', l[j]? = some (some b) → l[j']? = some (some b') → f (i + j) = f (i + j') → j = j'
  dead : ∀ j b, l[j]? = some (some b) → h'.get (f (i + j)) = some .dead
  get : ∀ p, h'.get p = h.get p ∨ (p ≠ g ∧ h'.get p = some .dead ∧ ∃ y, h.get p = some y)
  next : h'.next = h.next
theorem mt_ok {g : Pos} {f : Nat → Pos} : ∀ {l : List (Option CB)} {i : Nat} {h h' : Hp}, mt g f l i h = some h' → MtR g f l i h h' := by
  intro l
  induction l with
  | nil =>
    intro i h h' e
    cases (show some h = some h' from e)
    exact ⟨fun j b hj => by simp at hj, fun j j' b b' hj => by simp at hj, fun j b hj => by simp at hj, fun p => .inl rfl, rfl⟩
  | cons o l ih =>
    intro i h h' e
    cases o with
    | none =>
      have r := ih (show mt g f l (i + 1) h = some h' from e)
      have sh : ∀ j b, (none :: l : List (Option CB))[j]? = some (some b) → ∃ q, j = q + 1 ∧ l[q]? = some (some b) := by
        intro j b hj
        cases j with
        | zero => simp at hj
        | succ q => exact ⟨q, rfl, by simpa using hj⟩
      refine ⟨?_, ?_, ?_, r.get, r.next⟩
      · intro j b hj
        obtain ⟨q, rfl, hq⟩ := sh j b hj
        obtain ⟨h0, st, h1, h2, h3⟩ := r.at_ q b hq
        rw [show i + (q + 1) = i + 1 + q by omega]
        refine ⟨h0, st, h1, h2, fun j' b' hne hj' => ?_⟩
        obtain ⟨q', rfl, hq'⟩ := sh j' b' hj'
        rw [show i + (q' + 1) = i + 1 + q' by omega]
        exact h3 q' b' (by omega) hq'
      · intro j j' b b' hj hj' e
        obtain ⟨q, rfl, hq⟩ := sh j b hj
        obtain ⟨q', rfl, hq'⟩ := sh j' b' hj'
        rw [show i + (q + 1) = i + 1 + q by omega, show i + (q' + 1) = i + 1 + q' by omega] at e
        rw [r.inj q q' b b' hq hq' e]
      · intro j b hj
        obtain ⟨q, rfl, hq⟩ := sh j b hj
        rw [show i + (q + 1) = i + 1 + q by omega]
        exact r.dead q b hq
    | some b0 =>
      change ob (h.cells (f i)) (fun c => ifb (ifb b0.own c.own (!c.own)) (ifb (mtL f b0.vs c.vs) (ifb (eqP (f i) g) none (ifb (allR (liveB g h) c.stale) (mt g f l (Nat.succ i) ((h.kill c.stale).put (f i) .dead)) none)) none) none) = some h' at e
      rw [ob_eq] at e
      obtain ⟨c, hc, e⟩ := e
      rw [Hp.cells_eq] at hc
      rw [ifb_eq] at e
      obtain ⟨eo, e⟩ := e
      rw [ifb_eq] at e
      obtain ⟨ev, e⟩ := e
      cases eg : eqP (f i) g with
      | true => rw [eg] at e; cases e
      | false =>
      rw [eg] at e
      change ifb (allR (liveB g h) c.stale) (mt g f l (Nat.succ i) ((h.kill c.stale).put (f i) .dead)) none = some h' at e
      rw [ifb_eq] at e
      obtain ⟨el, e⟩ := e
      have hne : f i ≠ g := fun x => by rw [eqP_eq.2 x] at eg; cases eg
      have hown : b0.own = c.own := by revert eo; cases b0.own <;> cases c.own <;> simp [ifb]
      have hvs := mtL_eq ev
      have hlive : ∀ d ∈ c.stale, d ≠ g ∧ ∃ cd, h.get d = some (.cells cd) := by
        intro d hd
        rw [allR_eq, List.all_eq_true] at el
        have := el d hd
        unfold liveB at this
        cases e1 : eqP d g with
        | true => rw [e1] at this; cases this
        | false =>
          rw [e1] at this
          refine ⟨fun x => (by rw [eqP_eq.2 x] at e1; cases e1), ?_⟩
          cases e2 : h.cells d with
          | none => rw [e2] at this; cases this
          | some cd => exact ⟨cd, Hp.cells_eq.1 e2⟩
      have r := ih e
      have hg1 : ∀ p, ((h.kill c.stale).put (f i) .dead).get p = if p = f i then some .dead else if p ∈ c.stale then some .dead else h.get p := by
        intro p
        by_cases ep : p = f i
        · subst ep; rw [Hp.get_put_same, if_pos rfl]
        · rw [Hp.get_put_other _ _ _ _ ep, if_neg ep, Hp.kill_get]
      have alive : ∀ p x, ((h.kill c.stale).put (f i) .dead).get p = some x → x ≠ .dead → p ≠ f i ∧ ¬ p ∈ c.stale ∧ h.get p = some x := by
        intro p x hp hx
        rw [hg1] at hp
        split at hp
        · cases hp; exact absurd rfl hx
        · rename_i h1
          split at hp
          · cases hp; exact absurd rfl hx
          · rename_i h2; exact ⟨h1, h2, hp⟩
      have was : ∀ p x, ((h.kill c.stale).put (f i) .dead).get p = some x → ∃ y, h.get p = some y := by
        intro p x hp
        rw [hg1] at hp
        split at hp
        · rename_i h1; subst h1; exact ⟨_, hc⟩
        · split at hp
          · rename_i h2; obtain ⟨_, cd, h3⟩ := hlive p h2; exact ⟨_, h3⟩
          · exact ⟨_, hp⟩
      have stay : ∀ p, ((h.kill c.stale).put (f i) .dead).get p = some .dead → h'.get p = some .dead := by
        intro p hp
        rcases r.get p with h1 | ⟨_, h1, _⟩
        · rw [h1]; exact hp
        · exact h1
      have sh : ∀ j b, (some b0 :: l : List (Option CB))[j]? = some (some b) → (j = 0 ∧ b = b0) ∨ ∃ q, j = q + 1 ∧ l[q]? = some (some b) := by
        intro j b hj
        cases j with
        | zero => simp at hj; exact .inl ⟨rfl, hj.symm⟩
        | succ q => exact .inr ⟨q, rfl, by simpa using hj⟩
      have tl : ∀ q b, l[q]? = some (some b) → f (i + (q + 1)) ≠ f i ∧ ¬ f (i + (q + 1)) ∈ c.stale := by
        intro q b hq
        obtain ⟨_, st, h1, _⟩ := r.at_ q b hq
        rw [show i + 1 + q = i + (q + 1) by omega] at h1
        obtain ⟨a1, a2, _⟩ := alive _ _ h1 (by simp)
        exact ⟨a1, a2⟩
      refine ⟨?_, ?_, ?_, ?_, ?_⟩
      · intro j b hj
        rcases sh j b hj with ⟨rfl, rfl⟩ | ⟨q, rfl, hq⟩
        · refine ⟨hne, c.stale, ?_, ?_, ?_⟩
          · show h.get (f i) = _
            rw [hc]; obtain ⟨cv, co, cs⟩ := c; simp only at hvs hown ⊢; rw [hvs, hown]
          · intro d hd
            obtain ⟨h1, cd, h2⟩ := hlive d hd
            refine ⟨h1, stay d ?_, _, h2⟩
            rw [hg1]; split
            · rfl
            · rfl
          · intro j' b' hne' hj'
            rcases sh j' b' hj' with ⟨rfl, _⟩ | ⟨q', rfl, hq'⟩
            · exact absurd rfl hne'
            · exact (tl q' b' hq').2
        · obtain ⟨h0, st, h1, h2, h3⟩ := r.at_ q b hq
          rw [show i + 1 + q = i + (q + 1) by omega] at h0 h1
          obtain ⟨_, _, h1'⟩ := alive _ _ h1 (by simp)
          refine ⟨h0, st, h1', fun d hd => ?_, fun j' b' hne' hj' => ?_⟩
          · obtain ⟨a1, a2, cd, a3⟩ := h2 d hd
            obtain ⟨_, _, a4⟩ := alive _ _ a3 (by simp)
            exact ⟨a1, a2, cd, a4⟩
          · rcases sh j' b' hj' with ⟨rfl, _⟩ | ⟨q', rfl, hq'⟩
            · intro hmem
              obtain ⟨_, _, cd, a3⟩ := h2 _ hmem
              exact (alive _ _ a3 (by simp)).1 rfl
            · have := h3 q' b' (by omega) hq'
              rwa [show i + 1 + q' = i + (q' + 1) by omega] at this
      · intro j j' b b' hj hj' e
        rcases sh j b hj with ⟨rfl, _⟩ | ⟨q, rfl, hq⟩ <;> rcases sh j' b' hj' with ⟨rfl, _⟩ | ⟨q', rfl, hq'⟩
        · rfl
        · exact absurd e.symm (tl q' b' hq').1
        · exact absurd e (tl q b hq).1
        · rw [show i + (q + 1) = i + 1 + q by omega, show i + (q' + 1) = i + 1 + q' by omega] at e
          rw [r.inj q q' b b' hq hq' e]
      · intro j b hj
        rcases sh j b hj with ⟨rfl, _⟩ | ⟨q, rfl, hq⟩
        · exact stay _ (by show ((h.kill c.stale).put (f i) Blk.dead).get (f i) = _; rw [hg1, if_pos rfl])
        · rw [show i + (q + 1) = i + 1 + q by omega]; exact r.dead q b hq
      · intro p
        by_cases h1 : p = f i
        · refine .inr ⟨by rw [h1]; exact hne, stay p (by rw [hg1, if_pos h1]), _, by rw [h1]; exact hc⟩
        · by_cases h2 : p ∈ c.stale
          · obtain ⟨h3, cd, h4⟩ := hlive p h2
            exact .inr ⟨h3, stay p (by rw [hg1, if_neg h1, if_pos h2]), _, h4⟩
          · have e1 : ((h.kill c.stale).put (f i) Blk.dead).get p = h.get p := by rw [hg1, if_neg h1, if_neg h2]
            rcases r.get p with h3 | ⟨h3, h4, h5⟩
            · exact .inl (h3.trans e1)
            · rw [e1] at h5; exact .inr ⟨h3, h4, h5⟩
      · rw [r.next, Hp.put_next, Hp.kill_next]
end Go.Av


namespace Go.Av
variable [Tok]
set_option linter.unusedSectionVars false
variable {P : Program}
noncomputable def blkI (f : Nat → Pos) (b : CB) : Blk := .cells ⟨instL f b.vs, b.own, []⟩
noncomputable def skipH (h : Hp) : Hp := Hp.rec (motive := fun _ => Hp) (fun t n => ⟨t, n.succ⟩) h
noncomputable def layB (f : Nat → Pos) (l : List (Option CB)) : Hp → Hp :=
  List.rec (motive := fun _ => Hp → Hp) (fun h => h) (fun o _ ih h => ih (Option.rec (skipH h) (fun b => h.new (blkI f b)) o)) l
noncomputable def putB (f : Nat → Pos) (l : List (Option CB)) : Nat → Hp → Hp :=
  List.rec (motive := fun _ => Nat → Hp → Hp) (fun _ h => h) (fun o _ ih i h => ih (Nat.succ i) (Option.rec h (fun b => h.put (f i) (blkI f b)) o)) l
structure LayR (f : Nat → Pos) (l : List (Option CB)) (h h' : Hp) : Prop where
  next : h'.next.toNat = h.next.toNat + l.length
  low : ∀ p : Pos, p.toNat < h.next.toNat → h'.get p = h.get p
  at_ : ∀ (p : Pos) j b, p.toNat = h.next.toNat + j → l[j]? = some (some b) → h'.get p = some (blkI f b)
  no : ∀ (p : Pos) j, p.toNat = h.next.toNat + j → l[j]? = some none → h'.get p = none
  top : ∀ p : Pos, h'.next.toNat ≤ p.toNat → h'.get p = none
theorem layB_ok {f : Nat → Pos} : ∀ {l : List (Option CB)} {h : Hp}, (∀ p : Pos, h.next.toNat ≤ p.toNat → h.get p = none) → LayR f l h (layB f l h) := by
  intro l
  induction l with
  | nil => intro h hn; exact ⟨rfl, fun _ _ => rfl, fun _ _ _ _ h => by simp at h, fun _ _ _ h => by simp at h, hn⟩
  | cons o l ih =>
    intro h hn
    cases o with
    | none =>
      have e : (skipH h).next.toNat = h.next.toNat + 1 := by show h.next.succ.toNat = _; rw [Pos.toNat_succ]
      have eg : ∀ p, (skipH h).get p = h.get p := fun p => rfl
      have r := ih (h := skipH h) (fun p hp => by rw [eg]; exact hn p (by omega))
      show LayR f (none :: l) h (layB f l (skipH h))
      refine ⟨?_, ?_, ?_, ?_, r.top⟩
      · rw [r.next, e, List.length_cons]; omega
      · intro p hp; rw [r.low p (by omega), eg]
      · intro p j b hp hj
        cases j with
        | zero => simp at hj
        | succ j => exact r.at_ p j b (by omega) (by simpa using hj)
      · intro p j hp hj
        cases j with
        | zero => rw [r.low p (by omega), eg]; exact hn p (by omega)
        | succ j => exact r.no p j (by omega) (by simpa using hj)
    | some b0 =>
      have e : (h.new (blkI f b0)).next.toNat = h.next.toNat + 1 := by rw [Hp.new_next, Pos.toNat_succ]
      have r := ih (h := h.new (blkI f b0)) (fun p hp => by rw [Hp.get_new_other _ _ _ (fun x => by subst x; omega)]; exact hn p (by omega))
      show LayR f (some b0 :: l) h (layB f l (h.new (blkI f b0)))
      refine ⟨?_, ?_, ?_, ?_, r.top⟩
      · rw [r.next, e, List.length_cons]; omega
      · intro p hp; rw [r.low p (by omega), Hp.get_new_other _ _ _ (fun x => by subst x; omega)]
      · intro p j b hp hj
        cases j with
        | zero =>
          have : p = h.next := Pos.toNat_inj (by omega)
          subst this
          simp at hj; subst hj
          rw [r.low _ (by omega), Hp.get_new_same]
        | succ j => exact r.at_ p j b (by omega) (by simpa using hj)
      · intro p j hp hj
        cases j with
        | zero => simp at hj
        | succ j => exact r.no p j (by omega) (by simpa using hj)
structure PutR (f : Nat → Pos) (l : List (Option CB)) (i : Nat) (h h' : Hp) : Prop where
  at_ : ∀ j b, l[j]? = some (some b) → h'.get (f (i + j)) = some (blkI f b)
  other : ∀ p, (∀ j b, l[j]? = some (some b) → p ≠ f (i + j)) → h'.get p = h.get p
  next : h'.next = h.next
theorem putB_ok {f : Nat → Pos} : ∀ {l : List (Option CB)} {i : Nat} {h : Hp}, (∀ j j' b b', l[j]? = some (some b) → l[j']? = some (some b') → f (i + j) = f (i + j') → j = j') → PutR f l i h (putB f l i h) := by
  intro l
  induction l with
  | nil => intro i h _; exact ⟨fun _ _ h => by simp at h, fun _ _ => rfl, rfl⟩
  | cons o l ih =>
    intro i h hi
    have hi' : ∀ j j' b b', l[j]? = some (some b) → l[j']? = some (some b') → f (i + 1 + j) = f (i + 1 + j') → j = j' := by
      intro j j' b b' h1 h2 e
      have := hi (j + 1) (j' + 1) b b' (by simpa using h1) (by simpa using h2) (by rw [show i + (j + 1) = i + 1 + j by omega, show i + (j' + 1) = i + 1 + j' by omega]; exact e)
      omega
    cases o with
    | none =>
      have r := ih (h := h) hi'
      show PutR f (none :: l) i h (putB f l (i + 1) h)
      refine ⟨?_, ?_, r.next⟩
      · intro j b hj
        cases j with
        | zero => simp at hj
        | succ j => rw [show i + (j + 1) = i + 1 + j by omega]; exact r.at_ j b (by simpa using hj)
      · intro p hp
        exact r.other p (fun j b hj => by rw [show i + 1 + j = i + (j + 1) by omega]; exact hp (j + 1) b (by simpa using hj))
    | some b0 =>
      have r := ih (h := h.put (f i) (blkI f b0)) hi'
      show PutR f (some b0 :: l) i h (putB f l (i + 1) (h.put (f i) (blkI f b0)))
      refine ⟨?_, ?_, by rw [r.next, Hp.put_next]⟩
      · intro j b hj
        cases j with
        | zero =>
          simp at hj; subst hj
          show (putB f l (i + 1) (h.put (f i) (blkI f b0))).get (f i) = _
          rw [r.other (f i) (fun j b hj e => by
            have := hi 0 (j + 1) b0 b (by simp) (by simpa using hj) (by rw [show i + (j + 1) = i + 1 + j by omega]; exact e)
            omega), Hp.get_put_same]
        | succ j => rw [show i + (j + 1) = i + 1 + j by omega]; exact r.at_ j b (by simpa using hj)
      · intro p hp
        rw [r.other p (fun j b hj => by rw [show i + 1 + j = i + (j + 1) by omega]; exact hp (j + 1) b (by simpa using hj)), Hp.get_put_other]
        exact hp 0 b0 (by simp)
noncomputable def seqP (n : Nat) : Pos → List Pos := Nat.rec (motive := fun _ => Pos → List Pos) (fun _ => []) (fun _ ih p => p :: ih p.succ) n
theorem seqP_len : ∀ (n : Nat) (p : Pos), (seqP n p).length = n
  | 0, _ => rfl
  | n + 1, p => by show (p :: seqP n p.succ).length = _; rw [List.length_cons, seqP_len n]
theorem seqP_at : ∀ (n : Nat) (p : Pos) (j : Nat), j < n → ∃ q, (seqP n p)[j]? = some q ∧ q.toNat = p.toNat + j
  | 0, _, _, h => by omega
  | n + 1, p, 0, _ => ⟨p, rfl, rfl⟩
  | n + 1, p, j + 1, h => by
    obtain ⟨q, h1, h2⟩ := seqP_at n p.succ j (by omega)
    exact ⟨q, h1, by rw [h2, Pos.toNat_succ]; omega⟩
noncomputable def nthP (l : List Pos) (i : Nat) : Pos := Option.rec Pos.h (fun p => p) (atR i l)
theorem nthP_at {l : List Pos} {i : Nat} {p : Pos} (h : l[i]? = some p) : nthP l i = p := by unfold nthP; rw [atR_eq, h]
noncomputable def ptrOf (v : AVal) : Option Pos := Option.rec (Option.rec none (fun s => Option.rec none (fun a => some a.1) s.a) (asSl v)) (fun a => some a.1) (asP v)
noncomputable def stepP (roots : List AVal) (h : Hp) (acc : List Pos) (x : Nat × Nat) : Option Pos :=
  Nat.rec (ob (atR x.2 roots) ptrOf) (fun j _ => ob (h.cells (nthP acc j)) fun c => ob (atR x.2 c.vs) ptrOf) x.1
noncomputable def rsn (roots : List AVal) (h : Hp) (l : List (Nat × Nat)) : List Pos → Option (List Pos) :=
  List.rec (motive := fun _ => List Pos → Option (List Pos)) (fun _ => some []) (fun x _ ih acc => ob (stepP roots h acc x) fun p => ob (ih (appR acc [p])) fun r => some (p :: r)) l
noncomputable def ioWith (g : Pos) (e : IoE) (args : List AVal) (h : Hp) (r : Nat → Pos) : Option (AVal × Hp) :=
  ifb (mtL r e.args args) (ob (mt g r e.pre 0 h) fun hK => some (instR r e.res, layB r e.new (putB r e.post 0 hK))) none
noncomputable def ioHit (g : Pos) (e : IoE) (args : List AVal) (h : Hp) : Option (AVal × Hp) :=
  ob (rsn args h e.paths []) fun ρ => ifb (Nat.beq (lenR ρ) (lenR e.pre)) (ioWith g e args h (nthP (appR ρ (seqP (lenR e.new) h.next)))) none
noncomputable def ioL (g : Pos) (es : List IoE) (args : List AVal) (h : Hp) : Option (AVal × Hp) :=
  List.rec none (fun e _ ih => Option.rec ih (fun x => some x) (ioHit g e args h)) es
noncomputable def ioF (G : Nat × List Nat) (es : List IoE) (args : List AVal) (h : Hp) : Option (AVal × Hp) := ifb (globS G h) (ioL (Pos.ofNat G.1) es args h) none
/-- where there is none, the function itself is run -/
noncomputable def ioOr (G : Nat × List Nat) (es : List IoE) (P : Program) (fs : Nat → Option AFun) (n k : Nat) (args : List AVal) (h : Hp) : Option (AVal × Hp) :=
  Option.rec (call P fs n k args h) (fun x => some x) (ioF G es args h)
noncomputable def okEnd (g : Pos) (e : IoE) (q0 : List Pos) (hn : Nat) (v : AVal) (H1 : Hp) (q1 : List Pos) : Bool :=
  ifb (Nat.beq (lenR q1) (lenR e.new)) (ifb (allR (fun p => Nat.ble hn p.toNat) q1) (ifb (AVal.same v (instR (nthP (appR q0 q1)) e.res))
    (Option.rec false (fun _ => true) (mt g (nthP (appR q0 q1)) (appR e.post e.new) 0 H1)) false) false) false
noncomputable def okRun (g : Pos) (e : IoE) (q0 : List Pos) (hn : Nat) (x : AVal × Hp) : Bool :=
  Option.rec false (okEnd g e q0 hn x.1 x.2) (rsn [x.1] x.2 e.npaths q0)
noncomputable def wfE (e : IoE) : Bool :=
  ifb (allR (wfC (lenR e.pre)) e.args) (ifb (allR (wfB (lenR e.pre)) e.pre) (ifb (allR (wfB (Nat.add (lenR e.pre) (lenR e.new))) e.post) (ifb (allR (wfB (Nat.add (lenR e.pre) (lenR e.new))) e.new)
    (ifb (wfR (Nat.add (lenR e.pre) (lenR e.new)) e.res) (Nat.beq (lenR e.post) (lenR e.pre)) false) false) false) false) false
noncomputable def checkIo (P : Program) (fs : Nat → Option AFun) (n : Nat) (G : Nat × List Nat) (k : Nat) (e : IoE) : Bool :=
  ifb (wfE e) (Option.rec false (okRun (Pos.ofNat G.1) e (seqP (lenR e.pre) (hG P G).next) (layB (nthP (seqP (lenR e.pre) (hG P G).next)) e.pre (hG P G)).next.toNat)
    (call P fs n k (instL (nthP (seqP (lenR e.pre) (hG P G).next)) e.args) (layB (nthP (seqP (lenR e.pre) (hG P G).next)) e.pre (hG P G)))) false
end Go.Av


namespace Go.Av
variable [Tok]
set_option linter.unusedSectionVars false
variable {P : Program}
theorem hG_get {G : Nat × List Nat} {b : Pos} {x : Blk} (hb : (hG P G).get b = some x) : b = Pos.ofNat G.1 ∧ x = .cells ⟨ofBytes G.2, false, []⟩ := by
  unfold hG at hb
  by_cases e : b = Pos.ofNat G.1
  · subst e; rw [Hp.get_put_same] at hb; cases hb; exact ⟨rfl, rfl⟩
  · rw [Hp.get_put_other _ _ _ _ e] at hb
    have : ∀ p : Pos, Tr.get p (Tr.leaf : Tr Blk) = none := by
      intro p; induction p with
      | h => rfl
      | o p ih => exact ih
      | i p ih => exact ih
    have hb' : Tr.get b (Tr.leaf : Tr Blk) = some x := hb
    rw [this] at hb'; cases hb'
/-- the numbered blocks' places in the small heap -/
noncomputable def σ0 (σg σ : Sg) (s : Nat) (n : Nat) (r : Nat → Pos) : Sg := fun p => if p.toNat < s then σg p else if p.toNat < s + n then σ (r (p.toNat - s)) else none
theorem BlkR_ren {N : Nat} {σ τ : Sg} {f g : Nat → Pos} (hr : Ren N σ f τ g) {b : CB} (hw : allR (wfC N) b.vs = true) {o : Option Obj} {I : BI} {st st' : List Pos} (h : BlkR σ o I (.cells ⟨instL f b.vs, b.own, st⟩)) : BlkR τ o I (.cells ⟨instL g b.vs, b.own, st'⟩) := by
  obtain ⟨arr, el, fz, h1, h2, h3, h4, h5, h6⟩ := h
  refine ⟨arr, el, fz, h1, ?_, h3, h4, instL_VRL hr hw h5, h6⟩
  rw [h2]; show (instL f b.vs).length = (instL g b.vs).length
  rw [instL_map, instL_map, List.length_map, List.length_map]
section
variable {G : Nat × List Nat} {σ σg : Sg} {h hK : Hp} {w : World} {pre : List (Option CB)} {r q : Nat → Pos}
theorem allR_at {α : Type} {g : α → Bool} {l : List α} (h : allR g l = true) {j : Nat} {x : α} (hj : l[j]? = some x) : g x = true := by
  rw [allR_eq, List.all_eq_true] at h; exact h x (List.mem_of_getElem? hj)
theorem canon_sim (s : Sim σ h w) (hg : GlobR P σ) (hlt : G.1 < P.globals.size) (hgc : ∃ c, h.get (Pos.ofNat G.1) = some (.cells c)) (sg : Sim σg (hG P G) w) (hgg : GlobR P σg)
    (hm : MtR (Pos.ofNat G.1) r pre 0 h hK) (hw : allR (wfB pre.length) pre = true) (hq : ∀ i, i < pre.length → (q i).toNat = (hG P G).next.toNat + i) :
    Sim (σ0 σg σ (hG P G).next.toNat pre.length r) (layB q pre (hG P G)) w ∧ GlobR P (σ0 σg σ (hG P G).next.toNat pre.length r) ∧
      (∀ i, i < pre.length → σ0 σg σ (hG P G).next.toNat pre.length r (q i) = σ (r i)) ∧
      (∀ p x, (layB q pre (hG P G)).get p = some x → touch x → ∃ j b, pre[j]? = some (some b) ∧ p = q j ∧ b.own = true) := by
  have hfr : ∀ p : Pos, (hG P G).next.toNat ≤ p.toNat → (hG P G).get p = none := fun p hp => sg.get_next hp
  have L := layB_ok (f := q) (l := pre) hfr
  have hσq : ∀ i, i < pre.length → σ0 σg σ (hG P G).next.toNat pre.length r (q i) = σ (r i) := by
    intro i hi
    unfold σ0
    rw [hq i hi, if_neg (by omega), if_pos (by omega), Nat.add_sub_cancel_left]
  have hle : σg.le (σ0 σg σ (hG P G).next.toNat pre.length r) := by
    intro p I hp
    unfold σ0
    by_cases e : p.toNat < (hG P G).next.toNat
    · rw [if_pos e]; exact hp
    · rw [sg.fresh p (by omega)] at hp; cases hp
  have hren : Ren pre.length σ r (σ0 σg σ (hG P G).next.toNat pre.length r) q := fun i hi I hI => by rw [hσq i hi]; exact hI
  have hget : ∀ p x, (layB q pre (hG P G)).get p = some x → (p = Pos.ofNat G.1 ∧ p.toNat < (hG P G).next.toNat ∧ x = .cells ⟨ofBytes G.2, false, []⟩) ∨ ∃ j b, pre[j]? = some (some b) ∧ j < pre.length ∧ p = q j ∧ x = blkI q b := by
    intro p x hp
    by_cases h1 : p.toNat < (hG P G).next.toNat
    · rw [L.low p h1] at hp
      obtain ⟨e1, e2⟩ := hG_get hp
      exact .inl ⟨e1, h1, e2⟩
    · by_cases h2 : p.toNat < (hG P G).next.toNat + pre.length
      · obtain ⟨j, hj⟩ : ∃ j, p.toNat = (hG P G).next.toNat + j := ⟨p.toNat - (hG P G).next.toNat, by omega⟩
        have hj' : j < pre.length := by omega
        have hpq : p = q j := Pos.toNat_inj (by rw [hq j hj', hj])
        cases e : pre[j]? with
        | none => rw [List.getElem?_eq_none_iff] at e; omega
        | some o =>
          cases o with
          | none => rw [L.no p j hj e] at hp; cases hp
          | some b =>
            rw [L.at_ p j b hj e] at hp; cases hp
            exact .inr ⟨j, b, e, hj', hpq, rfl⟩
      · rw [L.top p (by rw [L.next]; omega)] at hp; cases hp
  have hglob : ∀ g, g < P.globals.size → (Pos.ofNat g).toNat < (hG P G).next.toNat := by
    intro g hg'
    show _ < (Pos.ofNat P.globals.size).toNat
    rw [Pos.toNat_ofNat, Pos.toNat_ofNat]; omega
  have hown : ∀ j b, pre[j]? = some (some b) → ∃ I, σ (r j) = some I ∧ σ0 σg σ (hG P G).next.toNat pre.length r (q j) = some I := by
    intro j b hj
    obtain ⟨_, st, h1, _⟩ := hm.at_ j b hj
    rw [Nat.zero_add] at h1
    obtain ⟨I, hI⟩ := s.old h1
    have hlt' := (List.getElem?_eq_some_iff.1 hj).1
    exact ⟨I, hI, by rw [hσq j hlt']; exact hI⟩
  refine ⟨⟨?_, ?_, ?_, ?_, ?_⟩, hgg.mono hle, hσq, ?_⟩
  · intro p x hp
    rcases hget p x hp with ⟨e1, e2, e3⟩ | ⟨j, b, e1, e2, e3, e4⟩
    · rw [L.low p e2] at hp
      obtain ⟨I, hI, hR⟩ := sg.blk p x hp
      exact ⟨I, hle _ _ hI, hR.mono hle⟩
    · subst e3; subst e4
      obtain ⟨_, st, h1, _⟩ := hm.at_ j b e1
      rw [Nat.zero_add] at h1
      obtain ⟨I, hI, hR⟩ := s.blk _ _ h1
      exact ⟨I, by rw [hσq j e2]; exact hI, BlkR_ren hren (allR_at hw e1) hR⟩
  · intro p hp
    rw [L.next] at hp
    unfold σ0; rw [if_neg (by omega), if_neg (by omega)]
  · intro p I hp
    unfold σ0 at hp
    split at hp
    · exact sg.bound p I hp
    · split at hp
      · exact s.bound _ I hp
      · cases hp
  · intro p p' I J x y hne hI hJ e hp hp' ht hd
    exfalso
    rcases hget p x hp with ⟨_, _, e3⟩ | ⟨j, b, e1, e2, e3, e4⟩
    · subst e3; cases ht
    · subst e3; subst e4
      obtain ⟨I', a1, a2⟩ := hown j b e1
      rw [a2] at hI; cases hI
      obtain ⟨hng, st, h1, h2, h3⟩ := hm.at_ j b e1
      rw [Nat.zero_add] at h1 hng
      rcases hget p' y hp' with ⟨f1, f2, f3⟩ | ⟨j', b', f1, f2, f3, f4⟩
      · obtain ⟨c, hc⟩ := hgc
        obtain ⟨Ig, g1, g2, _⟩ := hg G.1 hlt
        obtain ⟨Ig', g1', g2', _⟩ := hgg G.1 hlt
        rw [f1] at hJ
        rw [hle _ _ g1'] at hJ; cases hJ
        obtain ⟨cx, cy, k1, _, k3, _⟩ := s.sep (r j) (Pos.ofNat G.1) I Ig _ _ hng a1 g1 (by rw [e, g2, g2']) h1 hc ht (by simp)
        cases k1
        exact (h2 _ k3).1 rfl
      · subst f3; subst f4
        obtain ⟨J', b1, b2⟩ := hown j' b' f1
        rw [b2] at hJ; cases hJ
        obtain ⟨_, st', h1', _⟩ := hm.at_ j' b' f1
        rw [Nat.zero_add] at h1'
        have hjj : j' ≠ j := fun x => hne (by rw [x])
        obtain ⟨cx, cy, k1, _, k3, _⟩ := s.sep (r j) (r j') I J _ _ (fun x => hjj (hm.inj j j' b b' e1 f1 (by rw [Nat.zero_add, Nat.zero_add]; exact x)).symm) a1 b1 e h1 h1' ht (by simp)
        cases k1
        have := h3 j' b' hjj f1
        rw [Nat.zero_add] at this
        exact this k3
  · intro p c hp d hd
    rcases hget p _ hp with ⟨_, _, e3⟩ | ⟨j, b, _, _, _, e4⟩
    · cases e3; cases hd
    · cases e4; cases hd
  · intro p x hp ht
    rcases hget p x hp with ⟨_, _, e3⟩ | ⟨j, b, e1, e2, e3, e4⟩
    · subst e3; cases ht
    · subst e4; exact ⟨j, b, e1, e3, ht⟩
end
end Go.Av


namespace Go.Av
variable [Tok]
set_option linter.unusedSectionVars false
variable {P : Program}
noncomputable def σ2 (σ σ1 : Sg) (s m n : Nat) (q : Nat → Pos) : Sg := fun p => if p.toNat < s then σ p else if p.toNat < s + m then σ1 (q (n + (p.toNat - s))) else none
section
variable {g : Pos} {σ σa σ1 : Sg} {h hK H0 H1 Hx : Hp} {w w1 : World} {pre post new : List (Option CB)} {r q : Nat → Pos}
theorem io_end (s : Sim σ h w) (hm : MtR g r pre 0 h hK) (s0 : Sim σa H0 w) (hσa : ∀ i, i < pre.length → σa (q i) = σ (r i))
    (hto : ∀ p x, H0.get p = some x → touch x → ∃ j b, pre[j]? = some (some b) ∧ p = q j ∧ b.own = true)
    (hno : ∀ j, pre[j]? = some none → H0.get (q j) = none) (hlow : ∀ i, i < pre.length → (q i).toNat < H0.next.toNat) (hhi : ∀ j, j < new.length → H0.next.toNat ≤ (q (pre.length + j)).toNat)
    (s1 : Sim σ1 H1 w1) (t : Step σa H0 w σ1 H1 w1) (mq : MtR g q (post ++ new) 0 H1 Hx) (hlen : post.length = pre.length) (hw : allR (wfB (pre.length + new.length)) (post ++ new) = true)
    (hr : ∀ j, j < new.length → (r (pre.length + j)).toNat = h.next.toNat + j) :
    ∃ σ', Sim σ' (layB r new (putB r post 0 hK)) w1 ∧ Step σ h w σ' (layB r new (putB r post 0 hK)) w1 ∧ Ren (pre.length + new.length) σ1 q σ' r := by
  have hold : ∀ i, i < pre.length → σ1 (q i) = σ (r i) := fun i hi => by rw [t.old _ (hlow i hi), hσa i hi]
  have hs2 : ∀ p : Pos, p.toNat < h.next.toNat → σ2 σ σ1 h.next.toNat new.length pre.length q p = σ p := fun p hp => by unfold σ2; rw [if_pos hp]
  have hlt : ∀ p I, σ p = some I → p.toNat < h.next.toNat := fun p I hp => by
    rcases Nat.lt_or_ge p.toNat h.next.toNat with h1 | h1
    · exact h1
    · rw [s.fresh p h1] at hp; cases hp
  have hlt' : ∀ p x, h.get p = some x → p.toNat < h.next.toNat := fun p x hp => by obtain ⟨I, hI⟩ := s.old hp; exact hlt p I hI
  have hnew : ∀ j, j < new.length → σ2 σ σ1 h.next.toNat new.length pre.length q (r (pre.length + j)) = σ1 (q (pre.length + j)) := fun j hj => by
    unfold σ2; rw [hr j hj, if_neg (by omega), if_pos (by omega), Nat.add_sub_cancel_left]
  have hle : σ.le (σ2 σ σ1 h.next.toNat new.length pre.length q) := fun p I hp => by rw [hs2 p (hlt p I hp)]; exact hp
  have hren : Ren (pre.length + new.length) σ1 q (σ2 σ σ1 h.next.toNat new.length pre.length q) r := by
    intro i hi I hI
    by_cases e : i < pre.length
    · rw [hold i e] at hI; exact hle _ _ hI
    · obtain ⟨j, rfl⟩ : ∃ j, i = pre.length + j := ⟨i - pre.length, by omega⟩
      rw [hnew j (by omega)]; exact hI
  have hpn : ∀ i b, (post ++ new)[i]? = some (some b) → i < pre.length + new.length := fun i b hi => by
    have := (List.getElem?_eq_some_iff.1 hi).1
    rw [List.length_append] at this; omega
  have hpo : ∀ j b, post[j]? = some (some b) → (post ++ new)[j]? = some (some b) := fun j b hj => by
    rw [List.getElem?_append_left (List.getElem?_eq_some_iff.1 hj).1]; exact hj
  have hne : ∀ j b, new[j]? = some (some b) → (post ++ new)[pre.length + j]? = some (some b) := fun j b hj => by
    rw [List.getElem?_append_right (by omega), hlen, Nat.add_sub_cancel_left]; exact hj
  have hcan : ∀ i b, (post ++ new)[i]? = some (some b) → ∃ st, H1.get (q i) = some (.cells ⟨instL q b.vs, b.own, st⟩) ∧ ∀ j' b', j' ≠ i → (post ++ new)[j']? = some (some b') → ¬ q j' ∈ st := by
    intro i b hi
    obtain ⟨_, st, h1, _, h3⟩ := mq.at_ i b hi
    rw [Nat.zero_add] at h1
    exact ⟨st, h1, fun j' b' hne hj' => by have := h3 j' b' hne hj'; rwa [Nat.zero_add] at this⟩
  have hqinj : ∀ i i' b b', (post ++ new)[i]? = some (some b) → (post ++ new)[i']? = some (some b') → q i = q i' → i = i' := fun i i' b b' h1 h2 e =>
    mq.inj i i' b b' h1 h2 (by rw [Nat.zero_add, Nat.zero_add]; exact e)
  have hpre : ∀ i b, i < pre.length → (post ++ new)[i]? = some (some b) → ∃ b', pre[i]? = some (some b') := by
    intro i b hi hb
    obtain ⟨st, h1, _⟩ := hcan i b hb
    cases e : pre[i]? with
    | none => rw [List.getElem?_eq_none_iff] at e; omega
    | some o =>
      cases o with
      | some b' => exact ⟨b', rfl⟩
      | none => rw [t.dom _ (hlow i hi) (hno i e)] at h1; cases h1
  have hpost : ∀ j b, post[j]? = some (some b) → j < pre.length := fun j b hj => by have := (List.getElem?_eq_some_iff.1 hj).1; omega
  have hrinj : ∀ j j' b b', post[j]? = some (some b) → post[j']? = some (some b') → r (0 + j) = r (0 + j') → j = j' := by
    intro j j' b b' h1 h2 e
    obtain ⟨c, hc⟩ := hpre j b (hpost j b h1) (hpo j b h1)
    obtain ⟨c', hc'⟩ := hpre j' b' (hpost j' b' h2) (hpo j' b' h2)
    exact hm.inj j j' c c' hc hc' e
  have hat : ∀ i b, pre[i]? = some (some b) → ∃ st, h.get (r i) = some (.cells ⟨instL r b.vs, b.own, st⟩) ∧ (∀ d ∈ st, hK.get d = some .dead) ∧ hK.get (r i) = some .dead := by
    intro i b hi
    obtain ⟨_, st, h1, h2, _⟩ := hm.at_ i b hi
    have h3 := hm.dead i b hi
    rw [Nat.zero_add] at h1 h3
    exact ⟨st, h1, fun d hd => (h2 d hd).2.1, h3⟩
  have PU := putB_ok (f := r) (l := post) (i := 0) (h := hK) hrinj
  have hPn : (putB r post 0 hK).next = h.next := by rw [PU.next, hm.next]
  have hPget : ∀ p x, (putB r post 0 hK).get p = some x → (∃ j b, post[j]? = some (some b) ∧ p = r j ∧ x = blkI r b) ∨ (hK.get p = some x) := by
    intro p x hp
    by_cases e : ∃ j b, post[j]? = some (some b) ∧ p = r (0 + j)
    · obtain ⟨j, b, h1, h2⟩ := e
      subst h2; rw [PU.at_ j b h1] at hp; cases hp
      exact .inl ⟨j, b, h1, by rw [Nat.zero_add], rfl⟩
    · rw [PU.other p (fun j b h1 h2 => e ⟨j, b, h1, h2⟩)] at hp; exact .inr hp
  have hrl : ∀ j b, post[j]? = some (some b) → (r j).toNat < h.next.toNat := fun j b hj => by
    obtain ⟨c, hc⟩ := hpre j b (hpost j b hj) (hpo j b hj)
    obtain ⟨st, h1, _⟩ := hat j c hc
    exact hlt' _ _ h1
  have hKw : ∀ p x, hK.get p = some x → ∃ y, h.get p = some y := fun p x hp => by
    rcases hm.get p with h1 | ⟨_, _, h2⟩
    · exact ⟨x, by rw [← h1]; exact hp⟩
    · exact h2
  have L := layB_ok (f := r) (l := new) (h := putB r post 0 hK) (fun p hp => by
    rw [hPn] at hp
    cases e : (putB r post 0 hK).get p with
    | none => rfl
    | some x =>
      rcases hPget p x e with ⟨j, b, h1, h2, _⟩ | h1
      · have := hrl j b h1; rw [← h2] at this; omega
      · obtain ⟨y, hy⟩ := hKw p x h1
        have := hlt' p y hy; omega)
  -- what lies where
  have cls : ∀ p x, (layB r new (putB r post 0 hK)).get p = some x → (p.toNat < h.next.toNat ∧ hK.get p = some x ∧ (x = .dead ∨ h.get p = some x)) ∨ ∃ i b, (post ++ new)[i]? = some (some b) ∧ p = r i ∧ x = blkI r b := by
    intro p x hp
    by_cases h1 : p.toNat < h.next.toNat
    · rw [L.low p (by rw [hPn]; exact h1)] at hp
      rcases hPget p x hp with ⟨j, b, h2, h3, h4⟩ | h2
      · exact .inr ⟨j, b, hpo j b h2, h3, h4⟩
      · refine .inl ⟨h1, h2, ?_⟩
        rcases hm.get p with h3 | ⟨_, h3, _⟩
        · exact .inr (by rw [← h3]; exact h2)
        · rw [h3] at h2; cases h2; exact .inl rfl
    · by_cases h2 : p.toNat < h.next.toNat + new.length
      · obtain ⟨j, hj⟩ : ∃ j, p.toNat = h.next.toNat + j := ⟨p.toNat - h.next.toNat, by omega⟩
        have hj' : j < new.length := by omega
        have hpr : p = r (pre.length + j) := Pos.toNat_inj (by rw [hr j hj', hj])
        cases e : new[j]? with
        | none => rw [List.getElem?_eq_none_iff] at e; omega
        | some o =>
          cases o with
          | none => rw [L.no p j (by rw [hPn]; exact hj) e] at hp; cases hp
          | some b =>
            rw [L.at_ p j b (by rw [hPn]; exact hj) e] at hp; cases hp
            exact .inr ⟨_, b, hne j b e, hpr, rfl⟩
      · rw [L.top p (by rw [L.next, hPn]; omega)] at hp; cases hp
  have hN : ∀ p x I, hK.get p = some x → x ≠ .dead → h.get p = some x → σ p = some I → ¬ Tch σa H0 I.cb := by
    rintro p x I h1 h2 h3 h4 ⟨p0, x0, I0, k1, k2, k3, k4⟩
    obtain ⟨j, b, e1, e2, e3⟩ := hto p0 x0 k1 k2
    subst e2
    have hj := (List.getElem?_eq_some_iff.1 e1).1
    rw [hσa j hj] at k3
    obtain ⟨st, a1, a2, a3⟩ := hat j b e1
    have hnp : r j ≠ p := fun e => by rw [e, h1] at a3; cases a3; exact h2 rfl
    obtain ⟨cx, cy, c1, _, c3, _⟩ := s.sep (r j) p I0 I _ x hnp k3 h4 k4 a1 h3 e3 h2
    cases c1
    rw [a2 p c3] at h1; cases h1; exact h2 rfl
  have hT : ∀ i b, (post ++ new)[i]? = some (some b) → b.own = true → ∀ I, σ1 (q i) = some I → I.cb < w.heap.size → Tch σa H0 I.cb := by
    intro i b hi ho I hI hlt
    obtain ⟨st, h1, _⟩ := hcan i b hi
    exact t.tch _ hlt ⟨q i, _, I, h1, ho, hI, rfl⟩
  have hsr : ∀ i b, (post ++ new)[i]? = some (some b) → ∃ I, σ1 (q i) = some I ∧ σ2 σ σ1 h.next.toNat new.length pre.length q (r i) = some I := by
    intro i b hi
    obtain ⟨st, h1, _⟩ := hcan i b hi
    obtain ⟨I, hI⟩ := s1.old h1
    exact ⟨I, hI, hren i (hpn i b hi) I hI⟩
  refine ⟨σ2 σ σ1 h.next.toNat new.length pre.length q, ⟨?_, ?_, ?_, ?_, ?_⟩, ⟨hle, t.os, t.tape, t.output, t.size, ?_, ?_, ?_, ?_, ?_, ?_⟩, hren⟩
  · intro p x hp
    rcases cls p x hp with ⟨h1, h2, h3⟩ | ⟨i, b, h1, h2, h3⟩
    · obtain ⟨y, hy⟩ := hKw p x h2
      obtain ⟨I, hI, hR⟩ := s.blk p y hy
      refine ⟨I, hle _ _ hI, ?_⟩
      by_cases hd : x = .dead
      · subst hd; trivial
      · rcases h3 with h3 | h3
        · exact absurd h3 hd
        · rw [hy] at h3; cases h3
          rw [t.unt I.cb (s.bound _ _ hI) (hN p x I h2 hd hy hI)]
          exact hR.mono hle
    · subst h2; subst h3
      obtain ⟨st, a1, _⟩ := hcan i b h1
      obtain ⟨I, hI, hR⟩ := s1.blk _ _ a1
      exact ⟨I, hren i (hpn i b h1) I hI, BlkR_ren hren (allR_at hw h1) hR⟩
  · intro p hp
    rw [L.next, hPn] at hp
    unfold σ2; rw [if_neg (by omega), if_neg (by omega)]
  · intro p I hp
    unfold σ2 at hp
    split at hp
    · exact Nat.lt_of_lt_of_le (s.bound p I hp) t.size
    · split at hp
      · exact s1.bound _ I hp
      · cases hp
  · intro p p' I J x y hnp hI hJ e hp hp' ht hd
    have hxd : x ≠ .dead := fun e => by subst e; exact ht
    rcases cls p x hp with ⟨h1, h2, h3⟩ | ⟨i, b, h1, h2, h3⟩
    · have h3 : h.get p = some x := by
        rcases h3 with h3 | h3
        · exact absurd h3 hxd
        · exact h3
      rw [hs2 p h1] at hI
      rcases cls p' y hp' with ⟨k1, k2, k3⟩ | ⟨i, b, k1, k2, k3⟩
      · have k3 : h.get p' = some y := by
          rcases k3 with k3 | k3
          · exact absurd k3 hd
          · exact k3
        rw [hs2 p' k1] at hJ
        exact s.sep p p' I J x y hnp hI hJ e h3 k3 ht hd
      · subst k2; subst k3
        have hNT := hN p x I h2 hxd h3 hI
        obtain ⟨J', j1, j2⟩ := hsr i b k1
        rw [j2] at hJ; cases hJ
        have hk := s.bound _ _ hI
        have j0 := t.nm I.cb hk hNT (q i) J j1 e.symm
        have hi : i < pre.length := by
          by_cases hi : i < pre.length
          · exact hi
          · obtain ⟨j, rfl⟩ : ∃ j, i = pre.length + j := ⟨i - pre.length, by omega⟩
            have := hpn _ b k1
            rw [s0.fresh _ (hhi j (by omega))] at j0; cases j0
        obtain ⟨b', hb'⟩ := hpre i b hi k1
        obtain ⟨st, a1, _, _⟩ := hat i b' hb'
        rw [hσa i hi] at j0
        obtain ⟨cx, cy, c1, c2, c3, c4, c5⟩ := s.sep p (r i) I J x _ hnp hI j0 e h3 a1 ht (by simp)
        refine ⟨cx, _, c1, rfl, c3, ?_, c5⟩
        show b.own = false
        cases ho : b.own with
        | false => rfl
        | true => exact absurd (hT i b k1 ho J j1 (by rw [← e]; exact hk)) (by rw [← e]; exact hNT)
    · subst h2; subst h3
      obtain ⟨I', i1, i2⟩ := hsr i b h1
      rw [i2] at hI; cases hI
      rcases cls p' y hp' with ⟨k1, k2, k3⟩ | ⟨i', b', k1, k2, k3⟩
      · have k3 : h.get p' = some y := by
          rcases k3 with k3 | k3
          · exact absurd k3 hd
          · exact k3
        rw [hs2 p' k1] at hJ
        have hk := s.bound _ _ hJ
        exact absurd (by rw [← e]; exact hT i b h1 ht I i1 (by rw [e]; exact hk)) (hN p' y J k2 hd k3 hJ)
      · subst k2; subst k3
        obtain ⟨J', j1, j2⟩ := hsr i' b' k1
        rw [j2] at hJ; cases hJ
        have hii : i' ≠ i := fun x => hnp (by rw [x])
        obtain ⟨st, a1, a2⟩ := hcan i b h1
        obtain ⟨st', a1', _⟩ := hcan i' b' k1
        obtain ⟨cx, cy, c1, _, c3, _⟩ := s1.sep (q i) (q i') I J _ _ (fun x => hii (hqinj i i' b b' h1 k1 x).symm) i1 j1 e a1 a1' ht (by simp)
        cases c1
        exact absurd c3 (a2 i' b' hii k1)
  · intro p c hp d hd
    rcases cls p _ hp with ⟨h1, h2, h3⟩ | ⟨i, b, h1, h2, h3⟩
    · rcases h3 with h3 | h3
      · cases h3
      · obtain ⟨y, hy⟩ := s.stl p c h3 d hd
        have hdl := hlt' d y hy
        rw [L.low d (by rw [hPn]; exact hdl)]
        by_cases e : ∃ j b, post[j]? = some (some b) ∧ d = r (0 + j)
        · obtain ⟨j, b, e1, e2⟩ := e
          exact ⟨_, by rw [e2]; exact PU.at_ j b e1⟩
        · rw [PU.other d (fun j b h1 h2 => e ⟨j, b, h1, h2⟩)]
          rcases hm.get d with h4 | ⟨_, h4, _⟩
          · exact ⟨y, by rw [h4]; exact hy⟩
          · exact ⟨_, h4⟩
    · cases h3; cases hd
  · intro k hk hn
    refine t.unt k hk (fun ⟨p0, x0, I0, k1, k2, k3, k4⟩ => hn ?_)
    obtain ⟨j, b, e1, e2, e3⟩ := hto p0 x0 k1 k2
    subst e2
    rw [hσa j (List.getElem?_eq_some_iff.1 e1).1] at k3
    obtain ⟨st, a1, _⟩ := hat j b e1
    exact ⟨r j, _, I0, a1, e3, k3, k4⟩
  · rintro k hk ⟨p, x, I, h1, h2, h3, h4⟩
    have hxd : x ≠ .dead := fun e => by subst e; exact h2
    rcases cls p x h1 with ⟨k1, k2, k3⟩ | ⟨i, b, k1, k2, k3⟩
    · rcases k3 with k3 | k3
      · exact absurd k3 hxd
      · rw [hs2 p k1] at h3
        exact ⟨p, x, I, k3, h2, h3, h4⟩
    · subst k2; subst k3
      obtain ⟨I', i1, i2⟩ := hsr i b k1
      rw [i2] at h3; cases h3
      obtain ⟨p0, x0, I0, m1, m2, m3, m4⟩ := hT i b k1 h2 I i1 (by rw [h4]; exact hk)
      obtain ⟨j, b', e1, e2, e3⟩ := hto p0 x0 m1 m2
      subst e2
      rw [hσa j (List.getElem?_eq_some_iff.1 e1).1] at m3
      obtain ⟨st, a1, _⟩ := hat j b' e1
      exact ⟨r j, _, I0, a1, e3, m3, by rw [m4, h4]⟩
  · rw [L.next, hPn]; omega
  · intro p hp; exact hs2 p hp
  · intro p hp hnn
    cases e : (layB r new (putB r post 0 hK)).get p with
    | none => rfl
    | some x =>
      rcases cls p x e with ⟨h1, h2, _⟩ | ⟨i, b, k1, k2, _⟩
      · obtain ⟨y, hy⟩ := hKw p x h2; rw [hnn] at hy; cases hy
      · by_cases hi : i < pre.length
        · obtain ⟨b', hb'⟩ := hpre i b hi k1
          obtain ⟨st, a1, _⟩ := hat i b' hb'
          rw [← k2, hnn] at a1; cases a1
        · obtain ⟨j, rfl⟩ : ∃ j, i = pre.length + j := ⟨i - pre.length, by omega⟩
          have := hpn _ b k1
          have := hr j (by omega)
          rw [← k2] at this; omega
  · intro k hk hn p J hp e
    have hna : ¬ Tch σa H0 k := fun ⟨p0, x0, I0, k1, k2, k3, k4⟩ => hn (by
      obtain ⟨j, b, e1, e2, e3⟩ := hto p0 x0 k1 k2
      subst e2
      rw [hσa j (List.getElem?_eq_some_iff.1 e1).1] at k3
      obtain ⟨st, a1, _⟩ := hat j b e1
      exact ⟨r j, _, I0, a1, e3, k3, k4⟩)
    unfold σ2 at hp
    split at hp
    · exact hp
    · split at hp
      · have := t.nm k hk hna _ J hp e
        rw [s0.fresh _ (hhi _ (by omega))] at this; cases this
      · cases hp
end
end Go.Av


namespace Go.Av
variable [Tok]
set_option linter.unusedSectionVars false
variable {P : Program}
theorem nthP_left {a b : List Pos} {i : Nat} (h : i < a.length) : nthP (appR a b) i = nthP a i := by
  unfold nthP; rw [atR_eq, atR_eq, appR_eq, List.getElem?_append_left h]
theorem nthP_right {a b : List Pos} {j : Nat} : nthP (appR a b) (a.length + j) = nthP b j := by
  unfold nthP; rw [atR_eq, atR_eq, appR_eq, List.getElem?_append_right (by omega), Nat.add_sub_cancel_left]
theorem nthP_seq {n : Nat} {p : Pos} {j : Nat} (h : j < n) : (nthP (seqP n p) j).toNat = p.toNat + j := by
  obtain ⟨q, h1, h2⟩ := seqP_at n p j h
  rw [nthP_at h1, h2]
theorem wfC_mono {a b : Nat} (h : a ≤ b) {c : CV} (k : wfC a c = true) : wfC b c = true := by
  cases c with
  | k v => exact k
  | p i o => have k' : Nat.blt i a = true := k; show Nat.blt i b = true; rw [Nat.blt_eq] at k' ⊢; omega
  | sl i o n c e => have k' : Nat.blt i a = true := k; show Nat.blt i b = true; rw [Nat.blt_eq] at k' ⊢; omega
/-- only what is numbered counts -/
theorem inst_congr {N : Nat} {f g : Nat → Pos} (hfg : ∀ i, i < N → f i = g i) {c : CV} (h : wfC N c = true) : inst f c = inst g c := by
  cases c with
  | k v => rfl
  | p i o => have k : Nat.blt i N = true := h; rw [Nat.blt_eq] at k; show AVal.p (some (f i, o)) = .p (some (g i, o)); rw [hfg i k]
  | sl i o n c e => have k : Nat.blt i N = true := h; rw [Nat.blt_eq] at k; show AVal.sl (some (f i, o)) n c e = .sl (some (g i, o)) n c e; rw [hfg i k]
theorem instL_congr {N : Nat} {f g : Nat → Pos} (hfg : ∀ i, i < N → f i = g i) {l : List CV} (h : allR (wfC N) l = true) : instL f l = instL g l := by
  rw [allR_eq, List.all_eq_true] at h
  rw [instL_map, instL_map]
  exact List.map_congr_left fun c hc => inst_congr hfg (h c hc)
theorem layB_congr {N : Nat} {f g : Nat → Pos} (hfg : ∀ i, i < N → f i = g i) : ∀ {l : List (Option CB)} {h : Hp}, allR (wfB N) l = true → layB f l h = layB g l h := by
  intro l
  induction l with
  | nil => intro h _; rfl
  | cons o l ih =>
    intro h hw
    change ifb (wfB N o) (allR (wfB N) l) false = true at hw
    cases e : wfB N o with
    | false => rw [e] at hw; cases hw
    | true =>
      rw [e] at hw
      cases o with
      | none => exact ih hw
      | some b =>
        show layB f l (h.new (blkI f b)) = layB g l (h.new (blkI g b))
        have hb : blkI f b = blkI g b := by unfold blkI; rw [instL_congr hfg (show allR (wfC N) b.vs = true from e)]
        rw [hb]; exact ih hw
theorem ifb_t {c d : Bool} (h : ifb c d false = true) : c = true ∧ d = true := by
  cases c with
  | false => cases h
  | true => exact ⟨rfl, h⟩
theorem io_ok {fs : Nat → Option AFun} {n k : Nat} {G : Nat × List Nat} {e : IoE} (hmx : P.follows .mixedOrders = true) (hfs : FsOk P fs) (hlt : G.1 < P.globals.size) (hc : checkIo P fs n G k e = true)
    {args : List AVal} {h h' : Hp} {v : AVal} {σ : Sg} {w : World} {args' : Array Value} (hx : ioHit (Pos.ofNat G.1) e args h = some (v, h')) (eg : globS G h = true) (hargs : VRL σ args args'.toList) (s : Sim σ h w) (hg : GlobR P σ) :
    ((callFunc k args').run P w = .ok (.enter k args') w ∧ ∀ n, CallsIn Fence.wide n P k args' w (RetR σ h w v h')) ∨
    ∃ v' w', (callFunc k args').run P w = .ok (.value v') w' ∧ ∃ σ', VR σ' v v' ∧ Sim σ' h' w' ∧ Step σ h w σ' h' w' := by
  -- what is asked of the entry
  unfold checkIo at hc
  obtain ⟨hwf, hc⟩ := ifb_t hc
  unfold wfE at hwf
  obtain ⟨wa, hwf⟩ := ifb_t hwf
  obtain ⟨wpre, hwf⟩ := ifb_t hwf
  obtain ⟨wpost, hwf⟩ := ifb_t hwf
  obtain ⟨wnew, hwf⟩ := ifb_t hwf
  obtain ⟨wres, wlen⟩ := ifb_t hwf
  rw [lenR_eq] at wa wpre
  rw [Nat.beq_eq, lenR_eq, lenR_eq] at wlen
  have hNN : Nat.add (lenR e.pre) (lenR e.new) = e.pre.length + e.new.length := by rw [lenR_eq, lenR_eq]; rfl
  rw [hNN] at wpost wnew wres
  rw [lenR_eq] at hc
  -- where the numbered blocks lie
  unfold ioHit at hx
  rw [ob_eq] at hx
  obtain ⟨ρ, _, hx⟩ := hx
  rw [ifb_eq] at hx
  obtain ⟨hρ, hx⟩ := hx
  rw [Nat.beq_eq, lenR_eq, lenR_eq] at hρ
  unfold ioWith at hx
  rw [ifb_eq] at hx
  obtain ⟨hma, hx⟩ := hx
  rw [ob_eq] at hx
  obtain ⟨hK, hmt, hx⟩ := hx
  have hm := mt_ok hmt
  have ha := mtL_eq hma
  have hx : v = instR (nthP (appR ρ (seqP (lenR e.new) h.next))) e.res ∧ h' = layB (nthP (appR ρ (seqP (lenR e.new) h.next))) e.new (putB (nthP (appR ρ (seqP (lenR e.new) h.next))) e.post 0 hK) := by
    cases hx; exact ⟨rfl, rfl⟩
  obtain ⟨ev, eh⟩ := hx
  rw [lenR_eq] at hm ha ev eh
  generalize hrr : nthP (appR ρ (seqP e.new.length h.next)) = r at hm ha ev eh
  have hr : ∀ j, j < e.new.length → (r (e.pre.length + j)).toNat = h.next.toNat + j := fun j hj => by
    rw [← hrr, ← hρ, nthP_right, nthP_seq hj]
  -- the small heap
  have hsz : P.globals.size ≤ w.heap.size := by
    by_cases h0 : P.globals.size = 0
    · omega
    · obtain ⟨I, hI, h1, _⟩ := hg (P.globals.size - 1) (by omega)
      have := s.bound _ _ hI; omega
  have hGw := globS_ok s hg hlt hsz eg
  obtain ⟨σg, sg, hgg, _⟩ := start_sim hGw
  have hgc : ∃ c, h.get (Pos.ofNat G.1) = some (.cells c) := by
    unfold globS at eg
    cases hcc : h.cells (Pos.ofNat G.1) with
    | none => rw [hcc] at eg; cases eg
    | some c => exact ⟨c, Hp.cells_eq.1 hcc⟩
  have hq : ∀ i, i < e.pre.length → (nthP (seqP e.pre.length (hG P G).next) i).toNat = (hG P G).next.toNat + i := fun i hi => nthP_seq hi
  obtain ⟨s0, hg0, hσ0, hto⟩ := canon_sim s hg hlt hgc sg hgg hm wpre hq
  have LL := layB_ok (f := nthP (seqP e.pre.length (hG P G).next)) (l := e.pre) (h := hG P G) (fun p hp => sg.get_next hp)
  generalize hH0 : layB (nthP (seqP e.pre.length (hG P G).next)) e.pre (hG P G) = H0 at hc s0 hto LL
  -- the call there
  cases hcall : call P fs n k (instL (nthP (seqP e.pre.length (hG P G).next)) e.args) H0 with
  | none => rw [hcall] at hc; cases hc
  | some x =>
  rw [hcall] at hc
  obtain ⟨v1, H1⟩ := x
  change okRun (Pos.ofNat G.1) e (seqP e.pre.length (hG P G).next) H0.next.toNat (v1, H1) = true at hc
  unfold okRun at hc
  cases hrs : rsn [v1] H1 e.npaths (seqP e.pre.length (hG P G).next) with
  | none => simp only [hrs] at hc; cases hc
  | some q1 =>
  simp only [hrs] at hc
  unfold okEnd at hc
  obtain ⟨c1, hc⟩ := ifb_t hc
  obtain ⟨c2, hc⟩ := ifb_t hc
  obtain ⟨c3, c4⟩ := ifb_t hc
  rw [Nat.beq_eq, lenR_eq, lenR_eq] at c1
  have c3 := same_eq _ _ c3
  generalize hqq : nthP (appR (seqP e.pre.length (hG P G).next) q1) = q at c3 c4
  cases hmq : mt (Pos.ofNat G.1) q (appR e.post e.new) 0 H1 with
  | none => rw [hmq] at c4; cases c4
  | some Hx =>
  have mq := mt_ok hmq
  rw [appR_eq] at mq
  have hql : ∀ i, i < e.pre.length → q i = nthP (seqP e.pre.length (hG P G).next) i := fun i hi => by
    rw [← hqq, nthP_left (by rw [seqP_len]; exact hi)]
  have hqh : ∀ j, j < e.new.length → H0.next.toNat ≤ (q (e.pre.length + j)).toNat := by
    intro j hj
    have : q (e.pre.length + j) = nthP q1 j := by rw [← hqq]; have := nthP_right (a := seqP e.pre.length (hG P G).next) (b := q1) (j := j); rw [seqP_len] at this; exact this
    rw [this]
    cases hj1 : q1[j]? with
    | none => rw [List.getElem?_eq_none_iff] at hj1; omega
    | some p => rw [nthP_at hj1]; exact Nat.le_of_ble_eq_true (allR_at c2 hj1)
  have hn0 : H0.next.toNat = (hG P G).next.toNat + e.pre.length := LL.next
  have hren0 : Ren e.pre.length σ r (σ0 σg σ (hG P G).next.toNat e.pre.length r) (nthP (seqP e.pre.length (hG P G).next)) := fun i hi I hI => by rw [hσ0 i hi]; exact hI
  have hargs0 : VRL (σ0 σg σ (hG P G).next.toNat e.pre.length r) (instL (nthP (seqP e.pre.length (hG P G).next)) e.args) args'.toList := instL_VRL hren0 wa (by rw [← ha]; exact hargs)
  have fin : ∀ σ1 v' w', VR σ1 v1 v' → Sim σ1 H1 w' → Step (σ0 σg σ (hG P G).next.toNat e.pre.length r) H0 w σ1 H1 w' → ∃ σ', VR σ' v v' ∧ Sim σ' h' w' ∧ Step σ h w σ' h' w' := by
    intro σ1 v' w' hv s1 t
    obtain ⟨σ', a1, a2, a3⟩ := io_end (r := r) (q := q) s hm s0 (fun i hi => by rw [hql i hi]; exact hσ0 i hi)
      (fun p x hp ht => by
        obtain ⟨j, b, e1, e2, e3⟩ := hto p x hp ht
        exact ⟨j, b, e1, by rw [hql j (List.getElem?_eq_some_iff.1 e1).1]; exact e2, e3⟩)
      (fun j hj => by
        have hjl := (List.getElem?_eq_some_iff.1 hj).1
        rw [hql j hjl]; exact LL.no _ j (hq j hjl) hj)
      (fun i hi => by rw [hql i hi, hq i hi, hn0]; omega) hqh s1 t mq wlen
      (by rw [allR_eq, List.all_append, ← allR_eq, ← allR_eq, wpost, wnew]; rfl) hr
    refine ⟨σ', ?_, by rw [eh]; exact a1, by rw [eh]; exact a2⟩
    rw [ev]
    exact instR_VR a3 wres (by rw [← c3]; exact hv)
  rcases call_sound hmx hfs hcall hargs0 s0 hg0 with ⟨h1, h2⟩ | ⟨v', w', h1, σ1, h2, h3, h4⟩
  · refine .inl ⟨h1, fun n => (h2 n).mono fun en w' hr => ?_⟩
    cases en with
    | returned v' => obtain ⟨σ1, b1, b2, b3⟩ := hr; exact fin σ1 v' w' b1 b2 b3
    | panicked c => exact hr.elim
    | outgrown => exact hr.elim
  · exact .inr ⟨v', w', h1, fin σ1 v' w' h2 h3 h4⟩
theorem ioOr_sem {fs : Nat → Option AFun} {n m k : Nat} {G : Nat × List Nat} {es : List IoE} (hmx : P.follows .mixedOrders = true) (hfs : FsOk P fs) (hlt : G.1 < P.globals.size) (hc : ∀ e ∈ es, checkIo P fs n G k e = true) :
    SemOk P k (ioOr G es P fs m k) := by
  intro args h v h' σ w args' hx hargs s hg
  unfold ioOr at hx
  cases hF : ioF G es args h with
  | none =>
    rw [hF] at hx
    exact call_sound hmx hfs hx hargs s hg
  | some x =>
    rw [hF] at hx
    cases (show some x = some (v, h') from hx)
    unfold ioF at hF
    rw [ifb_eq] at hF
    obtain ⟨eg, hL⟩ := hF
    have : ∃ e ∈ es, ioHit (Pos.ofNat G.1) e args h = some (v, h') := by
      clear hc
      induction es with
      | nil => cases (show none = some (v, h') from hL)
      | cons e es ih =>
        change Option.rec (ioL (Pos.ofNat G.1) es args h) (fun x => some x) (ioHit (Pos.ofNat G.1) e args h) = some (v, h') at hL
        cases he : ioHit (Pos.ofNat G.1) e args h with
        | none =>
          rw [he] at hL
          obtain ⟨e', h1, h2⟩ := ih hL
          exact ⟨e', by simp [h1], h2⟩
        | some y =>
          rw [he] at hL
          cases (show some y = some (v, h') from hL)
          exact ⟨e, by simp, he⟩
    obtain ⟨e, h1, h2⟩ := this
    exact io_ok hmx hfs hlt (hc e h1) h2 eg hargs s hg
end Go.Av


namespace Go.Av
variable [Tok]
set_option linter.unusedSectionVars false
variable {P : Program}
/-! ### Kept answers, found by a number of what is asked -/
inductive BT where
  | leaf (l : List Ent)
  | node (a b : BT)
noncomputable def allT (g : Ent → Bool) (t : BT) : Bool := BT.rec (fun l => allR g l) (fun _ _ a b => ifb a b false) t
noncomputable def hshI (n : Int) : Nat := Int.rec (fun m => Nat.mul 2 m) (fun m => Nat.add (Nat.mul 2 m) 1) n
/-- a number of a value; of rows the length alone -/
noncomputable def hshD (d : DV) : Nat := DV.rec (motive_1 := fun _ => Nat) (motive_2 := fun _ => Nat) (fun _ n => hshI n) (fun c => ifb c 1 0) (fun _ => 1) 2 (fun n _ _ _ => Nat.add n 3) (fun _ ih => ih) (fun _ ih => ih) (fun _ => 7) 5 (fun _ _ a b => Nat.add a (Nat.mul 31 b)) d
noncomputable def hshL (l : List DV) : Nat := List.rec 5 (fun d _ ih => Nat.add (hshD d) (Nat.mul 31 ih)) l
noncomputable def seekT (ds : List DV) (t : BT) : Nat → Option DV :=
  BT.rec (motive := fun _ => Nat → Option DV) (fun l _ => memoF l ds) (fun _ _ a b n => ifb (Nat.beq (Nat.mod n 2) 0) (a (Nat.div n 2)) (b (Nat.div n 2))) t
noncomputable def memoT (t : BT) (ds : List DV) : Option DV := seekT ds t (Nat.mod (hshL ds) 65521)
theorem allT_node {g : Ent → Bool} {a b : BT} (ha : allT g a = true) (hb : allT g b = true) : allT g (.node a b) = true := by
  show ifb (allT g a) (allT g b) false = true
  rw [ha, hb]
mutual
theorem DV.same_refl : ∀ d : DV, DV.same d d = true
  | .i _ _ => by simp [DV.same]
  | .b _ => by simp [DV.same]
  | .s _ => by simp [DV.same]
  | .nil => by simp [DV.same]
  | .sl _ _ cs => by simp [DV.same, DV.sames_refl cs]
  | .ag cs => by simp [DV.same, DV.sames_refl cs]
  | .tu cs => by simp [DV.same, DV.sames_refl cs]
  | .t _ => by simp [DV.same]
theorem DV.sames_refl : ∀ d : List DV, DV.sames d d = true
  | [] => by simp [DV.sames]
  | d :: r => by simp [DV.sames, DV.same_refl d, DV.sames_refl r]
end
theorem seekT_eq {g : Ent → Bool} {ds : List DV} {r : DV} : ∀ {t : BT} {n : Nat}, allT g t = true → seekT ds t n = some r → ∃ e, g e = true ∧ memoF [e] ds = some r := by
  intro t
  induction t with
  | leaf l =>
    intro n ha hs
    obtain ⟨e, h1, h2, h3⟩ := memoF_eq (show memoF l ds = some r from hs)
    have ha' : allR g l = true := ha
    rw [allR_eq, List.all_eq_true] at ha'
    refine ⟨e, ha' e h1, ?_⟩
    have : DV.sames e.args ds = true := by
      rw [← h2]; exact DV.sames_refl e.args
    show ifb (DV.sames e.args ds) (some e.res) none = some r
    rw [this, h3]
  | node a b iha ihb =>
    intro n ha hs
    have ha' : ifb (allT g a) (allT g b) false = true := ha
    obtain ⟨h1, h2⟩ := ifb_t ha'
    change ifb (Nat.beq (Nat.mod n 2) 0) (seekT ds a (Nat.div n 2)) (seekT ds b (Nat.div n 2)) = some r at hs
    cases h : Nat.beq (Nat.mod n 2) 0 with
    | true => rw [h] at hs; exact iha h1 hs
    | false => rw [h] at hs; exact ihb h2 hs
theorem memoT_pure {fs : Nat → Option AFun} {n m k : Nat} {G : Nat × List Nat} {T : List (List Sh)} {shr : Sh} {t : BT} (hmx : P.follows .mixedOrders = true) (hfs : FsOk P fs) (hl : allT (checkE P fs n G T m k shr) t = true) : PureOk P G k (memoT t) := by
  intro w args' ds r hg hds hF
  obtain ⟨e, h1, h2⟩ := seekT_eq hl (show seekT ds t _ = some r from hF)
  exact memo_pure hmx hfs (l := [e]) (fun e' he => by
    have : e' = e := by simpa using he
    subst this; exact h1) w args' ds r hg hds h2
end Go.Av
