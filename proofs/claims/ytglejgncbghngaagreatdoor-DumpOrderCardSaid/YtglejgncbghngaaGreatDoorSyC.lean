/- A part of the proof: what a machine of our own over the model's code answers is what the model does; no condition. -/
import Derived.Test.YtglejgncbghngaaGreatDoorSyB
import Derived.Test.YtglejgncbghngaaGreatDoorAwB
set_option linter.all false
set_option linter.all false
/-! Contracts of functions that make rows. -/
namespace Go.Sy
open Go Go.Av
variable [Glb] {P : Program} [Tok] {fs : Nat → Option AFun}
section
variable {Z Z' : Pos → Prop} {h h' : Hp} {m m' : List (Option Pos)} {sh sh' : SH}
theorem CR.flat {Z2 : Pos → Prop} {h2 : Hp} : ∀ (d : D) (c : CT) (v : AVal), (∀ e, c ≠ .l e) → CR P Z h d c v → CR P Z2 h2 d c v
  | .i n, c, v, _, hv => by cases c <;> simp only [CR] at hv ⊢ <;> exact hv
  | .b n, c, v, _, hv => by cases c <;> simp only [CR] at hv ⊢ <;> exact hv
  | .s n, c, v, _, hv => by cases c <;> simp only [CR] at hv ⊢ <;> exact hv
  | .l rows, c, v, hc, hv => by
    cases c with
    | l e => exact absurd rfl (hc e)
    | _ => simp only [CR] at hv
theorem RowR.flat {Z2 : Pos → Prop} {h2 : Hp} : ∀ (d : List D) (c : List CT) (v : List AVal), (∀ x ∈ c, ∀ e, x ≠ .l e) → RowR P Z h d c v → RowR P Z2 h2 d c v
  | [], c, v, _, hv => by cases c <;> cases v <;> simp only [RowR] at hv ⊢
  | d :: ds, c, v, hc, hv => by
    cases c <;> cases v <;> simp only [RowR] at hv ⊢
    exact ⟨CR.flat d _ _ (hc _ (.head _)) hv.1, RowR.flat ds _ _ (fun x hx => hc x (.tail _ hx)) hv.2⟩
theorem RowsR.flat {Z2 : Pos → Prop} {h2 : Hp} : ∀ (d : List (List D)) (c : List CT) (v : List AVal), (∀ x ∈ c, ∀ e, x ≠ .l e) → RowsR P Z h d c v → RowsR P Z2 h2 d c v
  | [], c, v, _, hv => by simp only [RowsR] at hv ⊢; exact hv
  | r :: rs, c, v, hc, hv => by
    simp only [RowsR] at hv ⊢
    obtain ⟨l1, l2, e, h1, h2⟩ := hv
    exact ⟨l1, l2, e, RowR.flat r _ _ hc h1, RowsR.flat rs _ _ hc h2⟩
theorem flatE_eq {e : TypeId} {cts : List CT} (hf : flatE P e = true) (hc : ct P e = some cts) : ∀ x ∈ cts, ∀ t, x ≠ .l t := by
  unfold flatE at hf
  rw [hc] at hf
  intro x hx t h
  have := (List.all_eq_true.1 hf) x hx
  rw [h] at this; cases this
/-- a row that a run has made comes to what there was -/
theorem tran_join {Zf : Pos → Prop} {e : TypeId} {rows : List (List D)} {p : Option Pos} (H : HeapR P Z h m sh) (T5 : Tran P Z h m sh Zf h' m sh) (hk : ∀ b : Pos, b.toNat < h.next.toNat → h'.get b = h.get b)
    (hp : ∀ b, p = some b → h.next.toNat ≤ b.toNat ∧ b.toNat < h'.next.toNat ∧ ¬ Zf b ∧ ∀ x, h'.get b = some (.cells x) → ∀ c ∈ x.stale, h.next.toNat ≤ c.toNat ∧ c.toNat < h'.next.toNat ∧ ¬ Zf c ∧ c ≠ b)
    (hb : BoxR P Zf h' m sh (.arr .ow e rows) p) : Tran P Z h m sh Zf h' (m ++ [p]) (sh ++ [.arr .ow e rows]) := by
  have H5 := T5.hp
  have hl := H.len
  have nh : ∀ {y : SB}, y.owned = true → y ≠ .hid := fun hy e => by subst e; cases hy
  have hsh : ∀ {id : Nat} {y : SB} {b : Pos}, (sh ++ [SB.arr .ow e rows])[id]? = some y → (m ++ [p])[id]? = some (some b) → (sh[id]? = some y ∧ m[id]? = some (some b) ∧ b.toNat < h.next.toNat) ∨ (id = m.length ∧ y = .arr .ow e rows ∧ p = some b) := by
    intro id y b h1 h2
    rcases get_snoc.1 h1 with h1 | ⟨h1, rfl⟩ <;> rcases get_snoc.1 h2 with h2 | ⟨h2, h3⟩
    · exact .inl ⟨h1, h2, H.old _ _ h2⟩
    · have := lt_of_get h1; omega
    · have := lt_of_get h2; omega
    · exact .inr ⟨h2, rfl, h3.symm⟩
  have ids : ∀ id : Nat, id < m.length → (m ++ [p])[id]? = m[id]? := fun id hid => List.getElem?_append_left hid
  have arr : ∀ (id : Nat) (own : Own) (e' : TypeId) (rows' : List (List D)), id < sh.length → (sh ++ [SB.arr .ow e rows])[id]? = some (.arr own e' rows') → ∃ own0 rows0, sh[id]? = some (.arr own0 e' rows0) ∧ rows'.length = rows0.length := fun id own e' rows' hid hh => ⟨own, rows', by rw [← hh, List.getElem?_append_left hid], rfl⟩
  have hs : Sle Zf h' m sh Zf h' (m ++ [p]) (sh ++ [.arr .ow e rows]) := ⟨⟨fun _ h => h, fun b c _ hc => ⟨c.own, c.stale, hc⟩⟩, H5.len, by simp, ids, arr⟩
  -- what may be written: that of before, or what is new
  have foot : ∀ b, Foot h' (m ++ [p]) (sh ++ [.arr .ow e rows]) b → Foot h' m sh b ∨ (h.next.toNat ≤ b.toNat ∧ b.toNat < h'.next.toNat ∧ ¬ Zf b) := by
    rintro b ⟨id, y, c, h1, h2, h3, h4⟩
    rcases hsh h1 h3 with ⟨k1, k2, _⟩ | ⟨_, rfl, k⟩
    · exact .inl ⟨id, y, c, k1, h2, k2, h4⟩
    · obtain ⟨q1, q2, q3, q4⟩ := hp c k
      rcases h4 with rfl | ⟨x, h5, h6⟩
      · exact .inr ⟨q1, q2, q3⟩
      · obtain ⟨w1, w2, w3, _⟩ := q4 x h5 b h6
        exact .inr ⟨w1, w2, w3⟩
  refine ⟨⟨by simp [hl], ?_, ?_, ?_, H5.zold, ?_, ?_, ?_, H5.fresh, H5.glb⟩, T5.nx, T5.z, T5.zc, ids, arr, T5.keep, ?_, T5.zn, ?_, ?_⟩
  · intro id y q h1 h2
    rcases get_snoc.1 h1 with h1 | ⟨h1, rfl⟩ <;> rcases get_snoc.1 h2 with h2 | ⟨h2, h3⟩
    · exact (H5.box id y q h1 h2).mono hs (fun b e => rfl)
    · have := lt_of_get h1; omega
    · have := lt_of_get h2; omega
    · subst h3; exact hb.mono hs (fun b e => rfl)
  · intro id b hm
    rcases get_snoc.1 hm with hm | ⟨_, hm⟩
    · exact H5.old _ _ hm
    · exact (hp b hm.symm).2.1
  · intro i j y z b hij h1 h2 h3 h4 h5 h6
    rcases hsh h1 h5 with ⟨k1, k2, k3⟩ | ⟨k0, rfl, k⟩ <;> rcases hsh h3 h6 with ⟨q1, q2, q3⟩ | ⟨q0, q1, q⟩
    · exact H5.one i j y z b hij k1 h2 q1 h4 k2 q2
    · have := (hp b q).1; omega
    · have := (hp b k).1; omega
    · omega
  · intro b hf
    rcases foot b hf with k | k
    · exact H5.zfoot b k
    · exact k.2.2
  · intro b hf
    rcases foot b hf with k | k
    · exact H5.fold b k
    · exact k.2.1
  · intro i j y z b c w h1 h2 h3 h4 h5 h6 h7 h8
    rcases hsh h1 h3 with ⟨k1, k2, k3⟩ | ⟨k0, rfl, k⟩ <;> rcases hsh h6 h8 with ⟨q1, q2, q3⟩ | ⟨q0, q1, q⟩
    · exact H5.stl i j y z b c w k1 h2 k2 h4 h5 q1 h7 q2
    · rw [hk b k3] at h4
      have hf : Foot h m sh c := ⟨i, y, b, k1, h2, k2, .inr ⟨w, h4, h5⟩⟩
      have := H.fold c hf
      have := (hp c q).1
      omega
    · obtain ⟨_, _, _, q4⟩ := hp b k
      obtain ⟨w1, _, _, _⟩ := q4 w h4 c h5
      omega
    · obtain ⟨_, _, _, q4⟩ := hp b k
      obtain ⟨_, _, _, w4⟩ := q4 w h4 c h5
      rw [k] at q; cases q; exact w4 rfl
  · intro b hf
    rcases foot b hf with k | k
    · exact T5.foot b k
    · exact .inr k.1
  · rintro b ⟨id, y, h1, h2, h3⟩
    rcases hsh h1 h3 with ⟨k1, k2, _⟩ | ⟨_, _, k⟩
    · exact .inl ⟨id, y, k1, h2, k2⟩
    · exact .inr (hp b k).1
  · intro id e' rows' hx
    rcases get_snoc.1 hx with hx | ⟨_, hx⟩
    · exact ⟨lt_of_get hx, rows', hx⟩
    · cases hx
/-- a contract of a function that makes a row is kept -/
theorem ConO.ok {cf : Ctr (List D)} {hs : Nat → Hint} {j : Nat} {c : ConO} (hct : CtrOk P fs cf) (hfs : ∀ i fn, cf i = none → P.funcs[i]? = some fn → fs i = funK P fn) (hj : ∀ fn, P.funcs[j]? = some fn → fs j = funK P fn) (hro : (!c.ro || flatE P c.e) = true)
    (hd : ∀ ds, c.pre ds = true → ∃ N d, codeS P cf hs N d j (fill c.skA ds) [] (kO c.e) = some [.l (c.f ds)]) : CallG P fs j c.ctr := by
  unfold CallG
  intro Z h m sh as avs k r H V e
  unfold ConO.ctr at e
  generalize hF : frzH (frL c.skA as) sh = sh1 at e
  obtain ⟨Z1, T1⟩ : ∃ Z1, Tran P Z h m sh Z1 h m sh1 := by rw [← hF]; exact frzH_ok _ H
  split at e
  · rename_i ds hm
    obtain ⟨hp, hk⟩ := ifb_t e
    have V1 := SVRL.mono (T1.sle H) _ _ V
    obtain ⟨s0, q1, q2⟩ := mtL_ok (m2 := []) (sh2 := []) T1.hp (fun id hid => absurd hid (Nat.not_lt_zero _)) _ _ _ _ _ hm (fun p hp => by cases hp) V1 []
    rw [List.append_nil] at q1
    have q3 : fill c.skA ds = s0 := by unfold fill; rw [q1]
    obtain ⟨N, d, hr⟩ := hd ds hp
    rw [q3] at hr
    obtain ⟨v, h', Z2, m2, sh2, s, hev, T2, hv, hkr⟩ := codeS_ok (callS_ok hct hfs d) hj T1.hp.empty q2 hr
    have keep : ∀ b : Pos, b.toNat < h.next.toNat → h'.get b = h.get b := fun b hb => T2.keep b hb foot_nil
    have zn : ∀ b, Z2 b → Z1 b ∨ h.next.toNat ≤ b.toNat := fun b hb => by
      rcases T2.zn b hb with k | k | k
      · exact .inl k
      · exact absurd k own_nil
      · exact .inr k
    -- the row that was made
    obtain ⟨p, hp1, hp2, hp3⟩ : ∃ p : Option Pos, (∀ b, p = some b → h.next.toNat ≤ b.toNat ∧ b.toNat < h'.next.toNat ∧ ¬ Z2 b ∧ ∀ x, h'.get b = some (.cells x) → ∀ w ∈ x.stale, h.next.toNat ≤ w.toNat ∧ w.toNat < h'.next.toNat ∧ ¬ Z2 w ∧ w ≠ b) ∧
        ((p = none ∧ c.f ds = [] ∧ v = .sl none 0 0 0) ∨ ∃ b cts avs st g, p = some b ∧ ct P c.e = some cts ∧ h'.get b = some (.cells ⟨avs, true, st⟩) ∧ avs.length = (c.f ds).length * cts.length ∧ RowsR P Z2 h' (c.f ds) cts avs ∧ v = .sl (some (b, 0)) (c.f ds).length (c.f ds).length g ∧ (g = 0 ∨ g = cts.length)) ∧ (∃ a n cc g, v = .sl a n cc g) := by
      unfold kO at hkr
      split at hkr
      · have hh : c.f ds = [] := by simpa using hkr.symm
        simp only [SVR] at hv
        exact ⟨none, (fun b hb => by cases hb), .inl ⟨rfl, hh, hv⟩, ⟨_, _, _, _, hv⟩⟩
      · rename_i id
        split at hkr
        · rename_i e' rows hbx
          obtain ⟨hee, hkr⟩ := bif_eq hkr rfl
          obtain rfl := Nat.eq_of_beq_eq_true hee
          have hrows : rows = c.f ds := by simpa using hkr
          subst hrows
          simp only [SVR] at hv
          obtain ⟨hid, hf, hv⟩ := hv
          rcases hv .ow c.e (c.f ds) hbx with ⟨w1, w2, w3⟩ | ⟨b, g, cts, w1, w2, w3, w4⟩
          · exact ⟨none, (fun b hb => by cases hb), .inl ⟨rfl, w2, w3⟩, ⟨_, _, _, _, w3⟩⟩
          · rcases T2.hp.box id _ _ hbx w1 with ⟨k, _⟩ | ⟨b', cts', avs, o, st, k1, k2, k3, k4, k5, k6, k7⟩
            · cases k
            · cases k1
              rw [w2] at k2; cases k2
              obtain rfl := k6 rfl
              have hfb : ∀ w, Foot h' m2 sh2 w → h.next.toNat ≤ w.toNat ∧ w.toNat < h'.next.toNat ∧ ¬ Z2 w := fun w hw => by
                refine ⟨?_, T2.hp.fold w hw, T2.hp.zfoot w hw⟩
                rcases T2.foot w hw with k | k
                · exact absurd k foot_nil
                · exact k
              refine ⟨some b, fun b1 hb1 => ?_, .inr ⟨b, cts, avs, st, g, rfl, w2, k3, k4, k5, w3, w4⟩, ⟨_, _, _, _, w3⟩⟩
              cases hb1
              obtain ⟨z1, z2, z3⟩ := hfb b ⟨id, _, b, hbx, rfl, w1, .inl rfl⟩
              refine ⟨z1, z2, z3, fun x hx w hw => ?_⟩
              obtain ⟨y1, y2, y3⟩ := hfb w ⟨id, _, b, hbx, rfl, w1, .inr ⟨x, hx, hw⟩⟩
              exact ⟨y1, y2, y3, fun e => by subst e; exact T2.hp.stl id id _ _ w w x hbx rfl w1 hx hw hbx (fun e => by cases e) w1⟩
        · cases hkr
      · cases hkr
    have fin : ∀ {Zb Zf : Pos → Prop} {shb : SH}, HeapR P Zb h m shb → Tran P Zb h m shb Zf h' m shb → (∀ b, Zf b → Zb b ∨ Z2 b) → (∀ cts avs, ct P c.e = some cts → RowsR P Z2 h' (c.f ds) cts avs → RowsR P Zf h' (c.f ds) cts avs) → k (.sa shb.length) (shb ++ [.arr .ow c.e (c.f ds)]) = some r →
        ∃ v h' Z' m' sh' s, Evn (fun n => callF fs (run P fs n) j avs h = some (v, h')) ∧ Tran P Zb h m shb Z' h' m' sh' ∧ SVR P Z' h' m' sh' s v ∧ k s sh' = some r := by
      intro Zb Zf shb Hb T5 hz hrw hk'
      have hnz : ∀ b : Pos, h.next.toNat ≤ b.toNat → ¬ Z2 b → ¬ Zf b := fun b h1 h2 h3 => by
        rcases hz b h3 with k | k
        · have := Hb.zold b k; omega
        · exact h2 k
      have hl := Hb.len
      refine ⟨v, h', Zf, m ++ [p], shb ++ [.arr .ow c.e (c.f ds)], .sa shb.length, hev, tran_join Hb T5 keep (fun b hb => ?_) ?_, ?_, hk'⟩
      · obtain ⟨z1, z2, z3, z4⟩ := hp1 b hb
        refine ⟨z1, z2, hnz b z1 z3, fun x hx w hw => ?_⟩
        obtain ⟨y1, y2, y3, y4⟩ := z4 x hx w hw
        exact ⟨y1, y2, hnz w y1 y3, y4⟩
      · rcases hp2 with ⟨rfl, w2, _⟩ | ⟨b, cts, avs, st, g, rfl, w2, w3, w4, w5, _, _⟩
        · exact .inl ⟨rfl, w2⟩
        · exact .inr ⟨b, cts, avs, true, st, rfl, w2, w3, w4, hrw cts avs w2 w5, fun _ => rfl, fun e => by cases e⟩
      · simp only [SVR]
        refine ⟨by simp, hp3, fun own e' rows' hx => ?_⟩
        rw [List.getElem?_append_right (Nat.le_refl _), Nat.sub_self] at hx
        simp only [List.getElem?_cons_zero, Option.some.injEq, SB.arr.injEq] at hx
        obtain ⟨_, rfl, rfl⟩ := hx
        have hm1 : (m ++ [p])[shb.length]? = some p := by rw [List.getElem?_append_right (by omega)]; simp [hl]
        rcases hp2 with ⟨rfl, w2, w3⟩ | ⟨b, cts, avs, st, g, rfl, w2, w3, w4, w5, w6, w7⟩
        · exact .inl ⟨hm1, w2, w3⟩
        · exact .inr ⟨b, g, cts, hm1, w2, w6, w7⟩
    cases hc : c.ro with
    | true =>
      rw [hc] at hro hk
      have hfl : flatE P c.e = true := by simpa using hro
      have T5 := tran_past (Zf := fun b => Z b ∨ (Z2 b ∧ h.next.toNat ≤ b.toNat)) H T2 (fun b hb => .inl hb) (fun b hb => hb.imp (fun h => h) (fun h => h.2)) (fun b hb => by
        rcases hb with k | k
        · exact Nat.lt_of_lt_of_le (H.zold b k) T2.nx
        · exact T2.hp.zold b k.1)
      exact fin H T5 (fun b hb => hb.imp (fun h => h) (fun h => h.1)) (fun cts avs hct' hr' => RowsR.flat _ _ _ (flatE_eq hfl hct') hr') hk
    | false =>
      rw [hc] at hk
      have T5 := tran_past (Zf := Z2) T1.hp T2 T2.z zn T2.hp.zold
      obtain ⟨v', h'', Z', m', sh', s', a1, a2, a3, a4⟩ := fin T1.hp T5 (fun b hb => .inr hb) (fun _ _ _ h => h) hk
      exact ⟨v', h'', Z', m', sh', s', a1, T1.comp H a2, a3, a4⟩
  · cases e
end
end Go.Sy


set_option linter.all false
/-! A contract over values without places as a function of Av's deep values (PureOk). -/
noncomputable section
namespace Go.Sy
open Go Go.Av
section
variable [Glb] (P : Program)
mutual
/-- a deep value as a cell -/
def dvD : CT → DV → Option D
  | .i k, .i j n => bif keq k j then some (.i n) else none
  | .b, .b c => some (.b c)
  | .s, .s l => some (.s l)
  | .l _, .nil => some (.l [])
  | .l e, .sl n ec cs => match ct P e with
    | some cts => bif Nat.beq n 0 then some (.l []) else bif Nat.beq ec cts.length then (match cellsD cts [] cs with | some ([], rows) => bif Nat.beq rows.length n then some (.l rows) else none | _ => none) else none
    | none => none
  | _, _ => none
def cellsD : List CT → List CT → List DV → Option (List D × List (List D))
  | _, [], [] => some ([], [])
  | _, _ :: _, [] => none
  | all, [], d :: r => match all with
    | c :: cs => match dvD c d, cellsD (c :: cs) cs r with | some x, some (row, rows) => some ([], (x :: row) :: rows) | _, _ => none
    | [] => none
  | all, c :: cs, d :: r => match dvD c d, cellsD all cs r with | some x, some (row, rows) => some (x :: row, rows) | _, _ => none
end
mutual
def mtD : SV → DV → Option (List D)
  | .i k _, .i j n => bif keq k j then some [.i n] else none
  | .b _, .b c => some [.b c]
  | .s _, .s l => some [.s l]
  | .l e false _, d => match dvD P (.l e) d with | some x => some [x] | none => none
  | .ag t, .ag l => mtDL t l
  | .tu t, .tu l => mtDL t l
  | _, _ => none
def mtDL : List SV → List DV → Option (List D)
  | [], [] => some []
  | a :: r, d :: q => match mtD a d, mtDL r q with | some x, some y => some (x ++ y) | _, _ => none
  | _, _ => none
end
mutual
def svDV : SV → Option DV
  | .i k n => some (.i k n)
  | .b c => some (.b c)
  | .s l => some (.s l)
  | .ag l => match svDVs l with | some x => some (.ag x) | none => none
  | .tu l => match svDVs l with | some x => some (.tu x) | none => none
  | _ => none
def svDVs : List SV → Option (List DV)
  | [] => some []
  | a :: r => match svDV a, svDVs r with | some x, some y => some (x :: y) | _, _ => none
end
/-- a contract's function over deep values -/
def conF (c : Con) (dvs : List DV) : Option DV := match mtDL P c.skA dvs with | some ds => bif c.pre ds then svDV (fill1 c.skR (c.f ds)) else none | none => none
end
variable [Glb] {P : Program} [Tok]
mutual
theorem lay_ext : ∀ (d : DV) (h : Hp), h.next.toNat ≤ (lay d h).2.next.toNat ∧ ∀ b : Pos, b.toNat < h.next.toNat → (lay d h).2.get b = h.get b
  | .i k n, h => ⟨Nat.le_refl _, fun _ _ => rfl⟩
  | .b c, h => ⟨Nat.le_refl _, fun _ _ => rfl⟩
  | .s l, h => ⟨Nat.le_refl _, fun _ _ => rfl⟩
  | .nil, h => ⟨Nat.le_refl _, fun _ _ => rfl⟩
  | .sl 0 e cs, h => ⟨by simp only [lay]; show _ ≤ h.next.succ.toNat; rw [Pos.toNat_succ]; omega, fun _ _ => by simp only [lay]; rfl⟩
  | .sl (n + 1) e cs, h => by
    have := layL_ext cs h
    simp only [lay]
    generalize layL cs h = r at this
    obtain ⟨vs, h1⟩ := r
    simp only at this ⊢
    refine ⟨by rw [Hp.new_next, Pos.toNat_succ]; omega, fun b hb => ?_⟩
    rw [Hp.get_new_other _ _ _ (fun e => by subst e; omega)]
    exact this.2 b hb
  | .ag cs, h => by have := layL_ext cs h; simp only [lay]; generalize layL cs h = r at this; obtain ⟨vs, h1⟩ := r; exact this
  | .tu cs, h => by have := layL_ext cs h; simp only [lay]; generalize layL cs h = r at this; obtain ⟨vs, h1⟩ := r; exact this
  | .t k, h => ⟨Nat.le_refl _, fun _ _ => rfl⟩
theorem layL_ext : ∀ (ds : List DV) (h : Hp), h.next.toNat ≤ (layL ds h).2.next.toNat ∧ ∀ b : Pos, b.toNat < h.next.toNat → (layL ds h).2.get b = h.get b
  | [], h => ⟨Nat.le_refl _, fun _ _ => rfl⟩
  | d :: r, h => by
    have h1 := lay_ext d h
    simp only [layL]
    generalize lay d h = x at h1
    obtain ⟨v, hh⟩ := x
    have h2 := layL_ext r hh
    simp only at h1 h2 ⊢
    generalize layL r hh = y at h2
    obtain ⟨vs, hh2⟩ := y
    exact ⟨Nat.le_trans h1.1 h2.1, fun b hb => (h2.2 b (by omega)).trans (h1.2 b hb)⟩
end
/-- a heap that has all that another one has -/
def Has (Z : Pos → Prop) (h h2 : Hp) : Prop := ∀ b : Pos, b.toNat < h.next.toNat → h2.get b = h.get b ∧ Z b
theorem Has.down {Z : Pos → Prop} {h h1 h2 : Hp} (k : Has Z h1 h2) (e : h.next.toNat ≤ h1.next.toNat ∧ ∀ b : Pos, b.toNat < h.next.toNat → h1.get b = h.get b) : Has Z h h2 :=
  fun b hb => ⟨(k b (by omega)).1.trans (e.2 b hb), (k b (by omega)).2⟩
mutual
theorem dvD_ok {Z : Pos → Prop} {h2 : Hp} : ∀ (d : DV) (c : CT) (x : D) (h : Hp), dvD P c d = some x → Has Z (lay d h).2 h2 → CR P Z h2 x c (lay d h).1
  | .i k n, c, x, h, e, H => by
    cases c <;> simp only [dvD, reduceCtorEq] at e
    rename_i k'
    obtain ⟨hk, e⟩ := bif_eq e rfl
    cases e
    rw [keq_eq] at hk
    subst hk
    simp only [CR, lay]
  | .b v, c, x, h, e, H => by
    cases c <;> simp only [dvD, reduceCtorEq] at e
    cases e
    simp only [CR, lay]
  | .s l, c, x, h, e, H => by
    cases c <;> simp only [dvD, reduceCtorEq] at e
    cases e
    simp only [CR, lay]
  | .nil, c, x, h, e, H => by
    cases c <;> simp only [dvD, reduceCtorEq] at e
    cases e
    simp only [CR, lay]
    exact ⟨none, 0, 0, rfl, Nat.le_refl _, .inl rfl, .inl trivial⟩
  | .sl n ec cs, c, x, h, e, H => by
    cases c <;> simp only [dvD, reduceCtorEq] at e
    rename_i e'
    split at e
    · rename_i cts hct
      cases n with
      | zero =>
        cases (show some (D.l []) = some x from e)
        simp only [CR, lay]
        exact ⟨_, 0, 0, rfl, Nat.le_refl _, .inl rfl, .inl trivial⟩
      | succ n =>
        have e : (bif Nat.beq ec cts.length then (match cellsD P cts [] cs with | some ([], rows) => bif Nat.beq rows.length (n + 1) then some (D.l rows) else none | _ => none) else none) = some x := e
        obtain ⟨he, e⟩ := bif_eq e rfl
        rw [Nat.beq_eq] at he
        split at e
        · rename_i rows hc
          obtain ⟨hl, e⟩ := bif_eq e rfl
          rw [Nat.beq_eq] at hl
          cases e
          have hx := layL_ext cs h
          have ih := cellsD_ok (Z := Z) (h2 := h2) cs cts [] [] rows h hc
          simp only [lay] at H ⊢
          generalize layL cs h = r at hx ih H
          obtain ⟨vs, h1⟩ := r
          simp only at hx ih H ⊢
          have hn : h1.next.toNat < (h1.new (.cells ⟨vs, false, []⟩)).next.toNat := by rw [Hp.new_next, Pos.toNat_succ]; omega
          obtain ⟨l1, l2, e1, e2, e3⟩ := ih (H.down ⟨Nat.le_of_lt hn, fun b hb => Hp.get_new_other _ _ _ (fun e => by subst e; omega)⟩)
          have : l1 = [] := by cases l1 with | nil => rfl | cons a b => simp only [RowR] at e2
          subst this
          have e1 : vs = l2 := e1
          subst e1
          obtain ⟨g1, g2⟩ := H _ hn
          rw [Hp.get_new_same] at g1
          have hlen := e3.length
          simp only [CR]
          refine ⟨some (h1.next, 0), n + 1, ec, by rw [hl], by rw [hl]; exact Nat.le_refl _, .inr ⟨cts, hct, he⟩, .inr ⟨cts, h1.next, 0, vs, false, [], hct, rfl, g2, g1, by omega, ?_⟩⟩
          rw [List.drop_zero, List.take_of_length_le (by omega)]
          exact e3
        · cases e
    · cases e
  | .ag l, c, x, h, e, H => by cases c <;> simp only [dvD, reduceCtorEq] at e
  | .tu l, c, x, h, e, H => by cases c <;> simp only [dvD, reduceCtorEq] at e
theorem cellsD_ok {Z : Pos → Prop} {h2 : Hp} : ∀ (ds : List DV) (all cs : List CT) (row : List D) (rows : List (List D)) (h : Hp), cellsD P all cs ds = some (row, rows) → Has Z (layL ds h).2 h2 → ∃ l1 l2, (layL ds h).1 = l1 ++ l2 ∧ RowR P Z h2 row cs l1 ∧ RowsR P Z h2 rows all l2
  | [], all, [], row, rows, h, e, H => by
    simp only [cellsD] at e
    cases e
    exact ⟨[], [], rfl, by simp only [RowR], by simp only [RowsR]⟩
  | [], all, c :: cs, row, rows, h, e, H => by simp only [cellsD, reduceCtorEq] at e
  | d :: r, all, [], row, rows, h, e, H => by
    simp only [cellsD] at e
    split at e
    · rename_i c cs
      split at e
      · rename_i x row' rows' hx hr
        cases e
        have h1 := dvD_ok (Z := Z) (h2 := h2) d c x h hx
        have k1 := lay_ext d h
        simp only [layL] at H ⊢
        generalize lay d h = y at h1 H k1
        obtain ⟨v, hh⟩ := y
        have h3 := cellsD_ok (Z := Z) (h2 := h2) r (c :: cs) cs row' rows' hh hr
        have k2 := layL_ext r hh
        simp only at h1 h3 H k2 ⊢
        generalize layL r hh = y at h3 H k2
        obtain ⟨vs, hh2⟩ := y
        simp only at h1 h3 H k2 ⊢
        obtain ⟨l1, l2, e1, e2, e3⟩ := h3 H
        exact ⟨[], v :: vs, rfl, by simp only [RowR], by simp only [RowsR]; exact ⟨v :: l1, l2, by rw [e1]; rfl, by simp only [RowR]; exact ⟨h1 (H.down k2), e2⟩, e3⟩⟩
      · cases e
    · cases e
  | d :: r, all, c :: cs, row, rows, h, e, H => by
    simp only [cellsD] at e
    split at e
    · rename_i x row' rows' hx hr
      cases e
      have h1 := dvD_ok (Z := Z) (h2 := h2) d c x h hx
      have k1 := lay_ext d h
      simp only [layL] at H ⊢
      generalize lay d h = y at h1 H k1
      obtain ⟨v, hh⟩ := y
      have h3 := cellsD_ok (Z := Z) (h2 := h2) r all cs row' rows hh hr
      have k2 := layL_ext r hh
      simp only at h1 h3 H k2 ⊢
      generalize layL r hh = y at h3 H k2
      obtain ⟨vs, hh2⟩ := y
      simp only at h1 h3 H k2 ⊢
      obtain ⟨l1, l2, e1, e2, e3⟩ := h3 H
      exact ⟨v :: l1, l2, by rw [e1]; rfl, by simp only [RowR]; exact ⟨h1 (H.down k2), e2⟩, e3⟩
    · cases e
end
theorem frzH_nil : ∀ l : List Nat, frzH l [] = []
  | [] => rfl
  | id :: r => by
    unfold frzH
    have : frz1 [] id = [] := by unfold frz1; simp
    rw [this]; exact frzH_nil r
mutual
theorem mtD_ok {Z : Pos → Prop} {h2 : Hp} : ∀ (sk : SV) (d : DV) (ds : List D) (h : Hp), mtD P sk d = some ds → Has Z (lay d h).2 h2 → ∀ r, ∃ s, flV sk (ds ++ r) = (s, r) ∧ SVR P Z h2 [] [] s (lay d h).1 ∧ mtV 0 [] sk s = some (ds, [])
  | .i k n, d, ds, h, e, H, r => by
    cases d <;> simp only [mtD, reduceCtorEq] at e
    obtain ⟨hk, e⟩ := bif_eq e rfl
    cases e
    have hk' := keq_eq.1 hk
    subst hk'
    exact ⟨_, rfl, by simp only [SVR, lay, hdD]; rfl, by simp only [mtV]; rw [hk]; rfl⟩
  | .b c, d, ds, h, e, H, r => by
    cases d <;> simp only [mtD, reduceCtorEq] at e
    cases e
    exact ⟨_, rfl, by simp only [SVR, lay, hdD]; rfl, by simp only [mtV]; rfl⟩
  | .s l, d, ds, h, e, H, r => by
    cases d <;> simp only [mtD, reduceCtorEq] at e
    cases e
    exact ⟨_, rfl, by simp only [SVR, lay, hdD]; rfl, by simp only [mtV]; rfl⟩
  | .l e' false rows, d, ds, h, e, H, r => by
    simp only [mtD] at e
    split at e
    · rename_i x hx
      cases e
      have hc := dvD_ok (Z := Z) (h2 := h2) d _ x h hx H
      cases x with
      | l rs =>
        refine ⟨_, rfl, ?_, by simp only [mtV]; simp; rfl⟩
        simp only [CR] at hc
        obtain ⟨a, c, g, e1, e2, e3, e4⟩ := hc
        simp only [SVR]
        refine ⟨a, c, g, e1, e2, e3, (fun h => nomatch h), ?_⟩
        rcases e4 with e4 | ⟨cts, b, o, vs, own, st, q1, q2, q3, q4, q5, q6⟩
        · exact .inl e4
        · exact .inr ⟨b, o, q2, q3, cts, vs, own, st, q1, q4, q5, q6⟩
      | _ => simp only [CR] at hc
    · cases e
  | .ag t, d, ds, h, e, H, r => by
    cases d <;> simp only [mtD, reduceCtorEq] at e
    rename_i l
    have h1 := fun H => mtDL_ok (Z := Z) (h2 := h2) t l ds h e H r
    simp only [lay] at H ⊢
    generalize layL l h = y at h1 H
    obtain ⟨vs, hh⟩ := y
    obtain ⟨s, e1, e2, e3⟩ := h1 H
    exact ⟨.ag s, by simp only [flV, e1], by simp only [SVR]; exact ⟨_, rfl, e2⟩, by simp only [mtV]; exact e3⟩
  | .tu t, d, ds, h, e, H, r => by
    cases d <;> simp only [mtD, reduceCtorEq] at e
    rename_i l
    have h1 := fun H => mtDL_ok (Z := Z) (h2 := h2) t l ds h e H r
    simp only [lay] at H ⊢
    generalize layL l h = y at h1 H
    obtain ⟨vs, hh⟩ := y
    obtain ⟨s, e1, e2, e3⟩ := h1 H
    exact ⟨.tu s, by simp only [flV, e1], by simp only [SVR]; exact ⟨_, rfl, e2⟩, by simp only [mtV]; exact e3⟩
  | .l _ true _, d, ds, h, e, H, r => by simp only [mtD, reduceCtorEq] at e
  | .nl, d, ds, h, e, H, r => by simp only [mtD, reduceCtorEq] at e
  | .sa _, d, ds, h, e, H, r => by simp only [mtD, reduceCtorEq] at e
  | .sv _ _ _, d, ds, h, e, H, r => by simp only [mtD, reduceCtorEq] at e
  | .q _ _ _ _, d, ds, h, e, H, r => by simp only [mtD, reduceCtorEq] at e
  | .qa _ _ _, d, ds, h, e, H, r => by simp only [mtD, reduceCtorEq] at e
  | .p _, d, ds, h, e, H, r => by simp only [mtD, reduceCtorEq] at e
  | .pa _ _, d, ds, h, e, H, r => by simp only [mtD, reduceCtorEq] at e
  | .fn _ _ _, d, ds, h, e, H, r => by simp only [mtD, reduceCtorEq] at e
  | .nilF, d, ds, h, e, H, r => by simp only [mtD, reduceCtorEq] at e
  | .nilI, d, ds, h, e, H, r => by simp only [mtD, reduceCtorEq] at e
  | .o _, d, ds, h, e, H, r => by simp only [mtD, reduceCtorEq] at e
  | .mp _, d, ds, h, e, H, r => by simp only [mtD, reduceCtorEq] at e
  | .x, d, ds, h, e, H, r => by simp only [mtD, reduceCtorEq] at e
theorem mtDL_ok {Z : Pos → Prop} {h2 : Hp} : ∀ (sk : List SV) (d : List DV) (ds : List D) (h : Hp), mtDL P sk d = some ds → Has Z (layL d h).2 h2 → ∀ r, ∃ s, flL sk (ds ++ r) = (s, r) ∧ SVRL P Z h2 [] [] s (layL d h).1 ∧ mtL 0 [] sk s = some (ds, [])
  | [], [], ds, h, e, H, r => by simp only [mtDL] at e; cases e; exact ⟨[], rfl, by simp only [SVRL, layL], by simp only [mtL]⟩
  | [], _ :: _, ds, h, e, H, r => by simp only [mtDL, reduceCtorEq] at e
  | _ :: _, [], ds, h, e, H, r => by simp only [mtDL, reduceCtorEq] at e
  | a :: q, d :: q', ds, h, e, H, r => by
    simp only [mtDL] at e
    split at e
    · rename_i x y hx hy
      cases e
      have h1 := fun H => mtD_ok (Z := Z) (h2 := h2) a d x h hx H (y ++ r)
      have k1 := lay_ext d h
      simp only [layL] at H ⊢
      generalize lay d h = z at h1 H k1
      obtain ⟨v, hh⟩ := z
      have h3 := fun H => mtDL_ok (Z := Z) (h2 := h2) q q' y hh hy H r
      have k2 := layL_ext q' hh
      simp only at h1 h3 H k2 ⊢
      generalize layL q' hh = z at h3 H k2
      obtain ⟨vs, hh2⟩ := z
      simp only at h1 h3 H k2 ⊢
      obtain ⟨s1, e1, e2, e3⟩ := h1 (H.down k2)
      obtain ⟨s2, f1, f2, f3⟩ := h3 H
      exact ⟨s1 :: s2, by simp only [flL, List.append_assoc, e1, f1], by simp only [SVRL]; exact ⟨_, _, rfl, e2, f2⟩, by simp only [mtL, e3, f3]; simp⟩
    · cases e
end
mutual
theorem svDV_ok {Z : Pos → Prop} {h : Hp} {m : List (Option Pos)} {sh : SH} {σ : Sg} {w : World} {Q : Nat → Prop} : ∀ (s : SV) (d : DV) (v : AVal) (v' : Value), svDV s = some d → SVR P Z h m sh s v → VR σ v v' → DR w Q d v'
  | .i k n, d, v, v', e, hv, hr => by simp only [svDV] at e; cases e; simp only [SVR] at hv; subst hv; rw [VR_i] at hr; simp only [DR]; exact hr
  | .b c, d, v, v', e, hv, hr => by simp only [svDV] at e; cases e; simp only [SVR] at hv; subst hv; simp only [VR] at hr; simp only [DR]; exact hr
  | .s l, d, v, v', e, hv, hr => by simp only [svDV] at e; cases e; simp only [SVR] at hv; subst hv; simp only [VR] at hr; simp only [DR]; exact hr
  | .ag l, d, v, v', e, hv, hr => by
    simp only [svDV] at e
    split at e
    · rename_i x hx
      cases e
      simp only [SVR] at hv
      obtain ⟨l', rfl, hv⟩ := hv
      simp only [VR] at hr
      obtain ⟨q, rfl, hr⟩ := hr
      simp only [DR]
      exact ⟨q, rfl, svDVs_ok l x l' _ hx hv hr⟩
    · cases e
  | .tu l, d, v, v', e, hv, hr => by
    simp only [svDV] at e
    split at e
    · rename_i x hx
      cases e
      simp only [SVR] at hv
      obtain ⟨l', rfl, hv⟩ := hv
      simp only [VR] at hr
      obtain ⟨q, rfl, hr⟩ := hr
      simp only [DR]
      exact ⟨q, rfl, svDVs_ok l x l' _ hx hv hr⟩
    · cases e
  | .l _ _ _, d, v, v', e, hv, hr => by simp only [svDV, reduceCtorEq] at e
  | .nl, d, v, v', e, hv, hr => by simp only [svDV, reduceCtorEq] at e
  | .sa _, d, v, v', e, hv, hr => by simp only [svDV, reduceCtorEq] at e
  | .sv _ _ _, d, v, v', e, hv, hr => by simp only [svDV, reduceCtorEq] at e
  | .q _ _ _ _, d, v, v', e, hv, hr => by simp only [svDV, reduceCtorEq] at e
  | .qa _ _ _, d, v, v', e, hv, hr => by simp only [svDV, reduceCtorEq] at e
  | .p _, d, v, v', e, hv, hr => by simp only [svDV, reduceCtorEq] at e
  | .pa _ _, d, v, v', e, hv, hr => by simp only [svDV, reduceCtorEq] at e
  | .fn _ _ _, d, v, v', e, hv, hr => by simp only [svDV, reduceCtorEq] at e
  | .nilF, d, v, v', e, hv, hr => by simp only [svDV, reduceCtorEq] at e
  | .nilI, d, v, v', e, hv, hr => by simp only [svDV, reduceCtorEq] at e
  | .o _, d, v, v', e, hv, hr => by simp only [svDV, reduceCtorEq] at e
  | .mp _, d, v, v', e, hv, hr => by simp only [svDV, reduceCtorEq] at e
  | .x, d, v, v', e, hv, hr => by simp only [svDV, reduceCtorEq] at e
theorem svDVs_ok {Z : Pos → Prop} {h : Hp} {m : List (Option Pos)} {sh : SH} {σ : Sg} {w : World} {Q : Nat → Prop} : ∀ (s : List SV) (d : List DV) (v : List AVal) (v' : List Value), svDVs s = some d → SVRL P Z h m sh s v → VRL σ v v' → DRL w Q d v'
  | [], d, v, v', e, hv, hr => by simp only [svDVs] at e; cases e; simp only [SVRL] at hv; subst hv; simp only [VRL] at hr; simp only [DRL]; exact hr
  | a :: r, d, v, v', e, hv, hr => by
    simp only [svDVs] at e
    split at e
    · rename_i x y hx hy
      cases e
      simp only [SVRL] at hv
      obtain ⟨v1, q1, rfl, h1, h2⟩ := hv
      simp only [VRL] at hr
      obtain ⟨u1, q2, rfl, h3, h4⟩ := hr
      simp only [DRL]
      exact ⟨u1, q2, rfl, svDV_ok a x v1 u1 hx h1 h3, svDVs_ok r y q1 q2 hy h2 h4⟩
    · cases e
end
/-- a contract over values without places is a function of deep values -/
theorem con_pure {fs : Nat → Option AFun} {j : Nat} {c : Con} (hmx : P.follows .mixedOrders = true) (hfs : FsOk P fs) (hc : CallG P fs j c.ctr) : PureOk P Glb.G j (conF P c) := by
  intro w args' dvs r hg hds hF
  have hglt := hg.lt
  generalize hG' : (Glb.G : Nat × List Nat) = G at hg hglt
  unfold conF at hF
  split at hF
  · rename_i ds hd
    obtain ⟨hp, hF⟩ := bif_eq hF rfl
    obtain ⟨σ0, s0, hg0, hnt⟩ := start_sim hg
    obtain ⟨σC, lC, hvs⟩ := layL_ok dvs s0 (Q := fun _ => True) (fun b x I hb hx _ => absurd hx (hnt b x hb)) hds
    have hm := mtDL_ok (P := P) (Z := fun b => b.toNat < (layL dvs (hG P G)).2.next.toNat) (h2 := (layL dvs (hG P G)).2) c.skA dvs ds (hG P G) hd (fun b hb => ⟨rfl, hb⟩) []
    generalize layL dvs (hG P G) = q at lC hvs hm
    obtain ⟨vs, hC⟩ := q
    simp only at lC hvs hm
    obtain ⟨s, m1, m2, m3⟩ := hm
    have hfr : ∀ b : Pos, hC.next.toNat ≤ b.toNat → hC.get b = none := fun b hb => by
      cases hx : hC.get b with
      | none => rfl
      | some x => obtain ⟨I, hI⟩ := lC.sim.old hx; rw [lC.sim.fresh b hb] at hI; cases hI
    have hGZ : GZ (fun b => b.toNat < hC.next.toNat) hC := by
      have hlt : (Pos.ofNat G.1).toNat < (hG P G).next.toNat := by
        show _ < (Pos.ofNat P.globals.size).toNat
        rw [Pos.toNat_ofNat, Pos.toNat_ofNat]; omega
      unfold GZ
      rw [hG']
      refine ⟨Nat.lt_of_lt_of_le hlt lC.nx, false, [], ?_⟩
      rw [lC.get _ hlt]; unfold hG; rw [Hp.get_put_same]
    have hH : HeapR P (fun b => b.toNat < hC.next.toNat) hC [] [] := ⟨rfl, (fun id x p h1 => by cases h1), (fun id b h1 => by cases h1), (fun i j x y b _ h1 => by cases h1), (fun b h => h), (fun b hb => absurd hb foot_nil), (fun b hb => absurd hb foot_nil), (fun i j x y b c z h1 => by cases h1), hfr, hGZ⟩
    let kk : SV → SH → Option (List D) := fun a _ => open Classical in if a = fill1 c.skR (c.f ds) then some [] else none
    have hk : c.ctr s [] kk = some [] := by
      unfold Con.ctr
      rw [frzH_nil, m3]
      simp only [hp]
      show kk (fill1 c.skR (c.f ds)) (bif c.ro then [] else []) = some []
      simp only [kk, if_true]
    obtain ⟨v, h', Z', m', sh', s', hev, T, hv, hks⟩ := hc hH m2 hk
    have hs' : s' = fill1 c.skR (c.f ds) := by
      simp only [kk] at hks
      split at hks
      · assumption
      · cases hks
    obtain ⟨n, hn⟩ := hev
    have hcall : call P fs n j vs hC = some (v, h') := hn n (Nat.le_refl _)
    have hno : ∀ j, ¬ Tch σC hC j := by
      rintro j ⟨b, x, I, hb, hx, hI, _⟩
      by_cases hlt : b.toNat < (hG P G).next.toNat
      · rw [lC.get b hlt] at hb; exact hnt b x hb hx
      · exact lC.new b x (by omega) hb hx
    have fin : ∀ σ' v' w', VR σ' v v' → Sim σ' h' w' → Step σC hC w σ' h' w' → PureR w r (.returned v') w' := by
      intro σ' v' w' hv' s' t'
      refine ⟨⟨t'.os, t'.tape, t'.output, t'.size, fun j hj => t'.unt j hj (hno j)⟩, ?_⟩
      rw [hs'] at hv
      exact svDV_ok _ _ _ _ hF hv hv'
    rcases call_sound hmx hfs hcall hvs lC.sim (hg0.mono lC.le) with ⟨h1, h2⟩ | ⟨v', w', h1, σ', h2, h3, h4⟩
    · refine .inl ⟨h1, fun n => (h2 n).mono fun e w' hr => ?_⟩
      cases e with
      | returned v' => obtain ⟨σ', q1, q2, q3⟩ := hr; exact fin σ' v' w' q1 q2 q3
      | panicked c => exact hr.elim
      | outgrown => exact hr.elim
    · exact .inr ⟨v', w', h1, fin σ' v' w' h2 h3 h4⟩
  · cases hF
end Go.Sy


set_option linter.all false
/-! Functions of deep values as contracts. -/
namespace Go.Sy
open Go Go.Av
noncomputable section
variable [Glb] {P : Program} [Tok]
/-! ### What is only handed on, against the model -/
mutual
theorem OV_DR {Z : Pos → Prop} {σ : Sg} {h : Hp} {w : World} (s : Sim σ h w) : ∀ (d : DV) (v : AVal) (v' : Value), OV Z h d v → VR σ v v' → DR w (fun _ => True) d v'
  | .i k n, v, v', e, hv => by simp only [OV] at e; subst e; simp only [VR] at hv; simp only [DR]; exact hv
  | .b c, v, v', e, hv => by simp only [OV] at e; subst e; simp only [VR] at hv; simp only [DR]; exact hv
  | .s l, v, v', e, hv => by simp only [OV] at e; subst e; simp only [VR] at hv; simp only [DR]; exact hv
  | .t k, v, v', e, hv => by simp only [OV] at e; subst e; simp only [VR] at hv; simp only [DR]; exact hv
  | .nil, v, v', e, hv => by simp only [OV] at e; subst e; simp only [VR] at hv; simp only [DR]; exact hv
  | .sl n e cs, v, v', ev, hv => by
    simp only [OV] at ev
    simp only [DR]
    rcases ev with ⟨rfl, rfl, p, rfl⟩ | ⟨h0, b, o, g, vs, own, st, rfl, hg, hz, hb, hle, hlen, hcs⟩
    · rw [VR_sl_some] at hv
      obtain ⟨I, q, c', hI, hv, hS⟩ := hv
      refine .inl ⟨rfl, rfl, ⟨q, ?_⟩, ⟨I.cb, trivial, s.bound _ _ hI⟩⟩
      obtain ⟨_, h1 | h1⟩ := hS
      · rcases h1.2 with h2 | h2
        · rw [hv, h2]
        · omega
      · rw [hv, h1.2]
    · rw [VR_sl_some] at hv
      obtain ⟨I, q, c', hI, hv, hS⟩ := hv
      have hc := Hp.cells_eq.2 hb
      obtain ⟨arr, el, fz, e1, e2, e3, e4, e5, _⟩ := s.cells hI hc
      simp only at e2 e5
      obtain ⟨_, hS | hS⟩ := hS
      · obtain ⟨rfl, hS⟩ := hS
        have hpart : (((arr.toList.drop I.co).take I.len).drop o).take (n * e) = (arr.toList.drop (I.co + o)).take (n * e) := drop_take_part _ _ _ _ _ (by omega)
        have e6 := (e5.drop o).take (n * e)
        rw [hpart] at e6
        refine .inr ⟨h0, I.cb, I.co + o, c', arr, el, fz, hv, trivial, e1, by omega, hlen, OVL_DRL s cs _ _ hcs e6, ?_⟩
        rcases hS with h | ⟨h4, h5, h6, h7⟩
        · exact .inl h
        · rcases hg with hg | hg
          · omega
          · subst hg
            exact .inr ⟨h4, h6, by omega⟩
      · omega
  | .ag cs, v, v', e, hv => by
    simp only [OV] at e
    obtain ⟨l, rfl, h1⟩ := e
    simp only [VR] at hv
    obtain ⟨l', rfl, h2⟩ := hv
    simp only [DR]
    exact ⟨l', rfl, OVL_DRL s cs _ _ h1 h2⟩
  | .tu cs, v, v', e, hv => by
    simp only [OV] at e
    obtain ⟨l, rfl, h1⟩ := e
    simp only [VR] at hv
    obtain ⟨l', rfl, h2⟩ := hv
    simp only [DR]
    exact ⟨l', rfl, OVL_DRL s cs _ _ h1 h2⟩
theorem OVL_DRL {Z : Pos → Prop} {σ : Sg} {h : Hp} {w : World} (s : Sim σ h w) : ∀ (d : List DV) (v : List AVal) (v' : List Value), OVL Z h d v → VRL σ v v' → DRL w (fun _ => True) d v'
  | [], v, v', e, hv => by simp only [OVL] at e; subst e; simp only [VRL] at hv; simp only [DRL]; exact hv
  | a :: r, v, v', e, hv => by
    simp only [OVL] at e
    obtain ⟨x, q, rfl, h1, h2⟩ := e
    simp only [VRL] at hv
    obtain ⟨y, q', rfl, h3, h4⟩ := hv
    exact DRL.cons (OV_DR s a _ _ h1 h3) (OVL_DRL s r _ _ h2 h4)
end
/-! ### What is laid -/
mutual
/-- slices have as many cells as they tell -/
def wfD : DV → Bool
  | .sl n e cs => bif Nat.beq n 0 then Nat.beq cs.length 0 else Nat.beq cs.length (n * e) && wfL cs
  | .ag cs => wfL cs
  | .tu cs => wfL cs
  | _ => true
def wfL : List DV → Bool
  | [] => true
  | a :: r => wfD a && wfL r
end
/-- a heap that has all that another one has, from a place on -/
def HasN (lo : Nat) (Z : Pos → Prop) (h h2 : Hp) : Prop := ∀ b : Pos, lo ≤ b.toNat → b.toNat < h.next.toNat → h2.get b = h.get b ∧ Z b
theorem HasN.down {lo : Nat} {Z : Pos → Prop} {h h1 h2 : Hp} (k : HasN lo Z h1 h2) (e : h.next.toNat ≤ h1.next.toNat ∧ ∀ b : Pos, b.toNat < h.next.toNat → h1.get b = h.get b) : HasN lo Z h h2 :=
  fun b h0 hb => ⟨(k b h0 (by omega)).1.trans (e.2 b hb), (k b h0 (by omega)).2⟩
mutual
theorem lay_OV {lo : Nat} {Z : Pos → Prop} {h2 : Hp} : ∀ (d : DV) (h : Hp), wfD d = true → lo ≤ h.next.toNat → HasN lo Z (lay d h).2 h2 → OV Z h2 d (lay d h).1
  | .i k n, h, _, _, _ => by simp only [OV, lay]
  | .b c, h, _, _, _ => by simp only [OV, lay]
  | .s l, h, _, _, _ => by simp only [OV, lay]
  | .nil, h, _, _, _ => by simp only [OV, lay]
  | .t k, h, _, _, _ => by simp only [OV, lay]
  | .sl 0 e cs, h, hw, _, _ => by
    simp only [OV, lay]
    have : Nat.beq cs.length 0 = true := by simpa [wfD] using hw
    exact .inl ⟨trivial, List.eq_nil_of_length_eq_zero (Nat.eq_of_beq_eq_true this), _, rfl⟩
  | .sl (n + 1) e cs, h, hw, hlo, H => by
    have hw' : (Nat.beq cs.length ((n + 1) * e) && wfL cs) = true := by simpa [wfD] using hw
    simp only [Bool.and_eq_true] at hw'
    have hx := layL_ext cs h
    have ih := fun H => layL_OV (lo := lo) (Z := Z) (h2 := h2) cs h hw'.2 hlo H
    have hll := layL_len cs h
    simp only [lay] at H ⊢
    generalize layL cs h = r at hx ih H hll
    obtain ⟨vs, h1⟩ := r
    simp only at hx ih H hll ⊢
    have hnx : (h1.new (.cells ⟨vs, false, []⟩)).next.toNat = h1.next.toNat + 1 := by rw [Hp.new_next, Pos.toNat_succ]
    have H1 : HasN lo Z h1 h2 := H.down ⟨by omega, fun b hb => Hp.get_new_other _ _ _ (fun e => by subst e; omega)⟩
    obtain ⟨k1, k2⟩ := H h1.next (by omega) (by omega)
    rw [Hp.get_new_same] at k1
    have hcl := Nat.eq_of_beq_eq_true hw'.1
    simp only [OV]
    refine .inr ⟨by omega, h1.next, 0, e, vs, false, [], rfl, .inr rfl, k2, k1, by omega, hcl, ?_⟩
    rw [List.drop_zero, List.take_of_length_le (by omega)]
    exact ih H1
  | .ag cs, h, hw, hlo, H => by
    have ih := fun H => layL_OV (lo := lo) (Z := Z) (h2 := h2) cs h (by simpa [wfD] using hw) hlo H
    simp only [lay] at H ⊢
    generalize layL cs h = r at ih H
    obtain ⟨vs, h1⟩ := r
    simp only [OV]
    exact ⟨vs, rfl, ih H⟩
  | .tu cs, h, hw, hlo, H => by
    have ih := fun H => layL_OV (lo := lo) (Z := Z) (h2 := h2) cs h (by simpa [wfD] using hw) hlo H
    simp only [lay] at H ⊢
    generalize layL cs h = r at ih H
    obtain ⟨vs, h1⟩ := r
    simp only [OV]
    exact ⟨vs, rfl, ih H⟩
theorem layL_OV {lo : Nat} {Z : Pos → Prop} {h2 : Hp} : ∀ (d : List DV) (h : Hp), wfL d = true → lo ≤ h.next.toNat → HasN lo Z (layL d h).2 h2 → OVL Z h2 d (layL d h).1
  | [], h, _, _, _ => by simp only [OVL, layL]
  | a :: r, h, hw, hlo, H => by
    simp only [wfL, Bool.and_eq_true] at hw
    have k1 := lay_ext a h
    have ih := fun H => lay_OV (lo := lo) (Z := Z) (h2 := h2) a h hw.1 hlo H
    simp only [layL] at H ⊢
    generalize lay a h = x at k1 ih H
    obtain ⟨v, hh⟩ := x
    have k2 := layL_ext r hh
    have ih2 := fun H => layL_OV (lo := lo) (Z := Z) (h2 := h2) r hh hw.2 (Nat.le_trans hlo k1.1) H
    simp only at k1 k2 ih ih2 H ⊢
    generalize layL r hh = y at k2 ih2 H
    obtain ⟨vs, hh2⟩ := y
    simp only at k2 ih2 H ⊢
    simp only [OVL]
    exact ⟨v, vs, rfl, ih (H.down k2), ih2 H⟩
theorem layL_len : ∀ (d : List DV) (h : Hp), (layL d h).1.length = d.length
  | [], h => by simp only [layL]; rfl
  | a :: r, h => by
    simp only [layL]
    generalize lay a h = x
    obtain ⟨v, hh⟩ := x
    have := layL_len r hh
    simp only
    generalize layL r hh = y at this
    obtain ⟨vs, hh2⟩ := y
    simp only at this ⊢
    simp [this]
end
mutual
theorem lay_fresh : ∀ (d : DV) (h : Hp), (∀ b : Pos, h.next.toNat ≤ b.toNat → h.get b = none) → ∀ b : Pos, (lay d h).2.next.toNat ≤ b.toNat → (lay d h).2.get b = none
  | .i k n, h, hf => by simp only [lay]; exact hf
  | .b c, h, hf => by simp only [lay]; exact hf
  | .s l, h, hf => by simp only [lay]; exact hf
  | .nil, h, hf => by simp only [lay]; exact hf
  | .t k, h, hf => by simp only [lay]; exact hf
  | .sl 0 e cs, h, hf => by
    simp only [lay]
    intro b hb
    have hb : h.next.succ.toNat ≤ b.toNat := hb
    rw [Pos.toNat_succ] at hb
    exact hf b (by omega)
  | .sl (n + 1) e cs, h, hf => by
    have ih := layL_fresh cs h hf
    simp only [lay]
    generalize layL cs h = r at ih
    obtain ⟨vs, h1⟩ := r
    simp only at ih ⊢
    intro b hb
    rw [Hp.new_next, Pos.toNat_succ] at hb
    rw [Hp.get_new_other _ _ _ (fun e => by subst e; omega)]
    exact ih b (by omega)
  | .ag cs, h, hf => by have ih := layL_fresh cs h hf; simp only [lay]; generalize layL cs h = r at ih; obtain ⟨vs, h1⟩ := r; exact ih
  | .tu cs, h, hf => by have ih := layL_fresh cs h hf; simp only [lay]; generalize layL cs h = r at ih; obtain ⟨vs, h1⟩ := r; exact ih
theorem layL_fresh : ∀ (d : List DV) (h : Hp), (∀ b : Pos, h.next.toNat ≤ b.toNat → h.get b = none) → ∀ b : Pos, (layL d h).2.next.toNat ≤ b.toNat → (layL d h).2.get b = none
  | [], h, hf => by simp only [layL]; exact hf
  | a :: r, h, hf => by
    have k1 := lay_fresh a h hf
    simp only [layL]
    generalize lay a h = x at k1
    obtain ⟨v, hh⟩ := x
    have k2 := layL_fresh r hh k1
    simp only at k2 ⊢
    generalize layL r hh = y at k2
    obtain ⟨vs, hh2⟩ := y
    exact k2
end
end
end Go.Sy


set_option linter.all false
/-! Functions of deep values as contracts: the words. -/
noncomputable section
namespace Go.Sy
open Go Go.Av
/-! ### Values as deep values -/
section
variable (P : Program)
def cellO : CT → D → Option DV
  | .i k, .i n => some (.i k n)
  | .b, .b c => some (.b c)
  | .s, .s l => some (.s l)
  | _, _ => none
def rowO : List CT → List D → Option (List DV)
  | [], [] => some []
  | c :: cs, d :: r => match cellO c d, rowO cs r with | some x, some q => some (x :: q) | _, _ => none
  | _, _ => none
def rowsO (cts : List CT) : List (List D) → Option (List DV)
  | [] => some []
  | r :: q => match rowO cts r, rowsO cts q with | some x, some y => some (x ++ y) | _, _ => none
mutual
def svO (sh : SH) : SV → Option DV
  | .i k n => some (.i k n)
  | .b c => some (.b c)
  | .s l => some (.s l)
  | .nl => some .nil
  | .o d => some d
  | .sa id => match sh[id]? with
    | some (.arr _ e (r :: q)) => match ct P e with
      | some cts => match rowsO cts (r :: q) with | some l => some (.sl (r :: q).length cts.length l) | none => none
      | none => none
    | _ => none
  | .ag l => match svOs sh l with | some x => some (.ag x) | none => none
  | .tu l => match svOs sh l with | some x => some (.tu x) | none => none
  | _ => none
def svOs (sh : SH) : List SV → Option (List DV)
  | [] => some []
  | a :: r => match svO sh a, svOs sh r with | some x, some q => some (x :: q) | _, _ => none
end
end
structure ConP where
  skR : SV
  pre : List DV → Bool
  f : List DV → List D
def ConP.ctr (P : Program) {ρ : Type} (c : ConP) (as : List SV) (sh : SH) (k : SV → SH → Option ρ) : Option ρ := match svOs P sh as with
  | some ds => ifb (c.pre ds) (k (fill1 c.skR (c.f ds)) sh) none
  | none => none
end Go.Sy


set_option linter.all false
/-! Functions of deep values as contracts: the contract. -/
namespace Go.Sy
open Go Go.Av
noncomputable section
section
variable (T : List (List Sh))
/-- cells, each of its shape, row by row -/
def tyR (rec : Sh → DV → Bool) (all : List Sh) : List Sh → List DV → Bool
  | [], [] => true
  | _ :: _, [] => false
  | [], d :: r => match all with | [] => false | c :: q => rec c d && tyR rec all q r
  | c :: q, d :: r => rec c d && tyR rec all q r
def tyD : Nat → Sh → DV → Bool
  | 0, _, _ => false
  | _ + 1, .flat, .i _ _ => true
  | _ + 1, .flat, .b _ => true
  | _ + 1, .flat, .s _ => true
  | _ + 1, .flat, .t _ => true
  | _ + 1, .sl _, .nil => true
  | n + 1, .sl t, .sl _ e cs => match T[t]? with | some s => Nat.beq e s.length && tyR (tyD n) s [] cs | none => false
  | n + 1, .ag t, .ag cs => match T[t]? with | some s => tyR (tyD n) [] s cs | none => false
  | n + 1, .tu t, .tu cs => match T[t]? with | some s => tyR (tyD n) [] s cs | none => false
  | _ + 1, _, _ => false
end
section
variable {Z : Pos → Prop} {h : Hp} {T : List (List Sh)}
theorem tyR_uni {rec : Sh → DV → Bool} (hrec : ∀ c d d' v, rec c d = true → rec c d' = true → OV Z h d v → OV Z h d' v → d = d') {all : List Sh} : ∀ (cs cs' : List DV) (rest : List Sh) (l : List AVal), tyR rec all rest cs = true → tyR rec all rest cs' = true → OVL Z h cs l → OVL Z h cs' l → cs = cs'
  | [], cs', rest, l, h1, h2, h3, h4 => by
    simp only [OVL] at h3; subst h3
    cases cs' with
    | nil => rfl
    | cons a b => simp only [OVL] at h4; obtain ⟨_, _, e, _⟩ := h4; cases e
  | a :: r, cs', rest, l, h1, h2, h3, h4 => by
    simp only [OVL] at h3
    obtain ⟨v, q, rfl, k1, k2⟩ := h3
    cases cs' with
    | nil => simp only [OVL] at h4; cases h4
    | cons a' r' =>
      simp only [OVL] at h4
      obtain ⟨v', q', e, k3, k4⟩ := h4
      cases e
      cases rest with
      | nil =>
        cases all with
        | nil => simp only [tyR] at h1; cases h1
        | cons c p =>
          simp only [tyR, Bool.and_eq_true] at h1 h2
          rw [hrec c a a' v h1.1 h2.1 k1 k3, tyR_uni hrec r r' p q h1.2 h2.2 k2 k4]
      | cons c p =>
        simp only [tyR, Bool.and_eq_true] at h1 h2
        rw [hrec c a a' v h1.1 h2.1 k1 k3, tyR_uni hrec r r' p q h1.2 h2.2 k2 k4]
theorem tyD_uni : ∀ (n : Nat) (c : Sh) (d d' : DV) (v : AVal), tyD T n c d = true → tyD T n c d' = true → OV Z h d v → OV Z h d' v → d = d' := by
  intro n
  induction n with
  | zero => intro c d d' v h1; cases h1
  | succ n ih =>
    intro c d d' v h1 h2 h3 h4
    cases c with
    | flat =>
      cases d <;> simp only [tyD, Bool.false_eq_true] at h1 <;> cases d' <;> simp only [tyD, Bool.false_eq_true] at h2 <;> simp only [OV] at h3 h4 <;> subst h3 <;> cases h4 <;> rfl
    | sl t =>
      cases d <;> simp only [tyD, Bool.false_eq_true] at h1 <;> cases d' <;> simp only [tyD, Bool.false_eq_true] at h2 <;> simp only [OV] at h3 h4
      · rfl
      · subst h3; rcases h4 with ⟨_, _, _, e⟩ | ⟨_, _, _, _, _, _, _, e, _⟩ <;> cases e
      · subst h4; rcases h3 with ⟨_, _, _, e⟩ | ⟨_, _, _, _, _, _, _, e, _⟩ <;> cases e
      · split at h1
        · rename_i s hs
          rw [hs] at h2
          simp only [Bool.and_eq_true, Nat.beq_eq] at h1 h2
          obtain ⟨rfl, h1⟩ := h1
          obtain ⟨rfl, h2⟩ := h2
          rcases h3 with ⟨rfl, rfl, p, rfl⟩ | ⟨k0, b, o, g, vs, own, st, rfl, k2, k3, k4, k5, k6, k7⟩ <;> rcases h4 with ⟨q0, q1, q2, e⟩ | ⟨q0, b', o', g', vs', own', st', e, q2, q3, q4, q5, q6, q7⟩
          · subst q0; subst q1; rfl
          · cases e; omega
          · cases e; omega
          · cases e
            rw [k4] at q4; cases q4
            rw [tyR_uni ih _ _ _ _ h1 h2 k7 q7]
        · cases h1
    | ag t =>
      cases d <;> simp only [tyD, Bool.false_eq_true] at h1 <;> cases d' <;> simp only [tyD, Bool.false_eq_true] at h2 <;> simp only [OV] at h3 h4
      split at h1
      · rename_i s hs
        rw [hs] at h2
        obtain ⟨l, rfl, k1⟩ := h3
        obtain ⟨l', e, k2⟩ := h4
        cases e
        rw [tyR_uni ih _ _ _ _ h1 h2 k1 k2]
      · cases h1
    | tu t =>
      cases d <;> simp only [tyD, Bool.false_eq_true] at h1 <;> cases d' <;> simp only [tyD, Bool.false_eq_true] at h2 <;> simp only [OV] at h3 h4
      split at h1
      · rename_i s hs
        rw [hs] at h2
        obtain ⟨l, rfl, k1⟩ := h3
        obtain ⟨l', e, k2⟩ := h4
        cases e
        rw [tyR_uni ih _ _ _ _ h1 h2 k1 k2]
      · cases h1
end
variable [Glb] {P : Program} [Tok]
/-! ### The function -/
open Classical in
def pureC (T : List (List Sh)) (n : Nat) (shs : List Sh) (F : List DV → Option DV) (avs : List AVal) (h : Hp) : Option (AVal × Hp) :=
  if x : ∃ p : List DV × DV, OVL (fun _ => True) h p.1 avs ∧ tyR (tyD T n) [] shs p.1 = true ∧ F p.1 = some p.2 ∧ GZ (fun _ => True) h then some (lay x.choose.2 h) else none
theorem pureC_eq {T : List (List Sh)} {n : Nat} {shs : List Sh} {F : List DV → Option DV} {avs : List AVal} {h : Hp} {y : AVal × Hp} (e : pureC T n shs F avs h = some y) : ∃ ds r, OVL (fun _ => True) h ds avs ∧ F ds = some r ∧ GZ (fun _ => True) h ∧ lay r h = y := by
  unfold pureC at e
  split at e
  · rename_i x
    cases e
    obtain ⟨h1, _, h2, h3⟩ := x.choose_spec
    exact ⟨_, _, h1, h2, h3, rfl⟩
  · cases e
theorem pureC_of {T : List (List Sh)} {n : Nat} {shs : List Sh} {F : List DV → Option DV} {avs : List AVal} {h : Hp} {ds : List DV} {r : DV} (h1 : OVL (fun _ => True) h ds avs) (h2 : tyR (tyD T n) [] shs ds = true) (h3 : F ds = some r) (h4 : GZ (fun _ => True) h) : pureC T n shs F avs h = some (lay r h) := by
  have x : ∃ p : List DV × DV, OVL (fun _ => True) h p.1 avs ∧ tyR (tyD T n) [] shs p.1 = true ∧ F p.1 = some p.2 ∧ GZ (fun _ => True) h := ⟨(ds, r), h1, h2, h3, h4⟩
  unfold pureC
  rw [dif_pos x]
  obtain ⟨k1, k2, k3, _⟩ := x.choose_spec
  have e := tyR_uni (tyD_uni n) _ _ _ _ k2 h2 k1 h1
  rw [e, h3] at k3
  cases k3
  rfl
theorem bytes_VRL {σ : Sg} : ∀ {l : List Nat} {L : List Value}, VRL σ (ofBytes l) L → L = l.map fun c => Value.int .u8 (Int.ofNat c)
  | [], L, hv => by
    have hv : VRL σ [] L := hv
    simp only [VRL] at hv; subst hv; rfl
  | c :: r, L, hv => by
    have hv : VRL σ (byteA c :: ofBytes r) L := hv
    simp only [VRL] at hv
    obtain ⟨v, q, rfl, h1, h2⟩ := hv
    have h1 : VR σ (.i .u8 (Int.ofNat c)) v := h1
    rw [VR_i] at h1
    rw [h1, bytes_VRL h2]; rfl
theorem glob_of {h : Hp} {σ : Sg} {w : World} {Z : Pos → Prop} (s : Sim σ h w) (hg : GlobR P σ) (hlt : Glb.G.1 < P.globals.size) (g : GZ Z h) : GlobW P Glb.G w := by
  have hsz : P.globals.size ≤ w.heap.size := by
    by_cases h0 : P.globals.size = 0
    · omega
    · obtain ⟨I, hI, h1, _⟩ := hg (P.globals.size - 1) (by omega)
      have := s.bound _ _ hI; omega
  refine ⟨hsz, hlt, ?_⟩
  obtain ⟨_, own, st, hb⟩ := g
  obtain ⟨I, hI, h1, h2⟩ := hg _ hlt
  obtain ⟨arr, el, fz, e1, e2, _, e4, e5, _⟩ := s.cells hI (Hp.cells_eq.2 hb)
  rw [h1] at e1
  rw [h2] at e4 e5
  simp only at e2 e5
  have hl : (ofBytes Glb.G.2).length = Glb.G.2.length := by unfold ofBytes; rw [mapR_eq, List.length_map]
  have e6 := bytes_VRL e5
  refine ⟨arr, el, fz, e1, by omega, ?_⟩
  rw [← hl, ← e2, ← e6, List.drop_zero]
theorem pureC_sem {T : List (List Sh)} {n : Nat} {shs : List Sh} {F : List DV → Option DV} {k : Nat} (hp : PureOk P Glb.G k F) (hlt : Glb.G.1 < P.globals.size) : SemOk P k (pureC T n shs F) := by
  intro args h v h' σ w args' e hargs s hg
  obtain ⟨ds, r, h1, hF, h3, e⟩ := pureC_eq e
  have hG := glob_of s hg hlt h3
  have hds : DRL w (fun _ => True) ds args'.toList := OVL_DRL s _ _ _ h1 hargs
  have fin : ∀ v' w', PureR w r (.returned v') w' → ∃ σ', VR σ' v v' ∧ Sim σ' h' w' ∧ Step σ h w σ' h' w' := by
    rintro v' w' ⟨hk, hr⟩
    have s' : Sim σ h w' := s.wext hk.size hk.heap
    have hsafe : Go.Av.Safe (fun cb => w.heap.size ≤ cb) σ h := fun b x I hb _ hI hle => by have := s.bound _ _ hI; omega
    obtain ⟨σ1, l, hv⟩ := lay_ok r s' hsafe hr
    rw [e] at l hv
    refine ⟨σ1, hv, l.sim, ⟨l.le, hk.os, hk.tape, hk.output, hk.size, fun j hj _ => hk.heap j hj, ?_, l.nx, l.old, fun b hb hn => by rw [l.get b hb]; exact hn, ?_⟩⟩
    · rintro j hj ⟨b, x, I, hb, hx, hI, e⟩
      by_cases hlt : b.toNat < h.next.toNat
      · exact ⟨b, x, I, by rw [← l.get b hlt]; exact hb, hx, by rw [← l.old b hlt]; exact hI, e⟩
      · exact absurd hx (l.new b x (by omega) hb)
    · intro j hj _ c J hc e
      rcases l.nm c J hc with h | h
      · exact h
      · omega
  rcases hp w args' ds r hG hds hF with ⟨h1, h2⟩ | ⟨v', w', h1, h2⟩
  · refine .inl ⟨h1, fun n => (h2 n).mono fun e w' hr => ?_⟩
    cases e with
    | returned v' => exact fin v' w' hr
    | panicked c => exact hr.elim
    | outgrown => exact hr.elim
  · exact .inr ⟨v', w', h1, fin v' w' h2⟩
/-! ### Values as deep values -/
section
variable {Z : Pos → Prop} {h : Hp} {m : List (Option Pos)} {sh : SH}
theorem rowO_ok : ∀ {cts : List CT} {r : List D} {l : List DV} {vs : List AVal}, rowO cts r = some l → RowR P Z h r cts vs → OVL (fun _ => True) h l vs ∧ l.length = cts.length
  | [], [], l, vs, e, hr => by cases vs <;> simp only [RowR] at hr; cases (show some ([] : List DV) = some l from e); exact ⟨by simp only [OVL], rfl⟩
  | [], _ :: _, l, vs, e, hr => by cases e
  | _ :: _, [], l, vs, e, hr => by cases e
  | c :: cs, d :: r, l, vs, e, hr => by
    cases vs with
    | nil => simp only [RowR] at hr
    | cons v q =>
      simp only [RowR] at hr
      simp only [rowO] at e
      split at e
      · rename_i x y hx hy
        cases e
        obtain ⟨k1, k2⟩ := rowO_ok hy hr.2
        refine ⟨?_, by simp [k2]⟩
        simp only [OVL]
        refine ⟨v, q, rfl, ?_, k1⟩
        have hr := hr.1
        cases c <;> cases d <;> simp only [cellO, reduceCtorEq] at hx <;> cases hx <;> simp only [CR] at hr <;> simp only [OV] <;> exact hr
      · cases e
theorem OVL.app {Z : Pos → Prop} {h : Hp} : ∀ {a : List DV} {v : List AVal} {b : List DV} {u : List AVal}, OVL Z h a v → OVL Z h b u → OVL Z h (a ++ b) (v ++ u)
  | [], _, _, _, h1, h2 => by simp only [OVL] at h1; subst h1; exact h2
  | _ :: r, _, _, _, h1, h2 => by simp only [OVL] at h1; obtain ⟨v, q, rfl, k1, k2⟩ := h1; simp only [List.cons_append, OVL]; exact ⟨v, _, rfl, k1, OVL.app k2 h2⟩
theorem rowsO_ok : ∀ {cts : List CT} {rows : List (List D)} {l : List DV} {vs : List AVal}, rowsO cts rows = some l → RowsR P Z h rows cts vs → OVL (fun _ => True) h l vs ∧ l.length = rows.length * cts.length
  | cts, [], l, vs, e, hr => by simp only [RowsR] at hr; subst hr; cases (show some ([] : List DV) = some l from e); exact ⟨by simp only [OVL], by simp⟩
  | cts, r :: q, l, vs, e, hr => by
    simp only [RowsR] at hr
    obtain ⟨l1, l2, rfl, h1, h2⟩ := hr
    simp only [rowsO] at e
    split at e
    · rename_i x y hx hy
      cases e
      obtain ⟨k1, k2⟩ := rowO_ok hx h1
      obtain ⟨k3, k4⟩ := rowsO_ok hy h2
      exact ⟨k1.app k3, by simp [k2, k4, Nat.add_mul]; omega⟩
    · cases e
mutual
theorem svO_ok (H : HeapR P Z h m sh) : ∀ (s : SV) (d : DV) (v : AVal), svO P sh s = some d → SVR P Z h m sh s v → OV (fun _ => True) h d v
  | .i _ _, d, v, e, hv => by simp only [svO, Option.some.injEq] at e; subst e; simp only [SVR] at hv; simp only [OV]; exact hv
  | .b _, d, v, e, hv => by simp only [svO, Option.some.injEq] at e; subst e; simp only [SVR] at hv; simp only [OV]; exact hv
  | .s _, d, v, e, hv => by simp only [svO, Option.some.injEq] at e; subst e; simp only [SVR] at hv; simp only [OV]; exact hv
  | .nl, d, v, e, hv => by simp only [svO, Option.some.injEq] at e; subst e; simp only [SVR] at hv; simp only [OV]; exact hv
  | .o _, d, v, e, hv => by simp only [svO, Option.some.injEq] at e; subst e; simp only [SVR] at hv; exact OV.mono ⟨fun _ _ => trivial, fun b c _ hc => ⟨c.own, c.stale, hc⟩⟩ _ _ hv
  | .sa id, d, v, e, hv => by
    simp only [svO] at e
    split at e
    · rename_i own te r q hs
      split at e
      · rename_i cts hct
        split at e
        · rename_i l hl
          cases e
          simp only [SVR] at hv
          obtain ⟨hid, _, hv⟩ := hv
          rcases hv _ _ _ hs with ⟨_, h2, _⟩ | ⟨b, g, cts', h1, h2, rfl, h4⟩
          · cases h2
          · rw [hct] at h2; cases h2
            rcases H.box _ _ _ hs h1 with ⟨k1, _⟩ | ⟨b', cts', avs, o, st, k1, k2, k3, k4, k5, _⟩
            · cases k1
            · cases k1
              rw [hct] at k2; cases k2
              obtain ⟨q1, q2⟩ := rowsO_ok hl k5
              simp only [OV]
              refine .inr ⟨by simp, b, 0, g, avs, o, st, rfl, h4, trivial, k3, by omega, q2, ?_⟩
              rw [List.drop_zero, List.take_of_length_le (by omega)]; exact q1
        · cases e
      · cases e
    · cases e
  | .ag l, d, v, e, hv => by
    simp only [svO] at e
    split at e
    · rename_i x hx
      cases e
      simp only [SVR] at hv
      obtain ⟨l', rfl, hv⟩ := hv
      simp only [OV]
      exact ⟨l', rfl, svOs_ok H l x l' hx hv⟩
    · cases e
  | .tu l, d, v, e, hv => by
    simp only [svO] at e
    split at e
    · rename_i x hx
      cases e
      simp only [SVR] at hv
      obtain ⟨l', rfl, hv⟩ := hv
      simp only [OV]
      exact ⟨l', rfl, svOs_ok H l x l' hx hv⟩
    · cases e
  | .l _ _ _, d, v, e, hv => by simp only [svO, reduceCtorEq] at e
  | .sv _ _ _, d, v, e, hv => by simp only [svO, reduceCtorEq] at e
  | .q _ _ _ _, d, v, e, hv => by simp only [svO, reduceCtorEq] at e
  | .qa _ _ _, d, v, e, hv => by simp only [svO, reduceCtorEq] at e
  | .p _, d, v, e, hv => by simp only [svO, reduceCtorEq] at e
  | .pa _ _, d, v, e, hv => by simp only [svO, reduceCtorEq] at e
  | .fn _ _ _, d, v, e, hv => by simp only [svO, reduceCtorEq] at e
  | .nilF, d, v, e, hv => by simp only [svO, reduceCtorEq] at e
  | .nilI, d, v, e, hv => by simp only [svO, reduceCtorEq] at e
  | .mp _, d, v, e, hv => by simp only [svO, reduceCtorEq] at e
  | .x, d, v, e, hv => by simp only [svO, reduceCtorEq] at e
theorem svOs_ok (H : HeapR P Z h m sh) : ∀ (s : List SV) (d : List DV) (v : List AVal), svOs P sh s = some d → SVRL P Z h m sh s v → OVL (fun _ => True) h d v
  | [], d, v, e, hv => by simp only [svOs, Option.some.injEq] at e; subst e; simp only [SVRL] at hv; simp only [OVL]; exact hv
  | a :: r, d, v, e, hv => by
    simp only [svOs] at e
    split at e
    · rename_i x q hx hq
      cases e
      simp only [SVRL] at hv
      obtain ⟨y, z, rfl, h1, h2⟩ := hv
      simp only [OVL]
      exact ⟨y, z, rfl, svO_ok H a x y hx h1, svOs_ok H r q z hq h2⟩
    · cases e
end
/-! ### Deep values as values -/
mutual
theorem OV_CR : ∀ (d : DV) (c : CT) (x : D) (v : AVal), dvD P c d = some x → OV Z h d v → CR P Z h x c v
  | .i k n, c, x, v, e, hv => by
    cases c <;> simp only [dvD, reduceCtorEq] at e
    obtain ⟨hk, e⟩ := bif_eq e rfl
    cases e
    rw [keq_eq] at hk
    subst hk
    simp only [OV] at hv; simp only [CR]; exact hv
  | .b _, c, x, v, e, hv => by
    cases c <;> simp only [dvD, reduceCtorEq] at e
    cases e
    simp only [OV] at hv; simp only [CR]; exact hv
  | .s _, c, x, v, e, hv => by
    cases c <;> simp only [dvD, reduceCtorEq] at e
    cases e
    simp only [OV] at hv; simp only [CR]; exact hv
  | .t _, c, x, v, e, hv => by cases c <;> simp only [dvD, reduceCtorEq] at e
  | .nil, c, x, v, e, hv => by
    cases c <;> simp only [dvD, reduceCtorEq] at e
    cases e
    simp only [OV] at hv; simp only [CR]
    exact ⟨none, 0, 0, hv, Nat.le_refl _, .inl rfl, .inl trivial⟩
  | .sl n ec cs, c, x, v, e, hv => by
    cases c <;> simp only [dvD, reduceCtorEq] at e
    rename_i e'
    simp only [OV] at hv
    split at e
    · rename_i cts hct
      rcases hv with ⟨rfl, rfl, p, rfl⟩ | ⟨h0, b, o, g, vs, own, st, rfl, hg, hz, hb, hle, hlen, hcs⟩
      · cases (show some (D.l []) = some x from e)
        simp only [CR]
        exact ⟨_, 0, 0, rfl, Nat.le_refl _, .inl rfl, .inl trivial⟩
      · cases n with
        | zero => omega
        | succ n =>
          have e : (bif Nat.beq ec cts.length then (match cellsD P cts [] cs with | some ([], rows) => bif Nat.beq rows.length (n + 1) then some (D.l rows) else none | _ => none) else none) = some x := e
          obtain ⟨he, e⟩ := bif_eq e rfl
          rw [Nat.beq_eq] at he
          split at e
          · rename_i rows hc
            obtain ⟨hl, e⟩ := bif_eq e rfl
            rw [Nat.beq_eq] at hl
            cases e
            obtain ⟨l1, l2, e1, e2, e3⟩ := OV_cells cs cts [] [] rows _ hc hcs
            have : l1 = [] := by cases l1 with | nil => rfl | cons a b => simp only [RowR] at e2
            subst this
            rw [List.nil_append] at e1
            simp only [CR]
            subst he
            rw [hl]
            exact ⟨some (b, o), n + 1, g, rfl, Nat.le_refl _, hg.imp (fun h => h) (fun h => ⟨cts, hct, h⟩), .inr ⟨cts, b, o, vs, own, st, hct, rfl, hz, hb, hle, by rw [e1]; exact e3⟩⟩
          · cases e
    · cases e
  | .ag l, c, x, v, e, hv => by cases c <;> simp only [dvD, reduceCtorEq] at e
  | .tu l, c, x, v, e, hv => by cases c <;> simp only [dvD, reduceCtorEq] at e
theorem OV_cells : ∀ (ds : List DV) (all cs : List CT) (row : List D) (rows : List (List D)) (l : List AVal), cellsD P all cs ds = some (row, rows) → OVL Z h ds l → ∃ l1 l2, l = l1 ++ l2 ∧ RowR P Z h row cs l1 ∧ RowsR P Z h rows all l2
  | [], all, [], row, rows, l, e, hv => by
    simp only [cellsD] at e
    cases e
    simp only [OVL] at hv
    exact ⟨[], [], hv, by simp only [RowR], by simp only [RowsR]⟩
  | [], all, c :: cs, row, rows, l, e, hv => by simp only [cellsD, reduceCtorEq] at e
  | d :: r, all, [], row, rows, l, e, hv => by
    simp only [cellsD] at e
    simp only [OVL] at hv
    obtain ⟨v, q, rfl, h1, h2⟩ := hv
    split at e
    · rename_i c cs
      split at e
      · rename_i x row' rows' hx hr
        cases e
        obtain ⟨l1, l2, e1, e2, e3⟩ := OV_cells r (c :: cs) cs row' rows' q hr h2
        exact ⟨[], v :: q, rfl, by simp only [RowR], by simp only [RowsR]; exact ⟨v :: l1, l2, by rw [e1]; rfl, by simp only [RowR]; exact ⟨OV_CR d c x v hx h1, e2⟩, e3⟩⟩
      · cases e
    · cases e
  | d :: r, all, c :: cs, row, rows, l, e, hv => by
    simp only [cellsD] at e
    simp only [OVL] at hv
    obtain ⟨v, q, rfl, h1, h2⟩ := hv
    split at e
    · rename_i x row' rows' hx hr
      cases e
      obtain ⟨l1, l2, e1, e2, e3⟩ := OV_cells r all cs row' rows q hr h2
      exact ⟨v :: l1, l2, by rw [e1]; rfl, by simp only [RowR]; exact ⟨OV_CR d c x v hx h1, e2⟩, e3⟩
    · cases e
end
end
section
variable (P)
mutual
def mtO : SV → DV → Option (List D)
  | .i k _, .i j n => bif keq k j then some [.i n] else none
  | .b _, .b c => some [.b c]
  | .s _, .s l => some [.s l]
  | .o _, d => some [enc d]
  | .l e false _, d => match dvD P (.l e) d with | some x => some [x] | none => none
  | .ag t, .ag l => mtOL t l
  | .tu t, .tu l => mtOL t l
  | _, _ => none
def mtOL : List SV → List DV → Option (List D)
  | [], [] => some []
  | a :: r, d :: q => match mtO a d, mtOL r q with | some x, some y => some (x ++ y) | _, _ => none
  | _, _ => none
end
end
section
variable {Z : Pos → Prop} {h : Hp} {m : List (Option Pos)} {sh : SH}
mutual
theorem mtO_ok : ∀ (sk : SV) (d : DV) (ds : List D) (v : AVal), mtO P sk d = some ds → OV Z h d v → ∀ r, ∃ s, flV sk (ds ++ r) = (s, r) ∧ SVR P Z h m sh s v
  | .i k n, d, ds, v, e, hv, r => by
    cases d <;> simp only [mtO, reduceCtorEq] at e
    obtain ⟨hk, e⟩ := bif_eq e rfl
    cases e
    have hk' := keq_eq.1 hk
    subst hk'
    exact ⟨_, rfl, by simp only [OV] at hv; simp only [SVR, hdD]; exact hv⟩
  | .b c, d, ds, v, e, hv, r => by
    cases d <;> simp only [mtO, reduceCtorEq] at e
    cases e
    exact ⟨_, rfl, by simp only [OV] at hv; simp only [SVR, hdD]; exact hv⟩
  | .s l, d, ds, v, e, hv, r => by
    cases d <;> simp only [mtO, reduceCtorEq] at e
    cases e
    exact ⟨_, rfl, by simp only [OV] at hv; simp only [SVR, hdD]; exact hv⟩
  | .o _, d, ds, v, e, hv, r => by
    simp only [mtO] at e
    cases e
    refine ⟨.o d, ?_, by simp only [SVR]; exact hv⟩
    show ((SV.o (dec (enc d)), r) : SV × List D) = _
    rw [dec_enc]
  | .l e' false rows, d, ds, v, e, hv, r => by
    simp only [mtO] at e
    split at e
    · rename_i x hx
      cases e
      have hc := OV_CR d _ x v hx hv
      cases x with
      | l rs =>
        refine ⟨_, rfl, ?_⟩
        simp only [CR] at hc
        obtain ⟨a, c, g, e1, e2, e3, e4⟩ := hc
        simp only [SVR]
        refine ⟨a, c, g, e1, e2, e3, (fun h => nomatch h), ?_⟩
        rcases e4 with e4 | ⟨cts, b, o, vs, own, st, q1, q2, q3, q4, q5, q6⟩
        · exact .inl e4
        · exact .inr ⟨b, o, q2, q3, cts, vs, own, st, q1, q4, q5, q6⟩
      | _ => simp only [CR] at hc
    · cases e
  | .ag t, d, ds, v, e, hv, r => by
    cases d <;> simp only [mtO, reduceCtorEq] at e
    rename_i l
    simp only [OV] at hv
    obtain ⟨l', rfl, hv⟩ := hv
    obtain ⟨s, e1, e2⟩ := mtOL_ok t l ds l' e hv r
    exact ⟨.ag s, by simp only [flV, e1], by simp only [SVR]; exact ⟨_, rfl, e2⟩⟩
  | .tu t, d, ds, v, e, hv, r => by
    cases d <;> simp only [mtO, reduceCtorEq] at e
    rename_i l
    simp only [OV] at hv
    obtain ⟨l', rfl, hv⟩ := hv
    obtain ⟨s, e1, e2⟩ := mtOL_ok t l ds l' e hv r
    exact ⟨.tu s, by simp only [flV, e1], by simp only [SVR]; exact ⟨_, rfl, e2⟩⟩
  | .l _ true _, d, ds, v, e, hv, r => by simp only [mtO, reduceCtorEq] at e
  | .nl, d, ds, v, e, hv, r => by simp only [mtO, reduceCtorEq] at e
  | .sa _, d, ds, v, e, hv, r => by simp only [mtO, reduceCtorEq] at e
  | .sv _ _ _, d, ds, v, e, hv, r => by simp only [mtO, reduceCtorEq] at e
  | .q _ _ _ _, d, ds, v, e, hv, r => by simp only [mtO, reduceCtorEq] at e
  | .qa _ _ _, d, ds, v, e, hv, r => by simp only [mtO, reduceCtorEq] at e
  | .p _, d, ds, v, e, hv, r => by simp only [mtO, reduceCtorEq] at e
  | .pa _ _, d, ds, v, e, hv, r => by simp only [mtO, reduceCtorEq] at e
  | .fn _ _ _, d, ds, v, e, hv, r => by simp only [mtO, reduceCtorEq] at e
  | .nilF, d, ds, v, e, hv, r => by simp only [mtO, reduceCtorEq] at e
  | .nilI, d, ds, v, e, hv, r => by simp only [mtO, reduceCtorEq] at e
  | .mp _, d, ds, v, e, hv, r => by simp only [mtO, reduceCtorEq] at e
  | .x, d, ds, v, e, hv, r => by simp only [mtO, reduceCtorEq] at e
theorem mtOL_ok : ∀ (sk : List SV) (d : List DV) (ds : List D) (v : List AVal), mtOL P sk d = some ds → OVL Z h d v → ∀ r, ∃ s, flL sk (ds ++ r) = (s, r) ∧ SVRL P Z h m sh s v
  | [], [], ds, v, e, hv, r => by simp only [mtOL] at e; cases e; simp only [OVL] at hv; exact ⟨[], rfl, by simp only [SVRL]; exact hv⟩
  | [], _ :: _, ds, v, e, hv, r => by simp only [mtOL, reduceCtorEq] at e
  | _ :: _, [], ds, v, e, hv, r => by simp only [mtOL, reduceCtorEq] at e
  | a :: q, d :: q', ds, v, e, hv, r => by
    simp only [mtOL] at e
    split at e
    · rename_i x y hx hy
      cases e
      simp only [OVL] at hv
      obtain ⟨u, u', rfl, h1, h2⟩ := hv
      obtain ⟨s1, e1, e2⟩ := mtO_ok a d x u hx h1 (y ++ r)
      obtain ⟨s2, f1, f2⟩ := mtOL_ok q q' y u' hy h2 r
      exact ⟨s1 :: s2, by simp only [flL, List.append_assoc, e1, f1], by simp only [SVRL]; exact ⟨_, _, rfl, e2, f2⟩⟩
    · cases e
end
end
/-! ### The contract -/
/-- what is laid stands beside what there was -/
theorem lay_tran {Z : Pos → Prop} {h : Hp} {m : List (Option Pos)} {sh : SH} (H : HeapR P Z h m sh) (r : DV) : Tran P Z h m sh (fun b => Z b ∨ (h.next.toNat ≤ b.toNat ∧ b.toNat < (lay r h).2.next.toNat)) (lay r h).2 m sh := by
  have hx := lay_ext r h
  have hf := lay_fresh r h H.fresh
  have H0 := H.empty
  have T0 : Tran P Z h [] [] (fun b => Z b ∨ (h.next.toNat ≤ b.toNat ∧ b.toNat < (lay r h).2.next.toNat)) (lay r h).2 [] [] := by
    have zc : ∀ b c, Z b → h.get b = some (.cells c) → ∃ o st, (lay r h).2.get b = some (.cells ⟨c.vs, o, st⟩) := fun b c hb hc => ⟨c.own, c.stale, by rw [hx.2 b (H.zold b hb)]; exact hc⟩
    refine ⟨⟨rfl, (fun id x p h1 => by cases h1), (fun id b h1 => by cases h1), (fun i j x y b _ h1 => by cases h1), fun b hb => ?_, (fun b hb => absurd hb foot_nil), (fun b hb => absurd hb foot_nil), (fun i j x y b c z h1 => by cases h1), hf, H.glb.mono (fun _ h => .inl h) zc⟩, hx.1, fun _ h => .inl h, zc, fun id hid => absurd hid (Nat.not_lt_zero _), fun id _ _ _ hid => absurd hid (Nat.not_lt_zero _), fun b hb _ => hx.2 b hb, fun b hb => absurd hb foot_nil, fun b hb => hb.imp (fun h => h) (fun h => .inr h.1), fun b hb => absurd hb own_nil, fun id e rows h => by cases h⟩
    rcases hb with hb | hb
    · have := H.zold b hb; omega
    · exact hb.2
  exact tran_past H T0 (fun _ h => .inl h) (fun b hb => hb.imp (fun h => h) (fun h => h.1)) (fun b hb => by
    rcases hb with hb | hb
    · have := H.zold b hb; omega
    · exact hb.2)
theorem ConP.ok {fs : Nat → Option AFun} {ρ : Type} {j : Nat} {c : ConP} {T : List (List Sh)} {n : Nat} {shs : List Sh} {F : List DV → Option DV} (hf : fs j = some (.sem (pureC T n shs F)))
    (hc : ∀ ds, c.pre ds = true → tyR (tyD T n) [] shs ds = true ∧ ∃ r, F ds = some r ∧ wfD r = true ∧ mtO P c.skR r = some (c.f ds)) : CallG P fs j (c.ctr P (ρ := ρ)) := by
  unfold CallG
  intro Z h m sh as avs k r H V e
  unfold ConP.ctr at e
  split at e
  · rename_i ds hds
    obtain ⟨hp, hk⟩ := ifb_t e
    obtain ⟨h1, r', h2, h3, h4⟩ := hc ds hp
    have ho := svOs_ok H as ds avs hds V
    have hG : GZ (fun _ => True) h := H.glb.mono (fun _ _ => trivial) (fun b c _ hc => ⟨c.own, c.stale, hc⟩)
    have hpc := pureC_of ho h1 h2 hG
    have T := lay_tran H r'
    have hov := lay_OV (lo := h.next.toNat) (Z := fun b => Z b ∨ (h.next.toNat ≤ b.toNat ∧ b.toNat < (lay r' h).2.next.toNat)) (h2 := (lay r' h).2) r' h h3 (Nat.le_refl _) (fun b hb hb' => ⟨rfl, .inr ⟨hb, hb'⟩⟩)
    obtain ⟨s, w1, w2⟩ := mtO_ok (m := m) (sh := sh) c.skR r' (c.f ds) _ h4 hov []
    rw [List.append_nil] at w1
    have w3 : fill1 c.skR (c.f ds) = s := by unfold fill1; rw [w1]
    refine ⟨(lay r' h).1, (lay r' h).2, _, m, sh, s, Evn.of fun n => ?_, T, w2, by rw [← w3]; exact hk⟩
    unfold callF
    rw [hf]
    exact hpc
  · cases e
end
end Go.Sy


set_option linter.all false
/-! A law's own function, from where it starts. -/
namespace Go.Sy
open Go Go.Av
noncomputable section
/-! ### Relations as functions -/
section
open Classical
def relF (R : List DV → DV → Prop) (ds : List DV) : Option DV := if h : ∃ r, R ds r then some h.choose else none
theorem relF_eq {R : List DV → DV → Prop} {ds : List DV} {r : DV} (h : relF R ds = some r) : R ds r := by
  unfold relF at h
  split at h
  · rename_i x; cases h; exact x.choose_spec
  · cases h
theorem relF_of {R : List DV → DV → Prop} (fn : ∀ ds r r', R ds r → R ds r' → r = r') {ds : List DV} {r : DV} (h : R ds r) : relF R ds = some r := by
  have x : ∃ r, R ds r := ⟨r, h⟩
  unfold relF
  rw [dif_pos x, fn ds _ _ x.choose_spec h]
end
variable [Glb] {P : Program} [Tok]
theorem PureOk.sub {G : Nat × List Nat} {k : Nat} {F F' : List DV → Option DV} (h : PureOk P G k F) (hs : ∀ ds r, F' ds = some r → F ds = some r) : PureOk P G k F' :=
  fun w args' ds r hg hds hF => h w args' ds r hg hds (hs ds r hF)
/-! ### A contract of a function -/
section
open Classical
def preG (P : Program) (T : List (List Sh)) (n : Nat) (shs : List Sh) (skR : SV) (F : List DV → Option DV) (ds : List DV) : Bool := decide (∃ r l, F ds = some r ∧ wfD r = true ∧ tyR (tyD T n) [] shs ds = true ∧ mtO P skR r = some l)
def fG (P : Program) (skR : SV) (F : List DV → Option DV) (ds : List DV) : List D := match F ds with | some r => (mtO P skR r).getD [] | none => []
theorem preG_of {T : List (List Sh)} {n : Nat} {shs : List Sh} {skR : SV} {F : List DV → Option DV} {ds : List DV} {r : DV} {l : List D} (h1 : F ds = some r) (h2 : wfD r = true) (h3 : tyR (tyD T n) [] shs ds = true) (h4 : mtO P skR r = some l) : preG P T n shs skR F ds = true ∧ fG P skR F ds = l := by
  constructor
  · unfold preG; exact decide_eq_true ⟨r, l, h1, h2, h3, h4⟩
  · unfold fG; rw [h1]; simp only; rw [h4]; rfl
theorem conG_ok {fs : Nat → Option AFun} {ρ : Type} {j : Nat} {T : List (List Sh)} {n : Nat} {shs : List Sh} {skR : SV} {F : List DV → Option DV} (hf : fs j = some (.sem (pureC T n shs F))) : CallG P fs j ((⟨skR, preG P T n shs skR F, fG P skR F⟩ : ConP).ctr P (ρ := ρ)) := by
  refine ConP.ok hf (fun ds hp => ?_)
  have hp : preG P T n shs skR F ds = true := hp
  obtain ⟨r, l, h1, h2, h3, h4⟩ := of_decide_eq_true hp
  refine ⟨h3, r, h1, h2, ?_⟩
  show mtO P skR r = some (fG P skR F ds)
  unfold fG; rw [h1]; simp only; rw [h4]; rfl
end
/-! ### 'within' -/
section
open Classical
def wOkB (n m : Int) : Bool := decide (0 < m ∧ m < 1000000 ∧ inI64 n)
theorem wOkB_of {n m : Int} (h1 : 0 < m) (h2 : m < 1000000) (h3 : inI64 n) : wOkB n m = true := decide_eq_true ⟨h1, h2, h3⟩
def wSem (l : List AVal) (h : Hp) : Option (AVal × Hp) := match l with
  | [.i .i64 n, .i .i64 m] => bif wOkB n m then some (.i .i64 (n % m), h) else none
  | _ => none
theorem wSem_ok {k : Nat} (hk : WithinOk P k) : SemOk P k wSem := by
  intro args h v h' σ w args' e hargs s hg
  unfold wSem at e
  split at e
  · rename_i n m
    obtain ⟨hw, e⟩ := bif_eq e rfl
    cases e
    obtain ⟨g1, g2, g3⟩ := of_decide_eq_true hw
    simp only [VRL, VR] at hargs
    obtain ⟨v1, q1, e1, rfl, v2, q2, rfl, rfl, rfl⟩ := hargs
    have ea : args' = #[.int .i64 n, .int .i64 m] := by apply Array.toList_inj.1; rw [e1]
    subst ea
    refine .inl ⟨hk.1 _ _, fun n' => callsIn_wide.2 ((hk.2 _ _ w g1 g2 g3).mono fun e w' ⟨he, hw⟩ => ?_)⟩
    subst he; subst hw
    exact ⟨σ, by simp only [VR], s, Step.refl _ _ _⟩
  · cases e
def conWi {ρ : Type} (l : List SV) (sh : SH) (k : SV → SH → Option ρ) : Option ρ := match l with
  | [.i .i64 n, .i .i64 m] => ifb (wOkB n m) (k (.i .i64 (n % m)) sh) none
  | _ => none
theorem conWi_ok {fs : Nat → Option AFun} {ρ : Type} {j : Nat} (hf : fs j = some (.sem wSem)) : CallG P fs j (conWi (ρ := ρ)) := by
  unfold CallG
  intro Z h m sh as avs k r H V e
  unfold conWi at e
  split at e
  · rename_i x y
    obtain ⟨hp, hk⟩ := ifb_t e
    simp only [SVRL, SVR] at V
    obtain ⟨_, _, rfl, rfl, _, _, rfl, rfl, rfl⟩ := V
    refine ⟨.i .i64 (x % y), h, Z, m, sh, _, Evn.of fun n => ?_, Tran.refl H, by simp only [SVR], hk⟩
    unfold callF
    rw [hf]
    show wSem [.i .i64 x, .i .i64 y] h = _
    show (bif wOkB x y then some (AVal.i .i64 (x % y), h) else none) = _
    rw [hp]; rfl
  · cases e
end
/-! ### Where a law starts -/
theorem start_row {W : World} (hg : GlobW P Glb.G W) {cb co : Nat} {arr : Array Value} {el : TypeId} {fz : Nat × Nat} (hW : W.heap[cb]? = some (.cells arr el fz)) {vs : List AVal} (hle : co + vs.length ≤ arr.size) (hv : ∀ σ : Sg, VRL σ vs ((arr.toList.drop co).take vs.length)) :
    ∃ σ, Sim σ ((hG P Glb.G).new (.cells ⟨vs, false, []⟩)) W ∧ GlobR P σ ∧ (∀ b x, ((hG P Glb.G).new (.cells ⟨vs, false, []⟩)).get b = some x → ¬ touch x) ∧ σ (hG P Glb.G).next = some ⟨cb, co, vs.length, arr.size⟩ := by
  obtain ⟨σ0, s0, hg0, hnt⟩ := start_sim hg
  have l := lay_one (Q := fun _ => True) (J := ⟨cb, co, vs.length, arr.size⟩) (x := .cells ⟨vs, false, []⟩) s0 (fun b x I hb hx _ => absurd hx (hnt b x hb)) (Array.getElem?_eq_some_iff.1 hW).1 trivial (fun h => nomatch h)
    ⟨arr, el, fz, hW, rfl, rfl, hle, hv _, fun e => nomatch e⟩ (fun c e => by cases e; rfl)
  refine ⟨_, l.sim, hg0.mono l.le, fun b x hb => ?_, Sg.set_same _ _ _⟩
  by_cases hlt : b.toNat < (hG P Glb.G).next.toNat
  · rw [l.get b hlt] at hb; exact hnt b x hb
  · exact l.new b x (by omega) hb
theorem hG_GZ {W : World} (hg : GlobW P Glb.G W) {h : Hp} (hn : (hG P Glb.G).next.toNat ≤ h.next.toNat) (hb : ∀ b : Pos, b.toNat < (hG P Glb.G).next.toNat → h.get b = (hG P Glb.G).get b) : GZ (fun b => b.toNat < h.next.toNat) h := by
  have hlt : (Pos.ofNat Glb.G.1).toNat < (hG P Glb.G).next.toNat := by
    show _ < (Pos.ofNat P.globals.size).toNat
    have := hg.lt
    rw [Pos.toNat_ofNat, Pos.toNat_ofNat]; omega
  refine ⟨Nat.lt_of_lt_of_le hlt hn, false, [], ?_⟩
  rw [hb _ hlt]; unfold hG; rw [Hp.get_put_same]
/-- the boxes at the start: none; all that there is is not written -/
theorem start_heap {h : Hp} (hz : GZ (fun b => b.toNat < h.next.toNat) h) (hf : ∀ b : Pos, h.next.toNat ≤ b.toNat → h.get b = none) : HeapR P (fun b => b.toNat < h.next.toNat) h [] [] :=
  ⟨rfl, (fun id x p h1 => by cases h1), (fun id b h1 => by cases h1), (fun i j x y b _ h1 => by cases h1), (fun b h => h), (fun b hb => absurd hb foot_nil), (fun b hb => absurd hb foot_nil), (fun i j x y b c z h1 => by cases h1), hf, hz⟩
theorem law_top {fs : Nat → Option AFun} {j : Nat} {ct : Ctr (List D)} {hs : Nat → Hint} {N d : Nat} (hmx : P.follows .mixedOrders = true) (hfs : FsOk P fs) (hct : CtrOk P fs ct) (hfu : ∀ i fn, ct i = none → P.funcs[i]? = some fn → fs i = funK P fn) (hj : ∀ fn, P.funcs[j]? = some fn → fs j = funK P fn)
    (hen : ∀ (args : Array Value) (w : World), (callFunc j args).run P w = .ok (.enter j args) w) {as : List SV} (hr : codeS P ct hs N d j as [] (kR (.b false)) = some [.b true])
    {σ : Sg} {h : Hp} {W : World} {avs : List AVal} {args' : Array Value} (s : Sim σ h W) (hg : GlobR P σ) (hnt : ∀ b x, h.get b = some x → ¬ touch x) (H : HeapR P (fun b => b.toNat < h.next.toNat) h [] []) (V : SVRL P (fun b => b.toNat < h.next.toNat) h [] [] as avs) (ha : VRL σ avs args'.toList) :
    Calls P j args' W fun e W' => e = .returned (.bool true) ∧ Kept W W' := by
  obtain ⟨v, h', Z', m', sh', s', hev, T, hv, hks⟩ := codeS_ok (callS_ok hct hfu d) hj H V hr
  obtain ⟨n, hn⟩ := hev
  have hcall : call P fs n j avs h = some (v, h') := hn n (Nat.le_refl _)
  have hs' : s' = .b true := by
    unfold kR at hks
    split at hks
    · rename_i l hl
      cases hks
      cases s' with
      | b c =>
        simp only [mtV] at hl
        cases hl; rfl
      | _ => simp only [mtV, reduceCtorEq] at hl
    · cases hks
  subst hs'
  simp only [SVR] at hv
  subst hv
  rcases call_sound hmx hfs hcall ha s hg with ⟨_, h2⟩ | ⟨v', w', h1, _⟩
  · refine (callsIn_wide.1 (h2 0)).mono fun e W' hr => ?_
    cases e with
    | returned v' =>
      obtain ⟨σ', g1, g2, g3⟩ := hr
      rw [VR_b] at g1
      subst g1
      exact ⟨rfl, g3.os, g3.output, fun k hk => g3.unt k hk (fun ⟨b, x, I, hb, hx, _⟩ => hnt b x hb hx)⟩
    | panicked c => exact hr.elim
    | outgrown => exact hr.elim
  · rw [hen] at h1; cases h1
end
end Go.Sy
