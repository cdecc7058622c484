/- A part of the proof: what a machine of our own over the model's code answers is what the model does; no condition. -/
import Derived.Test.YtndjadliihggpaaGreatDoorChR
import Derived.ChangeMaps5
import Derived.Test.YtndjadliihggpaaGreatDoorChF
set_option linter.all false
open Go Go.Av Go.Proofs
set_option maxRecDepth 1000000
namespace Go.Av
theorem pos_1 (x : List Nat) : (sle [114] x = false) ∨ (sle [114] x = true) := by
  generalize sle [114] x = t0
  revert t0
  decide
theorem pos_2 (x : List Nat) : (sle [99, 98] x = false ∧ sle [114, 98] x = false) ∨ (sle [99, 98] x = true ∧ sle [114, 98] x = false) ∨ (sle [99, 98] x = true ∧ sle [114, 98] x = true) := by
  have o0 : sle [114, 98] x = true → sle [99, 98] x = true := sle_trans (by kernel_rfl)
  revert o0
  generalize sle [99, 98] x = t0
  generalize sle [114, 98] x = t1
  revert t0 t1
  decide
theorem pos_3 (x : List Nat) : (sle [99] x = false ∧ sle [114] x = false ∧ sle [114, 116, 98] x = false) ∨ (sle [99] x = true ∧ sle [114] x = false ∧ sle [114, 116, 98] x = false) ∨ (sle [99] x = true ∧ sle [114] x = true ∧ sle [114, 116, 98] x = false) ∨ (sle [99] x = true ∧ sle [114] x = true ∧ sle [114, 116, 98] x = true) := by
  have o0 : sle [114] x = true → sle [99] x = true := sle_trans (by kernel_rfl)
  have o1 : sle [114, 116, 98] x = true → sle [114] x = true := sle_trans (by kernel_rfl)
  revert o0
  revert o1
  generalize sle [99] x = t0
  generalize sle [114] x = t1
  generalize sle [114, 116, 98] x = t2
  revert t0 t1 t2
  decide
theorem pos_4 (x : List Nat) : (sle [114, 116, 97] x = false ∧ sle [114, 116, 98] x = false ∧ sle [114, 116, 99] x = false ∧ sle [115] x = false) ∨ (sle [114, 116, 97] x = true ∧ sle [114, 116, 98] x = false ∧ sle [114, 116, 99] x = false ∧ sle [115] x = false) ∨ (sle [114, 116, 97] x = true ∧ sle [114, 116, 98] x = true ∧ sle [114, 116, 99] x = false ∧ sle [115] x = false) ∨ (sle [114, 116, 97] x = true ∧ sle [114, 116, 98] x = true ∧ sle [114, 116, 99] x = true ∧ sle [115] x = false) ∨ (sle [114, 116, 97] x = true ∧ sle [114, 116, 98] x = true ∧ sle [114, 116, 99] x = true ∧ sle [115] x = true) := by
  have o0 : sle [114, 116, 98] x = true → sle [114, 116, 97] x = true := sle_trans (by kernel_rfl)
  have o1 : sle [114, 116, 99] x = true → sle [114, 116, 98] x = true := sle_trans (by kernel_rfl)
  have o2 : sle [115] x = true → sle [114, 116, 99] x = true := sle_trans (by kernel_rfl)
  revert o0
  revert o1
  revert o2
  generalize sle [114, 116, 97] x = t0
  generalize sle [114, 116, 98] x = t1
  generalize sle [114, 116, 99] x = t2
  generalize sle [115] x = t3
  revert t0 t1 t2 t3
  decide
theorem cmp3 (a b : List Nat) : (sless a b = true ∧ sle a b = true) ∨ (sless a b = false ∧ sle a b = false) ∨ (sless a b = false ∧ sle a b = true ∧ a = b) := by
  cases h : sless a b with
  | true => exact .inl ⟨rfl, (sless_le h).1⟩
  | false =>
    cases k : sle a b with
    | false => exact .inr (.inl ⟨rfl, rfl⟩)
    | true => exact .inr (.inr ⟨rfl, rfl, List.le_antisymm (sle_le.1 k) (sle_le.1 (sless_no h))⟩)
theorem no1 {c a b : List Nat} (h : sle c a = true) (k : sle c b = false) (l : sle a b = true) : False := by rw [sle_trans h l] at k; cases k
theorem no2 {c a b : List Nat} (h : sle c a = false) (k : sle c b = true) (l : sle a b = false) : False := by rw [sle_trans k (sle_total l)] at h; cases h
theorem no3 {c a b : List Nat} (h : sle c a = false) (k : sle c b = true) (e : a = b) : False := by subst e; rw [k] at h; cases h
theorem al0 {x : List Nat} : ∀ e ∈ ([] : List (List Nat × Bool)), sle e.1 x = e.2 := fun e he => by cases he
theorem alc {x : List Nat} {c : List Nat} {t : Bool} {l : List (List Nat × Bool)} (h : sle c x = t) (k : ∀ e ∈ l, sle e.1 x = e.2) : ∀ e ∈ (c, t) :: l, sle e.1 x = e.2 := by
  intro e he
  rcases List.mem_cons.1 he with rfl | he
  · exact h
  · exact k e he
theorem law_run (sp : Int) (a b : ByteArray) (h2 : inI64 sp) {W : World} (hW : GlobW Tryz.prog GG W) :
    Calls Tryz.prog 7 #[.int .i64 sp, .string a, .string b] W fun e W' => e = .returned (.bool true) ∧ Kept W W' := by
  have hen : ∀ (args : Array Value) (w : World), (callFunc 7 args).run Tryz.prog w = .ok (.enter 7 args) w := (letI := tokL []; Go.Av.enters_of tz_gor Tryz.func7 (by kernel_rfl))
  have cs : sp % 5 = 0 ∨ sp % 5 = 1 ∨ sp % 5 = 2 ∨ sp % 5 = 3 ∨ sp % 5 = 4 := by omega
  have fin : ∀ (o : SO) (ho : SOk a b o) (l : List RemT), (letI := tokS sp a b o ho; (∀ e ∈ l, RemOk e) → isTr (call Tryz.prog (fsG l) 100000 7 [.tok 0, .tok 1, .tok 2] (hG Tryz.prog GG)) = true →
      Calls Tryz.prog 7 #[.int .i64 sp, .string a, .string b] W fun e W' => e = .returned (.bool true) ∧ Kept W W') := by
    intro o ho l
    letI := tokS sp a b o ho
    intro hl t
    exact top_run tz_mixed (fsG_ok _ hl) t (fun σ => VRL.cons (by simp only [VR]; rfl) (VRL.cons (by simp only [VR]; rfl) (VRL.cons (by simp only [VR]; rfl) VRL.nil))) hen hW
  have hrem : ∀ (o : SO) (ho : SOk a b o) (r : Int), sp % 5 = r → (letI := tokS sp a b o ho; ∀ e ∈ ([⟨0, 5, .i .i64 r⟩] : List RemT), RemOk e) := by
    intro o ho r hr
    letI := tokS sp a b o ho
    intro e he
    simp only [List.mem_cons, List.mem_nil_iff, or_false] at he
    subst he
    exact ⟨sp, (by show (0 : Int) < 5; decide), (by show (5 : Int) < 1000000; decide), h2, rfl, by rw [hr]; exact .i _ _⟩
  cases ea : decide ((60 : Int) < Int.ofNat a.size) with
  | true =>
    cases eb : decide ((60 : Int) < Int.ofNat b.size) with
    | true => exact fin _ ⟨al0, al0, ea.symm, eb.symm, rfl, rfl⟩ [] (fun e he => by cases he) (ch_ltt _ _ _ _ _ _)
    | false => exact fin _ ⟨al0, al0, ea.symm, eb.symm, rfl, rfl⟩ [] (fun e he => by cases he) (ch_ltf _ _ _ _ _ _)
  | false =>
    cases eb : decide ((60 : Int) < Int.ofNat b.size) with
    | true => exact fin _ ⟨al0, al0, ea.symm, eb.symm, rfl, rfl⟩ [] (fun e he => by cases he) (ch_lft _ _ _ _ _ _)
    | false =>
      rcases cs with hr | hr | hr | hr | hr
      ·
        rcases cmp3 (bl a) (bl b) with ⟨k0, k1⟩ | ⟨k0, k1⟩ | ⟨k0, k1, k2⟩
        ·
          exact fin _ ⟨al0, al0, ea.symm, eb.symm, (by rw [k1]; rfl), k0.symm⟩ _ (hrem _ _ _ hr) (ch_0_0_0_lt sp a b _)
        ·
          exact fin _ ⟨al0, al0, ea.symm, eb.symm, (by rw [k1]; rfl), k0.symm⟩ _ (hrem _ _ _ hr) (ch_0_0_0_gt sp a b _)
        ·
          exact fin _ ⟨al0, al0, ea.symm, eb.symm, (by rw [k1]; rfl), k0.symm⟩ _ (hrem _ _ _ hr) (ch_0_0_0_eq sp a b _)
      ·
        rcases pos_1 (bl a) with a0 | a0
        ·
          rcases pos_1 (bl b) with b0 | b0
          ·
            rcases cmp3 (bl a) (bl b) with ⟨k0, k1⟩ | ⟨k0, k1⟩ | ⟨k0, k1, k2⟩
            ·
              exact fin _ ⟨(alc a0 al0), (alc b0 al0), ea.symm, eb.symm, (by rw [k1]; rfl), k0.symm⟩ _ (hrem _ _ _ hr) (ch_1_0_0_lt sp a b _)
            ·
              exact fin _ ⟨(alc a0 al0), (alc b0 al0), ea.symm, eb.symm, (by rw [k1]; rfl), k0.symm⟩ _ (hrem _ _ _ hr) (ch_1_0_0_gt sp a b _)
            ·
              exact fin _ ⟨(alc a0 al0), (alc b0 al0), ea.symm, eb.symm, (by rw [k1]; rfl), k0.symm⟩ _ (hrem _ _ _ hr) (ch_1_0_0_eq sp a b _)
          ·
            rcases cmp3 (bl a) (bl b) with ⟨k0, k1⟩ | ⟨k0, k1⟩ | ⟨k0, k1, k2⟩
            ·
              exact fin _ ⟨(alc a0 al0), (alc b0 al0), ea.symm, eb.symm, (by rw [k1]; rfl), k0.symm⟩ _ (hrem _ _ _ hr) (ch_1_0_1_lt sp a b _)
            ·
              exact (no2 a0 b0 k1).elim
            ·
              exact (no3 a0 b0 k2).elim
        ·
          rcases pos_1 (bl b) with b0 | b0
          ·
            rcases cmp3 (bl a) (bl b) with ⟨k0, k1⟩ | ⟨k0, k1⟩ | ⟨k0, k1, k2⟩
            ·
              exact (no1 a0 b0 k1).elim
            ·
              exact fin _ ⟨(alc a0 al0), (alc b0 al0), ea.symm, eb.symm, (by rw [k1]; rfl), k0.symm⟩ _ (hrem _ _ _ hr) (ch_1_1_0_gt sp a b _)
            ·
              exact (no1 a0 b0 k1).elim
          ·
            rcases cmp3 (bl a) (bl b) with ⟨k0, k1⟩ | ⟨k0, k1⟩ | ⟨k0, k1, k2⟩
            ·
              exact fin _ ⟨(alc a0 al0), (alc b0 al0), ea.symm, eb.symm, (by rw [k1]; rfl), k0.symm⟩ _ (hrem _ _ _ hr) (ch_1_1_1_lt sp a b _)
            ·
              exact fin _ ⟨(alc a0 al0), (alc b0 al0), ea.symm, eb.symm, (by rw [k1]; rfl), k0.symm⟩ _ (hrem _ _ _ hr) (ch_1_1_1_gt sp a b _)
            ·
              exact fin _ ⟨(alc a0 al0), (alc b0 al0), ea.symm, eb.symm, (by rw [k1]; rfl), k0.symm⟩ _ (hrem _ _ _ hr) (ch_1_1_1_eq sp a b _)
      ·
        rcases pos_2 (bl a) with ⟨a0, a1⟩ | ⟨a0, a1⟩ | ⟨a0, a1⟩
        ·
          rcases pos_2 (bl b) with ⟨b0, b1⟩ | ⟨b0, b1⟩ | ⟨b0, b1⟩
          ·
            rcases cmp3 (bl a) (bl b) with ⟨k0, k1⟩ | ⟨k0, k1⟩ | ⟨k0, k1, k2⟩
            ·
              exact fin _ ⟨(alc a0 (alc a1 al0)), (alc b0 (alc b1 al0)), ea.symm, eb.symm, (by rw [k1]; rfl), k0.symm⟩ _ (hrem _ _ _ hr) (ch_2_0_0_lt sp a b _)
            ·
              exact fin _ ⟨(alc a0 (alc a1 al0)), (alc b0 (alc b1 al0)), ea.symm, eb.symm, (by rw [k1]; rfl), k0.symm⟩ _ (hrem _ _ _ hr) (ch_2_0_0_gt sp a b _)
            ·
              exact fin _ ⟨(alc a0 (alc a1 al0)), (alc b0 (alc b1 al0)), ea.symm, eb.symm, (by rw [k1]; rfl), k0.symm⟩ _ (hrem _ _ _ hr) (ch_2_0_0_eq sp a b _)
          ·
            rcases cmp3 (bl a) (bl b) with ⟨k0, k1⟩ | ⟨k0, k1⟩ | ⟨k0, k1, k2⟩
            ·
              exact fin _ ⟨(alc a0 (alc a1 al0)), (alc b0 (alc b1 al0)), ea.symm, eb.symm, (by rw [k1]; rfl), k0.symm⟩ _ (hrem _ _ _ hr) (ch_2_0_1_lt sp a b _)
            ·
              exact (no2 a0 b0 k1).elim
            ·
              exact (no3 a0 b0 k2).elim
          ·
            rcases cmp3 (bl a) (bl b) with ⟨k0, k1⟩ | ⟨k0, k1⟩ | ⟨k0, k1, k2⟩
            ·
              exact fin _ ⟨(alc a0 (alc a1 al0)), (alc b0 (alc b1 al0)), ea.symm, eb.symm, (by rw [k1]; rfl), k0.symm⟩ _ (hrem _ _ _ hr) (ch_2_0_2_lt sp a b _)
            ·
              exact (no2 a0 b0 k1).elim
            ·
              exact (no3 a0 b0 k2).elim
        ·
          rcases pos_2 (bl b) with ⟨b0, b1⟩ | ⟨b0, b1⟩ | ⟨b0, b1⟩
          ·
            rcases cmp3 (bl a) (bl b) with ⟨k0, k1⟩ | ⟨k0, k1⟩ | ⟨k0, k1, k2⟩
            ·
              exact (no1 a0 b0 k1).elim
            ·
              exact fin _ ⟨(alc a0 (alc a1 al0)), (alc b0 (alc b1 al0)), ea.symm, eb.symm, (by rw [k1]; rfl), k0.symm⟩ _ (hrem _ _ _ hr) (ch_2_1_0_gt sp a b _)
            ·
              exact (no1 a0 b0 k1).elim
          ·
            rcases cmp3 (bl a) (bl b) with ⟨k0, k1⟩ | ⟨k0, k1⟩ | ⟨k0, k1, k2⟩
            ·
              exact fin _ ⟨(alc a0 (alc a1 al0)), (alc b0 (alc b1 al0)), ea.symm, eb.symm, (by rw [k1]; rfl), k0.symm⟩ _ (hrem _ _ _ hr) (ch_2_1_1_lt sp a b _)
            ·
              exact fin _ ⟨(alc a0 (alc a1 al0)), (alc b0 (alc b1 al0)), ea.symm, eb.symm, (by rw [k1]; rfl), k0.symm⟩ _ (hrem _ _ _ hr) (ch_2_1_1_gt sp a b _)
            ·
              exact fin _ ⟨(alc a0 (alc a1 al0)), (alc b0 (alc b1 al0)), ea.symm, eb.symm, (by rw [k1]; rfl), k0.symm⟩ _ (hrem _ _ _ hr) (ch_2_1_1_eq sp a b _)
          ·
            rcases cmp3 (bl a) (bl b) with ⟨k0, k1⟩ | ⟨k0, k1⟩ | ⟨k0, k1, k2⟩
            ·
              exact fin _ ⟨(alc a0 (alc a1 al0)), (alc b0 (alc b1 al0)), ea.symm, eb.symm, (by rw [k1]; rfl), k0.symm⟩ _ (hrem _ _ _ hr) (ch_2_1_2_lt sp a b _)
            ·
              exact (no2 a1 b1 k1).elim
            ·
              exact (no3 a1 b1 k2).elim
        ·
          rcases pos_2 (bl b) with ⟨b0, b1⟩ | ⟨b0, b1⟩ | ⟨b0, b1⟩
          ·
            rcases cmp3 (bl a) (bl b) with ⟨k0, k1⟩ | ⟨k0, k1⟩ | ⟨k0, k1, k2⟩
            ·
              exact (no1 a0 b0 k1).elim
            ·
              exact fin _ ⟨(alc a0 (alc a1 al0)), (alc b0 (alc b1 al0)), ea.symm, eb.symm, (by rw [k1]; rfl), k0.symm⟩ _ (hrem _ _ _ hr) (ch_2_2_0_gt sp a b _)
            ·
              exact (no1 a0 b0 k1).elim
          ·
            rcases cmp3 (bl a) (bl b) with ⟨k0, k1⟩ | ⟨k0, k1⟩ | ⟨k0, k1, k2⟩
            ·
              exact (no1 a1 b1 k1).elim
            ·
              exact fin _ ⟨(alc a0 (alc a1 al0)), (alc b0 (alc b1 al0)), ea.symm, eb.symm, (by rw [k1]; rfl), k0.symm⟩ _ (hrem _ _ _ hr) (ch_2_2_1_gt sp a b _)
            ·
              exact (no1 a1 b1 k1).elim
          ·
            rcases cmp3 (bl a) (bl b) with ⟨k0, k1⟩ | ⟨k0, k1⟩ | ⟨k0, k1, k2⟩
            ·
              exact fin _ ⟨(alc a0 (alc a1 al0)), (alc b0 (alc b1 al0)), ea.symm, eb.symm, (by rw [k1]; rfl), k0.symm⟩ _ (hrem _ _ _ hr) (ch_2_2_2_lt sp a b _)
            ·
              exact fin _ ⟨(alc a0 (alc a1 al0)), (alc b0 (alc b1 al0)), ea.symm, eb.symm, (by rw [k1]; rfl), k0.symm⟩ _ (hrem _ _ _ hr) (ch_2_2_2_gt sp a b _)
            ·
              exact fin _ ⟨(alc a0 (alc a1 al0)), (alc b0 (alc b1 al0)), ea.symm, eb.symm, (by rw [k1]; rfl), k0.symm⟩ _ (hrem _ _ _ hr) (ch_2_2_2_eq sp a b _)
      ·
        rcases pos_3 (bl a) with ⟨a0, a1, a2⟩ | ⟨a0, a1, a2⟩ | ⟨a0, a1, a2⟩ | ⟨a0, a1, a2⟩
        ·
          rcases pos_3 (bl b) with ⟨b0, b1, b2⟩ | ⟨b0, b1, b2⟩ | ⟨b0, b1, b2⟩ | ⟨b0, b1, b2⟩
          ·
            rcases cmp3 (bl a) (bl b) with ⟨k0, k1⟩ | ⟨k0, k1⟩ | ⟨k0, k1, k2⟩
            ·
              exact fin _ ⟨(alc a0 (alc a1 (alc a2 al0))), (alc b0 (alc b1 (alc b2 al0))), ea.symm, eb.symm, (by rw [k1]; rfl), k0.symm⟩ _ (hrem _ _ _ hr) (ch_3_0_0_lt sp a b _)
            ·
              exact fin _ ⟨(alc a0 (alc a1 (alc a2 al0))), (alc b0 (alc b1 (alc b2 al0))), ea.symm, eb.symm, (by rw [k1]; rfl), k0.symm⟩ _ (hrem _ _ _ hr) (ch_3_0_0_gt sp a b _)
            ·
              exact fin _ ⟨(alc a0 (alc a1 (alc a2 al0))), (alc b0 (alc b1 (alc b2 al0))), ea.symm, eb.symm, (by rw [k1]; rfl), k0.symm⟩ _ (hrem _ _ _ hr) (ch_3_0_0_eq sp a b _)
          ·
            rcases cmp3 (bl a) (bl b) with ⟨k0, k1⟩ | ⟨k0, k1⟩ | ⟨k0, k1, k2⟩
            ·
              exact fin _ ⟨(alc a0 (alc a1 (alc a2 al0))), (alc b0 (alc b1 (alc b2 al0))), ea.symm, eb.symm, (by rw [k1]; rfl), k0.symm⟩ _ (hrem _ _ _ hr) (ch_3_0_1_lt sp a b _)
            ·
              exact (no2 a0 b0 k1).elim
            ·
              exact (no3 a0 b0 k2).elim
          ·
            rcases cmp3 (bl a) (bl b) with ⟨k0, k1⟩ | ⟨k0, k1⟩ | ⟨k0, k1, k2⟩
            ·
              exact fin _ ⟨(alc a0 (alc a1 (alc a2 al0))), (alc b0 (alc b1 (alc b2 al0))), ea.symm, eb.symm, (by rw [k1]; rfl), k0.symm⟩ _ (hrem _ _ _ hr) (ch_3_0_2_lt sp a b _)
            ·
              exact (no2 a0 b0 k1).elim
            ·
              exact (no3 a0 b0 k2).elim
          ·
            rcases cmp3 (bl a) (bl b) with ⟨k0, k1⟩ | ⟨k0, k1⟩ | ⟨k0, k1, k2⟩
            ·
              exact fin _ ⟨(alc a0 (alc a1 (alc a2 al0))), (alc b0 (alc b1 (alc b2 al0))), ea.symm, eb.symm, (by rw [k1]; rfl), k0.symm⟩ _ (hrem _ _ _ hr) (ch_3_0_3_lt sp a b _)
            ·
              exact (no2 a0 b0 k1).elim
            ·
              exact (no3 a0 b0 k2).elim
        ·
          rcases pos_3 (bl b) with ⟨b0, b1, b2⟩ | ⟨b0, b1, b2⟩ | ⟨b0, b1, b2⟩ | ⟨b0, b1, b2⟩
          ·
            rcases cmp3 (bl a) (bl b) with ⟨k0, k1⟩ | ⟨k0, k1⟩ | ⟨k0, k1, k2⟩
            ·
              exact (no1 a0 b0 k1).elim
            ·
              exact fin _ ⟨(alc a0 (alc a1 (alc a2 al0))), (alc b0 (alc b1 (alc b2 al0))), ea.symm, eb.symm, (by rw [k1]; rfl), k0.symm⟩ _ (hrem _ _ _ hr) (ch_3_1_0_gt sp a b _)
            ·
              exact (no1 a0 b0 k1).elim
          ·
            rcases cmp3 (bl a) (bl b) with ⟨k0, k1⟩ | ⟨k0, k1⟩ | ⟨k0, k1, k2⟩
            ·
              exact fin _ ⟨(alc a0 (alc a1 (alc a2 al0))), (alc b0 (alc b1 (alc b2 al0))), ea.symm, eb.symm, (by rw [k1]; rfl), k0.symm⟩ _ (hrem _ _ _ hr) (ch_3_1_1_lt sp a b _)
            ·
              exact fin _ ⟨(alc a0 (alc a1 (alc a2 al0))), (alc b0 (alc b1 (alc b2 al0))), ea.symm, eb.symm, (by rw [k1]; rfl), k0.symm⟩ _ (hrem _ _ _ hr) (ch_3_1_1_gt sp a b _)
            ·
              exact fin _ ⟨(alc a0 (alc a1 (alc a2 al0))), (alc b0 (alc b1 (alc b2 al0))), ea.symm, eb.symm, (by rw [k1]; rfl), k0.symm⟩ _ (hrem _ _ _ hr) (ch_3_1_1_eq sp a b _)
          ·
            rcases cmp3 (bl a) (bl b) with ⟨k0, k1⟩ | ⟨k0, k1⟩ | ⟨k0, k1, k2⟩
            ·
              exact fin _ ⟨(alc a0 (alc a1 (alc a2 al0))), (alc b0 (alc b1 (alc b2 al0))), ea.symm, eb.symm, (by rw [k1]; rfl), k0.symm⟩ _ (hrem _ _ _ hr) (ch_3_1_2_lt sp a b _)
            ·
              exact (no2 a1 b1 k1).elim
            ·
              exact (no3 a1 b1 k2).elim
          ·
            rcases cmp3 (bl a) (bl b) with ⟨k0, k1⟩ | ⟨k0, k1⟩ | ⟨k0, k1, k2⟩
            ·
              exact fin _ ⟨(alc a0 (alc a1 (alc a2 al0))), (alc b0 (alc b1 (alc b2 al0))), ea.symm, eb.symm, (by rw [k1]; rfl), k0.symm⟩ _ (hrem _ _ _ hr) (ch_3_1_3_lt sp a b _)
            ·
              exact (no2 a1 b1 k1).elim
            ·
              exact (no3 a1 b1 k2).elim
        ·
          rcases pos_3 (bl b) with ⟨b0, b1, b2⟩ | ⟨b0, b1, b2⟩ | ⟨b0, b1, b2⟩ | ⟨b0, b1, b2⟩
          ·
            rcases cmp3 (bl a) (bl b) with ⟨k0, k1⟩ | ⟨k0, k1⟩ | ⟨k0, k1, k2⟩
            ·
              exact (no1 a0 b0 k1).elim
            ·
              exact fin _ ⟨(alc a0 (alc a1 (alc a2 al0))), (alc b0 (alc b1 (alc b2 al0))), ea.symm, eb.symm, (by rw [k1]; rfl), k0.symm⟩ _ (hrem _ _ _ hr) (ch_3_2_0_gt sp a b _)
            ·
              exact (no1 a0 b0 k1).elim
          ·
            rcases cmp3 (bl a) (bl b) with ⟨k0, k1⟩ | ⟨k0, k1⟩ | ⟨k0, k1, k2⟩
            ·
              exact (no1 a1 b1 k1).elim
            ·
              exact fin _ ⟨(alc a0 (alc a1 (alc a2 al0))), (alc b0 (alc b1 (alc b2 al0))), ea.symm, eb.symm, (by rw [k1]; rfl), k0.symm⟩ _ (hrem _ _ _ hr) (ch_3_2_1_gt sp a b _)
            ·
              exact (no1 a1 b1 k1).elim
          ·
            rcases cmp3 (bl a) (bl b) with ⟨k0, k1⟩ | ⟨k0, k1⟩ | ⟨k0, k1, k2⟩
            ·
              exact fin _ ⟨(alc a0 (alc a1 (alc a2 al0))), (alc b0 (alc b1 (alc b2 al0))), ea.symm, eb.symm, (by rw [k1]; rfl), k0.symm⟩ _ (hrem _ _ _ hr) (ch_3_2_2_lt sp a b _)
            ·
              exact fin _ ⟨(alc a0 (alc a1 (alc a2 al0))), (alc b0 (alc b1 (alc b2 al0))), ea.symm, eb.symm, (by rw [k1]; rfl), k0.symm⟩ _ (hrem _ _ _ hr) (ch_3_2_2_gt sp a b _)
            ·
              exact fin _ ⟨(alc a0 (alc a1 (alc a2 al0))), (alc b0 (alc b1 (alc b2 al0))), ea.symm, eb.symm, (by rw [k1]; rfl), k0.symm⟩ _ (hrem _ _ _ hr) (ch_3_2_2_eq sp a b _)
          ·
            rcases cmp3 (bl a) (bl b) with ⟨k0, k1⟩ | ⟨k0, k1⟩ | ⟨k0, k1, k2⟩
            ·
              exact fin _ ⟨(alc a0 (alc a1 (alc a2 al0))), (alc b0 (alc b1 (alc b2 al0))), ea.symm, eb.symm, (by rw [k1]; rfl), k0.symm⟩ _ (hrem _ _ _ hr) (ch_3_2_3_lt sp a b _)
            ·
              exact (no2 a2 b2 k1).elim
            ·
              exact (no3 a2 b2 k2).elim
        ·
          rcases pos_3 (bl b) with ⟨b0, b1, b2⟩ | ⟨b0, b1, b2⟩ | ⟨b0, b1, b2⟩ | ⟨b0, b1, b2⟩
          ·
            rcases cmp3 (bl a) (bl b) with ⟨k0, k1⟩ | ⟨k0, k1⟩ | ⟨k0, k1, k2⟩
            ·
              exact (no1 a0 b0 k1).elim
            ·
              exact fin _ ⟨(alc a0 (alc a1 (alc a2 al0))), (alc b0 (alc b1 (alc b2 al0))), ea.symm, eb.symm, (by rw [k1]; rfl), k0.symm⟩ _ (hrem _ _ _ hr) (ch_3_3_0_gt sp a b _)
            ·
              exact (no1 a0 b0 k1).elim
          ·
            rcases cmp3 (bl a) (bl b) with ⟨k0, k1⟩ | ⟨k0, k1⟩ | ⟨k0, k1, k2⟩
            ·
              exact (no1 a1 b1 k1).elim
            ·
              exact fin _ ⟨(alc a0 (alc a1 (alc a2 al0))), (alc b0 (alc b1 (alc b2 al0))), ea.symm, eb.symm, (by rw [k1]; rfl), k0.symm⟩ _ (hrem _ _ _ hr) (ch_3_3_1_gt sp a b _)
            ·
              exact (no1 a1 b1 k1).elim
          ·
            rcases cmp3 (bl a) (bl b) with ⟨k0, k1⟩ | ⟨k0, k1⟩ | ⟨k0, k1, k2⟩
            ·
              exact (no1 a2 b2 k1).elim
            ·
              exact fin _ ⟨(alc a0 (alc a1 (alc a2 al0))), (alc b0 (alc b1 (alc b2 al0))), ea.symm, eb.symm, (by rw [k1]; rfl), k0.symm⟩ _ (hrem _ _ _ hr) (ch_3_3_2_gt sp a b _)
            ·
              exact (no1 a2 b2 k1).elim
          ·
            rcases cmp3 (bl a) (bl b) with ⟨k0, k1⟩ | ⟨k0, k1⟩ | ⟨k0, k1, k2⟩
            ·
              exact fin _ ⟨(alc a0 (alc a1 (alc a2 al0))), (alc b0 (alc b1 (alc b2 al0))), ea.symm, eb.symm, (by rw [k1]; rfl), k0.symm⟩ _ (hrem _ _ _ hr) (ch_3_3_3_lt sp a b _)
            ·
              exact fin _ ⟨(alc a0 (alc a1 (alc a2 al0))), (alc b0 (alc b1 (alc b2 al0))), ea.symm, eb.symm, (by rw [k1]; rfl), k0.symm⟩ _ (hrem _ _ _ hr) (ch_3_3_3_gt sp a b _)
            ·
              exact fin _ ⟨(alc a0 (alc a1 (alc a2 al0))), (alc b0 (alc b1 (alc b2 al0))), ea.symm, eb.symm, (by rw [k1]; rfl), k0.symm⟩ _ (hrem _ _ _ hr) (ch_3_3_3_eq sp a b _)
      ·
        rcases pos_4 (bl a) with ⟨a0, a1, a2, a3⟩ | ⟨a0, a1, a2, a3⟩ | ⟨a0, a1, a2, a3⟩ | ⟨a0, a1, a2, a3⟩ | ⟨a0, a1, a2, a3⟩
        ·
          rcases pos_4 (bl b) with ⟨b0, b1, b2, b3⟩ | ⟨b0, b1, b2, b3⟩ | ⟨b0, b1, b2, b3⟩ | ⟨b0, b1, b2, b3⟩ | ⟨b0, b1, b2, b3⟩
          ·
            rcases cmp3 (bl a) (bl b) with ⟨k0, k1⟩ | ⟨k0, k1⟩ | ⟨k0, k1, k2⟩
            ·
              exact fin _ ⟨(alc a0 (alc a1 (alc a2 (alc a3 al0)))), (alc b0 (alc b1 (alc b2 (alc b3 al0)))), ea.symm, eb.symm, (by rw [k1]; rfl), k0.symm⟩ _ (hrem _ _ _ hr) (ch_4_0_0_lt sp a b _)
            ·
              exact fin _ ⟨(alc a0 (alc a1 (alc a2 (alc a3 al0)))), (alc b0 (alc b1 (alc b2 (alc b3 al0)))), ea.symm, eb.symm, (by rw [k1]; rfl), k0.symm⟩ _ (hrem _ _ _ hr) (ch_4_0_0_gt sp a b _)
            ·
              exact fin _ ⟨(alc a0 (alc a1 (alc a2 (alc a3 al0)))), (alc b0 (alc b1 (alc b2 (alc b3 al0)))), ea.symm, eb.symm, (by rw [k1]; rfl), k0.symm⟩ _ (hrem _ _ _ hr) (ch_4_0_0_eq sp a b _)
          ·
            rcases cmp3 (bl a) (bl b) with ⟨k0, k1⟩ | ⟨k0, k1⟩ | ⟨k0, k1, k2⟩
            ·
              exact fin _ ⟨(alc a0 (alc a1 (alc a2 (alc a3 al0)))), (alc b0 (alc b1 (alc b2 (alc b3 al0)))), ea.symm, eb.symm, (by rw [k1]; rfl), k0.symm⟩ _ (hrem _ _ _ hr) (ch_4_0_1_lt sp a b _)
            ·
              exact (no2 a0 b0 k1).elim
            ·
              exact (no3 a0 b0 k2).elim
          ·
            rcases cmp3 (bl a) (bl b) with ⟨k0, k1⟩ | ⟨k0, k1⟩ | ⟨k0, k1, k2⟩
            ·
              exact fin _ ⟨(alc a0 (alc a1 (alc a2 (alc a3 al0)))), (alc b0 (alc b1 (alc b2 (alc b3 al0)))), ea.symm, eb.symm, (by rw [k1]; rfl), k0.symm⟩ _ (hrem _ _ _ hr) (ch_4_0_2_lt sp a b _)
            ·
              exact (no2 a0 b0 k1).elim
            ·
              exact (no3 a0 b0 k2).elim
          ·
            rcases cmp3 (bl a) (bl b) with ⟨k0, k1⟩ | ⟨k0, k1⟩ | ⟨k0, k1, k2⟩
            ·
              exact fin _ ⟨(alc a0 (alc a1 (alc a2 (alc a3 al0)))), (alc b0 (alc b1 (alc b2 (alc b3 al0)))), ea.symm, eb.symm, (by rw [k1]; rfl), k0.symm⟩ _ (hrem _ _ _ hr) (ch_4_0_3_lt sp a b _)
            ·
              exact (no2 a0 b0 k1).elim
            ·
              exact (no3 a0 b0 k2).elim
          ·
            rcases cmp3 (bl a) (bl b) with ⟨k0, k1⟩ | ⟨k0, k1⟩ | ⟨k0, k1, k2⟩
            ·
              exact fin _ ⟨(alc a0 (alc a1 (alc a2 (alc a3 al0)))), (alc b0 (alc b1 (alc b2 (alc b3 al0)))), ea.symm, eb.symm, (by rw [k1]; rfl), k0.symm⟩ _ (hrem _ _ _ hr) (ch_4_0_4_lt sp a b _)
            ·
              exact (no2 a0 b0 k1).elim
            ·
              exact (no3 a0 b0 k2).elim
        ·
          rcases pos_4 (bl b) with ⟨b0, b1, b2, b3⟩ | ⟨b0, b1, b2, b3⟩ | ⟨b0, b1, b2, b3⟩ | ⟨b0, b1, b2, b3⟩ | ⟨b0, b1, b2, b3⟩
          ·
            rcases cmp3 (bl a) (bl b) with ⟨k0, k1⟩ | ⟨k0, k1⟩ | ⟨k0, k1, k2⟩
            ·
              exact (no1 a0 b0 k1).elim
            ·
              exact fin _ ⟨(alc a0 (alc a1 (alc a2 (alc a3 al0)))), (alc b0 (alc b1 (alc b2 (alc b3 al0)))), ea.symm, eb.symm, (by rw [k1]; rfl), k0.symm⟩ _ (hrem _ _ _ hr) (ch_4_1_0_gt sp a b _)
            ·
              exact (no1 a0 b0 k1).elim
          ·
            rcases cmp3 (bl a) (bl b) with ⟨k0, k1⟩ | ⟨k0, k1⟩ | ⟨k0, k1, k2⟩
            ·
              exact fin _ ⟨(alc a0 (alc a1 (alc a2 (alc a3 al0)))), (alc b0 (alc b1 (alc b2 (alc b3 al0)))), ea.symm, eb.symm, (by rw [k1]; rfl), k0.symm⟩ _ (hrem _ _ _ hr) (ch_4_1_1_lt sp a b _)
            ·
              exact fin _ ⟨(alc a0 (alc a1 (alc a2 (alc a3 al0)))), (alc b0 (alc b1 (alc b2 (alc b3 al0)))), ea.symm, eb.symm, (by rw [k1]; rfl), k0.symm⟩ _ (hrem _ _ _ hr) (ch_4_1_1_gt sp a b _)
            ·
              exact fin _ ⟨(alc a0 (alc a1 (alc a2 (alc a3 al0)))), (alc b0 (alc b1 (alc b2 (alc b3 al0)))), ea.symm, eb.symm, (by rw [k1]; rfl), k0.symm⟩ _ (hrem _ _ _ hr) (ch_4_1_1_eq sp a b _)
          ·
            rcases cmp3 (bl a) (bl b) with ⟨k0, k1⟩ | ⟨k0, k1⟩ | ⟨k0, k1, k2⟩
            ·
              exact fin _ ⟨(alc a0 (alc a1 (alc a2 (alc a3 al0)))), (alc b0 (alc b1 (alc b2 (alc b3 al0)))), ea.symm, eb.symm, (by rw [k1]; rfl), k0.symm⟩ _ (hrem _ _ _ hr) (ch_4_1_2_lt sp a b _)
            ·
              exact (no2 a1 b1 k1).elim
            ·
              exact (no3 a1 b1 k2).elim
          ·
            rcases cmp3 (bl a) (bl b) with ⟨k0, k1⟩ | ⟨k0, k1⟩ | ⟨k0, k1, k2⟩
            ·
              exact fin _ ⟨(alc a0 (alc a1 (alc a2 (alc a3 al0)))), (alc b0 (alc b1 (alc b2 (alc b3 al0)))), ea.symm, eb.symm, (by rw [k1]; rfl), k0.symm⟩ _ (hrem _ _ _ hr) (ch_4_1_3_lt sp a b _)
            ·
              exact (no2 a1 b1 k1).elim
            ·
              exact (no3 a1 b1 k2).elim
          ·
            rcases cmp3 (bl a) (bl b) with ⟨k0, k1⟩ | ⟨k0, k1⟩ | ⟨k0, k1, k2⟩
            ·
              exact fin _ ⟨(alc a0 (alc a1 (alc a2 (alc a3 al0)))), (alc b0 (alc b1 (alc b2 (alc b3 al0)))), ea.symm, eb.symm, (by rw [k1]; rfl), k0.symm⟩ _ (hrem _ _ _ hr) (ch_4_1_4_lt sp a b _)
            ·
              exact (no2 a1 b1 k1).elim
            ·
              exact (no3 a1 b1 k2).elim
        ·
          rcases pos_4 (bl b) with ⟨b0, b1, b2, b3⟩ | ⟨b0, b1, b2, b3⟩ | ⟨b0, b1, b2, b3⟩ | ⟨b0, b1, b2, b3⟩ | ⟨b0, b1, b2, b3⟩
          ·
            rcases cmp3 (bl a) (bl b) with ⟨k0, k1⟩ | ⟨k0, k1⟩ | ⟨k0, k1, k2⟩
            ·
              exact (no1 a0 b0 k1).elim
            ·
              exact fin _ ⟨(alc a0 (alc a1 (alc a2 (alc a3 al0)))), (alc b0 (alc b1 (alc b2 (alc b3 al0)))), ea.symm, eb.symm, (by rw [k1]; rfl), k0.symm⟩ _ (hrem _ _ _ hr) (ch_4_2_0_gt sp a b _)
            ·
              exact (no1 a0 b0 k1).elim
          ·
            rcases cmp3 (bl a) (bl b) with ⟨k0, k1⟩ | ⟨k0, k1⟩ | ⟨k0, k1, k2⟩
            ·
              exact (no1 a1 b1 k1).elim
            ·
              exact fin _ ⟨(alc a0 (alc a1 (alc a2 (alc a3 al0)))), (alc b0 (alc b1 (alc b2 (alc b3 al0)))), ea.symm, eb.symm, (by rw [k1]; rfl), k0.symm⟩ _ (hrem _ _ _ hr) (ch_4_2_1_gt sp a b _)
            ·
              exact (no1 a1 b1 k1).elim
          ·
            rcases cmp3 (bl a) (bl b) with ⟨k0, k1⟩ | ⟨k0, k1⟩ | ⟨k0, k1, k2⟩
            ·
              exact fin _ ⟨(alc a0 (alc a1 (alc a2 (alc a3 al0)))), (alc b0 (alc b1 (alc b2 (alc b3 al0)))), ea.symm, eb.symm, (by rw [k1]; rfl), k0.symm⟩ _ (hrem _ _ _ hr) (ch_4_2_2_lt sp a b _)
            ·
              exact fin _ ⟨(alc a0 (alc a1 (alc a2 (alc a3 al0)))), (alc b0 (alc b1 (alc b2 (alc b3 al0)))), ea.symm, eb.symm, (by rw [k1]; rfl), k0.symm⟩ _ (hrem _ _ _ hr) (ch_4_2_2_gt sp a b _)
            ·
              exact fin _ ⟨(alc a0 (alc a1 (alc a2 (alc a3 al0)))), (alc b0 (alc b1 (alc b2 (alc b3 al0)))), ea.symm, eb.symm, (by rw [k1]; rfl), k0.symm⟩ _ (hrem _ _ _ hr) (ch_4_2_2_eq sp a b _)
          ·
            rcases cmp3 (bl a) (bl b) with ⟨k0, k1⟩ | ⟨k0, k1⟩ | ⟨k0, k1, k2⟩
            ·
              exact fin _ ⟨(alc a0 (alc a1 (alc a2 (alc a3 al0)))), (alc b0 (alc b1 (alc b2 (alc b3 al0)))), ea.symm, eb.symm, (by rw [k1]; rfl), k0.symm⟩ _ (hrem _ _ _ hr) (ch_4_2_3_lt sp a b _)
            ·
              exact (no2 a2 b2 k1).elim
            ·
              exact (no3 a2 b2 k2).elim
          ·
            rcases cmp3 (bl a) (bl b) with ⟨k0, k1⟩ | ⟨k0, k1⟩ | ⟨k0, k1, k2⟩
            ·
              exact fin _ ⟨(alc a0 (alc a1 (alc a2 (alc a3 al0)))), (alc b0 (alc b1 (alc b2 (alc b3 al0)))), ea.symm, eb.symm, (by rw [k1]; rfl), k0.symm⟩ _ (hrem _ _ _ hr) (ch_4_2_4_lt sp a b _)
            ·
              exact (no2 a2 b2 k1).elim
            ·
              exact (no3 a2 b2 k2).elim
        ·
          rcases pos_4 (bl b) with ⟨b0, b1, b2, b3⟩ | ⟨b0, b1, b2, b3⟩ | ⟨b0, b1, b2, b3⟩ | ⟨b0, b1, b2, b3⟩ | ⟨b0, b1, b2, b3⟩
          ·
            rcases cmp3 (bl a) (bl b) with ⟨k0, k1⟩ | ⟨k0, k1⟩ | ⟨k0, k1, k2⟩
            ·
              exact (no1 a0 b0 k1).elim
            ·
              exact fin _ ⟨(alc a0 (alc a1 (alc a2 (alc a3 al0)))), (alc b0 (alc b1 (alc b2 (alc b3 al0)))), ea.symm, eb.symm, (by rw [k1]; rfl), k0.symm⟩ _ (hrem _ _ _ hr) (ch_4_3_0_gt sp a b _)
            ·
              exact (no1 a0 b0 k1).elim
          ·
            rcases cmp3 (bl a) (bl b) with ⟨k0, k1⟩ | ⟨k0, k1⟩ | ⟨k0, k1, k2⟩
            ·
              exact (no1 a1 b1 k1).elim
            ·
              exact fin _ ⟨(alc a0 (alc a1 (alc a2 (alc a3 al0)))), (alc b0 (alc b1 (alc b2 (alc b3 al0)))), ea.symm, eb.symm, (by rw [k1]; rfl), k0.symm⟩ _ (hrem _ _ _ hr) (ch_4_3_1_gt sp a b _)
            ·
              exact (no1 a1 b1 k1).elim
          ·
            rcases cmp3 (bl a) (bl b) with ⟨k0, k1⟩ | ⟨k0, k1⟩ | ⟨k0, k1, k2⟩
            ·
              exact (no1 a2 b2 k1).elim
            ·
              exact fin _ ⟨(alc a0 (alc a1 (alc a2 (alc a3 al0)))), (alc b0 (alc b1 (alc b2 (alc b3 al0)))), ea.symm, eb.symm, (by rw [k1]; rfl), k0.symm⟩ _ (hrem _ _ _ hr) (ch_4_3_2_gt sp a b _)
            ·
              exact (no1 a2 b2 k1).elim
          ·
            rcases cmp3 (bl a) (bl b) with ⟨k0, k1⟩ | ⟨k0, k1⟩ | ⟨k0, k1, k2⟩
            ·
              exact fin _ ⟨(alc a0 (alc a1 (alc a2 (alc a3 al0)))), (alc b0 (alc b1 (alc b2 (alc b3 al0)))), ea.symm, eb.symm, (by rw [k1]; rfl), k0.symm⟩ _ (hrem _ _ _ hr) (ch_4_3_3_lt sp a b _)
            ·
              exact fin _ ⟨(alc a0 (alc a1 (alc a2 (alc a3 al0)))), (alc b0 (alc b1 (alc b2 (alc b3 al0)))), ea.symm, eb.symm, (by rw [k1]; rfl), k0.symm⟩ _ (hrem _ _ _ hr) (ch_4_3_3_gt sp a b _)
            ·
              exact fin _ ⟨(alc a0 (alc a1 (alc a2 (alc a3 al0)))), (alc b0 (alc b1 (alc b2 (alc b3 al0)))), ea.symm, eb.symm, (by rw [k1]; rfl), k0.symm⟩ _ (hrem _ _ _ hr) (ch_4_3_3_eq sp a b _)
          ·
            rcases cmp3 (bl a) (bl b) with ⟨k0, k1⟩ | ⟨k0, k1⟩ | ⟨k0, k1, k2⟩
            ·
              exact fin _ ⟨(alc a0 (alc a1 (alc a2 (alc a3 al0)))), (alc b0 (alc b1 (alc b2 (alc b3 al0)))), ea.symm, eb.symm, (by rw [k1]; rfl), k0.symm⟩ _ (hrem _ _ _ hr) (ch_4_3_4_lt sp a b _)
            ·
              exact (no2 a3 b3 k1).elim
            ·
              exact (no3 a3 b3 k2).elim
        ·
          rcases pos_4 (bl b) with ⟨b0, b1, b2, b3⟩ | ⟨b0, b1, b2, b3⟩ | ⟨b0, b1, b2, b3⟩ | ⟨b0, b1, b2, b3⟩ | ⟨b0, b1, b2, b3⟩
          ·
            rcases cmp3 (bl a) (bl b) with ⟨k0, k1⟩ | ⟨k0, k1⟩ | ⟨k0, k1, k2⟩
            ·
              exact (no1 a0 b0 k1).elim
            ·
              exact fin _ ⟨(alc a0 (alc a1 (alc a2 (alc a3 al0)))), (alc b0 (alc b1 (alc b2 (alc b3 al0)))), ea.symm, eb.symm, (by rw [k1]; rfl), k0.symm⟩ _ (hrem _ _ _ hr) (ch_4_4_0_gt sp a b _)
            ·
              exact (no1 a0 b0 k1).elim
          ·
            rcases cmp3 (bl a) (bl b) with ⟨k0, k1⟩ | ⟨k0, k1⟩ | ⟨k0, k1, k2⟩
            ·
              exact (no1 a1 b1 k1).elim
            ·
              exact fin _ ⟨(alc a0 (alc a1 (alc a2 (alc a3 al0)))), (alc b0 (alc b1 (alc b2 (alc b3 al0)))), ea.symm, eb.symm, (by rw [k1]; rfl), k0.symm⟩ _ (hrem _ _ _ hr) (ch_4_4_1_gt sp a b _)
            ·
              exact (no1 a1 b1 k1).elim
          ·
            rcases cmp3 (bl a) (bl b) with ⟨k0, k1⟩ | ⟨k0, k1⟩ | ⟨k0, k1, k2⟩
            ·
              exact (no1 a2 b2 k1).elim
            ·
              exact fin _ ⟨(alc a0 (alc a1 (alc a2 (alc a3 al0)))), (alc b0 (alc b1 (alc b2 (alc b3 al0)))), ea.symm, eb.symm, (by rw [k1]; rfl), k0.symm⟩ _ (hrem _ _ _ hr) (ch_4_4_2_gt sp a b _)
            ·
              exact (no1 a2 b2 k1).elim
          ·
            rcases cmp3 (bl a) (bl b) with ⟨k0, k1⟩ | ⟨k0, k1⟩ | ⟨k0, k1, k2⟩
            ·
              exact (no1 a3 b3 k1).elim
            ·
              exact fin _ ⟨(alc a0 (alc a1 (alc a2 (alc a3 al0)))), (alc b0 (alc b1 (alc b2 (alc b3 al0)))), ea.symm, eb.symm, (by rw [k1]; rfl), k0.symm⟩ _ (hrem _ _ _ hr) (ch_4_4_3_gt sp a b _)
            ·
              exact (no1 a3 b3 k1).elim
          ·
            rcases cmp3 (bl a) (bl b) with ⟨k0, k1⟩ | ⟨k0, k1⟩ | ⟨k0, k1, k2⟩
            ·
              exact fin _ ⟨(alc a0 (alc a1 (alc a2 (alc a3 al0)))), (alc b0 (alc b1 (alc b2 (alc b3 al0)))), ea.symm, eb.symm, (by rw [k1]; rfl), k0.symm⟩ _ (hrem _ _ _ hr) (ch_4_4_4_lt sp a b _)
            ·
              exact fin _ ⟨(alc a0 (alc a1 (alc a2 (alc a3 al0)))), (alc b0 (alc b1 (alc b2 (alc b3 al0)))), ea.symm, eb.symm, (by rw [k1]; rfl), k0.symm⟩ _ (hrem _ _ _ hr) (ch_4_4_4_gt sp a b _)
            ·
              exact fin _ ⟨(alc a0 (alc a1 (alc a2 (alc a3 al0)))), (alc b0 (alc b1 (alc b2 (alc b3 al0)))), ea.symm, eb.symm, (by rw [k1]; rfl), k0.symm⟩ _ (hrem _ _ _ hr) (ch_4_4_4_eq sp a b _)
end Go.Av


namespace Go.Proofs.YtndjadliihggpaaGreatDoor
open Go Go.ChangeShapes Go.WideShapes Go.ChangeAt Go.RowKit
set_option maxRecDepth 100000
theorem coordHomes_lifted (os : Os) (started : os.Started) (H : Type) (enc : TypeId × Value → H) :
    ReturnsInHanded {} Tryz.checked os 7 .any (fun w args => (Rows.coordHomesSpec.pre enc Tryz.prog Tryz.f7 [] false w args ∧ laidMetH Tryz.prog Rows.coordHomesRow.laid w) ∧ sizedMet enc Tryz.prog Tryz.f7 (OpenSpec.ofChange Rows.coordHomesSpec) false w args)
      (Rows.coordHomesSpec.post enc Tryz.prog Tryz.f7 false true false false) := by
  refine returns_shaped (C := Tryz.checked) (X := fun w _ => laidMetH Tryz.prog Rows.coordHomesRow.laid w) (fun _ _ _ hh h => h.of_heap hh) own started (by kernel_rfl) Tryz.func7
    (ChangeSpec.witness_shaped (enc := enc) (C := Tryz.checked) (os := os) (X := fun w _ => laidMetH Tryz.prog Rows.coordHomesRow.laid w) false (World.laidAll Tryz.prog os Rows.coordHomesRow.laid) #[.int .i64 0, .string ⟨#[]⟩, .string ⟨#[]⟩] 8 (World.laidAll_os _ _ _)
      (World.shaped_of_ZipB (by kernel_rfl) (by kernel_rfl)) (by kernel_rfl) (by kernel_rfl) (by kernel_rfl)
      (by rw [MakeChecks.laidMetH_plain _ _ _ (by kernel_rfl)]; exact laidMet_laidAll _ (by kernel_rfl) (by kernel_rfl))) ?_
  intro W base args ds gs before hshape hval0 hW hL
  have hval : ∀ (j : Nat) t v, Tryz.f7.params[j]? = some t → args[j]? = some v → Value.okWide Tryz.prog W .any base t v := hval0
  have hW' := hW
  obtain ⟨p, q, hA0, hV, rfl, _, _⟩ := hW
  have hA : DataW.TrodAll enc Tryz.prog W 0 (fun _ => true) true Tryz.f7.params.toList args.toList ds p := hA0
  rw [Tryz.params7] at hA hval
  obtain ⟨v0, v1, v2, d0, d1, d2, p0, p1, p2, rfl, rfl, rfl, q0, q1, q2⟩ := trodAll_three hA
  obtain ⟨rfl, rfl⟩ := trodVars_none hV
  obtain ⟨n0, rfl, rfl, rfl, w0⟩ := open_int Tryz.underlying3 (hval 0 3 v0 rfl rfl) q0
  obtain ⟨n1, rfl, rfl, rfl, w1⟩ := Go.ChangeMaps.open_string Tryz.underlying9 (hval 1 9 v1 rfl rfl) q1
  obtain ⟨n2, rfl, rfl, rfl, w2⟩ := Go.ChangeMaps.open_string Tryz.underlying9 (hval 2 9 v2 rfl rfl) q2
  have hL' := hL
  rw [MakeChecks.laidMetH_plain _ _ _ (by kernel_rfl)] at hL'
  have hr := Lib.laidMet.reads hL' (n := "strings.asciiSpace") (d := Rows.laid_strings_asciiSpace) (by simp [Rows.coordHomesRow])
  refine (Go.Av.law_run n0 n1 n2 (in_word w0) (letI := Go.Av.tokL []; Go.Av.glob_of (size_of hshape) hr)).mono fun e W' ⟨he, hk⟩ => ?_
  subst he
  exact ⟨_, rfl, _, _, _, [], [], [], hW', trodAll_mk1 (shut_bool Tryz.underlying4 _), trodAll_mk3 (shut_int Tryz.underlying3 w0) (Go.ChangeMaps.shut_string Tryz.underlying9 w1) (Go.ChangeMaps.shut_string Tryz.underlying9 w2), rfl, hk.but _, fun h => by cases h⟩
theorem coordHomes_said : Rows.CoordHomesSaid :=
  OpenClaim.holds_of_wide 7 Tryz.f7 rfl rfl rfl rfl rfl rfl rfl ⟨rfl, rfl, rfl, rfl, rfl⟩ rfl rfl rfl rfl rfl coordHomes_named Tryz.func7 coordHomes_closed
    (of_decide_eq_true (by kernel_rfl)) (by unfold Func.isWrapper; rw [if_neg (of_decide_eq_false (by kernel_rfl))]; exact ⟨rfl, rfl⟩) (fun os started H enc _ => coordHomes_lifted os started H enc)
theorem CoordHomes_holds : Rows.CoordHomesCardSaid :=
  Claim7.holds_tied_plain_at .later [] [.data, .data, .data, .data, .listed, .data, .pinned] true (true, "57101cddd19b5ffcfc9093984309bb36c54567d4e789da2cbc2610a6136134c6") false
    coordHomes_said (fun _ h => by cases h) (by kernel_rfl) (fun _ h => by cases h) coordHomes_row_tie rfl ⟨rfl, rfl⟩ (by kernel_rfl) rfl
    (fun f fn hf hfn => by
      obtain rfl : f = 7 := Option.some.inj (coordHomes_named.symm.trans hf) |>.symm
      obtain rfl : fn = Tryz.f7 := (Option.some.inj (Tryz.func7.symm.trans hfn)).symm
      exact ⟨by kernel_rfl, fun j t ht => by
        rw [Tryz.params7] at ht
        have hm : t ∈ [3, 9, 9] := by simpa using Array.mem_of_getElem? ht
        have hall : ([3, 9, 9].all fun u => !Tryz.prog.wantsStandIn u) = true := by kernel_rfl
        exact (show Tryz.prog.wantsStandIn t = false by simpa using List.all_eq_true.1 hall t hm)⟩)
    (goes_false _ rfl)
end Go.Proofs.YtndjadliihggpaaGreatDoor
