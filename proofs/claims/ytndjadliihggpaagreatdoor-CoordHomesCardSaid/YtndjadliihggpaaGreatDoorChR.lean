/- A part of the proof: what a machine of our own over the model's code answers is what the model does; no condition. -/
import Derived.Test.YtndjadliihggpaaGreatDoorCoB
set_option linter.all false
open Go Go.Av Go.Proofs
set_option maxRecDepth 1000000
namespace Go.Av
/-! ### Two texts, as tokens: of how they stand to some texts, and to one another -/
noncomputable def sle (l m : List Nat) : Bool := sless l m || seq l m
theorem sless_lt : ∀ {a b : List Nat}, sless a b = decide (a < b)
  | [], [] => by simp [show sless ([] : List Nat) [] = false from rfl]
  | [], y :: b => by simp [show sless ([] : List Nat) (y :: b) = true from rfl]
  | x :: a, [] => by simp [show sless (x :: a) ([] : List Nat) = false from rfl]
  | x :: a, y :: b => by
    show ifb (Nat.blt x y) true (ifb (Nat.beq x y) (sless a b) false) = _
    rw [sless_lt, Bool.eq_iff_iff]
    simp only [decide_eq_true_eq, List.cons_lt_cons_iff]
    cases h1 : Nat.blt x y with
    | true => rw [Nat.blt_eq] at h1; simp [ifb, h1]
    | false =>
      have h1' : ¬ x < y := by rw [← Nat.blt_eq, h1]; simp
      cases h2 : Nat.beq x y with
      | true => rw [Nat.beq_eq] at h2; subst h2; simp [ifb]
      | false =>
        have h2' : x ≠ y := fun e => by rw [← Nat.beq_eq, h2] at e; cases e
        simp [ifb, h1', h2']
theorem sle_le {a b : List Nat} : sle a b = true ↔ a ≤ b := by
  unfold sle
  rw [Bool.or_eq_true, sless_lt, decide_eq_true_eq, seq_eq, List.le_iff_lt_or_eq]
theorem sle_trans {a b c : List Nat} (h : sle a b = true) (k : sle b c = true) : sle a c = true := sle_le.2 (List.le_trans (sle_le.1 h) (sle_le.1 k))
theorem sle_total {a b : List Nat} (h : sle a b = false) : sle b a = true := by
  rcases List.le_total a b with g | g
  · rw [sle_le.2 g] at h; cases h
  · exact sle_le.2 g
theorem sless_le {a b : List Nat} (h : sless a b = true) : sle a b = true ∧ sle b a = false := by
  rw [sless_lt, decide_eq_true_eq] at h
  refine ⟨sle_le.2 (List.le_iff_lt_or_eq.2 (.inl h)), ?_⟩
  cases e : sle b a with
  | false => rfl
  | true => exact absurd h (List.not_lt.2 (sle_le.1 e))
theorem sless_no {a b : List Nat} (h : sless a b = false) : sle b a = true := by
  rw [sless_lt, decide_eq_false_iff_not] at h
  exact sle_le.2 (List.not_lt.1 h)
structure SO where
  pa : List (List Nat × Bool)
  pb : List (List Nat × Bool)
  la : Bool
  lb : Bool
  gt : Bool
  lt : Bool
noncomputable def findT (l : List Nat) (p : List (List Nat × Bool)) : Option AVal := List.rec none (fun e _ ih => ifb (seq l e.1) (some (.b e.2)) ih) p
noncomputable def stwo (o : SO) (op : BinOp) (a b : AVal) : Option AVal := match op, a, b with
  | .leq, .s l, .tok k => ifb (Nat.beq k 1) (findT l o.pa) (ifb (Nat.beq k 2) (findT l o.pb) none)
  | .gtr, .tok j, .i .i64 x => ifb (eqI x 60) (ifb (Nat.beq j 3) (some (.b o.la)) (ifb (Nat.beq j 4) (some (.b o.lb)) none)) none
  | .gtr, .tok j, .tok k => ifb (Nat.beq j 1 && Nat.beq k 2) (some (.b o.gt)) none
  | .lss, .tok j, .tok k => ifb (Nat.beq j 1 && Nat.beq k 2) (some (.b o.lt)) none
  | _, _, _ => none
def bl (s : ByteArray) : List Nat := s.data.toList.map UInt8.toNat
structure SOk (a b : ByteArray) (o : SO) : Prop where
  pa : ∀ e ∈ o.pa, sle e.1 (bl a) = e.2
  pb : ∀ e ∈ o.pb, sle e.1 (bl b) = e.2
  la : o.la = decide ((60 : Int) < Int.ofNat a.size)
  lb : o.lb = decide ((60 : Int) < Int.ofNat b.size)
  gt : o.gt = !(sle (bl a) (bl b))
  lt : o.lt = sless (bl a) (bl b)
def sval (sp : Int) (a b : ByteArray) (k : Nat) : Value := if k = 0 then .int .i64 sp else if k = 1 then .string a else if k = 2 then .string b else if k = 3 then .int .i64 (Int.ofNat a.size) else .int .i64 (Int.ofNat b.size)
theorem findT_eq {l : List Nat} {v : AVal} : ∀ {p : List (List Nat × Bool)}, findT l p = some v → ∃ e ∈ p, e.1 = l ∧ v = .b e.2
  | [], h => by cases (show none = some v from h)
  | e :: p, h => by
    change ifb (seq l e.1) (some (.b e.2)) (findT l p) = some v at h
    rcases ifb_or h with ⟨h1, h⟩ | ⟨_, h⟩
    · cases h; exact ⟨e, by simp, (seq_eq.1 h1).symm, rfl⟩
    · obtain ⟨e', h1, h2⟩ := findT_eq h; exact ⟨e', by simp [h1], h2⟩
theorem sle_bytes (p q : ByteArray) : sle (bl p) (bl q) = (Op.bytesLess p.data.toList q.data.toList || p.data.toList == q.data.toList) := by
  letI : Tok := tokL []
  unfold sle bl; rw [sless_eq, seq_bytes]
@[reducible] noncomputable def tokS (sp : Int) (a b : ByteArray) (o : SO) (ho : SOk a b o) : Tok where
  val := sval sp a b
  one := fun k => by unfold sval; split <;> (try rfl); split <;> (try rfl); split <;> (try rfl); split <;> rfl
  nb := fun k b => by unfold sval; split <;> (try (intro h; cases h)); split <;> (try (intro h; cases h)); split <;> (try (intro h; cases h)); split <;> (intro h; cases h)
  two := stwo o
  len := fun k => ifb (Nat.beq k 1) (some (.tok 3)) (ifb (Nat.beq k 2) (some (.tok 4)) none)
  len_ok := fun k v h => by
    rcases ifb_or h with ⟨h1, h⟩ | ⟨_, h⟩
    · rw [Nat.beq_eq] at h1; subst h1; cases h; exact ⟨a, rfl, .tok 3⟩
    · rw [ifb_eq, Nat.beq_eq] at h
      obtain ⟨rfl, h⟩ := h
      cases h; exact ⟨b, rfl, .tok 4⟩
  two_ok := fun P op t x y u v r u' v' w h hu hv => by
    letI : Tok := tokL []
    unfold stwo at h
    split at h
    · rename_i l k
      cases hu with | s s => ?_
      rcases ifb_or h with ⟨h1, h⟩ | ⟨_, h⟩
      · rw [Nat.beq_eq] at h1; subst h1
        obtain ⟨e, he, h2, rfl⟩ := findT_eq h
        cases hv
        refine ⟨_, .b e.2, ?_⟩
        rw [← ho.pa e he, h2]
        exact (by rw [show s.data.toList.map UInt8.toNat = bl s from rfl, sle_bytes]; exact bin_leqs)
      · rw [ifb_eq, Nat.beq_eq] at h
        obtain ⟨rfl, h⟩ := h
        obtain ⟨e, he, h2, rfl⟩ := findT_eq h
        cases hv
        refine ⟨_, .b e.2, ?_⟩
        rw [← ho.pb e he, h2]
        exact (by rw [show s.data.toList.map UInt8.toNat = bl s from rfl, sle_bytes]; exact bin_leqs)
    · rename_i j x'
      rw [ifb_eq, eqI_eq, decide_eq_true_eq] at h
      obtain ⟨rfl, h⟩ := h
      cases hv
      rcases ifb_or h with ⟨h1, h⟩ | ⟨_, h⟩
      · rw [Nat.beq_eq] at h1; subst h1
        cases h; cases hu
        exact ⟨_, .b _, by rw [ho.la]; exact bin_gtr⟩
      · rw [ifb_eq, Nat.beq_eq] at h
        obtain ⟨rfl, h⟩ := h
        cases h; cases hu
        exact ⟨_, .b _, by rw [ho.lb]; exact bin_gtr⟩
    · rename_i j k
      rw [ifb_eq, Bool.and_eq_true, Nat.beq_eq, Nat.beq_eq] at h
      obtain ⟨⟨rfl, rfl⟩, h⟩ := h
      cases h; cases hu; cases hv
      exact ⟨_, .b _, by rw [ho.gt, sle_bytes]; exact bin_gtrs⟩
    · rename_i j k
      rw [ifb_eq, Bool.and_eq_true, Nat.beq_eq, Nat.beq_eq] at h
      obtain ⟨⟨rfl, rfl⟩, h⟩ := h
      cases h; cases hu; cases hv
      exact ⟨_, .b _, by rw [ho.lt]; exact (by unfold bl; rw [sless_eq]; exact bin_lsss)⟩
    · cases h
end Go.Av


open Go Go.Av Go.Proofs
set_option maxRecDepth 1000000
namespace Go.Av
section
variable (sp : Int) (a b : ByteArray)
theorem ch_0_0_0_lt (ho : SOk a b ⟨[], [], false, false, false, true⟩) : letI := tokS sp a b _ ho; isTr (call Tryz.prog (fsG [⟨0, 5, .i .i64 0⟩]) 100000 7 [.tok 0, .tok 1, .tok 2] (hG Tryz.prog GG)) = true := by kernel_rfl
theorem ch_0_0_0_gt (ho : SOk a b ⟨[], [], false, false, true, false⟩) : letI := tokS sp a b _ ho; isTr (call Tryz.prog (fsG [⟨0, 5, .i .i64 0⟩]) 100000 7 [.tok 0, .tok 1, .tok 2] (hG Tryz.prog GG)) = true := by kernel_rfl
theorem ch_0_0_0_eq (ho : SOk a b ⟨[], [], false, false, false, false⟩) : letI := tokS sp a b _ ho; isTr (call Tryz.prog (fsG [⟨0, 5, .i .i64 0⟩]) 100000 7 [.tok 0, .tok 1, .tok 2] (hG Tryz.prog GG)) = true := by kernel_rfl
theorem ch_1_0_0_lt (ho : SOk a b ⟨[([114], false)], [([114], false)], false, false, false, true⟩) : letI := tokS sp a b _ ho; isTr (call Tryz.prog (fsG [⟨0, 5, .i .i64 1⟩]) 100000 7 [.tok 0, .tok 1, .tok 2] (hG Tryz.prog GG)) = true := by kernel_rfl
theorem ch_1_0_0_gt (ho : SOk a b ⟨[([114], false)], [([114], false)], false, false, true, false⟩) : letI := tokS sp a b _ ho; isTr (call Tryz.prog (fsG [⟨0, 5, .i .i64 1⟩]) 100000 7 [.tok 0, .tok 1, .tok 2] (hG Tryz.prog GG)) = true := by kernel_rfl
theorem ch_1_0_0_eq (ho : SOk a b ⟨[([114], false)], [([114], false)], false, false, false, false⟩) : letI := tokS sp a b _ ho; isTr (call Tryz.prog (fsG [⟨0, 5, .i .i64 1⟩]) 100000 7 [.tok 0, .tok 1, .tok 2] (hG Tryz.prog GG)) = true := by kernel_rfl
theorem ch_1_0_1_lt (ho : SOk a b ⟨[([114], false)], [([114], true)], false, false, false, true⟩) : letI := tokS sp a b _ ho; isTr (call Tryz.prog (fsG [⟨0, 5, .i .i64 1⟩]) 100000 7 [.tok 0, .tok 1, .tok 2] (hG Tryz.prog GG)) = true := by kernel_rfl
theorem ch_1_1_0_gt (ho : SOk a b ⟨[([114], true)], [([114], false)], false, false, true, false⟩) : letI := tokS sp a b _ ho; isTr (call Tryz.prog (fsG [⟨0, 5, .i .i64 1⟩]) 100000 7 [.tok 0, .tok 1, .tok 2] (hG Tryz.prog GG)) = true := by kernel_rfl
theorem ch_1_1_1_lt (ho : SOk a b ⟨[([114], true)], [([114], true)], false, false, false, true⟩) : letI := tokS sp a b _ ho; isTr (call Tryz.prog (fsG [⟨0, 5, .i .i64 1⟩]) 100000 7 [.tok 0, .tok 1, .tok 2] (hG Tryz.prog GG)) = true := by kernel_rfl
theorem ch_1_1_1_gt (ho : SOk a b ⟨[([114], true)], [([114], true)], false, false, true, false⟩) : letI := tokS sp a b _ ho; isTr (call Tryz.prog (fsG [⟨0, 5, .i .i64 1⟩]) 100000 7 [.tok 0, .tok 1, .tok 2] (hG Tryz.prog GG)) = true := by kernel_rfl
theorem ch_1_1_1_eq (ho : SOk a b ⟨[([114], true)], [([114], true)], false, false, false, false⟩) : letI := tokS sp a b _ ho; isTr (call Tryz.prog (fsG [⟨0, 5, .i .i64 1⟩]) 100000 7 [.tok 0, .tok 1, .tok 2] (hG Tryz.prog GG)) = true := by kernel_rfl
theorem ch_2_0_0_lt (ho : SOk a b ⟨[([99, 98], false), ([114, 98], false)], [([99, 98], false), ([114, 98], false)], false, false, false, true⟩) : letI := tokS sp a b _ ho; isTr (call Tryz.prog (fsG [⟨0, 5, .i .i64 2⟩]) 100000 7 [.tok 0, .tok 1, .tok 2] (hG Tryz.prog GG)) = true := by kernel_rfl
theorem ch_2_0_0_gt (ho : SOk a b ⟨[([99, 98], false), ([114, 98], false)], [([99, 98], false), ([114, 98], false)], false, false, true, false⟩) : letI := tokS sp a b _ ho; isTr (call Tryz.prog (fsG [⟨0, 5, .i .i64 2⟩]) 100000 7 [.tok 0, .tok 1, .tok 2] (hG Tryz.prog GG)) = true := by kernel_rfl
theorem ch_2_0_0_eq (ho : SOk a b ⟨[([99, 98], false), ([114, 98], false)], [([99, 98], false), ([114, 98], false)], false, false, false, false⟩) : letI := tokS sp a b _ ho; isTr (call Tryz.prog (fsG [⟨0, 5, .i .i64 2⟩]) 100000 7 [.tok 0, .tok 1, .tok 2] (hG Tryz.prog GG)) = true := by kernel_rfl
theorem ch_2_0_1_lt (ho : SOk a b ⟨[([99, 98], false), ([114, 98], false)], [([99, 98], true), ([114, 98], false)], false, false, false, true⟩) : letI := tokS sp a b _ ho; isTr (call Tryz.prog (fsG [⟨0, 5, .i .i64 2⟩]) 100000 7 [.tok 0, .tok 1, .tok 2] (hG Tryz.prog GG)) = true := by kernel_rfl
theorem ch_2_0_2_lt (ho : SOk a b ⟨[([99, 98], false), ([114, 98], false)], [([99, 98], true), ([114, 98], true)], false, false, false, true⟩) : letI := tokS sp a b _ ho; isTr (call Tryz.prog (fsG [⟨0, 5, .i .i64 2⟩]) 100000 7 [.tok 0, .tok 1, .tok 2] (hG Tryz.prog GG)) = true := by kernel_rfl
theorem ch_2_1_0_gt (ho : SOk a b ⟨[([99, 98], true), ([114, 98], false)], [([99, 98], false), ([114, 98], false)], false, false, true, false⟩) : letI := tokS sp a b _ ho; isTr (call Tryz.prog (fsG [⟨0, 5, .i .i64 2⟩]) 100000 7 [.tok 0, .tok 1, .tok 2] (hG Tryz.prog GG)) = true := by kernel_rfl
theorem ch_2_1_1_lt (ho : SOk a b ⟨[([99, 98], true), ([114, 98], false)], [([99, 98], true), ([114, 98], false)], false, false, false, true⟩) : letI := tokS sp a b _ ho; isTr (call Tryz.prog (fsG [⟨0, 5, .i .i64 2⟩]) 100000 7 [.tok 0, .tok 1, .tok 2] (hG Tryz.prog GG)) = true := by kernel_rfl
theorem ch_2_1_1_gt (ho : SOk a b ⟨[([99, 98], true), ([114, 98], false)], [([99, 98], true), ([114, 98], false)], false, false, true, false⟩) : letI := tokS sp a b _ ho; isTr (call Tryz.prog (fsG [⟨0, 5, .i .i64 2⟩]) 100000 7 [.tok 0, .tok 1, .tok 2] (hG Tryz.prog GG)) = true := by kernel_rfl
theorem ch_2_1_1_eq (ho : SOk a b ⟨[([99, 98], true), ([114, 98], false)], [([99, 98], true), ([114, 98], false)], false, false, false, false⟩) : letI := tokS sp a b _ ho; isTr (call Tryz.prog (fsG [⟨0, 5, .i .i64 2⟩]) 100000 7 [.tok 0, .tok 1, .tok 2] (hG Tryz.prog GG)) = true := by kernel_rfl
theorem ch_2_1_2_lt (ho : SOk a b ⟨[([99, 98], true), ([114, 98], false)], [([99, 98], true), ([114, 98], true)], false, false, false, true⟩) : letI := tokS sp a b _ ho; isTr (call Tryz.prog (fsG [⟨0, 5, .i .i64 2⟩]) 100000 7 [.tok 0, .tok 1, .tok 2] (hG Tryz.prog GG)) = true := by kernel_rfl
theorem ch_2_2_0_gt (ho : SOk a b ⟨[([99, 98], true), ([114, 98], true)], [([99, 98], false), ([114, 98], false)], false, false, true, false⟩) : letI := tokS sp a b _ ho; isTr (call Tryz.prog (fsG [⟨0, 5, .i .i64 2⟩]) 100000 7 [.tok 0, .tok 1, .tok 2] (hG Tryz.prog GG)) = true := by kernel_rfl
theorem ch_2_2_1_gt (ho : SOk a b ⟨[([99, 98], true), ([114, 98], true)], [([99, 98], true), ([114, 98], false)], false, false, true, false⟩) : letI := tokS sp a b _ ho; isTr (call Tryz.prog (fsG [⟨0, 5, .i .i64 2⟩]) 100000 7 [.tok 0, .tok 1, .tok 2] (hG Tryz.prog GG)) = true := by kernel_rfl
theorem ch_2_2_2_lt (ho : SOk a b ⟨[([99, 98], true), ([114, 98], true)], [([99, 98], true), ([114, 98], true)], false, false, false, true⟩) : letI := tokS sp a b _ ho; isTr (call Tryz.prog (fsG [⟨0, 5, .i .i64 2⟩]) 100000 7 [.tok 0, .tok 1, .tok 2] (hG Tryz.prog GG)) = true := by kernel_rfl
theorem ch_2_2_2_gt (ho : SOk a b ⟨[([99, 98], true), ([114, 98], true)], [([99, 98], true), ([114, 98], true)], false, false, true, false⟩) : letI := tokS sp a b _ ho; isTr (call Tryz.prog (fsG [⟨0, 5, .i .i64 2⟩]) 100000 7 [.tok 0, .tok 1, .tok 2] (hG Tryz.prog GG)) = true := by kernel_rfl
theorem ch_2_2_2_eq (ho : SOk a b ⟨[([99, 98], true), ([114, 98], true)], [([99, 98], true), ([114, 98], true)], false, false, false, false⟩) : letI := tokS sp a b _ ho; isTr (call Tryz.prog (fsG [⟨0, 5, .i .i64 2⟩]) 100000 7 [.tok 0, .tok 1, .tok 2] (hG Tryz.prog GG)) = true := by kernel_rfl
theorem ch_3_0_0_lt (ho : SOk a b ⟨[([99], false), ([114], false), ([114, 116, 98], false)], [([99], false), ([114], false), ([114, 116, 98], false)], false, false, false, true⟩) : letI := tokS sp a b _ ho; isTr (call Tryz.prog (fsG [⟨0, 5, .i .i64 3⟩]) 100000 7 [.tok 0, .tok 1, .tok 2] (hG Tryz.prog GG)) = true := by kernel_rfl
theorem ch_3_0_0_gt (ho : SOk a b ⟨[([99], false), ([114], false), ([114, 116, 98], false)], [([99], false), ([114], false), ([114, 116, 98], false)], false, false, true, false⟩) : letI := tokS sp a b _ ho; isTr (call Tryz.prog (fsG [⟨0, 5, .i .i64 3⟩]) 100000 7 [.tok 0, .tok 1, .tok 2] (hG Tryz.prog GG)) = true := by kernel_rfl
theorem ch_3_0_0_eq (ho : SOk a b ⟨[([99], false), ([114], false), ([114, 116, 98], false)], [([99], false), ([114], false), ([114, 116, 98], false)], false, false, false, false⟩) : letI := tokS sp a b _ ho; isTr (call Tryz.prog (fsG [⟨0, 5, .i .i64 3⟩]) 100000 7 [.tok 0, .tok 1, .tok 2] (hG Tryz.prog GG)) = true := by kernel_rfl
theorem ch_3_0_1_lt (ho : SOk a b ⟨[([99], false), ([114], false), ([114, 116, 98], false)], [([99], true), ([114], false), ([114, 116, 98], false)], false, false, false, true⟩) : letI := tokS sp a b _ ho; isTr (call Tryz.prog (fsG [⟨0, 5, .i .i64 3⟩]) 100000 7 [.tok 0, .tok 1, .tok 2] (hG Tryz.prog GG)) = true := by kernel_rfl
theorem ch_3_0_2_lt (ho : SOk a b ⟨[([99], false), ([114], false), ([114, 116, 98], false)], [([99], true), ([114], true), ([114, 116, 98], false)], false, false, false, true⟩) : letI := tokS sp a b _ ho; isTr (call Tryz.prog (fsG [⟨0, 5, .i .i64 3⟩]) 100000 7 [.tok 0, .tok 1, .tok 2] (hG Tryz.prog GG)) = true := by kernel_rfl
theorem ch_3_0_3_lt (ho : SOk a b ⟨[([99], false), ([114], false), ([114, 116, 98], false)], [([99], true), ([114], true), ([114, 116, 98], true)], false, false, false, true⟩) : letI := tokS sp a b _ ho; isTr (call Tryz.prog (fsG [⟨0, 5, .i .i64 3⟩]) 100000 7 [.tok 0, .tok 1, .tok 2] (hG Tryz.prog GG)) = true := by kernel_rfl
theorem ch_3_1_0_gt (ho : SOk a b ⟨[([99], true), ([114], false), ([114, 116, 98], false)], [([99], false), ([114], false), ([114, 116, 98], false)], false, false, true, false⟩) : letI := tokS sp a b _ ho; isTr (call Tryz.prog (fsG [⟨0, 5, .i .i64 3⟩]) 100000 7 [.tok 0, .tok 1, .tok 2] (hG Tryz.prog GG)) = true := by kernel_rfl
theorem ch_3_1_1_lt (ho : SOk a b ⟨[([99], true), ([114], false), ([114, 116, 98], false)], [([99], true), ([114], false), ([114, 116, 98], false)], false, false, false, true⟩) : letI := tokS sp a b _ ho; isTr (call Tryz.prog (fsG [⟨0, 5, .i .i64 3⟩]) 100000 7 [.tok 0, .tok 1, .tok 2] (hG Tryz.prog GG)) = true := by kernel_rfl
theorem ch_3_1_1_gt (ho : SOk a b ⟨[([99], true), ([114], false), ([114, 116, 98], false)], [([99], true), ([114], false), ([114, 116, 98], false)], false, false, true, false⟩) : letI := tokS sp a b _ ho; isTr (call Tryz.prog (fsG [⟨0, 5, .i .i64 3⟩]) 100000 7 [.tok 0, .tok 1, .tok 2] (hG Tryz.prog GG)) = true := by kernel_rfl
theorem ch_3_1_1_eq (ho : SOk a b ⟨[([99], true), ([114], false), ([114, 116, 98], false)], [([99], true), ([114], false), ([114, 116, 98], false)], false, false, false, false⟩) : letI := tokS sp a b _ ho; isTr (call Tryz.prog (fsG [⟨0, 5, .i .i64 3⟩]) 100000 7 [.tok 0, .tok 1, .tok 2] (hG Tryz.prog GG)) = true := by kernel_rfl
theorem ch_3_1_2_lt (ho : SOk a b ⟨[([99], true), ([114], false), ([114, 116, 98], false)], [([99], true), ([114], true), ([114, 116, 98], false)], false, false, false, true⟩) : letI := tokS sp a b _ ho; isTr (call Tryz.prog (fsG [⟨0, 5, .i .i64 3⟩]) 100000 7 [.tok 0, .tok 1, .tok 2] (hG Tryz.prog GG)) = true := by kernel_rfl
theorem ch_3_1_3_lt (ho : SOk a b ⟨[([99], true), ([114], false), ([114, 116, 98], false)], [([99], true), ([114], true), ([114, 116, 98], true)], false, false, false, true⟩) : letI := tokS sp a b _ ho; isTr (call Tryz.prog (fsG [⟨0, 5, .i .i64 3⟩]) 100000 7 [.tok 0, .tok 1, .tok 2] (hG Tryz.prog GG)) = true := by kernel_rfl
theorem ch_3_2_0_gt (ho : SOk a b ⟨[([99], true), ([114], true), ([114, 116, 98], false)], [([99], false), ([114], false), ([114, 116, 98], false)], false, false, true, false⟩) : letI := tokS sp a b _ ho; isTr (call Tryz.prog (fsG [⟨0, 5, .i .i64 3⟩]) 100000 7 [.tok 0, .tok 1, .tok 2] (hG Tryz.prog GG)) = true := by kernel_rfl
theorem ch_3_2_1_gt (ho : SOk a b ⟨[([99], true), ([114], true), ([114, 116, 98], false)], [([99], true), ([114], false), ([114, 116, 98], false)], false, false, true, false⟩) : letI := tokS sp a b _ ho; isTr (call Tryz.prog (fsG [⟨0, 5, .i .i64 3⟩]) 100000 7 [.tok 0, .tok 1, .tok 2] (hG Tryz.prog GG)) = true := by kernel_rfl
theorem ch_3_2_2_lt (ho : SOk a b ⟨[([99], true), ([114], true), ([114, 116, 98], false)], [([99], true), ([114], true), ([114, 116, 98], false)], false, false, false, true⟩) : letI := tokS sp a b _ ho; isTr (call Tryz.prog (fsG [⟨0, 5, .i .i64 3⟩]) 100000 7 [.tok 0, .tok 1, .tok 2] (hG Tryz.prog GG)) = true := by kernel_rfl
theorem ch_3_2_2_gt (ho : SOk a b ⟨[([99], true), ([114], true), ([114, 116, 98], false)], [([99], true), ([114], true), ([114, 116, 98], false)], false, false, true, false⟩) : letI := tokS sp a b _ ho; isTr (call Tryz.prog (fsG [⟨0, 5, .i .i64 3⟩]) 100000 7 [.tok 0, .tok 1, .tok 2] (hG Tryz.prog GG)) = true := by kernel_rfl
theorem ch_3_2_2_eq (ho : SOk a b ⟨[([99], true), ([114], true), ([114, 116, 98], false)], [([99], true), ([114], true), ([114, 116, 98], false)], false, false, false, false⟩) : letI := tokS sp a b _ ho; isTr (call Tryz.prog (fsG [⟨0, 5, .i .i64 3⟩]) 100000 7 [.tok 0, .tok 1, .tok 2] (hG Tryz.prog GG)) = true := by kernel_rfl
theorem ch_3_2_3_lt (ho : SOk a b ⟨[([99], true), ([114], true), ([114, 116, 98], false)], [([99], true), ([114], true), ([114, 116, 98], true)], false, false, false, true⟩) : letI := tokS sp a b _ ho; isTr (call Tryz.prog (fsG [⟨0, 5, .i .i64 3⟩]) 100000 7 [.tok 0, .tok 1, .tok 2] (hG Tryz.prog GG)) = true := by kernel_rfl
theorem ch_3_3_0_gt (ho : SOk a b ⟨[([99], true), ([114], true), ([114, 116, 98], true)], [([99], false), ([114], false), ([114, 116, 98], false)], false, false, true, false⟩) : letI := tokS sp a b _ ho; isTr (call Tryz.prog (fsG [⟨0, 5, .i .i64 3⟩]) 100000 7 [.tok 0, .tok 1, .tok 2] (hG Tryz.prog GG)) = true := by kernel_rfl
theorem ch_3_3_1_gt (ho : SOk a b ⟨[([99], true), ([114], true), ([114, 116, 98], true)], [([99], true), ([114], false), ([114, 116, 98], false)], false, false, true, false⟩) : letI := tokS sp a b _ ho; isTr (call Tryz.prog (fsG [⟨0, 5, .i .i64 3⟩]) 100000 7 [.tok 0, .tok 1, .tok 2] (hG Tryz.prog GG)) = true := by kernel_rfl
theorem ch_3_3_2_gt (ho : SOk a b ⟨[([99], true), ([114], true), ([114, 116, 98], true)], [([99], true), ([114], true), ([114, 116, 98], false)], false, false, true, false⟩) : letI := tokS sp a b _ ho; isTr (call Tryz.prog (fsG [⟨0, 5, .i .i64 3⟩]) 100000 7 [.tok 0, .tok 1, .tok 2] (hG Tryz.prog GG)) = true := by kernel_rfl
theorem ch_3_3_3_lt (ho : SOk a b ⟨[([99], true), ([114], true), ([114, 116, 98], true)], [([99], true), ([114], true), ([114, 116, 98], true)], false, false, false, true⟩) : letI := tokS sp a b _ ho; isTr (call Tryz.prog (fsG [⟨0, 5, .i .i64 3⟩]) 100000 7 [.tok 0, .tok 1, .tok 2] (hG Tryz.prog GG)) = true := by kernel_rfl
theorem ch_3_3_3_gt (ho : SOk a b ⟨[([99], true), ([114], true), ([114, 116, 98], true)], [([99], true), ([114], true), ([114, 116, 98], true)], false, false, true, false⟩) : letI := tokS sp a b _ ho; isTr (call Tryz.prog (fsG [⟨0, 5, .i .i64 3⟩]) 100000 7 [.tok 0, .tok 1, .tok 2] (hG Tryz.prog GG)) = true := by kernel_rfl
theorem ch_3_3_3_eq (ho : SOk a b ⟨[([99], true), ([114], true), ([114, 116, 98], true)], [([99], true), ([114], true), ([114, 116, 98], true)], false, false, false, false⟩) : letI := tokS sp a b _ ho; isTr (call Tryz.prog (fsG [⟨0, 5, .i .i64 3⟩]) 100000 7 [.tok 0, .tok 1, .tok 2] (hG Tryz.prog GG)) = true := by kernel_rfl
theorem ch_4_0_0_lt (ho : SOk a b ⟨[([114, 116, 97], false), ([114, 116, 98], false), ([114, 116, 99], false), ([115], false)], [([114, 116, 97], false), ([114, 116, 98], false), ([114, 116, 99], false), ([115], false)], false, false, false, true⟩) : letI := tokS sp a b _ ho; isTr (call Tryz.prog (fsG [⟨0, 5, .i .i64 4⟩]) 100000 7 [.tok 0, .tok 1, .tok 2] (hG Tryz.prog GG)) = true := by kernel_rfl
theorem ch_4_0_0_gt (ho : SOk a b ⟨[([114, 116, 97], false), ([114, 116, 98], false), ([114, 116, 99], false), ([115], false)], [([114, 116, 97], false), ([114, 116, 98], false), ([114, 116, 99], false), ([115], false)], false, false, true, false⟩) : letI := tokS sp a b _ ho; isTr (call Tryz.prog (fsG [⟨0, 5, .i .i64 4⟩]) 100000 7 [.tok 0, .tok 1, .tok 2] (hG Tryz.prog GG)) = true := by kernel_rfl
theorem ch_4_0_0_eq (ho : SOk a b ⟨[([114, 116, 97], false), ([114, 116, 98], false), ([114, 116, 99], false), ([115], false)], [([114, 116, 97], false), ([114, 116, 98], false), ([114, 116, 99], false), ([115], false)], false, false, false, false⟩) : letI := tokS sp a b _ ho; isTr (call Tryz.prog (fsG [⟨0, 5, .i .i64 4⟩]) 100000 7 [.tok 0, .tok 1, .tok 2] (hG Tryz.prog GG)) = true := by kernel_rfl
theorem ch_4_0_1_lt (ho : SOk a b ⟨[([114, 116, 97], false), ([114, 116, 98], false), ([114, 116, 99], false), ([115], false)], [([114, 116, 97], true), ([114, 116, 98], false), ([114, 116, 99], false), ([115], false)], false, false, false, true⟩) : letI := tokS sp a b _ ho; isTr (call Tryz.prog (fsG [⟨0, 5, .i .i64 4⟩]) 100000 7 [.tok 0, .tok 1, .tok 2] (hG Tryz.prog GG)) = true := by kernel_rfl
theorem ch_4_0_2_lt (ho : SOk a b ⟨[([114, 116, 97], false), ([114, 116, 98], false), ([114, 116, 99], false), ([115], false)], [([114, 116, 97], true), ([114, 116, 98], true), ([114, 116, 99], false), ([115], false)], false, false, false, true⟩) : letI := tokS sp a b _ ho; isTr (call Tryz.prog (fsG [⟨0, 5, .i .i64 4⟩]) 100000 7 [.tok 0, .tok 1, .tok 2] (hG Tryz.prog GG)) = true := by kernel_rfl
theorem ch_4_0_3_lt (ho : SOk a b ⟨[([114, 116, 97], false), ([114, 116, 98], false), ([114, 116, 99], false), ([115], false)], [([114, 116, 97], true), ([114, 116, 98], true), ([114, 116, 99], true), ([115], false)], false, false, false, true⟩) : letI := tokS sp a b _ ho; isTr (call Tryz.prog (fsG [⟨0, 5, .i .i64 4⟩]) 100000 7 [.tok 0, .tok 1, .tok 2] (hG Tryz.prog GG)) = true := by kernel_rfl
theorem ch_4_0_4_lt (ho : SOk a b ⟨[([114, 116, 97], false), ([114, 116, 98], false), ([114, 116, 99], false), ([115], false)], [([114, 116, 97], true), ([114, 116, 98], true), ([114, 116, 99], true), ([115], true)], false, false, false, true⟩) : letI := tokS sp a b _ ho; isTr (call Tryz.prog (fsG [⟨0, 5, .i .i64 4⟩]) 100000 7 [.tok 0, .tok 1, .tok 2] (hG Tryz.prog GG)) = true := by kernel_rfl
theorem ch_4_1_0_gt (ho : SOk a b ⟨[([114, 116, 97], true), ([114, 116, 98], false), ([114, 116, 99], false), ([115], false)], [([114, 116, 97], false), ([114, 116, 98], false), ([114, 116, 99], false), ([115], false)], false, false, true, false⟩) : letI := tokS sp a b _ ho; isTr (call Tryz.prog (fsG [⟨0, 5, .i .i64 4⟩]) 100000 7 [.tok 0, .tok 1, .tok 2] (hG Tryz.prog GG)) = true := by kernel_rfl
theorem ch_4_1_1_lt (ho : SOk a b ⟨[([114, 116, 97], true), ([114, 116, 98], false), ([114, 116, 99], false), ([115], false)], [([114, 116, 97], true), ([114, 116, 98], false), ([114, 116, 99], false), ([115], false)], false, false, false, true⟩) : letI := tokS sp a b _ ho; isTr (call Tryz.prog (fsG [⟨0, 5, .i .i64 4⟩]) 100000 7 [.tok 0, .tok 1, .tok 2] (hG Tryz.prog GG)) = true := by kernel_rfl
theorem ch_4_1_1_gt (ho : SOk a b ⟨[([114, 116, 97], true), ([114, 116, 98], false), ([114, 116, 99], false), ([115], false)], [([114, 116, 97], true), ([114, 116, 98], false), ([114, 116, 99], false), ([115], false)], false, false, true, false⟩) : letI := tokS sp a b _ ho; isTr (call Tryz.prog (fsG [⟨0, 5, .i .i64 4⟩]) 100000 7 [.tok 0, .tok 1, .tok 2] (hG Tryz.prog GG)) = true := by kernel_rfl
theorem ch_4_1_1_eq (ho : SOk a b ⟨[([114, 116, 97], true), ([114, 116, 98], false), ([114, 116, 99], false), ([115], false)], [([114, 116, 97], true), ([114, 116, 98], false), ([114, 116, 99], false), ([115], false)], false, false, false, false⟩) : letI := tokS sp a b _ ho; isTr (call Tryz.prog (fsG [⟨0, 5, .i .i64 4⟩]) 100000 7 [.tok 0, .tok 1, .tok 2] (hG Tryz.prog GG)) = true := by kernel_rfl
theorem ch_4_1_2_lt (ho : SOk a b ⟨[([114, 116, 97], true), ([114, 116, 98], false), ([114, 116, 99], false), ([115], false)], [([114, 116, 97], true), ([114, 116, 98], true), ([114, 116, 99], false), ([115], false)], false, false, false, true⟩) : letI := tokS sp a b _ ho; isTr (call Tryz.prog (fsG [⟨0, 5, .i .i64 4⟩]) 100000 7 [.tok 0, .tok 1, .tok 2] (hG Tryz.prog GG)) = true := by kernel_rfl
theorem ch_4_1_3_lt (ho : SOk a b ⟨[([114, 116, 97], true), ([114, 116, 98], false), ([114, 116, 99], false), ([115], false)], [([114, 116, 97], true), ([114, 116, 98], true), ([114, 116, 99], true), ([115], false)], false, false, false, true⟩) : letI := tokS sp a b _ ho; isTr (call Tryz.prog (fsG [⟨0, 5, .i .i64 4⟩]) 100000 7 [.tok 0, .tok 1, .tok 2] (hG Tryz.prog GG)) = true := by kernel_rfl
theorem ch_4_1_4_lt (ho : SOk a b ⟨[([114, 116, 97], true), ([114, 116, 98], false), ([114, 116, 99], false), ([115], false)], [([114, 116, 97], true), ([114, 116, 98], true), ([114, 116, 99], true), ([115], true)], false, false, false, true⟩) : letI := tokS sp a b _ ho; isTr (call Tryz.prog (fsG [⟨0, 5, .i .i64 4⟩]) 100000 7 [.tok 0, .tok 1, .tok 2] (hG Tryz.prog GG)) = true := by kernel_rfl
theorem ch_4_2_0_gt (ho : SOk a b ⟨[([114, 116, 97], true), ([114, 116, 98], true), ([114, 116, 99], false), ([115], false)], [([114, 116, 97], false), ([114, 116, 98], false), ([114, 116, 99], false), ([115], false)], false, false, true, false⟩) : letI := tokS sp a b _ ho; isTr (call Tryz.prog (fsG [⟨0, 5, .i .i64 4⟩]) 100000 7 [.tok 0, .tok 1, .tok 2] (hG Tryz.prog GG)) = true := by kernel_rfl
theorem ch_4_2_1_gt (ho : SOk a b ⟨[([114, 116, 97], true), ([114, 116, 98], true), ([114, 116, 99], false), ([115], false)], [([114, 116, 97], true), ([114, 116, 98], false), ([114, 116, 99], false), ([115], false)], false, false, true, false⟩) : letI := tokS sp a b _ ho; isTr (call Tryz.prog (fsG [⟨0, 5, .i .i64 4⟩]) 100000 7 [.tok 0, .tok 1, .tok 2] (hG Tryz.prog GG)) = true := by kernel_rfl
theorem ch_4_2_2_lt (ho : SOk a b ⟨[([114, 116, 97], true), ([114, 116, 98], true), ([114, 116, 99], false), ([115], false)], [([114, 116, 97], true), ([114, 116, 98], true), ([114, 116, 99], false), ([115], false)], false, false, false, true⟩) : letI := tokS sp a b _ ho; isTr (call Tryz.prog (fsG [⟨0, 5, .i .i64 4⟩]) 100000 7 [.tok 0, .tok 1, .tok 2] (hG Tryz.prog GG)) = true := by kernel_rfl
theorem ch_4_2_2_gt (ho : SOk a b ⟨[([114, 116, 97], true), ([114, 116, 98], true), ([114, 116, 99], false), ([115], false)], [([114, 116, 97], true), ([114, 116, 98], true), ([114, 116, 99], false), ([115], false)], false, false, true, false⟩) : letI := tokS sp a b _ ho; isTr (call Tryz.prog (fsG [⟨0, 5, .i .i64 4⟩]) 100000 7 [.tok 0, .tok 1, .tok 2] (hG Tryz.prog GG)) = true := by kernel_rfl
theorem ch_4_2_2_eq (ho : SOk a b ⟨[([114, 116, 97], true), ([114, 116, 98], true), ([114, 116, 99], false), ([115], false)], [([114, 116, 97], true), ([114, 116, 98], true), ([114, 116, 99], false), ([115], false)], false, false, false, false⟩) : letI := tokS sp a b _ ho; isTr (call Tryz.prog (fsG [⟨0, 5, .i .i64 4⟩]) 100000 7 [.tok 0, .tok 1, .tok 2] (hG Tryz.prog GG)) = true := by kernel_rfl
theorem ch_4_2_3_lt (ho : SOk a b ⟨[([114, 116, 97], true), ([114, 116, 98], true), ([114, 116, 99], false), ([115], false)], [([114, 116, 97], true), ([114, 116, 98], true), ([114, 116, 99], true), ([115], false)], false, false, false, true⟩) : letI := tokS sp a b _ ho; isTr (call Tryz.prog (fsG [⟨0, 5, .i .i64 4⟩]) 100000 7 [.tok 0, .tok 1, .tok 2] (hG Tryz.prog GG)) = true := by kernel_rfl
theorem ch_4_2_4_lt (ho : SOk a b ⟨[([114, 116, 97], true), ([114, 116, 98], true), ([114, 116, 99], false), ([115], false)], [([114, 116, 97], true), ([114, 116, 98], true), ([114, 116, 99], true), ([115], true)], false, false, false, true⟩) : letI := tokS sp a b _ ho; isTr (call Tryz.prog (fsG [⟨0, 5, .i .i64 4⟩]) 100000 7 [.tok 0, .tok 1, .tok 2] (hG Tryz.prog GG)) = true := by kernel_rfl
theorem ch_4_3_0_gt (ho : SOk a b ⟨[([114, 116, 97], true), ([114, 116, 98], true), ([114, 116, 99], true), ([115], false)], [([114, 116, 97], false), ([114, 116, 98], false), ([114, 116, 99], false), ([115], false)], false, false, true, false⟩) : letI := tokS sp a b _ ho; isTr (call Tryz.prog (fsG [⟨0, 5, .i .i64 4⟩]) 100000 7 [.tok 0, .tok 1, .tok 2] (hG Tryz.prog GG)) = true := by kernel_rfl
theorem ch_4_3_1_gt (ho : SOk a b ⟨[([114, 116, 97], true), ([114, 116, 98], true), ([114, 116, 99], true), ([115], false)], [([114, 116, 97], true), ([114, 116, 98], false), ([114, 116, 99], false), ([115], false)], false, false, true, false⟩) : letI := tokS sp a b _ ho; isTr (call Tryz.prog (fsG [⟨0, 5, .i .i64 4⟩]) 100000 7 [.tok 0, .tok 1, .tok 2] (hG Tryz.prog GG)) = true := by kernel_rfl
theorem ch_4_3_2_gt (ho : SOk a b ⟨[([114, 116, 97], true), ([114, 116, 98], true), ([114, 116, 99], true), ([115], false)], [([114, 116, 97], true), ([114, 116, 98], true), ([114, 116, 99], false), ([115], false)], false, false, true, false⟩) : letI := tokS sp a b _ ho; isTr (call Tryz.prog (fsG [⟨0, 5, .i .i64 4⟩]) 100000 7 [.tok 0, .tok 1, .tok 2] (hG Tryz.prog GG)) = true := by kernel_rfl
theorem ch_4_3_3_lt (ho : SOk a b ⟨[([114, 116, 97], true), ([114, 116, 98], true), ([114, 116, 99], true), ([115], false)], [([114, 116, 97], true), ([114, 116, 98], true), ([114, 116, 99], true), ([115], false)], false, false, false, true⟩) : letI := tokS sp a b _ ho; isTr (call Tryz.prog (fsG [⟨0, 5, .i .i64 4⟩]) 100000 7 [.tok 0, .tok 1, .tok 2] (hG Tryz.prog GG)) = true := by kernel_rfl
theorem ch_4_3_3_gt (ho : SOk a b ⟨[([114, 116, 97], true), ([114, 116, 98], true), ([114, 116, 99], true), ([115], false)], [([114, 116, 97], true), ([114, 116, 98], true), ([114, 116, 99], true), ([115], false)], false, false, true, false⟩) : letI := tokS sp a b _ ho; isTr (call Tryz.prog (fsG [⟨0, 5, .i .i64 4⟩]) 100000 7 [.tok 0, .tok 1, .tok 2] (hG Tryz.prog GG)) = true := by kernel_rfl
theorem ch_4_3_3_eq (ho : SOk a b ⟨[([114, 116, 97], true), ([114, 116, 98], true), ([114, 116, 99], true), ([115], false)], [([114, 116, 97], true), ([114, 116, 98], true), ([114, 116, 99], true), ([115], false)], false, false, false, false⟩) : letI := tokS sp a b _ ho; isTr (call Tryz.prog (fsG [⟨0, 5, .i .i64 4⟩]) 100000 7 [.tok 0, .tok 1, .tok 2] (hG Tryz.prog GG)) = true := by kernel_rfl
theorem ch_4_3_4_lt (ho : SOk a b ⟨[([114, 116, 97], true), ([114, 116, 98], true), ([114, 116, 99], true), ([115], false)], [([114, 116, 97], true), ([114, 116, 98], true), ([114, 116, 99], true), ([115], true)], false, false, false, true⟩) : letI := tokS sp a b _ ho; isTr (call Tryz.prog (fsG [⟨0, 5, .i .i64 4⟩]) 100000 7 [.tok 0, .tok 1, .tok 2] (hG Tryz.prog GG)) = true := by kernel_rfl
theorem ch_4_4_0_gt (ho : SOk a b ⟨[([114, 116, 97], true), ([114, 116, 98], true), ([114, 116, 99], true), ([115], true)], [([114, 116, 97], false), ([114, 116, 98], false), ([114, 116, 99], false), ([115], false)], false, false, true, false⟩) : letI := tokS sp a b _ ho; isTr (call Tryz.prog (fsG [⟨0, 5, .i .i64 4⟩]) 100000 7 [.tok 0, .tok 1, .tok 2] (hG Tryz.prog GG)) = true := by kernel_rfl
theorem ch_4_4_1_gt (ho : SOk a b ⟨[([114, 116, 97], true), ([114, 116, 98], true), ([114, 116, 99], true), ([115], true)], [([114, 116, 97], true), ([114, 116, 98], false), ([114, 116, 99], false), ([115], false)], false, false, true, false⟩) : letI := tokS sp a b _ ho; isTr (call Tryz.prog (fsG [⟨0, 5, .i .i64 4⟩]) 100000 7 [.tok 0, .tok 1, .tok 2] (hG Tryz.prog GG)) = true := by kernel_rfl
theorem ch_4_4_2_gt (ho : SOk a b ⟨[([114, 116, 97], true), ([114, 116, 98], true), ([114, 116, 99], true), ([115], true)], [([114, 116, 97], true), ([114, 116, 98], true), ([114, 116, 99], false), ([115], false)], false, false, true, false⟩) : letI := tokS sp a b _ ho; isTr (call Tryz.prog (fsG [⟨0, 5, .i .i64 4⟩]) 100000 7 [.tok 0, .tok 1, .tok 2] (hG Tryz.prog GG)) = true := by kernel_rfl
theorem ch_4_4_3_gt (ho : SOk a b ⟨[([114, 116, 97], true), ([114, 116, 98], true), ([114, 116, 99], true), ([115], true)], [([114, 116, 97], true), ([114, 116, 98], true), ([114, 116, 99], true), ([115], false)], false, false, true, false⟩) : letI := tokS sp a b _ ho; isTr (call Tryz.prog (fsG [⟨0, 5, .i .i64 4⟩]) 100000 7 [.tok 0, .tok 1, .tok 2] (hG Tryz.prog GG)) = true := by kernel_rfl
theorem ch_4_4_4_lt (ho : SOk a b ⟨[([114, 116, 97], true), ([114, 116, 98], true), ([114, 116, 99], true), ([115], true)], [([114, 116, 97], true), ([114, 116, 98], true), ([114, 116, 99], true), ([115], true)], false, false, false, true⟩) : letI := tokS sp a b _ ho; isTr (call Tryz.prog (fsG [⟨0, 5, .i .i64 4⟩]) 100000 7 [.tok 0, .tok 1, .tok 2] (hG Tryz.prog GG)) = true := by kernel_rfl
theorem ch_4_4_4_gt (ho : SOk a b ⟨[([114, 116, 97], true), ([114, 116, 98], true), ([114, 116, 99], true), ([115], true)], [([114, 116, 97], true), ([114, 116, 98], true), ([114, 116, 99], true), ([115], true)], false, false, true, false⟩) : letI := tokS sp a b _ ho; isTr (call Tryz.prog (fsG [⟨0, 5, .i .i64 4⟩]) 100000 7 [.tok 0, .tok 1, .tok 2] (hG Tryz.prog GG)) = true := by kernel_rfl
theorem ch_4_4_4_eq (ho : SOk a b ⟨[([114, 116, 97], true), ([114, 116, 98], true), ([114, 116, 99], true), ([115], true)], [([114, 116, 97], true), ([114, 116, 98], true), ([114, 116, 99], true), ([115], true)], false, false, false, false⟩) : letI := tokS sp a b _ ho; isTr (call Tryz.prog (fsG [⟨0, 5, .i .i64 4⟩]) 100000 7 [.tok 0, .tok 1, .tok 2] (hG Tryz.prog GG)) = true := by kernel_rfl
theorem ch_ltt (g l : Bool) (ho : SOk a b ⟨[], [], true, true, g, l⟩) : letI := tokS sp a b _ ho; isTr (call Tryz.prog (fsG []) 100000 7 [.tok 0, .tok 1, .tok 2] (hG Tryz.prog GG)) = true := by kernel_rfl
theorem ch_ltf (g l : Bool) (ho : SOk a b ⟨[], [], true, false, g, l⟩) : letI := tokS sp a b _ ho; isTr (call Tryz.prog (fsG []) 100000 7 [.tok 0, .tok 1, .tok 2] (hG Tryz.prog GG)) = true := by kernel_rfl
theorem ch_lft (g l : Bool) (ho : SOk a b ⟨[], [], false, true, g, l⟩) : letI := tokS sp a b _ ho; isTr (call Tryz.prog (fsG []) 100000 7 [.tok 0, .tok 1, .tok 2] (hG Tryz.prog GG)) = true := by kernel_rfl
end
end Go.Av
