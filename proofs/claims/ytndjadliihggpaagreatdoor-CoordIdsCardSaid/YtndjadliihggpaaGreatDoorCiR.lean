/- A part of the proof: what a machine of our own over the model's code answers is what the model does; no condition. -/
import Derived.Test.YtndjadliihggpaaGreatDoorCoB
set_option linter.all false
open Go Go.Av Go.Proofs
set_option maxRecDepth 1000000
namespace Go.Av
section
variable (no other sp A B : Int) (hA : 0 ≤ A ∧ A < 1000) (hB : 0 ≤ B ∧ B < 1000)
theorem ci_0t (hne : true = true → A ≠ B) : letI := tokF no other sp A B true hA hB hne; isTr (call Tryz.prog (fsG [⟨0, 999, tA⟩, ⟨1, 999, tB⟩, ⟨2, 5, .i .i64 0⟩]) 100000 8 [.tok 0, .tok 1, .tok 2] (hG Tryz.prog GG)) = true := by kernel_rfl
theorem ci_0f (hne : false = true → A ≠ B) : letI := tokF no other sp A B false hA hB hne; isTr (call Tryz.prog (fsG [⟨0, 999, tA⟩, ⟨1, 999, tA⟩, ⟨2, 5, .i .i64 0⟩]) 100000 8 [.tok 0, .tok 1, .tok 2] (hG Tryz.prog GG)) = true := by kernel_rfl
theorem ci_1t (hne : true = true → A ≠ B) : letI := tokF no other sp A B true hA hB hne; isTr (call Tryz.prog (fsG [⟨0, 999, tA⟩, ⟨1, 999, tB⟩, ⟨2, 5, .i .i64 1⟩]) 100000 8 [.tok 0, .tok 1, .tok 2] (hG Tryz.prog GG)) = true := by kernel_rfl
theorem ci_1f (hne : false = true → A ≠ B) : letI := tokF no other sp A B false hA hB hne; isTr (call Tryz.prog (fsG [⟨0, 999, tA⟩, ⟨1, 999, tA⟩, ⟨2, 5, .i .i64 1⟩]) 100000 8 [.tok 0, .tok 1, .tok 2] (hG Tryz.prog GG)) = true := by kernel_rfl
theorem ci_2t (hne : true = true → A ≠ B) : letI := tokF no other sp A B true hA hB hne; isTr (call Tryz.prog (fsG [⟨0, 999, tA⟩, ⟨1, 999, tB⟩, ⟨2, 5, .i .i64 2⟩]) 100000 8 [.tok 0, .tok 1, .tok 2] (hG Tryz.prog GG)) = true := by kernel_rfl
theorem ci_2f (hne : false = true → A ≠ B) : letI := tokF no other sp A B false hA hB hne; isTr (call Tryz.prog (fsG [⟨0, 999, tA⟩, ⟨1, 999, tA⟩, ⟨2, 5, .i .i64 2⟩]) 100000 8 [.tok 0, .tok 1, .tok 2] (hG Tryz.prog GG)) = true := by kernel_rfl
theorem ci_3t (hne : true = true → A ≠ B) : letI := tokF no other sp A B true hA hB hne; isTr (call Tryz.prog (fsG [⟨0, 999, tA⟩, ⟨1, 999, tB⟩, ⟨2, 5, .i .i64 3⟩]) 100000 8 [.tok 0, .tok 1, .tok 2] (hG Tryz.prog GG)) = true := by kernel_rfl
theorem ci_3f (hne : false = true → A ≠ B) : letI := tokF no other sp A B false hA hB hne; isTr (call Tryz.prog (fsG [⟨0, 999, tA⟩, ⟨1, 999, tA⟩, ⟨2, 5, .i .i64 3⟩]) 100000 8 [.tok 0, .tok 1, .tok 2] (hG Tryz.prog GG)) = true := by kernel_rfl
theorem ci_4t (hne : true = true → A ≠ B) : letI := tokF no other sp A B true hA hB hne; isTr (call Tryz.prog (fsG [⟨0, 999, tA⟩, ⟨1, 999, tB⟩, ⟨2, 5, .i .i64 4⟩]) 100000 8 [.tok 0, .tok 1, .tok 2] (hG Tryz.prog GG)) = true := by kernel_rfl
theorem ci_4f (hne : false = true → A ≠ B) : letI := tokF no other sp A B false hA hB hne; isTr (call Tryz.prog (fsG [⟨0, 999, tA⟩, ⟨1, 999, tA⟩, ⟨2, 5, .i .i64 4⟩]) 100000 8 [.tok 0, .tok 1, .tok 2] (hG Tryz.prog GG)) = true := by kernel_rfl
end
end Go.Av
