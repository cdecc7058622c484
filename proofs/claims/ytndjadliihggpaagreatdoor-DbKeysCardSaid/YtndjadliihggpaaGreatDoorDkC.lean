/- A part of the proof: what a machine of our own over the model's code answers is what the model does; no condition. -/
import Derived.Test.YtndjadliihggpaaGreatDoorDnA
import Derived.Test.YtndjadliihggpaaGreatDoorDnB
import Derived.Test.YtndjadliihggpaaGreatDoorDnC
import Derived.Test.YtndjadliihggpaaGreatDoorDnD
import Derived.Test.YtndjadliihggpaaGreatDoorDnE
import Derived.Test.YtndjadliihggpaaGreatDoorDnF
import Derived.Test.YtndjadliihggpaaGreatDoorDnG
import Derived.Test.YtndjadliihggpaaGreatDoorDnH
import Derived.Test.YtndjadliihggpaaGreatDoorDnI
import Derived.Test.YtndjadliihggpaaGreatDoorDnJ
import Derived.Test.YtndjadliihggpaaGreatDoorDnK
import Derived.Test.YtndjadliihggpaaGreatDoorDnL
import Derived.Test.YtndjadliihggpaaGreatDoorDnM
set_option linter.all false
open Go Go.Av Go.Proofs
set_option maxRecDepth 1000000
set_option linter.all false
namespace Go.Av
theorem ck_0 (K : Nat → Int) (hK : Rise 0 K) : ∀ e ∈ allE 0, okE 0 K hK e = true := by
  have q : allE 0 = ((allE 0).drop 0).take 8 := by rfl
  intro e he
  rw [q] at he
  exact allAnd (ck_0_0 K hK) e he
theorem ck_1 (K : Nat → Int) (hK : Rise 1 K) : ∀ e ∈ allE 1, okE 1 K hK e = true := by
  have q : allE 1 = ((allE 1).drop 0).take 8 := by rfl
  intro e he
  rw [q] at he
  exact allAnd (ck_1_0 K hK) e he
theorem ck_2 (K : Nat → Int) (hK : Rise 2 K) : ∀ e ∈ allE 2, okE 2 K hK e = true := by
  have q : allE 2 = ((allE 2).drop 0).take 8 := by rfl
  intro e he
  rw [q] at he
  exact allAnd (ck_2_0 K hK) e he
theorem ck_3 (K : Nat → Int) (hK : Rise 3 K) : ∀ e ∈ allE 3, okE 3 K hK e = true := by
  have q : allE 3 = ((allE 3).drop 0).take 8 := by rfl
  intro e he
  rw [q] at he
  exact allAnd (ck_3_0 K hK) e he
theorem ck_4 (K : Nat → Int) (hK : Rise 4 K) : ∀ e ∈ allE 4, okE 4 K hK e = true := by
  have q : allE 4 = ((allE 4).drop 0).take 8 ++ ((allE 4).drop 8).take 8 := by rfl
  intro e he
  rw [q] at he
  simp only [List.mem_append] at he
  rcases he with h | h
  · exact allAnd (ck_4_0 K hK) e h
  · exact allAnd (ck_4_8 K hK) e h
theorem ck_5 (K : Nat → Int) (hK : Rise 5 K) : ∀ e ∈ allE 5, okE 5 K hK e = true := by
  have q : allE 5 = ((allE 5).drop 0).take 8 ++ ((allE 5).drop 8).take 8 := by rfl
  intro e he
  rw [q] at he
  simp only [List.mem_append] at he
  rcases he with h | h
  · exact allAnd (ck_5_0 K hK) e h
  · exact allAnd (ck_5_8 K hK) e h
theorem ck_6 (K : Nat → Int) (hK : Rise 6 K) : ∀ e ∈ allE 6, okE 6 K hK e = true := by
  have q : allE 6 = ((allE 6).drop 0).take 8 ++ ((allE 6).drop 8).take 8 := by rfl
  intro e he
  rw [q] at he
  simp only [List.mem_append] at he
  rcases he with h | h
  · exact allAnd (ck_6_0 K hK) e h
  · exact allAnd (ck_6_8 K hK) e h
theorem ck_7 (K : Nat → Int) (hK : Rise 7 K) : ∀ e ∈ allE 7, okE 7 K hK e = true := by
  have q : allE 7 = ((allE 7).drop 0).take 8 ++ ((allE 7).drop 8).take 8 := by rfl
  intro e he
  rw [q] at he
  simp only [List.mem_append] at he
  rcases he with h | h
  · exact allAnd (ck_7_0 K hK) e h
  · exact allAnd (ck_7_8 K hK) e h
theorem ck_8 (K : Nat → Int) (hK : Rise 8 K) : ∀ e ∈ allE 8, okE 8 K hK e = true := by
  have q : allE 8 = ((allE 8).drop 0).take 8 ++ ((allE 8).drop 8).take 8 ++ ((allE 8).drop 16).take 8 := by rfl
  intro e he
  rw [q] at he
  simp only [List.mem_append] at he
  rcases he with (h | h) | h
  · exact allAnd (ck_8_0 K hK) e h
  · exact allAnd (ck_8_8 K hK) e h
  · exact allAnd (ck_8_16 K hK) e h
theorem ck_9 (K : Nat → Int) (hK : Rise 9 K) : ∀ e ∈ allE 9, okE 9 K hK e = true := by
  have q : allE 9 = ((allE 9).drop 0).take 8 ++ ((allE 9).drop 8).take 8 ++ ((allE 9).drop 16).take 8 := by rfl
  intro e he
  rw [q] at he
  simp only [List.mem_append] at he
  rcases he with (h | h) | h
  · exact allAnd (ck_9_0 K hK) e h
  · exact allAnd (ck_9_8 K hK) e h
  · exact allAnd (ck_9_16 K hK) e h
theorem ck_10 (K : Nat → Int) (hK : Rise 10 K) : ∀ e ∈ allE 10, okE 10 K hK e = true := by
  have q : allE 10 = ((allE 10).drop 0).take 8 ++ ((allE 10).drop 8).take 8 ++ ((allE 10).drop 16).take 8 := by rfl
  intro e he
  rw [q] at he
  simp only [List.mem_append] at he
  rcases he with (h | h) | h
  · exact allAnd (ck_10_0 K hK) e h
  · exact allAnd (ck_10_8 K hK) e h
  · exact allAnd (ck_10_16 K hK) e h
theorem ck_11 (K : Nat → Int) (hK : Rise 11 K) : ∀ e ∈ allE 11, okE 11 K hK e = true := by
  have q : allE 11 = ((allE 11).drop 0).take 8 ++ ((allE 11).drop 8).take 8 ++ ((allE 11).drop 16).take 8 := by rfl
  intro e he
  rw [q] at he
  simp only [List.mem_append] at he
  rcases he with (h | h) | h
  · exact allAnd (ck_11_0 K hK) e h
  · exact allAnd (ck_11_8 K hK) e h
  · exact allAnd (ck_11_16 K hK) e h
theorem ck_12 (K : Nat → Int) (hK : Rise 12 K) : ∀ e ∈ allE 12, okE 12 K hK e = true := by
  have q : allE 12 = ((allE 12).drop 0).take 8 ++ ((allE 12).drop 8).take 8 ++ ((allE 12).drop 16).take 8 ++ ((allE 12).drop 24).take 8 := by rfl
  intro e he
  rw [q] at he
  simp only [List.mem_append] at he
  rcases he with ((h | h) | h) | h
  · exact allAnd (ck_12_0 K hK) e h
  · exact allAnd (ck_12_8 K hK) e h
  · exact allAnd (ck_12_16 K hK) e h
  · exact allAnd (ck_12_24 K hK) e h
theorem ck_13 (K : Nat → Int) (hK : Rise 13 K) : ∀ e ∈ allE 13, okE 13 K hK e = true := by
  have q : allE 13 = ((allE 13).drop 0).take 8 ++ ((allE 13).drop 8).take 8 ++ ((allE 13).drop 16).take 8 ++ ((allE 13).drop 24).take 8 := by rfl
  intro e he
  rw [q] at he
  simp only [List.mem_append] at he
  rcases he with ((h | h) | h) | h
  · exact allAnd (ck_13_0 K hK) e h
  · exact allAnd (ck_13_8 K hK) e h
  · exact allAnd (ck_13_16 K hK) e h
  · exact allAnd (ck_13_24 K hK) e h
theorem ck_14 (K : Nat → Int) (hK : Rise 14 K) : ∀ e ∈ allE 14, okE 14 K hK e = true := by
  have q : allE 14 = ((allE 14).drop 0).take 8 ++ ((allE 14).drop 8).take 8 ++ ((allE 14).drop 16).take 8 ++ ((allE 14).drop 24).take 8 := by rfl
  intro e he
  rw [q] at he
  simp only [List.mem_append] at he
  rcases he with ((h | h) | h) | h
  · exact allAnd (ck_14_0 K hK) e h
  · exact allAnd (ck_14_8 K hK) e h
  · exact allAnd (ck_14_16 K hK) e h
  · exact allAnd (ck_14_24 K hK) e h
theorem ck_15 (K : Nat → Int) (hK : Rise 15 K) : ∀ e ∈ allE 15, okE 15 K hK e = true := by
  have q : allE 15 = ((allE 15).drop 0).take 8 ++ ((allE 15).drop 8).take 8 ++ ((allE 15).drop 16).take 8 ++ ((allE 15).drop 24).take 8 := by rfl
  intro e he
  rw [q] at he
  simp only [List.mem_append] at he
  rcases he with ((h | h) | h) | h
  · exact allAnd (ck_15_0 K hK) e h
  · exact allAnd (ck_15_8 K hK) e h
  · exact allAnd (ck_15_16 K hK) e h
  · exact allAnd (ck_15_24 K hK) e h
theorem ck_16 (K : Nat → Int) (hK : Rise 16 K) : ∀ e ∈ allE 16, okE 16 K hK e = true := by
  have q : allE 16 = ((allE 16).drop 0).take 8 ++ ((allE 16).drop 8).take 8 ++ ((allE 16).drop 16).take 8 ++ ((allE 16).drop 24).take 8 ++ ((allE 16).drop 32).take 8 := by rfl
  intro e he
  rw [q] at he
  simp only [List.mem_append] at he
  rcases he with (((h | h) | h) | h) | h
  · exact allAnd (ck_16_0 K hK) e h
  · exact allAnd (ck_16_8 K hK) e h
  · exact allAnd (ck_16_16 K hK) e h
  · exact allAnd (ck_16_24 K hK) e h
  · exact allAnd (ck_16_32 K hK) e h
theorem ck_17 (K : Nat → Int) (hK : Rise 17 K) : ∀ e ∈ allE 17, okE 17 K hK e = true := by
  have q : allE 17 = ((allE 17).drop 0).take 8 ++ ((allE 17).drop 8).take 8 ++ ((allE 17).drop 16).take 8 ++ ((allE 17).drop 24).take 8 ++ ((allE 17).drop 32).take 8 := by rfl
  intro e he
  rw [q] at he
  simp only [List.mem_append] at he
  rcases he with (((h | h) | h) | h) | h
  · exact allAnd (ck_17_0 K hK) e h
  · exact allAnd (ck_17_8 K hK) e h
  · exact allAnd (ck_17_16 K hK) e h
  · exact allAnd (ck_17_24 K hK) e h
  · exact allAnd (ck_17_32 K hK) e h
theorem ck_18 (K : Nat → Int) (hK : Rise 18 K) : ∀ e ∈ allE 18, okE 18 K hK e = true := by
  have q : allE 18 = ((allE 18).drop 0).take 8 ++ ((allE 18).drop 8).take 8 ++ ((allE 18).drop 16).take 8 ++ ((allE 18).drop 24).take 8 ++ ((allE 18).drop 32).take 8 := by rfl
  intro e he
  rw [q] at he
  simp only [List.mem_append] at he
  rcases he with (((h | h) | h) | h) | h
  · exact allAnd (ck_18_0 K hK) e h
  · exact allAnd (ck_18_8 K hK) e h
  · exact allAnd (ck_18_16 K hK) e h
  · exact allAnd (ck_18_24 K hK) e h
  · exact allAnd (ck_18_32 K hK) e h
theorem ck_19 (K : Nat → Int) (hK : Rise 19 K) : ∀ e ∈ allE 19, okE 19 K hK e = true := by
  have q : allE 19 = ((allE 19).drop 0).take 8 ++ ((allE 19).drop 8).take 8 ++ ((allE 19).drop 16).take 8 ++ ((allE 19).drop 24).take 8 ++ ((allE 19).drop 32).take 8 := by rfl
  intro e he
  rw [q] at he
  simp only [List.mem_append] at he
  rcases he with (((h | h) | h) | h) | h
  · exact allAnd (ck_19_0 K hK) e h
  · exact allAnd (ck_19_8 K hK) e h
  · exact allAnd (ck_19_16 K hK) e h
  · exact allAnd (ck_19_24 K hK) e h
  · exact allAnd (ck_19_32 K hK) e h
theorem ck_20 (K : Nat → Int) (hK : Rise 20 K) : ∀ e ∈ allE 20, okE 20 K hK e = true := by
  have q : allE 20 = ((allE 20).drop 0).take 8 ++ ((allE 20).drop 8).take 8 ++ ((allE 20).drop 16).take 8 ++ ((allE 20).drop 24).take 8 ++ ((allE 20).drop 32).take 8 ++ ((allE 20).drop 40).take 8 := by rfl
  intro e he
  rw [q] at he
  simp only [List.mem_append] at he
  rcases he with ((((h | h) | h) | h) | h) | h
  · exact allAnd (ck_20_0 K hK) e h
  · exact allAnd (ck_20_8 K hK) e h
  · exact allAnd (ck_20_16 K hK) e h
  · exact allAnd (ck_20_24 K hK) e h
  · exact allAnd (ck_20_32 K hK) e h
  · exact allAnd (ck_20_40 K hK) e h
end Go.Av
