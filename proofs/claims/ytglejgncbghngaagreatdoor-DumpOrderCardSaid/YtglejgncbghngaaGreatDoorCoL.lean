/- A part of the proof: what a machine of our own over the model's code answers is what the model does; no condition. -/
import Derived.Test.YtglejgncbghngaaGreatDoorRows
import Derived.JoinedOf
import Derived.KernelRfl
set_option linter.all false
set_option linter.all false
set_option maxRecDepth 100000
namespace Go.Proofs.YtglejgncbghngaaGreatDoor
open Go
theorem glue {f : Nat → Bool} {s m n : Nat} (h1 : (List.range' s m).all f = true) (h2 : (List.range' (s + m) n).all f = true) : (List.range' s (m + n)).all f = true := by
  rw [← List.range'_append_1, List.all_append, h1, h2]; rfl
theorem lo_0 : (List.range' 0 56).all (rowFine Tryz.prog) = true := by kernel_rfl
theorem lo_1 : (List.range' 56 56).all (rowFine Tryz.prog) = true := by kernel_rfl
theorem lo_2 : (List.range' 112 56).all (rowFine Tryz.prog) = true := by kernel_rfl
theorem lo_3 : (List.range' 168 56).all (rowFine Tryz.prog) = true := by kernel_rfl
theorem lo_4 : (List.range' 224 56).all (rowFine Tryz.prog) = true := by kernel_rfl
theorem lo_5 : (List.range' 280 56).all (rowFine Tryz.prog) = true := by kernel_rfl
theorem lo_6 : (List.range' 336 56).all (rowFine Tryz.prog) = true := by kernel_rfl
theorem lo_7 : (List.range' 392 56).all (rowFine Tryz.prog) = true := by kernel_rfl
theorem lo_8 : (List.range' 448 56).all (rowFine Tryz.prog) = true := by kernel_rfl
theorem lo_9 : (List.range' 504 56).all (rowFine Tryz.prog) = true := by kernel_rfl
theorem lo_10 : (List.range' 560 56).all (rowFine Tryz.prog) = true := by kernel_rfl
theorem lo_11 : (List.range' 616 56).all (rowFine Tryz.prog) = true := by kernel_rfl
theorem lo_12 : (List.range' 672 4).all (rowFine Tryz.prog) = true := by kernel_rfl
theorem lo_g : Tryz.prog.globals.all (fun g => decide (g.type < Tryz.prog.types.size)) = true := by kernel_rfl
theorem lo_f : Tryz.prog.funcs.all (fun f => f.params.all fun t => decide (t < Tryz.prog.types.size)) = true := by kernel_rfl
theorem lo_n : Tryz.prog.types.size = 676 := by kernel_rfl
theorem lo_r12 : (List.range' 672 4).all (rowFine Tryz.prog) = true := lo_12
theorem lo_r11 : (List.range' 616 60).all (rowFine Tryz.prog) = true := glue (f := rowFine Tryz.prog) (s := 616) (m := 56) (n := 4) lo_11 lo_r12
theorem lo_r10 : (List.range' 560 116).all (rowFine Tryz.prog) = true := glue (f := rowFine Tryz.prog) (s := 560) (m := 56) (n := 60) lo_10 lo_r11
theorem lo_r9 : (List.range' 504 172).all (rowFine Tryz.prog) = true := glue (f := rowFine Tryz.prog) (s := 504) (m := 56) (n := 116) lo_9 lo_r10
theorem lo_r8 : (List.range' 448 228).all (rowFine Tryz.prog) = true := glue (f := rowFine Tryz.prog) (s := 448) (m := 56) (n := 172) lo_8 lo_r9
theorem lo_r7 : (List.range' 392 284).all (rowFine Tryz.prog) = true := glue (f := rowFine Tryz.prog) (s := 392) (m := 56) (n := 228) lo_7 lo_r8
theorem lo_r6 : (List.range' 336 340).all (rowFine Tryz.prog) = true := glue (f := rowFine Tryz.prog) (s := 336) (m := 56) (n := 284) lo_6 lo_r7
theorem lo_r5 : (List.range' 280 396).all (rowFine Tryz.prog) = true := glue (f := rowFine Tryz.prog) (s := 280) (m := 56) (n := 340) lo_5 lo_r6
theorem lo_r4 : (List.range' 224 452).all (rowFine Tryz.prog) = true := glue (f := rowFine Tryz.prog) (s := 224) (m := 56) (n := 396) lo_4 lo_r5
theorem lo_r3 : (List.range' 168 508).all (rowFine Tryz.prog) = true := glue (f := rowFine Tryz.prog) (s := 168) (m := 56) (n := 452) lo_3 lo_r4
theorem lo_r2 : (List.range' 112 564).all (rowFine Tryz.prog) = true := glue (f := rowFine Tryz.prog) (s := 112) (m := 56) (n := 508) lo_2 lo_r3
theorem lo_r1 : (List.range' 56 620).all (rowFine Tryz.prog) = true := glue (f := rowFine Tryz.prog) (s := 56) (m := 56) (n := 564) lo_1 lo_r2
theorem lo_r0 : (List.range' 0 676).all (rowFine Tryz.prog) = true := glue (f := rowFine Tryz.prog) (s := 0) (m := 56) (n := 620) lo_0 lo_r1
theorem lo_t : (List.range Tryz.prog.types.size).all (rowFine Tryz.prog) = true := by
  rw [lo_n, List.range_eq_range']
  exact lo_r0
theorem lo : laidOutB Tryz.prog = true := by
  unfold laidOutB
  rw [lo_t, lo_g, lo_f]; rfl
end Go.Proofs.YtglejgncbghngaaGreatDoor
