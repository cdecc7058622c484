/- A part of the proof: what a machine of our own over the model's code answers is what the model does; no condition. -/
import Derived.Test.YtglejgncbghngaaGreatDoorCoA
import Derived.Test.YtglejgncbghngaaGreatDoorAwC
set_option linter.all false
open Go Go.Av Go.Proofs
set_option maxRecDepth 1000000
set_option linter.all false
namespace Go.Av
def TTDw : List (List Sh) := [[.flat, .flat, .flat], [.flat], [.flat, .flat, .flat, .flat, .flat, .flat, .sl 2], [.flat, .flat], [.flat, .flat, .flat, .flat], [.flat, .flat, .sl 0, .flat, .sl 1, .flat, .flat, .flat, .flat, .flat, .flat, .sl 2, .sl 3, .flat, .flat, .flat, .sl 4, .flat, .flat, .flat, .flat, .flat, .flat, .sl 2, .flat, .flat, .flat, .flat, .flat, .flat, .sl 2], [.ag 5, .flat, .flat], [.flat], [.flat, .flat, .sl 0, .flat, .sl 1, .flat, .flat, .flat, .flat, .flat, .flat, .sl 2, .sl 3, .flat, .flat, .flat, .sl 4, .flat, .flat, .flat, .flat, .flat, .flat, .sl 2, .flat, .flat, .flat, .flat, .flat, .flat, .sl 2], [.sl 8, .flat, .flat], [.flat, .flat, .sl 1, .flat, .sl 11], [.flat, .flat, .flat, .sl 11], [.flat, .sl 0, .flat, .sl 1, .flat, .flat, .flat, .flat, .flat, .flat, .sl 2, .sl 3, .sl 13], [.sl 4], [.flat, .flat], [.flat, .flat], [.sl 15, .flat], [.sl 12, .flat]]
namespace VDw
abbrev I (n : Int) : DV := .i .i64 n
abbrev Y (n : Int) : DV := .i .u8 n
abbrev T : DV := .b true
abbrev F : DV := .b false
abbrev N : DV := .nil
def d0 : DV := .s [116,97]
def d1 : DV := .s [99,114,101,97,116,101,32,116,97,98,108,101,32,116,97,32,40,97,32,100,101,99,32,110,111,116,32,110,117,108,108,44,32,112,114,105,109,97,114,121,32,107,101,121,32,40,97,41,44,32,117,110,105,113,117,101,32,40,97,41,41]
def d2 : DV := .sl 1 3 [.s [97],I 3,T]
def d3 : DV := .sl 1 1 [I 0]
def d4 : DV := .ag [I 1,d0,d2,I 0,d3,I 0,.s [],I 0,I 0,I 0,.s [],N,N,.s [],.s [],.s [],N,I 0,.s [],I 0,I 0,I 0,.s [],N,I 0,.s [],I 0,I 0,I 0,.s [],N]
def d5 : DV := .tu [d4,I 0,I 0]
def d6 : DV := .sl 1 13 [d0,d2,I 0,d3,I 0,.s [],I 0,I 0,I 0,.s [],N,N,N]
def d7 : DV := .s [99,114,101,97,116,101,32,116,97,98,108,101,32,116,97,32,40,97,32,100,101,99,32,110,111,116,32,110,117,108,108,44,32,112,114,105,109,97,114,121,32,107,101,121,32,40,97,41,44,32,117,110,105,113,117,101,32,40,97,41,41,59,10]
def d8 : DV := .sl 1 2 [I 0,d7]
def d9 : DV := .s [99,116,97]
def d10 : DV := .sl 2 2 [d9,d1,.s [112,48,48,48,48],.s [49]]
def d11 : DV := .sl 1 2 [d9,d1]
end VDw
end Go.Av


open Go Go.Av Go.Proofs
set_option maxRecDepth 1000000
set_option linter.all false
namespace Go.Av
theorem Dwapp {α : Type} {g : α → Bool} {a c : List α} (h : allR g a = true) (k : allR g c = true) : allR g (a ++ c) = true := by
  rw [allR_eq] at h k ⊢; rw [List.all_append, h, k]; rfl
open VDw
def l495_0 : List Ent := [⟨[d0], F⟩,
⟨[.s [97]], F⟩]
def l495 : List Ent := l495_0
def l111_0 : List Ent := [⟨[d1], d5⟩]
def l111 : List Ent := l111_0
def l45_0 : List Ent := [⟨[.sl 1 5 [I 0,I 144,N,.s [],N],I 1], d6⟩]
def l45 : List Ent := l45_0
def l19_0 : List Ent := [⟨[d6], .sl 1 1 [d0]⟩]
def l19 : List Ent := l19_0
def l185_0 : List Ent := [⟨[d4], d1⟩]
def l185 : List Ent := l185_0
def l46_0 : List Ent := [⟨[d6,I 5], d8⟩,
⟨[N,I 1], N⟩]
def l46 : List Ent := l46_0
def l51_0 : List Ent := [⟨[N,d8], d3⟩,
⟨[d10,d8], N⟩]
def l51 : List Ent := l51_0
def l515_0 : List Ent := [⟨[], .sl 33 1 [.s [99,114,101,97,116,101],.s [116,97,98,108,101],.s [100,114,111,112],.s [97,108,116,101,114],.s [97,100,100],.s [102,111,114,101,105,103,110],.s [107,101,121],.s [114,101,102,101,114,101,110,99,101,115],.s [112,114,105,109,97,114,121],.s [117,110,105,113,117,101],.s [99,104,101,99,107],.s [110,111,116],.s [110,117,108,108],.s [105,110,115,101,114,116],.s [105,110,116,111],.s [118,97,108,117,101,115],.s [117,112,100,97,116,101],.s [115,101,116],.s [119,104,101,114,101],.s [100,101,108,101,116,101],.s [102,114,111,109],.s [115,101,108,101,99,116],.s [99,111,117,110,116],.s [116,114,117,101],.s [102,97,108,115,101],.s [97,110,100],.s [111,114],.s [105,115],.s [98,111,111,108],.s [105,110,116],.s [100,101,99],.s [116,101,120,116],.s [98,121,116,101,115]]⟩]
def l515 : List Ent := l515_0
def l391_0 : List Ent := [⟨[], .sl 11 1 [.s [60,62],.s [60,61],.s [40],.s [41],.s [44],.s [59],.s [61],.s [60],.s [43],.s [45],.s [42]]⟩]
def l391 : List Ent := l391_0
def l26_0 : List Ent := [⟨[d7], .tu [.sl 1 31 [I 1,d0,d2,I 0,d3,I 0,.s [],I 0,I 0,I 0,.s [],N,N,.s [],.s [],.s [],N,I 0,.s [],I 0,I 0,I 0,.s [],N,I 0,.s [],I 0,I 0,I 0,.s [],N],I 0,I 0]⟩]
def l26 : List Ent := l26_0
def l312_0 : List Ent := [⟨[d1], d5⟩]
def l312 : List Ent := l312_0
def l47_0 : List Ent := [⟨[N,d8,I 0], .tu [d10,I 0]⟩]
def l47 : List Ent := l47_0
def l48_0 : List Ent := [⟨[d10,d8], .tu [d11,I 0]⟩]
def l48 : List Ent := l48_0
def l49_0 : List Ent := [⟨[d11], .tu [d6,T]⟩]
def l49 : List Ent := l49_0
def l50_0 : List Ent := [⟨[d6,d6], T⟩]
def l50 : List Ent := l50_0
def l17_0 : List Ent := [⟨[], T⟩]
def l17 : List Ent := l17_0
end Go.Av


open Go Go.Av Go.Proofs
set_option maxRecDepth 1000000
set_option linter.all false
namespace Go.Av
variable [Tok]
theorem c495_0 : allR (checkE Tryz.prog fsB 100000 GG TTDw 20 495 (.flat)) l495_0 = true := by kernel_rfl
end Go.Av


open Go Go.Av Go.Proofs
set_option maxRecDepth 1000000
set_option linter.all false
namespace Go.Av
variable [Tok]
theorem c19_0 : allR (checkE Tryz.prog fsB 100000 GG TTDw 20 19 (.sl 7)) l19_0 = true := by kernel_rfl
end Go.Av


open Go Go.Av Go.Proofs
set_option maxRecDepth 1000000
set_option linter.all false
namespace Go.Av
variable [Tok]
theorem c185_0 : allR (checkE Tryz.prog fsB 100000 GG TTDw 20 185 (.flat)) l185_0 = true := by kernel_rfl
end Go.Av


open Go Go.Av Go.Proofs
set_option maxRecDepth 1000000
set_option linter.all false
namespace Go.Av
variable [Tok]
theorem c51_0 : allR (checkE Tryz.prog fsB 100000 GG TTDw 20 51 (.sl 1)) l51_0 = true := by kernel_rfl
end Go.Av


open Go Go.Av Go.Proofs
set_option maxRecDepth 1000000
set_option linter.all false
namespace Go.Av
variable [Tok]
theorem c515_0 : allR (checkE Tryz.prog fsB 100000 GG TTDw 20 515 (.sl 7)) l515_0 = true := by kernel_rfl
end Go.Av


open Go Go.Av Go.Proofs
set_option maxRecDepth 1000000
set_option linter.all false
namespace Go.Av
variable [Tok]
theorem c391_0 : allR (checkE Tryz.prog fsB 100000 GG TTDw 20 391 (.sl 7)) l391_0 = true := by kernel_rfl
end Go.Av


open Go Go.Av Go.Proofs
set_option maxRecDepth 1000000
set_option linter.all false
namespace Go.Av
variable [Tok]
theorem c50_0 : allR (checkE Tryz.prog fsB 100000 GG TTDw 20 50 (.flat)) l50_0 = true := by kernel_rfl
end Go.Av


open Go Go.Av Go.Proofs
set_option maxRecDepth 1000000
set_option linter.all false
namespace Go.Av
variable [Tok]
noncomputable def fsDw1 (k : Nat) : Option AFun := ifb (Nat.beq k 495) (some (.sem (pureF GG TTDw 20 [.flat] (memoF l495)))) (ifb (Nat.beq k 19) (some (.sem (pureF GG TTDw 20 [.sl 12] (memoF l19)))) (ifb (Nat.beq k 185) (some (.sem (pureF GG TTDw 20 [.ag 5] (memoF l185)))) (ifb (Nat.beq k 51) (some (.sem (pureF GG TTDw 20 [.sl 15, .sl 14] (memoF l51)))) (ifb (Nat.beq k 515) (some (.sem (pureF GG TTDw 20 [] (memoF l515)))) (ifb (Nat.beq k 391) (some (.sem (pureF GG TTDw 20 [] (memoF l391)))) (ifb (Nat.beq k 50) (some (.sem (pureF GG TTDw 20 [.sl 12, .sl 12] (memoF l50)))) (fsB k)))))))
theorem p495 : PureOk Tryz.prog GG 495 (memoF l495) := memo_pure tz_mixed fsB_ok (fun e he => by
  exact allAnd c495_0 e he)
theorem p19 : PureOk Tryz.prog GG 19 (memoF l19) := memo_pure tz_mixed fsB_ok (fun e he => by
  exact allAnd c19_0 e he)
theorem p185 : PureOk Tryz.prog GG 185 (memoF l185) := memo_pure tz_mixed fsB_ok (fun e he => by
  exact allAnd c185_0 e he)
theorem p51 : PureOk Tryz.prog GG 51 (memoF l51) := memo_pure tz_mixed fsB_ok (fun e he => by
  exact allAnd c51_0 e he)
theorem p515 : PureOk Tryz.prog GG 515 (memoF l515) := memo_pure tz_mixed fsB_ok (fun e he => by
  exact allAnd c515_0 e he)
theorem p391 : PureOk Tryz.prog GG 391 (memoF l391) := memo_pure tz_mixed fsB_ok (fun e he => by
  exact allAnd c391_0 e he)
theorem p50 : PureOk Tryz.prog GG 50 (memoF l50) := memo_pure tz_mixed fsB_ok (fun e he => by
  exact allAnd c50_0 e he)
theorem fsDw1_ok : FsOk Tryz.prog fsDw1 := by
  intro k fn h
  unfold fsDw1 at h
  rcases ifb_or h with ⟨h1, h⟩ | ⟨_, h⟩
  · cases h; rw [Nat.eq_of_beq_eq_true h1]; exact .sem (pure_sem p495 tz_lt)
  rcases ifb_or h with ⟨h1, h⟩ | ⟨_, h⟩
  · cases h; rw [Nat.eq_of_beq_eq_true h1]; exact .sem (pure_sem p19 tz_lt)
  rcases ifb_or h with ⟨h1, h⟩ | ⟨_, h⟩
  · cases h; rw [Nat.eq_of_beq_eq_true h1]; exact .sem (pure_sem p185 tz_lt)
  rcases ifb_or h with ⟨h1, h⟩ | ⟨_, h⟩
  · cases h; rw [Nat.eq_of_beq_eq_true h1]; exact .sem (pure_sem p51 tz_lt)
  rcases ifb_or h with ⟨h1, h⟩ | ⟨_, h⟩
  · cases h; rw [Nat.eq_of_beq_eq_true h1]; exact .sem (pure_sem p515 tz_lt)
  rcases ifb_or h with ⟨h1, h⟩ | ⟨_, h⟩
  · cases h; rw [Nat.eq_of_beq_eq_true h1]; exact .sem (pure_sem p391 tz_lt)
  rcases ifb_or h with ⟨h1, h⟩ | ⟨_, h⟩
  · cases h; rw [Nat.eq_of_beq_eq_true h1]; exact .sem (pure_sem p50 tz_lt)
  exact fsB_ok k fn h
end Go.Av


open Go Go.Av Go.Proofs
set_option maxRecDepth 1000000
set_option linter.all false
namespace Go.Av
variable [Tok]
theorem c111_0 : allR (checkE Tryz.prog fsDw1 100000 GG TTDw 20 111 (.tu 6)) l111_0 = true := by kernel_rfl
end Go.Av


open Go Go.Av Go.Proofs
set_option maxRecDepth 1000000
set_option linter.all false
namespace Go.Av
variable [Tok]
theorem c46_0 : allR (checkE Tryz.prog fsDw1 100000 GG TTDw 20 46 (.sl 14)) l46_0 = true := by kernel_rfl
end Go.Av


open Go Go.Av Go.Proofs
set_option maxRecDepth 1000000
set_option linter.all false
namespace Go.Av
variable [Tok]
theorem c26_0 : allR (checkE Tryz.prog fsDw1 100000 GG TTDw 20 26 (.tu 9)) l26_0 = true := by kernel_rfl
end Go.Av


open Go Go.Av Go.Proofs
set_option maxRecDepth 1000000
set_option linter.all false
namespace Go.Av
variable [Tok]
theorem c312_0 : allR (checkE Tryz.prog fsDw1 100000 GG TTDw 20 312 (.tu 6)) l312_0 = true := by kernel_rfl
end Go.Av


open Go Go.Av Go.Proofs
set_option maxRecDepth 1000000
set_option linter.all false
namespace Go.Av
variable [Tok]
theorem c48_0 : allR (checkE Tryz.prog fsDw1 100000 GG TTDw 20 48 (.tu 16)) l48_0 = true := by kernel_rfl
end Go.Av


open Go Go.Av Go.Proofs
set_option maxRecDepth 1000000
set_option linter.all false
namespace Go.Av
variable [Tok]
noncomputable def fsDw2 (k : Nat) : Option AFun := ifb (Nat.beq k 111) (some (.sem (pureF GG TTDw 20 [.flat] (memoF l111)))) (ifb (Nat.beq k 46) (some (.sem (pureF GG TTDw 20 [.sl 12, .flat] (memoF l46)))) (ifb (Nat.beq k 26) (some (.sem (pureF GG TTDw 20 [.flat] (memoF l26)))) (ifb (Nat.beq k 312) (some (.sem (pureF GG TTDw 20 [.flat] (memoF l312)))) (ifb (Nat.beq k 48) (some (.sem (pureF GG TTDw 20 [.sl 15, .sl 14] (memoF l48)))) (fsDw1 k)))))
theorem p111 : PureOk Tryz.prog GG 111 (memoF l111) := memo_pure tz_mixed fsDw1_ok (fun e he => by
  exact allAnd c111_0 e he)
theorem p46 : PureOk Tryz.prog GG 46 (memoF l46) := memo_pure tz_mixed fsDw1_ok (fun e he => by
  exact allAnd c46_0 e he)
theorem p26 : PureOk Tryz.prog GG 26 (memoF l26) := memo_pure tz_mixed fsDw1_ok (fun e he => by
  exact allAnd c26_0 e he)
theorem p312 : PureOk Tryz.prog GG 312 (memoF l312) := memo_pure tz_mixed fsDw1_ok (fun e he => by
  exact allAnd c312_0 e he)
theorem p48 : PureOk Tryz.prog GG 48 (memoF l48) := memo_pure tz_mixed fsDw1_ok (fun e he => by
  exact allAnd c48_0 e he)
theorem fsDw2_ok : FsOk Tryz.prog fsDw2 := by
  intro k fn h
  unfold fsDw2 at h
  rcases ifb_or h with ⟨h1, h⟩ | ⟨_, h⟩
  · cases h; rw [Nat.eq_of_beq_eq_true h1]; exact .sem (pure_sem p111 tz_lt)
  rcases ifb_or h with ⟨h1, h⟩ | ⟨_, h⟩
  · cases h; rw [Nat.eq_of_beq_eq_true h1]; exact .sem (pure_sem p46 tz_lt)
  rcases ifb_or h with ⟨h1, h⟩ | ⟨_, h⟩
  · cases h; rw [Nat.eq_of_beq_eq_true h1]; exact .sem (pure_sem p26 tz_lt)
  rcases ifb_or h with ⟨h1, h⟩ | ⟨_, h⟩
  · cases h; rw [Nat.eq_of_beq_eq_true h1]; exact .sem (pure_sem p312 tz_lt)
  rcases ifb_or h with ⟨h1, h⟩ | ⟨_, h⟩
  · cases h; rw [Nat.eq_of_beq_eq_true h1]; exact .sem (pure_sem p48 tz_lt)
  exact fsDw1_ok k fn h
end Go.Av


open Go Go.Av Go.Proofs
set_option maxRecDepth 1000000
set_option linter.all false
namespace Go.Av
variable [Tok]
theorem c45_0 : allR (checkE Tryz.prog fsDw2 100000 GG TTDw 20 45 (.sl 12)) l45_0 = true := by kernel_rfl
end Go.Av


open Go Go.Av Go.Proofs
set_option maxRecDepth 1000000
set_option linter.all false
namespace Go.Av
variable [Tok]
theorem c47_0 : allR (checkE Tryz.prog fsDw2 100000 GG TTDw 20 47 (.tu 16)) l47_0 = true := by kernel_rfl
end Go.Av


open Go Go.Av Go.Proofs
set_option maxRecDepth 1000000
set_option linter.all false
namespace Go.Av
variable [Tok]
theorem c49_0 : allR (checkE Tryz.prog fsDw2 100000 GG TTDw 20 49 (.tu 17)) l49_0 = true := by kernel_rfl
end Go.Av


open Go Go.Av Go.Proofs
set_option maxRecDepth 1000000
set_option linter.all false
namespace Go.Av
variable [Tok]
noncomputable def fsDw3 (k : Nat) : Option AFun := ifb (Nat.beq k 45) (some (.sem (pureF GG TTDw 20 [.sl 10, .flat] (memoF l45)))) (ifb (Nat.beq k 47) (some (.sem (pureF GG TTDw 20 [.sl 15, .sl 14, .flat] (memoF l47)))) (ifb (Nat.beq k 49) (some (.sem (pureF GG TTDw 20 [.sl 15] (memoF l49)))) (fsDw2 k)))
theorem p45 : PureOk Tryz.prog GG 45 (memoF l45) := memo_pure tz_mixed fsDw2_ok (fun e he => by
  exact allAnd c45_0 e he)
theorem p47 : PureOk Tryz.prog GG 47 (memoF l47) := memo_pure tz_mixed fsDw2_ok (fun e he => by
  exact allAnd c47_0 e he)
theorem p49 : PureOk Tryz.prog GG 49 (memoF l49) := memo_pure tz_mixed fsDw2_ok (fun e he => by
  exact allAnd c49_0 e he)
theorem fsDw3_ok : FsOk Tryz.prog fsDw3 := by
  intro k fn h
  unfold fsDw3 at h
  rcases ifb_or h with ⟨h1, h⟩ | ⟨_, h⟩
  · cases h; rw [Nat.eq_of_beq_eq_true h1]; exact .sem (pure_sem p45 tz_lt)
  rcases ifb_or h with ⟨h1, h⟩ | ⟨_, h⟩
  · cases h; rw [Nat.eq_of_beq_eq_true h1]; exact .sem (pure_sem p47 tz_lt)
  rcases ifb_or h with ⟨h1, h⟩ | ⟨_, h⟩
  · cases h; rw [Nat.eq_of_beq_eq_true h1]; exact .sem (pure_sem p49 tz_lt)
  exact fsDw2_ok k fn h
end Go.Av


open Go Go.Av Go.Proofs
set_option maxRecDepth 1000000
set_option linter.all false
namespace Go.Av
variable [Tok]
theorem c17_0 : allR (checkE Tryz.prog fsDw3 100000 GG TTDw 20 17 (.flat)) l17_0 = true := by kernel_rfl
end Go.Av


open Go Go.Av Go.Proofs
set_option maxRecDepth 1000000
set_option linter.all false
namespace Go.Av
variable [Tok]
noncomputable def fsDw4 (k : Nat) : Option AFun := ifb (Nat.beq k 17) (some (.sem (pureF GG TTDw 20 [] (memoF l17)))) (fsDw3 k)
theorem p17 : PureOk Tryz.prog GG 17 (memoF l17) := memo_pure tz_mixed fsDw3_ok (fun e he => by
  exact allAnd c17_0 e he)
theorem fsDw4_ok : FsOk Tryz.prog fsDw4 := by
  intro k fn h
  unfold fsDw4 at h
  rcases ifb_or h with ⟨h1, h⟩ | ⟨_, h⟩
  · cases h; rw [Nat.eq_of_beq_eq_true h1]; exact .sem (pure_sem p17 tz_lt)
  exact fsDw3_ok k fn h
end Go.Av
