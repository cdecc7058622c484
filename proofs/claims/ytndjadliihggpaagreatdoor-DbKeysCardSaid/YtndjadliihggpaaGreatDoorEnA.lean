/- A part of the proof: what a machine of our own over the model's code answers is what the model does; no condition. -/
import Derived.Test.YtndjadliihggpaaGreatDoorCoA
import Derived.Test.YtndjadliihggpaaGreatDoorAwC
set_option linter.all false
open Go Go.Av Go.Proofs
set_option maxRecDepth 1000000
set_option linter.all false
namespace Go.Av
def TTDq : List (List Sh) := [[.flat], [.flat, .flat, .flat], [.flat], [.flat, .flat, .flat, .flat, .flat, .flat, .sl 3], [.flat, .flat], [.flat, .flat, .flat, .flat], [.flat, .flat, .sl 1, .flat, .sl 2, .flat, .flat, .flat, .flat, .flat, .flat, .sl 3, .sl 4, .flat, .flat, .flat, .sl 5, .flat, .flat, .flat, .flat, .flat, .flat, .sl 3, .flat, .flat, .flat, .flat, .flat, .flat, .sl 3], [.ag 6, .flat, .flat], [.flat, .sl 1, .flat, .sl 2, .flat, .flat, .flat, .flat, .flat, .flat, .sl 3, .sl 4, .sl 9], [.sl 5], [.flat, .sl 9, .flat], [.sl 8, .ag 10], [.flat, .sl 1, .flat, .sl 2, .flat, .flat, .flat, .flat, .flat, .flat, .sl 3, .sl 4], [.flat, .flat], [.sl 8, .flat]]
namespace VDq
abbrev I (n : Int) : DV := .i .i64 n
abbrev Y (n : Int) : DV := .i .u8 n
abbrev T : DV := .b true
abbrev F : DV := .b false
abbrev N : DV := .nil
def d0 : DV := .sl 1 3 [.s [97],I 2,T]
def d1 : DV := .ag [I 1,.s [116],d0,I 0,N,I 0,.s [],I 0,I 0,I 0,.s [],N,N,.s [],.s [],.s [],N,I 0,.s [],I 0,I 0,I 0,.s [],N,I 0,.s [],I 0,I 0,I 0,.s [],N]
def d2 : DV := .sl 1 13 [.s [116],d0,I 0,N,I 0,.s [],I 0,I 0,I 0,.s [],N,N,N]
def d3 : DV := .ag [I 0,N,I 0]
def d4 : DV := .sl 1 4 [I 2,I 5,I 0,.s []]
def d5 : DV := .ag [I 4,.s [],N,I 0,N,I 0,.s [],I 0,I 0,I 0,.s [],N,N,.s [116],.s [],.s [],d4,I 0,.s [],I 0,I 0,I 0,.s [],N,I 0,.s [],I 0,I 0,I 0,.s [],N]
def d6 : DV := .sl 1 13 [.s [116],d0,I 0,N,I 0,.s [],I 0,I 0,I 0,.s [],N,N,.sl 1 1 [d4]]
def d7 : DV := .sl 2 3 [.s [107],I 2,T,.s [118],I 2,F]
def d8 : DV := .ag [I 1,.s [116],d7,I 0,N,I 0,.s [],I 0,I 0,I 0,.s [],N,N,.s [],.s [],.s [],N,I 0,.s [],I 0,I 0,I 0,.s [],N,I 0,.s [],I 0,I 0,I 0,.s [],N]
def d9 : DV := .sl 1 13 [.s [116],d7,I 0,N,I 0,.s [],I 0,I 0,I 0,.s [],N,N,N]
def d10 : DV := .tu [d9,d3]
def d11 : DV := .ag [I 7,.s [],N,I 0,N,I 0,.s [],I 0,I 0,I 0,.s [],N,N,.s [116],.s [],.s [],N,I 0,.s [],I 0,I 0,I 0,.s [],N,I 0,.s [],I 0,I 0,I 0,.s [],N]
def d12 : DV := .s [99,114,101,97,116,101,32,116,97,98,108,101,32,116,32,40,97,32,105,110,116,32,110,111,116,32,110,117,108,108,44,32,112,114,105,109,97,114,121,32,107,101,121,32,40,97,41,41]
def d13 : DV := .tu [d1,I 0,I 0]
def d14 : DV := .s [105,110,115,101,114,116,32,105,110,116,111,32,116,32,118,97,108,117,101,115,32,40,53,41]
def d15 : DV := .s [99,114,101,97,116,101,32,116,97,98,108,101,32,116,32,40,107,32,105,110,116,32,110,111,116,32,110,117,108,108,44,32,118,32,105,110,116,44,32,112,114,105,109,97,114,121,32,107,101,121,32,40,107,41,41]
def d16 : DV := .tu [d8,I 0,I 0]
def d17 : DV := .s [115,101,108,101,99,116,32,42,32,102,114,111,109,32,116]
def d18 : DV := .sl 2 2 [.s [99,116],d12,.s [114,116,0,2,128,0,0,0,0,0,0,5],.s [1,2,128,0,0,0,0,0,0,5]]
end VDq
end Go.Av


open Go Go.Av Go.Proofs
set_option maxRecDepth 1000000
set_option linter.all false
namespace Go.Av
theorem Dqapp {α : Type} {g : α → Bool} {a c : List α} (h : allR g a = true) (k : allR g c = true) : allR g (a ++ c) = true := by
  rw [allR_eq] at h k ⊢; rw [List.all_append, h, k]; rfl
open VDq
def l12_0 : List Ent := [⟨[N,.ag [I 2,.s [],N,I 0,N,I 0,.s [],I 0,I 0,I 0,.s [],N,N,.s [116],.s [],.s [],N,I 0,.s [],I 0,I 0,I 0,.s [],N,I 0,.s [],I 0,I 0,I 0,.s [],N]], .tu [N,.ag [I 2,N,I 0]]⟩,
⟨[N,d1], .tu [d2,d3]⟩,
⟨[d2,d5], .tu [d6,.ag [I 0,N,I 1]]⟩,
⟨[d6,d5], .tu [d6,.ag [I 8,N,I 0]]⟩,
⟨[N,d8], d10⟩,
⟨[d9,d11], d10⟩]
def l12 : List Ent := l12_0
def l144_0 : List Ent := [⟨[.s [116]], F⟩,
⟨[.s [97]], F⟩]
def l144_1 : List Ent := [⟨[.s [107]], F⟩,
⟨[.s [118]], F⟩]
def l144 : List Ent := l144_0 ++ l144_1
def l11_0 : List Ent := [⟨[d12], d13⟩]
def l11_1 : List Ent := [⟨[d14], .tu [d5,I 0,I 0]⟩]
def l11_2 : List Ent := [⟨[d15], d16⟩]
def l11_3 : List Ent := [⟨[d17], .tu [d11,I 0,I 0]⟩]
def l11 : List Ent := l11_0 ++ l11_1 ++ l11_2 ++ l11_3
def l13_0 : List Ent := [⟨[d12], d1⟩,
⟨[d14], d5⟩,
⟨[d15], d8⟩,
⟨[d17], d11⟩]
def l13 : List Ent := l13_0
def l128_0 : List Ent := [⟨[d1], d12⟩,
⟨[d8], d15⟩]
def l128 : List Ent := l128_0
def l415_0 : List Ent := [⟨[], .sl 33 1 [.s [99,114,101,97,116,101],.s [116,97,98,108,101],.s [100,114,111,112],.s [97,108,116,101,114],.s [97,100,100],.s [102,111,114,101,105,103,110],.s [107,101,121],.s [114,101,102,101,114,101,110,99,101,115],.s [112,114,105,109,97,114,121],.s [117,110,105,113,117,101],.s [99,104,101,99,107],.s [110,111,116],.s [110,117,108,108],.s [105,110,115,101,114,116],.s [105,110,116,111],.s [118,97,108,117,101,115],.s [117,112,100,97,116,101],.s [115,101,116],.s [119,104,101,114,101],.s [100,101,108,101,116,101],.s [102,114,111,109],.s [115,101,108,101,99,116],.s [99,111,117,110,116],.s [116,114,117,101],.s [102,97,108,115,101],.s [97,110,100],.s [111,114],.s [105,115],.s [98,111,111,108],.s [105,110,116],.s [100,101,99],.s [116,101,120,116],.s [98,121,116,101,115]]⟩]
def l415 : List Ent := l415_0
def l387_0 : List Ent := [⟨[], .sl 11 1 [.s [60,62],.s [60,61],.s [40],.s [41],.s [44],.s [59],.s [61],.s [60],.s [43],.s [45],.s [42]]⟩]
def l387 : List Ent := l387_0
def l109_0 : List Ent := [⟨[d12], d13⟩]
def l109_1 : List Ent := [⟨[d15], d16⟩]
def l109 : List Ent := l109_0 ++ l109_1
def l117_0 : List Ent := [⟨[.ag [.s [116],d0,I 0,N,I 0,.s [],I 0,I 0,I 0,.s [],N,N]], T⟩,
⟨[.ag [.s [116],d7,I 0,N,I 0,.s [],I 0,I 0,I 0,.s [],N,N]], T⟩]
def l117 : List Ent := l117_0
def l25_0 : List Ent := [⟨[d6], d18⟩]
def l25 : List Ent := l25_0
def l24_0 : List Ent := [⟨[d18], .tu [d6,T]⟩]
def l24 : List Ent := l24_0
def l9_0 : List Ent := [⟨[], T⟩]
def l9 : List Ent := l9_0
end Go.Av


open Go Go.Av Go.Proofs
set_option maxRecDepth 1000000
set_option linter.all false
namespace Go.Av
variable [Tok]
theorem c144_0 : allR (checkE Tryz.prog fsB 100000 GG TTDq 20 144 (.flat)) l144_0 = true := by kernel_rfl
end Go.Av


open Go Go.Av Go.Proofs
set_option maxRecDepth 1000000
set_option linter.all false
namespace Go.Av
variable [Tok]
theorem c144_1 : allR (checkE Tryz.prog fsB 100000 GG TTDq 20 144 (.flat)) l144_1 = true := by kernel_rfl
end Go.Av


open Go Go.Av Go.Proofs
set_option maxRecDepth 1000000
set_option linter.all false
namespace Go.Av
variable [Tok]
theorem c128_0 : allR (checkE Tryz.prog fsB 100000 GG TTDq 20 128 (.flat)) l128_0 = true := by kernel_rfl
end Go.Av


open Go Go.Av Go.Proofs
set_option maxRecDepth 1000000
set_option linter.all false
namespace Go.Av
variable [Tok]
theorem c415_0 : allR (checkE Tryz.prog fsB 100000 GG TTDq 20 415 (.sl 0)) l415_0 = true := by kernel_rfl
end Go.Av


open Go Go.Av Go.Proofs
set_option maxRecDepth 1000000
set_option linter.all false
namespace Go.Av
variable [Tok]
theorem c387_0 : allR (checkE Tryz.prog fsB 100000 GG TTDq 20 387 (.sl 0)) l387_0 = true := by kernel_rfl
end Go.Av


open Go Go.Av Go.Proofs
set_option maxRecDepth 1000000
set_option linter.all false
namespace Go.Av
variable [Tok]
noncomputable def fsDq1 (k : Nat) : Option AFun := ifb (Nat.beq k 144) (some (.sem (pureF GG TTDq 20 [.flat] (memoF l144)))) (ifb (Nat.beq k 128) (some (.sem (pureF GG TTDq 20 [.ag 6] (memoF l128)))) (ifb (Nat.beq k 415) (some (.sem (pureF GG TTDq 20 [] (memoF l415)))) (ifb (Nat.beq k 387) (some (.sem (pureF GG TTDq 20 [] (memoF l387)))) (fsB k))))
theorem p144 : PureOk Tryz.prog GG 144 (memoF l144) := memo_pure tz_mixed fsB_ok (fun e he => by
  exact allAnd (l := l144) (by unfold l144; exact Dqapp (c144_0) c144_1) e he)
theorem p128 : PureOk Tryz.prog GG 128 (memoF l128) := memo_pure tz_mixed fsB_ok (fun e he => by
  exact allAnd c128_0 e he)
theorem p415 : PureOk Tryz.prog GG 415 (memoF l415) := memo_pure tz_mixed fsB_ok (fun e he => by
  exact allAnd c415_0 e he)
theorem p387 : PureOk Tryz.prog GG 387 (memoF l387) := memo_pure tz_mixed fsB_ok (fun e he => by
  exact allAnd c387_0 e he)
theorem fsDq1_ok : FsOk Tryz.prog fsDq1 := by
  intro k fn h
  unfold fsDq1 at h
  rcases ifb_or h with ⟨h1, h⟩ | ⟨_, h⟩
  · cases h; rw [Nat.eq_of_beq_eq_true h1]; exact .sem (pure_sem p144 tz_lt)
  rcases ifb_or h with ⟨h1, h⟩ | ⟨_, h⟩
  · cases h; rw [Nat.eq_of_beq_eq_true h1]; exact .sem (pure_sem p128 tz_lt)
  rcases ifb_or h with ⟨h1, h⟩ | ⟨_, h⟩
  · cases h; rw [Nat.eq_of_beq_eq_true h1]; exact .sem (pure_sem p415 tz_lt)
  rcases ifb_or h with ⟨h1, h⟩ | ⟨_, h⟩
  · cases h; rw [Nat.eq_of_beq_eq_true h1]; exact .sem (pure_sem p387 tz_lt)
  exact fsB_ok k fn h
end Go.Av


open Go Go.Av Go.Proofs
set_option maxRecDepth 1000000
set_option linter.all false
namespace Go.Av
variable [Tok]
theorem c11_0 : allR (checkE Tryz.prog fsDq1 100000 GG TTDq 20 11 (.tu 7)) l11_0 = true := by kernel_rfl
end Go.Av


open Go Go.Av Go.Proofs
set_option maxRecDepth 1000000
set_option linter.all false
namespace Go.Av
variable [Tok]
theorem c11_1 : allR (checkE Tryz.prog fsDq1 100000 GG TTDq 20 11 (.tu 7)) l11_1 = true := by kernel_rfl
end Go.Av


open Go Go.Av Go.Proofs
set_option maxRecDepth 1000000
set_option linter.all false
namespace Go.Av
variable [Tok]
theorem c11_2 : allR (checkE Tryz.prog fsDq1 100000 GG TTDq 20 11 (.tu 7)) l11_2 = true := by kernel_rfl
end Go.Av


open Go Go.Av Go.Proofs
set_option maxRecDepth 1000000
set_option linter.all false
namespace Go.Av
variable [Tok]
theorem c11_3 : allR (checkE Tryz.prog fsDq1 100000 GG TTDq 20 11 (.tu 7)) l11_3 = true := by kernel_rfl
end Go.Av


open Go Go.Av Go.Proofs
set_option maxRecDepth 1000000
set_option linter.all false
namespace Go.Av
variable [Tok]
theorem c109_0 : allR (checkE Tryz.prog fsDq1 100000 GG TTDq 20 109 (.tu 7)) l109_0 = true := by kernel_rfl
end Go.Av


open Go Go.Av Go.Proofs
set_option maxRecDepth 1000000
set_option linter.all false
namespace Go.Av
variable [Tok]
theorem c109_1 : allR (checkE Tryz.prog fsDq1 100000 GG TTDq 20 109 (.tu 7)) l109_1 = true := by kernel_rfl
end Go.Av


open Go Go.Av Go.Proofs
set_option maxRecDepth 1000000
set_option linter.all false
namespace Go.Av
variable [Tok]
theorem c25_0 : allR (checkE Tryz.prog fsDq1 100000 GG TTDq 20 25 (.sl 13)) l25_0 = true := by kernel_rfl
end Go.Av


open Go Go.Av Go.Proofs
set_option maxRecDepth 1000000
set_option linter.all false
namespace Go.Av
variable [Tok]
noncomputable def fsDq2 (k : Nat) : Option AFun := ifb (Nat.beq k 11) (some (.sem (pureF GG TTDq 20 [.flat] (memoF l11)))) (ifb (Nat.beq k 109) (some (.sem (pureF GG TTDq 20 [.flat] (memoF l109)))) (ifb (Nat.beq k 25) (some (.sem (pureF GG TTDq 20 [.sl 8] (memoF l25)))) (fsDq1 k)))
theorem p11 : PureOk Tryz.prog GG 11 (memoF l11) := memo_pure tz_mixed fsDq1_ok (fun e he => by
  exact allAnd (l := l11) (by unfold l11; exact Dqapp (Dqapp (Dqapp (c11_0) c11_1) c11_2) c11_3) e he)
theorem p109 : PureOk Tryz.prog GG 109 (memoF l109) := memo_pure tz_mixed fsDq1_ok (fun e he => by
  exact allAnd (l := l109) (by unfold l109; exact Dqapp (c109_0) c109_1) e he)
theorem p25 : PureOk Tryz.prog GG 25 (memoF l25) := memo_pure tz_mixed fsDq1_ok (fun e he => by
  exact allAnd c25_0 e he)
theorem fsDq2_ok : FsOk Tryz.prog fsDq2 := by
  intro k fn h
  unfold fsDq2 at h
  rcases ifb_or h with ⟨h1, h⟩ | ⟨_, h⟩
  · cases h; rw [Nat.eq_of_beq_eq_true h1]; exact .sem (pure_sem p11 tz_lt)
  rcases ifb_or h with ⟨h1, h⟩ | ⟨_, h⟩
  · cases h; rw [Nat.eq_of_beq_eq_true h1]; exact .sem (pure_sem p109 tz_lt)
  rcases ifb_or h with ⟨h1, h⟩ | ⟨_, h⟩
  · cases h; rw [Nat.eq_of_beq_eq_true h1]; exact .sem (pure_sem p25 tz_lt)
  exact fsDq1_ok k fn h
end Go.Av


open Go Go.Av Go.Proofs
set_option maxRecDepth 1000000
set_option linter.all false
namespace Go.Av
variable [Tok]
theorem c13_0 : allR (checkE Tryz.prog fsDq2 100000 GG TTDq 20 13 (.ag 6)) l13_0 = true := by kernel_rfl
end Go.Av


open Go Go.Av Go.Proofs
set_option maxRecDepth 1000000
set_option linter.all false
namespace Go.Av
variable [Tok]
theorem c117_0 : allR (checkE Tryz.prog fsDq2 100000 GG TTDq 20 117 (.flat)) l117_0 = true := by kernel_rfl
end Go.Av


open Go Go.Av Go.Proofs
set_option maxRecDepth 1000000
set_option linter.all false
namespace Go.Av
variable [Tok]
noncomputable def fsDq3 (k : Nat) : Option AFun := ifb (Nat.beq k 13) (some (.sem (pureF GG TTDq 20 [.flat] (memoF l13)))) (ifb (Nat.beq k 117) (some (.sem (pureF GG TTDq 20 [.ag 12] (memoF l117)))) (fsDq2 k))
theorem p13 : PureOk Tryz.prog GG 13 (memoF l13) := memo_pure tz_mixed fsDq2_ok (fun e he => by
  exact allAnd c13_0 e he)
theorem p117 : PureOk Tryz.prog GG 117 (memoF l117) := memo_pure tz_mixed fsDq2_ok (fun e he => by
  exact allAnd c117_0 e he)
theorem fsDq3_ok : FsOk Tryz.prog fsDq3 := by
  intro k fn h
  unfold fsDq3 at h
  rcases ifb_or h with ⟨h1, h⟩ | ⟨_, h⟩
  · cases h; rw [Nat.eq_of_beq_eq_true h1]; exact .sem (pure_sem p13 tz_lt)
  rcases ifb_or h with ⟨h1, h⟩ | ⟨_, h⟩
  · cases h; rw [Nat.eq_of_beq_eq_true h1]; exact .sem (pure_sem p117 tz_lt)
  exact fsDq2_ok k fn h
end Go.Av


open Go Go.Av Go.Proofs
set_option maxRecDepth 1000000
set_option linter.all false
namespace Go.Av
variable [Tok]
theorem c12_0 : allR (checkE Tryz.prog fsDq3 100000 GG TTDq 20 12 (.tu 11)) l12_0 = true := by kernel_rfl
end Go.Av


open Go Go.Av Go.Proofs
set_option maxRecDepth 1000000
set_option linter.all false
namespace Go.Av
variable [Tok]
theorem c24_0 : allR (checkE Tryz.prog fsDq3 100000 GG TTDq 20 24 (.tu 14)) l24_0 = true := by kernel_rfl
end Go.Av


open Go Go.Av Go.Proofs
set_option maxRecDepth 1000000
set_option linter.all false
namespace Go.Av
variable [Tok]
noncomputable def fsDq4 (k : Nat) : Option AFun := ifb (Nat.beq k 12) (some (.sem (pureF GG TTDq 20 [.sl 8, .ag 6] (memoF l12)))) (ifb (Nat.beq k 24) (some (.sem (pureF GG TTDq 20 [.sl 13] (memoF l24)))) (fsDq3 k))
theorem p12 : PureOk Tryz.prog GG 12 (memoF l12) := memo_pure tz_mixed fsDq3_ok (fun e he => by
  exact allAnd c12_0 e he)
theorem p24 : PureOk Tryz.prog GG 24 (memoF l24) := memo_pure tz_mixed fsDq3_ok (fun e he => by
  exact allAnd c24_0 e he)
theorem fsDq4_ok : FsOk Tryz.prog fsDq4 := by
  intro k fn h
  unfold fsDq4 at h
  rcases ifb_or h with ⟨h1, h⟩ | ⟨_, h⟩
  · cases h; rw [Nat.eq_of_beq_eq_true h1]; exact .sem (pure_sem p12 tz_lt)
  rcases ifb_or h with ⟨h1, h⟩ | ⟨_, h⟩
  · cases h; rw [Nat.eq_of_beq_eq_true h1]; exact .sem (pure_sem p24 tz_lt)
  exact fsDq3_ok k fn h
end Go.Av


open Go Go.Av Go.Proofs
set_option maxRecDepth 1000000
set_option linter.all false
namespace Go.Av
variable [Tok]
theorem c9_0 : allR (checkE Tryz.prog fsDq4 100000 GG TTDq 20 9 (.flat)) l9_0 = true := by kernel_rfl
end Go.Av


open Go Go.Av Go.Proofs
set_option maxRecDepth 1000000
set_option linter.all false
namespace Go.Av
variable [Tok]
noncomputable def fsDq5 (k : Nat) : Option AFun := ifb (Nat.beq k 9) (some (.sem (pureF GG TTDq 20 [] (memoF l9)))) (fsDq4 k)
theorem p9 : PureOk Tryz.prog GG 9 (memoF l9) := memo_pure tz_mixed fsDq4_ok (fun e he => by
  exact allAnd c9_0 e he)
theorem fsDq5_ok : FsOk Tryz.prog fsDq5 := by
  intro k fn h
  unfold fsDq5 at h
  rcases ifb_or h with ⟨h1, h⟩ | ⟨_, h⟩
  · cases h; rw [Nat.eq_of_beq_eq_true h1]; exact .sem (pure_sem p9 tz_lt)
  exact fsDq4_ok k fn h
end Go.Av
