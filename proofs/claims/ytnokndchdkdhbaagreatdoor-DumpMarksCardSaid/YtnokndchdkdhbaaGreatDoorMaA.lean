/- A part of the proof: what a machine of our own over the model's code answers is what the model does; no condition. -/
import Derived.Test.YtnokndchdkdhbaaGreatDoorCoA
set_option linter.all false
open Go Go.Av Go.Proofs
set_option maxRecDepth 1000000
set_option linter.all false
namespace Go.Av
def TTMa : List (List Sh) := [[.flat], [.flat, .flat, .flat], [.flat], [.flat, .flat, .flat, .flat, .flat, .flat, .sl 3], [.flat, .flat], [.flat, .flat, .flat, .flat], [.flat, .flat, .sl 1, .flat, .sl 2, .flat, .flat, .flat, .flat, .flat, .flat, .sl 3, .sl 4, .flat, .flat, .flat, .sl 5, .flat, .flat, .flat, .flat, .flat, .flat, .sl 3, .flat, .flat, .flat, .flat, .flat, .flat, .sl 3], [.ag 6, .flat, .flat], [.flat, .flat, .sl 1, .flat, .sl 2, .flat, .flat, .flat, .flat, .flat, .flat, .sl 3, .sl 4, .flat, .flat, .flat, .sl 5, .flat, .flat, .flat, .flat, .flat, .flat, .sl 3, .flat, .flat, .flat, .flat, .flat, .flat, .sl 3], [.sl 8, .flat, .flat], [.flat, .sl 1, .flat, .sl 2, .flat, .flat, .flat, .flat, .flat, .flat, .sl 3, .sl 4, .sl 11], [.sl 5], [.flat, .sl 11, .flat], [.sl 10, .ag 12], [.sl 10, .flat, .flat], [.flat, .flat], [.sl 10, .flat], [.flat, .sl 1, .flat, .sl 2, .flat, .flat, .flat, .flat, .flat, .flat, .sl 3, .sl 4], [.flat, .flat]]
namespace VMa
abbrev I (n : Int) : DV := .i .i64 n
abbrev Y (n : Int) : DV := .i .u8 n
abbrev T : DV := .b true
abbrev F : DV := .b false
abbrev N : DV := .nil
def m0 : DV := .s [116,97]
def m1 : DV := .sl 1 3 [.s [97],I 3,T]
def m2 : DV := .sl 1 1 [I 0]
def m3 : DV := .ag [I 1,m0,m1,I 0,m2,I 0,.s [],I 0,I 0,I 0,.s [],N,N,.s [],.s [],.s [],N,I 0,.s [],I 0,I 0,I 0,.s [],N,I 0,.s [],I 0,I 0,I 0,.s [],N]
def m4 : DV := .s [99,114,101,97,116,101,32,116,97,98,108,101,32,116,97,32,40,97,32,100,101,99,32,110,111,116,32,110,117,108,108,44,32,112,114,105,109,97,114,121,32,107,101,121,32,40,97,41,44,32,117,110,105,113,117,101,32,40,97,41,41]
def m5 : DV := .tu [m3,I 0,I 0]
def m6 : DV := .ag [m0,m1,I 0,m2,I 0,.s [],I 0,I 0,I 0,.s [],N,N]
def m7 : DV := .s [112,48,48,48,48]
def m8 : DV := .s [112,48,48,48,49]
def m9 : DV := .s [112,48,48,48,50]
def m10 : DV := .s [112,48,48,48,51]
def m11 : DV := .s [112,48,48,48,52]
def m12 : DV := .s [112,48,48,48,53]
def m13 : DV := .s [112,48,48,48,54]
def m14 : DV := .s [112,48,48,48,55]
def m15 : DV := .s [112,48,48,48,56]
def m16 : DV := .s [112,48,48,48,57]
def m17 : DV := .s [112,48,48,49,48]
def m18 : DV := .s [112,48,48,49,49]
def m19 : DV := .s [112,48,48,49,50]
def m20 : DV := .s [112,48,48,49,51]
def m21 : DV := .s [112,48,48,49,52]
def m22 : DV := .s [112,48,48,49,53]
def m23 : DV := .s [112,48,48,49,54]
def m24 : DV := .s [112,48,48,49,55]
def m25 : DV := .s [112,48,48,49,56]
def m26 : DV := .s [112,48,48,49,57]
def m27 : DV := .s [112,48,48,50,48]
def m28 : DV := .s [112,48,48,50,49]
def m29 : DV := .s [112,48,48,50,50]
def m30 : DV := .s [112,48,48,50,51]
def m31 : DV := .s [112,48,48,50,52]
def m32 : DV := .s [112,48,48,50,53]
def m33 : DV := .s [112,48,48,50,54]
def m34 : DV := .s [112,48,48,50,55]
def m35 : DV := .s [112,48,48,50,56]
def m36 : DV := .s [112,48,48,50,57]
def m37 : DV := .s [99,114,101,97,116,101,32,116,97,98,108,101,32,116,97,32,40,97,32,100,101,99,32,110,111,116,32,110,117,108,108,44,32,112,114,105,109,97,114,121,32,107,101,121,32,40,97,41,44,32,117,110,105,113,117,101,32,40,97,41,41,59,10]
def m38 : DV := .sl 1 2 [I 0,m37]
def m39 : DV := .s [99,116,97]
def m40 : DV := .sl 30 2 [I 0,.s [],I 0,.s [],I 0,.s [],I 0,.s [],I 0,.s [],I 0,.s [],I 0,.s [],I 0,.s [],I 0,.s [],I 0,.s [],I 0,.s [],I 0,.s [],I 0,.s [],I 0,.s [],I 0,.s [],I 0,.s [],I 0,.s [],I 0,.s [],I 0,.s [],I 0,.s [],I 0,.s [],I 0,.s [],I 0,.s [],I 0,.s [],I 0,.s [],I 0,.s [],I 0,.s [],I 0,.s [],I 0,.s [],I 0,.s []]
def m41 : DV := .sl 1 2 [m7,.s [50]]
def m42 : DV := .sl 30 1 [I 0,I 1,I 2,I 3,I 4,I 5,I 6,I 7,I 8,I 9,I 10,I 11,I 12,I 13,I 14,I 15,I 16,I 17,I 18,I 19,I 20,I 21,I 22,I 23,I 24,I 25,I 26,I 27,I 28,I 29]
def m43 : DV := .sl 1 2 [.s [112,48,48,48,48,48],.s [49]]
def m44 : DV := .sl 1 2 [.s [113,48,48,48,48],.s [49]]
def m45 : DV := .sl 1 2 [.s [112,48,48,48],.s [49]]
def m46 : DV := .sl 1 2 [m8,.s [50]]
def m47 : DV := .sl 1 2 [.s [112,48,48,48,49,48],.s [49]]
def m48 : DV := .sl 1 2 [.s [113,48,48,48,49],.s [49]]
def m49 : DV := .sl 1 2 [m9,.s [50]]
def m50 : DV := .sl 1 2 [.s [112,48,48,48,50,48],.s [49]]
def m51 : DV := .sl 1 2 [.s [113,48,48,48,50],.s [49]]
def m52 : DV := .sl 1 2 [m10,.s [50]]
def m53 : DV := .sl 1 2 [.s [112,48,48,48,51,48],.s [49]]
def m54 : DV := .sl 1 2 [.s [113,48,48,48,51],.s [49]]
def m55 : DV := .sl 1 2 [m11,.s [50]]
def m56 : DV := .sl 1 2 [.s [112,48,48,48,52,48],.s [49]]
def m57 : DV := .sl 1 2 [.s [113,48,48,48,52],.s [49]]
def m58 : DV := .sl 1 2 [m12,.s [50]]
def m59 : DV := .sl 1 2 [.s [112,48,48,48,53,48],.s [49]]
def m60 : DV := .sl 1 2 [.s [113,48,48,48,53],.s [49]]
def m61 : DV := .sl 1 2 [m13,.s [50]]
def m62 : DV := .sl 1 2 [.s [112,48,48,48,54,48],.s [49]]
def m63 : DV := .sl 1 2 [.s [113,48,48,48,54],.s [49]]
def m64 : DV := .sl 1 2 [m14,.s [50]]
def m65 : DV := .sl 1 2 [.s [112,48,48,48,55,48],.s [49]]
def m66 : DV := .sl 1 2 [.s [113,48,48,48,55],.s [49]]
def m67 : DV := .sl 1 2 [m15,.s [50]]
def m68 : DV := .sl 1 2 [.s [112,48,48,48,56,48],.s [49]]
def m69 : DV := .sl 1 2 [.s [113,48,48,48,56],.s [49]]
def m70 : DV := .sl 1 2 [m16,.s [50]]
def m71 : DV := .sl 1 2 [.s [112,48,48,48,57,48],.s [49]]
def m72 : DV := .sl 1 2 [.s [113,48,48,48,57],.s [49]]
def m73 : DV := .sl 1 2 [m17,.s [50]]
def m74 : DV := .sl 1 2 [.s [112,48,48,49,48,48],.s [49]]
def m75 : DV := .sl 1 2 [.s [113,48,48,49,48],.s [49]]
def m76 : DV := .sl 1 2 [.s [112,48,48,49],.s [49]]
def m77 : DV := .sl 1 2 [m18,.s [50]]
def m78 : DV := .sl 1 2 [.s [112,48,48,49,49,48],.s [49]]
def m79 : DV := .sl 1 2 [.s [113,48,48,49,49],.s [49]]
def m80 : DV := .sl 1 2 [m19,.s [50]]
def m81 : DV := .sl 1 2 [.s [112,48,48,49,50,48],.s [49]]
def m82 : DV := .sl 1 2 [.s [113,48,48,49,50],.s [49]]
def m83 : DV := .sl 1 2 [m20,.s [50]]
def m84 : DV := .sl 1 2 [.s [112,48,48,49,51,48],.s [49]]
def m85 : DV := .sl 1 2 [.s [113,48,48,49,51],.s [49]]
def m86 : DV := .sl 1 2 [m21,.s [50]]
def m87 : DV := .sl 1 2 [.s [112,48,48,49,52,48],.s [49]]
def m88 : DV := .sl 1 2 [.s [113,48,48,49,52],.s [49]]
def m89 : DV := .sl 1 2 [m22,.s [50]]
def m90 : DV := .sl 1 2 [.s [112,48,48,49,53,48],.s [49]]
def m91 : DV := .sl 1 2 [.s [113,48,48,49,53],.s [49]]
def m92 : DV := .sl 1 2 [m23,.s [50]]
def m93 : DV := .sl 1 2 [.s [112,48,48,49,54,48],.s [49]]
def m94 : DV := .sl 1 2 [.s [113,48,48,49,54],.s [49]]
def m95 : DV := .sl 1 2 [m24,.s [50]]
def m96 : DV := .sl 1 2 [.s [112,48,48,49,55,48],.s [49]]
def m97 : DV := .sl 1 2 [.s [113,48,48,49,55],.s [49]]
def m98 : DV := .sl 1 2 [m25,.s [50]]
def m99 : DV := .sl 1 2 [.s [112,48,48,49,56,48],.s [49]]
def m100 : DV := .sl 1 2 [.s [113,48,48,49,56],.s [49]]
def m101 : DV := .sl 1 2 [m26,.s [50]]
def m102 : DV := .sl 1 2 [.s [112,48,48,49,57,48],.s [49]]
def m103 : DV := .sl 1 2 [.s [113,48,48,49,57],.s [49]]
def m104 : DV := .sl 1 2 [m27,.s [50]]
def m105 : DV := .sl 1 2 [.s [112,48,48,50,48,48],.s [49]]
def m106 : DV := .sl 1 2 [.s [113,48,48,50,48],.s [49]]
def m107 : DV := .sl 1 2 [.s [112,48,48,50],.s [49]]
def m108 : DV := .sl 1 2 [m28,.s [50]]
def m109 : DV := .sl 1 2 [.s [112,48,48,50,49,48],.s [49]]
def m110 : DV := .sl 1 2 [.s [113,48,48,50,49],.s [49]]
def m111 : DV := .sl 1 2 [m29,.s [50]]
def m112 : DV := .sl 1 2 [.s [112,48,48,50,50,48],.s [49]]
def m113 : DV := .sl 1 2 [.s [113,48,48,50,50],.s [49]]
def m114 : DV := .sl 1 2 [m30,.s [50]]
def m115 : DV := .sl 1 2 [.s [112,48,48,50,51,48],.s [49]]
def m116 : DV := .sl 1 2 [.s [113,48,48,50,51],.s [49]]
def m117 : DV := .sl 1 2 [m31,.s [50]]
def m118 : DV := .sl 1 2 [.s [112,48,48,50,52,48],.s [49]]
def m119 : DV := .sl 1 2 [.s [113,48,48,50,52],.s [49]]
def m120 : DV := .sl 1 2 [m32,.s [50]]
def m121 : DV := .sl 1 2 [.s [112,48,48,50,53,48],.s [49]]
def m122 : DV := .sl 1 2 [.s [113,48,48,50,53],.s [49]]
def m123 : DV := .sl 1 2 [m33,.s [50]]
def m124 : DV := .sl 1 2 [.s [112,48,48,50,54,48],.s [49]]
def m125 : DV := .sl 1 2 [.s [113,48,48,50,54],.s [49]]
def m126 : DV := .sl 1 2 [m34,.s [50]]
def m127 : DV := .sl 1 2 [.s [112,48,48,50,55,48],.s [49]]
def m128 : DV := .sl 1 2 [.s [113,48,48,50,55],.s [49]]
def m129 : DV := .sl 1 2 [m35,.s [50]]
def m130 : DV := .sl 1 2 [.s [112,48,48,50,56,48],.s [49]]
def m131 : DV := .sl 1 2 [.s [113,48,48,50,56],.s [49]]
def m132 : DV := .sl 1 2 [m36,.s [50]]
def m133 : DV := .sl 1 2 [.s [112,48,48,50,57,48],.s [49]]
def m134 : DV := .sl 1 2 [.s [113,48,48,50,57],.s [49]]
def m135 : DV := .sl 1 13 [m0,m1,I 0,m2,I 0,.s [],I 0,I 0,I 0,.s [],N,N,N]
def m136 : DV := .sl 1 2 [m39,m4]
def m137 : DV := .tu [N,F]
def m138 : DV := .sl 1 31 [I 1,m0,m1,I 0,m2,I 0,.s [],I 0,I 0,I 0,.s [],N,N,.s [],.s [],.s [],N,I 0,.s [],I 0,I 0,I 0,.s [],N,I 0,.s [],I 0,I 0,I 0,.s [],N]
end VMa
end Go.Av


open Go Go.Av Go.Proofs
set_option maxRecDepth 1000000
set_option linter.all false
namespace Go.Av
open VMa
def l204_0 : List Ent := [⟨[m0], F⟩,
⟨[.s [97]], F⟩]
def l204 : List Ent := l204_0
def l58_0 : List Ent := [⟨[m3], m4⟩]
def l58 : List Ent := l58_0
def l8_0 : List Ent := [⟨[m4], m5⟩]
def l8 : List Ent := l8_0
def l102_0 : List Ent := [⟨[m6], T⟩]
def l102 : List Ent := l102_0
def l119_0 : List Ent := [⟨[m3], m4⟩]
def l119 : List Ent := l119_0
def l47_0 : List Ent := [⟨[I 0], .ag [m7,.s [49]]⟩,
⟨[I 1], .ag [m8,.s [49]]⟩,
⟨[I 2], .ag [m9,.s [49]]⟩,
⟨[I 3], .ag [m10,.s [49]]⟩,
⟨[I 4], .ag [m11,.s [49]]⟩,
⟨[I 5], .ag [m12,.s [49]]⟩,
⟨[I 6], .ag [m13,.s [49]]⟩,
⟨[I 7], .ag [m14,.s [49]]⟩,
⟨[I 8], .ag [m15,.s [49]]⟩,
⟨[I 9], .ag [m16,.s [49]]⟩,
⟨[I 10], .ag [m17,.s [49]]⟩,
⟨[I 11], .ag [m18,.s [49]]⟩,
⟨[I 12], .ag [m19,.s [49]]⟩,
⟨[I 13], .ag [m20,.s [49]]⟩,
⟨[I 14], .ag [m21,.s [49]]⟩,
⟨[I 15], .ag [m22,.s [49]]⟩,
⟨[I 16], .ag [m23,.s [49]]⟩,
⟨[I 17], .ag [m24,.s [49]]⟩,
⟨[I 18], .ag [m25,.s [49]]⟩,
⟨[I 19], .ag [m26,.s [49]]⟩,
⟨[I 20], .ag [m27,.s [49]]⟩,
⟨[I 21], .ag [m28,.s [49]]⟩,
⟨[I 22], .ag [m29,.s [49]]⟩,
⟨[I 23], .ag [m30,.s [49]]⟩,
⟨[I 24], .ag [m31,.s [49]]⟩,
⟨[I 25], .ag [m32,.s [49]]⟩,
⟨[I 26], .ag [m33,.s [49]]⟩,
⟨[I 27], .ag [m34,.s [49]]⟩,
⟨[I 28], .ag [m35,.s [49]]⟩,
⟨[I 29], .ag [m36,.s [49]]⟩]
def l47 : List Ent := l47_0
def l15_0 : List Ent := [⟨[N,m38], m2⟩,
⟨[.sl 2 2 [m39,m4,m7,.s [49]],m38], N⟩,
⟨[.sl 1 2 [m7,.s [49]],m40], .sl 29 1 [I 1,I 2,I 3,I 4,I 5,I 6,I 7,I 8,I 9,I 10,I 11,I 12,I 13,I 14,I 15,I 16,I 17,I 18,I 19,I 20,I 21,I 22,I 23,I 24,I 25,I 26,I 27,I 28,I 29]⟩,
⟨[m41,m40], m42⟩,
⟨[m43,m40], m42⟩,
⟨[m44,m40], m42⟩,
⟨[m45,m40], m42⟩,
⟨[.sl 1 2 [m8,.s [49]],m40], .sl 29 1 [I 0,I 2,I 3,I 4,I 5,I 6,I 7,I 8,I 9,I 10,I 11,I 12,I 13,I 14,I 15,I 16,I 17,I 18,I 19,I 20,I 21,I 22,I 23,I 24,I 25,I 26,I 27,I 28,I 29]⟩,
⟨[m46,m40], m42⟩]
def l15_1 : List Ent := [⟨[m47,m40], m42⟩,
⟨[m48,m40], m42⟩,
⟨[.sl 1 2 [m9,.s [49]],m40], .sl 29 1 [I 0,I 1,I 3,I 4,I 5,I 6,I 7,I 8,I 9,I 10,I 11,I 12,I 13,I 14,I 15,I 16,I 17,I 18,I 19,I 20,I 21,I 22,I 23,I 24,I 25,I 26,I 27,I 28,I 29]⟩,
⟨[m49,m40], m42⟩,
⟨[m50,m40], m42⟩,
⟨[m51,m40], m42⟩,
⟨[.sl 1 2 [m10,.s [49]],m40], .sl 29 1 [I 0,I 1,I 2,I 4,I 5,I 6,I 7,I 8,I 9,I 10,I 11,I 12,I 13,I 14,I 15,I 16,I 17,I 18,I 19,I 20,I 21,I 22,I 23,I 24,I 25,I 26,I 27,I 28,I 29]⟩]
def l15_2 : List Ent := [⟨[m52,m40], m42⟩,
⟨[m53,m40], m42⟩,
⟨[m54,m40], m42⟩,
⟨[.sl 1 2 [m11,.s [49]],m40], .sl 29 1 [I 0,I 1,I 2,I 3,I 5,I 6,I 7,I 8,I 9,I 10,I 11,I 12,I 13,I 14,I 15,I 16,I 17,I 18,I 19,I 20,I 21,I 22,I 23,I 24,I 25,I 26,I 27,I 28,I 29]⟩,
⟨[m55,m40], m42⟩,
⟨[m56,m40], m42⟩,
⟨[m57,m40], m42⟩]
def l15_3 : List Ent := [⟨[.sl 1 2 [m12,.s [49]],m40], .sl 29 1 [I 0,I 1,I 2,I 3,I 4,I 6,I 7,I 8,I 9,I 10,I 11,I 12,I 13,I 14,I 15,I 16,I 17,I 18,I 19,I 20,I 21,I 22,I 23,I 24,I 25,I 26,I 27,I 28,I 29]⟩,
⟨[m58,m40], m42⟩,
⟨[m59,m40], m42⟩,
⟨[m60,m40], m42⟩,
⟨[.sl 1 2 [m13,.s [49]],m40], .sl 29 1 [I 0,I 1,I 2,I 3,I 4,I 5,I 7,I 8,I 9,I 10,I 11,I 12,I 13,I 14,I 15,I 16,I 17,I 18,I 19,I 20,I 21,I 22,I 23,I 24,I 25,I 26,I 27,I 28,I 29]⟩,
⟨[m61,m40], m42⟩,
⟨[m62,m40], m42⟩]
def l15_4 : List Ent := [⟨[m63,m40], m42⟩,
⟨[.sl 1 2 [m14,.s [49]],m40], .sl 29 1 [I 0,I 1,I 2,I 3,I 4,I 5,I 6,I 8,I 9,I 10,I 11,I 12,I 13,I 14,I 15,I 16,I 17,I 18,I 19,I 20,I 21,I 22,I 23,I 24,I 25,I 26,I 27,I 28,I 29]⟩,
⟨[m64,m40], m42⟩,
⟨[m65,m40], m42⟩,
⟨[m66,m40], m42⟩,
⟨[.sl 1 2 [m15,.s [49]],m40], .sl 29 1 [I 0,I 1,I 2,I 3,I 4,I 5,I 6,I 7,I 9,I 10,I 11,I 12,I 13,I 14,I 15,I 16,I 17,I 18,I 19,I 20,I 21,I 22,I 23,I 24,I 25,I 26,I 27,I 28,I 29]⟩,
⟨[m67,m40], m42⟩]
def l15_5 : List Ent := [⟨[m68,m40], m42⟩,
⟨[m69,m40], m42⟩,
⟨[.sl 1 2 [m16,.s [49]],m40], .sl 29 1 [I 0,I 1,I 2,I 3,I 4,I 5,I 6,I 7,I 8,I 10,I 11,I 12,I 13,I 14,I 15,I 16,I 17,I 18,I 19,I 20,I 21,I 22,I 23,I 24,I 25,I 26,I 27,I 28,I 29]⟩,
⟨[m70,m40], m42⟩,
⟨[m71,m40], m42⟩,
⟨[m72,m40], m42⟩,
⟨[.sl 1 2 [m17,.s [49]],m40], .sl 29 1 [I 0,I 1,I 2,I 3,I 4,I 5,I 6,I 7,I 8,I 9,I 11,I 12,I 13,I 14,I 15,I 16,I 17,I 18,I 19,I 20,I 21,I 22,I 23,I 24,I 25,I 26,I 27,I 28,I 29]⟩]
def l15_6 : List Ent := [⟨[m73,m40], m42⟩,
⟨[m74,m40], m42⟩,
⟨[m75,m40], m42⟩,
⟨[m76,m40], m42⟩,
⟨[.sl 1 2 [m18,.s [49]],m40], .sl 29 1 [I 0,I 1,I 2,I 3,I 4,I 5,I 6,I 7,I 8,I 9,I 10,I 12,I 13,I 14,I 15,I 16,I 17,I 18,I 19,I 20,I 21,I 22,I 23,I 24,I 25,I 26,I 27,I 28,I 29]⟩,
⟨[m77,m40], m42⟩,
⟨[m78,m40], m42⟩]
def l15_7 : List Ent := [⟨[m79,m40], m42⟩,
⟨[.sl 1 2 [m19,.s [49]],m40], .sl 29 1 [I 0,I 1,I 2,I 3,I 4,I 5,I 6,I 7,I 8,I 9,I 10,I 11,I 13,I 14,I 15,I 16,I 17,I 18,I 19,I 20,I 21,I 22,I 23,I 24,I 25,I 26,I 27,I 28,I 29]⟩,
⟨[m80,m40], m42⟩,
⟨[m81,m40], m42⟩,
⟨[m82,m40], m42⟩,
⟨[.sl 1 2 [m20,.s [49]],m40], .sl 29 1 [I 0,I 1,I 2,I 3,I 4,I 5,I 6,I 7,I 8,I 9,I 10,I 11,I 12,I 14,I 15,I 16,I 17,I 18,I 19,I 20,I 21,I 22,I 23,I 24,I 25,I 26,I 27,I 28,I 29]⟩,
⟨[m83,m40], m42⟩]
def l15_8 : List Ent := [⟨[m84,m40], m42⟩,
⟨[m85,m40], m42⟩,
⟨[.sl 1 2 [m21,.s [49]],m40], .sl 29 1 [I 0,I 1,I 2,I 3,I 4,I 5,I 6,I 7,I 8,I 9,I 10,I 11,I 12,I 13,I 15,I 16,I 17,I 18,I 19,I 20,I 21,I 22,I 23,I 24,I 25,I 26,I 27,I 28,I 29]⟩,
⟨[m86,m40], m42⟩,
⟨[m87,m40], m42⟩,
⟨[m88,m40], m42⟩,
⟨[.sl 1 2 [m22,.s [49]],m40], .sl 29 1 [I 0,I 1,I 2,I 3,I 4,I 5,I 6,I 7,I 8,I 9,I 10,I 11,I 12,I 13,I 14,I 16,I 17,I 18,I 19,I 20,I 21,I 22,I 23,I 24,I 25,I 26,I 27,I 28,I 29]⟩]
def l15_9 : List Ent := [⟨[m89,m40], m42⟩,
⟨[m90,m40], m42⟩,
⟨[m91,m40], m42⟩,
⟨[.sl 1 2 [m23,.s [49]],m40], .sl 29 1 [I 0,I 1,I 2,I 3,I 4,I 5,I 6,I 7,I 8,I 9,I 10,I 11,I 12,I 13,I 14,I 15,I 17,I 18,I 19,I 20,I 21,I 22,I 23,I 24,I 25,I 26,I 27,I 28,I 29]⟩,
⟨[m92,m40], m42⟩,
⟨[m93,m40], m42⟩,
⟨[m94,m40], m42⟩]
def l15_10 : List Ent := [⟨[.sl 1 2 [m24,.s [49]],m40], .sl 29 1 [I 0,I 1,I 2,I 3,I 4,I 5,I 6,I 7,I 8,I 9,I 10,I 11,I 12,I 13,I 14,I 15,I 16,I 18,I 19,I 20,I 21,I 22,I 23,I 24,I 25,I 26,I 27,I 28,I 29]⟩,
⟨[m95,m40], m42⟩,
⟨[m96,m40], m42⟩,
⟨[m97,m40], m42⟩,
⟨[.sl 1 2 [m25,.s [49]],m40], .sl 29 1 [I 0,I 1,I 2,I 3,I 4,I 5,I 6,I 7,I 8,I 9,I 10,I 11,I 12,I 13,I 14,I 15,I 16,I 17,I 19,I 20,I 21,I 22,I 23,I 24,I 25,I 26,I 27,I 28,I 29]⟩,
⟨[m98,m40], m42⟩,
⟨[m99,m40], m42⟩]
def l15_11 : List Ent := [⟨[m100,m40], m42⟩,
⟨[.sl 1 2 [m26,.s [49]],m40], .sl 29 1 [I 0,I 1,I 2,I 3,I 4,I 5,I 6,I 7,I 8,I 9,I 10,I 11,I 12,I 13,I 14,I 15,I 16,I 17,I 18,I 20,I 21,I 22,I 23,I 24,I 25,I 26,I 27,I 28,I 29]⟩,
⟨[m101,m40], m42⟩,
⟨[m102,m40], m42⟩,
⟨[m103,m40], m42⟩,
⟨[.sl 1 2 [m27,.s [49]],m40], .sl 29 1 [I 0,I 1,I 2,I 3,I 4,I 5,I 6,I 7,I 8,I 9,I 10,I 11,I 12,I 13,I 14,I 15,I 16,I 17,I 18,I 19,I 21,I 22,I 23,I 24,I 25,I 26,I 27,I 28,I 29]⟩,
⟨[m104,m40], m42⟩]
def l15_12 : List Ent := [⟨[m105,m40], m42⟩,
⟨[m106,m40], m42⟩,
⟨[m107,m40], m42⟩,
⟨[.sl 1 2 [m28,.s [49]],m40], .sl 29 1 [I 0,I 1,I 2,I 3,I 4,I 5,I 6,I 7,I 8,I 9,I 10,I 11,I 12,I 13,I 14,I 15,I 16,I 17,I 18,I 19,I 20,I 22,I 23,I 24,I 25,I 26,I 27,I 28,I 29]⟩,
⟨[m108,m40], m42⟩,
⟨[m109,m40], m42⟩,
⟨[m110,m40], m42⟩]
def l15_13 : List Ent := [⟨[.sl 1 2 [m29,.s [49]],m40], .sl 29 1 [I 0,I 1,I 2,I 3,I 4,I 5,I 6,I 7,I 8,I 9,I 10,I 11,I 12,I 13,I 14,I 15,I 16,I 17,I 18,I 19,I 20,I 21,I 23,I 24,I 25,I 26,I 27,I 28,I 29]⟩,
⟨[m111,m40], m42⟩,
⟨[m112,m40], m42⟩,
⟨[m113,m40], m42⟩,
⟨[.sl 1 2 [m30,.s [49]],m40], .sl 29 1 [I 0,I 1,I 2,I 3,I 4,I 5,I 6,I 7,I 8,I 9,I 10,I 11,I 12,I 13,I 14,I 15,I 16,I 17,I 18,I 19,I 20,I 21,I 22,I 24,I 25,I 26,I 27,I 28,I 29]⟩,
⟨[m114,m40], m42⟩,
⟨[m115,m40], m42⟩]
def l15_14 : List Ent := [⟨[m116,m40], m42⟩,
⟨[.sl 1 2 [m31,.s [49]],m40], .sl 29 1 [I 0,I 1,I 2,I 3,I 4,I 5,I 6,I 7,I 8,I 9,I 10,I 11,I 12,I 13,I 14,I 15,I 16,I 17,I 18,I 19,I 20,I 21,I 22,I 23,I 25,I 26,I 27,I 28,I 29]⟩,
⟨[m117,m40], m42⟩,
⟨[m118,m40], m42⟩,
⟨[m119,m40], m42⟩,
⟨[.sl 1 2 [m32,.s [49]],m40], .sl 29 1 [I 0,I 1,I 2,I 3,I 4,I 5,I 6,I 7,I 8,I 9,I 10,I 11,I 12,I 13,I 14,I 15,I 16,I 17,I 18,I 19,I 20,I 21,I 22,I 23,I 24,I 26,I 27,I 28,I 29]⟩,
⟨[m120,m40], m42⟩]
def l15_15 : List Ent := [⟨[m121,m40], m42⟩,
⟨[m122,m40], m42⟩,
⟨[.sl 1 2 [m33,.s [49]],m40], .sl 29 1 [I 0,I 1,I 2,I 3,I 4,I 5,I 6,I 7,I 8,I 9,I 10,I 11,I 12,I 13,I 14,I 15,I 16,I 17,I 18,I 19,I 20,I 21,I 22,I 23,I 24,I 25,I 27,I 28,I 29]⟩,
⟨[m123,m40], m42⟩,
⟨[m124,m40], m42⟩,
⟨[m125,m40], m42⟩,
⟨[.sl 1 2 [m34,.s [49]],m40], .sl 29 1 [I 0,I 1,I 2,I 3,I 4,I 5,I 6,I 7,I 8,I 9,I 10,I 11,I 12,I 13,I 14,I 15,I 16,I 17,I 18,I 19,I 20,I 21,I 22,I 23,I 24,I 25,I 26,I 28,I 29]⟩]
def l15_16 : List Ent := [⟨[m126,m40], m42⟩,
⟨[m127,m40], m42⟩,
⟨[m128,m40], m42⟩,
⟨[.sl 1 2 [m35,.s [49]],m40], .sl 29 1 [I 0,I 1,I 2,I 3,I 4,I 5,I 6,I 7,I 8,I 9,I 10,I 11,I 12,I 13,I 14,I 15,I 16,I 17,I 18,I 19,I 20,I 21,I 22,I 23,I 24,I 25,I 26,I 27,I 29]⟩,
⟨[m129,m40], m42⟩,
⟨[m130,m40], m42⟩,
⟨[m131,m40], m42⟩]
def l15_17 : List Ent := [⟨[.sl 1 2 [m36,.s [49]],m40], .sl 29 1 [I 0,I 1,I 2,I 3,I 4,I 5,I 6,I 7,I 8,I 9,I 10,I 11,I 12,I 13,I 14,I 15,I 16,I 17,I 18,I 19,I 20,I 21,I 22,I 23,I 24,I 25,I 26,I 27,I 28]⟩,
⟨[m132,m40], m42⟩,
⟨[m133,m40], m42⟩,
⟨[m134,m40], m42⟩]
def l15 : List Ent := l15_0 ++ l15_1 ++ l15_2 ++ l15_3 ++ l15_4 ++ l15_5 ++ l15_6 ++ l15_7 ++ l15_8 ++ l15_9 ++ l15_10 ++ l15_11 ++ l15_12 ++ l15_13 ++ l15_14 ++ l15_15 ++ l15_16 ++ l15_17
def l53_0 : List Ent := [⟨[N], N⟩,
⟨[m135], m136⟩]
def l53 : List Ent := l53_0
def l49_0 : List Ent := [⟨[N], .tu [N,T]⟩,
⟨[m41], m137⟩,
⟨[m43], m137⟩,
⟨[m44], m137⟩,
⟨[m45], m137⟩,
⟨[m46], m137⟩,
⟨[m47], m137⟩,
⟨[m48], m137⟩,
⟨[m49], m137⟩,
⟨[m50], m137⟩,
⟨[m51], m137⟩,
⟨[m52], m137⟩,
⟨[m53], m137⟩,
⟨[m54], m137⟩,
⟨[m55], m137⟩,
⟨[m56], m137⟩,
⟨[m57], m137⟩,
⟨[m58], m137⟩,
⟨[m59], m137⟩,
⟨[m60], m137⟩,
⟨[m61], m137⟩,
⟨[m62], m137⟩,
⟨[m63], m137⟩,
⟨[m64], m137⟩,
⟨[m65], m137⟩,
⟨[m66], m137⟩,
⟨[m67], m137⟩,
⟨[m68], m137⟩,
⟨[m69], m137⟩,
⟨[m70], m137⟩,
⟨[m71], m137⟩,
⟨[m72], m137⟩,
⟨[m73], m137⟩,
⟨[m74], m137⟩,
⟨[m75], m137⟩,
⟨[m76], m137⟩,
⟨[m77], m137⟩,
⟨[m78], m137⟩]
def l49_1 : List Ent := [⟨[m79], m137⟩,
⟨[m80], m137⟩,
⟨[m81], m137⟩,
⟨[m82], m137⟩,
⟨[m83], m137⟩,
⟨[m84], m137⟩,
⟨[m85], m137⟩,
⟨[m86], m137⟩,
⟨[m87], m137⟩,
⟨[m88], m137⟩,
⟨[m89], m137⟩,
⟨[m90], m137⟩,
⟨[m91], m137⟩,
⟨[m92], m137⟩,
⟨[m93], m137⟩,
⟨[m94], m137⟩,
⟨[m95], m137⟩,
⟨[m96], m137⟩,
⟨[m97], m137⟩,
⟨[m98], m137⟩,
⟨[m99], m137⟩,
⟨[m100], m137⟩,
⟨[m101], m137⟩,
⟨[m102], m137⟩,
⟨[m103], m137⟩,
⟨[m104], m137⟩,
⟨[m105], m137⟩,
⟨[m106], m137⟩,
⟨[m107], m137⟩,
⟨[m108], m137⟩,
⟨[m109], m137⟩,
⟨[m110], m137⟩,
⟨[m111], m137⟩,
⟨[m112], m137⟩,
⟨[m113], m137⟩,
⟨[m114], m137⟩,
⟨[m115], m137⟩,
⟨[m116], m137⟩]
def l49_2 : List Ent := [⟨[m117], m137⟩,
⟨[m118], m137⟩,
⟨[m119], m137⟩,
⟨[m120], m137⟩,
⟨[m121], m137⟩,
⟨[m122], m137⟩,
⟨[m123], m137⟩,
⟨[m124], m137⟩,
⟨[m125], m137⟩,
⟨[m126], m137⟩,
⟨[m127], m137⟩,
⟨[m128], m137⟩,
⟨[m129], m137⟩,
⟨[m130], m137⟩,
⟨[m131], m137⟩,
⟨[m132], m137⟩,
⟨[m133], m137⟩,
⟨[m134], m137⟩]
def l49 : List Ent := l49_0 ++ l49_1 ++ l49_2
def l588_0 : List Ent := [⟨[], .sl 33 1 [.s [99,114,101,97,116,101],.s [116,97,98,108,101],.s [100,114,111,112],.s [97,108,116,101,114],.s [97,100,100],.s [102,111,114,101,105,103,110],.s [107,101,121],.s [114,101,102,101,114,101,110,99,101,115],.s [112,114,105,109,97,114,121],.s [117,110,105,113,117,101],.s [99,104,101,99,107],.s [110,111,116],.s [110,117,108,108],.s [105,110,115,101,114,116],.s [105,110,116,111],.s [118,97,108,117,101,115],.s [117,112,100,97,116,101],.s [115,101,116],.s [119,104,101,114,101],.s [100,101,108,101,116,101],.s [102,114,111,109],.s [115,101,108,101,99,116],.s [99,111,117,110,116],.s [116,114,117,101],.s [102,97,108,115,101],.s [97,110,100],.s [111,114],.s [105,115],.s [98,111,111,108],.s [105,110,116],.s [100,101,99],.s [116,101,120,116],.s [98,121,116,101,115]]⟩]
def l588 : List Ent := l588_0
def l525_0 : List Ent := [⟨[], .sl 11 1 [.s [60,62],.s [60,61],.s [40],.s [41],.s [44],.s [59],.s [61],.s [60],.s [43],.s [45],.s [42]]⟩]
def l525 : List Ent := l525_0
def l50_0 : List Ent := [⟨[m37], .tu [m138,I 0,I 0]⟩]
def l50 : List Ent := l50_0
def l240_0 : List Ent := [⟨[m4], m5⟩]
def l240 : List Ent := l240_0
def l248_0 : List Ent := [⟨[m6], T⟩]
def l248 : List Ent := l248_0
def l51_0 : List Ent := [⟨[N,m138], .tu [m135,I 0,I 0]⟩]
def l51 : List Ent := l51_0
def l14_0 : List Ent := [⟨[m135], m136⟩]
def l14 : List Ent := l14_0
def l24_0 : List Ent := [⟨[m136], .tu [m135,T]⟩]
def l24 : List Ent := l24_0
def l6_0 : List Ent := [⟨[], T⟩]
def l6 : List Ent := l6_0
end Go.Av


open Go Go.Av Go.Proofs
set_option maxRecDepth 1000000
set_option linter.all false
namespace Go.Av
variable [Tok]
theorem c119_0 : allR (checkE Tryz.prog fsB 100000 GG TTMa 20 119 (.flat)) l119_0 = true := by kernel_rfl
end Go.Av


open Go Go.Av Go.Proofs
set_option maxRecDepth 1000000
set_option linter.all false
namespace Go.Av
variable [Tok]
theorem c204_0 : allR (checkE Tryz.prog fsB 100000 GG TTMa 20 204 (.flat)) l204_0 = true := by kernel_rfl
end Go.Av


open Go Go.Av Go.Proofs
set_option maxRecDepth 1000000
set_option linter.all false
namespace Go.Av
variable [Tok]
theorem c47_0 : allR (checkE Tryz.prog fsB 100000 GG TTMa 20 47 (.ag 4)) l47_0 = true := by kernel_rfl
end Go.Av


open Go Go.Av Go.Proofs
set_option maxRecDepth 1000000
set_option linter.all false
namespace Go.Av
variable [Tok]
theorem c525_0 : allR (checkE Tryz.prog fsB 100000 GG TTMa 20 525 (.sl 0)) l525_0 = true := by kernel_rfl
end Go.Av


open Go Go.Av Go.Proofs
set_option maxRecDepth 1000000
set_option linter.all false
namespace Go.Av
variable [Tok]
theorem c588_0 : allR (checkE Tryz.prog fsB 100000 GG TTMa 20 588 (.sl 0)) l588_0 = true := by kernel_rfl
end Go.Av


open Go Go.Av Go.Proofs
set_option maxRecDepth 1000000
set_option linter.all false
namespace Go.Av
variable [Tok]
theorem c58_0 : allR (checkE Tryz.prog fsB 100000 GG TTMa 20 58 (.flat)) l58_0 = true := by kernel_rfl
end Go.Av


open Go Go.Av Go.Proofs
set_option maxRecDepth 1000000
set_option linter.all false
namespace Go.Av
variable [Tok]
noncomputable def fsMa1 (k : Nat) : Option AFun := ifb (Nat.beq k 204) (some (.sem (pureF GG TTMa 20 [.flat] (memoF l204)))) (ifb (Nat.beq k 58) (some (.sem (pureF GG TTMa 20 [.ag 6] (memoF l58)))) (ifb (Nat.beq k 119) (some (.sem (pureF GG TTMa 20 [.ag 6] (memoF l119)))) (ifb (Nat.beq k 47) (some (.sem (pureF GG TTMa 20 [.flat] (memoF l47)))) (ifb (Nat.beq k 588) (some (.sem (pureF GG TTMa 20 [] (memoF l588)))) (ifb (Nat.beq k 525) (some (.sem (pureF GG TTMa 20 [] (memoF l525)))) (fsB k))))))
theorem p204 : PureOk Tryz.prog GG 204 (memoF l204) := memo_pure tz_mixed fsB_ok (fun e he => by
  exact allAnd c204_0 e he)
theorem p58 : PureOk Tryz.prog GG 58 (memoF l58) := memo_pure tz_mixed fsB_ok (fun e he => by
  exact allAnd c58_0 e he)
theorem p119 : PureOk Tryz.prog GG 119 (memoF l119) := memo_pure tz_mixed fsB_ok (fun e he => by
  exact allAnd c119_0 e he)
theorem p47 : PureOk Tryz.prog GG 47 (memoF l47) := memo_pure tz_mixed fsB_ok (fun e he => by
  exact allAnd c47_0 e he)
theorem p588 : PureOk Tryz.prog GG 588 (memoF l588) := memo_pure tz_mixed fsB_ok (fun e he => by
  exact allAnd c588_0 e he)
theorem p525 : PureOk Tryz.prog GG 525 (memoF l525) := memo_pure tz_mixed fsB_ok (fun e he => by
  exact allAnd c525_0 e he)
theorem fsMa1_ok : FsOk Tryz.prog fsMa1 := by
  intro k fn h
  unfold fsMa1 at h
  rcases ifb_or h with ⟨h1, h⟩ | ⟨_, h⟩
  · cases h; rw [Nat.eq_of_beq_eq_true h1]; exact .sem (pure_sem p204 tz_lt)
  rcases ifb_or h with ⟨h1, h⟩ | ⟨_, h⟩
  · cases h; rw [Nat.eq_of_beq_eq_true h1]; exact .sem (pure_sem p58 tz_lt)
  rcases ifb_or h with ⟨h1, h⟩ | ⟨_, h⟩
  · cases h; rw [Nat.eq_of_beq_eq_true h1]; exact .sem (pure_sem p119 tz_lt)
  rcases ifb_or h with ⟨h1, h⟩ | ⟨_, h⟩
  · cases h; rw [Nat.eq_of_beq_eq_true h1]; exact .sem (pure_sem p47 tz_lt)
  rcases ifb_or h with ⟨h1, h⟩ | ⟨_, h⟩
  · cases h; rw [Nat.eq_of_beq_eq_true h1]; exact .sem (pure_sem p588 tz_lt)
  rcases ifb_or h with ⟨h1, h⟩ | ⟨_, h⟩
  · cases h; rw [Nat.eq_of_beq_eq_true h1]; exact .sem (pure_sem p525 tz_lt)
  exact fsB_ok k fn h
end Go.Av
