/- A part of the proof: what a machine of our own over the model's code answers is what the model does; no condition. -/
import Derived.Test.YtnokndchdkdhbaaGreatDoorCoA
set_option linter.all false
open Go Go.Av Go.Proofs
set_option maxRecDepth 1000000
set_option linter.all false
namespace Go.Av
def TTWa : List (List Sh) := [[.flat], [.flat, .flat], [.flat], [.flat], [.flat, .flat, .flat, .sl 1, .flat, .flat, .flat, .sl 2, .sl 3, .sl 3, .sl 3, .flat, .flat], [.flat, .flat, .flat, .flat, .flat, .flat, .flat, .sl 1, .flat, .flat], [.ag 4, .sl 5], [.ag 4, .sl 5, .flat], [.flat, .flat], [.flat, .flat, .sl 10], [.flat, .flat, .flat], [.flat, .flat, .sl 8, .flat, .flat, .sl 10], [.sl 8, .flat, .sl 9, .sl 11, .flat, .sl 0, .flat], [.ag 11, .flat], [.flat, .flat, .sl 15, .flat, .sl 3, .flat, .flat, .flat, .flat, .flat, .flat, .sl 16, .sl 17, .flat, .flat, .flat, .sl 18, .flat, .flat, .flat, .flat, .flat, .flat, .sl 16, .flat, .flat, .flat, .flat, .flat, .flat, .sl 16], [.flat, .flat, .flat], [.flat, .flat, .flat, .flat, .flat, .flat, .sl 16], [.flat, .flat], [.flat, .flat, .flat, .flat], [.flat, .sl 20, .flat], [.sl 18], [.flat, .flat, .flat, .flat, .flat, .sl 14, .sl 8, .sl 10, .flat, .flat, .sl 10, .sl 19, .flat, .flat], [.flat, .flat, .flat, .flat, .sl 10, .flat], [.flat, .ag 22, .flat], [.ag 22, .flat, .flat], [.sl 14, .flat, .flat]]
namespace VWa
abbrev I (n : Int) : DV := .i .i64 n
abbrev Y (n : Int) : DV := .i .u8 n
abbrev T : DV := .b true
abbrev F : DV := .b false
abbrev N : DV := .nil
def w0 : DV := .sl 3 1 [F,F,F]
def w1 : DV := .sl 3 1 [I 1,I 1,I 1]
def w2 : DV := .sl 3 1 [I 0,I 0,I 0]
def w3 : DV := .ag [I 0,I 0,I (-1),N,I 1,I 0,I 0,w0,w1,w2,w1,I 0,I 5]
def w4 : DV := .ag [I 1,I 0,I (-1),N,I 1,I 0,I 0,w0,w1,w2,w1,I 0,I 7]
def w5 : DV := .ag [I 2,I 0,I (-1),N,I 1,I 0,I 0,w0,w1,w2,w1,I 0,I 9]
def w6 : DV := .sl 1 4 [I 2,I 5,I 0,.s []]
def w7 : DV := .sl 3 31 [I 1,.s [116],.sl 1 3 [.s [97],I 2,T],I 0,N,I 0,.s [],I 0,I 0,I 0,.s [],N,N,.s [],.s [],.s [],N,I 0,.s [],I 0,I 0,I 0,.s [],N,I 0,.s [],I 0,I 0,I 0,.s [],N,I 4,.s [],N,I 0,N,I 0,.s [],I 0,I 0,I 0,.s [],N,N,.s [116],.s [],.s [],w6,I 0,.s [],I 0,I 0,I 0,.s [],N,I 0,.s [],I 0,I 0,I 0,.s [],N,I 7,.s [],N,I 0,N,I 0,.s [],I 0,I 0,I 0,.s [],N,N,.s [116],.s [],.s [],N,I 0,.s [],I 0,I 0,I 0,.s [],N,I 0,.s [],I 0,I 0,I 0,.s [],N]
def w8 : DV := .sl 1 31 [I 7,.s [],N,I 0,N,I 0,.s [],I 0,I 0,I 0,.s [],N,N,.s [116,97],.s [],.s [],N,I 0,.s [],I 0,I 0,I 0,.s [],N,I 0,.s [],I 0,I 0,I 0,.s [],N]
def w9 : DV := .ag [I 1,I 0,I 0,.s [],F,w7,N,N,I 0,F,N,N,I 0,F]
def w10 : DV := .ag [I 1,I 0,I 0,.s [],F,w8,N,N,I 0,F,N,N,I 0,F]
def w11 : DV := .sl 1 1 [.s [114]]
def w12 : DV := .ag [I 1,I 100,I 1,F,N,.s []]
def w13 : DV := .tu [I 0,w12,T]
def w14 : DV := .ag [I 1,I 0,I 1,.s [],F,w7,N,N,I 0,F,N,N,I 0,F]
def w15 : DV := .ag [I 1,I 101,I 1,F,N,.s []]
def w16 : DV := .tu [I 1,w15,T]
def w17 : DV := .s [99,116]
def w18 : DV := .s [99,114,101,97,116,101,32,116,97,98,108,101,32,116,32,40,97,32,105,110,116,32,110,111,116,32,110,117,108,108,44,32,112,114,105,109,97,114,121,32,107,101,121,32,40,97,41,41]
def w19 : DV := .s [114,116,0,2,128,0,0,0,0,0,0,5]
def w20 : DV := .s [1,2,128,0,0,0,0,0,0,5]
def w21 : DV := .sl 2 3 [w17,w18,F,w19,w20,F]
def w22 : DV := .sl 3 3 [I 0,N,I 0,I 0,N,I 1,I 0,.sl 1 1 [w6],I 0]
def w23 : DV := .ag [I 1,I 1,I 0,.s [],F,w7,N,w21,I 0,F,N,w22,I 0,F]
def w24 : DV := .ag [I 2,I 110,I 1,T,w21,.s []]
def w25 : DV := .ag [I 1,I 2,I 0,.s [],F,w7,N,w21,I 1,T,w21,w22,I 0,F]
def w26 : DV := .ag [I 3,I 120,I 1,T,.sl 1 3 [w17,w18,F],.s []]
def w27 : DV := .ag [I 1,I 2,I 1,.s [],F,w7,N,w21,I 1,T,w21,w22,I 0,F]
def w28 : DV := .ag [I 3,I 121,I 1,T,.sl 1 3 [w19,w20,F],.s []]
def w29 : DV := .ag [I 1,I 1,I 0,.s [],F,w8,N,N,I 0,F,N,N,I 2,F]
def w30 : DV := .ag [I 2,I 110,I 1,F,N,.s []]
def w31 : DV := .ag [I 1,I 0,I 1,.s [],F,w8,N,N,I 0,F,N,N,I 0,F]
def w32 : DV := .sl 2 1 [.s [99,98],.s [114,98]]
def w33 : DV := .s [114,116,98]
def w34 : DV := .sl 3 1 [.s [99],.s [114],w33]
def w35 : DV := .sl 4 1 [.s [114,116,97],w33,.s [114,116,99],.s [115]]
def w36 : DV := .ag [I 0,I 0,I (-1),N,I 1,I 0,I 0,w0,w1,w2,w1,I 1,I 5]
def w37 : DV := .ag [I 1,I 0,I (-1),N,I 1,I 0,I 0,w0,w1,w2,w1,I 1,I 7]
def w38 : DV := .ag [I 2,I 0,I (-1),N,I 1,I 0,I 0,w0,w1,w2,w1,I 1,I 9]
def w39 : DV := .ag [I 0,I 0,I (-1),N,I 1,I 0,I 0,w0,w1,w2,w1,I 2,I 5]
def w40 : DV := .ag [I 1,I 0,I (-1),N,I 1,I 0,I 0,w0,w1,w2,w1,I 2,I 7]
def w41 : DV := .ag [I 2,I 0,I (-1),N,I 1,I 0,I 0,w0,w1,w2,w1,I 2,I 9]
def w42 : DV := .ag [I 0,I 0,I (-1),N,I 1,I 0,I 0,w0,w1,w2,w1,I 3,I 5]
def w43 : DV := .ag [I 1,I 0,I (-1),N,I 1,I 0,I 0,w0,w1,w2,w1,I 3,I 7]
def w44 : DV := .ag [I 2,I 0,I (-1),N,I 1,I 0,I 0,w0,w1,w2,w1,I 3,I 9]
def w45 : DV := .ag [I 0,I 0,I (-1),N,I 1,I 0,I 0,w0,w1,w2,w1,I 4,I 5]
def w46 : DV := .ag [I 1,I 0,I (-1),N,I 1,I 0,I 0,w0,w1,w2,w1,I 4,I 7]
def w47 : DV := .ag [I 2,I 0,I (-1),N,I 1,I 0,I 0,w0,w1,w2,w1,I 4,I 9]
def w48 : DV := .ag [I 0,I 1,I 0,N,I 1,I 1,I 0,.sl 3 1 [T,F,F],w1,w2,w1,I 5,I 10]
def w49 : DV := .ag [I 1,I 0,I (-1),N,I 1,I 0,I 0,w0,w1,w2,w1,I 5,I 7]
def w50 : DV := .ag [I 2,I 0,I (-1),N,I 1,I 0,I 0,w0,w1,w2,w1,I 5,I 9]
def w51 : DV := .s [49,1,0,0,0,0,0,0,0,100,0,0,0,0,0,0,0,1,0,0,0]
def w52 : DV := .sl 2 2 [I 1,.s [],I 1,w51]
def w53 : DV := .sl 3 1 [T,T,F]
def w54 : DV := .sl 3 1 [I 1,I 2,I 2]
def w55 : DV := .sl 3 1 [I 2,I 1,I 1]
def w56 : DV := .ag [I 0,I 1,I 0,w52,I 1,I 2,I 1,w53,w54,w55,w1,I 5,I 10]
def w57 : DV := .ag [I 0,I 1,I 0,w52,I 1,I 2,I 1,w53,w54,w55,w1,I 6,I 10]
def w58 : DV := .sl 1 2 [I 1,w51]
def w59 : DV := .sl 2 10 [I 3,I 0,I 1,I 1,I 1,I 1,F,w58,I 1,I 0,I 3,I 0,I 2,I 1,I 1,I 1,F,w58,I 1,I 0]
def w60 : DV := .sl 1 2 [I 1,.s []]
def w61 : DV := .ag [I 1,I 1,I 0,w60,I 1,I 0,I 0,w0,w1,w2,w1,I 5,I 12]
def w62 : DV := .ag [I 1,I 1,I 0,w60,I 1,I 0,I 0,w0,w1,w2,w1,I 6,I 12]
def w63 : DV := .ag [I 2,I 1,I 0,w60,I 1,I 0,I 0,w0,w1,w2,w1,I 5,I 14]
def w64 : DV := .ag [I 2,I 1,I 0,w60,I 1,I 0,I 0,w0,w1,w2,w1,I 6,I 14]
def w65 : DV := .ag [I 0,I 1,I 0,w60,I 1,I 2,I 1,w53,w54,w1,w1,I 5,I 10]
def w66 : DV := .ag [I 0,I 1,I 0,w60,I 1,I 2,I 1,w53,w54,w1,w1,I 6,I 10]
def w67 : DV := .sl 0 2 []
def w68 : DV := .sl 2 10 [I 3,I 0,I 1,I 1,I 1,I 1,F,w67,I 1,I 0,I 3,I 0,I 2,I 1,I 1,I 1,F,w67,I 1,I 0]
def w69 : DV := .sl 3 1 [I 1,I 3,I 3]
def w70 : DV := .sl 3 1 [I 2,I 2,I 2]
def w71 : DV := .ag [I 0,I 1,I 0,w52,I 1,I 2,I 2,w53,w69,w70,w1,I 6,I 10]
def w72 : DV := .ag [I 0,I 1,I 0,w52,I 1,I 2,I 2,w53,w69,w70,w1,I 7,I 10]
def w73 : DV := .ag [I 1,I 1,I 0,w52,I 1,I 0,I 1,w0,w1,w2,w1,I 6,I 13]
def w74 : DV := .ag [I 1,I 1,I 0,w52,I 1,I 0,I 1,w0,w1,w2,w1,I 7,I 13]
def w75 : DV := .ag [I 2,I 1,I 0,w52,I 1,I 0,I 1,w0,w1,w2,w1,I 6,I 15]
def w76 : DV := .ag [I 2,I 1,I 0,w52,I 1,I 0,I 1,w0,w1,w2,w1,I 7,I 15]
def w77 : DV := .s [49,1,0,0,0,0,0,0,0,101,0,0,0,0,0,0,0,1,0,0,0]
def w78 : DV := .sl 2 2 [I 1,.s [],I 1,w77]
def w79 : DV := .ag [I 0,I 1,I 0,w78,I 1,I 2,I 1,w53,w54,w55,w1,I 6,I 10]
def w80 : DV := .ag [I 0,I 1,I 0,w78,I 1,I 2,I 1,w53,w54,w55,w1,I 7,I 10]
def w81 : DV := .ag [I 1,I 1,I 0,w60,I 1,I 0,I 1,w0,w1,w2,w1,I 6,I 13]
def w82 : DV := .ag [I 1,I 1,I 0,w60,I 1,I 0,I 1,w0,w1,w2,w1,I 7,I 13]
def w83 : DV := .ag [I 2,I 1,I 0,w60,I 1,I 0,I 1,w0,w1,w2,w1,I 6,I 15]
def w84 : DV := .ag [I 2,I 1,I 0,w60,I 1,I 0,I 1,w0,w1,w2,w1,I 7,I 15]
def w85 : DV := .s [49,2,0,0,0,0,0,0,0,110,0,0,0,0,0,0,0,1,1,0,2,0,2,99,116,0,48,99,114,101,97,116,101,32,116,97,98,108,101,32,116,32,40,97,32,105,110,116,32,110,111,116,32,110,117,108,108,44,32,112,114,105,109,97,114,121,32,107,101,121,32,40,97,41,41,0,0,12,114,116,0,2,128,0,0,0,0,0,0,5,0,10,1,2,128,0,0,0,0,0,0,5,0]
def w86 : DV := .sl 3 2 [I 1,.s [],I 1,w51,I 1,w85]
def w87 : DV := .sl 3 1 [I 3,I 2,I 2]
def w88 : DV := .ag [I 0,I 1,I 0,w86,I 1,I 2,I 2,w53,w69,w87,w1,I 7,I 10]
def w89 : DV := .ag [I 0,I 1,I 0,w86,I 1,I 2,I 2,w53,w69,w87,w1,I 8,I 10]
def w90 : DV := .sl 1 2 [I 1,w85]
def w91 : DV := .sl 2 10 [I 3,I 0,I 1,I 1,I 2,I 1,F,w90,I 2,I 0,I 3,I 0,I 2,I 1,I 2,I 1,F,w90,I 2,I 0]
def w92 : DV := .ag [I 1,I 1,I 0,w52,I 1,I 0,I 1,w0,w1,w2,w1,I 8,I 13]
def w93 : DV := .ag [I 2,I 1,I 0,w52,I 1,I 0,I 1,w0,w1,w2,w1,I 8,I 15]
def w94 : DV := .ag [I 0,I 1,I 0,w78,I 1,I 2,I 2,w53,w69,w70,w1,I 7,I 10]
def w95 : DV := .ag [I 0,I 1,I 0,w78,I 1,I 2,I 2,w53,w69,w70,w1,I 8,I 10]
def w96 : DV := .ag [I 1,I 1,I 0,w78,I 1,I 0,I 1,w0,w1,w2,w1,I 7,I 14]
def w97 : DV := .ag [I 1,I 1,I 0,w78,I 1,I 0,I 1,w0,w1,w2,w1,I 8,I 14]
def w98 : DV := .ag [I 2,I 1,I 0,w78,I 1,I 0,I 1,w0,w1,w2,w1,I 7,I 16]
def w99 : DV := .ag [I 2,I 1,I 0,w78,I 1,I 0,I 1,w0,w1,w2,w1,I 8,I 16]
def w100 : DV := .s [49,3,0,0,0,0,0,0,0,120,0,0,0,0,0,0,0,1,1,0,1,0,2,99,116,0,48,99,114,101,97,116,101,32,116,97,98,108,101,32,116,32,40,97,32,105,110,116,32,110,111,116,32,110,117,108,108,44,32,112,114,105,109,97,114,121,32,107,101,121,32,40,97,41,41,0]
def w101 : DV := .sl 4 2 [I 1,.s [],I 1,w51,I 1,w85,I 1,w100]
def w102 : DV := .sl 3 1 [I 1,I 4,I 4]
def w103 : DV := .sl 3 1 [I 4,I 3,I 3]
def w104 : DV := .ag [I 0,I 1,I 0,w101,I 1,I 2,I 3,w53,w102,w103,w1,I 8,I 10]
def w105 : DV := .ag [I 0,I 1,I 0,w101,I 1,I 2,I 3,w53,w102,w103,w1,I 9,I 10]
def w106 : DV := .ag [I 1,I 1,I 0,w86,I 1,I 0,I 2,w0,w1,w2,w1,I 8,I 15]
def w107 : DV := .ag [I 1,I 1,I 0,w86,I 1,I 0,I 2,w0,w1,w2,w1,I 9,I 15]
def w108 : DV := .ag [I 2,I 1,I 0,w86,I 1,I 0,I 2,w0,w1,w2,w1,I 8,I 17]
def w109 : DV := .ag [I 2,I 1,I 0,w86,I 1,I 0,I 2,w0,w1,w2,w1,I 9,I 17]
def w110 : DV := .ag [I 0,I 1,I 0,w78,I 1,I 2,I 2,w53,w69,w70,w1,I 9,I 10]
def w111 : DV := .ag [I 1,I 1,I 0,w78,I 1,I 0,I 2,w0,w1,w2,w1,I 8,I 15]
def w112 : DV := .ag [I 1,I 1,I 0,w78,I 1,I 0,I 2,w0,w1,w2,w1,I 9,I 15]
def w113 : DV := .ag [I 2,I 1,I 0,w78,I 1,I 0,I 2,w0,w1,w2,w1,I 8,I 17]
def w114 : DV := .ag [I 2,I 1,I 0,w78,I 1,I 0,I 2,w0,w1,w2,w1,I 9,I 17]
def w115 : DV := .sl 3 1 [I 1,I 5,I 5]
def w116 : DV := .sl 3 1 [I 4,I 4,I 4]
def w117 : DV := .ag [I 0,I 1,I 0,w101,I 1,I 2,I 4,w53,w115,w116,w1,I 9,I 10]
def w118 : DV := .ag [I 0,I 1,I 0,w101,I 1,I 2,I 4,w53,w115,w116,w1,I 10,I 10]
def w119 : DV := .ag [I 1,I 1,I 0,w101,I 1,I 0,I 3,w0,w1,w2,w1,I 9,I 16]
def w120 : DV := .ag [I 1,I 1,I 0,w101,I 1,I 0,I 3,w0,w1,w2,w1,I 10,I 16]
def w121 : DV := .ag [I 2,I 1,I 0,w101,I 1,I 0,I 3,w0,w1,w2,w1,I 9,I 18]
def w122 : DV := .ag [I 2,I 1,I 0,w101,I 1,I 0,I 3,w0,w1,w2,w1,I 10,I 18]
def w123 : DV := .s [49,3,0,0,0,0,0,0,0,121,0,0,0,0,0,0,0,1,1,0,1,0,12,114,116,0,2,128,0,0,0,0,0,0,5,0,10,1,2,128,0,0,0,0,0,0,5,0]
def w124 : DV := .sl 3 2 [I 1,.s [],I 1,w77,I 1,w123]
def w125 : DV := .ag [I 0,I 1,I 0,w124,I 1,I 2,I 2,w53,w69,w87,w1,I 9,I 10]
def w126 : DV := .ag [I 0,I 1,I 0,w124,I 1,I 2,I 2,w53,w69,w87,w1,I 10,I 10]
def w127 : DV := .sl 1 2 [I 1,w123]
def w128 : DV := .sl 2 10 [I 3,I 0,I 1,I 1,I 2,I 1,F,w127,I 2,I 0,I 3,I 0,I 2,I 1,I 2,I 1,F,w127,I 2,I 0]
def w129 : DV := .ag [I 1,I 1,I 0,w78,I 1,I 0,I 2,w0,w1,w2,w1,I 10,I 15]
def w130 : DV := .ag [I 2,I 1,I 0,w78,I 1,I 0,I 2,w0,w1,w2,w1,I 10,I 17]
def w131 : DV := .ag [I 0,I 1,I 0,w60,I 1,I 2,I 1,w53,w54,w1,w1,I 7,I 10]
def w132 : DV := .ag [I 0,I 1,I 0,w60,I 1,I 2,I 1,w53,w54,w1,w1,I 8,I 10]
def w133 : DV := .ag [I 1,I 1,I 0,w60,I 1,I 0,I 1,w0,w1,w2,w1,I 8,I 13]
def w134 : DV := .ag [I 2,I 1,I 0,w60,I 1,I 0,I 1,w0,w1,w2,w1,I 8,I 15]
def w135 : DV := .ag [I 0,I 1,I 0,w60,I 1,I 2,I 1,w53,w54,w1,w1,I 9,I 10]
def w136 : DV := .ag [I 1,I 1,I 0,w60,I 1,I 0,I 1,w0,w1,w2,w1,I 8,I 15]
def w137 : DV := .ag [I 1,I 1,I 0,w60,I 1,I 0,I 1,w0,w1,w2,w1,I 9,I 15]
def w138 : DV := .ag [I 2,I 1,I 0,w60,I 1,I 0,I 1,w0,w1,w2,w1,I 8,I 17]
def w139 : DV := .ag [I 2,I 1,I 0,w60,I 1,I 0,I 1,w0,w1,w2,w1,I 9,I 17]
def w140 : DV := .ag [I 0,I 1,I 0,w60,I 1,I 2,I 1,w53,w54,w1,w1,I 10,I 10]
def w141 : DV := .ag [I 1,I 1,I 0,w60,I 1,I 0,I 1,w0,w1,w2,w1,I 10,I 15]
def w142 : DV := .ag [I 2,I 1,I 0,w60,I 1,I 0,I 1,w0,w1,w2,w1,I 10,I 17]
def w143 : DV := .ag [I 0,I 1,I 0,w60,I 1,I 2,I 1,w53,w54,w1,w1,I 11,I 10]
def w144 : DV := .ag [I 1,I 1,I 0,w60,I 1,I 0,I 1,w0,w1,w2,w1,I 10,I 17]
def w145 : DV := .ag [I 1,I 1,I 0,w60,I 1,I 0,I 1,w0,w1,w2,w1,I 11,I 17]
def w146 : DV := .ag [I 2,I 1,I 0,w60,I 1,I 0,I 1,w0,w1,w2,w1,I 10,I 19]
def w147 : DV := .ag [I 2,I 1,I 0,w60,I 1,I 0,I 1,w0,w1,w2,w1,I 11,I 19]
def w148 : DV := .ag [I 0,I 1,I 0,w60,I 1,I 2,I 1,w53,w54,w1,w1,I 12,I 10]
def w149 : DV := .ag [I 1,I 1,I 0,w60,I 1,I 0,I 1,w0,w1,w2,w1,I 12,I 17]
def w150 : DV := .ag [I 2,I 1,I 0,w60,I 1,I 0,I 1,w0,w1,w2,w1,I 12,I 19]
def w151 : DV := .ag [I 0,I 1,I 0,w60,I 1,I 2,I 1,w53,w54,w1,w1,I 13,I 10]
def w152 : DV := .ag [I 1,I 1,I 0,w60,I 1,I 0,I 1,w0,w1,w2,w1,I 12,I 19]
def w153 : DV := .ag [I 1,I 1,I 0,w60,I 1,I 0,I 1,w0,w1,w2,w1,I 13,I 19]
def w154 : DV := .ag [I 2,I 1,I 0,w60,I 1,I 0,I 1,w0,w1,w2,w1,I 12,I 21]
def w155 : DV := .ag [I 2,I 1,I 0,w60,I 1,I 0,I 1,w0,w1,w2,w1,I 13,I 21]
def w156 : DV := .ag [I 0,I 1,I 0,w60,I 1,I 2,I 1,w53,w54,w1,w1,I 14,I 10]
def w157 : DV := .ag [I 1,I 1,I 0,w60,I 1,I 0,I 1,w0,w1,w2,w1,I 14,I 19]
def w158 : DV := .ag [I 2,I 1,I 0,w60,I 1,I 0,I 1,w0,w1,w2,w1,I 14,I 21]
def w159 : DV := .ag [I 0,I 1,I 0,w60,I 1,I 2,I 1,w53,w54,w1,w1,I 15,I 10]
def w160 : DV := .ag [I 1,I 1,I 0,w60,I 1,I 0,I 1,w0,w1,w2,w1,I 14,I 21]
def w161 : DV := .ag [I 1,I 1,I 0,w60,I 1,I 0,I 1,w0,w1,w2,w1,I 15,I 21]
def w162 : DV := .ag [I 2,I 1,I 0,w60,I 1,I 0,I 1,w0,w1,w2,w1,I 14,I 23]
def w163 : DV := .ag [I 2,I 1,I 0,w60,I 1,I 0,I 1,w0,w1,w2,w1,I 15,I 23]
def w164 : DV := .ag [I 0,I 1,I 0,w52,I 1,I 2,I 1,w53,w54,w55,w1,I 15,I 10]
def w165 : DV := .ag [I 0,I 1,I 0,w52,I 1,I 2,I 1,w53,w54,w55,w1,I 16,I 10]
def w166 : DV := .ag [I 1,I 1,I 0,w60,I 1,I 0,I 1,w0,w1,w2,w1,I 16,I 21]
def w167 : DV := .ag [I 2,I 1,I 0,w60,I 1,I 0,I 1,w0,w1,w2,w1,I 16,I 23]
def w168 : DV := .ag [I 0,I 1,I 0,w60,I 1,I 2,I 1,w53,w54,w1,w1,I 16,I 10]
def w169 : DV := .ag [I 1,I 1,I 0,N,I 1,I 0,I 0,w0,w1,w2,w1,I 5,I 12]
def w170 : DV := .ag [I 2,I 1,I 0,N,I 1,I 0,I 0,w0,w1,w2,w1,I 5,I 14]
def w171 : DV := .ag [I 0,I 1,I 0,w60,I 1,I 2,I 0,w53,w1,.sl 3 1 [I 1,I 0,I 0],w1,I 5,I 10]
def w172 : DV := .sl 1 10 [I 4,I 1,I 0,I 1,I 1,I 0,T,N,I 0,I 1]
def w173 : DV := .sl 1 10 [I 4,I 2,I 0,I 1,I 1,I 0,T,N,I 0,I 1]
def w174 : DV := .ag [I 4,I 1,I 0,I 1,I 1,I 0,T,N,I 0,I 1]
def w175 : DV := .ag [I 0,I 1,I 0,w60,I 1,I 2,I 1,w53,.sl 3 1 [I 1,I 2,I 1],.sl 3 1 [I 1,I 1,I 0],w1,I 5,I 10]
def w176 : DV := .ag [I 4,I 2,I 0,I 1,I 1,I 0,T,N,I 0,I 1]
def w177 : DV := .ag [I 3,I 0,I 1,I 1,I 1,I 1,F,w58,I 1,I 0]
def w178 : DV := .sl 1 10 [I 4,I 1,I 0,I 1,I 2,I 0,T,N,I 0,I 1]
def w179 : DV := .tu [w73,w178]
def w180 : DV := .ag [I 3,I 0,I 2,I 1,I 1,I 1,F,w58,I 1,I 0]
def w181 : DV := .sl 1 10 [I 4,I 2,I 0,I 1,I 2,I 0,T,N,I 0,I 1]
def w182 : DV := .tu [w75,w181]
def w183 : DV := .ag [I 4,I 1,I 0,I 1,I 2,I 0,T,N,I 0,I 1]
def w184 : DV := .sl 3 1 [I 1,I 3,I 2]
def w185 : DV := .sl 3 1 [I 2,I 2,I 1]
def w186 : DV := .ag [I 0,I 1,I 0,w52,I 1,I 2,I 2,w53,w184,w185,w1,I 6,I 10]
def w187 : DV := .ag [I 4,I 2,I 0,I 1,I 2,I 0,T,N,I 0,I 1]
def w188 : DV := .tu [w71,N]
def w189 : DV := .ag [I 3,I 0,I 1,I 1,I 1,I 1,F,w67,I 1,I 0]
def w190 : DV := .ag [I 3,I 0,I 2,I 1,I 1,I 1,F,w67,I 1,I 0]
def w191 : DV := .tu [w66,N]
def w192 : DV := .sl 1 2 [I 1,w77]
def w193 : DV := .ag [I 0,I 1,I 0,w78,I 1,I 2,I 2,w53,w184,w185,w1,I 7,I 10]
def w194 : DV := .ag [I 3,I 0,I 1,I 1,I 2,I 1,F,w90,I 2,I 0]
def w195 : DV := .sl 1 10 [I 4,I 1,I 0,I 1,I 3,I 0,T,N,I 0,I 1]
def w196 : DV := .tu [w106,w195]
def w197 : DV := .ag [I 3,I 0,I 2,I 1,I 2,I 1,F,w90,I 2,I 0]
def w198 : DV := .sl 1 10 [I 4,I 2,I 0,I 1,I 3,I 0,T,N,I 0,I 1]
def w199 : DV := .tu [w108,w198]
def w200 : DV := .ag [I 4,I 1,I 0,I 1,I 3,I 0,T,N,I 0,I 1]
def w201 : DV := .sl 3 1 [I 1,I 4,I 3]
def w202 : DV := .sl 3 1 [I 3,I 3,I 2]
def w203 : DV := .ag [I 0,I 1,I 0,w86,I 1,I 2,I 3,w53,w201,w202,w1,I 8,I 10]
def w204 : DV := .ag [I 4,I 2,I 0,I 1,I 3,I 0,T,N,I 0,I 1]
def w205 : DV := .sl 3 1 [I 3,I 3,I 3]
def w206 : DV := .ag [I 0,I 1,I 0,w86,I 1,I 2,I 3,w53,w102,w205,w1,I 8,I 10]
def w207 : DV := .tu [w206,N]
def w208 : DV := .tu [w95,N]
def w209 : DV := .sl 1 2 [I 1,w100]
def w210 : DV := .sl 1 10 [I 4,I 1,I 0,I 1,I 4,I 0,T,N,I 0,I 1]
def w211 : DV := .sl 1 10 [I 4,I 2,I 0,I 1,I 4,I 0,T,N,I 0,I 1]
def w212 : DV := .ag [I 4,I 1,I 0,I 1,I 4,I 0,T,N,I 0,I 1]
def w213 : DV := .ag [I 0,I 1,I 0,w101,I 1,I 2,I 4,w53,.sl 3 1 [I 1,I 5,I 4],.sl 3 1 [I 4,I 4,I 3],w1,I 9,I 10]
def w214 : DV := .ag [I 4,I 2,I 0,I 1,I 4,I 0,T,N,I 0,I 1]
def w215 : DV := .tu [w118,N]
def w216 : DV := .ag [I 3,I 0,I 1,I 1,I 2,I 1,F,w127,I 2,I 0]
def w217 : DV := .ag [I 1,I 1,I 0,w124,I 1,I 0,I 2,w0,w1,w2,w1,I 10,I 17]
def w218 : DV := .tu [w217,w195]
def w219 : DV := .ag [I 3,I 0,I 2,I 1,I 2,I 1,F,w127,I 2,I 0]
def w220 : DV := .ag [I 2,I 1,I 0,w124,I 1,I 0,I 2,w0,w1,w2,w1,I 10,I 19]
def w221 : DV := .tu [w220,w198]
def w222 : DV := .ag [I 0,I 1,I 0,w124,I 1,I 2,I 3,w53,w201,w202,w1,I 10,I 10]
def w223 : DV := .ag [I 0,I 1,I 0,w124,I 1,I 2,I 3,w53,w102,w205,w1,I 10,I 10]
def w224 : DV := .tu [w223,N]
def w225 : DV := .tu [w132,N]
def w226 : DV := .tu [w140,N]
def w227 : DV := .tu [w148,N]
def w228 : DV := .tu [w156,N]
def w229 : DV := .ag [I 1,I 1,I 0,w52,I 1,I 0,I 1,w0,w1,w2,w1,I 16,I 23]
def w230 : DV := .tu [w229,w178]
def w231 : DV := .ag [I 2,I 1,I 0,w52,I 1,I 0,I 1,w0,w1,w2,w1,I 16,I 25]
def w232 : DV := .tu [w231,w181]
def w233 : DV := .ag [I 0,I 1,I 0,w52,I 1,I 2,I 2,w53,w184,w185,w1,I 16,I 10]
def w234 : DV := .ag [I 0,I 1,I 0,w52,I 1,I 2,I 2,w53,w69,w70,w1,I 16,I 10]
def w235 : DV := .tu [w234,N]
def w236 : DV := .tu [w168,N]
def w237 : DV := .ag [N,I 0,N,N,F,N,F]
def w238 : DV := .ag [N,I 1,N,.sl 1 6 [I 100,T,N,I 0,F,N],F,N,F]
def w239 : DV := .ag [N,I 1,N,.sl 1 6 [I 101,T,N,I 0,F,N],F,N,F]
def w240 : DV := .sl 1 3 [I 1,T,w21]
def w241 : DV := .ag [N,I 1,w240,.sl 2 6 [I 100,T,N,I 0,F,N,I 110,T,N,I 1,T,w21],F,N,F]
def w242 : DV := .ag [.sl 1 2 [w17,w18],I 0,w240,.sl 3 6 [I 100,T,N,I 0,F,N,I 110,T,N,I 1,T,w21,I 120,T,N,I 0,F,N],F,N,F]
def w243 : DV := .ag [.sl 1 2 [w19,w20],I 0,.sl 1 3 [I 1,T,N],.sl 2 6 [I 101,T,N,I 0,F,N,I 121,T,N,I 0,F,N],F,N,F]
def w244 : DV := .tu [.ag [I 0,F,N,I 0,F,N],F]
def w245 : DV := .ag [I 100,T,N,I 0,F,N]
def w246 : DV := .ag [I 101,T,N,I 0,F,N]
def w247 : DV := .ag [I 110,T,N,I 1,T,w21]
def w248 : DV := .ag [I 120,T,N,I 0,F,N]
def w249 : DV := .ag [I 121,T,N,I 0,F,N]
def w250 : DV := .s [49,2,0,0,0,0,0,0,0,110,0,0,0,0,0,0,0,1,0,0,0]
def w251 : DV := .sl 2 10 [I 3,I 0,I 1,I 1,I 1,I 1,F,w192,I 1,I 0,I 3,I 0,I 2,I 1,I 1,I 1,F,w192,I 1,I 0]
def w252 : DV := .sl 1 2 [I 1,w250]
end VWa
end Go.Av


open Go Go.Av Go.Proofs
set_option maxRecDepth 1000000
set_option linter.all false
namespace Go.Av
open VWa
def l153_0 : List Ent := [⟨[I 0,I 3,I 1], w3⟩,
⟨[I 1,I 3,I 1], w4⟩,
⟨[I 2,I 3,I 1], w5⟩]
def l153 : List Ent := l153_0
def l588_0 : List Ent := [⟨[], .sl 33 1 [.s [99,114,101,97,116,101],.s [116,97,98,108,101],.s [100,114,111,112],.s [97,108,116,101,114],.s [97,100,100],.s [102,111,114,101,105,103,110],.s [107,101,121],.s [114,101,102,101,114,101,110,99,101,115],.s [112,114,105,109,97,114,121],.s [117,110,105,113,117,101],.s [99,104,101,99,107],.s [110,111,116],.s [110,117,108,108],.s [105,110,115,101,114,116],.s [105,110,116,111],.s [118,97,108,117,101,115],.s [117,112,100,97,116,101],.s [115,101,116],.s [119,104,101,114,101],.s [100,101,108,101,116,101],.s [102,114,111,109],.s [115,101,108,101,99,116],.s [99,111,117,110,116],.s [116,114,117,101],.s [102,97,108,115,101],.s [97,110,100],.s [111,114],.s [105,115],.s [98,111,111,108],.s [105,110,116],.s [100,101,99],.s [116,101,120,116],.s [98,121,116,101,115]]⟩]
def l588 : List Ent := l588_0
def l525_0 : List Ent := [⟨[], .sl 11 1 [.s [60,62],.s [60,61],.s [40],.s [41],.s [44],.s [59],.s [61],.s [60],.s [43],.s [45],.s [42]]⟩]
def l525 : List Ent := l525_0
def l50_0 : List Ent := [⟨[.s [99,114,101,97,116,101,32,116,97,98,108,101,32,116,32,40,97,32,105,110,116,32,110,111,116,32,110,117,108,108,44,32,112,114,105,109,97,114,121,32,107,101,121,32,40,97,41,41,59,32,105,110,115,101,114,116,32,105,110,116,111,32,116,32,118,97,108,117,101,115,32,40,53,41,59,32,115,101,108,101,99,116,32,42,32,102,114,111,109,32,116,59]], .tu [w7,I 0,I 0]⟩]
def l50_1 : List Ent := [⟨[.s [115,101,108,101,99,116,32,42,32,102,114,111,109,32,116,97,59]], .tu [w8,I 0,I 0]⟩]
def l50 : List Ent := l50_0 ++ l50_1
def l68_0 : List Ent := [⟨[I 1,.s [],w7], w9⟩,
⟨[I 1,.s [],w8], w10⟩]
def l68 : List Ent := l68_0
def l70_0 : List Ent := [⟨[w9,w11], w13⟩,
⟨[w14,w11], w16⟩,
⟨[w23,w11], .tu [I 0,w24,T]⟩,
⟨[w25,w11], .tu [I 0,w26,T]⟩,
⟨[w27,w11], .tu [I 1,w28,T]⟩,
⟨[w10,N], w13⟩,
⟨[w29,N], .tu [I 0,w30,T]⟩,
⟨[w10,w11], w13⟩,
⟨[w31,w11], w16⟩,
⟨[w10,w32], w13⟩,
⟨[w31,w32], w16⟩,
⟨[w10,w34], w13⟩,
⟨[w31,w34], w16⟩,
⟨[w10,w35], w13⟩,
⟨[w31,w35], w16⟩]
def l70 : List Ent := l70_0
def l174_0 : List Ent := [⟨[w3], .tu [w36,N]⟩,
⟨[w4], .tu [w37,N]⟩,
⟨[w5], .tu [w38,N]⟩,
⟨[w36], .tu [w39,N]⟩,
⟨[w37], .tu [w40,N]⟩,
⟨[w38], .tu [w41,N]⟩,
⟨[w39], .tu [w42,N]⟩,
⟨[w40], .tu [w43,N]⟩,
⟨[w41], .tu [w44,N]⟩,
⟨[w42], .tu [w45,N]⟩,
⟨[w43], .tu [w46,N]⟩,
⟨[w44], .tu [w47,N]⟩,
⟨[w45], .tu [w48,.sl 2 10 [I 1,I 0,I 1,I 1,I 0,I 0,F,N,I 0,I 0,I 1,I 0,I 2,I 1,I 0,I 0,F,N,I 0,I 0]]⟩,
⟨[w46], .tu [w49,N]⟩,
⟨[w47], .tu [w50,N]⟩,
⟨[w56], .tu [w57,w59]⟩,
⟨[w61], .tu [w62,N]⟩,
⟨[w63], .tu [w64,N]⟩,
⟨[w65], .tu [w66,w68]⟩,
⟨[w71], .tu [w72,N]⟩,
⟨[w73], .tu [w74,N]⟩,
⟨[w75], .tu [w76,N]⟩,
⟨[w79], .tu [w80,N]⟩,
⟨[w81], .tu [w82,N]⟩,
⟨[w83], .tu [w84,N]⟩,
⟨[w88], .tu [w89,w91]⟩,
⟨[w74], .tu [w92,N]⟩,
⟨[w76], .tu [w93,N]⟩,
⟨[w94], .tu [w95,.sl 2 10 [I 3,I 0,I 1,I 1,I 2,I 1,F,w67,I 2,I 0,I 3,I 0,I 2,I 1,I 2,I 1,F,w67,I 2,I 0]]⟩,
⟨[w96], .tu [w97,N]⟩,
⟨[w98], .tu [w99,N]⟩,
⟨[w104], .tu [w105,N]⟩,
⟨[w106], .tu [w107,N]⟩,
⟨[w108], .tu [w109,N]⟩,
⟨[w95], .tu [w110,N]⟩,
⟨[w111], .tu [w112,N]⟩,
⟨[w113], .tu [w114,N]⟩]
def l174_1 : List Ent := [⟨[w117], .tu [w118,.sl 2 10 [I 3,I 0,I 1,I 1,I 4,I 1,F,w67,I 4,I 0,I 3,I 0,I 2,I 1,I 4,I 1,F,w67,I 4,I 0]]⟩,
⟨[w119], .tu [w120,N]⟩,
⟨[w121], .tu [w122,N]⟩,
⟨[w125], .tu [w126,w128]⟩,
⟨[w112], .tu [w129,N]⟩,
⟨[w114], .tu [w130,N]⟩,
⟨[w66], .tu [w131,N]⟩,
⟨[w131], .tu [w132,w68]⟩,
⟨[w82], .tu [w133,N]⟩,
⟨[w84], .tu [w134,N]⟩,
⟨[w132], .tu [w135,N]⟩,
⟨[w136], .tu [w137,N]⟩,
⟨[w138], .tu [w139,N]⟩,
⟨[w135], .tu [w140,w68]⟩,
⟨[w137], .tu [w141,N]⟩,
⟨[w139], .tu [w142,N]⟩,
⟨[w140], .tu [w143,N]⟩,
⟨[w144], .tu [w145,N]⟩,
⟨[w146], .tu [w147,N]⟩,
⟨[w143], .tu [w148,w68]⟩,
⟨[w145], .tu [w149,N]⟩,
⟨[w147], .tu [w150,N]⟩,
⟨[w148], .tu [w151,N]⟩,
⟨[w152], .tu [w153,N]⟩,
⟨[w154], .tu [w155,N]⟩,
⟨[w151], .tu [w156,w68]⟩,
⟨[w153], .tu [w157,N]⟩,
⟨[w155], .tu [w158,N]⟩,
⟨[w156], .tu [w159,N]⟩,
⟨[w160], .tu [w161,N]⟩,
⟨[w162], .tu [w163,N]⟩,
⟨[w164], .tu [w165,w59]⟩,
⟨[w161], .tu [w166,N]⟩,
⟨[w163], .tu [w167,N]⟩]
def l174_2 : List Ent := [⟨[w159], .tu [w168,w68]⟩]
def l174 : List Ent := l174_0 ++ l174_1 ++ l174_2
def l177_0 : List Ent := [⟨[w49,.ag [I 1,I 0,I 1,I 1,I 0,I 0,F,N,I 0,I 0]], .tu [w169,.sl 1 10 [I 2,I 1,I 0,I 1,I 0,I 0,T,N,I 0,I 0]]⟩,
⟨[w50,.ag [I 1,I 0,I 2,I 1,I 0,I 0,F,N,I 0,I 0]], .tu [w170,.sl 1 10 [I 2,I 2,I 0,I 1,I 0,I 0,T,N,I 0,I 0]]⟩,
⟨[w48,.ag [I 2,I 1,I 0,I 1,I 0,I 0,T,N,I 0,I 0]], .tu [w171,.sl 2 10 [I 3,I 0,I 1,I 1,I 0,I 0,F,w60,I 0,I 0,I 3,I 0,I 2,I 1,I 0,I 0,F,w60,I 0,I 0]]⟩,
⟨[w171,.ag [I 2,I 2,I 0,I 1,I 0,I 0,T,N,I 0,I 0]], .tu [w171,N]⟩,
⟨[w169,.ag [I 3,I 0,I 1,I 1,I 0,I 0,F,w60,I 0,I 0]], .tu [w61,w172]⟩,
⟨[w170,.ag [I 3,I 0,I 2,I 1,I 0,I 0,F,w60,I 0,I 0]], .tu [w63,w173]⟩,
⟨[w171,w174], .tu [w175,N]⟩,
⟨[w175,w176], .tu [w65,N]⟩,
⟨[w62,w177], w179⟩,
⟨[w64,w180], w182⟩,
⟨[w73,w177], w179⟩,
⟨[w75,w180], w182⟩,
⟨[w57,w183], .tu [w186,N]⟩,
⟨[w186,w187], w188⟩,
⟨[w71,w183], w188⟩,
⟨[w71,w187], w188⟩,
⟨[w62,w189], .tu [w81,w172]⟩,
⟨[w64,w190], .tu [w83,w173]⟩,
⟨[w66,w174], w191⟩,
⟨[w66,w176], w191⟩,
⟨[w82,.ag [I 3,I 0,I 1,I 1,I 1,I 1,F,w192,I 1,I 0]], .tu [w96,w178]⟩,
⟨[w84,.ag [I 3,I 0,I 2,I 1,I 1,I 1,F,w192,I 1,I 0]], .tu [w98,w181]⟩,
⟨[w80,w183], .tu [w193,N]⟩]
def l177_1 : List Ent := [⟨[w193,w187], .tu [w94,N]⟩,
⟨[w92,w194], w196⟩,
⟨[w93,w197], w199⟩,
⟨[w106,w194], w196⟩,
⟨[w108,w197], w199⟩,
⟨[w89,w200], .tu [w203,N]⟩,
⟨[w203,w204], w207⟩,
⟨[w206,w200], w207⟩,
⟨[w206,w204], w207⟩,
⟨[w97,.ag [I 3,I 0,I 1,I 1,I 2,I 1,F,w67,I 2,I 0]], .tu [w111,w178]⟩,
⟨[w99,.ag [I 3,I 0,I 2,I 1,I 2,I 1,F,w67,I 2,I 0]], .tu [w113,w181]⟩,
⟨[w95,w183], w208⟩,
⟨[w95,w187], w208⟩,
⟨[w107,.ag [I 3,I 0,I 1,I 1,I 3,I 1,F,w209,I 3,I 0]], .tu [w119,w210]⟩,
⟨[w109,.ag [I 3,I 0,I 2,I 1,I 3,I 1,F,w209,I 3,I 0]], .tu [w121,w211]⟩,
⟨[w105,w212], .tu [w213,N]⟩,
⟨[w213,w214], .tu [w117,N]⟩,
⟨[w120,.ag [I 3,I 0,I 1,I 1,I 4,I 1,F,w67,I 4,I 0]], .tu [.ag [I 1,I 1,I 0,w101,I 1,I 0,I 4,w0,w1,w2,w1,I 10,I 17],w210]⟩,
⟨[w122,.ag [I 3,I 0,I 2,I 1,I 4,I 1,F,w67,I 4,I 0]], .tu [.ag [I 2,I 1,I 0,w101,I 1,I 0,I 4,w0,w1,w2,w1,I 10,I 19],w211]⟩,
⟨[w118,w212], w215⟩,
⟨[w118,w214], w215⟩,
⟨[w129,w216], w218⟩,
⟨[w130,w219], w221⟩]
def l177_2 : List Ent := [⟨[w217,w216], w218⟩,
⟨[w220,w219], w221⟩,
⟨[w126,w200], .tu [w222,N]⟩,
⟨[w222,w204], w224⟩,
⟨[w223,w200], w224⟩,
⟨[w223,w204], w224⟩,
⟨[w133,w189], .tu [w136,w172]⟩,
⟨[w134,w190], .tu [w138,w173]⟩,
⟨[w132,w174], w225⟩,
⟨[w132,w176], w225⟩,
⟨[w141,w189], .tu [w144,w172]⟩,
⟨[w142,w190], .tu [w146,w173]⟩,
⟨[w140,w174], w226⟩,
⟨[w140,w176], w226⟩,
⟨[w149,w189], .tu [w152,w172]⟩,
⟨[w150,w190], .tu [w154,w173]⟩,
⟨[w148,w174], w227⟩,
⟨[w148,w176], w227⟩,
⟨[w157,w189], .tu [w160,w172]⟩,
⟨[w158,w190], .tu [w162,w173]⟩,
⟨[w156,w174], w228⟩,
⟨[w156,w176], w228⟩,
⟨[w166,w177], w230⟩,
⟨[w167,w180], w232⟩]
def l177_3 : List Ent := [⟨[w229,w177], w230⟩,
⟨[w231,w180], w232⟩,
⟨[w165,w183], .tu [w233,N]⟩,
⟨[w233,w187], w235⟩,
⟨[w234,w183], w235⟩,
⟨[w234,w187], w235⟩,
⟨[w166,w189], .tu [.ag [I 1,I 1,I 0,w60,I 1,I 0,I 1,w0,w1,w2,w1,I 16,I 23],w172]⟩,
⟨[w167,w190], .tu [.ag [I 2,I 1,I 0,w60,I 1,I 0,I 1,w0,w1,w2,w1,I 16,I 25],w173]⟩,
⟨[w168,w174], w236⟩,
⟨[w168,w176], w236⟩]
def l177 : List Ent := l177_0 ++ l177_1 ++ l177_2 ++ l177_3
def l162_0 : List Ent := [⟨[I 1,N], w237⟩,
⟨[I 1,.sl 1 1 [w51]], w238⟩,
⟨[I 1,.sl 1 1 [w77]], w239⟩,
⟨[I 1,.sl 2 1 [w51,w85]], w241⟩,
⟨[I 1,.sl 3 1 [w51,w85,w100]], w242⟩,
⟨[I 1,.sl 2 1 [w77,w123]], w243⟩]
def l162 : List Ent := l162_0
def l72_0 : List Ent := [⟨[w237,I 100], w244⟩,
⟨[w238,I 100], .tu [w245,T]⟩,
⟨[w237,I 101], w244⟩,
⟨[w239,I 101], .tu [w246,T]⟩,
⟨[w238,I 110], w244⟩,
⟨[w241,I 110], .tu [w247,T]⟩,
⟨[w241,I 120], w244⟩,
⟨[w242,I 120], .tu [w248,T]⟩,
⟨[w239,I 121], w244⟩,
⟨[w243,I 121], .tu [w249,T]⟩]
def l72 : List Ent := l72_0
def l318_0 : List Ent := [⟨[.s []], .tu [.ag [I 0,I 0,I 0,F,N,.s []],I 0,F]⟩,
⟨[w51], .tu [w12,I 1,T]⟩,
⟨[w77], .tu [w15,I 1,T]⟩,
⟨[w85], .tu [w24,I 1,T]⟩,
⟨[w100], .tu [w26,I 1,T]⟩,
⟨[w123], .tu [w28,I 1,T]⟩,
⟨[w250], .tu [w30,I 1,T]⟩]
def l318 : List Ent := l318_0
def l171_0 : List Ent := [⟨[w12,I 1], .tu [w51,T]⟩,
⟨[w15,I 1], .tu [w77,T]⟩,
⟨[w24,I 1], .tu [w85,T]⟩,
⟨[w26,I 1], .tu [w100,T]⟩,
⟨[w28,I 1], .tu [w123,T]⟩,
⟨[w30,I 1], .tu [w250,T]⟩]
def l171 : List Ent := l171_0
def l322_0 : List Ent := [⟨[w65,w51], .tu [w56,w59,T]⟩,
⟨[w66,w77], .tu [w79,w251,T]⟩,
⟨[w72,w85], .tu [w88,w91,T]⟩,
⟨[w206,w100], .tu [w104,.sl 2 10 [I 3,I 0,I 1,I 1,I 3,I 1,F,w209,I 3,I 0,I 3,I 0,I 2,I 1,I 3,I 1,F,w209,I 3,I 0],T]⟩,
⟨[w110,w123], .tu [w125,w128,T]⟩,
⟨[w159,w51], .tu [w164,w59,T]⟩,
⟨[w234,w250], .tu [.ag [I 0,I 1,I 0,.sl 3 2 [I 1,.s [],I 1,w51,I 1,w250],I 1,I 2,I 2,w53,w69,w87,w1,I 16,I 10],.sl 2 10 [I 3,I 0,I 1,I 1,I 2,I 1,F,w252,I 2,I 0,I 3,I 0,I 2,I 1,I 2,I 1,F,w252,I 2,I 0],T]⟩,
⟨[w168,w77], .tu [.ag [I 0,I 1,I 0,w78,I 1,I 2,I 1,w53,w54,w55,w1,I 16,I 10],w251,T]⟩]
def l322 : List Ent := l322_0
def l73_0 : List Ent := [⟨[w9,w11,w245], w14⟩]
def l73_1 : List Ent := [⟨[w14,w11,w246], w23⟩]
def l73_2 : List Ent := [⟨[w23,w11,w247], w25⟩,
⟨[w25,w11,w248], w27⟩,
⟨[w27,w11,w249], .ag [I 1,I 2,I 1,.s [],F,w7,N,w21,I 1,T,w21,w22,I 0,T]⟩,
⟨[w10,N,w245], w29⟩,
⟨[w10,w11,w245], w31⟩,
⟨[w10,w32,w245], w31⟩,
⟨[w10,w34,w245], w31⟩,
⟨[w10,w35,w245], w31⟩]
def l73 : List Ent := l73_0 ++ l73_1 ++ l73_2
def l16_0 : List Ent := [⟨[], T⟩]
def l16 : List Ent := l16_0
end Go.Av


open Go Go.Av Go.Proofs
set_option maxRecDepth 1000000
set_option linter.all false
namespace Go.Av
variable [Tok]
theorem c153_0 : allR (checkE Tryz.prog fsB 100000 GG TTWa 20 153 (.ag 4)) l153_0 = true := by kernel_rfl
end Go.Av


open Go Go.Av Go.Proofs
set_option maxRecDepth 1000000
set_option linter.all false
namespace Go.Av
variable [Tok]
theorem c171_0 : allR (checkE Tryz.prog fsB 100000 GG TTWa 20 171 (.tu 1)) l171_0 = true := by kernel_rfl
end Go.Av


open Go Go.Av Go.Proofs
set_option maxRecDepth 1000000
set_option linter.all false
namespace Go.Av
variable [Tok]
theorem c174_0 : allR (checkE Tryz.prog fsB 100000 GG TTWa 20 174 (.tu 6)) l174_0 = true := by kernel_rfl
end Go.Av


open Go Go.Av Go.Proofs
set_option maxRecDepth 1000000
set_option linter.all false
namespace Go.Av
variable [Tok]
theorem c174_1 : allR (checkE Tryz.prog fsB 100000 GG TTWa 20 174 (.tu 6)) l174_1 = true := by kernel_rfl
end Go.Av


open Go Go.Av Go.Proofs
set_option maxRecDepth 1000000
set_option linter.all false
namespace Go.Av
variable [Tok]
theorem c174_2 : allR (checkE Tryz.prog fsB 100000 GG TTWa 20 174 (.tu 6)) l174_2 = true := by kernel_rfl
end Go.Av


open Go Go.Av Go.Proofs
set_option maxRecDepth 1000000
set_option linter.all false
namespace Go.Av
variable [Tok]
theorem c177_0 : allR (checkE Tryz.prog fsB 100000 GG TTWa 20 177 (.tu 6)) l177_0 = true := by kernel_rfl
end Go.Av


open Go Go.Av Go.Proofs
set_option maxRecDepth 1000000
set_option linter.all false
namespace Go.Av
variable [Tok]
theorem c177_1 : allR (checkE Tryz.prog fsB 100000 GG TTWa 20 177 (.tu 6)) l177_1 = true := by kernel_rfl
end Go.Av


open Go Go.Av Go.Proofs
set_option maxRecDepth 1000000
set_option linter.all false
namespace Go.Av
variable [Tok]
theorem c177_2 : allR (checkE Tryz.prog fsB 100000 GG TTWa 20 177 (.tu 6)) l177_2 = true := by kernel_rfl
end Go.Av


open Go Go.Av Go.Proofs
set_option maxRecDepth 1000000
set_option linter.all false
namespace Go.Av
variable [Tok]
theorem c177_3 : allR (checkE Tryz.prog fsB 100000 GG TTWa 20 177 (.tu 6)) l177_3 = true := by kernel_rfl
end Go.Av


open Go Go.Av Go.Proofs
set_option maxRecDepth 1000000
set_option linter.all false
namespace Go.Av
variable [Tok]
theorem c322_0 : allR (checkE Tryz.prog fsB 100000 GG TTWa 20 322 (.tu 7)) l322_0 = true := by kernel_rfl
end Go.Av


open Go Go.Av Go.Proofs
set_option maxRecDepth 1000000
set_option linter.all false
namespace Go.Av
variable [Tok]
theorem c525_0 : allR (checkE Tryz.prog fsB 100000 GG TTWa 20 525 (.sl 0)) l525_0 = true := by kernel_rfl
end Go.Av


open Go Go.Av Go.Proofs
set_option maxRecDepth 1000000
set_option linter.all false
namespace Go.Av
variable [Tok]
theorem c588_0 : allR (checkE Tryz.prog fsB 100000 GG TTWa 20 588 (.sl 0)) l588_0 = true := by kernel_rfl
end Go.Av


open Go Go.Av Go.Proofs
set_option maxRecDepth 1000000
set_option linter.all false
namespace Go.Av
variable [Tok]
theorem c68_0 : allR (checkE Tryz.prog fsB 100000 GG TTWa 20 68 (.ag 21)) l68_0 = true := by kernel_rfl
end Go.Av


open Go Go.Av Go.Proofs
set_option maxRecDepth 1000000
set_option linter.all false
namespace Go.Av
variable [Tok]
theorem c70_0 : allR (checkE Tryz.prog fsB 100000 GG TTWa 20 70 (.tu 23)) l70_0 = true := by kernel_rfl
end Go.Av


open Go Go.Av Go.Proofs
set_option maxRecDepth 1000000
set_option linter.all false
namespace Go.Av
variable [Tok]
theorem c72_0 : allR (checkE Tryz.prog fsB 100000 GG TTWa 20 72 (.tu 13)) l72_0 = true := by kernel_rfl
end Go.Av


open Go Go.Av Go.Proofs
set_option maxRecDepth 1000000
set_option linter.all false
namespace Go.Av
variable [Tok]
noncomputable def fsWa1 (k : Nat) : Option AFun := ifb (Nat.beq k 153) (some (.sem (pureF GG TTWa 20 [.flat, .flat, .flat] (memoF l153)))) (ifb (Nat.beq k 588) (some (.sem (pureF GG TTWa 20 [] (memoF l588)))) (ifb (Nat.beq k 525) (some (.sem (pureF GG TTWa 20 [] (memoF l525)))) (ifb (Nat.beq k 68) (some (.sem (pureF GG TTWa 20 [.flat, .flat, .sl 14] (memoF l68)))) (ifb (Nat.beq k 70) (some (.sem (pureF GG TTWa 20 [.ag 21, .sl 0] (memoF l70)))) (ifb (Nat.beq k 174) (some (.sem (pureF GG TTWa 20 [.ag 4] (memoF l174)))) (ifb (Nat.beq k 177) (some (.sem (pureF GG TTWa 20 [.ag 4, .ag 5] (memoF l177)))) (ifb (Nat.beq k 72) (some (.sem (pureF GG TTWa 20 [.ag 12, .flat] (memoF l72)))) (ifb (Nat.beq k 171) (some (.sem (pureF GG TTWa 20 [.ag 22, .flat] (memoF l171)))) (ifb (Nat.beq k 322) (some (.sem (pureF GG TTWa 20 [.ag 4, .flat] (memoF l322)))) (fsB k))))))))))
theorem p153 : PureOk Tryz.prog GG 153 (memoF l153) := memo_pure tz_mixed fsB_ok (fun e he => by
  exact allAnd c153_0 e he)
theorem p588 : PureOk Tryz.prog GG 588 (memoF l588) := memo_pure tz_mixed fsB_ok (fun e he => by
  exact allAnd c588_0 e he)
theorem p525 : PureOk Tryz.prog GG 525 (memoF l525) := memo_pure tz_mixed fsB_ok (fun e he => by
  exact allAnd c525_0 e he)
theorem p68 : PureOk Tryz.prog GG 68 (memoF l68) := memo_pure tz_mixed fsB_ok (fun e he => by
  exact allAnd c68_0 e he)
theorem p70 : PureOk Tryz.prog GG 70 (memoF l70) := memo_pure tz_mixed fsB_ok (fun e he => by
  exact allAnd c70_0 e he)
theorem p174 : PureOk Tryz.prog GG 174 (memoF l174) := memo_pure tz_mixed fsB_ok (fun e he => by
  simp only [l174, List.mem_append, or_assoc] at he
  rcases he with h | h | h
  · exact allAnd c174_0 e h
  · exact allAnd c174_1 e h
  · exact allAnd c174_2 e h)
theorem p177 : PureOk Tryz.prog GG 177 (memoF l177) := memo_pure tz_mixed fsB_ok (fun e he => by
  simp only [l177, List.mem_append, or_assoc] at he
  rcases he with h | h | h | h
  · exact allAnd c177_0 e h
  · exact allAnd c177_1 e h
  · exact allAnd c177_2 e h
  · exact allAnd c177_3 e h)
theorem p72 : PureOk Tryz.prog GG 72 (memoF l72) := memo_pure tz_mixed fsB_ok (fun e he => by
  exact allAnd c72_0 e he)
theorem p171 : PureOk Tryz.prog GG 171 (memoF l171) := memo_pure tz_mixed fsB_ok (fun e he => by
  exact allAnd c171_0 e he)
theorem p322 : PureOk Tryz.prog GG 322 (memoF l322) := memo_pure tz_mixed fsB_ok (fun e he => by
  exact allAnd c322_0 e he)
theorem fsWa1_ok : FsOk Tryz.prog fsWa1 := by
  intro k fn h
  unfold fsWa1 at h
  rcases ifb_or h with ⟨h1, h⟩ | ⟨_, h⟩
  · cases h; rw [Nat.eq_of_beq_eq_true h1]; exact .sem (pure_sem p153 tz_lt)
  rcases ifb_or h with ⟨h1, h⟩ | ⟨_, h⟩
  · cases h; rw [Nat.eq_of_beq_eq_true h1]; exact .sem (pure_sem p588 tz_lt)
  rcases ifb_or h with ⟨h1, h⟩ | ⟨_, h⟩
  · cases h; rw [Nat.eq_of_beq_eq_true h1]; exact .sem (pure_sem p525 tz_lt)
  rcases ifb_or h with ⟨h1, h⟩ | ⟨_, h⟩
  · cases h; rw [Nat.eq_of_beq_eq_true h1]; exact .sem (pure_sem p68 tz_lt)
  rcases ifb_or h with ⟨h1, h⟩ | ⟨_, h⟩
  · cases h; rw [Nat.eq_of_beq_eq_true h1]; exact .sem (pure_sem p70 tz_lt)
  rcases ifb_or h with ⟨h1, h⟩ | ⟨_, h⟩
  · cases h; rw [Nat.eq_of_beq_eq_true h1]; exact .sem (pure_sem p174 tz_lt)
  rcases ifb_or h with ⟨h1, h⟩ | ⟨_, h⟩
  · cases h; rw [Nat.eq_of_beq_eq_true h1]; exact .sem (pure_sem p177 tz_lt)
  rcases ifb_or h with ⟨h1, h⟩ | ⟨_, h⟩
  · cases h; rw [Nat.eq_of_beq_eq_true h1]; exact .sem (pure_sem p72 tz_lt)
  rcases ifb_or h with ⟨h1, h⟩ | ⟨_, h⟩
  · cases h; rw [Nat.eq_of_beq_eq_true h1]; exact .sem (pure_sem p171 tz_lt)
  rcases ifb_or h with ⟨h1, h⟩ | ⟨_, h⟩
  · cases h; rw [Nat.eq_of_beq_eq_true h1]; exact .sem (pure_sem p322 tz_lt)
  exact fsB_ok k fn h
end Go.Av


open Go Go.Av Go.Proofs
set_option maxRecDepth 1000000
set_option linter.all false
namespace Go.Av
variable [Tok]
theorem c318_0 : allR (checkE Tryz.prog fsWa1 100000 GG TTWa 20 318 (.tu 24)) l318_0 = true := by kernel_rfl
end Go.Av


open Go Go.Av Go.Proofs
set_option maxRecDepth 1000000
set_option linter.all false
namespace Go.Av
variable [Tok]
theorem c50_0 : allR (checkE Tryz.prog fsWa1 100000 GG TTWa 20 50 (.tu 25)) l50_0 = true := by kernel_rfl
end Go.Av


open Go Go.Av Go.Proofs
set_option maxRecDepth 1000000
set_option linter.all false
namespace Go.Av
variable [Tok]
theorem c50_1 : allR (checkE Tryz.prog fsWa1 100000 GG TTWa 20 50 (.tu 25)) l50_1 = true := by kernel_rfl
end Go.Av


open Go Go.Av Go.Proofs
set_option maxRecDepth 1000000
set_option linter.all false
namespace Go.Av
variable [Tok]
theorem c73_0 : allR (checkE Tryz.prog fsWa1 100000 GG TTWa 20 73 (.ag 21)) l73_0 = true := by kernel_rfl
end Go.Av


open Go Go.Av Go.Proofs
set_option maxRecDepth 1000000
set_option linter.all false
namespace Go.Av
variable [Tok]
theorem c73_1 : allR (checkE Tryz.prog fsWa1 100000 GG TTWa 20 73 (.ag 21)) l73_1 = true := by kernel_rfl
end Go.Av


open Go Go.Av Go.Proofs
set_option maxRecDepth 1000000
set_option linter.all false
namespace Go.Av
variable [Tok]
theorem c73_2 : allR (checkE Tryz.prog fsWa1 100000 GG TTWa 20 73 (.ag 21)) l73_2 = true := by kernel_rfl
end Go.Av


open Go Go.Av Go.Proofs
set_option maxRecDepth 1000000
set_option linter.all false
namespace Go.Av
variable [Tok]
noncomputable def fsWa2 (k : Nat) : Option AFun := ifb (Nat.beq k 50) (some (.sem (pureF GG TTWa 20 [.flat] (memoF l50)))) (ifb (Nat.beq k 318) (some (.sem (pureF GG TTWa 20 [.flat] (memoF l318)))) (ifb (Nat.beq k 73) (some (.sem (pureF GG TTWa 20 [.ag 21, .sl 0, .ag 11] (memoF l73)))) (fsWa1 k)))
theorem p50 : PureOk Tryz.prog GG 50 (memoF l50) := memo_pure tz_mixed fsWa1_ok (fun e he => by
  simp only [l50, List.mem_append, or_assoc] at he
  rcases he with h | h
  · exact allAnd c50_0 e h
  · exact allAnd c50_1 e h)
theorem p318 : PureOk Tryz.prog GG 318 (memoF l318) := memo_pure tz_mixed fsWa1_ok (fun e he => by
  exact allAnd c318_0 e he)
theorem p73 : PureOk Tryz.prog GG 73 (memoF l73) := memo_pure tz_mixed fsWa1_ok (fun e he => by
  simp only [l73, List.mem_append, or_assoc] at he
  rcases he with h | h | h
  · exact allAnd c73_0 e h
  · exact allAnd c73_1 e h
  · exact allAnd c73_2 e h)
theorem fsWa2_ok : FsOk Tryz.prog fsWa2 := by
  intro k fn h
  unfold fsWa2 at h
  rcases ifb_or h with ⟨h1, h⟩ | ⟨_, h⟩
  · cases h; rw [Nat.eq_of_beq_eq_true h1]; exact .sem (pure_sem p50 tz_lt)
  rcases ifb_or h with ⟨h1, h⟩ | ⟨_, h⟩
  · cases h; rw [Nat.eq_of_beq_eq_true h1]; exact .sem (pure_sem p318 tz_lt)
  rcases ifb_or h with ⟨h1, h⟩ | ⟨_, h⟩
  · cases h; rw [Nat.eq_of_beq_eq_true h1]; exact .sem (pure_sem p73 tz_lt)
  exact fsWa1_ok k fn h
end Go.Av


open Go Go.Av Go.Proofs
set_option maxRecDepth 1000000
set_option linter.all false
namespace Go.Av
variable [Tok]
theorem c162_0 : allR (checkE Tryz.prog fsWa2 100000 GG TTWa 20 162 (.ag 12)) l162_0 = true := by kernel_rfl
end Go.Av


open Go Go.Av Go.Proofs
set_option maxRecDepth 1000000
set_option linter.all false
namespace Go.Av
variable [Tok]
noncomputable def fsWa3 (k : Nat) : Option AFun := ifb (Nat.beq k 162) (some (.sem (pureF GG TTWa 20 [.flat, .sl 0] (memoF l162)))) (fsWa2 k)
theorem p162 : PureOk Tryz.prog GG 162 (memoF l162) := memo_pure tz_mixed fsWa2_ok (fun e he => by
  exact allAnd c162_0 e he)
theorem fsWa3_ok : FsOk Tryz.prog fsWa3 := by
  intro k fn h
  unfold fsWa3 at h
  rcases ifb_or h with ⟨h1, h⟩ | ⟨_, h⟩
  · cases h; rw [Nat.eq_of_beq_eq_true h1]; exact .sem (pure_sem p162 tz_lt)
  exact fsWa2_ok k fn h
end Go.Av


open Go Go.Av Go.Proofs
set_option maxRecDepth 1000000
set_option linter.all false
namespace Go.Av
variable [Tok]
theorem c16_0 : allR (checkE Tryz.prog fsWa3 100000 GG TTWa 20 16 (.flat)) l16_0 = true := by kernel_rfl
end Go.Av


open Go Go.Av Go.Proofs
set_option maxRecDepth 1000000
set_option linter.all false
namespace Go.Av
variable [Tok]
noncomputable def fsWa4 (k : Nat) : Option AFun := ifb (Nat.beq k 16) (some (.sem (pureF GG TTWa 20 [] (memoF l16)))) (fsWa3 k)
theorem p16 : PureOk Tryz.prog GG 16 (memoF l16) := memo_pure tz_mixed fsWa3_ok (fun e he => by
  exact allAnd c16_0 e he)
theorem fsWa4_ok : FsOk Tryz.prog fsWa4 := by
  intro k fn h
  unfold fsWa4 at h
  rcases ifb_or h with ⟨h1, h⟩ | ⟨_, h⟩
  · cases h; rw [Nat.eq_of_beq_eq_true h1]; exact .sem (pure_sem p16 tz_lt)
  exact fsWa3_ok k fn h
end Go.Av


open Go Go.Av Go.Proofs
set_option maxRecDepth 1000000
set_option linter.all false
namespace Go.Av
noncomputable def fsWaT [Tok] (l : List Rem) (k : Nat) : Option AFun := ifb (Nat.beq k 22) (some (.sem (withinL l))) (ifb (Nat.beq k 66) (some (.sem (withinL l))) (fsWa4 k))
end Go.Av
