/- A part of the proof: what a machine of our own over the model's code answers is what the model does; no condition. -/
import Derived.Test.YtndjadliihggpaaGreatDoorCoA
import Derived.Test.YtndjadliihggpaaGreatDoorAwB
import Derived.Test.YtndjadliihggpaaGreatDoorCtA
set_option linter.all false
open Go Go.Av Go.Proofs
set_option maxRecDepth 1000000
set_option linter.all false
namespace Go.Av
def TTDr : List (List Sh) := [[.flat], [.flat, .flat, .flat], [.flat], [.flat, .flat, .flat, .flat, .flat, .flat, .sl 3], [.flat, .flat], [.flat, .flat, .flat, .flat], [.flat, .flat, .sl 1, .flat, .sl 2, .flat, .flat, .flat, .flat, .flat, .flat, .sl 3, .sl 4, .flat, .flat, .flat, .sl 5, .flat, .flat, .flat, .flat, .flat, .flat, .sl 3, .flat, .flat, .flat, .flat, .flat, .flat, .sl 3], [.ag 6, .flat, .flat], [.flat, .sl 1, .flat, .sl 2, .flat, .flat, .flat, .flat, .flat, .flat, .sl 3, .sl 4, .sl 9], [.sl 5], [.flat, .sl 9, .flat], [.sl 8, .ag 10], [.flat, .sl 1, .flat, .sl 2, .flat, .flat, .flat, .flat, .flat, .flat, .sl 3, .sl 4], [.flat, .flat], [.sl 8, .flat]]
namespace VDr
abbrev I (n : Int) : DV := .i .i64 n
abbrev Y (n : Int) : DV := .i .u8 n
abbrev T : DV := .b true
abbrev F : DV := .b false
abbrev N : DV := .nil
def d0 : DV := .sl 1 3 [.s [97],I 2,T]
def d1 : DV := .ag [I 1,.s [116],d0,I 0,N,I 0,.s [],I 0,I 0,I 0,.s [],N,N,.s [],.s [],.s [],N,I 0,.s [],I 0,I 0,I 0,.s [],N,I 0,.s [],I 0,I 0,I 0,.s [],N]
def d2 : DV := .sl 1 13 [.s [116],d0,I 0,N,I 0,.s [],I 0,I 0,I 0,.s [],N,N,N]
def d3 : DV := .ag [I 0,N,I 0]
def d4 : DV := .sl 1 4 [I 2,I 5,I 0,.s []]
def d5 : DV := .ag [I 4,.s [],N,I 0,N,I 0,.s [],I 0,I 0,I 0,.s [],N,N,.s [116],.s [],.s [],d4,I 0,.s [],I 0,I 0,I 0,.s [],N,I 0,.s [],I 0,I 0,I 0,.s [],N]
def d6 : DV := .sl 1 13 [.s [116],d0,I 0,N,I 0,.s [],I 0,I 0,I 0,.s [],N,N,.sl 1 1 [d4]]
def d7 : DV := .ag [I 0,N,I 1]
def d8 : DV := .sl 1 3 [.s [107],I 2,T]
def d9 : DV := .ag [I 1,.s [116],d8,I 0,N,I 0,.s [],I 0,I 0,I 0,.s [],N,N,.s [],.s [],.s [],N,I 0,.s [],I 0,I 0,I 0,.s [],N,I 0,.s [],I 0,I 0,I 0,.s [],N]
def d10 : DV := .sl 1 13 [.s [116],d8,I 0,N,I 0,.s [],I 0,I 0,I 0,.s [],N,N,N]
def d11 : DV := .sl 1 4 [I 2,I 0,I 0,.s []]
def d12 : DV := .sl 1 13 [.s [116],d8,I 0,N,I 0,.s [],I 0,I 0,I 0,.s [],N,N,.sl 1 1 [d11]]
def d13 : DV := .sl 1 4 [I 2,I 1,I 0,.s []]
def d14 : DV := .sl 1 13 [.s [116],d8,I 0,N,I 0,.s [],I 0,I 0,I 0,.s [],N,N,.sl 2 1 [d11,d13]]
def d15 : DV := .sl 1 4 [I 2,I 2,I 0,.s []]
def d16 : DV := .sl 1 13 [.s [116],d8,I 0,N,I 0,.s [],I 0,I 0,I 0,.s [],N,N,.sl 3 1 [d11,d13,d15]]
def d17 : DV := .sl 1 4 [I 2,I 3,I 0,.s []]
def d18 : DV := .sl 1 13 [.s [116],d8,I 0,N,I 0,.s [],I 0,I 0,I 0,.s [],N,N,.sl 4 1 [d11,d13,d15,d17]]
def d19 : DV := .sl 1 4 [I 2,I 4,I 0,.s []]
def d20 : DV := .sl 1 13 [.s [116],d8,I 0,N,I 0,.s [],I 0,I 0,I 0,.s [],N,N,.sl 5 1 [d11,d13,d15,d17,d19]]
def d21 : DV := .sl 1 13 [.s [116],d8,I 0,N,I 0,.s [],I 0,I 0,I 0,.s [],N,N,.sl 6 1 [d11,d13,d15,d17,d19,d4]]
def d22 : DV := .sl 1 4 [I 2,I 6,I 0,.s []]
def d23 : DV := .sl 1 13 [.s [116],d8,I 0,N,I 0,.s [],I 0,I 0,I 0,.s [],N,N,.sl 7 1 [d11,d13,d15,d17,d19,d4,d22]]
def d24 : DV := .sl 1 4 [I 2,I 7,I 0,.s []]
def d25 : DV := .sl 1 13 [.s [116],d8,I 0,N,I 0,.s [],I 0,I 0,I 0,.s [],N,N,.sl 8 1 [d11,d13,d15,d17,d19,d4,d22,d24]]
def d26 : DV := .sl 1 4 [I 2,I 8,I 0,.s []]
def d27 : DV := .sl 1 13 [.s [116],d8,I 0,N,I 0,.s [],I 0,I 0,I 0,.s [],N,N,.sl 9 1 [d11,d13,d15,d17,d19,d4,d22,d24,d26]]
def d28 : DV := .sl 1 4 [I 2,I 9,I 0,.s []]
def d29 : DV := .sl 1 13 [.s [116],d8,I 0,N,I 0,.s [],I 0,I 0,I 0,.s [],N,N,.sl 10 1 [d11,d13,d15,d17,d19,d4,d22,d24,d26,d28]]
def d30 : DV := .sl 1 4 [I 2,I 10,I 0,.s []]
def d31 : DV := .sl 1 13 [.s [116],d8,I 0,N,I 0,.s [],I 0,I 0,I 0,.s [],N,N,.sl 11 1 [d11,d13,d15,d17,d19,d4,d22,d24,d26,d28,d30]]
def d32 : DV := .sl 1 4 [I 2,I 11,I 0,.s []]
def d33 : DV := .sl 1 13 [.s [116],d8,I 0,N,I 0,.s [],I 0,I 0,I 0,.s [],N,N,.sl 12 1 [d11,d13,d15,d17,d19,d4,d22,d24,d26,d28,d30,d32]]
def d34 : DV := .sl 1 4 [I 2,I 12,I 0,.s []]
def d35 : DV := .sl 1 13 [.s [116],d8,I 0,N,I 0,.s [],I 0,I 0,I 0,.s [],N,N,.sl 13 1 [d11,d13,d15,d17,d19,d4,d22,d24,d26,d28,d30,d32,d34]]
def d36 : DV := .sl 1 4 [I 2,I 13,I 0,.s []]
def d37 : DV := .sl 1 13 [.s [116],d8,I 0,N,I 0,.s [],I 0,I 0,I 0,.s [],N,N,.sl 14 1 [d11,d13,d15,d17,d19,d4,d22,d24,d26,d28,d30,d32,d34,d36]]
def d38 : DV := .sl 1 4 [I 2,I 14,I 0,.s []]
def d39 : DV := .sl 1 13 [.s [116],d8,I 0,N,I 0,.s [],I 0,I 0,I 0,.s [],N,N,.sl 15 1 [d11,d13,d15,d17,d19,d4,d22,d24,d26,d28,d30,d32,d34,d36,d38]]
def d40 : DV := .sl 1 4 [I 2,I 15,I 0,.s []]
def d41 : DV := .sl 1 13 [.s [116],d8,I 0,N,I 0,.s [],I 0,I 0,I 0,.s [],N,N,.sl 16 1 [d11,d13,d15,d17,d19,d4,d22,d24,d26,d28,d30,d32,d34,d36,d38,d40]]
def d42 : DV := .sl 1 4 [I 2,I 16,I 0,.s []]
def d43 : DV := .sl 1 13 [.s [116],d8,I 0,N,I 0,.s [],I 0,I 0,I 0,.s [],N,N,.sl 17 1 [d11,d13,d15,d17,d19,d4,d22,d24,d26,d28,d30,d32,d34,d36,d38,d40,d42]]
def d44 : DV := .sl 1 4 [I 2,I 17,I 0,.s []]
def d45 : DV := .sl 1 13 [.s [116],d8,I 0,N,I 0,.s [],I 0,I 0,I 0,.s [],N,N,.sl 18 1 [d11,d13,d15,d17,d19,d4,d22,d24,d26,d28,d30,d32,d34,d36,d38,d40,d42,d44]]
def d46 : DV := .sl 1 4 [I 2,I 18,I 0,.s []]
def d47 : DV := .sl 1 13 [.s [116],d8,I 0,N,I 0,.s [],I 0,I 0,I 0,.s [],N,N,.sl 19 1 [d11,d13,d15,d17,d19,d4,d22,d24,d26,d28,d30,d32,d34,d36,d38,d40,d42,d44,d46]]
def d48 : DV := .sl 1 4 [I 2,I 19,I 0,.s []]
def d49 : DV := .sl 1 13 [.s [116],d8,I 0,N,I 0,.s [],I 0,I 0,I 0,.s [],N,N,.sl 20 1 [d11,d13,d15,d17,d19,d4,d22,d24,d26,d28,d30,d32,d34,d36,d38,d40,d42,d44,d46,d48]]
def d50 : DV := .sl 1 4 [I 2,I 20,I 0,.s []]
def d51 : DV := .sl 1 13 [.s [116],d8,I 0,N,I 0,.s [],I 0,I 0,I 0,.s [],N,N,.sl 21 1 [d11,d13,d15,d17,d19,d4,d22,d24,d26,d28,d30,d32,d34,d36,d38,d40,d42,d44,d46,d48,d50]]
def d52 : DV := .sl 1 4 [I 2,I 21,I 0,.s []]
def d53 : DV := .sl 1 13 [.s [116],d8,I 0,N,I 0,.s [],I 0,I 0,I 0,.s [],N,N,.sl 22 1 [d11,d13,d15,d17,d19,d4,d22,d24,d26,d28,d30,d32,d34,d36,d38,d40,d42,d44,d46,d48,d50,d52]]
def d54 : DV := .sl 1 4 [I 2,I 22,I 0,.s []]
def d55 : DV := .sl 1 13 [.s [116],d8,I 0,N,I 0,.s [],I 0,I 0,I 0,.s [],N,N,.sl 23 1 [d11,d13,d15,d17,d19,d4,d22,d24,d26,d28,d30,d32,d34,d36,d38,d40,d42,d44,d46,d48,d50,d52,d54]]
def d56 : DV := .sl 1 4 [I 2,I 23,I 0,.s []]
def d57 : DV := .sl 1 13 [.s [116],d8,I 0,N,I 0,.s [],I 0,I 0,I 0,.s [],N,N,.sl 24 1 [d11,d13,d15,d17,d19,d4,d22,d24,d26,d28,d30,d32,d34,d36,d38,d40,d42,d44,d46,d48,d50,d52,d54,d56]]
def d58 : DV := .sl 1 4 [I 2,I 24,I 0,.s []]
def d59 : DV := .sl 1 13 [.s [116],d8,I 0,N,I 0,.s [],I 0,I 0,I 0,.s [],N,N,.sl 25 1 [d11,d13,d15,d17,d19,d4,d22,d24,d26,d28,d30,d32,d34,d36,d38,d40,d42,d44,d46,d48,d50,d52,d54,d56,d58]]
def d60 : DV := .sl 1 4 [I 2,I 25,I 0,.s []]
def d61 : DV := .sl 1 13 [.s [116],d8,I 0,N,I 0,.s [],I 0,I 0,I 0,.s [],N,N,.sl 26 1 [d11,d13,d15,d17,d19,d4,d22,d24,d26,d28,d30,d32,d34,d36,d38,d40,d42,d44,d46,d48,d50,d52,d54,d56,d58,d60]]
def d62 : DV := .sl 1 4 [I 2,I 26,I 0,.s []]
def d63 : DV := .sl 1 13 [.s [116],d8,I 0,N,I 0,.s [],I 0,I 0,I 0,.s [],N,N,.sl 27 1 [d11,d13,d15,d17,d19,d4,d22,d24,d26,d28,d30,d32,d34,d36,d38,d40,d42,d44,d46,d48,d50,d52,d54,d56,d58,d60,d62]]
def d64 : DV := .sl 1 4 [I 2,I 27,I 0,.s []]
def d65 : DV := .sl 1 13 [.s [116],d8,I 0,N,I 0,.s [],I 0,I 0,I 0,.s [],N,N,.sl 28 1 [d11,d13,d15,d17,d19,d4,d22,d24,d26,d28,d30,d32,d34,d36,d38,d40,d42,d44,d46,d48,d50,d52,d54,d56,d58,d60,d62,d64]]
def d66 : DV := .sl 1 4 [I 2,I 28,I 0,.s []]
def d67 : DV := .sl 1 13 [.s [116],d8,I 0,N,I 0,.s [],I 0,I 0,I 0,.s [],N,N,.sl 29 1 [d11,d13,d15,d17,d19,d4,d22,d24,d26,d28,d30,d32,d34,d36,d38,d40,d42,d44,d46,d48,d50,d52,d54,d56,d58,d60,d62,d64,d66]]
def d68 : DV := .sl 1 4 [I 2,I 29,I 0,.s []]
def d69 : DV := .sl 1 13 [.s [116],d8,I 0,N,I 0,.s [],I 0,I 0,I 0,.s [],N,N,.sl 30 1 [d11,d13,d15,d17,d19,d4,d22,d24,d26,d28,d30,d32,d34,d36,d38,d40,d42,d44,d46,d48,d50,d52,d54,d56,d58,d60,d62,d64,d66,d68]]
def d70 : DV := .sl 1 4 [I 2,I 30,I 0,.s []]
def d71 : DV := .sl 1 13 [.s [116],d8,I 0,N,I 0,.s [],I 0,I 0,I 0,.s [],N,N,.sl 31 1 [d11,d13,d15,d17,d19,d4,d22,d24,d26,d28,d30,d32,d34,d36,d38,d40,d42,d44,d46,d48,d50,d52,d54,d56,d58,d60,d62,d64,d66,d68,d70]]
def d72 : DV := .sl 1 4 [I 2,I 31,I 0,.s []]
def d73 : DV := .sl 1 13 [.s [116],d8,I 0,N,I 0,.s [],I 0,I 0,I 0,.s [],N,N,.sl 32 1 [d11,d13,d15,d17,d19,d4,d22,d24,d26,d28,d30,d32,d34,d36,d38,d40,d42,d44,d46,d48,d50,d52,d54,d56,d58,d60,d62,d64,d66,d68,d70,d72]]
def d74 : DV := .sl 1 4 [I 2,I 32,I 0,.s []]
def d75 : DV := .sl 1 13 [.s [116],d8,I 0,N,I 0,.s [],I 0,I 0,I 0,.s [],N,N,.sl 33 1 [d11,d13,d15,d17,d19,d4,d22,d24,d26,d28,d30,d32,d34,d36,d38,d40,d42,d44,d46,d48,d50,d52,d54,d56,d58,d60,d62,d64,d66,d68,d70,d72,d74]]
def d76 : DV := .sl 1 4 [I 2,I 33,I 0,.s []]
def d77 : DV := .sl 1 13 [.s [116],d8,I 0,N,I 0,.s [],I 0,I 0,I 0,.s [],N,N,.sl 34 1 [d11,d13,d15,d17,d19,d4,d22,d24,d26,d28,d30,d32,d34,d36,d38,d40,d42,d44,d46,d48,d50,d52,d54,d56,d58,d60,d62,d64,d66,d68,d70,d72,d74,d76]]
def d78 : DV := .sl 1 4 [I 2,I 34,I 0,.s []]
def d79 : DV := .sl 1 13 [.s [116],d8,I 0,N,I 0,.s [],I 0,I 0,I 0,.s [],N,N,.sl 35 1 [d11,d13,d15,d17,d19,d4,d22,d24,d26,d28,d30,d32,d34,d36,d38,d40,d42,d44,d46,d48,d50,d52,d54,d56,d58,d60,d62,d64,d66,d68,d70,d72,d74,d76,d78]]
def d80 : DV := .sl 1 4 [I 2,I 35,I 0,.s []]
def d81 : DV := .sl 1 13 [.s [116],d8,I 0,N,I 0,.s [],I 0,I 0,I 0,.s [],N,N,.sl 36 1 [d11,d13,d15,d17,d19,d4,d22,d24,d26,d28,d30,d32,d34,d36,d38,d40,d42,d44,d46,d48,d50,d52,d54,d56,d58,d60,d62,d64,d66,d68,d70,d72,d74,d76,d78,d80]]
def d82 : DV := .sl 1 4 [I 2,I 36,I 0,.s []]
def d83 : DV := .sl 1 13 [.s [116],d8,I 0,N,I 0,.s [],I 0,I 0,I 0,.s [],N,N,.sl 37 1 [d11,d13,d15,d17,d19,d4,d22,d24,d26,d28,d30,d32,d34,d36,d38,d40,d42,d44,d46,d48,d50,d52,d54,d56,d58,d60,d62,d64,d66,d68,d70,d72,d74,d76,d78,d80,d82]]
def d84 : DV := .sl 1 4 [I 2,I 37,I 0,.s []]
def d85 : DV := .sl 1 13 [.s [116],d8,I 0,N,I 0,.s [],I 0,I 0,I 0,.s [],N,N,.sl 38 1 [d11,d13,d15,d17,d19,d4,d22,d24,d26,d28,d30,d32,d34,d36,d38,d40,d42,d44,d46,d48,d50,d52,d54,d56,d58,d60,d62,d64,d66,d68,d70,d72,d74,d76,d78,d80,d82,d84]]
def d86 : DV := .sl 1 4 [I 2,I 38,I 0,.s []]
def d87 : DV := .sl 1 13 [.s [116],d8,I 0,N,I 0,.s [],I 0,I 0,I 0,.s [],N,N,.sl 39 1 [d11,d13,d15,d17,d19,d4,d22,d24,d26,d28,d30,d32,d34,d36,d38,d40,d42,d44,d46,d48,d50,d52,d54,d56,d58,d60,d62,d64,d66,d68,d70,d72,d74,d76,d78,d80,d82,d84,d86]]
def d88 : DV := .sl 1 4 [I 2,I 39,I 0,.s []]
def d89 : DV := .sl 1 13 [.s [116],d8,I 0,N,I 0,.s [],I 0,I 0,I 0,.s [],N,N,.sl 40 1 [d11,d13,d15,d17,d19,d4,d22,d24,d26,d28,d30,d32,d34,d36,d38,d40,d42,d44,d46,d48,d50,d52,d54,d56,d58,d60,d62,d64,d66,d68,d70,d72,d74,d76,d78,d80,d82,d84,d86,d88]]
def d90 : DV := .sl 1 4 [I 2,I 40,I 0,.s []]
def d91 : DV := .sl 1 13 [.s [116],d8,I 0,N,I 0,.s [],I 0,I 0,I 0,.s [],N,N,.sl 41 1 [d11,d13,d15,d17,d19,d4,d22,d24,d26,d28,d30,d32,d34,d36,d38,d40,d42,d44,d46,d48,d50,d52,d54,d56,d58,d60,d62,d64,d66,d68,d70,d72,d74,d76,d78,d80,d82,d84,d86,d88,d90]]
def d92 : DV := .sl 1 4 [I 2,I 41,I 0,.s []]
def d93 : DV := .sl 1 13 [.s [116],d8,I 0,N,I 0,.s [],I 0,I 0,I 0,.s [],N,N,.sl 42 1 [d11,d13,d15,d17,d19,d4,d22,d24,d26,d28,d30,d32,d34,d36,d38,d40,d42,d44,d46,d48,d50,d52,d54,d56,d58,d60,d62,d64,d66,d68,d70,d72,d74,d76,d78,d80,d82,d84,d86,d88,d90,d92]]
def d94 : DV := .sl 1 4 [I 2,I 42,I 0,.s []]
def d95 : DV := .sl 1 13 [.s [116],d8,I 0,N,I 0,.s [],I 0,I 0,I 0,.s [],N,N,.sl 43 1 [d11,d13,d15,d17,d19,d4,d22,d24,d26,d28,d30,d32,d34,d36,d38,d40,d42,d44,d46,d48,d50,d52,d54,d56,d58,d60,d62,d64,d66,d68,d70,d72,d74,d76,d78,d80,d82,d84,d86,d88,d90,d92,d94]]
def d96 : DV := .sl 1 4 [I 2,I 43,I 0,.s []]
def d97 : DV := .sl 1 13 [.s [116],d8,I 0,N,I 0,.s [],I 0,I 0,I 0,.s [],N,N,.sl 44 1 [d11,d13,d15,d17,d19,d4,d22,d24,d26,d28,d30,d32,d34,d36,d38,d40,d42,d44,d46,d48,d50,d52,d54,d56,d58,d60,d62,d64,d66,d68,d70,d72,d74,d76,d78,d80,d82,d84,d86,d88,d90,d92,d94,d96]]
def d98 : DV := .sl 1 4 [I 2,I 44,I 0,.s []]
def d99 : DV := .sl 1 13 [.s [116],d8,I 0,N,I 0,.s [],I 0,I 0,I 0,.s [],N,N,.sl 45 1 [d11,d13,d15,d17,d19,d4,d22,d24,d26,d28,d30,d32,d34,d36,d38,d40,d42,d44,d46,d48,d50,d52,d54,d56,d58,d60,d62,d64,d66,d68,d70,d72,d74,d76,d78,d80,d82,d84,d86,d88,d90,d92,d94,d96,d98]]
def d100 : DV := .sl 1 4 [I 2,I 45,I 0,.s []]
def d101 : DV := .sl 1 13 [.s [116],d8,I 0,N,I 0,.s [],I 0,I 0,I 0,.s [],N,N,.sl 46 1 [d11,d13,d15,d17,d19,d4,d22,d24,d26,d28,d30,d32,d34,d36,d38,d40,d42,d44,d46,d48,d50,d52,d54,d56,d58,d60,d62,d64,d66,d68,d70,d72,d74,d76,d78,d80,d82,d84,d86,d88,d90,d92,d94,d96,d98,d100]]
def d102 : DV := .sl 1 4 [I 2,I 46,I 0,.s []]
def d103 : DV := .sl 1 13 [.s [116],d8,I 0,N,I 0,.s [],I 0,I 0,I 0,.s [],N,N,.sl 47 1 [d11,d13,d15,d17,d19,d4,d22,d24,d26,d28,d30,d32,d34,d36,d38,d40,d42,d44,d46,d48,d50,d52,d54,d56,d58,d60,d62,d64,d66,d68,d70,d72,d74,d76,d78,d80,d82,d84,d86,d88,d90,d92,d94,d96,d98,d100,d102]]
def d104 : DV := .sl 1 4 [I 2,I 47,I 0,.s []]
def d105 : DV := .sl 1 13 [.s [116],d8,I 0,N,I 0,.s [],I 0,I 0,I 0,.s [],N,N,.sl 48 1 [d11,d13,d15,d17,d19,d4,d22,d24,d26,d28,d30,d32,d34,d36,d38,d40,d42,d44,d46,d48,d50,d52,d54,d56,d58,d60,d62,d64,d66,d68,d70,d72,d74,d76,d78,d80,d82,d84,d86,d88,d90,d92,d94,d96,d98,d100,d102,d104]]
def d106 : DV := .sl 1 4 [I 2,I 48,I 0,.s []]
def d107 : DV := .sl 1 13 [.s [116],d8,I 0,N,I 0,.s [],I 0,I 0,I 0,.s [],N,N,.sl 49 1 [d11,d13,d15,d17,d19,d4,d22,d24,d26,d28,d30,d32,d34,d36,d38,d40,d42,d44,d46,d48,d50,d52,d54,d56,d58,d60,d62,d64,d66,d68,d70,d72,d74,d76,d78,d80,d82,d84,d86,d88,d90,d92,d94,d96,d98,d100,d102,d104,d106]]
def d108 : DV := .sl 1 4 [I 2,I 49,I 0,.s []]
def d109 : DV := .sl 1 13 [.s [116],d8,I 0,N,I 0,.s [],I 0,I 0,I 0,.s [],N,N,.sl 50 1 [d11,d13,d15,d17,d19,d4,d22,d24,d26,d28,d30,d32,d34,d36,d38,d40,d42,d44,d46,d48,d50,d52,d54,d56,d58,d60,d62,d64,d66,d68,d70,d72,d74,d76,d78,d80,d82,d84,d86,d88,d90,d92,d94,d96,d98,d100,d102,d104,d106,d108]]
def d110 : DV := .sl 1 4 [I 2,I 50,I 0,.s []]
def d111 : DV := .sl 1 13 [.s [116],d8,I 0,N,I 0,.s [],I 0,I 0,I 0,.s [],N,N,.sl 51 1 [d11,d13,d15,d17,d19,d4,d22,d24,d26,d28,d30,d32,d34,d36,d38,d40,d42,d44,d46,d48,d50,d52,d54,d56,d58,d60,d62,d64,d66,d68,d70,d72,d74,d76,d78,d80,d82,d84,d86,d88,d90,d92,d94,d96,d98,d100,d102,d104,d106,d108,d110]]
def d112 : DV := .sl 1 4 [I 2,I 51,I 0,.s []]
def d113 : DV := .sl 1 13 [.s [116],d8,I 0,N,I 0,.s [],I 0,I 0,I 0,.s [],N,N,.sl 52 1 [d11,d13,d15,d17,d19,d4,d22,d24,d26,d28,d30,d32,d34,d36,d38,d40,d42,d44,d46,d48,d50,d52,d54,d56,d58,d60,d62,d64,d66,d68,d70,d72,d74,d76,d78,d80,d82,d84,d86,d88,d90,d92,d94,d96,d98,d100,d102,d104,d106,d108,d110,d112]]
def d114 : DV := .sl 1 4 [I 2,I 52,I 0,.s []]
def d115 : DV := .sl 1 13 [.s [116],d8,I 0,N,I 0,.s [],I 0,I 0,I 0,.s [],N,N,.sl 53 1 [d11,d13,d15,d17,d19,d4,d22,d24,d26,d28,d30,d32,d34,d36,d38,d40,d42,d44,d46,d48,d50,d52,d54,d56,d58,d60,d62,d64,d66,d68,d70,d72,d74,d76,d78,d80,d82,d84,d86,d88,d90,d92,d94,d96,d98,d100,d102,d104,d106,d108,d110,d112,d114]]
def d116 : DV := .sl 1 4 [I 2,I 53,I 0,.s []]
def d117 : DV := .sl 1 13 [.s [116],d8,I 0,N,I 0,.s [],I 0,I 0,I 0,.s [],N,N,.sl 54 1 [d11,d13,d15,d17,d19,d4,d22,d24,d26,d28,d30,d32,d34,d36,d38,d40,d42,d44,d46,d48,d50,d52,d54,d56,d58,d60,d62,d64,d66,d68,d70,d72,d74,d76,d78,d80,d82,d84,d86,d88,d90,d92,d94,d96,d98,d100,d102,d104,d106,d108,d110,d112,d114,d116]]
def d118 : DV := .sl 1 4 [I 2,I 54,I 0,.s []]
def d119 : DV := .sl 55 1 [d11,d13,d15,d17,d19,d4,d22,d24,d26,d28,d30,d32,d34,d36,d38,d40,d42,d44,d46,d48,d50,d52,d54,d56,d58,d60,d62,d64,d66,d68,d70,d72,d74,d76,d78,d80,d82,d84,d86,d88,d90,d92,d94,d96,d98,d100,d102,d104,d106,d108,d110,d112,d114,d116,d118]
def d120 : DV := .sl 1 13 [.s [116],d8,I 0,N,I 0,.s [],I 0,I 0,I 0,.s [],N,N,d119]
def d121 : DV := .ag [I 3,.s [],N,I 0,N,I 0,.s [],I 0,I 0,I 0,.s [],N,N,.s [116],.s [107],.s [116],N,I 0,.s [],I 0,I 0,I 0,.s [],N,I 0,.s [],I 0,I 0,I 0,.s [],N]
def d122 : DV := .sl 1 2 [I 0,.s [116]]
def d123 : DV := .sl 1 13 [.s [116],d8,I 0,N,I 0,.s [],I 0,I 0,I 0,.s [],N,d122,d119]
def d124 : DV := .sl 2 2 [I 0,.s [116],I 0,.s [116]]
def d125 : DV := .sl 1 13 [.s [116],d8,I 0,N,I 0,.s [],I 0,I 0,I 0,.s [],N,d124,d119]
def d126 : DV := .sl 3 2 [I 0,.s [116],I 0,.s [116],I 0,.s [116]]
def d127 : DV := .sl 1 13 [.s [116],d8,I 0,N,I 0,.s [],I 0,I 0,I 0,.s [],N,d126,d119]
def d128 : DV := .sl 4 2 [I 0,.s [116],I 0,.s [116],I 0,.s [116],I 0,.s [116]]
def d129 : DV := .sl 1 13 [.s [116],d8,I 0,N,I 0,.s [],I 0,I 0,I 0,.s [],N,d128,d119]
def d130 : DV := .sl 5 2 [I 0,.s [116],I 0,.s [116],I 0,.s [116],I 0,.s [116],I 0,.s [116]]
def d131 : DV := .sl 1 13 [.s [116],d8,I 0,N,I 0,.s [],I 0,I 0,I 0,.s [],N,d130,d119]
def d132 : DV := .sl 6 2 [I 0,.s [116],I 0,.s [116],I 0,.s [116],I 0,.s [116],I 0,.s [116],I 0,.s [116]]
def d133 : DV := .sl 1 13 [.s [116],d8,I 0,N,I 0,.s [],I 0,I 0,I 0,.s [],N,d132,d119]
def d134 : DV := .ag [I 11,N,I 0]
def d135 : DV := .s [117,98]
def d136 : DV := .ag [I 1,d135,d8,I 0,N,I 0,.s [],I 0,I 0,I 0,.s [],N,N,.s [],.s [],.s [],N,I 0,.s [],I 0,I 0,I 0,.s [],N,I 0,.s [],I 0,I 0,I 0,.s [],N]
def d137 : DV := .sl 2 13 [.s [116],d8,I 0,N,I 0,.s [],I 0,I 0,I 0,.s [],N,N,d119,d135,d8,I 0,N,I 0,.s [],I 0,I 0,I 0,.s [],N,N,N]
def d138 : DV := .sl 2 13 [.s [116],d8,I 0,N,I 0,.s [],I 0,I 0,I 0,.s [],N,d122,d119,d135,d8,I 0,N,I 0,.s [],I 0,I 0,I 0,.s [],N,N,N]
def d139 : DV := .sl 2 13 [.s [116],d8,I 0,N,I 0,.s [],I 0,I 0,I 0,.s [],N,d124,d119,d135,d8,I 0,N,I 0,.s [],I 0,I 0,I 0,.s [],N,N,N]
def d140 : DV := .sl 2 13 [.s [116],d8,I 0,N,I 0,.s [],I 0,I 0,I 0,.s [],N,d126,d119,d135,d8,I 0,N,I 0,.s [],I 0,I 0,I 0,.s [],N,N,N]
def d141 : DV := .sl 2 13 [.s [116],d8,I 0,N,I 0,.s [],I 0,I 0,I 0,.s [],N,d128,d119,d135,d8,I 0,N,I 0,.s [],I 0,I 0,I 0,.s [],N,N,N]
def d142 : DV := .sl 2 13 [.s [116],d8,I 0,N,I 0,.s [],I 0,I 0,I 0,.s [],N,d130,d119,d135,d8,I 0,N,I 0,.s [],I 0,I 0,I 0,.s [],N,N,N]
def d143 : DV := .sl 2 13 [.s [116],d8,I 0,N,I 0,.s [],I 0,I 0,I 0,.s [],N,d132,d119,d135,d8,I 0,N,I 0,.s [],I 0,I 0,I 0,.s [],N,N,N]
def d144 : DV := .s [117,99]
def d145 : DV := .ag [I 1,d144,d8,I 0,N,I 0,.s [],I 0,I 0,I 0,.s [],N,N,.s [],.s [],.s [],N,I 0,.s [],I 0,I 0,I 0,.s [],N,I 0,.s [],I 0,I 0,I 0,.s [],N]
def d146 : DV := .sl 3 13 [.s [116],d8,I 0,N,I 0,.s [],I 0,I 0,I 0,.s [],N,N,d119,d135,d8,I 0,N,I 0,.s [],I 0,I 0,I 0,.s [],N,N,N,d144,d8,I 0,N,I 0,.s [],I 0,I 0,I 0,.s [],N,N,N]
def d147 : DV := .sl 3 13 [.s [116],d8,I 0,N,I 0,.s [],I 0,I 0,I 0,.s [],N,d122,d119,d135,d8,I 0,N,I 0,.s [],I 0,I 0,I 0,.s [],N,N,N,d144,d8,I 0,N,I 0,.s [],I 0,I 0,I 0,.s [],N,N,N]
def d148 : DV := .sl 3 13 [.s [116],d8,I 0,N,I 0,.s [],I 0,I 0,I 0,.s [],N,d124,d119,d135,d8,I 0,N,I 0,.s [],I 0,I 0,I 0,.s [],N,N,N,d144,d8,I 0,N,I 0,.s [],I 0,I 0,I 0,.s [],N,N,N]
def d149 : DV := .sl 3 13 [.s [116],d8,I 0,N,I 0,.s [],I 0,I 0,I 0,.s [],N,d126,d119,d135,d8,I 0,N,I 0,.s [],I 0,I 0,I 0,.s [],N,N,N,d144,d8,I 0,N,I 0,.s [],I 0,I 0,I 0,.s [],N,N,N]
def d150 : DV := .sl 3 13 [.s [116],d8,I 0,N,I 0,.s [],I 0,I 0,I 0,.s [],N,d128,d119,d135,d8,I 0,N,I 0,.s [],I 0,I 0,I 0,.s [],N,N,N,d144,d8,I 0,N,I 0,.s [],I 0,I 0,I 0,.s [],N,N,N]
def d151 : DV := .sl 3 13 [.s [116],d8,I 0,N,I 0,.s [],I 0,I 0,I 0,.s [],N,d130,d119,d135,d8,I 0,N,I 0,.s [],I 0,I 0,I 0,.s [],N,N,N,d144,d8,I 0,N,I 0,.s [],I 0,I 0,I 0,.s [],N,N,N]
def d152 : DV := .sl 3 13 [.s [116],d8,I 0,N,I 0,.s [],I 0,I 0,I 0,.s [],N,d132,d119,d135,d8,I 0,N,I 0,.s [],I 0,I 0,I 0,.s [],N,N,N,d144,d8,I 0,N,I 0,.s [],I 0,I 0,I 0,.s [],N,N,N]
def d153 : DV := .s [117,100]
def d154 : DV := .ag [I 1,d153,d8,I 0,N,I 0,.s [],I 0,I 0,I 0,.s [],N,N,.s [],.s [],.s [],N,I 0,.s [],I 0,I 0,I 0,.s [],N,I 0,.s [],I 0,I 0,I 0,.s [],N]
def d155 : DV := .sl 4 13 [.s [116],d8,I 0,N,I 0,.s [],I 0,I 0,I 0,.s [],N,N,d119,d135,d8,I 0,N,I 0,.s [],I 0,I 0,I 0,.s [],N,N,N,d144,d8,I 0,N,I 0,.s [],I 0,I 0,I 0,.s [],N,N,N,d153,d8,I 0,N,I 0,.s [],I 0,I 0,I 0,.s [],N,N,N]
def d156 : DV := .sl 4 13 [.s [116],d8,I 0,N,I 0,.s [],I 0,I 0,I 0,.s [],N,d122,d119,d135,d8,I 0,N,I 0,.s [],I 0,I 0,I 0,.s [],N,N,N,d144,d8,I 0,N,I 0,.s [],I 0,I 0,I 0,.s [],N,N,N,d153,d8,I 0,N,I 0,.s [],I 0,I 0,I 0,.s [],N,N,N]
def d157 : DV := .sl 4 13 [.s [116],d8,I 0,N,I 0,.s [],I 0,I 0,I 0,.s [],N,d124,d119,d135,d8,I 0,N,I 0,.s [],I 0,I 0,I 0,.s [],N,N,N,d144,d8,I 0,N,I 0,.s [],I 0,I 0,I 0,.s [],N,N,N,d153,d8,I 0,N,I 0,.s [],I 0,I 0,I 0,.s [],N,N,N]
def d158 : DV := .sl 4 13 [.s [116],d8,I 0,N,I 0,.s [],I 0,I 0,I 0,.s [],N,d126,d119,d135,d8,I 0,N,I 0,.s [],I 0,I 0,I 0,.s [],N,N,N,d144,d8,I 0,N,I 0,.s [],I 0,I 0,I 0,.s [],N,N,N,d153,d8,I 0,N,I 0,.s [],I 0,I 0,I 0,.s [],N,N,N]
def d159 : DV := .sl 4 13 [.s [116],d8,I 0,N,I 0,.s [],I 0,I 0,I 0,.s [],N,d128,d119,d135,d8,I 0,N,I 0,.s [],I 0,I 0,I 0,.s [],N,N,N,d144,d8,I 0,N,I 0,.s [],I 0,I 0,I 0,.s [],N,N,N,d153,d8,I 0,N,I 0,.s [],I 0,I 0,I 0,.s [],N,N,N]
def d160 : DV := .sl 4 13 [.s [116],d8,I 0,N,I 0,.s [],I 0,I 0,I 0,.s [],N,d130,d119,d135,d8,I 0,N,I 0,.s [],I 0,I 0,I 0,.s [],N,N,N,d144,d8,I 0,N,I 0,.s [],I 0,I 0,I 0,.s [],N,N,N,d153,d8,I 0,N,I 0,.s [],I 0,I 0,I 0,.s [],N,N,N]
def d161 : DV := .sl 4 13 [.s [116],d8,I 0,N,I 0,.s [],I 0,I 0,I 0,.s [],N,d132,d119,d135,d8,I 0,N,I 0,.s [],I 0,I 0,I 0,.s [],N,N,N,d144,d8,I 0,N,I 0,.s [],I 0,I 0,I 0,.s [],N,N,N,d153,d8,I 0,N,I 0,.s [],I 0,I 0,I 0,.s [],N,N,N]
def d162 : DV := .s [117,101]
def d163 : DV := .ag [I 1,d162,d8,I 0,N,I 0,.s [],I 0,I 0,I 0,.s [],N,N,.s [],.s [],.s [],N,I 0,.s [],I 0,I 0,I 0,.s [],N,I 0,.s [],I 0,I 0,I 0,.s [],N]
def d164 : DV := .sl 5 13 [.s [116],d8,I 0,N,I 0,.s [],I 0,I 0,I 0,.s [],N,N,d119,d135,d8,I 0,N,I 0,.s [],I 0,I 0,I 0,.s [],N,N,N,d144,d8,I 0,N,I 0,.s [],I 0,I 0,I 0,.s [],N,N,N,d153,d8,I 0,N,I 0,.s [],I 0,I 0,I 0,.s [],N,N,N,d162,d8,I 0,N,I 0,.s [],I 0,I 0,I 0,.s [],N,N,N]
def d165 : DV := .sl 5 13 [.s [116],d8,I 0,N,I 0,.s [],I 0,I 0,I 0,.s [],N,d122,d119,d135,d8,I 0,N,I 0,.s [],I 0,I 0,I 0,.s [],N,N,N,d144,d8,I 0,N,I 0,.s [],I 0,I 0,I 0,.s [],N,N,N,d153,d8,I 0,N,I 0,.s [],I 0,I 0,I 0,.s [],N,N,N,d162,d8,I 0,N,I 0,.s [],I 0,I 0,I 0,.s [],N,N,N]
def d166 : DV := .sl 5 13 [.s [116],d8,I 0,N,I 0,.s [],I 0,I 0,I 0,.s [],N,d124,d119,d135,d8,I 0,N,I 0,.s [],I 0,I 0,I 0,.s [],N,N,N,d144,d8,I 0,N,I 0,.s [],I 0,I 0,I 0,.s [],N,N,N,d153,d8,I 0,N,I 0,.s [],I 0,I 0,I 0,.s [],N,N,N,d162,d8,I 0,N,I 0,.s [],I 0,I 0,I 0,.s [],N,N,N]
def d167 : DV := .sl 5 13 [.s [116],d8,I 0,N,I 0,.s [],I 0,I 0,I 0,.s [],N,d126,d119,d135,d8,I 0,N,I 0,.s [],I 0,I 0,I 0,.s [],N,N,N,d144,d8,I 0,N,I 0,.s [],I 0,I 0,I 0,.s [],N,N,N,d153,d8,I 0,N,I 0,.s [],I 0,I 0,I 0,.s [],N,N,N,d162,d8,I 0,N,I 0,.s [],I 0,I 0,I 0,.s [],N,N,N]
def d168 : DV := .sl 5 13 [.s [116],d8,I 0,N,I 0,.s [],I 0,I 0,I 0,.s [],N,d128,d119,d135,d8,I 0,N,I 0,.s [],I 0,I 0,I 0,.s [],N,N,N,d144,d8,I 0,N,I 0,.s [],I 0,I 0,I 0,.s [],N,N,N,d153,d8,I 0,N,I 0,.s [],I 0,I 0,I 0,.s [],N,N,N,d162,d8,I 0,N,I 0,.s [],I 0,I 0,I 0,.s [],N,N,N]
def d169 : DV := .sl 5 13 [.s [116],d8,I 0,N,I 0,.s [],I 0,I 0,I 0,.s [],N,d130,d119,d135,d8,I 0,N,I 0,.s [],I 0,I 0,I 0,.s [],N,N,N,d144,d8,I 0,N,I 0,.s [],I 0,I 0,I 0,.s [],N,N,N,d153,d8,I 0,N,I 0,.s [],I 0,I 0,I 0,.s [],N,N,N,d162,d8,I 0,N,I 0,.s [],I 0,I 0,I 0,.s [],N,N,N]
def d170 : DV := .sl 5 13 [.s [116],d8,I 0,N,I 0,.s [],I 0,I 0,I 0,.s [],N,d132,d119,d135,d8,I 0,N,I 0,.s [],I 0,I 0,I 0,.s [],N,N,N,d144,d8,I 0,N,I 0,.s [],I 0,I 0,I 0,.s [],N,N,N,d153,d8,I 0,N,I 0,.s [],I 0,I 0,I 0,.s [],N,N,N,d162,d8,I 0,N,I 0,.s [],I 0,I 0,I 0,.s [],N,N,N]
def d171 : DV := .s [117,102]
def d172 : DV := .ag [I 1,d171,d8,I 0,N,I 0,.s [],I 0,I 0,I 0,.s [],N,N,.s [],.s [],.s [],N,I 0,.s [],I 0,I 0,I 0,.s [],N,I 0,.s [],I 0,I 0,I 0,.s [],N]
def d173 : DV := .sl 6 13 [.s [116],d8,I 0,N,I 0,.s [],I 0,I 0,I 0,.s [],N,N,d119,d135,d8,I 0,N,I 0,.s [],I 0,I 0,I 0,.s [],N,N,N,d144,d8,I 0,N,I 0,.s [],I 0,I 0,I 0,.s [],N,N,N,d153,d8,I 0,N,I 0,.s [],I 0,I 0,I 0,.s [],N,N,N,d162,d8,I 0,N,I 0,.s [],I 0,I 0,I 0,.s [],N,N,N,d171,d8,I 0,N,I 0,.s [],I 0,I 0,I 0,.s [],N,N,N]
def d174 : DV := .sl 6 13 [.s [116],d8,I 0,N,I 0,.s [],I 0,I 0,I 0,.s [],N,d122,d119,d135,d8,I 0,N,I 0,.s [],I 0,I 0,I 0,.s [],N,N,N,d144,d8,I 0,N,I 0,.s [],I 0,I 0,I 0,.s [],N,N,N,d153,d8,I 0,N,I 0,.s [],I 0,I 0,I 0,.s [],N,N,N,d162,d8,I 0,N,I 0,.s [],I 0,I 0,I 0,.s [],N,N,N,d171,d8,I 0,N,I 0,.s [],I 0,I 0,I 0,.s [],N,N,N]
def d175 : DV := .sl 6 13 [.s [116],d8,I 0,N,I 0,.s [],I 0,I 0,I 0,.s [],N,d124,d119,d135,d8,I 0,N,I 0,.s [],I 0,I 0,I 0,.s [],N,N,N,d144,d8,I 0,N,I 0,.s [],I 0,I 0,I 0,.s [],N,N,N,d153,d8,I 0,N,I 0,.s [],I 0,I 0,I 0,.s [],N,N,N,d162,d8,I 0,N,I 0,.s [],I 0,I 0,I 0,.s [],N,N,N,d171,d8,I 0,N,I 0,.s [],I 0,I 0,I 0,.s [],N,N,N]
def d176 : DV := .sl 6 13 [.s [116],d8,I 0,N,I 0,.s [],I 0,I 0,I 0,.s [],N,d126,d119,d135,d8,I 0,N,I 0,.s [],I 0,I 0,I 0,.s [],N,N,N,d144,d8,I 0,N,I 0,.s [],I 0,I 0,I 0,.s [],N,N,N,d153,d8,I 0,N,I 0,.s [],I 0,I 0,I 0,.s [],N,N,N,d162,d8,I 0,N,I 0,.s [],I 0,I 0,I 0,.s [],N,N,N,d171,d8,I 0,N,I 0,.s [],I 0,I 0,I 0,.s [],N,N,N]
def d177 : DV := .sl 6 13 [.s [116],d8,I 0,N,I 0,.s [],I 0,I 0,I 0,.s [],N,d128,d119,d135,d8,I 0,N,I 0,.s [],I 0,I 0,I 0,.s [],N,N,N,d144,d8,I 0,N,I 0,.s [],I 0,I 0,I 0,.s [],N,N,N,d153,d8,I 0,N,I 0,.s [],I 0,I 0,I 0,.s [],N,N,N,d162,d8,I 0,N,I 0,.s [],I 0,I 0,I 0,.s [],N,N,N,d171,d8,I 0,N,I 0,.s [],I 0,I 0,I 0,.s [],N,N,N]
def d178 : DV := .sl 6 13 [.s [116],d8,I 0,N,I 0,.s [],I 0,I 0,I 0,.s [],N,d130,d119,d135,d8,I 0,N,I 0,.s [],I 0,I 0,I 0,.s [],N,N,N,d144,d8,I 0,N,I 0,.s [],I 0,I 0,I 0,.s [],N,N,N,d153,d8,I 0,N,I 0,.s [],I 0,I 0,I 0,.s [],N,N,N,d162,d8,I 0,N,I 0,.s [],I 0,I 0,I 0,.s [],N,N,N,d171,d8,I 0,N,I 0,.s [],I 0,I 0,I 0,.s [],N,N,N]
def d179 : DV := .sl 6 13 [.s [116],d8,I 0,N,I 0,.s [],I 0,I 0,I 0,.s [],N,d132,d119,d135,d8,I 0,N,I 0,.s [],I 0,I 0,I 0,.s [],N,N,N,d144,d8,I 0,N,I 0,.s [],I 0,I 0,I 0,.s [],N,N,N,d153,d8,I 0,N,I 0,.s [],I 0,I 0,I 0,.s [],N,N,N,d162,d8,I 0,N,I 0,.s [],I 0,I 0,I 0,.s [],N,N,N,d171,d8,I 0,N,I 0,.s [],I 0,I 0,I 0,.s [],N,N,N]
def d180 : DV := .s [117,103]
def d181 : DV := .ag [I 1,d180,d8,I 0,N,I 0,.s [],I 0,I 0,I 0,.s [],N,N,.s [],.s [],.s [],N,I 0,.s [],I 0,I 0,I 0,.s [],N,I 0,.s [],I 0,I 0,I 0,.s [],N]
def d182 : DV := .sl 7 13 [.s [116],d8,I 0,N,I 0,.s [],I 0,I 0,I 0,.s [],N,N,d119,d135,d8,I 0,N,I 0,.s [],I 0,I 0,I 0,.s [],N,N,N,d144,d8,I 0,N,I 0,.s [],I 0,I 0,I 0,.s [],N,N,N,d153,d8,I 0,N,I 0,.s [],I 0,I 0,I 0,.s [],N,N,N,d162,d8,I 0,N,I 0,.s [],I 0,I 0,I 0,.s [],N,N,N,d171,d8,I 0,N,I 0,.s [],I 0,I 0,I 0,.s [],N,N,N,d180,d8,I 0,N,I 0,.s [],I 0,I 0,I 0,.s [],N,N,N]
def d183 : DV := .sl 7 13 [.s [116],d8,I 0,N,I 0,.s [],I 0,I 0,I 0,.s [],N,d122,d119,d135,d8,I 0,N,I 0,.s [],I 0,I 0,I 0,.s [],N,N,N,d144,d8,I 0,N,I 0,.s [],I 0,I 0,I 0,.s [],N,N,N,d153,d8,I 0,N,I 0,.s [],I 0,I 0,I 0,.s [],N,N,N,d162,d8,I 0,N,I 0,.s [],I 0,I 0,I 0,.s [],N,N,N,d171,d8,I 0,N,I 0,.s [],I 0,I 0,I 0,.s [],N,N,N,d180,d8,I 0,N,I 0,.s [],I 0,I 0,I 0,.s [],N,N,N]
def d184 : DV := .sl 7 13 [.s [116],d8,I 0,N,I 0,.s [],I 0,I 0,I 0,.s [],N,d124,d119,d135,d8,I 0,N,I 0,.s [],I 0,I 0,I 0,.s [],N,N,N,d144,d8,I 0,N,I 0,.s [],I 0,I 0,I 0,.s [],N,N,N,d153,d8,I 0,N,I 0,.s [],I 0,I 0,I 0,.s [],N,N,N,d162,d8,I 0,N,I 0,.s [],I 0,I 0,I 0,.s [],N,N,N,d171,d8,I 0,N,I 0,.s [],I 0,I 0,I 0,.s [],N,N,N,d180,d8,I 0,N,I 0,.s [],I 0,I 0,I 0,.s [],N,N,N]
def d185 : DV := .sl 7 13 [.s [116],d8,I 0,N,I 0,.s [],I 0,I 0,I 0,.s [],N,d126,d119,d135,d8,I 0,N,I 0,.s [],I 0,I 0,I 0,.s [],N,N,N,d144,d8,I 0,N,I 0,.s [],I 0,I 0,I 0,.s [],N,N,N,d153,d8,I 0,N,I 0,.s [],I 0,I 0,I 0,.s [],N,N,N,d162,d8,I 0,N,I 0,.s [],I 0,I 0,I 0,.s [],N,N,N,d171,d8,I 0,N,I 0,.s [],I 0,I 0,I 0,.s [],N,N,N,d180,d8,I 0,N,I 0,.s [],I 0,I 0,I 0,.s [],N,N,N]
def d186 : DV := .sl 7 13 [.s [116],d8,I 0,N,I 0,.s [],I 0,I 0,I 0,.s [],N,d128,d119,d135,d8,I 0,N,I 0,.s [],I 0,I 0,I 0,.s [],N,N,N,d144,d8,I 0,N,I 0,.s [],I 0,I 0,I 0,.s [],N,N,N,d153,d8,I 0,N,I 0,.s [],I 0,I 0,I 0,.s [],N,N,N,d162,d8,I 0,N,I 0,.s [],I 0,I 0,I 0,.s [],N,N,N,d171,d8,I 0,N,I 0,.s [],I 0,I 0,I 0,.s [],N,N,N,d180,d8,I 0,N,I 0,.s [],I 0,I 0,I 0,.s [],N,N,N]
def d187 : DV := .sl 7 13 [.s [116],d8,I 0,N,I 0,.s [],I 0,I 0,I 0,.s [],N,d130,d119,d135,d8,I 0,N,I 0,.s [],I 0,I 0,I 0,.s [],N,N,N,d144,d8,I 0,N,I 0,.s [],I 0,I 0,I 0,.s [],N,N,N,d153,d8,I 0,N,I 0,.s [],I 0,I 0,I 0,.s [],N,N,N,d162,d8,I 0,N,I 0,.s [],I 0,I 0,I 0,.s [],N,N,N,d171,d8,I 0,N,I 0,.s [],I 0,I 0,I 0,.s [],N,N,N,d180,d8,I 0,N,I 0,.s [],I 0,I 0,I 0,.s [],N,N,N]
def d188 : DV := .sl 7 13 [.s [116],d8,I 0,N,I 0,.s [],I 0,I 0,I 0,.s [],N,d132,d119,d135,d8,I 0,N,I 0,.s [],I 0,I 0,I 0,.s [],N,N,N,d144,d8,I 0,N,I 0,.s [],I 0,I 0,I 0,.s [],N,N,N,d153,d8,I 0,N,I 0,.s [],I 0,I 0,I 0,.s [],N,N,N,d162,d8,I 0,N,I 0,.s [],I 0,I 0,I 0,.s [],N,N,N,d171,d8,I 0,N,I 0,.s [],I 0,I 0,I 0,.s [],N,N,N,d180,d8,I 0,N,I 0,.s [],I 0,I 0,I 0,.s [],N,N,N]
def d189 : DV := .s [117,104]
def d190 : DV := .ag [I 1,d189,d8,I 0,N,I 0,.s [],I 0,I 0,I 0,.s [],N,N,.s [],.s [],.s [],N,I 0,.s [],I 0,I 0,I 0,.s [],N,I 0,.s [],I 0,I 0,I 0,.s [],N]
def d191 : DV := .sl 8 13 [.s [116],d8,I 0,N,I 0,.s [],I 0,I 0,I 0,.s [],N,N,d119,d135,d8,I 0,N,I 0,.s [],I 0,I 0,I 0,.s [],N,N,N,d144,d8,I 0,N,I 0,.s [],I 0,I 0,I 0,.s [],N,N,N,d153,d8,I 0,N,I 0,.s [],I 0,I 0,I 0,.s [],N,N,N,d162,d8,I 0,N,I 0,.s [],I 0,I 0,I 0,.s [],N,N,N,d171,d8,I 0,N,I 0,.s [],I 0,I 0,I 0,.s [],N,N,N,d180,d8,I 0,N,I 0,.s [],I 0,I 0,I 0,.s [],N,N,N,d189,d8,I 0,N,I 0,.s [],I 0,I 0,I 0,.s [],N,N,N]
def d192 : DV := .s [117,105]
def d193 : DV := .ag [I 1,d192,d8,I 0,N,I 0,.s [],I 0,I 0,I 0,.s [],N,N,.s [],.s [],.s [],N,I 0,.s [],I 0,I 0,I 0,.s [],N,I 0,.s [],I 0,I 0,I 0,.s [],N]
def d194 : DV := .tu [d191,d134]
def d195 : DV := .s [117,106]
def d196 : DV := .ag [I 1,d195,d8,I 0,N,I 0,.s [],I 0,I 0,I 0,.s [],N,N,.s [],.s [],.s [],N,I 0,.s [],I 0,I 0,I 0,.s [],N,I 0,.s [],I 0,I 0,I 0,.s [],N]
def d197 : DV := .sl 8 13 [.s [116],d8,I 0,N,I 0,.s [],I 0,I 0,I 0,.s [],N,d122,d119,d135,d8,I 0,N,I 0,.s [],I 0,I 0,I 0,.s [],N,N,N,d144,d8,I 0,N,I 0,.s [],I 0,I 0,I 0,.s [],N,N,N,d153,d8,I 0,N,I 0,.s [],I 0,I 0,I 0,.s [],N,N,N,d162,d8,I 0,N,I 0,.s [],I 0,I 0,I 0,.s [],N,N,N,d171,d8,I 0,N,I 0,.s [],I 0,I 0,I 0,.s [],N,N,N,d180,d8,I 0,N,I 0,.s [],I 0,I 0,I 0,.s [],N,N,N,d189,d8,I 0,N,I 0,.s [],I 0,I 0,I 0,.s [],N,N,N]
def d198 : DV := .sl 8 13 [.s [116],d8,I 0,N,I 0,.s [],I 0,I 0,I 0,.s [],N,d124,d119,d135,d8,I 0,N,I 0,.s [],I 0,I 0,I 0,.s [],N,N,N,d144,d8,I 0,N,I 0,.s [],I 0,I 0,I 0,.s [],N,N,N,d153,d8,I 0,N,I 0,.s [],I 0,I 0,I 0,.s [],N,N,N,d162,d8,I 0,N,I 0,.s [],I 0,I 0,I 0,.s [],N,N,N,d171,d8,I 0,N,I 0,.s [],I 0,I 0,I 0,.s [],N,N,N,d180,d8,I 0,N,I 0,.s [],I 0,I 0,I 0,.s [],N,N,N,d189,d8,I 0,N,I 0,.s [],I 0,I 0,I 0,.s [],N,N,N]
def d199 : DV := .sl 8 13 [.s [116],d8,I 0,N,I 0,.s [],I 0,I 0,I 0,.s [],N,d126,d119,d135,d8,I 0,N,I 0,.s [],I 0,I 0,I 0,.s [],N,N,N,d144,d8,I 0,N,I 0,.s [],I 0,I 0,I 0,.s [],N,N,N,d153,d8,I 0,N,I 0,.s [],I 0,I 0,I 0,.s [],N,N,N,d162,d8,I 0,N,I 0,.s [],I 0,I 0,I 0,.s [],N,N,N,d171,d8,I 0,N,I 0,.s [],I 0,I 0,I 0,.s [],N,N,N,d180,d8,I 0,N,I 0,.s [],I 0,I 0,I 0,.s [],N,N,N,d189,d8,I 0,N,I 0,.s [],I 0,I 0,I 0,.s [],N,N,N]
def d200 : DV := .sl 8 13 [.s [116],d8,I 0,N,I 0,.s [],I 0,I 0,I 0,.s [],N,d128,d119,d135,d8,I 0,N,I 0,.s [],I 0,I 0,I 0,.s [],N,N,N,d144,d8,I 0,N,I 0,.s [],I 0,I 0,I 0,.s [],N,N,N,d153,d8,I 0,N,I 0,.s [],I 0,I 0,I 0,.s [],N,N,N,d162,d8,I 0,N,I 0,.s [],I 0,I 0,I 0,.s [],N,N,N,d171,d8,I 0,N,I 0,.s [],I 0,I 0,I 0,.s [],N,N,N,d180,d8,I 0,N,I 0,.s [],I 0,I 0,I 0,.s [],N,N,N,d189,d8,I 0,N,I 0,.s [],I 0,I 0,I 0,.s [],N,N,N]
def d201 : DV := .sl 8 13 [.s [116],d8,I 0,N,I 0,.s [],I 0,I 0,I 0,.s [],N,d130,d119,d135,d8,I 0,N,I 0,.s [],I 0,I 0,I 0,.s [],N,N,N,d144,d8,I 0,N,I 0,.s [],I 0,I 0,I 0,.s [],N,N,N,d153,d8,I 0,N,I 0,.s [],I 0,I 0,I 0,.s [],N,N,N,d162,d8,I 0,N,I 0,.s [],I 0,I 0,I 0,.s [],N,N,N,d171,d8,I 0,N,I 0,.s [],I 0,I 0,I 0,.s [],N,N,N,d180,d8,I 0,N,I 0,.s [],I 0,I 0,I 0,.s [],N,N,N,d189,d8,I 0,N,I 0,.s [],I 0,I 0,I 0,.s [],N,N,N]
def d202 : DV := .sl 8 13 [.s [116],d8,I 0,N,I 0,.s [],I 0,I 0,I 0,.s [],N,d132,d119,d135,d8,I 0,N,I 0,.s [],I 0,I 0,I 0,.s [],N,N,N,d144,d8,I 0,N,I 0,.s [],I 0,I 0,I 0,.s [],N,N,N,d153,d8,I 0,N,I 0,.s [],I 0,I 0,I 0,.s [],N,N,N,d162,d8,I 0,N,I 0,.s [],I 0,I 0,I 0,.s [],N,N,N,d171,d8,I 0,N,I 0,.s [],I 0,I 0,I 0,.s [],N,N,N,d180,d8,I 0,N,I 0,.s [],I 0,I 0,I 0,.s [],N,N,N,d189,d8,I 0,N,I 0,.s [],I 0,I 0,I 0,.s [],N,N,N]
def d203 : DV := .sl 1 4 [I 2,I 55,I 0,.s []]
def d204 : DV := .sl 56 1 [d11,d13,d15,d17,d19,d4,d22,d24,d26,d28,d30,d32,d34,d36,d38,d40,d42,d44,d46,d48,d50,d52,d54,d56,d58,d60,d62,d64,d66,d68,d70,d72,d74,d76,d78,d80,d82,d84,d86,d88,d90,d92,d94,d96,d98,d100,d102,d104,d106,d108,d110,d112,d114,d116,d118,d203]
def d205 : DV := .sl 1 13 [.s [116],d8,I 0,N,I 0,.s [],I 0,I 0,I 0,.s [],N,N,d204]
def d206 : DV := .sl 1 13 [.s [116],d8,I 0,N,I 0,.s [],I 0,I 0,I 0,.s [],N,d122,d204]
def d207 : DV := .sl 1 13 [.s [116],d8,I 0,N,I 0,.s [],I 0,I 0,I 0,.s [],N,d124,d204]
def d208 : DV := .sl 1 13 [.s [116],d8,I 0,N,I 0,.s [],I 0,I 0,I 0,.s [],N,d126,d204]
def d209 : DV := .sl 1 13 [.s [116],d8,I 0,N,I 0,.s [],I 0,I 0,I 0,.s [],N,d128,d204]
def d210 : DV := .sl 1 13 [.s [116],d8,I 0,N,I 0,.s [],I 0,I 0,I 0,.s [],N,d130,d204]
def d211 : DV := .sl 1 13 [.s [116],d8,I 0,N,I 0,.s [],I 0,I 0,I 0,.s [],N,d132,d204]
def d212 : DV := .sl 2 13 [.s [116],d8,I 0,N,I 0,.s [],I 0,I 0,I 0,.s [],N,N,d204,d135,d8,I 0,N,I 0,.s [],I 0,I 0,I 0,.s [],N,N,N]
def d213 : DV := .sl 2 13 [.s [116],d8,I 0,N,I 0,.s [],I 0,I 0,I 0,.s [],N,d122,d204,d135,d8,I 0,N,I 0,.s [],I 0,I 0,I 0,.s [],N,N,N]
def d214 : DV := .sl 2 13 [.s [116],d8,I 0,N,I 0,.s [],I 0,I 0,I 0,.s [],N,d124,d204,d135,d8,I 0,N,I 0,.s [],I 0,I 0,I 0,.s [],N,N,N]
def d215 : DV := .sl 2 13 [.s [116],d8,I 0,N,I 0,.s [],I 0,I 0,I 0,.s [],N,d126,d204,d135,d8,I 0,N,I 0,.s [],I 0,I 0,I 0,.s [],N,N,N]
def d216 : DV := .sl 2 13 [.s [116],d8,I 0,N,I 0,.s [],I 0,I 0,I 0,.s [],N,d128,d204,d135,d8,I 0,N,I 0,.s [],I 0,I 0,I 0,.s [],N,N,N]
def d217 : DV := .sl 2 13 [.s [116],d8,I 0,N,I 0,.s [],I 0,I 0,I 0,.s [],N,d130,d204,d135,d8,I 0,N,I 0,.s [],I 0,I 0,I 0,.s [],N,N,N]
def d218 : DV := .sl 2 13 [.s [116],d8,I 0,N,I 0,.s [],I 0,I 0,I 0,.s [],N,d132,d204,d135,d8,I 0,N,I 0,.s [],I 0,I 0,I 0,.s [],N,N,N]
def d219 : DV := .sl 3 13 [.s [116],d8,I 0,N,I 0,.s [],I 0,I 0,I 0,.s [],N,N,d204,d135,d8,I 0,N,I 0,.s [],I 0,I 0,I 0,.s [],N,N,N,d144,d8,I 0,N,I 0,.s [],I 0,I 0,I 0,.s [],N,N,N]
def d220 : DV := .sl 3 13 [.s [116],d8,I 0,N,I 0,.s [],I 0,I 0,I 0,.s [],N,d122,d204,d135,d8,I 0,N,I 0,.s [],I 0,I 0,I 0,.s [],N,N,N,d144,d8,I 0,N,I 0,.s [],I 0,I 0,I 0,.s [],N,N,N]
def d221 : DV := .sl 3 13 [.s [116],d8,I 0,N,I 0,.s [],I 0,I 0,I 0,.s [],N,d124,d204,d135,d8,I 0,N,I 0,.s [],I 0,I 0,I 0,.s [],N,N,N,d144,d8,I 0,N,I 0,.s [],I 0,I 0,I 0,.s [],N,N,N]
def d222 : DV := .sl 3 13 [.s [116],d8,I 0,N,I 0,.s [],I 0,I 0,I 0,.s [],N,d126,d204,d135,d8,I 0,N,I 0,.s [],I 0,I 0,I 0,.s [],N,N,N,d144,d8,I 0,N,I 0,.s [],I 0,I 0,I 0,.s [],N,N,N]
def d223 : DV := .sl 3 13 [.s [116],d8,I 0,N,I 0,.s [],I 0,I 0,I 0,.s [],N,d128,d204,d135,d8,I 0,N,I 0,.s [],I 0,I 0,I 0,.s [],N,N,N,d144,d8,I 0,N,I 0,.s [],I 0,I 0,I 0,.s [],N,N,N]
def d224 : DV := .sl 3 13 [.s [116],d8,I 0,N,I 0,.s [],I 0,I 0,I 0,.s [],N,d130,d204,d135,d8,I 0,N,I 0,.s [],I 0,I 0,I 0,.s [],N,N,N,d144,d8,I 0,N,I 0,.s [],I 0,I 0,I 0,.s [],N,N,N]
def d225 : DV := .sl 3 13 [.s [116],d8,I 0,N,I 0,.s [],I 0,I 0,I 0,.s [],N,d132,d204,d135,d8,I 0,N,I 0,.s [],I 0,I 0,I 0,.s [],N,N,N,d144,d8,I 0,N,I 0,.s [],I 0,I 0,I 0,.s [],N,N,N]
def d226 : DV := .sl 4 13 [.s [116],d8,I 0,N,I 0,.s [],I 0,I 0,I 0,.s [],N,N,d204,d135,d8,I 0,N,I 0,.s [],I 0,I 0,I 0,.s [],N,N,N,d144,d8,I 0,N,I 0,.s [],I 0,I 0,I 0,.s [],N,N,N,d153,d8,I 0,N,I 0,.s [],I 0,I 0,I 0,.s [],N,N,N]
def d227 : DV := .sl 4 13 [.s [116],d8,I 0,N,I 0,.s [],I 0,I 0,I 0,.s [],N,d122,d204,d135,d8,I 0,N,I 0,.s [],I 0,I 0,I 0,.s [],N,N,N,d144,d8,I 0,N,I 0,.s [],I 0,I 0,I 0,.s [],N,N,N,d153,d8,I 0,N,I 0,.s [],I 0,I 0,I 0,.s [],N,N,N]
def d228 : DV := .sl 4 13 [.s [116],d8,I 0,N,I 0,.s [],I 0,I 0,I 0,.s [],N,d124,d204,d135,d8,I 0,N,I 0,.s [],I 0,I 0,I 0,.s [],N,N,N,d144,d8,I 0,N,I 0,.s [],I 0,I 0,I 0,.s [],N,N,N,d153,d8,I 0,N,I 0,.s [],I 0,I 0,I 0,.s [],N,N,N]
def d229 : DV := .sl 4 13 [.s [116],d8,I 0,N,I 0,.s [],I 0,I 0,I 0,.s [],N,d126,d204,d135,d8,I 0,N,I 0,.s [],I 0,I 0,I 0,.s [],N,N,N,d144,d8,I 0,N,I 0,.s [],I 0,I 0,I 0,.s [],N,N,N,d153,d8,I 0,N,I 0,.s [],I 0,I 0,I 0,.s [],N,N,N]
def d230 : DV := .sl 4 13 [.s [116],d8,I 0,N,I 0,.s [],I 0,I 0,I 0,.s [],N,d128,d204,d135,d8,I 0,N,I 0,.s [],I 0,I 0,I 0,.s [],N,N,N,d144,d8,I 0,N,I 0,.s [],I 0,I 0,I 0,.s [],N,N,N,d153,d8,I 0,N,I 0,.s [],I 0,I 0,I 0,.s [],N,N,N]
def d231 : DV := .sl 4 13 [.s [116],d8,I 0,N,I 0,.s [],I 0,I 0,I 0,.s [],N,d130,d204,d135,d8,I 0,N,I 0,.s [],I 0,I 0,I 0,.s [],N,N,N,d144,d8,I 0,N,I 0,.s [],I 0,I 0,I 0,.s [],N,N,N,d153,d8,I 0,N,I 0,.s [],I 0,I 0,I 0,.s [],N,N,N]
def d232 : DV := .sl 4 13 [.s [116],d8,I 0,N,I 0,.s [],I 0,I 0,I 0,.s [],N,d132,d204,d135,d8,I 0,N,I 0,.s [],I 0,I 0,I 0,.s [],N,N,N,d144,d8,I 0,N,I 0,.s [],I 0,I 0,I 0,.s [],N,N,N,d153,d8,I 0,N,I 0,.s [],I 0,I 0,I 0,.s [],N,N,N]
def d233 : DV := .sl 5 13 [.s [116],d8,I 0,N,I 0,.s [],I 0,I 0,I 0,.s [],N,N,d204,d135,d8,I 0,N,I 0,.s [],I 0,I 0,I 0,.s [],N,N,N,d144,d8,I 0,N,I 0,.s [],I 0,I 0,I 0,.s [],N,N,N,d153,d8,I 0,N,I 0,.s [],I 0,I 0,I 0,.s [],N,N,N,d162,d8,I 0,N,I 0,.s [],I 0,I 0,I 0,.s [],N,N,N]
def d234 : DV := .sl 5 13 [.s [116],d8,I 0,N,I 0,.s [],I 0,I 0,I 0,.s [],N,d122,d204,d135,d8,I 0,N,I 0,.s [],I 0,I 0,I 0,.s [],N,N,N,d144,d8,I 0,N,I 0,.s [],I 0,I 0,I 0,.s [],N,N,N,d153,d8,I 0,N,I 0,.s [],I 0,I 0,I 0,.s [],N,N,N,d162,d8,I 0,N,I 0,.s [],I 0,I 0,I 0,.s [],N,N,N]
def d235 : DV := .sl 5 13 [.s [116],d8,I 0,N,I 0,.s [],I 0,I 0,I 0,.s [],N,d124,d204,d135,d8,I 0,N,I 0,.s [],I 0,I 0,I 0,.s [],N,N,N,d144,d8,I 0,N,I 0,.s [],I 0,I 0,I 0,.s [],N,N,N,d153,d8,I 0,N,I 0,.s [],I 0,I 0,I 0,.s [],N,N,N,d162,d8,I 0,N,I 0,.s [],I 0,I 0,I 0,.s [],N,N,N]
def d236 : DV := .sl 5 13 [.s [116],d8,I 0,N,I 0,.s [],I 0,I 0,I 0,.s [],N,d126,d204,d135,d8,I 0,N,I 0,.s [],I 0,I 0,I 0,.s [],N,N,N,d144,d8,I 0,N,I 0,.s [],I 0,I 0,I 0,.s [],N,N,N,d153,d8,I 0,N,I 0,.s [],I 0,I 0,I 0,.s [],N,N,N,d162,d8,I 0,N,I 0,.s [],I 0,I 0,I 0,.s [],N,N,N]
def d237 : DV := .sl 5 13 [.s [116],d8,I 0,N,I 0,.s [],I 0,I 0,I 0,.s [],N,d128,d204,d135,d8,I 0,N,I 0,.s [],I 0,I 0,I 0,.s [],N,N,N,d144,d8,I 0,N,I 0,.s [],I 0,I 0,I 0,.s [],N,N,N,d153,d8,I 0,N,I 0,.s [],I 0,I 0,I 0,.s [],N,N,N,d162,d8,I 0,N,I 0,.s [],I 0,I 0,I 0,.s [],N,N,N]
def d238 : DV := .sl 5 13 [.s [116],d8,I 0,N,I 0,.s [],I 0,I 0,I 0,.s [],N,d130,d204,d135,d8,I 0,N,I 0,.s [],I 0,I 0,I 0,.s [],N,N,N,d144,d8,I 0,N,I 0,.s [],I 0,I 0,I 0,.s [],N,N,N,d153,d8,I 0,N,I 0,.s [],I 0,I 0,I 0,.s [],N,N,N,d162,d8,I 0,N,I 0,.s [],I 0,I 0,I 0,.s [],N,N,N]
def d239 : DV := .sl 5 13 [.s [116],d8,I 0,N,I 0,.s [],I 0,I 0,I 0,.s [],N,d132,d204,d135,d8,I 0,N,I 0,.s [],I 0,I 0,I 0,.s [],N,N,N,d144,d8,I 0,N,I 0,.s [],I 0,I 0,I 0,.s [],N,N,N,d153,d8,I 0,N,I 0,.s [],I 0,I 0,I 0,.s [],N,N,N,d162,d8,I 0,N,I 0,.s [],I 0,I 0,I 0,.s [],N,N,N]
def d240 : DV := .sl 6 13 [.s [116],d8,I 0,N,I 0,.s [],I 0,I 0,I 0,.s [],N,N,d204,d135,d8,I 0,N,I 0,.s [],I 0,I 0,I 0,.s [],N,N,N,d144,d8,I 0,N,I 0,.s [],I 0,I 0,I 0,.s [],N,N,N,d153,d8,I 0,N,I 0,.s [],I 0,I 0,I 0,.s [],N,N,N,d162,d8,I 0,N,I 0,.s [],I 0,I 0,I 0,.s [],N,N,N,d171,d8,I 0,N,I 0,.s [],I 0,I 0,I 0,.s [],N,N,N]
def d241 : DV := .sl 6 13 [.s [116],d8,I 0,N,I 0,.s [],I 0,I 0,I 0,.s [],N,d122,d204,d135,d8,I 0,N,I 0,.s [],I 0,I 0,I 0,.s [],N,N,N,d144,d8,I 0,N,I 0,.s [],I 0,I 0,I 0,.s [],N,N,N,d153,d8,I 0,N,I 0,.s [],I 0,I 0,I 0,.s [],N,N,N,d162,d8,I 0,N,I 0,.s [],I 0,I 0,I 0,.s [],N,N,N,d171,d8,I 0,N,I 0,.s [],I 0,I 0,I 0,.s [],N,N,N]
def d242 : DV := .sl 6 13 [.s [116],d8,I 0,N,I 0,.s [],I 0,I 0,I 0,.s [],N,d124,d204,d135,d8,I 0,N,I 0,.s [],I 0,I 0,I 0,.s [],N,N,N,d144,d8,I 0,N,I 0,.s [],I 0,I 0,I 0,.s [],N,N,N,d153,d8,I 0,N,I 0,.s [],I 0,I 0,I 0,.s [],N,N,N,d162,d8,I 0,N,I 0,.s [],I 0,I 0,I 0,.s [],N,N,N,d171,d8,I 0,N,I 0,.s [],I 0,I 0,I 0,.s [],N,N,N]
def d243 : DV := .sl 6 13 [.s [116],d8,I 0,N,I 0,.s [],I 0,I 0,I 0,.s [],N,d126,d204,d135,d8,I 0,N,I 0,.s [],I 0,I 0,I 0,.s [],N,N,N,d144,d8,I 0,N,I 0,.s [],I 0,I 0,I 0,.s [],N,N,N,d153,d8,I 0,N,I 0,.s [],I 0,I 0,I 0,.s [],N,N,N,d162,d8,I 0,N,I 0,.s [],I 0,I 0,I 0,.s [],N,N,N,d171,d8,I 0,N,I 0,.s [],I 0,I 0,I 0,.s [],N,N,N]
def d244 : DV := .sl 6 13 [.s [116],d8,I 0,N,I 0,.s [],I 0,I 0,I 0,.s [],N,d128,d204,d135,d8,I 0,N,I 0,.s [],I 0,I 0,I 0,.s [],N,N,N,d144,d8,I 0,N,I 0,.s [],I 0,I 0,I 0,.s [],N,N,N,d153,d8,I 0,N,I 0,.s [],I 0,I 0,I 0,.s [],N,N,N,d162,d8,I 0,N,I 0,.s [],I 0,I 0,I 0,.s [],N,N,N,d171,d8,I 0,N,I 0,.s [],I 0,I 0,I 0,.s [],N,N,N]
def d245 : DV := .sl 6 13 [.s [116],d8,I 0,N,I 0,.s [],I 0,I 0,I 0,.s [],N,d130,d204,d135,d8,I 0,N,I 0,.s [],I 0,I 0,I 0,.s [],N,N,N,d144,d8,I 0,N,I 0,.s [],I 0,I 0,I 0,.s [],N,N,N,d153,d8,I 0,N,I 0,.s [],I 0,I 0,I 0,.s [],N,N,N,d162,d8,I 0,N,I 0,.s [],I 0,I 0,I 0,.s [],N,N,N,d171,d8,I 0,N,I 0,.s [],I 0,I 0,I 0,.s [],N,N,N]
def d246 : DV := .sl 6 13 [.s [116],d8,I 0,N,I 0,.s [],I 0,I 0,I 0,.s [],N,d132,d204,d135,d8,I 0,N,I 0,.s [],I 0,I 0,I 0,.s [],N,N,N,d144,d8,I 0,N,I 0,.s [],I 0,I 0,I 0,.s [],N,N,N,d153,d8,I 0,N,I 0,.s [],I 0,I 0,I 0,.s [],N,N,N,d162,d8,I 0,N,I 0,.s [],I 0,I 0,I 0,.s [],N,N,N,d171,d8,I 0,N,I 0,.s [],I 0,I 0,I 0,.s [],N,N,N]
def d247 : DV := .sl 7 13 [.s [116],d8,I 0,N,I 0,.s [],I 0,I 0,I 0,.s [],N,N,d204,d135,d8,I 0,N,I 0,.s [],I 0,I 0,I 0,.s [],N,N,N,d144,d8,I 0,N,I 0,.s [],I 0,I 0,I 0,.s [],N,N,N,d153,d8,I 0,N,I 0,.s [],I 0,I 0,I 0,.s [],N,N,N,d162,d8,I 0,N,I 0,.s [],I 0,I 0,I 0,.s [],N,N,N,d171,d8,I 0,N,I 0,.s [],I 0,I 0,I 0,.s [],N,N,N,d180,d8,I 0,N,I 0,.s [],I 0,I 0,I 0,.s [],N,N,N]
def d248 : DV := .sl 7 13 [.s [116],d8,I 0,N,I 0,.s [],I 0,I 0,I 0,.s [],N,d122,d204,d135,d8,I 0,N,I 0,.s [],I 0,I 0,I 0,.s [],N,N,N,d144,d8,I 0,N,I 0,.s [],I 0,I 0,I 0,.s [],N,N,N,d153,d8,I 0,N,I 0,.s [],I 0,I 0,I 0,.s [],N,N,N,d162,d8,I 0,N,I 0,.s [],I 0,I 0,I 0,.s [],N,N,N,d171,d8,I 0,N,I 0,.s [],I 0,I 0,I 0,.s [],N,N,N,d180,d8,I 0,N,I 0,.s [],I 0,I 0,I 0,.s [],N,N,N]
def d249 : DV := .sl 7 13 [.s [116],d8,I 0,N,I 0,.s [],I 0,I 0,I 0,.s [],N,d124,d204,d135,d8,I 0,N,I 0,.s [],I 0,I 0,I 0,.s [],N,N,N,d144,d8,I 0,N,I 0,.s [],I 0,I 0,I 0,.s [],N,N,N,d153,d8,I 0,N,I 0,.s [],I 0,I 0,I 0,.s [],N,N,N,d162,d8,I 0,N,I 0,.s [],I 0,I 0,I 0,.s [],N,N,N,d171,d8,I 0,N,I 0,.s [],I 0,I 0,I 0,.s [],N,N,N,d180,d8,I 0,N,I 0,.s [],I 0,I 0,I 0,.s [],N,N,N]
def d250 : DV := .sl 7 13 [.s [116],d8,I 0,N,I 0,.s [],I 0,I 0,I 0,.s [],N,d126,d204,d135,d8,I 0,N,I 0,.s [],I 0,I 0,I 0,.s [],N,N,N,d144,d8,I 0,N,I 0,.s [],I 0,I 0,I 0,.s [],N,N,N,d153,d8,I 0,N,I 0,.s [],I 0,I 0,I 0,.s [],N,N,N,d162,d8,I 0,N,I 0,.s [],I 0,I 0,I 0,.s [],N,N,N,d171,d8,I 0,N,I 0,.s [],I 0,I 0,I 0,.s [],N,N,N,d180,d8,I 0,N,I 0,.s [],I 0,I 0,I 0,.s [],N,N,N]
def d251 : DV := .sl 7 13 [.s [116],d8,I 0,N,I 0,.s [],I 0,I 0,I 0,.s [],N,d128,d204,d135,d8,I 0,N,I 0,.s [],I 0,I 0,I 0,.s [],N,N,N,d144,d8,I 0,N,I 0,.s [],I 0,I 0,I 0,.s [],N,N,N,d153,d8,I 0,N,I 0,.s [],I 0,I 0,I 0,.s [],N,N,N,d162,d8,I 0,N,I 0,.s [],I 0,I 0,I 0,.s [],N,N,N,d171,d8,I 0,N,I 0,.s [],I 0,I 0,I 0,.s [],N,N,N,d180,d8,I 0,N,I 0,.s [],I 0,I 0,I 0,.s [],N,N,N]
def d252 : DV := .sl 7 13 [.s [116],d8,I 0,N,I 0,.s [],I 0,I 0,I 0,.s [],N,d130,d204,d135,d8,I 0,N,I 0,.s [],I 0,I 0,I 0,.s [],N,N,N,d144,d8,I 0,N,I 0,.s [],I 0,I 0,I 0,.s [],N,N,N,d153,d8,I 0,N,I 0,.s [],I 0,I 0,I 0,.s [],N,N,N,d162,d8,I 0,N,I 0,.s [],I 0,I 0,I 0,.s [],N,N,N,d171,d8,I 0,N,I 0,.s [],I 0,I 0,I 0,.s [],N,N,N,d180,d8,I 0,N,I 0,.s [],I 0,I 0,I 0,.s [],N,N,N]
def d253 : DV := .sl 7 13 [.s [116],d8,I 0,N,I 0,.s [],I 0,I 0,I 0,.s [],N,d132,d204,d135,d8,I 0,N,I 0,.s [],I 0,I 0,I 0,.s [],N,N,N,d144,d8,I 0,N,I 0,.s [],I 0,I 0,I 0,.s [],N,N,N,d153,d8,I 0,N,I 0,.s [],I 0,I 0,I 0,.s [],N,N,N,d162,d8,I 0,N,I 0,.s [],I 0,I 0,I 0,.s [],N,N,N,d171,d8,I 0,N,I 0,.s [],I 0,I 0,I 0,.s [],N,N,N,d180,d8,I 0,N,I 0,.s [],I 0,I 0,I 0,.s [],N,N,N]
def d254 : DV := .sl 8 13 [.s [116],d8,I 0,N,I 0,.s [],I 0,I 0,I 0,.s [],N,N,d204,d135,d8,I 0,N,I 0,.s [],I 0,I 0,I 0,.s [],N,N,N,d144,d8,I 0,N,I 0,.s [],I 0,I 0,I 0,.s [],N,N,N,d153,d8,I 0,N,I 0,.s [],I 0,I 0,I 0,.s [],N,N,N,d162,d8,I 0,N,I 0,.s [],I 0,I 0,I 0,.s [],N,N,N,d171,d8,I 0,N,I 0,.s [],I 0,I 0,I 0,.s [],N,N,N,d180,d8,I 0,N,I 0,.s [],I 0,I 0,I 0,.s [],N,N,N,d189,d8,I 0,N,I 0,.s [],I 0,I 0,I 0,.s [],N,N,N]
def d255 : DV := .tu [d254,d134]
def d256 : DV := .sl 8 13 [.s [116],d8,I 0,N,I 0,.s [],I 0,I 0,I 0,.s [],N,d122,d204,d135,d8,I 0,N,I 0,.s [],I 0,I 0,I 0,.s [],N,N,N,d144,d8,I 0,N,I 0,.s [],I 0,I 0,I 0,.s [],N,N,N,d153,d8,I 0,N,I 0,.s [],I 0,I 0,I 0,.s [],N,N,N,d162,d8,I 0,N,I 0,.s [],I 0,I 0,I 0,.s [],N,N,N,d171,d8,I 0,N,I 0,.s [],I 0,I 0,I 0,.s [],N,N,N,d180,d8,I 0,N,I 0,.s [],I 0,I 0,I 0,.s [],N,N,N,d189,d8,I 0,N,I 0,.s [],I 0,I 0,I 0,.s [],N,N,N]
def d257 : DV := .sl 8 13 [.s [116],d8,I 0,N,I 0,.s [],I 0,I 0,I 0,.s [],N,d124,d204,d135,d8,I 0,N,I 0,.s [],I 0,I 0,I 0,.s [],N,N,N,d144,d8,I 0,N,I 0,.s [],I 0,I 0,I 0,.s [],N,N,N,d153,d8,I 0,N,I 0,.s [],I 0,I 0,I 0,.s [],N,N,N,d162,d8,I 0,N,I 0,.s [],I 0,I 0,I 0,.s [],N,N,N,d171,d8,I 0,N,I 0,.s [],I 0,I 0,I 0,.s [],N,N,N,d180,d8,I 0,N,I 0,.s [],I 0,I 0,I 0,.s [],N,N,N,d189,d8,I 0,N,I 0,.s [],I 0,I 0,I 0,.s [],N,N,N]
def d258 : DV := .sl 8 13 [.s [116],d8,I 0,N,I 0,.s [],I 0,I 0,I 0,.s [],N,d126,d204,d135,d8,I 0,N,I 0,.s [],I 0,I 0,I 0,.s [],N,N,N,d144,d8,I 0,N,I 0,.s [],I 0,I 0,I 0,.s [],N,N,N,d153,d8,I 0,N,I 0,.s [],I 0,I 0,I 0,.s [],N,N,N,d162,d8,I 0,N,I 0,.s [],I 0,I 0,I 0,.s [],N,N,N,d171,d8,I 0,N,I 0,.s [],I 0,I 0,I 0,.s [],N,N,N,d180,d8,I 0,N,I 0,.s [],I 0,I 0,I 0,.s [],N,N,N,d189,d8,I 0,N,I 0,.s [],I 0,I 0,I 0,.s [],N,N,N]
def d259 : DV := .sl 8 13 [.s [116],d8,I 0,N,I 0,.s [],I 0,I 0,I 0,.s [],N,d128,d204,d135,d8,I 0,N,I 0,.s [],I 0,I 0,I 0,.s [],N,N,N,d144,d8,I 0,N,I 0,.s [],I 0,I 0,I 0,.s [],N,N,N,d153,d8,I 0,N,I 0,.s [],I 0,I 0,I 0,.s [],N,N,N,d162,d8,I 0,N,I 0,.s [],I 0,I 0,I 0,.s [],N,N,N,d171,d8,I 0,N,I 0,.s [],I 0,I 0,I 0,.s [],N,N,N,d180,d8,I 0,N,I 0,.s [],I 0,I 0,I 0,.s [],N,N,N,d189,d8,I 0,N,I 0,.s [],I 0,I 0,I 0,.s [],N,N,N]
def d260 : DV := .sl 8 13 [.s [116],d8,I 0,N,I 0,.s [],I 0,I 0,I 0,.s [],N,d130,d204,d135,d8,I 0,N,I 0,.s [],I 0,I 0,I 0,.s [],N,N,N,d144,d8,I 0,N,I 0,.s [],I 0,I 0,I 0,.s [],N,N,N,d153,d8,I 0,N,I 0,.s [],I 0,I 0,I 0,.s [],N,N,N,d162,d8,I 0,N,I 0,.s [],I 0,I 0,I 0,.s [],N,N,N,d171,d8,I 0,N,I 0,.s [],I 0,I 0,I 0,.s [],N,N,N,d180,d8,I 0,N,I 0,.s [],I 0,I 0,I 0,.s [],N,N,N,d189,d8,I 0,N,I 0,.s [],I 0,I 0,I 0,.s [],N,N,N]
def d261 : DV := .sl 8 13 [.s [116],d8,I 0,N,I 0,.s [],I 0,I 0,I 0,.s [],N,d132,d204,d135,d8,I 0,N,I 0,.s [],I 0,I 0,I 0,.s [],N,N,N,d144,d8,I 0,N,I 0,.s [],I 0,I 0,I 0,.s [],N,N,N,d153,d8,I 0,N,I 0,.s [],I 0,I 0,I 0,.s [],N,N,N,d162,d8,I 0,N,I 0,.s [],I 0,I 0,I 0,.s [],N,N,N,d171,d8,I 0,N,I 0,.s [],I 0,I 0,I 0,.s [],N,N,N,d180,d8,I 0,N,I 0,.s [],I 0,I 0,I 0,.s [],N,N,N,d189,d8,I 0,N,I 0,.s [],I 0,I 0,I 0,.s [],N,N,N]
def d262 : DV := .sl 1 4 [I 2,I 56,I 0,.s []]
def d263 : DV := .sl 57 1 [d11,d13,d15,d17,d19,d4,d22,d24,d26,d28,d30,d32,d34,d36,d38,d40,d42,d44,d46,d48,d50,d52,d54,d56,d58,d60,d62,d64,d66,d68,d70,d72,d74,d76,d78,d80,d82,d84,d86,d88,d90,d92,d94,d96,d98,d100,d102,d104,d106,d108,d110,d112,d114,d116,d118,d203,d262]
def d264 : DV := .sl 1 13 [.s [116],d8,I 0,N,I 0,.s [],I 0,I 0,I 0,.s [],N,N,d263]
def d265 : DV := .sl 1 13 [.s [116],d8,I 0,N,I 0,.s [],I 0,I 0,I 0,.s [],N,d122,d263]
def d266 : DV := .sl 1 13 [.s [116],d8,I 0,N,I 0,.s [],I 0,I 0,I 0,.s [],N,d124,d263]
def d267 : DV := .sl 1 13 [.s [116],d8,I 0,N,I 0,.s [],I 0,I 0,I 0,.s [],N,d126,d263]
def d268 : DV := .sl 1 13 [.s [116],d8,I 0,N,I 0,.s [],I 0,I 0,I 0,.s [],N,d128,d263]
def d269 : DV := .sl 1 13 [.s [116],d8,I 0,N,I 0,.s [],I 0,I 0,I 0,.s [],N,d130,d263]
def d270 : DV := .sl 1 13 [.s [116],d8,I 0,N,I 0,.s [],I 0,I 0,I 0,.s [],N,d132,d263]
def d271 : DV := .sl 2 13 [.s [116],d8,I 0,N,I 0,.s [],I 0,I 0,I 0,.s [],N,N,d263,d135,d8,I 0,N,I 0,.s [],I 0,I 0,I 0,.s [],N,N,N]
def d272 : DV := .sl 2 13 [.s [116],d8,I 0,N,I 0,.s [],I 0,I 0,I 0,.s [],N,d122,d263,d135,d8,I 0,N,I 0,.s [],I 0,I 0,I 0,.s [],N,N,N]
def d273 : DV := .sl 2 13 [.s [116],d8,I 0,N,I 0,.s [],I 0,I 0,I 0,.s [],N,d124,d263,d135,d8,I 0,N,I 0,.s [],I 0,I 0,I 0,.s [],N,N,N]
def d274 : DV := .sl 2 13 [.s [116],d8,I 0,N,I 0,.s [],I 0,I 0,I 0,.s [],N,d126,d263,d135,d8,I 0,N,I 0,.s [],I 0,I 0,I 0,.s [],N,N,N]
def d275 : DV := .sl 2 13 [.s [116],d8,I 0,N,I 0,.s [],I 0,I 0,I 0,.s [],N,d128,d263,d135,d8,I 0,N,I 0,.s [],I 0,I 0,I 0,.s [],N,N,N]
def d276 : DV := .sl 2 13 [.s [116],d8,I 0,N,I 0,.s [],I 0,I 0,I 0,.s [],N,d130,d263,d135,d8,I 0,N,I 0,.s [],I 0,I 0,I 0,.s [],N,N,N]
def d277 : DV := .sl 2 13 [.s [116],d8,I 0,N,I 0,.s [],I 0,I 0,I 0,.s [],N,d132,d263,d135,d8,I 0,N,I 0,.s [],I 0,I 0,I 0,.s [],N,N,N]
def d278 : DV := .sl 3 13 [.s [116],d8,I 0,N,I 0,.s [],I 0,I 0,I 0,.s [],N,N,d263,d135,d8,I 0,N,I 0,.s [],I 0,I 0,I 0,.s [],N,N,N,d144,d8,I 0,N,I 0,.s [],I 0,I 0,I 0,.s [],N,N,N]
def d279 : DV := .sl 3 13 [.s [116],d8,I 0,N,I 0,.s [],I 0,I 0,I 0,.s [],N,d122,d263,d135,d8,I 0,N,I 0,.s [],I 0,I 0,I 0,.s [],N,N,N,d144,d8,I 0,N,I 0,.s [],I 0,I 0,I 0,.s [],N,N,N]
def d280 : DV := .sl 3 13 [.s [116],d8,I 0,N,I 0,.s [],I 0,I 0,I 0,.s [],N,d124,d263,d135,d8,I 0,N,I 0,.s [],I 0,I 0,I 0,.s [],N,N,N,d144,d8,I 0,N,I 0,.s [],I 0,I 0,I 0,.s [],N,N,N]
def d281 : DV := .sl 3 13 [.s [116],d8,I 0,N,I 0,.s [],I 0,I 0,I 0,.s [],N,d126,d263,d135,d8,I 0,N,I 0,.s [],I 0,I 0,I 0,.s [],N,N,N,d144,d8,I 0,N,I 0,.s [],I 0,I 0,I 0,.s [],N,N,N]
def d282 : DV := .sl 3 13 [.s [116],d8,I 0,N,I 0,.s [],I 0,I 0,I 0,.s [],N,d128,d263,d135,d8,I 0,N,I 0,.s [],I 0,I 0,I 0,.s [],N,N,N,d144,d8,I 0,N,I 0,.s [],I 0,I 0,I 0,.s [],N,N,N]
def d283 : DV := .sl 3 13 [.s [116],d8,I 0,N,I 0,.s [],I 0,I 0,I 0,.s [],N,d130,d263,d135,d8,I 0,N,I 0,.s [],I 0,I 0,I 0,.s [],N,N,N,d144,d8,I 0,N,I 0,.s [],I 0,I 0,I 0,.s [],N,N,N]
def d284 : DV := .sl 3 13 [.s [116],d8,I 0,N,I 0,.s [],I 0,I 0,I 0,.s [],N,d132,d263,d135,d8,I 0,N,I 0,.s [],I 0,I 0,I 0,.s [],N,N,N,d144,d8,I 0,N,I 0,.s [],I 0,I 0,I 0,.s [],N,N,N]
def d285 : DV := .sl 4 13 [.s [116],d8,I 0,N,I 0,.s [],I 0,I 0,I 0,.s [],N,N,d263,d135,d8,I 0,N,I 0,.s [],I 0,I 0,I 0,.s [],N,N,N,d144,d8,I 0,N,I 0,.s [],I 0,I 0,I 0,.s [],N,N,N,d153,d8,I 0,N,I 0,.s [],I 0,I 0,I 0,.s [],N,N,N]
def d286 : DV := .sl 4 13 [.s [116],d8,I 0,N,I 0,.s [],I 0,I 0,I 0,.s [],N,d122,d263,d135,d8,I 0,N,I 0,.s [],I 0,I 0,I 0,.s [],N,N,N,d144,d8,I 0,N,I 0,.s [],I 0,I 0,I 0,.s [],N,N,N,d153,d8,I 0,N,I 0,.s [],I 0,I 0,I 0,.s [],N,N,N]
def d287 : DV := .sl 4 13 [.s [116],d8,I 0,N,I 0,.s [],I 0,I 0,I 0,.s [],N,d124,d263,d135,d8,I 0,N,I 0,.s [],I 0,I 0,I 0,.s [],N,N,N,d144,d8,I 0,N,I 0,.s [],I 0,I 0,I 0,.s [],N,N,N,d153,d8,I 0,N,I 0,.s [],I 0,I 0,I 0,.s [],N,N,N]
def d288 : DV := .sl 4 13 [.s [116],d8,I 0,N,I 0,.s [],I 0,I 0,I 0,.s [],N,d126,d263,d135,d8,I 0,N,I 0,.s [],I 0,I 0,I 0,.s [],N,N,N,d144,d8,I 0,N,I 0,.s [],I 0,I 0,I 0,.s [],N,N,N,d153,d8,I 0,N,I 0,.s [],I 0,I 0,I 0,.s [],N,N,N]
def d289 : DV := .sl 4 13 [.s [116],d8,I 0,N,I 0,.s [],I 0,I 0,I 0,.s [],N,d128,d263,d135,d8,I 0,N,I 0,.s [],I 0,I 0,I 0,.s [],N,N,N,d144,d8,I 0,N,I 0,.s [],I 0,I 0,I 0,.s [],N,N,N,d153,d8,I 0,N,I 0,.s [],I 0,I 0,I 0,.s [],N,N,N]
def d290 : DV := .sl 4 13 [.s [116],d8,I 0,N,I 0,.s [],I 0,I 0,I 0,.s [],N,d130,d263,d135,d8,I 0,N,I 0,.s [],I 0,I 0,I 0,.s [],N,N,N,d144,d8,I 0,N,I 0,.s [],I 0,I 0,I 0,.s [],N,N,N,d153,d8,I 0,N,I 0,.s [],I 0,I 0,I 0,.s [],N,N,N]
def d291 : DV := .sl 4 13 [.s [116],d8,I 0,N,I 0,.s [],I 0,I 0,I 0,.s [],N,d132,d263,d135,d8,I 0,N,I 0,.s [],I 0,I 0,I 0,.s [],N,N,N,d144,d8,I 0,N,I 0,.s [],I 0,I 0,I 0,.s [],N,N,N,d153,d8,I 0,N,I 0,.s [],I 0,I 0,I 0,.s [],N,N,N]
def d292 : DV := .sl 5 13 [.s [116],d8,I 0,N,I 0,.s [],I 0,I 0,I 0,.s [],N,N,d263,d135,d8,I 0,N,I 0,.s [],I 0,I 0,I 0,.s [],N,N,N,d144,d8,I 0,N,I 0,.s [],I 0,I 0,I 0,.s [],N,N,N,d153,d8,I 0,N,I 0,.s [],I 0,I 0,I 0,.s [],N,N,N,d162,d8,I 0,N,I 0,.s [],I 0,I 0,I 0,.s [],N,N,N]
def d293 : DV := .sl 5 13 [.s [116],d8,I 0,N,I 0,.s [],I 0,I 0,I 0,.s [],N,d122,d263,d135,d8,I 0,N,I 0,.s [],I 0,I 0,I 0,.s [],N,N,N,d144,d8,I 0,N,I 0,.s [],I 0,I 0,I 0,.s [],N,N,N,d153,d8,I 0,N,I 0,.s [],I 0,I 0,I 0,.s [],N,N,N,d162,d8,I 0,N,I 0,.s [],I 0,I 0,I 0,.s [],N,N,N]
def d294 : DV := .sl 5 13 [.s [116],d8,I 0,N,I 0,.s [],I 0,I 0,I 0,.s [],N,d124,d263,d135,d8,I 0,N,I 0,.s [],I 0,I 0,I 0,.s [],N,N,N,d144,d8,I 0,N,I 0,.s [],I 0,I 0,I 0,.s [],N,N,N,d153,d8,I 0,N,I 0,.s [],I 0,I 0,I 0,.s [],N,N,N,d162,d8,I 0,N,I 0,.s [],I 0,I 0,I 0,.s [],N,N,N]
def d295 : DV := .sl 5 13 [.s [116],d8,I 0,N,I 0,.s [],I 0,I 0,I 0,.s [],N,d126,d263,d135,d8,I 0,N,I 0,.s [],I 0,I 0,I 0,.s [],N,N,N,d144,d8,I 0,N,I 0,.s [],I 0,I 0,I 0,.s [],N,N,N,d153,d8,I 0,N,I 0,.s [],I 0,I 0,I 0,.s [],N,N,N,d162,d8,I 0,N,I 0,.s [],I 0,I 0,I 0,.s [],N,N,N]
def d296 : DV := .sl 5 13 [.s [116],d8,I 0,N,I 0,.s [],I 0,I 0,I 0,.s [],N,d128,d263,d135,d8,I 0,N,I 0,.s [],I 0,I 0,I 0,.s [],N,N,N,d144,d8,I 0,N,I 0,.s [],I 0,I 0,I 0,.s [],N,N,N,d153,d8,I 0,N,I 0,.s [],I 0,I 0,I 0,.s [],N,N,N,d162,d8,I 0,N,I 0,.s [],I 0,I 0,I 0,.s [],N,N,N]
def d297 : DV := .sl 5 13 [.s [116],d8,I 0,N,I 0,.s [],I 0,I 0,I 0,.s [],N,d130,d263,d135,d8,I 0,N,I 0,.s [],I 0,I 0,I 0,.s [],N,N,N,d144,d8,I 0,N,I 0,.s [],I 0,I 0,I 0,.s [],N,N,N,d153,d8,I 0,N,I 0,.s [],I 0,I 0,I 0,.s [],N,N,N,d162,d8,I 0,N,I 0,.s [],I 0,I 0,I 0,.s [],N,N,N]
def d298 : DV := .sl 5 13 [.s [116],d8,I 0,N,I 0,.s [],I 0,I 0,I 0,.s [],N,d132,d263,d135,d8,I 0,N,I 0,.s [],I 0,I 0,I 0,.s [],N,N,N,d144,d8,I 0,N,I 0,.s [],I 0,I 0,I 0,.s [],N,N,N,d153,d8,I 0,N,I 0,.s [],I 0,I 0,I 0,.s [],N,N,N,d162,d8,I 0,N,I 0,.s [],I 0,I 0,I 0,.s [],N,N,N]
def d299 : DV := .sl 6 13 [.s [116],d8,I 0,N,I 0,.s [],I 0,I 0,I 0,.s [],N,N,d263,d135,d8,I 0,N,I 0,.s [],I 0,I 0,I 0,.s [],N,N,N,d144,d8,I 0,N,I 0,.s [],I 0,I 0,I 0,.s [],N,N,N,d153,d8,I 0,N,I 0,.s [],I 0,I 0,I 0,.s [],N,N,N,d162,d8,I 0,N,I 0,.s [],I 0,I 0,I 0,.s [],N,N,N,d171,d8,I 0,N,I 0,.s [],I 0,I 0,I 0,.s [],N,N,N]
def d300 : DV := .sl 6 13 [.s [116],d8,I 0,N,I 0,.s [],I 0,I 0,I 0,.s [],N,d122,d263,d135,d8,I 0,N,I 0,.s [],I 0,I 0,I 0,.s [],N,N,N,d144,d8,I 0,N,I 0,.s [],I 0,I 0,I 0,.s [],N,N,N,d153,d8,I 0,N,I 0,.s [],I 0,I 0,I 0,.s [],N,N,N,d162,d8,I 0,N,I 0,.s [],I 0,I 0,I 0,.s [],N,N,N,d171,d8,I 0,N,I 0,.s [],I 0,I 0,I 0,.s [],N,N,N]
def d301 : DV := .sl 6 13 [.s [116],d8,I 0,N,I 0,.s [],I 0,I 0,I 0,.s [],N,d124,d263,d135,d8,I 0,N,I 0,.s [],I 0,I 0,I 0,.s [],N,N,N,d144,d8,I 0,N,I 0,.s [],I 0,I 0,I 0,.s [],N,N,N,d153,d8,I 0,N,I 0,.s [],I 0,I 0,I 0,.s [],N,N,N,d162,d8,I 0,N,I 0,.s [],I 0,I 0,I 0,.s [],N,N,N,d171,d8,I 0,N,I 0,.s [],I 0,I 0,I 0,.s [],N,N,N]
def d302 : DV := .sl 6 13 [.s [116],d8,I 0,N,I 0,.s [],I 0,I 0,I 0,.s [],N,d126,d263,d135,d8,I 0,N,I 0,.s [],I 0,I 0,I 0,.s [],N,N,N,d144,d8,I 0,N,I 0,.s [],I 0,I 0,I 0,.s [],N,N,N,d153,d8,I 0,N,I 0,.s [],I 0,I 0,I 0,.s [],N,N,N,d162,d8,I 0,N,I 0,.s [],I 0,I 0,I 0,.s [],N,N,N,d171,d8,I 0,N,I 0,.s [],I 0,I 0,I 0,.s [],N,N,N]
def d303 : DV := .sl 6 13 [.s [116],d8,I 0,N,I 0,.s [],I 0,I 0,I 0,.s [],N,d128,d263,d135,d8,I 0,N,I 0,.s [],I 0,I 0,I 0,.s [],N,N,N,d144,d8,I 0,N,I 0,.s [],I 0,I 0,I 0,.s [],N,N,N,d153,d8,I 0,N,I 0,.s [],I 0,I 0,I 0,.s [],N,N,N,d162,d8,I 0,N,I 0,.s [],I 0,I 0,I 0,.s [],N,N,N,d171,d8,I 0,N,I 0,.s [],I 0,I 0,I 0,.s [],N,N,N]
def d304 : DV := .sl 6 13 [.s [116],d8,I 0,N,I 0,.s [],I 0,I 0,I 0,.s [],N,d130,d263,d135,d8,I 0,N,I 0,.s [],I 0,I 0,I 0,.s [],N,N,N,d144,d8,I 0,N,I 0,.s [],I 0,I 0,I 0,.s [],N,N,N,d153,d8,I 0,N,I 0,.s [],I 0,I 0,I 0,.s [],N,N,N,d162,d8,I 0,N,I 0,.s [],I 0,I 0,I 0,.s [],N,N,N,d171,d8,I 0,N,I 0,.s [],I 0,I 0,I 0,.s [],N,N,N]
def d305 : DV := .sl 6 13 [.s [116],d8,I 0,N,I 0,.s [],I 0,I 0,I 0,.s [],N,d132,d263,d135,d8,I 0,N,I 0,.s [],I 0,I 0,I 0,.s [],N,N,N,d144,d8,I 0,N,I 0,.s [],I 0,I 0,I 0,.s [],N,N,N,d153,d8,I 0,N,I 0,.s [],I 0,I 0,I 0,.s [],N,N,N,d162,d8,I 0,N,I 0,.s [],I 0,I 0,I 0,.s [],N,N,N,d171,d8,I 0,N,I 0,.s [],I 0,I 0,I 0,.s [],N,N,N]
def d306 : DV := .sl 7 13 [.s [116],d8,I 0,N,I 0,.s [],I 0,I 0,I 0,.s [],N,N,d263,d135,d8,I 0,N,I 0,.s [],I 0,I 0,I 0,.s [],N,N,N,d144,d8,I 0,N,I 0,.s [],I 0,I 0,I 0,.s [],N,N,N,d153,d8,I 0,N,I 0,.s [],I 0,I 0,I 0,.s [],N,N,N,d162,d8,I 0,N,I 0,.s [],I 0,I 0,I 0,.s [],N,N,N,d171,d8,I 0,N,I 0,.s [],I 0,I 0,I 0,.s [],N,N,N,d180,d8,I 0,N,I 0,.s [],I 0,I 0,I 0,.s [],N,N,N]
def d307 : DV := .sl 7 13 [.s [116],d8,I 0,N,I 0,.s [],I 0,I 0,I 0,.s [],N,d122,d263,d135,d8,I 0,N,I 0,.s [],I 0,I 0,I 0,.s [],N,N,N,d144,d8,I 0,N,I 0,.s [],I 0,I 0,I 0,.s [],N,N,N,d153,d8,I 0,N,I 0,.s [],I 0,I 0,I 0,.s [],N,N,N,d162,d8,I 0,N,I 0,.s [],I 0,I 0,I 0,.s [],N,N,N,d171,d8,I 0,N,I 0,.s [],I 0,I 0,I 0,.s [],N,N,N,d180,d8,I 0,N,I 0,.s [],I 0,I 0,I 0,.s [],N,N,N]
def d308 : DV := .sl 7 13 [.s [116],d8,I 0,N,I 0,.s [],I 0,I 0,I 0,.s [],N,d124,d263,d135,d8,I 0,N,I 0,.s [],I 0,I 0,I 0,.s [],N,N,N,d144,d8,I 0,N,I 0,.s [],I 0,I 0,I 0,.s [],N,N,N,d153,d8,I 0,N,I 0,.s [],I 0,I 0,I 0,.s [],N,N,N,d162,d8,I 0,N,I 0,.s [],I 0,I 0,I 0,.s [],N,N,N,d171,d8,I 0,N,I 0,.s [],I 0,I 0,I 0,.s [],N,N,N,d180,d8,I 0,N,I 0,.s [],I 0,I 0,I 0,.s [],N,N,N]
def d309 : DV := .sl 7 13 [.s [116],d8,I 0,N,I 0,.s [],I 0,I 0,I 0,.s [],N,d126,d263,d135,d8,I 0,N,I 0,.s [],I 0,I 0,I 0,.s [],N,N,N,d144,d8,I 0,N,I 0,.s [],I 0,I 0,I 0,.s [],N,N,N,d153,d8,I 0,N,I 0,.s [],I 0,I 0,I 0,.s [],N,N,N,d162,d8,I 0,N,I 0,.s [],I 0,I 0,I 0,.s [],N,N,N,d171,d8,I 0,N,I 0,.s [],I 0,I 0,I 0,.s [],N,N,N,d180,d8,I 0,N,I 0,.s [],I 0,I 0,I 0,.s [],N,N,N]
def d310 : DV := .sl 7 13 [.s [116],d8,I 0,N,I 0,.s [],I 0,I 0,I 0,.s [],N,d128,d263,d135,d8,I 0,N,I 0,.s [],I 0,I 0,I 0,.s [],N,N,N,d144,d8,I 0,N,I 0,.s [],I 0,I 0,I 0,.s [],N,N,N,d153,d8,I 0,N,I 0,.s [],I 0,I 0,I 0,.s [],N,N,N,d162,d8,I 0,N,I 0,.s [],I 0,I 0,I 0,.s [],N,N,N,d171,d8,I 0,N,I 0,.s [],I 0,I 0,I 0,.s [],N,N,N,d180,d8,I 0,N,I 0,.s [],I 0,I 0,I 0,.s [],N,N,N]
def d311 : DV := .sl 7 13 [.s [116],d8,I 0,N,I 0,.s [],I 0,I 0,I 0,.s [],N,d130,d263,d135,d8,I 0,N,I 0,.s [],I 0,I 0,I 0,.s [],N,N,N,d144,d8,I 0,N,I 0,.s [],I 0,I 0,I 0,.s [],N,N,N,d153,d8,I 0,N,I 0,.s [],I 0,I 0,I 0,.s [],N,N,N,d162,d8,I 0,N,I 0,.s [],I 0,I 0,I 0,.s [],N,N,N,d171,d8,I 0,N,I 0,.s [],I 0,I 0,I 0,.s [],N,N,N,d180,d8,I 0,N,I 0,.s [],I 0,I 0,I 0,.s [],N,N,N]
def d312 : DV := .sl 7 13 [.s [116],d8,I 0,N,I 0,.s [],I 0,I 0,I 0,.s [],N,d132,d263,d135,d8,I 0,N,I 0,.s [],I 0,I 0,I 0,.s [],N,N,N,d144,d8,I 0,N,I 0,.s [],I 0,I 0,I 0,.s [],N,N,N,d153,d8,I 0,N,I 0,.s [],I 0,I 0,I 0,.s [],N,N,N,d162,d8,I 0,N,I 0,.s [],I 0,I 0,I 0,.s [],N,N,N,d171,d8,I 0,N,I 0,.s [],I 0,I 0,I 0,.s [],N,N,N,d180,d8,I 0,N,I 0,.s [],I 0,I 0,I 0,.s [],N,N,N]
def d313 : DV := .sl 8 13 [.s [116],d8,I 0,N,I 0,.s [],I 0,I 0,I 0,.s [],N,N,d263,d135,d8,I 0,N,I 0,.s [],I 0,I 0,I 0,.s [],N,N,N,d144,d8,I 0,N,I 0,.s [],I 0,I 0,I 0,.s [],N,N,N,d153,d8,I 0,N,I 0,.s [],I 0,I 0,I 0,.s [],N,N,N,d162,d8,I 0,N,I 0,.s [],I 0,I 0,I 0,.s [],N,N,N,d171,d8,I 0,N,I 0,.s [],I 0,I 0,I 0,.s [],N,N,N,d180,d8,I 0,N,I 0,.s [],I 0,I 0,I 0,.s [],N,N,N,d189,d8,I 0,N,I 0,.s [],I 0,I 0,I 0,.s [],N,N,N]
def d314 : DV := .tu [d313,d134]
def d315 : DV := .sl 8 13 [.s [116],d8,I 0,N,I 0,.s [],I 0,I 0,I 0,.s [],N,d122,d263,d135,d8,I 0,N,I 0,.s [],I 0,I 0,I 0,.s [],N,N,N,d144,d8,I 0,N,I 0,.s [],I 0,I 0,I 0,.s [],N,N,N,d153,d8,I 0,N,I 0,.s [],I 0,I 0,I 0,.s [],N,N,N,d162,d8,I 0,N,I 0,.s [],I 0,I 0,I 0,.s [],N,N,N,d171,d8,I 0,N,I 0,.s [],I 0,I 0,I 0,.s [],N,N,N,d180,d8,I 0,N,I 0,.s [],I 0,I 0,I 0,.s [],N,N,N,d189,d8,I 0,N,I 0,.s [],I 0,I 0,I 0,.s [],N,N,N]
def d316 : DV := .sl 8 13 [.s [116],d8,I 0,N,I 0,.s [],I 0,I 0,I 0,.s [],N,d124,d263,d135,d8,I 0,N,I 0,.s [],I 0,I 0,I 0,.s [],N,N,N,d144,d8,I 0,N,I 0,.s [],I 0,I 0,I 0,.s [],N,N,N,d153,d8,I 0,N,I 0,.s [],I 0,I 0,I 0,.s [],N,N,N,d162,d8,I 0,N,I 0,.s [],I 0,I 0,I 0,.s [],N,N,N,d171,d8,I 0,N,I 0,.s [],I 0,I 0,I 0,.s [],N,N,N,d180,d8,I 0,N,I 0,.s [],I 0,I 0,I 0,.s [],N,N,N,d189,d8,I 0,N,I 0,.s [],I 0,I 0,I 0,.s [],N,N,N]
def d317 : DV := .sl 8 13 [.s [116],d8,I 0,N,I 0,.s [],I 0,I 0,I 0,.s [],N,d126,d263,d135,d8,I 0,N,I 0,.s [],I 0,I 0,I 0,.s [],N,N,N,d144,d8,I 0,N,I 0,.s [],I 0,I 0,I 0,.s [],N,N,N,d153,d8,I 0,N,I 0,.s [],I 0,I 0,I 0,.s [],N,N,N,d162,d8,I 0,N,I 0,.s [],I 0,I 0,I 0,.s [],N,N,N,d171,d8,I 0,N,I 0,.s [],I 0,I 0,I 0,.s [],N,N,N,d180,d8,I 0,N,I 0,.s [],I 0,I 0,I 0,.s [],N,N,N,d189,d8,I 0,N,I 0,.s [],I 0,I 0,I 0,.s [],N,N,N]
def d318 : DV := .sl 8 13 [.s [116],d8,I 0,N,I 0,.s [],I 0,I 0,I 0,.s [],N,d128,d263,d135,d8,I 0,N,I 0,.s [],I 0,I 0,I 0,.s [],N,N,N,d144,d8,I 0,N,I 0,.s [],I 0,I 0,I 0,.s [],N,N,N,d153,d8,I 0,N,I 0,.s [],I 0,I 0,I 0,.s [],N,N,N,d162,d8,I 0,N,I 0,.s [],I 0,I 0,I 0,.s [],N,N,N,d171,d8,I 0,N,I 0,.s [],I 0,I 0,I 0,.s [],N,N,N,d180,d8,I 0,N,I 0,.s [],I 0,I 0,I 0,.s [],N,N,N,d189,d8,I 0,N,I 0,.s [],I 0,I 0,I 0,.s [],N,N,N]
def d319 : DV := .sl 8 13 [.s [116],d8,I 0,N,I 0,.s [],I 0,I 0,I 0,.s [],N,d130,d263,d135,d8,I 0,N,I 0,.s [],I 0,I 0,I 0,.s [],N,N,N,d144,d8,I 0,N,I 0,.s [],I 0,I 0,I 0,.s [],N,N,N,d153,d8,I 0,N,I 0,.s [],I 0,I 0,I 0,.s [],N,N,N,d162,d8,I 0,N,I 0,.s [],I 0,I 0,I 0,.s [],N,N,N,d171,d8,I 0,N,I 0,.s [],I 0,I 0,I 0,.s [],N,N,N,d180,d8,I 0,N,I 0,.s [],I 0,I 0,I 0,.s [],N,N,N,d189,d8,I 0,N,I 0,.s [],I 0,I 0,I 0,.s [],N,N,N]
def d320 : DV := .sl 8 13 [.s [116],d8,I 0,N,I 0,.s [],I 0,I 0,I 0,.s [],N,d132,d263,d135,d8,I 0,N,I 0,.s [],I 0,I 0,I 0,.s [],N,N,N,d144,d8,I 0,N,I 0,.s [],I 0,I 0,I 0,.s [],N,N,N,d153,d8,I 0,N,I 0,.s [],I 0,I 0,I 0,.s [],N,N,N,d162,d8,I 0,N,I 0,.s [],I 0,I 0,I 0,.s [],N,N,N,d171,d8,I 0,N,I 0,.s [],I 0,I 0,I 0,.s [],N,N,N,d180,d8,I 0,N,I 0,.s [],I 0,I 0,I 0,.s [],N,N,N,d189,d8,I 0,N,I 0,.s [],I 0,I 0,I 0,.s [],N,N,N]
def d321 : DV := .sl 1 4 [I 2,I 57,I 0,.s []]
def d322 : DV := .sl 58 1 [d11,d13,d15,d17,d19,d4,d22,d24,d26,d28,d30,d32,d34,d36,d38,d40,d42,d44,d46,d48,d50,d52,d54,d56,d58,d60,d62,d64,d66,d68,d70,d72,d74,d76,d78,d80,d82,d84,d86,d88,d90,d92,d94,d96,d98,d100,d102,d104,d106,d108,d110,d112,d114,d116,d118,d203,d262,d321]
def d323 : DV := .sl 1 13 [.s [116],d8,I 0,N,I 0,.s [],I 0,I 0,I 0,.s [],N,N,d322]
def d324 : DV := .sl 1 13 [.s [116],d8,I 0,N,I 0,.s [],I 0,I 0,I 0,.s [],N,d122,d322]
def d325 : DV := .sl 1 13 [.s [116],d8,I 0,N,I 0,.s [],I 0,I 0,I 0,.s [],N,d124,d322]
def d326 : DV := .sl 1 13 [.s [116],d8,I 0,N,I 0,.s [],I 0,I 0,I 0,.s [],N,d126,d322]
def d327 : DV := .sl 1 13 [.s [116],d8,I 0,N,I 0,.s [],I 0,I 0,I 0,.s [],N,d128,d322]
def d328 : DV := .sl 1 13 [.s [116],d8,I 0,N,I 0,.s [],I 0,I 0,I 0,.s [],N,d130,d322]
def d329 : DV := .sl 1 13 [.s [116],d8,I 0,N,I 0,.s [],I 0,I 0,I 0,.s [],N,d132,d322]
def d330 : DV := .sl 2 13 [.s [116],d8,I 0,N,I 0,.s [],I 0,I 0,I 0,.s [],N,N,d322,d135,d8,I 0,N,I 0,.s [],I 0,I 0,I 0,.s [],N,N,N]
def d331 : DV := .sl 2 13 [.s [116],d8,I 0,N,I 0,.s [],I 0,I 0,I 0,.s [],N,d122,d322,d135,d8,I 0,N,I 0,.s [],I 0,I 0,I 0,.s [],N,N,N]
def d332 : DV := .sl 2 13 [.s [116],d8,I 0,N,I 0,.s [],I 0,I 0,I 0,.s [],N,d124,d322,d135,d8,I 0,N,I 0,.s [],I 0,I 0,I 0,.s [],N,N,N]
def d333 : DV := .sl 2 13 [.s [116],d8,I 0,N,I 0,.s [],I 0,I 0,I 0,.s [],N,d126,d322,d135,d8,I 0,N,I 0,.s [],I 0,I 0,I 0,.s [],N,N,N]
def d334 : DV := .sl 2 13 [.s [116],d8,I 0,N,I 0,.s [],I 0,I 0,I 0,.s [],N,d128,d322,d135,d8,I 0,N,I 0,.s [],I 0,I 0,I 0,.s [],N,N,N]
def d335 : DV := .sl 2 13 [.s [116],d8,I 0,N,I 0,.s [],I 0,I 0,I 0,.s [],N,d130,d322,d135,d8,I 0,N,I 0,.s [],I 0,I 0,I 0,.s [],N,N,N]
def d336 : DV := .sl 2 13 [.s [116],d8,I 0,N,I 0,.s [],I 0,I 0,I 0,.s [],N,d132,d322,d135,d8,I 0,N,I 0,.s [],I 0,I 0,I 0,.s [],N,N,N]
def d337 : DV := .sl 3 13 [.s [116],d8,I 0,N,I 0,.s [],I 0,I 0,I 0,.s [],N,N,d322,d135,d8,I 0,N,I 0,.s [],I 0,I 0,I 0,.s [],N,N,N,d144,d8,I 0,N,I 0,.s [],I 0,I 0,I 0,.s [],N,N,N]
def d338 : DV := .sl 3 13 [.s [116],d8,I 0,N,I 0,.s [],I 0,I 0,I 0,.s [],N,d122,d322,d135,d8,I 0,N,I 0,.s [],I 0,I 0,I 0,.s [],N,N,N,d144,d8,I 0,N,I 0,.s [],I 0,I 0,I 0,.s [],N,N,N]
def d339 : DV := .sl 3 13 [.s [116],d8,I 0,N,I 0,.s [],I 0,I 0,I 0,.s [],N,d124,d322,d135,d8,I 0,N,I 0,.s [],I 0,I 0,I 0,.s [],N,N,N,d144,d8,I 0,N,I 0,.s [],I 0,I 0,I 0,.s [],N,N,N]
def d340 : DV := .sl 3 13 [.s [116],d8,I 0,N,I 0,.s [],I 0,I 0,I 0,.s [],N,d126,d322,d135,d8,I 0,N,I 0,.s [],I 0,I 0,I 0,.s [],N,N,N,d144,d8,I 0,N,I 0,.s [],I 0,I 0,I 0,.s [],N,N,N]
def d341 : DV := .sl 3 13 [.s [116],d8,I 0,N,I 0,.s [],I 0,I 0,I 0,.s [],N,d128,d322,d135,d8,I 0,N,I 0,.s [],I 0,I 0,I 0,.s [],N,N,N,d144,d8,I 0,N,I 0,.s [],I 0,I 0,I 0,.s [],N,N,N]
def d342 : DV := .sl 3 13 [.s [116],d8,I 0,N,I 0,.s [],I 0,I 0,I 0,.s [],N,d130,d322,d135,d8,I 0,N,I 0,.s [],I 0,I 0,I 0,.s [],N,N,N,d144,d8,I 0,N,I 0,.s [],I 0,I 0,I 0,.s [],N,N,N]
def d343 : DV := .sl 3 13 [.s [116],d8,I 0,N,I 0,.s [],I 0,I 0,I 0,.s [],N,d132,d322,d135,d8,I 0,N,I 0,.s [],I 0,I 0,I 0,.s [],N,N,N,d144,d8,I 0,N,I 0,.s [],I 0,I 0,I 0,.s [],N,N,N]
def d344 : DV := .sl 4 13 [.s [116],d8,I 0,N,I 0,.s [],I 0,I 0,I 0,.s [],N,N,d322,d135,d8,I 0,N,I 0,.s [],I 0,I 0,I 0,.s [],N,N,N,d144,d8,I 0,N,I 0,.s [],I 0,I 0,I 0,.s [],N,N,N,d153,d8,I 0,N,I 0,.s [],I 0,I 0,I 0,.s [],N,N,N]
def d345 : DV := .sl 4 13 [.s [116],d8,I 0,N,I 0,.s [],I 0,I 0,I 0,.s [],N,d122,d322,d135,d8,I 0,N,I 0,.s [],I 0,I 0,I 0,.s [],N,N,N,d144,d8,I 0,N,I 0,.s [],I 0,I 0,I 0,.s [],N,N,N,d153,d8,I 0,N,I 0,.s [],I 0,I 0,I 0,.s [],N,N,N]
def d346 : DV := .sl 4 13 [.s [116],d8,I 0,N,I 0,.s [],I 0,I 0,I 0,.s [],N,d124,d322,d135,d8,I 0,N,I 0,.s [],I 0,I 0,I 0,.s [],N,N,N,d144,d8,I 0,N,I 0,.s [],I 0,I 0,I 0,.s [],N,N,N,d153,d8,I 0,N,I 0,.s [],I 0,I 0,I 0,.s [],N,N,N]
def d347 : DV := .sl 4 13 [.s [116],d8,I 0,N,I 0,.s [],I 0,I 0,I 0,.s [],N,d126,d322,d135,d8,I 0,N,I 0,.s [],I 0,I 0,I 0,.s [],N,N,N,d144,d8,I 0,N,I 0,.s [],I 0,I 0,I 0,.s [],N,N,N,d153,d8,I 0,N,I 0,.s [],I 0,I 0,I 0,.s [],N,N,N]
def d348 : DV := .sl 4 13 [.s [116],d8,I 0,N,I 0,.s [],I 0,I 0,I 0,.s [],N,d128,d322,d135,d8,I 0,N,I 0,.s [],I 0,I 0,I 0,.s [],N,N,N,d144,d8,I 0,N,I 0,.s [],I 0,I 0,I 0,.s [],N,N,N,d153,d8,I 0,N,I 0,.s [],I 0,I 0,I 0,.s [],N,N,N]
def d349 : DV := .sl 4 13 [.s [116],d8,I 0,N,I 0,.s [],I 0,I 0,I 0,.s [],N,d130,d322,d135,d8,I 0,N,I 0,.s [],I 0,I 0,I 0,.s [],N,N,N,d144,d8,I 0,N,I 0,.s [],I 0,I 0,I 0,.s [],N,N,N,d153,d8,I 0,N,I 0,.s [],I 0,I 0,I 0,.s [],N,N,N]
def d350 : DV := .sl 4 13 [.s [116],d8,I 0,N,I 0,.s [],I 0,I 0,I 0,.s [],N,d132,d322,d135,d8,I 0,N,I 0,.s [],I 0,I 0,I 0,.s [],N,N,N,d144,d8,I 0,N,I 0,.s [],I 0,I 0,I 0,.s [],N,N,N,d153,d8,I 0,N,I 0,.s [],I 0,I 0,I 0,.s [],N,N,N]
def d351 : DV := .sl 5 13 [.s [116],d8,I 0,N,I 0,.s [],I 0,I 0,I 0,.s [],N,N,d322,d135,d8,I 0,N,I 0,.s [],I 0,I 0,I 0,.s [],N,N,N,d144,d8,I 0,N,I 0,.s [],I 0,I 0,I 0,.s [],N,N,N,d153,d8,I 0,N,I 0,.s [],I 0,I 0,I 0,.s [],N,N,N,d162,d8,I 0,N,I 0,.s [],I 0,I 0,I 0,.s [],N,N,N]
def d352 : DV := .sl 5 13 [.s [116],d8,I 0,N,I 0,.s [],I 0,I 0,I 0,.s [],N,d122,d322,d135,d8,I 0,N,I 0,.s [],I 0,I 0,I 0,.s [],N,N,N,d144,d8,I 0,N,I 0,.s [],I 0,I 0,I 0,.s [],N,N,N,d153,d8,I 0,N,I 0,.s [],I 0,I 0,I 0,.s [],N,N,N,d162,d8,I 0,N,I 0,.s [],I 0,I 0,I 0,.s [],N,N,N]
def d353 : DV := .sl 5 13 [.s [116],d8,I 0,N,I 0,.s [],I 0,I 0,I 0,.s [],N,d124,d322,d135,d8,I 0,N,I 0,.s [],I 0,I 0,I 0,.s [],N,N,N,d144,d8,I 0,N,I 0,.s [],I 0,I 0,I 0,.s [],N,N,N,d153,d8,I 0,N,I 0,.s [],I 0,I 0,I 0,.s [],N,N,N,d162,d8,I 0,N,I 0,.s [],I 0,I 0,I 0,.s [],N,N,N]
def d354 : DV := .sl 5 13 [.s [116],d8,I 0,N,I 0,.s [],I 0,I 0,I 0,.s [],N,d126,d322,d135,d8,I 0,N,I 0,.s [],I 0,I 0,I 0,.s [],N,N,N,d144,d8,I 0,N,I 0,.s [],I 0,I 0,I 0,.s [],N,N,N,d153,d8,I 0,N,I 0,.s [],I 0,I 0,I 0,.s [],N,N,N,d162,d8,I 0,N,I 0,.s [],I 0,I 0,I 0,.s [],N,N,N]
def d355 : DV := .sl 5 13 [.s [116],d8,I 0,N,I 0,.s [],I 0,I 0,I 0,.s [],N,d128,d322,d135,d8,I 0,N,I 0,.s [],I 0,I 0,I 0,.s [],N,N,N,d144,d8,I 0,N,I 0,.s [],I 0,I 0,I 0,.s [],N,N,N,d153,d8,I 0,N,I 0,.s [],I 0,I 0,I 0,.s [],N,N,N,d162,d8,I 0,N,I 0,.s [],I 0,I 0,I 0,.s [],N,N,N]
def d356 : DV := .sl 5 13 [.s [116],d8,I 0,N,I 0,.s [],I 0,I 0,I 0,.s [],N,d130,d322,d135,d8,I 0,N,I 0,.s [],I 0,I 0,I 0,.s [],N,N,N,d144,d8,I 0,N,I 0,.s [],I 0,I 0,I 0,.s [],N,N,N,d153,d8,I 0,N,I 0,.s [],I 0,I 0,I 0,.s [],N,N,N,d162,d8,I 0,N,I 0,.s [],I 0,I 0,I 0,.s [],N,N,N]
def d357 : DV := .sl 5 13 [.s [116],d8,I 0,N,I 0,.s [],I 0,I 0,I 0,.s [],N,d132,d322,d135,d8,I 0,N,I 0,.s [],I 0,I 0,I 0,.s [],N,N,N,d144,d8,I 0,N,I 0,.s [],I 0,I 0,I 0,.s [],N,N,N,d153,d8,I 0,N,I 0,.s [],I 0,I 0,I 0,.s [],N,N,N,d162,d8,I 0,N,I 0,.s [],I 0,I 0,I 0,.s [],N,N,N]
def d358 : DV := .sl 6 13 [.s [116],d8,I 0,N,I 0,.s [],I 0,I 0,I 0,.s [],N,N,d322,d135,d8,I 0,N,I 0,.s [],I 0,I 0,I 0,.s [],N,N,N,d144,d8,I 0,N,I 0,.s [],I 0,I 0,I 0,.s [],N,N,N,d153,d8,I 0,N,I 0,.s [],I 0,I 0,I 0,.s [],N,N,N,d162,d8,I 0,N,I 0,.s [],I 0,I 0,I 0,.s [],N,N,N,d171,d8,I 0,N,I 0,.s [],I 0,I 0,I 0,.s [],N,N,N]
def d359 : DV := .sl 6 13 [.s [116],d8,I 0,N,I 0,.s [],I 0,I 0,I 0,.s [],N,d122,d322,d135,d8,I 0,N,I 0,.s [],I 0,I 0,I 0,.s [],N,N,N,d144,d8,I 0,N,I 0,.s [],I 0,I 0,I 0,.s [],N,N,N,d153,d8,I 0,N,I 0,.s [],I 0,I 0,I 0,.s [],N,N,N,d162,d8,I 0,N,I 0,.s [],I 0,I 0,I 0,.s [],N,N,N,d171,d8,I 0,N,I 0,.s [],I 0,I 0,I 0,.s [],N,N,N]
def d360 : DV := .sl 6 13 [.s [116],d8,I 0,N,I 0,.s [],I 0,I 0,I 0,.s [],N,d124,d322,d135,d8,I 0,N,I 0,.s [],I 0,I 0,I 0,.s [],N,N,N,d144,d8,I 0,N,I 0,.s [],I 0,I 0,I 0,.s [],N,N,N,d153,d8,I 0,N,I 0,.s [],I 0,I 0,I 0,.s [],N,N,N,d162,d8,I 0,N,I 0,.s [],I 0,I 0,I 0,.s [],N,N,N,d171,d8,I 0,N,I 0,.s [],I 0,I 0,I 0,.s [],N,N,N]
def d361 : DV := .sl 6 13 [.s [116],d8,I 0,N,I 0,.s [],I 0,I 0,I 0,.s [],N,d126,d322,d135,d8,I 0,N,I 0,.s [],I 0,I 0,I 0,.s [],N,N,N,d144,d8,I 0,N,I 0,.s [],I 0,I 0,I 0,.s [],N,N,N,d153,d8,I 0,N,I 0,.s [],I 0,I 0,I 0,.s [],N,N,N,d162,d8,I 0,N,I 0,.s [],I 0,I 0,I 0,.s [],N,N,N,d171,d8,I 0,N,I 0,.s [],I 0,I 0,I 0,.s [],N,N,N]
def d362 : DV := .sl 6 13 [.s [116],d8,I 0,N,I 0,.s [],I 0,I 0,I 0,.s [],N,d128,d322,d135,d8,I 0,N,I 0,.s [],I 0,I 0,I 0,.s [],N,N,N,d144,d8,I 0,N,I 0,.s [],I 0,I 0,I 0,.s [],N,N,N,d153,d8,I 0,N,I 0,.s [],I 0,I 0,I 0,.s [],N,N,N,d162,d8,I 0,N,I 0,.s [],I 0,I 0,I 0,.s [],N,N,N,d171,d8,I 0,N,I 0,.s [],I 0,I 0,I 0,.s [],N,N,N]
def d363 : DV := .sl 6 13 [.s [116],d8,I 0,N,I 0,.s [],I 0,I 0,I 0,.s [],N,d130,d322,d135,d8,I 0,N,I 0,.s [],I 0,I 0,I 0,.s [],N,N,N,d144,d8,I 0,N,I 0,.s [],I 0,I 0,I 0,.s [],N,N,N,d153,d8,I 0,N,I 0,.s [],I 0,I 0,I 0,.s [],N,N,N,d162,d8,I 0,N,I 0,.s [],I 0,I 0,I 0,.s [],N,N,N,d171,d8,I 0,N,I 0,.s [],I 0,I 0,I 0,.s [],N,N,N]
def d364 : DV := .sl 6 13 [.s [116],d8,I 0,N,I 0,.s [],I 0,I 0,I 0,.s [],N,d132,d322,d135,d8,I 0,N,I 0,.s [],I 0,I 0,I 0,.s [],N,N,N,d144,d8,I 0,N,I 0,.s [],I 0,I 0,I 0,.s [],N,N,N,d153,d8,I 0,N,I 0,.s [],I 0,I 0,I 0,.s [],N,N,N,d162,d8,I 0,N,I 0,.s [],I 0,I 0,I 0,.s [],N,N,N,d171,d8,I 0,N,I 0,.s [],I 0,I 0,I 0,.s [],N,N,N]
def d365 : DV := .sl 7 13 [.s [116],d8,I 0,N,I 0,.s [],I 0,I 0,I 0,.s [],N,N,d322,d135,d8,I 0,N,I 0,.s [],I 0,I 0,I 0,.s [],N,N,N,d144,d8,I 0,N,I 0,.s [],I 0,I 0,I 0,.s [],N,N,N,d153,d8,I 0,N,I 0,.s [],I 0,I 0,I 0,.s [],N,N,N,d162,d8,I 0,N,I 0,.s [],I 0,I 0,I 0,.s [],N,N,N,d171,d8,I 0,N,I 0,.s [],I 0,I 0,I 0,.s [],N,N,N,d180,d8,I 0,N,I 0,.s [],I 0,I 0,I 0,.s [],N,N,N]
def d366 : DV := .sl 7 13 [.s [116],d8,I 0,N,I 0,.s [],I 0,I 0,I 0,.s [],N,d122,d322,d135,d8,I 0,N,I 0,.s [],I 0,I 0,I 0,.s [],N,N,N,d144,d8,I 0,N,I 0,.s [],I 0,I 0,I 0,.s [],N,N,N,d153,d8,I 0,N,I 0,.s [],I 0,I 0,I 0,.s [],N,N,N,d162,d8,I 0,N,I 0,.s [],I 0,I 0,I 0,.s [],N,N,N,d171,d8,I 0,N,I 0,.s [],I 0,I 0,I 0,.s [],N,N,N,d180,d8,I 0,N,I 0,.s [],I 0,I 0,I 0,.s [],N,N,N]
def d367 : DV := .sl 7 13 [.s [116],d8,I 0,N,I 0,.s [],I 0,I 0,I 0,.s [],N,d124,d322,d135,d8,I 0,N,I 0,.s [],I 0,I 0,I 0,.s [],N,N,N,d144,d8,I 0,N,I 0,.s [],I 0,I 0,I 0,.s [],N,N,N,d153,d8,I 0,N,I 0,.s [],I 0,I 0,I 0,.s [],N,N,N,d162,d8,I 0,N,I 0,.s [],I 0,I 0,I 0,.s [],N,N,N,d171,d8,I 0,N,I 0,.s [],I 0,I 0,I 0,.s [],N,N,N,d180,d8,I 0,N,I 0,.s [],I 0,I 0,I 0,.s [],N,N,N]
def d368 : DV := .sl 7 13 [.s [116],d8,I 0,N,I 0,.s [],I 0,I 0,I 0,.s [],N,d126,d322,d135,d8,I 0,N,I 0,.s [],I 0,I 0,I 0,.s [],N,N,N,d144,d8,I 0,N,I 0,.s [],I 0,I 0,I 0,.s [],N,N,N,d153,d8,I 0,N,I 0,.s [],I 0,I 0,I 0,.s [],N,N,N,d162,d8,I 0,N,I 0,.s [],I 0,I 0,I 0,.s [],N,N,N,d171,d8,I 0,N,I 0,.s [],I 0,I 0,I 0,.s [],N,N,N,d180,d8,I 0,N,I 0,.s [],I 0,I 0,I 0,.s [],N,N,N]
def d369 : DV := .sl 7 13 [.s [116],d8,I 0,N,I 0,.s [],I 0,I 0,I 0,.s [],N,d128,d322,d135,d8,I 0,N,I 0,.s [],I 0,I 0,I 0,.s [],N,N,N,d144,d8,I 0,N,I 0,.s [],I 0,I 0,I 0,.s [],N,N,N,d153,d8,I 0,N,I 0,.s [],I 0,I 0,I 0,.s [],N,N,N,d162,d8,I 0,N,I 0,.s [],I 0,I 0,I 0,.s [],N,N,N,d171,d8,I 0,N,I 0,.s [],I 0,I 0,I 0,.s [],N,N,N,d180,d8,I 0,N,I 0,.s [],I 0,I 0,I 0,.s [],N,N,N]
def d370 : DV := .sl 7 13 [.s [116],d8,I 0,N,I 0,.s [],I 0,I 0,I 0,.s [],N,d130,d322,d135,d8,I 0,N,I 0,.s [],I 0,I 0,I 0,.s [],N,N,N,d144,d8,I 0,N,I 0,.s [],I 0,I 0,I 0,.s [],N,N,N,d153,d8,I 0,N,I 0,.s [],I 0,I 0,I 0,.s [],N,N,N,d162,d8,I 0,N,I 0,.s [],I 0,I 0,I 0,.s [],N,N,N,d171,d8,I 0,N,I 0,.s [],I 0,I 0,I 0,.s [],N,N,N,d180,d8,I 0,N,I 0,.s [],I 0,I 0,I 0,.s [],N,N,N]
def d371 : DV := .sl 7 13 [.s [116],d8,I 0,N,I 0,.s [],I 0,I 0,I 0,.s [],N,d132,d322,d135,d8,I 0,N,I 0,.s [],I 0,I 0,I 0,.s [],N,N,N,d144,d8,I 0,N,I 0,.s [],I 0,I 0,I 0,.s [],N,N,N,d153,d8,I 0,N,I 0,.s [],I 0,I 0,I 0,.s [],N,N,N,d162,d8,I 0,N,I 0,.s [],I 0,I 0,I 0,.s [],N,N,N,d171,d8,I 0,N,I 0,.s [],I 0,I 0,I 0,.s [],N,N,N,d180,d8,I 0,N,I 0,.s [],I 0,I 0,I 0,.s [],N,N,N]
def d372 : DV := .sl 8 13 [.s [116],d8,I 0,N,I 0,.s [],I 0,I 0,I 0,.s [],N,N,d322,d135,d8,I 0,N,I 0,.s [],I 0,I 0,I 0,.s [],N,N,N,d144,d8,I 0,N,I 0,.s [],I 0,I 0,I 0,.s [],N,N,N,d153,d8,I 0,N,I 0,.s [],I 0,I 0,I 0,.s [],N,N,N,d162,d8,I 0,N,I 0,.s [],I 0,I 0,I 0,.s [],N,N,N,d171,d8,I 0,N,I 0,.s [],I 0,I 0,I 0,.s [],N,N,N,d180,d8,I 0,N,I 0,.s [],I 0,I 0,I 0,.s [],N,N,N,d189,d8,I 0,N,I 0,.s [],I 0,I 0,I 0,.s [],N,N,N]
def d373 : DV := .tu [d372,d134]
def d374 : DV := .sl 8 13 [.s [116],d8,I 0,N,I 0,.s [],I 0,I 0,I 0,.s [],N,d122,d322,d135,d8,I 0,N,I 0,.s [],I 0,I 0,I 0,.s [],N,N,N,d144,d8,I 0,N,I 0,.s [],I 0,I 0,I 0,.s [],N,N,N,d153,d8,I 0,N,I 0,.s [],I 0,I 0,I 0,.s [],N,N,N,d162,d8,I 0,N,I 0,.s [],I 0,I 0,I 0,.s [],N,N,N,d171,d8,I 0,N,I 0,.s [],I 0,I 0,I 0,.s [],N,N,N,d180,d8,I 0,N,I 0,.s [],I 0,I 0,I 0,.s [],N,N,N,d189,d8,I 0,N,I 0,.s [],I 0,I 0,I 0,.s [],N,N,N]
def d375 : DV := .sl 8 13 [.s [116],d8,I 0,N,I 0,.s [],I 0,I 0,I 0,.s [],N,d124,d322,d135,d8,I 0,N,I 0,.s [],I 0,I 0,I 0,.s [],N,N,N,d144,d8,I 0,N,I 0,.s [],I 0,I 0,I 0,.s [],N,N,N,d153,d8,I 0,N,I 0,.s [],I 0,I 0,I 0,.s [],N,N,N,d162,d8,I 0,N,I 0,.s [],I 0,I 0,I 0,.s [],N,N,N,d171,d8,I 0,N,I 0,.s [],I 0,I 0,I 0,.s [],N,N,N,d180,d8,I 0,N,I 0,.s [],I 0,I 0,I 0,.s [],N,N,N,d189,d8,I 0,N,I 0,.s [],I 0,I 0,I 0,.s [],N,N,N]
def d376 : DV := .sl 8 13 [.s [116],d8,I 0,N,I 0,.s [],I 0,I 0,I 0,.s [],N,d126,d322,d135,d8,I 0,N,I 0,.s [],I 0,I 0,I 0,.s [],N,N,N,d144,d8,I 0,N,I 0,.s [],I 0,I 0,I 0,.s [],N,N,N,d153,d8,I 0,N,I 0,.s [],I 0,I 0,I 0,.s [],N,N,N,d162,d8,I 0,N,I 0,.s [],I 0,I 0,I 0,.s [],N,N,N,d171,d8,I 0,N,I 0,.s [],I 0,I 0,I 0,.s [],N,N,N,d180,d8,I 0,N,I 0,.s [],I 0,I 0,I 0,.s [],N,N,N,d189,d8,I 0,N,I 0,.s [],I 0,I 0,I 0,.s [],N,N,N]
def d377 : DV := .sl 8 13 [.s [116],d8,I 0,N,I 0,.s [],I 0,I 0,I 0,.s [],N,d128,d322,d135,d8,I 0,N,I 0,.s [],I 0,I 0,I 0,.s [],N,N,N,d144,d8,I 0,N,I 0,.s [],I 0,I 0,I 0,.s [],N,N,N,d153,d8,I 0,N,I 0,.s [],I 0,I 0,I 0,.s [],N,N,N,d162,d8,I 0,N,I 0,.s [],I 0,I 0,I 0,.s [],N,N,N,d171,d8,I 0,N,I 0,.s [],I 0,I 0,I 0,.s [],N,N,N,d180,d8,I 0,N,I 0,.s [],I 0,I 0,I 0,.s [],N,N,N,d189,d8,I 0,N,I 0,.s [],I 0,I 0,I 0,.s [],N,N,N]
def d378 : DV := .sl 8 13 [.s [116],d8,I 0,N,I 0,.s [],I 0,I 0,I 0,.s [],N,d130,d322,d135,d8,I 0,N,I 0,.s [],I 0,I 0,I 0,.s [],N,N,N,d144,d8,I 0,N,I 0,.s [],I 0,I 0,I 0,.s [],N,N,N,d153,d8,I 0,N,I 0,.s [],I 0,I 0,I 0,.s [],N,N,N,d162,d8,I 0,N,I 0,.s [],I 0,I 0,I 0,.s [],N,N,N,d171,d8,I 0,N,I 0,.s [],I 0,I 0,I 0,.s [],N,N,N,d180,d8,I 0,N,I 0,.s [],I 0,I 0,I 0,.s [],N,N,N,d189,d8,I 0,N,I 0,.s [],I 0,I 0,I 0,.s [],N,N,N]
def d379 : DV := .sl 8 13 [.s [116],d8,I 0,N,I 0,.s [],I 0,I 0,I 0,.s [],N,d132,d322,d135,d8,I 0,N,I 0,.s [],I 0,I 0,I 0,.s [],N,N,N,d144,d8,I 0,N,I 0,.s [],I 0,I 0,I 0,.s [],N,N,N,d153,d8,I 0,N,I 0,.s [],I 0,I 0,I 0,.s [],N,N,N,d162,d8,I 0,N,I 0,.s [],I 0,I 0,I 0,.s [],N,N,N,d171,d8,I 0,N,I 0,.s [],I 0,I 0,I 0,.s [],N,N,N,d180,d8,I 0,N,I 0,.s [],I 0,I 0,I 0,.s [],N,N,N,d189,d8,I 0,N,I 0,.s [],I 0,I 0,I 0,.s [],N,N,N]
def d380 : DV := .sl 1 4 [I 2,I 58,I 0,.s []]
def d381 : DV := .sl 59 1 [d11,d13,d15,d17,d19,d4,d22,d24,d26,d28,d30,d32,d34,d36,d38,d40,d42,d44,d46,d48,d50,d52,d54,d56,d58,d60,d62,d64,d66,d68,d70,d72,d74,d76,d78,d80,d82,d84,d86,d88,d90,d92,d94,d96,d98,d100,d102,d104,d106,d108,d110,d112,d114,d116,d118,d203,d262,d321,d380]
def d382 : DV := .sl 1 13 [.s [116],d8,I 0,N,I 0,.s [],I 0,I 0,I 0,.s [],N,N,d381]
def d383 : DV := .sl 1 13 [.s [116],d8,I 0,N,I 0,.s [],I 0,I 0,I 0,.s [],N,d122,d381]
def d384 : DV := .sl 1 13 [.s [116],d8,I 0,N,I 0,.s [],I 0,I 0,I 0,.s [],N,d124,d381]
def d385 : DV := .sl 1 13 [.s [116],d8,I 0,N,I 0,.s [],I 0,I 0,I 0,.s [],N,d126,d381]
def d386 : DV := .sl 1 13 [.s [116],d8,I 0,N,I 0,.s [],I 0,I 0,I 0,.s [],N,d128,d381]
def d387 : DV := .sl 1 13 [.s [116],d8,I 0,N,I 0,.s [],I 0,I 0,I 0,.s [],N,d130,d381]
def d388 : DV := .sl 1 13 [.s [116],d8,I 0,N,I 0,.s [],I 0,I 0,I 0,.s [],N,d132,d381]
def d389 : DV := .sl 2 13 [.s [116],d8,I 0,N,I 0,.s [],I 0,I 0,I 0,.s [],N,N,d381,d135,d8,I 0,N,I 0,.s [],I 0,I 0,I 0,.s [],N,N,N]
def d390 : DV := .sl 2 13 [.s [116],d8,I 0,N,I 0,.s [],I 0,I 0,I 0,.s [],N,d122,d381,d135,d8,I 0,N,I 0,.s [],I 0,I 0,I 0,.s [],N,N,N]
def d391 : DV := .sl 2 13 [.s [116],d8,I 0,N,I 0,.s [],I 0,I 0,I 0,.s [],N,d124,d381,d135,d8,I 0,N,I 0,.s [],I 0,I 0,I 0,.s [],N,N,N]
def d392 : DV := .sl 2 13 [.s [116],d8,I 0,N,I 0,.s [],I 0,I 0,I 0,.s [],N,d126,d381,d135,d8,I 0,N,I 0,.s [],I 0,I 0,I 0,.s [],N,N,N]
def d393 : DV := .sl 2 13 [.s [116],d8,I 0,N,I 0,.s [],I 0,I 0,I 0,.s [],N,d128,d381,d135,d8,I 0,N,I 0,.s [],I 0,I 0,I 0,.s [],N,N,N]
def d394 : DV := .sl 2 13 [.s [116],d8,I 0,N,I 0,.s [],I 0,I 0,I 0,.s [],N,d130,d381,d135,d8,I 0,N,I 0,.s [],I 0,I 0,I 0,.s [],N,N,N]
def d395 : DV := .sl 2 13 [.s [116],d8,I 0,N,I 0,.s [],I 0,I 0,I 0,.s [],N,d132,d381,d135,d8,I 0,N,I 0,.s [],I 0,I 0,I 0,.s [],N,N,N]
def d396 : DV := .sl 3 13 [.s [116],d8,I 0,N,I 0,.s [],I 0,I 0,I 0,.s [],N,N,d381,d135,d8,I 0,N,I 0,.s [],I 0,I 0,I 0,.s [],N,N,N,d144,d8,I 0,N,I 0,.s [],I 0,I 0,I 0,.s [],N,N,N]
def d397 : DV := .sl 3 13 [.s [116],d8,I 0,N,I 0,.s [],I 0,I 0,I 0,.s [],N,d122,d381,d135,d8,I 0,N,I 0,.s [],I 0,I 0,I 0,.s [],N,N,N,d144,d8,I 0,N,I 0,.s [],I 0,I 0,I 0,.s [],N,N,N]
def d398 : DV := .sl 3 13 [.s [116],d8,I 0,N,I 0,.s [],I 0,I 0,I 0,.s [],N,d124,d381,d135,d8,I 0,N,I 0,.s [],I 0,I 0,I 0,.s [],N,N,N,d144,d8,I 0,N,I 0,.s [],I 0,I 0,I 0,.s [],N,N,N]
def d399 : DV := .sl 3 13 [.s [116],d8,I 0,N,I 0,.s [],I 0,I 0,I 0,.s [],N,d126,d381,d135,d8,I 0,N,I 0,.s [],I 0,I 0,I 0,.s [],N,N,N,d144,d8,I 0,N,I 0,.s [],I 0,I 0,I 0,.s [],N,N,N]
def d400 : DV := .sl 3 13 [.s [116],d8,I 0,N,I 0,.s [],I 0,I 0,I 0,.s [],N,d128,d381,d135,d8,I 0,N,I 0,.s [],I 0,I 0,I 0,.s [],N,N,N,d144,d8,I 0,N,I 0,.s [],I 0,I 0,I 0,.s [],N,N,N]
def d401 : DV := .sl 3 13 [.s [116],d8,I 0,N,I 0,.s [],I 0,I 0,I 0,.s [],N,d130,d381,d135,d8,I 0,N,I 0,.s [],I 0,I 0,I 0,.s [],N,N,N,d144,d8,I 0,N,I 0,.s [],I 0,I 0,I 0,.s [],N,N,N]
def d402 : DV := .sl 3 13 [.s [116],d8,I 0,N,I 0,.s [],I 0,I 0,I 0,.s [],N,d132,d381,d135,d8,I 0,N,I 0,.s [],I 0,I 0,I 0,.s [],N,N,N,d144,d8,I 0,N,I 0,.s [],I 0,I 0,I 0,.s [],N,N,N]
def d403 : DV := .sl 4 13 [.s [116],d8,I 0,N,I 0,.s [],I 0,I 0,I 0,.s [],N,N,d381,d135,d8,I 0,N,I 0,.s [],I 0,I 0,I 0,.s [],N,N,N,d144,d8,I 0,N,I 0,.s [],I 0,I 0,I 0,.s [],N,N,N,d153,d8,I 0,N,I 0,.s [],I 0,I 0,I 0,.s [],N,N,N]
def d404 : DV := .sl 4 13 [.s [116],d8,I 0,N,I 0,.s [],I 0,I 0,I 0,.s [],N,d122,d381,d135,d8,I 0,N,I 0,.s [],I 0,I 0,I 0,.s [],N,N,N,d144,d8,I 0,N,I 0,.s [],I 0,I 0,I 0,.s [],N,N,N,d153,d8,I 0,N,I 0,.s [],I 0,I 0,I 0,.s [],N,N,N]
def d405 : DV := .sl 4 13 [.s [116],d8,I 0,N,I 0,.s [],I 0,I 0,I 0,.s [],N,d124,d381,d135,d8,I 0,N,I 0,.s [],I 0,I 0,I 0,.s [],N,N,N,d144,d8,I 0,N,I 0,.s [],I 0,I 0,I 0,.s [],N,N,N,d153,d8,I 0,N,I 0,.s [],I 0,I 0,I 0,.s [],N,N,N]
def d406 : DV := .sl 4 13 [.s [116],d8,I 0,N,I 0,.s [],I 0,I 0,I 0,.s [],N,d126,d381,d135,d8,I 0,N,I 0,.s [],I 0,I 0,I 0,.s [],N,N,N,d144,d8,I 0,N,I 0,.s [],I 0,I 0,I 0,.s [],N,N,N,d153,d8,I 0,N,I 0,.s [],I 0,I 0,I 0,.s [],N,N,N]
def d407 : DV := .sl 4 13 [.s [116],d8,I 0,N,I 0,.s [],I 0,I 0,I 0,.s [],N,d128,d381,d135,d8,I 0,N,I 0,.s [],I 0,I 0,I 0,.s [],N,N,N,d144,d8,I 0,N,I 0,.s [],I 0,I 0,I 0,.s [],N,N,N,d153,d8,I 0,N,I 0,.s [],I 0,I 0,I 0,.s [],N,N,N]
def d408 : DV := .sl 4 13 [.s [116],d8,I 0,N,I 0,.s [],I 0,I 0,I 0,.s [],N,d130,d381,d135,d8,I 0,N,I 0,.s [],I 0,I 0,I 0,.s [],N,N,N,d144,d8,I 0,N,I 0,.s [],I 0,I 0,I 0,.s [],N,N,N,d153,d8,I 0,N,I 0,.s [],I 0,I 0,I 0,.s [],N,N,N]
def d409 : DV := .sl 4 13 [.s [116],d8,I 0,N,I 0,.s [],I 0,I 0,I 0,.s [],N,d132,d381,d135,d8,I 0,N,I 0,.s [],I 0,I 0,I 0,.s [],N,N,N,d144,d8,I 0,N,I 0,.s [],I 0,I 0,I 0,.s [],N,N,N,d153,d8,I 0,N,I 0,.s [],I 0,I 0,I 0,.s [],N,N,N]
def d410 : DV := .sl 5 13 [.s [116],d8,I 0,N,I 0,.s [],I 0,I 0,I 0,.s [],N,N,d381,d135,d8,I 0,N,I 0,.s [],I 0,I 0,I 0,.s [],N,N,N,d144,d8,I 0,N,I 0,.s [],I 0,I 0,I 0,.s [],N,N,N,d153,d8,I 0,N,I 0,.s [],I 0,I 0,I 0,.s [],N,N,N,d162,d8,I 0,N,I 0,.s [],I 0,I 0,I 0,.s [],N,N,N]
def d411 : DV := .sl 5 13 [.s [116],d8,I 0,N,I 0,.s [],I 0,I 0,I 0,.s [],N,d122,d381,d135,d8,I 0,N,I 0,.s [],I 0,I 0,I 0,.s [],N,N,N,d144,d8,I 0,N,I 0,.s [],I 0,I 0,I 0,.s [],N,N,N,d153,d8,I 0,N,I 0,.s [],I 0,I 0,I 0,.s [],N,N,N,d162,d8,I 0,N,I 0,.s [],I 0,I 0,I 0,.s [],N,N,N]
def d412 : DV := .sl 5 13 [.s [116],d8,I 0,N,I 0,.s [],I 0,I 0,I 0,.s [],N,d124,d381,d135,d8,I 0,N,I 0,.s [],I 0,I 0,I 0,.s [],N,N,N,d144,d8,I 0,N,I 0,.s [],I 0,I 0,I 0,.s [],N,N,N,d153,d8,I 0,N,I 0,.s [],I 0,I 0,I 0,.s [],N,N,N,d162,d8,I 0,N,I 0,.s [],I 0,I 0,I 0,.s [],N,N,N]
def d413 : DV := .sl 5 13 [.s [116],d8,I 0,N,I 0,.s [],I 0,I 0,I 0,.s [],N,d126,d381,d135,d8,I 0,N,I 0,.s [],I 0,I 0,I 0,.s [],N,N,N,d144,d8,I 0,N,I 0,.s [],I 0,I 0,I 0,.s [],N,N,N,d153,d8,I 0,N,I 0,.s [],I 0,I 0,I 0,.s [],N,N,N,d162,d8,I 0,N,I 0,.s [],I 0,I 0,I 0,.s [],N,N,N]
def d414 : DV := .sl 5 13 [.s [116],d8,I 0,N,I 0,.s [],I 0,I 0,I 0,.s [],N,d128,d381,d135,d8,I 0,N,I 0,.s [],I 0,I 0,I 0,.s [],N,N,N,d144,d8,I 0,N,I 0,.s [],I 0,I 0,I 0,.s [],N,N,N,d153,d8,I 0,N,I 0,.s [],I 0,I 0,I 0,.s [],N,N,N,d162,d8,I 0,N,I 0,.s [],I 0,I 0,I 0,.s [],N,N,N]
def d415 : DV := .sl 5 13 [.s [116],d8,I 0,N,I 0,.s [],I 0,I 0,I 0,.s [],N,d130,d381,d135,d8,I 0,N,I 0,.s [],I 0,I 0,I 0,.s [],N,N,N,d144,d8,I 0,N,I 0,.s [],I 0,I 0,I 0,.s [],N,N,N,d153,d8,I 0,N,I 0,.s [],I 0,I 0,I 0,.s [],N,N,N,d162,d8,I 0,N,I 0,.s [],I 0,I 0,I 0,.s [],N,N,N]
def d416 : DV := .sl 5 13 [.s [116],d8,I 0,N,I 0,.s [],I 0,I 0,I 0,.s [],N,d132,d381,d135,d8,I 0,N,I 0,.s [],I 0,I 0,I 0,.s [],N,N,N,d144,d8,I 0,N,I 0,.s [],I 0,I 0,I 0,.s [],N,N,N,d153,d8,I 0,N,I 0,.s [],I 0,I 0,I 0,.s [],N,N,N,d162,d8,I 0,N,I 0,.s [],I 0,I 0,I 0,.s [],N,N,N]
def d417 : DV := .sl 6 13 [.s [116],d8,I 0,N,I 0,.s [],I 0,I 0,I 0,.s [],N,N,d381,d135,d8,I 0,N,I 0,.s [],I 0,I 0,I 0,.s [],N,N,N,d144,d8,I 0,N,I 0,.s [],I 0,I 0,I 0,.s [],N,N,N,d153,d8,I 0,N,I 0,.s [],I 0,I 0,I 0,.s [],N,N,N,d162,d8,I 0,N,I 0,.s [],I 0,I 0,I 0,.s [],N,N,N,d171,d8,I 0,N,I 0,.s [],I 0,I 0,I 0,.s [],N,N,N]
def d418 : DV := .sl 6 13 [.s [116],d8,I 0,N,I 0,.s [],I 0,I 0,I 0,.s [],N,d122,d381,d135,d8,I 0,N,I 0,.s [],I 0,I 0,I 0,.s [],N,N,N,d144,d8,I 0,N,I 0,.s [],I 0,I 0,I 0,.s [],N,N,N,d153,d8,I 0,N,I 0,.s [],I 0,I 0,I 0,.s [],N,N,N,d162,d8,I 0,N,I 0,.s [],I 0,I 0,I 0,.s [],N,N,N,d171,d8,I 0,N,I 0,.s [],I 0,I 0,I 0,.s [],N,N,N]
def d419 : DV := .sl 6 13 [.s [116],d8,I 0,N,I 0,.s [],I 0,I 0,I 0,.s [],N,d124,d381,d135,d8,I 0,N,I 0,.s [],I 0,I 0,I 0,.s [],N,N,N,d144,d8,I 0,N,I 0,.s [],I 0,I 0,I 0,.s [],N,N,N,d153,d8,I 0,N,I 0,.s [],I 0,I 0,I 0,.s [],N,N,N,d162,d8,I 0,N,I 0,.s [],I 0,I 0,I 0,.s [],N,N,N,d171,d8,I 0,N,I 0,.s [],I 0,I 0,I 0,.s [],N,N,N]
def d420 : DV := .sl 6 13 [.s [116],d8,I 0,N,I 0,.s [],I 0,I 0,I 0,.s [],N,d126,d381,d135,d8,I 0,N,I 0,.s [],I 0,I 0,I 0,.s [],N,N,N,d144,d8,I 0,N,I 0,.s [],I 0,I 0,I 0,.s [],N,N,N,d153,d8,I 0,N,I 0,.s [],I 0,I 0,I 0,.s [],N,N,N,d162,d8,I 0,N,I 0,.s [],I 0,I 0,I 0,.s [],N,N,N,d171,d8,I 0,N,I 0,.s [],I 0,I 0,I 0,.s [],N,N,N]
def d421 : DV := .sl 6 13 [.s [116],d8,I 0,N,I 0,.s [],I 0,I 0,I 0,.s [],N,d128,d381,d135,d8,I 0,N,I 0,.s [],I 0,I 0,I 0,.s [],N,N,N,d144,d8,I 0,N,I 0,.s [],I 0,I 0,I 0,.s [],N,N,N,d153,d8,I 0,N,I 0,.s [],I 0,I 0,I 0,.s [],N,N,N,d162,d8,I 0,N,I 0,.s [],I 0,I 0,I 0,.s [],N,N,N,d171,d8,I 0,N,I 0,.s [],I 0,I 0,I 0,.s [],N,N,N]
def d422 : DV := .sl 6 13 [.s [116],d8,I 0,N,I 0,.s [],I 0,I 0,I 0,.s [],N,d130,d381,d135,d8,I 0,N,I 0,.s [],I 0,I 0,I 0,.s [],N,N,N,d144,d8,I 0,N,I 0,.s [],I 0,I 0,I 0,.s [],N,N,N,d153,d8,I 0,N,I 0,.s [],I 0,I 0,I 0,.s [],N,N,N,d162,d8,I 0,N,I 0,.s [],I 0,I 0,I 0,.s [],N,N,N,d171,d8,I 0,N,I 0,.s [],I 0,I 0,I 0,.s [],N,N,N]
def d423 : DV := .sl 6 13 [.s [116],d8,I 0,N,I 0,.s [],I 0,I 0,I 0,.s [],N,d132,d381,d135,d8,I 0,N,I 0,.s [],I 0,I 0,I 0,.s [],N,N,N,d144,d8,I 0,N,I 0,.s [],I 0,I 0,I 0,.s [],N,N,N,d153,d8,I 0,N,I 0,.s [],I 0,I 0,I 0,.s [],N,N,N,d162,d8,I 0,N,I 0,.s [],I 0,I 0,I 0,.s [],N,N,N,d171,d8,I 0,N,I 0,.s [],I 0,I 0,I 0,.s [],N,N,N]
def d424 : DV := .sl 7 13 [.s [116],d8,I 0,N,I 0,.s [],I 0,I 0,I 0,.s [],N,N,d381,d135,d8,I 0,N,I 0,.s [],I 0,I 0,I 0,.s [],N,N,N,d144,d8,I 0,N,I 0,.s [],I 0,I 0,I 0,.s [],N,N,N,d153,d8,I 0,N,I 0,.s [],I 0,I 0,I 0,.s [],N,N,N,d162,d8,I 0,N,I 0,.s [],I 0,I 0,I 0,.s [],N,N,N,d171,d8,I 0,N,I 0,.s [],I 0,I 0,I 0,.s [],N,N,N,d180,d8,I 0,N,I 0,.s [],I 0,I 0,I 0,.s [],N,N,N]
def d425 : DV := .sl 7 13 [.s [116],d8,I 0,N,I 0,.s [],I 0,I 0,I 0,.s [],N,d122,d381,d135,d8,I 0,N,I 0,.s [],I 0,I 0,I 0,.s [],N,N,N,d144,d8,I 0,N,I 0,.s [],I 0,I 0,I 0,.s [],N,N,N,d153,d8,I 0,N,I 0,.s [],I 0,I 0,I 0,.s [],N,N,N,d162,d8,I 0,N,I 0,.s [],I 0,I 0,I 0,.s [],N,N,N,d171,d8,I 0,N,I 0,.s [],I 0,I 0,I 0,.s [],N,N,N,d180,d8,I 0,N,I 0,.s [],I 0,I 0,I 0,.s [],N,N,N]
def d426 : DV := .sl 7 13 [.s [116],d8,I 0,N,I 0,.s [],I 0,I 0,I 0,.s [],N,d124,d381,d135,d8,I 0,N,I 0,.s [],I 0,I 0,I 0,.s [],N,N,N,d144,d8,I 0,N,I 0,.s [],I 0,I 0,I 0,.s [],N,N,N,d153,d8,I 0,N,I 0,.s [],I 0,I 0,I 0,.s [],N,N,N,d162,d8,I 0,N,I 0,.s [],I 0,I 0,I 0,.s [],N,N,N,d171,d8,I 0,N,I 0,.s [],I 0,I 0,I 0,.s [],N,N,N,d180,d8,I 0,N,I 0,.s [],I 0,I 0,I 0,.s [],N,N,N]
def d427 : DV := .sl 7 13 [.s [116],d8,I 0,N,I 0,.s [],I 0,I 0,I 0,.s [],N,d126,d381,d135,d8,I 0,N,I 0,.s [],I 0,I 0,I 0,.s [],N,N,N,d144,d8,I 0,N,I 0,.s [],I 0,I 0,I 0,.s [],N,N,N,d153,d8,I 0,N,I 0,.s [],I 0,I 0,I 0,.s [],N,N,N,d162,d8,I 0,N,I 0,.s [],I 0,I 0,I 0,.s [],N,N,N,d171,d8,I 0,N,I 0,.s [],I 0,I 0,I 0,.s [],N,N,N,d180,d8,I 0,N,I 0,.s [],I 0,I 0,I 0,.s [],N,N,N]
def d428 : DV := .sl 7 13 [.s [116],d8,I 0,N,I 0,.s [],I 0,I 0,I 0,.s [],N,d128,d381,d135,d8,I 0,N,I 0,.s [],I 0,I 0,I 0,.s [],N,N,N,d144,d8,I 0,N,I 0,.s [],I 0,I 0,I 0,.s [],N,N,N,d153,d8,I 0,N,I 0,.s [],I 0,I 0,I 0,.s [],N,N,N,d162,d8,I 0,N,I 0,.s [],I 0,I 0,I 0,.s [],N,N,N,d171,d8,I 0,N,I 0,.s [],I 0,I 0,I 0,.s [],N,N,N,d180,d8,I 0,N,I 0,.s [],I 0,I 0,I 0,.s [],N,N,N]
def d429 : DV := .sl 7 13 [.s [116],d8,I 0,N,I 0,.s [],I 0,I 0,I 0,.s [],N,d130,d381,d135,d8,I 0,N,I 0,.s [],I 0,I 0,I 0,.s [],N,N,N,d144,d8,I 0,N,I 0,.s [],I 0,I 0,I 0,.s [],N,N,N,d153,d8,I 0,N,I 0,.s [],I 0,I 0,I 0,.s [],N,N,N,d162,d8,I 0,N,I 0,.s [],I 0,I 0,I 0,.s [],N,N,N,d171,d8,I 0,N,I 0,.s [],I 0,I 0,I 0,.s [],N,N,N,d180,d8,I 0,N,I 0,.s [],I 0,I 0,I 0,.s [],N,N,N]
def d430 : DV := .sl 7 13 [.s [116],d8,I 0,N,I 0,.s [],I 0,I 0,I 0,.s [],N,d132,d381,d135,d8,I 0,N,I 0,.s [],I 0,I 0,I 0,.s [],N,N,N,d144,d8,I 0,N,I 0,.s [],I 0,I 0,I 0,.s [],N,N,N,d153,d8,I 0,N,I 0,.s [],I 0,I 0,I 0,.s [],N,N,N,d162,d8,I 0,N,I 0,.s [],I 0,I 0,I 0,.s [],N,N,N,d171,d8,I 0,N,I 0,.s [],I 0,I 0,I 0,.s [],N,N,N,d180,d8,I 0,N,I 0,.s [],I 0,I 0,I 0,.s [],N,N,N]
def d431 : DV := .sl 8 13 [.s [116],d8,I 0,N,I 0,.s [],I 0,I 0,I 0,.s [],N,N,d381,d135,d8,I 0,N,I 0,.s [],I 0,I 0,I 0,.s [],N,N,N,d144,d8,I 0,N,I 0,.s [],I 0,I 0,I 0,.s [],N,N,N,d153,d8,I 0,N,I 0,.s [],I 0,I 0,I 0,.s [],N,N,N,d162,d8,I 0,N,I 0,.s [],I 0,I 0,I 0,.s [],N,N,N,d171,d8,I 0,N,I 0,.s [],I 0,I 0,I 0,.s [],N,N,N,d180,d8,I 0,N,I 0,.s [],I 0,I 0,I 0,.s [],N,N,N,d189,d8,I 0,N,I 0,.s [],I 0,I 0,I 0,.s [],N,N,N]
def d432 : DV := .tu [d431,d134]
def d433 : DV := .sl 8 13 [.s [116],d8,I 0,N,I 0,.s [],I 0,I 0,I 0,.s [],N,d122,d381,d135,d8,I 0,N,I 0,.s [],I 0,I 0,I 0,.s [],N,N,N,d144,d8,I 0,N,I 0,.s [],I 0,I 0,I 0,.s [],N,N,N,d153,d8,I 0,N,I 0,.s [],I 0,I 0,I 0,.s [],N,N,N,d162,d8,I 0,N,I 0,.s [],I 0,I 0,I 0,.s [],N,N,N,d171,d8,I 0,N,I 0,.s [],I 0,I 0,I 0,.s [],N,N,N,d180,d8,I 0,N,I 0,.s [],I 0,I 0,I 0,.s [],N,N,N,d189,d8,I 0,N,I 0,.s [],I 0,I 0,I 0,.s [],N,N,N]
def d434 : DV := .sl 8 13 [.s [116],d8,I 0,N,I 0,.s [],I 0,I 0,I 0,.s [],N,d124,d381,d135,d8,I 0,N,I 0,.s [],I 0,I 0,I 0,.s [],N,N,N,d144,d8,I 0,N,I 0,.s [],I 0,I 0,I 0,.s [],N,N,N,d153,d8,I 0,N,I 0,.s [],I 0,I 0,I 0,.s [],N,N,N,d162,d8,I 0,N,I 0,.s [],I 0,I 0,I 0,.s [],N,N,N,d171,d8,I 0,N,I 0,.s [],I 0,I 0,I 0,.s [],N,N,N,d180,d8,I 0,N,I 0,.s [],I 0,I 0,I 0,.s [],N,N,N,d189,d8,I 0,N,I 0,.s [],I 0,I 0,I 0,.s [],N,N,N]
def d435 : DV := .sl 8 13 [.s [116],d8,I 0,N,I 0,.s [],I 0,I 0,I 0,.s [],N,d126,d381,d135,d8,I 0,N,I 0,.s [],I 0,I 0,I 0,.s [],N,N,N,d144,d8,I 0,N,I 0,.s [],I 0,I 0,I 0,.s [],N,N,N,d153,d8,I 0,N,I 0,.s [],I 0,I 0,I 0,.s [],N,N,N,d162,d8,I 0,N,I 0,.s [],I 0,I 0,I 0,.s [],N,N,N,d171,d8,I 0,N,I 0,.s [],I 0,I 0,I 0,.s [],N,N,N,d180,d8,I 0,N,I 0,.s [],I 0,I 0,I 0,.s [],N,N,N,d189,d8,I 0,N,I 0,.s [],I 0,I 0,I 0,.s [],N,N,N]
def d436 : DV := .sl 8 13 [.s [116],d8,I 0,N,I 0,.s [],I 0,I 0,I 0,.s [],N,d128,d381,d135,d8,I 0,N,I 0,.s [],I 0,I 0,I 0,.s [],N,N,N,d144,d8,I 0,N,I 0,.s [],I 0,I 0,I 0,.s [],N,N,N,d153,d8,I 0,N,I 0,.s [],I 0,I 0,I 0,.s [],N,N,N,d162,d8,I 0,N,I 0,.s [],I 0,I 0,I 0,.s [],N,N,N,d171,d8,I 0,N,I 0,.s [],I 0,I 0,I 0,.s [],N,N,N,d180,d8,I 0,N,I 0,.s [],I 0,I 0,I 0,.s [],N,N,N,d189,d8,I 0,N,I 0,.s [],I 0,I 0,I 0,.s [],N,N,N]
def d437 : DV := .sl 8 13 [.s [116],d8,I 0,N,I 0,.s [],I 0,I 0,I 0,.s [],N,d130,d381,d135,d8,I 0,N,I 0,.s [],I 0,I 0,I 0,.s [],N,N,N,d144,d8,I 0,N,I 0,.s [],I 0,I 0,I 0,.s [],N,N,N,d153,d8,I 0,N,I 0,.s [],I 0,I 0,I 0,.s [],N,N,N,d162,d8,I 0,N,I 0,.s [],I 0,I 0,I 0,.s [],N,N,N,d171,d8,I 0,N,I 0,.s [],I 0,I 0,I 0,.s [],N,N,N,d180,d8,I 0,N,I 0,.s [],I 0,I 0,I 0,.s [],N,N,N,d189,d8,I 0,N,I 0,.s [],I 0,I 0,I 0,.s [],N,N,N]
def d438 : DV := .sl 8 13 [.s [116],d8,I 0,N,I 0,.s [],I 0,I 0,I 0,.s [],N,d132,d381,d135,d8,I 0,N,I 0,.s [],I 0,I 0,I 0,.s [],N,N,N,d144,d8,I 0,N,I 0,.s [],I 0,I 0,I 0,.s [],N,N,N,d153,d8,I 0,N,I 0,.s [],I 0,I 0,I 0,.s [],N,N,N,d162,d8,I 0,N,I 0,.s [],I 0,I 0,I 0,.s [],N,N,N,d171,d8,I 0,N,I 0,.s [],I 0,I 0,I 0,.s [],N,N,N,d180,d8,I 0,N,I 0,.s [],I 0,I 0,I 0,.s [],N,N,N,d189,d8,I 0,N,I 0,.s [],I 0,I 0,I 0,.s [],N,N,N]
def d439 : DV := .sl 1 4 [I 2,I 59,I 0,.s []]
def d440 : DV := .sl 60 1 [d11,d13,d15,d17,d19,d4,d22,d24,d26,d28,d30,d32,d34,d36,d38,d40,d42,d44,d46,d48,d50,d52,d54,d56,d58,d60,d62,d64,d66,d68,d70,d72,d74,d76,d78,d80,d82,d84,d86,d88,d90,d92,d94,d96,d98,d100,d102,d104,d106,d108,d110,d112,d114,d116,d118,d203,d262,d321,d380,d439]
def d441 : DV := .sl 1 13 [.s [116],d8,I 0,N,I 0,.s [],I 0,I 0,I 0,.s [],N,N,d440]
def d442 : DV := .sl 1 13 [.s [116],d8,I 0,N,I 0,.s [],I 0,I 0,I 0,.s [],N,d122,d440]
def d443 : DV := .sl 1 13 [.s [116],d8,I 0,N,I 0,.s [],I 0,I 0,I 0,.s [],N,d124,d440]
def d444 : DV := .sl 1 13 [.s [116],d8,I 0,N,I 0,.s [],I 0,I 0,I 0,.s [],N,d126,d440]
def d445 : DV := .sl 1 13 [.s [116],d8,I 0,N,I 0,.s [],I 0,I 0,I 0,.s [],N,d128,d440]
def d446 : DV := .sl 1 13 [.s [116],d8,I 0,N,I 0,.s [],I 0,I 0,I 0,.s [],N,d130,d440]
def d447 : DV := .sl 1 13 [.s [116],d8,I 0,N,I 0,.s [],I 0,I 0,I 0,.s [],N,d132,d440]
def d448 : DV := .sl 2 13 [.s [116],d8,I 0,N,I 0,.s [],I 0,I 0,I 0,.s [],N,N,d440,d135,d8,I 0,N,I 0,.s [],I 0,I 0,I 0,.s [],N,N,N]
def d449 : DV := .sl 2 13 [.s [116],d8,I 0,N,I 0,.s [],I 0,I 0,I 0,.s [],N,d122,d440,d135,d8,I 0,N,I 0,.s [],I 0,I 0,I 0,.s [],N,N,N]
def d450 : DV := .sl 2 13 [.s [116],d8,I 0,N,I 0,.s [],I 0,I 0,I 0,.s [],N,d124,d440,d135,d8,I 0,N,I 0,.s [],I 0,I 0,I 0,.s [],N,N,N]
def d451 : DV := .sl 2 13 [.s [116],d8,I 0,N,I 0,.s [],I 0,I 0,I 0,.s [],N,d126,d440,d135,d8,I 0,N,I 0,.s [],I 0,I 0,I 0,.s [],N,N,N]
def d452 : DV := .sl 2 13 [.s [116],d8,I 0,N,I 0,.s [],I 0,I 0,I 0,.s [],N,d128,d440,d135,d8,I 0,N,I 0,.s [],I 0,I 0,I 0,.s [],N,N,N]
def d453 : DV := .sl 2 13 [.s [116],d8,I 0,N,I 0,.s [],I 0,I 0,I 0,.s [],N,d130,d440,d135,d8,I 0,N,I 0,.s [],I 0,I 0,I 0,.s [],N,N,N]
def d454 : DV := .sl 2 13 [.s [116],d8,I 0,N,I 0,.s [],I 0,I 0,I 0,.s [],N,d132,d440,d135,d8,I 0,N,I 0,.s [],I 0,I 0,I 0,.s [],N,N,N]
def d455 : DV := .sl 3 13 [.s [116],d8,I 0,N,I 0,.s [],I 0,I 0,I 0,.s [],N,N,d440,d135,d8,I 0,N,I 0,.s [],I 0,I 0,I 0,.s [],N,N,N,d144,d8,I 0,N,I 0,.s [],I 0,I 0,I 0,.s [],N,N,N]
def d456 : DV := .sl 3 13 [.s [116],d8,I 0,N,I 0,.s [],I 0,I 0,I 0,.s [],N,d122,d440,d135,d8,I 0,N,I 0,.s [],I 0,I 0,I 0,.s [],N,N,N,d144,d8,I 0,N,I 0,.s [],I 0,I 0,I 0,.s [],N,N,N]
def d457 : DV := .sl 3 13 [.s [116],d8,I 0,N,I 0,.s [],I 0,I 0,I 0,.s [],N,d124,d440,d135,d8,I 0,N,I 0,.s [],I 0,I 0,I 0,.s [],N,N,N,d144,d8,I 0,N,I 0,.s [],I 0,I 0,I 0,.s [],N,N,N]
def d458 : DV := .sl 3 13 [.s [116],d8,I 0,N,I 0,.s [],I 0,I 0,I 0,.s [],N,d126,d440,d135,d8,I 0,N,I 0,.s [],I 0,I 0,I 0,.s [],N,N,N,d144,d8,I 0,N,I 0,.s [],I 0,I 0,I 0,.s [],N,N,N]
def d459 : DV := .sl 3 13 [.s [116],d8,I 0,N,I 0,.s [],I 0,I 0,I 0,.s [],N,d128,d440,d135,d8,I 0,N,I 0,.s [],I 0,I 0,I 0,.s [],N,N,N,d144,d8,I 0,N,I 0,.s [],I 0,I 0,I 0,.s [],N,N,N]
def d460 : DV := .sl 3 13 [.s [116],d8,I 0,N,I 0,.s [],I 0,I 0,I 0,.s [],N,d130,d440,d135,d8,I 0,N,I 0,.s [],I 0,I 0,I 0,.s [],N,N,N,d144,d8,I 0,N,I 0,.s [],I 0,I 0,I 0,.s [],N,N,N]
def d461 : DV := .sl 3 13 [.s [116],d8,I 0,N,I 0,.s [],I 0,I 0,I 0,.s [],N,d132,d440,d135,d8,I 0,N,I 0,.s [],I 0,I 0,I 0,.s [],N,N,N,d144,d8,I 0,N,I 0,.s [],I 0,I 0,I 0,.s [],N,N,N]
def d462 : DV := .sl 4 13 [.s [116],d8,I 0,N,I 0,.s [],I 0,I 0,I 0,.s [],N,N,d440,d135,d8,I 0,N,I 0,.s [],I 0,I 0,I 0,.s [],N,N,N,d144,d8,I 0,N,I 0,.s [],I 0,I 0,I 0,.s [],N,N,N,d153,d8,I 0,N,I 0,.s [],I 0,I 0,I 0,.s [],N,N,N]
def d463 : DV := .sl 4 13 [.s [116],d8,I 0,N,I 0,.s [],I 0,I 0,I 0,.s [],N,d122,d440,d135,d8,I 0,N,I 0,.s [],I 0,I 0,I 0,.s [],N,N,N,d144,d8,I 0,N,I 0,.s [],I 0,I 0,I 0,.s [],N,N,N,d153,d8,I 0,N,I 0,.s [],I 0,I 0,I 0,.s [],N,N,N]
def d464 : DV := .sl 4 13 [.s [116],d8,I 0,N,I 0,.s [],I 0,I 0,I 0,.s [],N,d124,d440,d135,d8,I 0,N,I 0,.s [],I 0,I 0,I 0,.s [],N,N,N,d144,d8,I 0,N,I 0,.s [],I 0,I 0,I 0,.s [],N,N,N,d153,d8,I 0,N,I 0,.s [],I 0,I 0,I 0,.s [],N,N,N]
def d465 : DV := .sl 4 13 [.s [116],d8,I 0,N,I 0,.s [],I 0,I 0,I 0,.s [],N,d126,d440,d135,d8,I 0,N,I 0,.s [],I 0,I 0,I 0,.s [],N,N,N,d144,d8,I 0,N,I 0,.s [],I 0,I 0,I 0,.s [],N,N,N,d153,d8,I 0,N,I 0,.s [],I 0,I 0,I 0,.s [],N,N,N]
def d466 : DV := .sl 4 13 [.s [116],d8,I 0,N,I 0,.s [],I 0,I 0,I 0,.s [],N,d128,d440,d135,d8,I 0,N,I 0,.s [],I 0,I 0,I 0,.s [],N,N,N,d144,d8,I 0,N,I 0,.s [],I 0,I 0,I 0,.s [],N,N,N,d153,d8,I 0,N,I 0,.s [],I 0,I 0,I 0,.s [],N,N,N]
def d467 : DV := .sl 4 13 [.s [116],d8,I 0,N,I 0,.s [],I 0,I 0,I 0,.s [],N,d130,d440,d135,d8,I 0,N,I 0,.s [],I 0,I 0,I 0,.s [],N,N,N,d144,d8,I 0,N,I 0,.s [],I 0,I 0,I 0,.s [],N,N,N,d153,d8,I 0,N,I 0,.s [],I 0,I 0,I 0,.s [],N,N,N]
def d468 : DV := .sl 4 13 [.s [116],d8,I 0,N,I 0,.s [],I 0,I 0,I 0,.s [],N,d132,d440,d135,d8,I 0,N,I 0,.s [],I 0,I 0,I 0,.s [],N,N,N,d144,d8,I 0,N,I 0,.s [],I 0,I 0,I 0,.s [],N,N,N,d153,d8,I 0,N,I 0,.s [],I 0,I 0,I 0,.s [],N,N,N]
def d469 : DV := .sl 5 13 [.s [116],d8,I 0,N,I 0,.s [],I 0,I 0,I 0,.s [],N,N,d440,d135,d8,I 0,N,I 0,.s [],I 0,I 0,I 0,.s [],N,N,N,d144,d8,I 0,N,I 0,.s [],I 0,I 0,I 0,.s [],N,N,N,d153,d8,I 0,N,I 0,.s [],I 0,I 0,I 0,.s [],N,N,N,d162,d8,I 0,N,I 0,.s [],I 0,I 0,I 0,.s [],N,N,N]
def d470 : DV := .sl 5 13 [.s [116],d8,I 0,N,I 0,.s [],I 0,I 0,I 0,.s [],N,d122,d440,d135,d8,I 0,N,I 0,.s [],I 0,I 0,I 0,.s [],N,N,N,d144,d8,I 0,N,I 0,.s [],I 0,I 0,I 0,.s [],N,N,N,d153,d8,I 0,N,I 0,.s [],I 0,I 0,I 0,.s [],N,N,N,d162,d8,I 0,N,I 0,.s [],I 0,I 0,I 0,.s [],N,N,N]
def d471 : DV := .sl 5 13 [.s [116],d8,I 0,N,I 0,.s [],I 0,I 0,I 0,.s [],N,d124,d440,d135,d8,I 0,N,I 0,.s [],I 0,I 0,I 0,.s [],N,N,N,d144,d8,I 0,N,I 0,.s [],I 0,I 0,I 0,.s [],N,N,N,d153,d8,I 0,N,I 0,.s [],I 0,I 0,I 0,.s [],N,N,N,d162,d8,I 0,N,I 0,.s [],I 0,I 0,I 0,.s [],N,N,N]
def d472 : DV := .sl 5 13 [.s [116],d8,I 0,N,I 0,.s [],I 0,I 0,I 0,.s [],N,d126,d440,d135,d8,I 0,N,I 0,.s [],I 0,I 0,I 0,.s [],N,N,N,d144,d8,I 0,N,I 0,.s [],I 0,I 0,I 0,.s [],N,N,N,d153,d8,I 0,N,I 0,.s [],I 0,I 0,I 0,.s [],N,N,N,d162,d8,I 0,N,I 0,.s [],I 0,I 0,I 0,.s [],N,N,N]
def d473 : DV := .sl 5 13 [.s [116],d8,I 0,N,I 0,.s [],I 0,I 0,I 0,.s [],N,d128,d440,d135,d8,I 0,N,I 0,.s [],I 0,I 0,I 0,.s [],N,N,N,d144,d8,I 0,N,I 0,.s [],I 0,I 0,I 0,.s [],N,N,N,d153,d8,I 0,N,I 0,.s [],I 0,I 0,I 0,.s [],N,N,N,d162,d8,I 0,N,I 0,.s [],I 0,I 0,I 0,.s [],N,N,N]
def d474 : DV := .sl 5 13 [.s [116],d8,I 0,N,I 0,.s [],I 0,I 0,I 0,.s [],N,d130,d440,d135,d8,I 0,N,I 0,.s [],I 0,I 0,I 0,.s [],N,N,N,d144,d8,I 0,N,I 0,.s [],I 0,I 0,I 0,.s [],N,N,N,d153,d8,I 0,N,I 0,.s [],I 0,I 0,I 0,.s [],N,N,N,d162,d8,I 0,N,I 0,.s [],I 0,I 0,I 0,.s [],N,N,N]
def d475 : DV := .sl 5 13 [.s [116],d8,I 0,N,I 0,.s [],I 0,I 0,I 0,.s [],N,d132,d440,d135,d8,I 0,N,I 0,.s [],I 0,I 0,I 0,.s [],N,N,N,d144,d8,I 0,N,I 0,.s [],I 0,I 0,I 0,.s [],N,N,N,d153,d8,I 0,N,I 0,.s [],I 0,I 0,I 0,.s [],N,N,N,d162,d8,I 0,N,I 0,.s [],I 0,I 0,I 0,.s [],N,N,N]
def d476 : DV := .sl 6 13 [.s [116],d8,I 0,N,I 0,.s [],I 0,I 0,I 0,.s [],N,N,d440,d135,d8,I 0,N,I 0,.s [],I 0,I 0,I 0,.s [],N,N,N,d144,d8,I 0,N,I 0,.s [],I 0,I 0,I 0,.s [],N,N,N,d153,d8,I 0,N,I 0,.s [],I 0,I 0,I 0,.s [],N,N,N,d162,d8,I 0,N,I 0,.s [],I 0,I 0,I 0,.s [],N,N,N,d171,d8,I 0,N,I 0,.s [],I 0,I 0,I 0,.s [],N,N,N]
def d477 : DV := .sl 6 13 [.s [116],d8,I 0,N,I 0,.s [],I 0,I 0,I 0,.s [],N,d122,d440,d135,d8,I 0,N,I 0,.s [],I 0,I 0,I 0,.s [],N,N,N,d144,d8,I 0,N,I 0,.s [],I 0,I 0,I 0,.s [],N,N,N,d153,d8,I 0,N,I 0,.s [],I 0,I 0,I 0,.s [],N,N,N,d162,d8,I 0,N,I 0,.s [],I 0,I 0,I 0,.s [],N,N,N,d171,d8,I 0,N,I 0,.s [],I 0,I 0,I 0,.s [],N,N,N]
def d478 : DV := .sl 6 13 [.s [116],d8,I 0,N,I 0,.s [],I 0,I 0,I 0,.s [],N,d124,d440,d135,d8,I 0,N,I 0,.s [],I 0,I 0,I 0,.s [],N,N,N,d144,d8,I 0,N,I 0,.s [],I 0,I 0,I 0,.s [],N,N,N,d153,d8,I 0,N,I 0,.s [],I 0,I 0,I 0,.s [],N,N,N,d162,d8,I 0,N,I 0,.s [],I 0,I 0,I 0,.s [],N,N,N,d171,d8,I 0,N,I 0,.s [],I 0,I 0,I 0,.s [],N,N,N]
def d479 : DV := .sl 6 13 [.s [116],d8,I 0,N,I 0,.s [],I 0,I 0,I 0,.s [],N,d126,d440,d135,d8,I 0,N,I 0,.s [],I 0,I 0,I 0,.s [],N,N,N,d144,d8,I 0,N,I 0,.s [],I 0,I 0,I 0,.s [],N,N,N,d153,d8,I 0,N,I 0,.s [],I 0,I 0,I 0,.s [],N,N,N,d162,d8,I 0,N,I 0,.s [],I 0,I 0,I 0,.s [],N,N,N,d171,d8,I 0,N,I 0,.s [],I 0,I 0,I 0,.s [],N,N,N]
def d480 : DV := .sl 6 13 [.s [116],d8,I 0,N,I 0,.s [],I 0,I 0,I 0,.s [],N,d128,d440,d135,d8,I 0,N,I 0,.s [],I 0,I 0,I 0,.s [],N,N,N,d144,d8,I 0,N,I 0,.s [],I 0,I 0,I 0,.s [],N,N,N,d153,d8,I 0,N,I 0,.s [],I 0,I 0,I 0,.s [],N,N,N,d162,d8,I 0,N,I 0,.s [],I 0,I 0,I 0,.s [],N,N,N,d171,d8,I 0,N,I 0,.s [],I 0,I 0,I 0,.s [],N,N,N]
def d481 : DV := .sl 6 13 [.s [116],d8,I 0,N,I 0,.s [],I 0,I 0,I 0,.s [],N,d130,d440,d135,d8,I 0,N,I 0,.s [],I 0,I 0,I 0,.s [],N,N,N,d144,d8,I 0,N,I 0,.s [],I 0,I 0,I 0,.s [],N,N,N,d153,d8,I 0,N,I 0,.s [],I 0,I 0,I 0,.s [],N,N,N,d162,d8,I 0,N,I 0,.s [],I 0,I 0,I 0,.s [],N,N,N,d171,d8,I 0,N,I 0,.s [],I 0,I 0,I 0,.s [],N,N,N]
def d482 : DV := .sl 6 13 [.s [116],d8,I 0,N,I 0,.s [],I 0,I 0,I 0,.s [],N,d132,d440,d135,d8,I 0,N,I 0,.s [],I 0,I 0,I 0,.s [],N,N,N,d144,d8,I 0,N,I 0,.s [],I 0,I 0,I 0,.s [],N,N,N,d153,d8,I 0,N,I 0,.s [],I 0,I 0,I 0,.s [],N,N,N,d162,d8,I 0,N,I 0,.s [],I 0,I 0,I 0,.s [],N,N,N,d171,d8,I 0,N,I 0,.s [],I 0,I 0,I 0,.s [],N,N,N]
def d483 : DV := .sl 7 13 [.s [116],d8,I 0,N,I 0,.s [],I 0,I 0,I 0,.s [],N,N,d440,d135,d8,I 0,N,I 0,.s [],I 0,I 0,I 0,.s [],N,N,N,d144,d8,I 0,N,I 0,.s [],I 0,I 0,I 0,.s [],N,N,N,d153,d8,I 0,N,I 0,.s [],I 0,I 0,I 0,.s [],N,N,N,d162,d8,I 0,N,I 0,.s [],I 0,I 0,I 0,.s [],N,N,N,d171,d8,I 0,N,I 0,.s [],I 0,I 0,I 0,.s [],N,N,N,d180,d8,I 0,N,I 0,.s [],I 0,I 0,I 0,.s [],N,N,N]
def d484 : DV := .sl 7 13 [.s [116],d8,I 0,N,I 0,.s [],I 0,I 0,I 0,.s [],N,d122,d440,d135,d8,I 0,N,I 0,.s [],I 0,I 0,I 0,.s [],N,N,N,d144,d8,I 0,N,I 0,.s [],I 0,I 0,I 0,.s [],N,N,N,d153,d8,I 0,N,I 0,.s [],I 0,I 0,I 0,.s [],N,N,N,d162,d8,I 0,N,I 0,.s [],I 0,I 0,I 0,.s [],N,N,N,d171,d8,I 0,N,I 0,.s [],I 0,I 0,I 0,.s [],N,N,N,d180,d8,I 0,N,I 0,.s [],I 0,I 0,I 0,.s [],N,N,N]
def d485 : DV := .sl 7 13 [.s [116],d8,I 0,N,I 0,.s [],I 0,I 0,I 0,.s [],N,d124,d440,d135,d8,I 0,N,I 0,.s [],I 0,I 0,I 0,.s [],N,N,N,d144,d8,I 0,N,I 0,.s [],I 0,I 0,I 0,.s [],N,N,N,d153,d8,I 0,N,I 0,.s [],I 0,I 0,I 0,.s [],N,N,N,d162,d8,I 0,N,I 0,.s [],I 0,I 0,I 0,.s [],N,N,N,d171,d8,I 0,N,I 0,.s [],I 0,I 0,I 0,.s [],N,N,N,d180,d8,I 0,N,I 0,.s [],I 0,I 0,I 0,.s [],N,N,N]
def d486 : DV := .sl 7 13 [.s [116],d8,I 0,N,I 0,.s [],I 0,I 0,I 0,.s [],N,d126,d440,d135,d8,I 0,N,I 0,.s [],I 0,I 0,I 0,.s [],N,N,N,d144,d8,I 0,N,I 0,.s [],I 0,I 0,I 0,.s [],N,N,N,d153,d8,I 0,N,I 0,.s [],I 0,I 0,I 0,.s [],N,N,N,d162,d8,I 0,N,I 0,.s [],I 0,I 0,I 0,.s [],N,N,N,d171,d8,I 0,N,I 0,.s [],I 0,I 0,I 0,.s [],N,N,N,d180,d8,I 0,N,I 0,.s [],I 0,I 0,I 0,.s [],N,N,N]
def d487 : DV := .sl 7 13 [.s [116],d8,I 0,N,I 0,.s [],I 0,I 0,I 0,.s [],N,d128,d440,d135,d8,I 0,N,I 0,.s [],I 0,I 0,I 0,.s [],N,N,N,d144,d8,I 0,N,I 0,.s [],I 0,I 0,I 0,.s [],N,N,N,d153,d8,I 0,N,I 0,.s [],I 0,I 0,I 0,.s [],N,N,N,d162,d8,I 0,N,I 0,.s [],I 0,I 0,I 0,.s [],N,N,N,d171,d8,I 0,N,I 0,.s [],I 0,I 0,I 0,.s [],N,N,N,d180,d8,I 0,N,I 0,.s [],I 0,I 0,I 0,.s [],N,N,N]
def d488 : DV := .sl 7 13 [.s [116],d8,I 0,N,I 0,.s [],I 0,I 0,I 0,.s [],N,d130,d440,d135,d8,I 0,N,I 0,.s [],I 0,I 0,I 0,.s [],N,N,N,d144,d8,I 0,N,I 0,.s [],I 0,I 0,I 0,.s [],N,N,N,d153,d8,I 0,N,I 0,.s [],I 0,I 0,I 0,.s [],N,N,N,d162,d8,I 0,N,I 0,.s [],I 0,I 0,I 0,.s [],N,N,N,d171,d8,I 0,N,I 0,.s [],I 0,I 0,I 0,.s [],N,N,N,d180,d8,I 0,N,I 0,.s [],I 0,I 0,I 0,.s [],N,N,N]
def d489 : DV := .sl 7 13 [.s [116],d8,I 0,N,I 0,.s [],I 0,I 0,I 0,.s [],N,d132,d440,d135,d8,I 0,N,I 0,.s [],I 0,I 0,I 0,.s [],N,N,N,d144,d8,I 0,N,I 0,.s [],I 0,I 0,I 0,.s [],N,N,N,d153,d8,I 0,N,I 0,.s [],I 0,I 0,I 0,.s [],N,N,N,d162,d8,I 0,N,I 0,.s [],I 0,I 0,I 0,.s [],N,N,N,d171,d8,I 0,N,I 0,.s [],I 0,I 0,I 0,.s [],N,N,N,d180,d8,I 0,N,I 0,.s [],I 0,I 0,I 0,.s [],N,N,N]
def d490 : DV := .sl 8 13 [.s [116],d8,I 0,N,I 0,.s [],I 0,I 0,I 0,.s [],N,N,d440,d135,d8,I 0,N,I 0,.s [],I 0,I 0,I 0,.s [],N,N,N,d144,d8,I 0,N,I 0,.s [],I 0,I 0,I 0,.s [],N,N,N,d153,d8,I 0,N,I 0,.s [],I 0,I 0,I 0,.s [],N,N,N,d162,d8,I 0,N,I 0,.s [],I 0,I 0,I 0,.s [],N,N,N,d171,d8,I 0,N,I 0,.s [],I 0,I 0,I 0,.s [],N,N,N,d180,d8,I 0,N,I 0,.s [],I 0,I 0,I 0,.s [],N,N,N,d189,d8,I 0,N,I 0,.s [],I 0,I 0,I 0,.s [],N,N,N]
def d491 : DV := .tu [d490,d134]
def d492 : DV := .sl 8 13 [.s [116],d8,I 0,N,I 0,.s [],I 0,I 0,I 0,.s [],N,d122,d440,d135,d8,I 0,N,I 0,.s [],I 0,I 0,I 0,.s [],N,N,N,d144,d8,I 0,N,I 0,.s [],I 0,I 0,I 0,.s [],N,N,N,d153,d8,I 0,N,I 0,.s [],I 0,I 0,I 0,.s [],N,N,N,d162,d8,I 0,N,I 0,.s [],I 0,I 0,I 0,.s [],N,N,N,d171,d8,I 0,N,I 0,.s [],I 0,I 0,I 0,.s [],N,N,N,d180,d8,I 0,N,I 0,.s [],I 0,I 0,I 0,.s [],N,N,N,d189,d8,I 0,N,I 0,.s [],I 0,I 0,I 0,.s [],N,N,N]
def d493 : DV := .sl 8 13 [.s [116],d8,I 0,N,I 0,.s [],I 0,I 0,I 0,.s [],N,d124,d440,d135,d8,I 0,N,I 0,.s [],I 0,I 0,I 0,.s [],N,N,N,d144,d8,I 0,N,I 0,.s [],I 0,I 0,I 0,.s [],N,N,N,d153,d8,I 0,N,I 0,.s [],I 0,I 0,I 0,.s [],N,N,N,d162,d8,I 0,N,I 0,.s [],I 0,I 0,I 0,.s [],N,N,N,d171,d8,I 0,N,I 0,.s [],I 0,I 0,I 0,.s [],N,N,N,d180,d8,I 0,N,I 0,.s [],I 0,I 0,I 0,.s [],N,N,N,d189,d8,I 0,N,I 0,.s [],I 0,I 0,I 0,.s [],N,N,N]
def d494 : DV := .sl 8 13 [.s [116],d8,I 0,N,I 0,.s [],I 0,I 0,I 0,.s [],N,d126,d440,d135,d8,I 0,N,I 0,.s [],I 0,I 0,I 0,.s [],N,N,N,d144,d8,I 0,N,I 0,.s [],I 0,I 0,I 0,.s [],N,N,N,d153,d8,I 0,N,I 0,.s [],I 0,I 0,I 0,.s [],N,N,N,d162,d8,I 0,N,I 0,.s [],I 0,I 0,I 0,.s [],N,N,N,d171,d8,I 0,N,I 0,.s [],I 0,I 0,I 0,.s [],N,N,N,d180,d8,I 0,N,I 0,.s [],I 0,I 0,I 0,.s [],N,N,N,d189,d8,I 0,N,I 0,.s [],I 0,I 0,I 0,.s [],N,N,N]
def d495 : DV := .sl 8 13 [.s [116],d8,I 0,N,I 0,.s [],I 0,I 0,I 0,.s [],N,d128,d440,d135,d8,I 0,N,I 0,.s [],I 0,I 0,I 0,.s [],N,N,N,d144,d8,I 0,N,I 0,.s [],I 0,I 0,I 0,.s [],N,N,N,d153,d8,I 0,N,I 0,.s [],I 0,I 0,I 0,.s [],N,N,N,d162,d8,I 0,N,I 0,.s [],I 0,I 0,I 0,.s [],N,N,N,d171,d8,I 0,N,I 0,.s [],I 0,I 0,I 0,.s [],N,N,N,d180,d8,I 0,N,I 0,.s [],I 0,I 0,I 0,.s [],N,N,N,d189,d8,I 0,N,I 0,.s [],I 0,I 0,I 0,.s [],N,N,N]
def d496 : DV := .sl 8 13 [.s [116],d8,I 0,N,I 0,.s [],I 0,I 0,I 0,.s [],N,d130,d440,d135,d8,I 0,N,I 0,.s [],I 0,I 0,I 0,.s [],N,N,N,d144,d8,I 0,N,I 0,.s [],I 0,I 0,I 0,.s [],N,N,N,d153,d8,I 0,N,I 0,.s [],I 0,I 0,I 0,.s [],N,N,N,d162,d8,I 0,N,I 0,.s [],I 0,I 0,I 0,.s [],N,N,N,d171,d8,I 0,N,I 0,.s [],I 0,I 0,I 0,.s [],N,N,N,d180,d8,I 0,N,I 0,.s [],I 0,I 0,I 0,.s [],N,N,N,d189,d8,I 0,N,I 0,.s [],I 0,I 0,I 0,.s [],N,N,N]
def d497 : DV := .sl 8 13 [.s [116],d8,I 0,N,I 0,.s [],I 0,I 0,I 0,.s [],N,d132,d440,d135,d8,I 0,N,I 0,.s [],I 0,I 0,I 0,.s [],N,N,N,d144,d8,I 0,N,I 0,.s [],I 0,I 0,I 0,.s [],N,N,N,d153,d8,I 0,N,I 0,.s [],I 0,I 0,I 0,.s [],N,N,N,d162,d8,I 0,N,I 0,.s [],I 0,I 0,I 0,.s [],N,N,N,d171,d8,I 0,N,I 0,.s [],I 0,I 0,I 0,.s [],N,N,N,d180,d8,I 0,N,I 0,.s [],I 0,I 0,I 0,.s [],N,N,N,d189,d8,I 0,N,I 0,.s [],I 0,I 0,I 0,.s [],N,N,N]
def d498 : DV := .tu [d441,d134]
def d499 : DV := .s [99,114,101,97,116,101,32,116,97,98,108,101,32,116,32,40,97,32,105,110,116,32,110,111,116,32,110,117,108,108,44,32,112,114,105,109,97,114,121,32,107,101,121,32,40,97,41,41]
def d500 : DV := .tu [d1,I 0,I 0]
def d501 : DV := .s [105,110,115,101,114,116,32,105,110,116,111,32,116,32,118,97,108,117,101,115,32,40,53,41]
def d502 : DV := .s [99,114,101,97,116,101,32,116,97,98,108,101,32,116,32,40,107,32,105,110,116,32,110,111,116,32,110,117,108,108,44,32,112,114,105,109,97,114,121,32,107,101,121,32,40,107,41,41]
def d503 : DV := .tu [d9,I 0,I 0]
def d504 : DV := .s [97,108,116,101,114,32,116,97,98,108,101,32,116,32,97,100,100,32,102,111,114,101,105,103,110,32,107,101,121,32,40,107,41,32,114,101,102,101,114,101,110,99,101,115,32,116]
def d505 : DV := .s [99,114,101,97,116,101,32,116,97,98,108,101,32,116,32,40,107,32,105,110,116,32,110,111,116,32,110,117,108,108,44,32,112,114,105,109,97,114,121,32,107,101,121,32,40,107,41,44,32,102,111,114,101,105,103,110,32,107,101,121,32,40,107,41,32,114,101,102,101,114,101,110,99,101,115,32,116,44,32,102,111,114,101,105,103,110,32,107,101,121,32,40,107,41,32,114,101,102,101,114,101,110,99,101,115,32,116,44,32,102,111,114,101,105,103,110,32,107,101,121,32,40,107,41,32,114,101,102,101,114,101,110,99,101,115,32,116,44,32,102,111,114,101,105,103,110,32,107,101,121,32,40,107,41,32,114,101,102,101,114,101,110,99,101,115,32,116,44,32,102,111,114,101,105,103,110,32,107,101,121,32,40,107,41,32,114,101,102,101,114,101,110,99,101,115,32,116,44,32,102,111,114,101,105,103,110,32,107,101,121,32,40,107,41,32,114,101,102,101,114,101,110,99,101,115,32,116,41]
def d506 : DV := .ag [I 1,.s [116],d8,I 0,N,I 0,.s [],I 0,I 0,I 0,.s [],N,d132,.s [],.s [],.s [],N,I 0,.s [],I 0,I 0,I 0,.s [],N,I 0,.s [],I 0,I 0,I 0,.s [],N]
def d507 : DV := .tu [d506,I 0,I 0]
def d508 : DV := .s [99,114,101,97,116,101,32,116,97,98,108,101,32,117,98,32,40,107,32,105,110,116,32,110,111,116,32,110,117,108,108,44,32,112,114,105,109,97,114,121,32,107,101,121,32,40,107,41,41]
def d509 : DV := .tu [d136,I 0,I 0]
def d510 : DV := .s [99,114,101,97,116,101,32,116,97,98,108,101,32,117,99,32,40,107,32,105,110,116,32,110,111,116,32,110,117,108,108,44,32,112,114,105,109,97,114,121,32,107,101,121,32,40,107,41,41]
def d511 : DV := .tu [d145,I 0,I 0]
def d512 : DV := .s [99,114,101,97,116,101,32,116,97,98,108,101,32,117,100,32,40,107,32,105,110,116,32,110,111,116,32,110,117,108,108,44,32,112,114,105,109,97,114,121,32,107,101,121,32,40,107,41,41]
def d513 : DV := .tu [d154,I 0,I 0]
def d514 : DV := .s [99,114,101,97,116,101,32,116,97,98,108,101,32,117,101,32,40,107,32,105,110,116,32,110,111,116,32,110,117,108,108,44,32,112,114,105,109,97,114,121,32,107,101,121,32,40,107,41,41]
def d515 : DV := .tu [d163,I 0,I 0]
def d516 : DV := .s [99,114,101,97,116,101,32,116,97,98,108,101,32,117,102,32,40,107,32,105,110,116,32,110,111,116,32,110,117,108,108,44,32,112,114,105,109,97,114,121,32,107,101,121,32,40,107,41,41]
def d517 : DV := .tu [d172,I 0,I 0]
def d518 : DV := .s [99,114,101,97,116,101,32,116,97,98,108,101,32,117,103,32,40,107,32,105,110,116,32,110,111,116,32,110,117,108,108,44,32,112,114,105,109,97,114,121,32,107,101,121,32,40,107,41,41]
def d519 : DV := .tu [d181,I 0,I 0]
def d520 : DV := .s [99,114,101,97,116,101,32,116,97,98,108,101,32,117,104,32,40,107,32,105,110,116,32,110,111,116,32,110,117,108,108,44,32,112,114,105,109,97,114,121,32,107,101,121,32,40,107,41,41]
def d521 : DV := .tu [d190,I 0,I 0]
def d522 : DV := .s [99,114,101,97,116,101,32,116,97,98,108,101,32,117,105,32,40,107,32,105,110,116,32,110,111,116,32,110,117,108,108,44,32,112,114,105,109,97,114,121,32,107,101,121,32,40,107,41,41]
def d523 : DV := .s [99,114,101,97,116,101,32,116,97,98,108,101,32,117,106,32,40,107,32,105,110,116,32,110,111,116,32,110,117,108,108,44,32,112,114,105,109,97,114,121,32,107,101,121,32,40,107,41,41]
def d524 : DV := .ag [I 1,.s [116],d8,I 0,N,I 0,.s [],I 0,I 0,I 0,.s [],N,d122,.s [],.s [],.s [],N,I 0,.s [],I 0,I 0,I 0,.s [],N,I 0,.s [],I 0,I 0,I 0,.s [],N]
def d525 : DV := .s [99,114,101,97,116,101,32,116,97,98,108,101,32,116,32,40,107,32,105,110,116,32,110,111,116,32,110,117,108,108,44,32,112,114,105,109,97,114,121,32,107,101,121,32,40,107,41,44,32,102,111,114,101,105,103,110,32,107,101,121,32,40,107,41,32,114,101,102,101,114,101,110,99,101,115,32,116,41]
def d526 : DV := .ag [I 1,.s [116],d8,I 0,N,I 0,.s [],I 0,I 0,I 0,.s [],N,d124,.s [],.s [],.s [],N,I 0,.s [],I 0,I 0,I 0,.s [],N,I 0,.s [],I 0,I 0,I 0,.s [],N]
def d527 : DV := .s [99,114,101,97,116,101,32,116,97,98,108,101,32,116,32,40,107,32,105,110,116,32,110,111,116,32,110,117,108,108,44,32,112,114,105,109,97,114,121,32,107,101,121,32,40,107,41,44,32,102,111,114,101,105,103,110,32,107,101,121,32,40,107,41,32,114,101,102,101,114,101,110,99,101,115,32,116,44,32,102,111,114,101,105,103,110,32,107,101,121,32,40,107,41,32,114,101,102,101,114,101,110,99,101,115,32,116,41]
def d528 : DV := .ag [I 1,.s [116],d8,I 0,N,I 0,.s [],I 0,I 0,I 0,.s [],N,d126,.s [],.s [],.s [],N,I 0,.s [],I 0,I 0,I 0,.s [],N,I 0,.s [],I 0,I 0,I 0,.s [],N]
def d529 : DV := .s [99,114,101,97,116,101,32,116,97,98,108,101,32,116,32,40,107,32,105,110,116,32,110,111,116,32,110,117,108,108,44,32,112,114,105,109,97,114,121,32,107,101,121,32,40,107,41,44,32,102,111,114,101,105,103,110,32,107,101,121,32,40,107,41,32,114,101,102,101,114,101,110,99,101,115,32,116,44,32,102,111,114,101,105,103,110,32,107,101,121,32,40,107,41,32,114,101,102,101,114,101,110,99,101,115,32,116,44,32,102,111,114,101,105,103,110,32,107,101,121,32,40,107,41,32,114,101,102,101,114,101,110,99,101,115,32,116,41]
def d530 : DV := .ag [I 1,.s [116],d8,I 0,N,I 0,.s [],I 0,I 0,I 0,.s [],N,d128,.s [],.s [],.s [],N,I 0,.s [],I 0,I 0,I 0,.s [],N,I 0,.s [],I 0,I 0,I 0,.s [],N]
def d531 : DV := .s [99,114,101,97,116,101,32,116,97,98,108,101,32,116,32,40,107,32,105,110,116,32,110,111,116,32,110,117,108,108,44,32,112,114,105,109,97,114,121,32,107,101,121,32,40,107,41,44,32,102,111,114,101,105,103,110,32,107,101,121,32,40,107,41,32,114,101,102,101,114,101,110,99,101,115,32,116,44,32,102,111,114,101,105,103,110,32,107,101,121,32,40,107,41,32,114,101,102,101,114,101,110,99,101,115,32,116,44,32,102,111,114,101,105,103,110,32,107,101,121,32,40,107,41,32,114,101,102,101,114,101,110,99,101,115,32,116,44,32,102,111,114,101,105,103,110,32,107,101,121,32,40,107,41,32,114,101,102,101,114,101,110,99,101,115,32,116,41]
def d532 : DV := .ag [I 1,.s [116],d8,I 0,N,I 0,.s [],I 0,I 0,I 0,.s [],N,d130,.s [],.s [],.s [],N,I 0,.s [],I 0,I 0,I 0,.s [],N,I 0,.s [],I 0,I 0,I 0,.s [],N]
def d533 : DV := .s [99,114,101,97,116,101,32,116,97,98,108,101,32,116,32,40,107,32,105,110,116,32,110,111,116,32,110,117,108,108,44,32,112,114,105,109,97,114,121,32,107,101,121,32,40,107,41,44,32,102,111,114,101,105,103,110,32,107,101,121,32,40,107,41,32,114,101,102,101,114,101,110,99,101,115,32,116,44,32,102,111,114,101,105,103,110,32,107,101,121,32,40,107,41,32,114,101,102,101,114,101,110,99,101,115,32,116,44,32,102,111,114,101,105,103,110,32,107,101,121,32,40,107,41,32,114,101,102,101,114,101,110,99,101,115,32,116,44,32,102,111,114,101,105,103,110,32,107,101,121,32,40,107,41,32,114,101,102,101,114,101,110,99,101,115,32,116,44,32,102,111,114,101,105,103,110,32,107,101,121,32,40,107,41,32,114,101,102,101,114,101,110,99,101,115,32,116,41]
def d534 : DV := .ag [.s [116],d8,I 0,N,I 0,.s [],I 0,I 0,I 0,.s [],N,d132]
def d535 : DV := .ag [d135,d8,I 0,N,I 0,.s [],I 0,I 0,I 0,.s [],N,N]
def d536 : DV := .ag [d144,d8,I 0,N,I 0,.s [],I 0,I 0,I 0,.s [],N,N]
def d537 : DV := .ag [d153,d8,I 0,N,I 0,.s [],I 0,I 0,I 0,.s [],N,N]
def d538 : DV := .ag [d162,d8,I 0,N,I 0,.s [],I 0,I 0,I 0,.s [],N,N]
def d539 : DV := .ag [d171,d8,I 0,N,I 0,.s [],I 0,I 0,I 0,.s [],N,N]
def d540 : DV := .ag [d180,d8,I 0,N,I 0,.s [],I 0,I 0,I 0,.s [],N,N]
def d541 : DV := .ag [d189,d8,I 0,N,I 0,.s [],I 0,I 0,I 0,.s [],N,N]
def d542 : DV := .sl 2 2 [.s [99,116],d499,.s [114,116,0,2,128,0,0,0,0,0,0,5],.s [1,2,128,0,0,0,0,0,0,5]]
end VDr
end Go.Av


open Go Go.Av Go.Proofs
set_option maxRecDepth 1000000
set_option linter.all false
namespace Go.Av
theorem Drapp {α : Type} {g : α → Bool} {a c : List α} (h : allR g a = true) (k : allR g c = true) : allR g (a ++ c) = true := by
  rw [allR_eq] at h k ⊢; rw [List.all_append, h, k]; rfl
open VDr
def l12_0 : BT := .node (.node (.node (.node (.leaf [⟨[d143,d121], .tu [d143,d134]⟩,
⟨[d371,d121], .tu [d371,d134]⟩,
⟨[d449,d121], .tu [d450,d3]⟩]) (.leaf [⟨[d212,d145], .tu [d219,d3]⟩])) (.leaf [])) (.leaf [⟨[d41,.ag [I 4,.s [],N,I 0,N,I 0,.s [],I 0,I 0,I 0,.s [],N,N,.s [116],.s [],.s [],d42,I 0,.s [],I 0,I 0,I 0,.s [],N,I 0,.s [],I 0,I 0,I 0,.s [],N]], .tu [d43,d7]⟩,
⟨[d73,.ag [I 4,.s [],N,I 0,N,I 0,.s [],I 0,I 0,I 0,.s [],N,N,.s [116],.s [],.s [],d74,I 0,.s [],I 0,I 0,I 0,.s [],N,I 0,.s [],I 0,I 0,I 0,.s [],N]], .tu [d75,d7]⟩,
⟨[d489,d121], .tu [d489,d134]⟩])) (.node (.node (.leaf [⟨[d300,d121], .tu [d301,d3]⟩,
⟨[d389,d145], .tu [d396,d3]⟩,
⟨[d476,d181], .tu [d483,d3]⟩]) (.leaf [⟨[d320,d121], .tu [d320,d134]⟩])) (.leaf [⟨[d51,.ag [I 4,.s [],N,I 0,N,I 0,.s [],I 0,I 0,I 0,.s [],N,N,.s [116],.s [],.s [],d52,I 0,.s [],I 0,I 0,I 0,.s [],N,I 0,.s [],I 0,I 0,I 0,.s [],N]], .tu [d53,d7]⟩]))
def l12_1 : BT := .node (.node (.node (.leaf [⟨[d174,d121], .tu [d175,d3]⟩,
⟨[d277,d121], .tu [d277,d134]⟩,
⟨[d352,d121], .tu [d353,d3]⟩]) (.leaf [⟨[d202,d121], .tu [d202,d134]⟩,
⟨[d492,d121], .tu [d493,d3]⟩])) (.leaf [⟨[d286,d121], .tu [d287,d3]⟩,
⟨[d372,d193], d373⟩,
⟨[d470,d121], .tu [d471,d3]⟩])) (.node (.leaf [⟨[d23,.ag [I 4,.s [],N,I 0,N,I 0,.s [],I 0,I 0,I 0,.s [],N,N,.s [116],.s [],.s [],d24,I 0,.s [],I 0,I 0,I 0,.s [],N,I 0,.s [],I 0,I 0,I 0,.s [],N]], .tu [d25,d7]⟩,
⟨[d382,.ag [I 4,.s [],N,I 0,N,I 0,.s [],I 0,I 0,I 0,.s [],N,N,.s [116],.s [],.s [],d439,I 0,.s [],I 0,I 0,I 0,.s [],N,I 0,.s [],I 0,I 0,I 0,.s [],N]], .tu [d441,d7]⟩]) (.leaf [⟨[d205,d121], .tu [d206,d3]⟩,
⟨[d313,d193], d314⟩]))
def l12_2 : BT := .node (.node (.leaf [⟨[d47,.ag [I 4,.s [],N,I 0,N,I 0,.s [],I 0,I 0,I 0,.s [],N,N,.s [116],.s [],.s [],d48,I 0,.s [],I 0,I 0,I 0,.s [],N,I 0,.s [],I 0,I 0,I 0,.s [],N]], .tu [d49,d7]⟩,
⟨[d186,d121], .tu [d187,d3]⟩,
⟨[d411,d121], .tu [d412,d3]⟩]) (.node (.node (.node (.leaf [⟨[d103,.ag [I 4,.s [],N,I 0,N,I 0,.s [],I 0,I 0,I 0,.s [],N,N,.s [116],.s [],.s [],d104,I 0,.s [],I 0,I 0,I 0,.s [],N,I 0,.s [],I 0,I 0,I 0,.s [],N]], .tu [d105,d7]⟩,
⟨[d156,d121], .tu [d157,d3]⟩]) (.leaf [⟨[d61,.ag [I 4,.s [],N,I 0,N,I 0,.s [],I 0,I 0,I 0,.s [],N,N,.s [116],.s [],.s [],d62,I 0,.s [],I 0,I 0,I 0,.s [],N,I 0,.s [],I 0,I 0,I 0,.s [],N]], .tu [d63,d7]⟩,
⟨[d208,d121], .tu [d209,d3]⟩,
⟨[d448,d145], .tu [d455,d3]⟩])) (.leaf [⟨[d234,d121], .tu [d235,d3]⟩])) (.leaf [⟨[d330,d145], .tu [d337,d3]⟩]))) (.node (.leaf [⟨[d25,.ag [I 4,.s [],N,I 0,N,I 0,.s [],I 0,I 0,I 0,.s [],N,N,.s [116],.s [],.s [],d26,I 0,.s [],I 0,I 0,I 0,.s [],N,I 0,.s [],I 0,I 0,I 0,.s [],N]], .tu [d27,d7]⟩,
⟨[d213,d121], .tu [d214,d3]⟩,
⟨[d441,d121], .tu [d442,d3]⟩]) (.leaf [⟨[d430,d121], .tu [d430,d134]⟩]))
def l12_3 : BT := .node (.node (.node (.node (.leaf [⟨[d157,d121], .tu [d158,d3]⟩,
⟨[d173,d121], .tu [d174,d3]⟩,
⟨[d215,d121], .tu [d216,d3]⟩]) (.leaf [⟨[d292,d172], .tu [d299,d3]⟩])) (.leaf [⟨[d402,d121], .tu [d402,d134]⟩])) (.leaf [⟨[d235,d121], .tu [d236,d3]⟩,
⟨[d437,d121], .tu [d438,d3]⟩,
⟨[d490,d121], .tu [d492,d3]⟩])) (.node (.leaf [⟨[d257,d121], .tu [d258,d3]⟩]) (.node (.leaf [⟨[d105,.ag [I 4,.s [],N,I 0,N,I 0,.s [],I 0,I 0,I 0,.s [],N,N,.s [116],.s [],.s [],d106,I 0,.s [],I 0,I 0,I 0,.s [],N,I 0,.s [],I 0,I 0,I 0,.s [],N]], .tu [d107,d7]⟩,
⟨[d415,d121], .tu [d416,d3]⟩]) (.leaf [⟨[d372,d121], .tu [d374,d3]⟩,
⟨[d469,d121], .tu [d470,d3]⟩])))
def l12_4 : BT := .node (.node (.leaf []) (.node (.leaf [⟨[d176,d121], .tu [d177,d3]⟩,
⟨[d412,d121], .tu [d413,d3]⟩]) (.leaf [⟨[d282,d121], .tu [d283,d3]⟩,
⟨[d354,d121], .tu [d355,d3]⟩]))) (.node (.leaf [⟨[d2,d5], .tu [d6,d7]⟩,
⟨[d97,.ag [I 4,.s [],N,I 0,N,I 0,.s [],I 0,I 0,I 0,.s [],N,N,.s [116],.s [],.s [],d98,I 0,.s [],I 0,I 0,I 0,.s [],N,I 0,.s [],I 0,I 0,I 0,.s [],N]], .tu [d99,d7]⟩,
⟨[d351,d172], .tu [d358,d3]⟩]) (.leaf [⟨[d39,.ag [I 4,.s [],N,I 0,N,I 0,.s [],I 0,I 0,I 0,.s [],N,N,.s [116],.s [],.s [],d40,I 0,.s [],I 0,I 0,I 0,.s [],N,I 0,.s [],I 0,I 0,I 0,.s [],N]], .tu [d41,d7]⟩,
⟨[d225,d121], .tu [d225,d134]⟩]))
def l12_5 : BT := .node (.leaf [⟨[d14,.ag [I 4,.s [],N,I 0,N,I 0,.s [],I 0,I 0,I 0,.s [],N,N,.s [116],.s [],.s [],d15,I 0,.s [],I 0,I 0,I 0,.s [],N,I 0,.s [],I 0,I 0,I 0,.s [],N]], .tu [d16,d7]⟩,
⟨[d258,d121], .tu [d259,d3]⟩,
⟨[d299,d121], .tu [d300,d3]⟩]) (.node (.leaf [⟨[d175,d121], .tu [d176,d3]⟩,
⟨[d353,d121], .tu [d354,d3]⟩,
⟨[d455,d154], .tu [d462,d3]⟩]) (.node (.leaf [⟨[d285,d163], .tu [d292,d3]⟩]) (.node (.leaf [⟨[d236,d121], .tu [d237,d3]⟩,
⟨[d244,d121], .tu [d245,d3]⟩,
⟨[d333,d121], .tu [d334,d3]⟩]) (.leaf [⟨[d217,d121], .tu [d218,d3]⟩]))))
def l12_6 : BT := .node (.node (.leaf [⟨[d232,d121], .tu [d232,d134]⟩,
⟨[d270,d121], .tu [d270,d134]⟩,
⟨[d330,d121], .tu [d331,d3]⟩]) (.leaf [⟨[d214,d121], .tu [d215,d3]⟩,
⟨[d343,d121], .tu [d343,d134]⟩,
⟨[d396,d154], .tu [d403,d3]⟩])) (.node (.leaf [⟨[N,d1], .tu [d2,d3]⟩]) (.node (.leaf [⟨[d101,.ag [I 4,.s [],N,I 0,N,I 0,.s [],I 0,I 0,I 0,.s [],N,N,.s [116],.s [],.s [],d102,I 0,.s [],I 0,I 0,I 0,.s [],N,I 0,.s [],I 0,I 0,I 0,.s [],N]], .tu [d103,d7]⟩,
⟨[d394,d121], .tu [d395,d3]⟩,
⟨[d421,d121], .tu [d422,d3]⟩]) (.leaf [⟨[d254,d121], .tu [d256,d3]⟩,
⟨[d289,d121], .tu [d290,d3]⟩,
⟨[d448,d121], .tu [d449,d3]⟩])))
def l12_7 : BT := .node (.node (.leaf [⟨[d178,d121], .tu [d179,d3]⟩,
⟨[d356,d121], .tu [d357,d3]⟩,
⟨[d461,d121], .tu [d461,d134]⟩]) (.leaf [⟨[d16,.ag [I 4,.s [],N,I 0,N,I 0,.s [],I 0,I 0,I 0,.s [],N,N,.s [116],.s [],.s [],d17,I 0,.s [],I 0,I 0,I 0,.s [],N,I 0,.s [],I 0,I 0,I 0,.s [],N]], .tu [d18,d7]⟩])) (.node (.leaf [⟨[d302,d121], .tu [d303,d3]⟩]) (.node (.leaf [⟨[d113,.ag [I 4,.s [],N,I 0,N,I 0,.s [],I 0,I 0,I 0,.s [],N,N,.s [116],.s [],.s [],d114,I 0,.s [],I 0,I 0,I 0,.s [],N,I 0,.s [],I 0,I 0,I 0,.s [],N]], .tu [d115,d7]⟩]) (.leaf [⟨[d212,d121], .tu [d213,d3]⟩,
⟨[d378,d121], .tu [d379,d3]⟩,
⟨[d474,d121], .tu [d475,d3]⟩])))
def l12_8 : BT := .node (.node (.node (.leaf [⟨[d155,d163], .tu [d164,d3]⟩,
⟨[d219,d154], .tu [d226,d3]⟩,
⟨[d451,d121], .tu [d452,d3]⟩]) (.leaf [⟨[d99,.ag [I 4,.s [],N,I 0,N,I 0,.s [],I 0,I 0,I 0,.s [],N,N,.s [116],.s [],.s [],d100,I 0,.s [],I 0,I 0,I 0,.s [],N,I 0,.s [],I 0,I 0,I 0,.s [],N]], .tu [d101,d7]⟩])) (.leaf [⟨[d287,d121], .tu [d288,d3]⟩,
⟨[d466,d121], .tu [d467,d3]⟩,
⟨[d471,d121], .tu [d472,d3]⟩])) (.leaf [⟨[d83,.ag [I 4,.s [],N,I 0,N,I 0,.s [],I 0,I 0,I 0,.s [],N,N,.s [116],.s [],.s [],d84,I 0,.s [],I 0,I 0,I 0,.s [],N,I 0,.s [],I 0,I 0,I 0,.s [],N]], .tu [d85,d7]⟩,
⟨[d351,d121], .tu [d352,d3]⟩,
⟨[d389,d121], .tu [d390,d3]⟩])
def l12_9 : BT := .node (.leaf [⟨[d49,.ag [I 4,.s [],N,I 0,N,I 0,.s [],I 0,I 0,I 0,.s [],N,N,.s [116],.s [],.s [],d50,I 0,.s [],I 0,I 0,I 0,.s [],N,I 0,.s [],I 0,I 0,I 0,.s [],N]], .tu [d51,d7]⟩,
⟨[d304,d121], .tu [d305,d3]⟩]) (.leaf [⟨[d164,d172], .tu [d173,d3]⟩,
⟨[d413,d121], .tu [d414,d3]⟩])
def l12_10 : BT := .node (.leaf [⟨[d57,.ag [I 4,.s [],N,I 0,N,I 0,.s [],I 0,I 0,I 0,.s [],N,N,.s [116],.s [],.s [],d58,I 0,.s [],I 0,I 0,I 0,.s [],N,I 0,.s [],I 0,I 0,I 0,.s [],N]], .tu [d59,d7]⟩,
⟨[d335,d121], .tu [d336,d3]⟩,
⟨[d362,d121], .tu [d363,d3]⟩]) (.leaf [⟨[d410,d121], .tu [d411,d3]⟩,
⟨[d494,d121], .tu [d495,d3]⟩])
def l12_11 : BT := .node (.leaf [⟨[d93,.ag [I 4,.s [],N,I 0,N,I 0,.s [],I 0,I 0,I 0,.s [],N,N,.s [116],.s [],.s [],d94,I 0,.s [],I 0,I 0,I 0,.s [],N,I 0,.s [],I 0,I 0,I 0,.s [],N]], .tu [d95,d7]⟩,
⟨[d431,d121], .tu [d433,d3]⟩]) (.node (.leaf [⟨[d150,d121], .tu [d151,d3]⟩,
⟨[d301,d121], .tu [d302,d3]⟩]) (.node (.leaf [⟨[d260,d121], .tu [d261,d3]⟩,
⟨[d337,d154], .tu [d344,d3]⟩,
⟨[d453,d121], .tu [d454,d3]⟩]) (.leaf [⟨[d472,d121], .tu [d473,d3]⟩,
⟨[d480,d121], .tu [d481,d3]⟩])))
def l12_12 : BT := .node (.node (.leaf [⟨[d408,d121], .tu [d409,d3]⟩]) (.node (.node (.leaf [⟨[d457,d121], .tu [d458,d3]⟩]) (.leaf [⟨[d283,d121], .tu [d284,d3]⟩,
⟨[d327,d121], .tu [d328,d3]⟩,
⟨[d462,d121], .tu [d463,d3]⟩])) (.leaf []))) (.leaf [])
def l12_13 : BT := .node (.leaf [⟨[d197,d121], .tu [d198,d3]⟩,
⟨[d339,d121], .tu [d340,d3]⟩,
⟨[d344,d121], .tu [d345,d3]⟩]) (.node (.leaf [⟨[d228,d121], .tu [d229,d3]⟩,
⟨[d266,d121], .tu [d267,d3]⟩]) (.leaf [⟨[d272,d121], .tu [d273,d3]⟩,
⟨[d445,d121], .tu [d446,d3]⟩]))
def l12_14 : BT := .node (.leaf [⟨[d483,d190], .tu [d490,d3]⟩]) (.node (.leaf [⟨[d243,d121], .tu [d244,d3]⟩]) (.node (.leaf [⟨[d231,d121], .tu [d232,d3]⟩,
⟨[d269,d121], .tu [d270,d3]⟩,
⟨[d347,d121], .tu [d348,d3]⟩]) (.leaf [⟨[d299,d181], .tu [d306,d3]⟩,
⟨[d365,d190], .tu [d372,d3]⟩])))
def l12_15 : BT := .node (.node (.leaf [⟨[d229,d121], .tu [d230,d3]⟩,
⟨[d267,d121], .tu [d268,d3]⟩,
⟨[d340,d121], .tu [d341,d3]⟩]) (.node (.leaf [⟨[d315,d121], .tu [d316,d3]⟩,
⟨[d476,d121], .tu [d477,d3]⟩,
⟨[d441,.ag [I 4,.s [],N,I 0,N,I 0,.s [],I 0,I 0,I 0,.s [],N,N,.s [116],.s [],.s [],.sl 1 4 [I 2,I 62,I 0,.s []],I 0,.s [],I 0,I 0,I 0,.s [],N,I 0,.s [],I 0,I 0,I 0,.s [],N]], d498⟩]) (.leaf [⟨[d131,d121], .tu [d133,d3]⟩,
⟨[d173,d181], .tu [d182,d3]⟩]))) (.node (.node (.leaf [⟨[d95,.ag [I 4,.s [],N,I 0,N,I 0,.s [],I 0,I 0,I 0,.s [],N,N,.s [116],.s [],.s [],d96,I 0,.s [],I 0,I 0,I 0,.s [],N,I 0,.s [],I 0,I 0,I 0,.s [],N]], .tu [d97,d7]⟩,
⟨[d281,d121], .tu [d282,d3]⟩]) (.leaf [⟨[d20,d5], .tu [d21,d7]⟩,
⟨[d366,d121], .tu [d367,d3]⟩,
⟨[d401,d121], .tu [d402,d3]⟩])) (.leaf [⟨[d63,.ag [I 4,.s [],N,I 0,N,I 0,.s [],I 0,I 0,I 0,.s [],N,N,.s [116],.s [],.s [],d64,I 0,.s [],I 0,I 0,I 0,.s [],N,I 0,.s [],I 0,I 0,I 0,.s [],N]], .tu [d65,d7]⟩]))
def l12_16 : BT := .node (.node (.node (.leaf [⟨[d65,.ag [I 4,.s [],N,I 0,N,I 0,.s [],I 0,I 0,I 0,.s [],N,N,.s [116],.s [],.s [],d66,I 0,.s [],I 0,I 0,I 0,.s [],N,I 0,.s [],I 0,I 0,I 0,.s [],N]], .tu [d67,d7]⟩,
⟨[d467,d121], .tu [d468,d3]⟩]) (.leaf [⟨[d75,.ag [I 4,.s [],N,I 0,N,I 0,.s [],I 0,I 0,I 0,.s [],N,N,.s [116],.s [],.s [],d76,I 0,.s [],I 0,I 0,I 0,.s [],N,I 0,.s [],I 0,I 0,I 0,.s [],N]], .tu [d77,d7]⟩,
⟨[d149,d121], .tu [d150,d3]⟩])) (.leaf [⟨[d120,d121], .tu [d123,d3]⟩,
⟨[d349,d121], .tu [d350,d3]⟩])) (.leaf [⟨[d37,.ag [I 4,.s [],N,I 0,N,I 0,.s [],I 0,I 0,I 0,.s [],N,N,.s [116],.s [],.s [],d38,I 0,.s [],I 0,I 0,I 0,.s [],N,I 0,.s [],I 0,I 0,I 0,.s [],N]], .tu [d39,d7]⟩,
⟨[d127,d121], .tu [d129,d3]⟩,
⟨[d425,d121], .tu [d426,d3]⟩])
def l12_17 : BT := .node (.node (.leaf [⟨[d125,d121], .tu [d127,d3]⟩,
⟨[d209,d121], .tu [d210,d3]⟩,
⟨[d424,d190], .tu [d431,d3]⟩]) (.leaf [⟨[d226,d121], .tu [d227,d3]⟩,
⟨[d264,d121], .tu [d265,d3]⟩])) (.node (.node (.leaf [⟨[d465,d121], .tu [d466,d3]⟩]) (.leaf [⟨[d223,d121], .tu [d224,d3]⟩,
⟨[d386,d121], .tu [d387,d3]⟩,
⟨[d460,d121], .tu [d461,d3]⟩])) (.leaf [⟨[d278,d121], .tu [d279,d3]⟩,
⟨[d398,d121], .tu [d399,d3]⟩,
⟨[d403,d121], .tu [d404,d3]⟩]))
def l12_18 : BT := .node (.leaf [⟨[d198,d121], .tu [d199,d3]⟩,
⟨[d251,d121], .tu [d252,d3]⟩]) (.leaf [⟨[d306,d121], .tu [d307,d3]⟩,
⟨[d426,d121], .tu [d427,d3]⟩])
def l12_19 : BT := .node (.node (.leaf [⟨[d436,d121], .tu [d437,d3]⟩]) (.leaf [⟨[d168,d121], .tu [d169,d3]⟩,
⟨[d187,d121], .tu [d188,d3]⟩,
⟨[d365,d121], .tu [d366,d3]⟩])) (.node (.leaf [⟨[d111,.ag [I 4,.s [],N,I 0,N,I 0,.s [],I 0,I 0,I 0,.s [],N,N,.s [116],.s [],.s [],d112,I 0,.s [],I 0,I 0,I 0,.s [],N,I 0,.s [],I 0,I 0,I 0,.s [],N]], .tu [d113,d7]⟩,
⟨[d338,d121], .tu [d339,d3]⟩]) (.node (.leaf [⟨[d227,d121], .tu [d228,d3]⟩,
⟨[d265,d121], .tu [d266,d3]⟩,
⟨[d275,d121], .tu [d276,d3]⟩]) (.leaf [⟨[d309,d121], .tu [d310,d3]⟩])))
def l12_20 : BT := .node (.node (.leaf [⟨[d220,d121], .tu [d221,d3]⟩,
⟨[d416,d121], .tu [d416,d134]⟩,
⟨[d427,d121], .tu [d428,d3]⟩]) (.leaf [⟨[d123,d121], .tu [d125,d3]⟩,
⟨[d382,d136], .tu [d389,d3]⟩])) (.node (.leaf [⟨[d191,d121], .tu [d197,d3]⟩,
⟨[d296,d121], .tu [d297,d3]⟩]) (.node (.leaf [⟨[d431,d196], d432⟩]) (.leaf [⟨[d139,d121], .tu [d140,d3]⟩,
⟨[d239,d121], .tu [d239,d134]⟩,
⟨[d367,d121], .tu [d368,d3]⟩])))
def l12_21 : BT := .node (.leaf [⟨[d161,d121], .tu [d161,d134]⟩,
⟨[d428,d121], .tu [d429,d3]⟩,
⟨[d463,d121], .tu [d464,d3]⟩]) (.node (.node (.leaf []) (.node (.leaf [⟨[d205,d136], .tu [d212,d3]⟩,
⟨[d454,d121], .tu [d454,d134]⟩]) (.leaf [⟨[d311,d121], .tu [d312,d3]⟩,
⟨[d485,d121], .tu [d486,d3]⟩]))) (.leaf []))
def l12_22 : BT := .node (.node (.leaf [⟨[d316,d121], .tu [d317,d3]⟩,
⟨[d495,d121], .tu [d496,d3]⟩]) (.leaf [⟨[d142,d121], .tu [d143,d3]⟩,
⟨[d370,d121], .tu [d371,d3]⟩])) (.node (.node (.leaf [⟨[d35,.ag [I 4,.s [],N,I 0,N,I 0,.s [],I 0,I 0,I 0,.s [],N,N,.s [116],.s [],.s [],d36,I 0,.s [],I 0,I 0,I 0,.s [],N,I 0,.s [],I 0,I 0,I 0,.s [],N]], .tu [d37,d7]⟩,
⟨[d305,d121], .tu [d305,d134]⟩,
⟨[d377,d121], .tu [d378,d3]⟩]) (.leaf [⟨[d441,.ag [I 4,.s [],N,I 0,N,I 0,.s [],I 0,I 0,I 0,.s [],N,N,.s [116],.s [],.s [],.sl 1 4 [I 2,I 61,I 0,.s []],I 0,.s [],I 0,I 0,I 0,.s [],N,I 0,.s [],I 0,I 0,I 0,.s [],N]], d498⟩])) (.leaf [⟨[d254,d196], d255⟩]))
def l12_23 : BT := .node (.node (.node (.node (.leaf [⟨[d291,d121], .tu [d291,d134]⟩,
⟨[d397,d121], .tu [d398,d3]⟩]) (.leaf [⟨[d323,d136], .tu [d330,d3]⟩,
⟨[d423,d121], .tu [d423,d134]⟩,
⟨[d475,d121], .tu [d475,d134]⟩])) (.node (.leaf [⟨[d182,d121], .tu [d183,d3]⟩,
⟨[d452,d121], .tu [d453,d3]⟩]) (.leaf [⟨[d87,.ag [I 4,.s [],N,I 0,N,I 0,.s [],I 0,I 0,I 0,.s [],N,N,.s [116],.s [],.s [],d88,I 0,.s [],I 0,I 0,I 0,.s [],N,I 0,.s [],I 0,I 0,I 0,.s [],N]], .tu [d89,d7]⟩,
⟨[d273,d121], .tu [d274,d3]⟩]))) (.leaf [⟨[d59,.ag [I 4,.s [],N,I 0,N,I 0,.s [],I 0,I 0,I 0,.s [],N,N,.s [116],.s [],.s [],d60,I 0,.s [],I 0,I 0,I 0,.s [],N,I 0,.s [],I 0,I 0,I 0,.s [],N]], .tu [d61,d7]⟩,
⟨[d441,d136], .tu [d448,d3]⟩])) (.node (.leaf [⟨[d201,d121], .tu [d202,d3]⟩,
⟨[d372,d196], d373⟩,
⟨[d456,d121], .tu [d457,d3]⟩]) (.leaf [⟨[d317,d121], .tu [d318,d3]⟩,
⟨[d490,d196], d491⟩]))
def l12_24 : BT := .node (.node (.leaf [⟨[d382,d121], .tu [d383,d3]⟩]) (.node (.leaf [⟨[d6,d5], .tu [d6,.ag [I 8,N,I 0]]⟩,
⟨[d210,d121], .tu [d211,d3]⟩,
⟨[d326,d121], .tu [d327,d3]⟩]) (.leaf [⟨[d188,d121], .tu [d188,d134]⟩,
⟨[d240,d181], .tu [d247,d3]⟩,
⟨[d484,d121], .tu [d485,d3]⟩]))) (.leaf [⟨[N,d9], .tu [d10,d3]⟩,
⟨[d374,d121], .tu [d375,d3]⟩,
⟨[d444,d121], .tu [d445,d3]⟩])
def l12_25 : BT := .node (.leaf [⟨[d224,d121], .tu [d225,d3]⟩,
⟨[d293,d121], .tu [d294,d3]⟩,
⟨[d396,d121], .tu [d397,d3]⟩]) (.leaf [⟨[d85,.ag [I 4,.s [],N,I 0,N,I 0,.s [],I 0,I 0,I 0,.s [],N,N,.s [116],.s [],.s [],d86,I 0,.s [],I 0,I 0,I 0,.s [],N,I 0,.s [],I 0,I 0,I 0,.s [],N]], .tu [d87,d7]⟩,
⟨[d458,d121], .tu [d459,d3]⟩])
def l12_26 : BT := .node (.node (.leaf [⟨[d18,.ag [I 4,.s [],N,I 0,N,I 0,.s [],I 0,I 0,I 0,.s [],N,N,.s [116],.s [],.s [],d19,I 0,.s [],I 0,I 0,I 0,.s [],N,I 0,.s [],I 0,I 0,I 0,.s [],N]], .tu [d20,d7]⟩,
⟨[d312,d121], .tu [d312,d134]⟩]) (.node (.node (.leaf [⟨[d137,d145], .tu [d146,d3]⟩,
⟨[d328,d121], .tu [d329,d3]⟩]) (.leaf [⟨[d79,.ag [I 4,.s [],N,I 0,N,I 0,.s [],I 0,I 0,I 0,.s [],N,N,.s [116],.s [],.s [],d80,I 0,.s [],I 0,I 0,I 0,.s [],N,I 0,.s [],I 0,I 0,I 0,.s [],N]], .tu [d81,d7]⟩,
⟨[d91,.ag [I 4,.s [],N,I 0,N,I 0,.s [],I 0,I 0,I 0,.s [],N,N,.s [116],.s [],.s [],d92,I 0,.s [],I 0,I 0,I 0,.s [],N,I 0,.s [],I 0,I 0,I 0,.s [],N]], .tu [d93,d7]⟩,
⟨[d358,d181], .tu [d365,d3]⟩])) (.leaf [⟨[d191,d193], d194⟩]))) (.node (.leaf [⟨[d325,d121], .tu [d326,d3]⟩,
⟨[d331,d121], .tu [d332,d3]⟩]) (.leaf [⟨[d256,d121], .tu [d257,d3]⟩,
⟨[d342,d121], .tu [d343,d3]⟩,
⟨[d443,d121], .tu [d444,d3]⟩]))
def l12_27 : BT := .node (.node (.leaf [⟨[d387,d121], .tu [d388,d3]⟩,
⟨[d417,d181], .tu [d424,d3]⟩]) (.leaf [⟨[d29,.ag [I 4,.s [],N,I 0,N,I 0,.s [],I 0,I 0,I 0,.s [],N,N,.s [116],.s [],.s [],d30,I 0,.s [],I 0,I 0,I 0,.s [],N,I 0,.s [],I 0,I 0,I 0,.s [],N]], .tu [d31,d7]⟩,
⟨[d247,d190], .tu [d254,d3]⟩])) (.leaf [⟨[d67,.ag [I 4,.s [],N,I 0,N,I 0,.s [],I 0,I 0,I 0,.s [],N,N,.s [116],.s [],.s [],d68,I 0,.s [],I 0,I 0,I 0,.s [],N,I 0,.s [],I 0,I 0,I 0,.s [],N]], .tu [d69,d7]⟩,
⟨[d207,d121], .tu [d208,d3]⟩,
⟨[d323,d121], .tu [d324,d3]⟩])
def l12_28 : BT := .node (.leaf [⟨[d138,d121], .tu [d139,d3]⟩,
⟨[d446,d121], .tu [d447,d3]⟩,
⟨[d455,d121], .tu [d456,d3]⟩]) (.node (.leaf [⟨[d337,d121], .tu [d338,d3]⟩]) (.leaf [⟨[d221,d121], .tu [d222,d3]⟩,
⟨[d384,d121], .tu [d385,d3]⟩,
⟨[d390,d121], .tu [d391,d3]⟩]))
def l12_29 : BT := .node (.leaf [⟨[d219,d121], .tu [d220,d3]⟩,
⟨[d248,d121], .tu [d249,d3]⟩,
⟨[d399,d121], .tu [d400,d3]⟩]) (.node (.leaf [⟨[d222,d121], .tu [d223,d3]⟩,
⟨[d385,d121], .tu [d386,d3]⟩]) (.node (.leaf [⟨[d433,d121], .tu [d434,d3]⟩]) (.leaf [⟨[d33,.ag [I 4,.s [],N,I 0,N,I 0,.s [],I 0,I 0,I 0,.s [],N,N,.s [116],.s [],.s [],d34,I 0,.s [],I 0,I 0,I 0,.s [],N,I 0,.s [],I 0,I 0,I 0,.s [],N]], .tu [d35,d7]⟩,
⟨[d165,d121], .tu [d166,d3]⟩,
⟨[d271,d145], .tu [d278,d3]⟩])))
def l12_30 : BT := .node (.node (.leaf [⟨[d323,.ag [I 4,.s [],N,I 0,N,I 0,.s [],I 0,I 0,I 0,.s [],N,N,.s [116],.s [],.s [],d380,I 0,.s [],I 0,I 0,I 0,.s [],N,I 0,.s [],I 0,I 0,I 0,.s [],N]], .tu [d382,d7]⟩]) (.leaf [⟨[d206,d121], .tu [d207,d3]⟩,
⟨[d216,d121], .tu [d217,d3]⟩,
⟨[d250,d121], .tu [d251,d3]⟩])) (.leaf [⟨[d271,d121], .tu [d272,d3]⟩,
⟨[d391,d121], .tu [d392,d3]⟩,
⟨[d409,d121], .tu [d409,d134]⟩])
def l12_31 : BT := .node (.node (.node (.leaf [⟨[d107,.ag [I 4,.s [],N,I 0,N,I 0,.s [],I 0,I 0,I 0,.s [],N,N,.s [116],.s [],.s [],d108,I 0,.s [],I 0,I 0,I 0,.s [],N,I 0,.s [],I 0,I 0,I 0,.s [],N]], .tu [d109,d7]⟩,
⟨[d355,d121], .tu [d356,d3]⟩]) (.leaf [⟨[d167,d121], .tu [d168,d3]⟩,
⟨[d177,d121], .tu [d178,d3]⟩])) (.leaf [⟨[d435,d121], .tu [d436,d3]⟩])) (.node (.leaf [⟨[d274,d121], .tu [d275,d3]⟩]) (.node (.leaf [⟨[d89,.ag [I 4,.s [],N,I 0,N,I 0,.s [],I 0,I 0,I 0,.s [],N,N,.s [116],.s [],.s [],d90,I 0,.s [],I 0,I 0,I 0,.s [],N,I 0,.s [],I 0,I 0,I 0,.s [],N]], .tu [d91,d7]⟩,
⟨[d473,d121], .tu [d474,d3]⟩]) (.leaf [⟨[d199,d121], .tu [d200,d3]⟩,
⟨[d294,d121], .tu [d295,d3]⟩])))
def l12_32 : BT := .node (.node (.leaf [⟨[d45,.ag [I 4,.s [],N,I 0,N,I 0,.s [],I 0,I 0,I 0,.s [],N,N,.s [116],.s [],.s [],d46,I 0,.s [],I 0,I 0,I 0,.s [],N,I 0,.s [],I 0,I 0,I 0,.s [],N]], .tu [d47,d7]⟩,
⟨[d496,d121], .tu [d497,d3]⟩]) (.node (.leaf [⟨[d259,d121], .tu [d260,d3]⟩,
⟨[d442,d121], .tu [d443,d3]⟩]) (.leaf [⟨[d133,d121], .tu [d133,d134]⟩,
⟨[d392,d121], .tu [d393,d3]⟩]))) (.leaf [⟨[d292,d121], .tu [d293,d3]⟩])
def l12_33 : BT := .node (.node (.node (.leaf [⟨[d237,d121], .tu [d238,d3]⟩,
⟨[d324,d121], .tu [d325,d3]⟩,
⟨[d334,d121], .tu [d335,d3]⟩]) (.leaf [⟨[d313,d121], .tu [d315,d3]⟩])) (.node (.leaf [⟨[d252,d121], .tu [d253,d3]⟩,
⟨[d434,d121], .tu [d435,d3]⟩]) (.leaf [⟨[d140,d121], .tu [d141,d3]⟩,
⟨[d368,d121], .tu [d369,d3]⟩]))) (.leaf [⟨[d159,d121], .tu [d160,d3]⟩,
⟨[d166,d121], .tu [d167,d3]⟩])
def l12_34 : BT := .node (.node (.node (.leaf [⟨[d295,d121], .tu [d296,d3]⟩,
⟨[d482,d121], .tu [d482,d134]⟩]) (.leaf [⟨[d152,d121], .tu [d152,d134]⟩,
⟨[d249,d121], .tu [d250,d3]⟩])) (.leaf [])) (.leaf [⟨[d169,d121], .tu [d170,d3]⟩,
⟨[d429,d121], .tu [d430,d3]⟩,
⟨[d483,d121], .tu [d484,d3]⟩])
def l12_35 : BT := .node (.node (.node (.leaf [⟨[d246,d121], .tu [d246,d134]⟩,
⟨[d383,d121], .tu [d384,d3]⟩,
⟨[d393,d121], .tu [d394,d3]⟩]) (.leaf [⟨[d332,d121], .tu [d333,d3]⟩])) (.leaf [⟨[d278,d154], .tu [d285,d3]⟩,
⟨[d350,d121], .tu [d350,d134]⟩])) (.node (.leaf [⟨[d12,.ag [I 4,.s [],N,I 0,N,I 0,.s [],I 0,I 0,I 0,.s [],N,N,.s [116],.s [],.s [],d13,I 0,.s [],I 0,I 0,I 0,.s [],N,I 0,.s [],I 0,I 0,I 0,.s [],N]], .tu [d14,d7]⟩,
⟨[d247,d121], .tu [d248,d3]⟩,
⟨[d468,d121], .tu [d468,d134]⟩]) (.node (.leaf []) (.node (.leaf [⟨[d276,d121], .tu [d277,d3]⟩,
⟨[d450,d121], .tu [d451,d3]⟩]) (.leaf [⟨[N,.ag [I 2,.s [],N,I 0,N,I 0,.s [],I 0,I 0,I 0,.s [],N,N,.s [116],.s [],.s [],N,I 0,.s [],I 0,I 0,I 0,.s [],N,I 0,.s [],I 0,I 0,I 0,.s [],N]], .tu [N,.ag [I 2,N,I 0]]⟩,
⟨[d303,d121], .tu [d304,d3]⟩]))))
def l12_36 : BT := .node (.leaf [⟨[d486,d121], .tu [d487,d3]⟩,
⟨[d441,.ag [I 4,.s [],N,I 0,N,I 0,.s [],I 0,I 0,I 0,.s [],N,N,.s [116],.s [],.s [],.sl 1 4 [I 2,I 63,I 0,.s []],I 0,.s [],I 0,I 0,I 0,.s [],N,I 0,.s [],I 0,I 0,I 0,.s [],N]], d498⟩]) (.leaf [⟨[d164,d121], .tu [d165,d3]⟩,
⟨[d376,d121], .tu [d377,d3]⟩,
⟨[d424,d121], .tu [d425,d3]⟩])
def l12_37 : BT := .node (.node (.leaf [⟨[d137,d121], .tu [d138,d3]⟩]) (.leaf [⟨[d21,.ag [I 4,.s [],N,I 0,N,I 0,.s [],I 0,I 0,I 0,.s [],N,N,.s [116],.s [],.s [],d22,I 0,.s [],I 0,I 0,I 0,.s [],N,I 0,.s [],I 0,I 0,I 0,.s [],N]], .tu [d23,d7]⟩,
⟨[d297,d121], .tu [d298,d3]⟩,
⟨[d375,d121], .tu [d376,d3]⟩])) (.node (.node (.leaf [⟨[d69,.ag [I 4,.s [],N,I 0,N,I 0,.s [],I 0,I 0,I 0,.s [],N,N,.s [116],.s [],.s [],d70,I 0,.s [],I 0,I 0,I 0,.s [],N,I 0,.s [],I 0,I 0,I 0,.s [],N]], .tu [d71,d7]⟩,
⟨[d319,d121], .tu [d320,d3]⟩,
⟨[d493,d121], .tu [d494,d3]⟩]) (.leaf [⟨[d81,.ag [I 4,.s [],N,I 0,N,I 0,.s [],I 0,I 0,I 0,.s [],N,N,.s [116],.s [],.s [],d82,I 0,.s [],I 0,I 0,I 0,.s [],N,I 0,.s [],I 0,I 0,I 0,.s [],N]], .tu [d83,d7]⟩])) (.node (.leaf [⟨[d120,.ag [I 4,.s [],N,I 0,N,I 0,.s [],I 0,I 0,I 0,.s [],N,N,.s [116],.s [],.s [],d203,I 0,.s [],I 0,I 0,I 0,.s [],N,I 0,.s [],I 0,I 0,I 0,.s [],N]], .tu [d205,d7]⟩]) (.leaf [⟨[d284,d121], .tu [d284,d134]⟩,
⟨[d364,d121], .tu [d364,d134]⟩,
⟨[d414,d121], .tu [d415,d3]⟩])))
def l12_38 : BT := .leaf [⟨[d53,.ag [I 4,.s [],N,I 0,N,I 0,.s [],I 0,I 0,I 0,.s [],N,N,.s [116],.s [],.s [],d54,I 0,.s [],I 0,I 0,I 0,.s [],N,I 0,.s [],I 0,I 0,I 0,.s [],N]], .tu [d55,d7]⟩,
⟨[d146,d154], .tu [d155,d3]⟩,
⟨[d488,d121], .tu [d489,d3]⟩]
def l12_39 : BT := .node (.node (.leaf [⟨[d242,d121], .tu [d243,d3]⟩,
⟨[d462,d163], .tu [d469,d3]⟩]) (.leaf [⟨[d346,d121], .tu [d347,d3]⟩,
⟨[d358,d121], .tu [d359,d3]⟩])) (.node (.leaf [⟨[d307,d121], .tu [d308,d3]⟩,
⟨[d344,d163], .tu [d351,d3]⟩,
⟨[d422,d121], .tu [d423,d3]⟩]) (.leaf [⟨[d148,d121], .tu [d149,d3]⟩]))
def l12_40 : BT := .node (.leaf [⟨[d329,d121], .tu [d329,d134]⟩,
⟨[d406,d121], .tu [d407,d3]⟩,
⟨[d419,d121], .tu [d420,d3]⟩]) (.node (.leaf [⟨[d158,d121], .tu [d159,d3]⟩,
⟨[d348,d121], .tu [d349,d3]⟩]) (.leaf [⟨[d151,d121], .tu [d152,d3]⟩,
⟨[d481,d121], .tu [d482,d3]⟩]))
def l12_41 : BT := .node (.node (.leaf [⟨[d341,d121], .tu [d342,d3]⟩,
⟨[d441,.ag [I 4,.s [],N,I 0,N,I 0,.s [],I 0,I 0,I 0,.s [],N,N,.s [116],.s [],.s [],.sl 1 4 [I 2,I 60,I 0,.s []],I 0,.s [],I 0,I 0,I 0,.s [],N,I 0,.s [],I 0,I 0,I 0,.s [],N]], d498⟩]) (.leaf [⟨[d230,d121], .tu [d231,d3]⟩,
⟨[d268,d121], .tu [d269,d3]⟩])) (.node (.leaf []) (.node (.leaf [⟨[d280,d121], .tu [d281,d3]⟩,
⟨[d285,d121], .tu [d286,d3]⟩]) (.leaf [⟨[d211,d121], .tu [d211,d134]⟩,
⟨[d405,d121], .tu [d406,d3]⟩,
⟨[d459,d121], .tu [d460,d3]⟩])))
def l12_42 : BT := .node (.node (.leaf [⟨[d160,d121], .tu [d161,d3]⟩,
⟨[d469,d172], .tu [d476,d3]⟩]) (.leaf [⟨[d238,d121], .tu [d239,d3]⟩,
⟨[d240,d121], .tu [d241,d3]⟩])) (.leaf [⟨[d288,d121], .tu [d289,d3]⟩,
⟨[d306,d190], .tu [d313,d3]⟩,
⟨[d420,d121], .tu [d421,d3]⟩])
def l12_43 : BT := .node (.node (.leaf [⟨[d233,d172], .tu [d240,d3]⟩,
⟨[d363,d121], .tu [d364,d3]⟩]) (.leaf [⟨[d182,d190], .tu [d191,d3]⟩,
⟨[d400,d121], .tu [d401,d3]⟩])) (.node (.node (.leaf [⟨[d155,d121], .tu [d156,d3]⟩,
⟨[d410,d172], .tu [d417,d3]⟩,
⟨[d478,d121], .tu [d479,d3]⟩]) (.leaf [⟨[d233,d121], .tu [d234,d3]⟩])) (.leaf [⟨[d129,d121], .tu [d131,d3]⟩,
⟨[d360,d121], .tu [d361,d3]⟩]))
def l12_44 : BT := .node (.node (.leaf [⟨[d31,.ag [I 4,.s [],N,I 0,N,I 0,.s [],I 0,I 0,I 0,.s [],N,N,.s [116],.s [],.s [],d32,I 0,.s [],I 0,I 0,I 0,.s [],N,I 0,.s [],I 0,I 0,I 0,.s [],N]], .tu [d33,d7]⟩,
⟨[d407,d121], .tu [d408,d3]⟩]) (.leaf [⟨[d55,.ag [I 4,.s [],N,I 0,N,I 0,.s [],I 0,I 0,I 0,.s [],N,N,.s [116],.s [],.s [],d56,I 0,.s [],I 0,I 0,I 0,.s [],N,I 0,.s [],I 0,I 0,I 0,.s [],N]], .tu [d57,d7]⟩,
⟨[d183,d121], .tu [d184,d3]⟩])) (.node (.leaf [⟨[d388,d121], .tu [d388,d134]⟩]) (.node (.leaf [⟨[d226,d163], .tu [d233,d3]⟩,
⟨[d290,d121], .tu [d291,d3]⟩,
⟨[d464,d121], .tu [d465,d3]⟩]) (.leaf [⟨[d146,d121], .tu [d147,d3]⟩])))
def l12_45 : BT := .node (.node (.leaf [⟨[d264,.ag [I 4,.s [],N,I 0,N,I 0,.s [],I 0,I 0,I 0,.s [],N,N,.s [116],.s [],.s [],d321,I 0,.s [],I 0,I 0,I 0,.s [],N,I 0,.s [],I 0,I 0,I 0,.s [],N]], .tu [d323,d7]⟩,
⟨[d417,d121], .tu [d418,d3]⟩]) (.node (.leaf [⟨[d117,.ag [I 4,.s [],N,I 0,N,I 0,.s [],I 0,I 0,I 0,.s [],N,N,.s [116],.s [],.s [],d118,I 0,.s [],I 0,I 0,I 0,.s [],N,I 0,.s [],I 0,I 0,I 0,.s [],N]], .tu [d120,d7]⟩,
⟨[d245,d121], .tu [d246,d3]⟩,
⟨[d361,d121], .tu [d362,d3]⟩]) (.leaf [⟨[d43,.ag [I 4,.s [],N,I 0,N,I 0,.s [],I 0,I 0,I 0,.s [],N,N,.s [116],.s [],.s [],d44,I 0,.s [],I 0,I 0,I 0,.s [],N,I 0,.s [],I 0,I 0,I 0,.s [],N]], .tu [d45,d7]⟩]))) (.leaf [⟨[d403,d163], .tu [d410,d3]⟩,
⟨[d447,d121], .tu [d447,d134]⟩,
⟨[d479,d121], .tu [d480,d3]⟩])
def l12_46 : BT := .node (.node (.leaf []) (.node (.leaf [⟨[d170,d121], .tu [d170,d134]⟩,
⟨[d418,d121], .tu [d419,d3]⟩]) (.leaf [⟨[d141,d121], .tu [d142,d3]⟩,
⟨[d185,d121], .tu [d186,d3]⟩,
⟨[d369,d121], .tu [d370,d3]⟩]))) (.node (.leaf [⟨[d27,.ag [I 4,.s [],N,I 0,N,I 0,.s [],I 0,I 0,I 0,.s [],N,N,.s [116],.s [],.s [],d28,I 0,.s [],I 0,I 0,I 0,.s [],N,I 0,.s [],I 0,I 0,I 0,.s [],N]], .tu [d29,d7]⟩,
⟨[d253,d121], .tu [d253,d134]⟩]) (.node (.leaf [⟨[d310,d121], .tu [d311,d3]⟩,
⟨[d497,d121], .tu [d497,d134]⟩]) (.leaf [⟨[d147,d121], .tu [d148,d3]⟩,
⟨[d205,.ag [I 4,.s [],N,I 0,N,I 0,.s [],I 0,I 0,I 0,.s [],N,N,.s [116],.s [],.s [],d262,I 0,.s [],I 0,I 0,I 0,.s [],N,I 0,.s [],I 0,I 0,I 0,.s [],N]], .tu [d264,d7]⟩,
⟨[d477,d121], .tu [d478,d3]⟩])))
def l12_47 : BT := .node (.leaf [⟨[d200,d121], .tu [d201,d3]⟩,
⟨[d431,d193], d432⟩]) (.node (.leaf [⟨[d395,d121], .tu [d395,d134]⟩]) (.node (.leaf [⟨[d184,d121], .tu [d185,d3]⟩]) (.node (.leaf [⟨[d279,d121], .tu [d280,d3]⟩]) (.leaf [⟨[d10,.ag [I 4,.s [],N,I 0,N,I 0,.s [],I 0,I 0,I 0,.s [],N,N,.s [116],.s [],.s [],d11,I 0,.s [],I 0,I 0,I 0,.s [],N,I 0,.s [],I 0,I 0,I 0,.s [],N]], .tu [d12,d7]⟩,
⟨[d77,.ag [I 4,.s [],N,I 0,N,I 0,.s [],I 0,I 0,I 0,.s [],N,N,.s [116],.s [],.s [],d78,I 0,.s [],I 0,I 0,I 0,.s [],N,I 0,.s [],I 0,I 0,I 0,.s [],N]], .tu [d79,d7]⟩,
⟨[d404,d121], .tu [d405,d3]⟩]))))
def l12_48 : BT := .node (.node (.leaf [⟨[d254,d193], d255⟩,
⟨[d359,d121], .tu [d360,d3]⟩,
⟨[d379,d121], .tu [d379,d134]⟩]) (.node (.node (.leaf [⟨[d109,.ag [I 4,.s [],N,I 0,N,I 0,.s [],I 0,I 0,I 0,.s [],N,N,.s [116],.s [],.s [],d110,I 0,.s [],I 0,I 0,I 0,.s [],N,I 0,.s [],I 0,I 0,I 0,.s [],N]], .tu [d111,d7]⟩,
⟨[d313,d196], d314⟩,
⟨[d357,d121], .tu [d357,d134]⟩]) (.leaf [⟨[d179,d121], .tu [d179,d134]⟩])) (.leaf []))) (.leaf [⟨[d218,d121], .tu [d218,d134]⟩,
⟨[d264,d136], .tu [d271,d3]⟩,
⟨[d298,d121], .tu [d298,d134]⟩])
def l12_49 : BT := .node (.node (.node (.node (.leaf [⟨[d487,d121], .tu [d488,d3]⟩,
⟨[d490,d193], d491⟩]) (.leaf [⟨[d115,.ag [I 4,.s [],N,I 0,N,I 0,.s [],I 0,I 0,I 0,.s [],N,N,.s [116],.s [],.s [],d116,I 0,.s [],I 0,I 0,I 0,.s [],N,I 0,.s [],I 0,I 0,I 0,.s [],N]], .tu [d117,d7]⟩,
⟨[d308,d121], .tu [d309,d3]⟩])) (.leaf [⟨[d120,d136], .tu [d137,d3]⟩])) (.leaf [⟨[d438,d121], .tu [d438,d134]⟩])) (.node (.node (.leaf [⟨[d191,d196], d194⟩,
⟨[d261,d121], .tu [d261,d134]⟩,
⟨[d345,d121], .tu [d346,d3]⟩]) (.leaf [⟨[d71,.ag [I 4,.s [],N,I 0,N,I 0,.s [],I 0,I 0,I 0,.s [],N,N,.s [116],.s [],.s [],d72,I 0,.s [],I 0,I 0,I 0,.s [],N,I 0,.s [],I 0,I 0,I 0,.s [],N]], .tu [d73,d7]⟩,
⟨[d241,d121], .tu [d242,d3]⟩])) (.leaf [⟨[d318,d121], .tu [d319,d3]⟩,
⟨[d336,d121], .tu [d336,d134]⟩]))
def l12 : BT := .node (.node (.node (.node (.node (l12_0) (l12_1)) (l12_2)) (.node (.node (.node (l12_3) (l12_4)) (.node (l12_5) (l12_6))) (.node (.node (l12_7) (l12_8)) (.node (l12_9) (.node (l12_10) (l12_11)))))) (.node (.node (.node (.node (.node (l12_12) (l12_13)) (l12_14)) (l12_15)) (.node (l12_16) (l12_17))) (.node (.node (.node (l12_18) (l12_19)) (l12_20)) (.node (.node (l12_21) (l12_22)) (l12_23))))) (.node (.node (.node (.node (.node (l12_24) (l12_25)) (l12_26)) (.node (.node (l12_27) (l12_28)) (l12_29))) (.node (.node (.node (l12_30) (l12_31)) (.node (.node (l12_32) (l12_33)) (l12_34))) (.node (.node (l12_35) (l12_36)) (.node (l12_37) (l12_38))))) (.node (.node (.node (.node (l12_39) (l12_40)) (.node (l12_41) (l12_42))) (.node (l12_43) (.node (l12_44) (l12_45)))) (.node (.node (l12_46) (l12_47)) (.node (l12_48) (l12_49)))))
def l144_0 : List Ent := [⟨[.s [116]], F⟩,
⟨[.s [97]], F⟩,
⟨[.s [107]], F⟩,
⟨[d135], F⟩,
⟨[d144], F⟩,
⟨[d153], F⟩,
⟨[d162], F⟩,
⟨[d171], F⟩,
⟨[d180], F⟩,
⟨[d189], F⟩,
⟨[d192], F⟩,
⟨[d195], F⟩]
def l144 : List Ent := l144_0
def l11_0 : BT := .node (.leaf [⟨[d522], .tu [d193,I 0,I 0]⟩,
⟨[d523], .tu [d196,I 0,I 0]⟩]) (.node (.leaf [⟨[d504], .tu [d121,I 0,I 0]⟩]) (.node (.node (.node (.leaf [⟨[d501], .tu [d5,I 0,I 0]⟩,
⟨[d514], d515⟩]) (.leaf [⟨[d512], d513⟩,
⟨[d516], d517⟩])) (.leaf [])) (.leaf [⟨[d505], d507⟩])))
def l11_1 : BT := .node (.leaf [⟨[d502], d503⟩,
⟨[d518], d519⟩,
⟨[d520], d521⟩]) (.leaf [⟨[d499], d500⟩,
⟨[d508], d509⟩,
⟨[d510], d511⟩])
def l11 : BT := .node (l11_0) (l11_1)
def l13_0 : BT := .node (.node (.leaf [⟨[d522], d193⟩,
⟨[d523], d196⟩]) (.node (.leaf [⟨[d504], d121⟩]) (.node (.node (.node (.leaf [⟨[d501], d5⟩,
⟨[d514], d163⟩]) (.leaf [⟨[d512], d154⟩,
⟨[d516], d172⟩])) (.leaf [])) (.leaf [])))) (.node (.leaf [⟨[d502], d9⟩,
⟨[d518], d181⟩,
⟨[d520], d190⟩]) (.leaf [⟨[d499], d1⟩,
⟨[d508], d136⟩,
⟨[d510], d145⟩]))
def l13 : BT := l13_0
def l128_0 : BT := .node (.node (.leaf [⟨[d526], d527⟩,
⟨[d136], d508⟩,
⟨[d172], d516⟩]) (.leaf [⟨[d1], d499⟩,
⟨[d154], d512⟩,
⟨[d190], d520⟩])) (.node (.node (.leaf [⟨[d145], d510⟩]) (.leaf [⟨[d530], d531⟩,
⟨[d506], d505⟩,
⟨[d181], d518⟩])) (.node (.node (.leaf [⟨[d9], d502⟩,
⟨[d163], d514⟩]) (.leaf [⟨[d528], d529⟩,
⟨[d532], d533⟩])) (.leaf [⟨[d524], d525⟩])))
def l128 : BT := l128_0
def l415_0 : List Ent := [⟨[], .sl 33 1 [.s [99,114,101,97,116,101],.s [116,97,98,108,101],.s [100,114,111,112],.s [97,108,116,101,114],.s [97,100,100],.s [102,111,114,101,105,103,110],.s [107,101,121],.s [114,101,102,101,114,101,110,99,101,115],.s [112,114,105,109,97,114,121],.s [117,110,105,113,117,101],.s [99,104,101,99,107],.s [110,111,116],.s [110,117,108,108],.s [105,110,115,101,114,116],.s [105,110,116,111],.s [118,97,108,117,101,115],.s [117,112,100,97,116,101],.s [115,101,116],.s [119,104,101,114,101],.s [100,101,108,101,116,101],.s [102,114,111,109],.s [115,101,108,101,99,116],.s [99,111,117,110,116],.s [116,114,117,101],.s [102,97,108,115,101],.s [97,110,100],.s [111,114],.s [105,115],.s [98,111,111,108],.s [105,110,116],.s [100,101,99],.s [116,101,120,116],.s [98,121,116,101,115]]⟩]
def l415 : List Ent := l415_0
def l387_0 : List Ent := [⟨[], .sl 11 1 [.s [60,62],.s [60,61],.s [40],.s [41],.s [44],.s [59],.s [61],.s [60],.s [43],.s [45],.s [42]]⟩]
def l387 : List Ent := l387_0
def l109_0 : BT := .node (.leaf [⟨[d525], .tu [d524,I 0,I 0]⟩]) (.node (.leaf [⟨[d533], .tu [d532,I 0,I 0]⟩]) (.node (.leaf [⟨[d512], d513⟩,
⟨[d514], d515⟩,
⟨[d516], d517⟩]) (.leaf [⟨[d505], d507⟩])))
def l109_1 : BT := .node (.node (.leaf [⟨[d502], d503⟩,
⟨[d527], .tu [d526,I 0,I 0]⟩]) (.leaf [⟨[d529], .tu [d528,I 0,I 0]⟩,
⟨[d518], d519⟩,
⟨[d520], d521⟩])) (.node (.leaf [⟨[d499], d500⟩]) (.leaf [⟨[d531], .tu [d530,I 0,I 0]⟩,
⟨[d508], d509⟩,
⟨[d510], d511⟩]))
def l109 : BT := .node (l109_0) (l109_1)
def l117_0 : BT := .node (.node (.node (.leaf [⟨[.ag [.s [116],d8,I 0,N,I 0,.s [],I 0,I 0,I 0,.s [],N,d124]], T⟩,
⟨[.ag [.s [116],d8,I 0,N,I 0,.s [],I 0,I 0,I 0,.s [],N,d128]], T⟩,
⟨[d539], T⟩]) (.leaf [⟨[d535], T⟩])) (.node (.node (.node (.leaf [⟨[.ag [.s [116],d0,I 0,N,I 0,.s [],I 0,I 0,I 0,.s [],N,N]], T⟩,
⟨[d534], T⟩]) (.leaf [⟨[.ag [.s [116],d8,I 0,N,I 0,.s [],I 0,I 0,I 0,.s [],N,d122]], T⟩,
⟨[.ag [.s [116],d8,I 0,N,I 0,.s [],I 0,I 0,I 0,.s [],N,.sl 7 2 [I 0,.s [116],I 0,.s [116],I 0,.s [116],I 0,.s [116],I 0,.s [116],I 0,.s [116],I 0,.s [116]]]], F⟩])) (.leaf [⟨[d537], T⟩])) (.leaf [⟨[d541], T⟩]))) (.node (.leaf [⟨[.ag [.s [116],d8,I 0,N,I 0,.s [],I 0,I 0,I 0,.s [],N,d126]], T⟩,
⟨[.ag [.s [116],d8,I 0,N,I 0,.s [],I 0,I 0,I 0,.s [],N,d130]], T⟩,
⟨[d538], T⟩]) (.leaf [⟨[.ag [.s [116],d8,I 0,N,I 0,.s [],I 0,I 0,I 0,.s [],N,N]], T⟩,
⟨[d536], T⟩,
⟨[d540], T⟩]))
def l117 : BT := l117_0
def l25_0 : List Ent := [⟨[d6], d542⟩]
def l25 : List Ent := l25_0
def l24_0 : List Ent := [⟨[d542], .tu [d6,T]⟩]
def l24 : List Ent := l24_0
def l9_0 : List Ent := [⟨[], T⟩]
def l9 : List Ent := l9_0
def l89_0 : List Ent := [⟨[d506], d505⟩,
⟨[d136], d508⟩,
⟨[d145], d510⟩,
⟨[d154], d512⟩,
⟨[d163], d514⟩,
⟨[d172], d516⟩,
⟨[d181], d518⟩,
⟨[d190], d520⟩]
def l89 : List Ent := l89_0
def l33_0 : List Ent := [⟨[d534], T⟩,
⟨[d535], T⟩,
⟨[d536], T⟩,
⟨[d537], T⟩,
⟨[d538], T⟩,
⟨[d539], T⟩,
⟨[d540], T⟩,
⟨[d541], T⟩]
def l33 : List Ent := l33_0
end Go.Av


open Go Go.Av Go.Proofs
set_option maxRecDepth 1000000
set_option linter.all false
namespace Go.Av
variable [Tok]
theorem c144_0 : allR (checkE Tryz.prog fsB 100000 GG TTDr 20 144 (.flat)) l144_0 = true := by kernel_rfl
end Go.Av


open Go Go.Av Go.Proofs
set_option maxRecDepth 1000000
set_option linter.all false
namespace Go.Av
variable [Tok]
theorem c128_0 : allT (checkE Tryz.prog fsB 100000 GG TTDr 20 128 (.flat)) l128_0 = true := by kernel_rfl
end Go.Av


open Go Go.Av Go.Proofs
set_option maxRecDepth 1000000
set_option linter.all false
namespace Go.Av
variable [Tok]
theorem c415_0 : allR (checkE Tryz.prog fsB 100000 GG TTDr 20 415 (.sl 0)) l415_0 = true := by kernel_rfl
end Go.Av


open Go Go.Av Go.Proofs
set_option maxRecDepth 1000000
set_option linter.all false
namespace Go.Av
variable [Tok]
theorem c387_0 : allR (checkE Tryz.prog fsB 100000 GG TTDr 20 387 (.sl 0)) l387_0 = true := by kernel_rfl
end Go.Av


open Go Go.Av Go.Proofs
set_option maxRecDepth 1000000
set_option linter.all false
namespace Go.Av
variable [Tok]
theorem c89_0 : allR (checkE Tryz.prog fsB 100000 GG TTDr 20 89 (.flat)) l89_0 = true := by kernel_rfl
end Go.Av


open Go Go.Av Go.Proofs
set_option maxRecDepth 1000000
set_option linter.all false
namespace Go.Av
variable [Tok]
noncomputable def fsDr1 (k : Nat) : Option AFun := ifb (Nat.beq k 144) (some (.sem (pureF GG TTDr 20 [.flat] (memoF l144)))) (ifb (Nat.beq k 128) (some (.sem (pureF GG TTDr 20 [.ag 6] (memoU l128)))) (ifb (Nat.beq k 415) (some (.sem (pureF GG TTDr 20 [] (memoF l415)))) (ifb (Nat.beq k 387) (some (.sem (pureF GG TTDr 20 [] (memoF l387)))) (ifb (Nat.beq k 89) (some (.sem (pureF GG TTDr 20 [.ag 6] (memoF l89)))) (ifb (Nat.beq k 96) (some (.sem (pureF GG TTDr 20 [.sl 8, .ag 8] (Go.Sy.conF Tryz.prog Go.Sy.conLinked)))) (ifb (Nat.beq k 38) (some (.sem (pureF GG TTDr 20 [.ag 8] (Go.Sy.conF Tryz.prog Go.Sy.conTwice)))) (ifb (Nat.beq k 157) (some (.sem (pureF GG TTDr 20 [.sl 8, .ag 8, .ag 4] (Go.Sy.conF Tryz.prog Go.Sy.conDl)))) (fsB k))))))))
theorem p144 : PureOk Tryz.prog GG 144 (memoF l144) := memo_pure tz_mixed fsB_ok (fun e he => by
  exact allAnd c144_0 e he)
theorem p128 : PureOk Tryz.prog GG 128 (memoU l128) := memoU_pure tz_mixed fsB_ok (by unfold l128; exact c128_0)
theorem p415 : PureOk Tryz.prog GG 415 (memoF l415) := memo_pure tz_mixed fsB_ok (fun e he => by
  exact allAnd c415_0 e he)
theorem p387 : PureOk Tryz.prog GG 387 (memoF l387) := memo_pure tz_mixed fsB_ok (fun e he => by
  exact allAnd c387_0 e he)
theorem p89 : PureOk Tryz.prog GG 89 (memoF l89) := memo_pure tz_mixed fsB_ok (fun e he => by
  exact allAnd c89_0 e he)
theorem p96 : PureOk Tryz.prog GG 96 (Go.Sy.conF Tryz.prog Go.Sy.conLinked) := Go.Sy.con_pure tz_mixed (fun _ _ h => ownF_ok tz_gor h) (Go.Sy.linked_ok (fs := ownF Tryz.prog) own_funs)
theorem p38 : PureOk Tryz.prog GG 38 (Go.Sy.conF Tryz.prog Go.Sy.conTwice) := Go.Sy.con_pure tz_mixed (fun _ _ h => ownF_ok tz_gor h) (Go.Sy.twice_ok (fs := ownF Tryz.prog) own_funs)
theorem p157 : PureOk Tryz.prog GG 157 (Go.Sy.conF Tryz.prog Go.Sy.conDl) := Go.Sy.con_pure tz_mixed (fun _ _ h => ownF_ok tz_gor h) (Go.Sy.dl_ok (fs := ownF Tryz.prog) own_funs)
theorem fsDr1_ok : FsOk Tryz.prog fsDr1 := by
  intro k fn h
  unfold fsDr1 at h
  rcases ifb_or h with ⟨h1, h⟩ | ⟨_, h⟩
  · cases h; rw [Nat.eq_of_beq_eq_true h1]; exact .sem (pure_sem p144 tz_lt)
  rcases ifb_or h with ⟨h1, h⟩ | ⟨_, h⟩
  · cases h; rw [Nat.eq_of_beq_eq_true h1]; exact .sem (pure_sem p128 tz_lt)
  rcases ifb_or h with ⟨h1, h⟩ | ⟨_, h⟩
  · cases h; rw [Nat.eq_of_beq_eq_true h1]; exact .sem (pure_sem p415 tz_lt)
  rcases ifb_or h with ⟨h1, h⟩ | ⟨_, h⟩
  · cases h; rw [Nat.eq_of_beq_eq_true h1]; exact .sem (pure_sem p387 tz_lt)
  rcases ifb_or h with ⟨h1, h⟩ | ⟨_, h⟩
  · cases h; rw [Nat.eq_of_beq_eq_true h1]; exact .sem (pure_sem p89 tz_lt)
  rcases ifb_or h with ⟨h1, h⟩ | ⟨_, h⟩
  · cases h; rw [Nat.eq_of_beq_eq_true h1]; exact .sem (pure_sem p96 tz_lt)
  rcases ifb_or h with ⟨h1, h⟩ | ⟨_, h⟩
  · cases h; rw [Nat.eq_of_beq_eq_true h1]; exact .sem (pure_sem p38 tz_lt)
  rcases ifb_or h with ⟨h1, h⟩ | ⟨_, h⟩
  · cases h; rw [Nat.eq_of_beq_eq_true h1]; exact .sem (pure_sem p157 tz_lt)
  exact fsB_ok k fn h
end Go.Av


open Go Go.Av Go.Proofs
set_option maxRecDepth 1000000
set_option linter.all false
namespace Go.Av
variable [Tok]
theorem c11_0 : allT (checkE Tryz.prog fsDr1 100000 GG TTDr 20 11 (.tu 7)) l11_0 = true := by kernel_rfl
end Go.Av


open Go Go.Av Go.Proofs
set_option maxRecDepth 1000000
set_option linter.all false
namespace Go.Av
variable [Tok]
theorem c11_1 : allT (checkE Tryz.prog fsDr1 100000 GG TTDr 20 11 (.tu 7)) l11_1 = true := by kernel_rfl
end Go.Av
