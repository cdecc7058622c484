/- A part of the proof: what a machine of our own over the model's code answers is what the model does; no condition. -/
import Derived.Test.YtndjadliihggpaaGreatDoorCoB
set_option linter.all false
namespace Go.Proofs.YtndjadliihggpaaGreatDoor
open Go
set_option maxRecDepth 100000
set_option linter.all false
theorem dbKeys_named : Tryz.prog.funcNamed "federation/federationlaw5.DbKeys" = some 4 := by kernel_rfl
theorem dbKeys_clo : Tryz.prog.closure 4 = [4, 9, 12, 29, 32, 30, 74, 98, 99, 100, 148, 241, 269, 75, 149, 76, 102, 31, 77, 112, 195, 194, 117, 198, 289, 197, 288, 200, 291, 199, 290, 162, 161, 247, 249, 248, 250, 332, 251, 128, 216, 218, 303, 304, 362, 305, 222, 219, 306, 363, 396, 422, 423, 235, 448, 449, 424, 425, 450, 451, 462, 463, 307, 272, 273, 111, 193, 364, 397, 426, 427, 398, 428, 452, 429, 453, 399, 400, 401, 308, 365, 402, 430, 431, 403, 285, 351, 393, 352, 353, 354, 394, 404, 432, 309, 311, 312, 313, 217, 221, 310, 220, 223, 109, 189, 274, 275, 344, 379, 380, 381, 410, 384, 411, 412, 287, 359, 382, 383, 413, 415, 416, 437, 438, 457, 464, 465, 414, 436, 385, 391, 110, 192, 420, 441, 442, 443, 459, 444, 460, 467, 461, 468, 470, 471, 421, 445, 446, 447, 386, 387, 191, 190, 276, 345, 277, 278, 279, 346, 347, 388, 417, 155, 348, 390, 419, 439, 440, 458, 466, 469, 350, 392, 389, 418, 296, 280, 349, 281, 282, 283, 284, 201, 292, 293, 294, 360, 295, 122, 207, 150, 132, 234, 242, 323, 324, 368, 325, 319, 320, 326, 369, 370, 405, 327, 328, 329, 330, 151, 61, 133, 236, 78, 153, 152, 243, 154, 79, 156, 157, 244, 245, 331, 118, 202, 80, 115, 116, 158, 246, 165, 253, 252, 254, 333, 334, 335, 336, 371, 406, 126, 209, 301, 211, 212, 210, 214, 302, 215, 213, 372, 337, 373, 374, 407, 433, 454, 455, 456, 408, 434, 435, 159, 121, 204, 206, 298, 205, 297, 203, 123, 55, 125, 124, 208, 299, 300, 361, 395, 81, 160, 164, 163, 166, 120, 82, 167, 255, 256, 83, 13, 11, 26, 63, 134, 237, 136, 135, 137, 138, 28, 64, 139, 238, 34, 91, 27, 65, 69, 72, 141, 70, 144, 140, 142, 85, 73, 145, 239, 146, 240, 147, 66, 67, 143, 68, 71, 25, 58, 127, 129, 224, 314, 316, 315, 317, 366, 130, 225, 57, 59, 131, 226, 227, 318, 228, 229, 321, 322, 367, 230, 231, 232, 233, 60, 62, 24, 53, 108, 188, 113, 196, 286, 355, 356, 357, 358, 54, 114, 119, 56, 10] := by kernel_rfl
theorem dbKeys_unf : Tryz.prog.unfollowed 4 = true := by
  unfold Program.unfollowed
  rw [dbKeys_clo]
  kernel_rfl
theorem dbKeys_fact1 : (fun (P : Program) (f : FuncId) (fn : Func) (s : ChangeSpec) (c : OpenClaim) => (c.wf (OpenSpec.ofChange s) : Bool)) Tryz.prog 4 Tryz.f4 Rows.dbKeysSpec Rows.dbKeysRow = true := by kernel_rfl
theorem dbKeys_fact2 : (fun (P : Program) (f : FuncId) (fn : Func) (s : ChangeSpec) (c : OpenClaim) => (laidOutB P : Bool)) Tryz.prog 4 Tryz.f4 Rows.dbKeysSpec Rows.dbKeysRow = true := by kernel_rfl
theorem dbKeys_fact3 : (fun (P : Program) (f : FuncId) (fn : Func) (s : ChangeSpec) (c : OpenClaim) => (mapsRowed P : Bool)) Tryz.prog 4 Tryz.f4 Rows.dbKeysSpec Rows.dbKeysRow = true := by kernel_rfl
theorem dbKeys_fact4 : (fun (P : Program) (f : FuncId) (fn : Func) (s : ChangeSpec) (c : OpenClaim) => (fn.params.all (P.readableRec ·) : Bool)) Tryz.prog 4 Tryz.f4 Rows.dbKeysSpec Rows.dbKeysRow = true := by kernel_rfl
theorem dbKeys_fact5 : (fun (P : Program) (f : FuncId) (fn : Func) (s : ChangeSpec) (c : OpenClaim) => (namedTie P c.named s.vars : Bool)) Tryz.prog 4 Tryz.f4 Rows.dbKeysSpec Rows.dbKeysRow = true := by kernel_rfl
theorem dbKeys_fact6 : (fun (P : Program) (f : FuncId) (fn : Func) (s : ChangeSpec) (c : OpenClaim) => ((c.stops == []) : Bool)) Tryz.prog 4 Tryz.f4 Rows.dbKeysSpec Rows.dbKeysRow = true := by kernel_rfl
theorem dbKeys_fact7 : (fun (P : Program) (f : FuncId) (fn : Func) (s : ChangeSpec) (c : OpenClaim) => ((P.stops == []) : Bool)) Tryz.prog 4 Tryz.f4 Rows.dbKeysSpec Rows.dbKeysRow = true := by kernel_rfl
theorem dbKeys_fact8 : (fun (P : Program) (f : FuncId) (fn : Func) (s : ChangeSpec) (c : OpenClaim) => ((c.knobs == []) : Bool)) Tryz.prog 4 Tryz.f4 Rows.dbKeysSpec Rows.dbKeysRow = true := by kernel_rfl
theorem dbKeys_fact9 : (fun (P : Program) (f : FuncId) (fn : Func) (s : ChangeSpec) (c : OpenClaim) => ((P.stopKnobs == []) : Bool)) Tryz.prog 4 Tryz.f4 Rows.dbKeysSpec Rows.dbKeysRow = true := by kernel_rfl
theorem dbKeys_fact10 : (fun (P : Program) (f : FuncId) (fn : Func) (s : ChangeSpec) (c : OpenClaim) => ((c.inPlace == P.inPlace f) : Bool)) Tryz.prog 4 Tryz.f4 Rows.dbKeysSpec Rows.dbKeysRow = true := by
  show (Rows.dbKeysRow.inPlace == Tryz.prog.inPlace 4) = true
  unfold Program.inPlace
  rw [dbKeys_clo]
  kernel_rfl
theorem dbKeys_fact11 : (fun (P : Program) (f : FuncId) (fn : Func) (s : ChangeSpec) (c : OpenClaim) => ((c.unfollowed == P.unfollowed f) : Bool)) Tryz.prog 4 Tryz.f4 Rows.dbKeysSpec Rows.dbKeysRow = true := by
  show (Rows.dbKeysRow.unfollowed == Tryz.prog.unfollowed 4) = true
  rw [dbKeys_unf]
  kernel_rfl
theorem dbKeys_fact12 : (fun (P : Program) (f : FuncId) (fn : Func) (s : ChangeSpec) (c : OpenClaim) => ((c.recurses == P.recurses f) : Bool)) Tryz.prog 4 Tryz.f4 Rows.dbKeysSpec Rows.dbKeysRow = true := by
  show (Rows.dbKeysRow.recurses == Tryz.prog.recurses 4) = true
  unfold Program.recurses
  rw [dbKeys_unf]
  kernel_rfl
theorem dbKeys_fact13 : (fun (P : Program) (f : FuncId) (fn : Func) (s : ChangeSpec) (c : OpenClaim) => ((c.named == P.varsNamed f) : Bool)) Tryz.prog 4 Tryz.f4 Rows.dbKeysSpec Rows.dbKeysRow = true := by
  show (Rows.dbKeysRow.named == Tryz.prog.varsNamed 4) = true
  unfold Program.varsNamed
  rw [dbKeys_clo]
  kernel_rfl
theorem dbKeys_fact14 : (fun (P : Program) (f : FuncId) (fn : Func) (s : ChangeSpec) (c : OpenClaim) => ((c.maps == (fn.params.toList ++ s.plain.varTypes P).any (P.mapsRec ·)) : Bool)) Tryz.prog 4 Tryz.f4 Rows.dbKeysSpec Rows.dbKeysRow = true := by kernel_rfl
theorem dbKeys_fact15 : (fun (P : Program) (f : FuncId) (fn : Func) (s : ChangeSpec) (c : OpenClaim) => ((c.ifaces == (fn.params.toList ++ s.plain.varTypes P).any (P.ifacesRec ·)) : Bool)) Tryz.prog 4 Tryz.f4 Rows.dbKeysSpec Rows.dbKeysRow = true := by kernel_rfl
theorem dbKeys_fact16 : (fun (P : Program) (f : FuncId) (fn : Func) (s : ChangeSpec) (c : OpenClaim) => ((c.mapsOut == P.mapsAmong fn.resultTypes.toList) : Bool)) Tryz.prog 4 Tryz.f4 Rows.dbKeysSpec Rows.dbKeysRow = true := by kernel_rfl
theorem dbKeys_fact17 : (fun (P : Program) (f : FuncId) (fn : Func) (s : ChangeSpec) (c : OpenClaim) => ((c.loops == (fn.params.toList ++ s.plain.varTypes P).any (P.loopsFrom ·)) : Bool)) Tryz.prog 4 Tryz.f4 Rows.dbKeysSpec Rows.dbKeysRow = true := by kernel_rfl
theorem dbKeys_fact18 : (fun (P : Program) (f : FuncId) (fn : Func) (s : ChangeSpec) (c : OpenClaim) => ((c.wideKeys == (fn.params.toList ++ s.plain.varTypes P ++ fn.resultTypes.toList).any (P.wideKeysFrom ·)) : Bool)) Tryz.prog 4 Tryz.f4 Rows.dbKeysSpec Rows.dbKeysRow = true := by kernel_rfl
theorem dbKeys_fact19 : (fun (P : Program) (f : FuncId) (fn : Func) (s : ChangeSpec) (c : OpenClaim) => (s.vars.all (P.varReadable ·) : Bool)) Tryz.prog 4 Tryz.f4 Rows.dbKeysSpec Rows.dbKeysRow = true := by kernel_rfl
theorem dbKeys_fact20 : (fun (P : Program) (f : FuncId) (fn : Func) (s : ChangeSpec) (c : OpenClaim) => (fn.resultTypes.all (fun t => P.readableRec t && decide (t < P.types.size)) : Bool)) Tryz.prog 4 Tryz.f4 Rows.dbKeysSpec Rows.dbKeysRow = true := by kernel_rfl
theorem dbKeys_fact21 : (fun (P : Program) (f : FuncId) (fn : Func) (s : ChangeSpec) (c : OpenClaim) => ((c.ifacesOut == fn.resultTypes.toList.any (P.ifacesRec ·)) : Bool)) Tryz.prog 4 Tryz.f4 Rows.dbKeysSpec Rows.dbKeysRow = true := by kernel_rfl
theorem dbKeys_fact22 : (fun (P : Program) (f : FuncId) (fn : Func) (s : ChangeSpec) (c : OpenClaim) => ((c.loopsOut == fn.resultTypes.toList.any (P.loopsFrom ·)) : Bool)) Tryz.prog 4 Tryz.f4 Rows.dbKeysSpec Rows.dbKeysRow = true := by kernel_rfl
theorem dbKeys_fact23 : (fun (P : Program) (f : FuncId) (fn : Func) (s : ChangeSpec) (c : OpenClaim) => ((c.plainKeys == P.plainKeys) : Bool)) Tryz.prog 4 Tryz.f4 Rows.dbKeysSpec Rows.dbKeysRow = true := by kernel_rfl
theorem dbKeys_fact24 : (fun (P : Program) (f : FuncId) (fn : Func) (s : ChangeSpec) (c : OpenClaim) => (c.shortTexts.isNone : Bool)) Tryz.prog 4 Tryz.f4 Rows.dbKeysSpec Rows.dbKeysRow = true := by kernel_rfl
theorem dbKeys_fact25 : (fun (P : Program) (f : FuncId) (fn : Func) (s : ChangeSpec) (c : OpenClaim) => (P.stopsHeard : Bool)) Tryz.prog 4 Tryz.f4 Rows.dbKeysSpec Rows.dbKeysRow = true := by kernel_rfl
theorem dbKeys_fact26 : (fun (P : Program) (f : FuncId) (fn : Func) (s : ChangeSpec) (c : OpenClaim) => (P.mayEnter : Bool)) Tryz.prog 4 Tryz.f4 Rows.dbKeysSpec Rows.dbKeysRow = true := by kernel_rfl
theorem dbKeys_fact27 : (fun (P : Program) (f : FuncId) (fn : Func) (s : ChangeSpec) (c : OpenClaim) => ((c.lifted == P.liftsFinal) : Bool)) Tryz.prog 4 Tryz.f4 Rows.dbKeysSpec Rows.dbKeysRow = true := by kernel_rfl
theorem dbKeys_fact28 : (fun (P : Program) (f : FuncId) (fn : Func) (s : ChangeSpec) (c : OpenClaim) => ((P.make == some c.make) : Bool)) Tryz.prog 4 Tryz.f4 Rows.dbKeysSpec Rows.dbKeysRow = true := by kernel_rfl
theorem dbKeys_fact29 : (fun (P : Program) (f : FuncId) (fn : Func) (s : ChangeSpec) (c : OpenClaim) => ((c.kinds == (if c.domain.isEmpty then [] else fn.params.toList.map fun t => match P.underlying t with | some (.int k) => some k | _ => none)) : Bool)) Tryz.prog 4 Tryz.f4 Rows.dbKeysSpec Rows.dbKeysRow = true := by kernel_rfl
theorem dbKeys_fact30 : (fun (P : Program) (f : FuncId) (fn : Func) (s : ChangeSpec) (c : OpenClaim) => ((c.pinned == c.pinnedBy) : Bool)) Tryz.prog 4 Tryz.f4 Rows.dbKeysSpec Rows.dbKeysRow = true := by kernel_rfl
theorem dbKeys_fact31 : (fun (P : Program) (f : FuncId) (fn : Func) (s : ChangeSpec) (c : OpenClaim) => ((c.veiled == (fn.params.toList ++ s.plain.varTypes P ++ fn.resultTypes.toList).any (P.veiledRec ·)) : Bool)) Tryz.prog 4 Tryz.f4 Rows.dbKeysSpec Rows.dbKeysRow = true := by kernel_rfl
theorem dbKeys_fact32 : (fun (P : Program) (f : FuncId) (fn : Func) (s : ChangeSpec) (c : OpenClaim) => (c.veiledFits P fn.params.toList (fn.params.toList ++ s.plain.varTypes P ++ fn.resultTypes.toList) : Bool)) Tryz.prog 4 Tryz.f4 Rows.dbKeysSpec Rows.dbKeysRow = true := by kernel_rfl
theorem dbKeys_closed : joinedFacts Tryz.prog 4 Tryz.f4 Rows.dbKeysSpec Rows.dbKeysRow = true := andI (andI (andI (andI (andI (andI (andI (andI (andI (andI (andI (andI (andI (andI (andI (andI (andI (andI (andI (andI (andI (andI (andI (andI (andI (andI (andI (andI (andI (andI (andI (dbKeys_fact1) dbKeys_fact2) dbKeys_fact3) dbKeys_fact4) dbKeys_fact5) dbKeys_fact6) dbKeys_fact7) dbKeys_fact8) dbKeys_fact9) dbKeys_fact10) dbKeys_fact11) dbKeys_fact12) dbKeys_fact13) dbKeys_fact14) dbKeys_fact15) dbKeys_fact16) dbKeys_fact17) dbKeys_fact18) dbKeys_fact19) dbKeys_fact20) dbKeys_fact21) dbKeys_fact22) dbKeys_fact23) dbKeys_fact24) dbKeys_fact25) dbKeys_fact26) dbKeys_fact27) dbKeys_fact28) dbKeys_fact29) dbKeys_fact30) dbKeys_fact31) dbKeys_fact32
end Go.Proofs.YtndjadliihggpaaGreatDoor
