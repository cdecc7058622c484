/- A part of the proof: what a machine of our own over the model's code answers is what the model does; no condition. -/
import Derived.Test.YtnokndchdkdhbaaGreatDoorCoB
import Derived.Test.YtnokndchdkdhbaaGreatDoorCoL
set_option linter.all false
namespace Go.Proofs.YtnokndchdkdhbaaGreatDoor
open Go
set_option maxRecDepth 100000
set_option linter.all false
theorem dumpRings_named : Tryz.prog.funcNamed "federation/federationlaw6.DumpRings" = some 3 := by kernel_rfl
theorem dumpRings_clo : Tryz.prog.closure 3 = [3, 6, 23, 79, 178, 179, 336, 341, 340, 339, 475, 337, 474, 338, 342, 563, 181, 180, 182, 343, 9, 30, 32, 102, 208, 195, 204, 196, 104, 209, 189, 210, 359, 184, 345, 109, 213, 214, 215, 216, 58, 142, 144, 295, 435, 293, 294, 143, 8, 27, 91, 194, 356, 197, 198, 29, 92, 199, 28, 93, 97, 100, 201, 98, 200, 202, 101, 205, 357, 206, 358, 207, 94, 95, 203, 96, 99, 211, 82, 190, 103, 31, 33, 34, 105, 106, 212, 346, 479, 347, 480, 146, 296, 481, 35, 107, 108, 185, 186, 111, 112, 217, 218, 219, 360, 361, 485, 486, 362, 487, 220, 363, 187, 188, 36, 110, 37, 113, 10, 38, 114, 26, 84, 85, 140, 290, 291, 191, 348, 349, 482, 350, 431, 432, 351, 483, 484, 564, 352, 353, 354, 355, 86, 56, 141, 292, 88, 89, 64, 116, 221, 222, 364, 193, 192, 117, 87, 90, 115, 39, 118, 40, 41, 119, 223, 225, 365, 366, 488, 367, 229, 226, 122, 233, 376, 490, 491, 568, 569, 492, 493, 570, 571, 611, 612, 368, 67, 154, 242, 383, 123, 234, 377, 378, 235, 379, 494, 380, 495, 236, 237, 238, 369, 489, 565, 608, 609, 566, 496, 572, 613, 573, 574, 575, 614, 567, 610, 370, 372, 373, 374, 224, 228, 371, 227, 230, 42, 43, 44, 11, 45, 120, 231, 375, 232, 47, 46, 121, 48, 15, 61, 49, 124, 239, 381, 240, 128, 258, 259, 408, 517, 518, 519, 584, 522, 585, 586, 498, 580, 520, 521, 587, 588, 589, 616, 617, 634, 646, 647, 523, 529, 241, 382, 593, 620, 621, 622, 636, 623, 637, 649, 638, 650, 659, 660, 594, 624, 625, 626, 524, 525, 268, 129, 260, 409, 130, 261, 262, 410, 411, 526, 590, 418, 412, 528, 592, 618, 619, 635, 648, 658, 414, 530, 527, 591, 508, 263, 413, 264, 265, 266, 267, 243, 384, 244, 385, 497, 576, 577, 578, 579, 428, 542, 544, 543, 545, 601, 125, 245, 246, 247, 248, 387, 500, 386, 499, 389, 502, 388, 501, 390, 422, 532, 534, 533, 535, 595, 536, 391, 503, 504, 505, 581, 506, 250, 249, 392, 251, 393, 507, 425, 538, 537, 539, 596, 597, 598, 599, 627, 639, 257, 401, 515, 403, 404, 402, 406, 516, 407, 405, 628, 600, 629, 630, 640, 651, 661, 662, 663, 641, 652, 653, 252, 395, 397, 510, 396, 509, 394, 253, 398, 254, 399, 511, 512, 582, 126, 256, 255, 400, 513, 514, 583, 615, 53, 137, 279, 280, 281, 429, 136, 54, 139, 282, 283, 430, 284, 285, 433, 434, 546, 286, 287, 288, 289, 138, 127, 50, 131, 51, 132, 133, 269, 304, 305, 415, 531, 547, 270, 298, 271, 297, 134, 272, 416, 273, 417, 274, 419, 275, 420, 276, 421, 424, 423, 426, 277, 427, 540, 541, 278, 52, 135, 55, 12, 24, 80, 183, 344, 476, 477, 478, 59, 145, 147, 81, 83, 14, 57, 60, 13, 25, 7] := by kernel_rfl
theorem dumpRings_unf : Tryz.prog.unfollowed 3 = true := by
  unfold Program.unfollowed
  rw [dumpRings_clo]
  kernel_rfl
theorem dumpRings_fact1 : (fun (P : Program) (f : FuncId) (fn : Func) (s : ChangeSpec) (c : OpenClaim) => (c.wf (OpenSpec.ofChange s) : Bool)) Tryz.prog 3 Tryz.f3 Rows.dumpRingsSpec Rows.dumpRingsRow = true := by kernel_rfl
theorem dumpRings_fact2 : (fun (P : Program) (f : FuncId) (fn : Func) (s : ChangeSpec) (c : OpenClaim) => (laidOutB P : Bool)) Tryz.prog 3 Tryz.f3 Rows.dumpRingsSpec Rows.dumpRingsRow = true := lo
theorem dumpRings_fact3 : (fun (P : Program) (f : FuncId) (fn : Func) (s : ChangeSpec) (c : OpenClaim) => (mapsRowed P : Bool)) Tryz.prog 3 Tryz.f3 Rows.dumpRingsSpec Rows.dumpRingsRow = true := by kernel_rfl
theorem dumpRings_fact4 : (fun (P : Program) (f : FuncId) (fn : Func) (s : ChangeSpec) (c : OpenClaim) => (fn.params.all (P.readableRec ·) : Bool)) Tryz.prog 3 Tryz.f3 Rows.dumpRingsSpec Rows.dumpRingsRow = true := by kernel_rfl
theorem dumpRings_fact5 : (fun (P : Program) (f : FuncId) (fn : Func) (s : ChangeSpec) (c : OpenClaim) => (namedTie P c.named s.vars : Bool)) Tryz.prog 3 Tryz.f3 Rows.dumpRingsSpec Rows.dumpRingsRow = true := by kernel_rfl
theorem dumpRings_fact6 : (fun (P : Program) (f : FuncId) (fn : Func) (s : ChangeSpec) (c : OpenClaim) => ((c.stops == []) : Bool)) Tryz.prog 3 Tryz.f3 Rows.dumpRingsSpec Rows.dumpRingsRow = true := by kernel_rfl
theorem dumpRings_fact7 : (fun (P : Program) (f : FuncId) (fn : Func) (s : ChangeSpec) (c : OpenClaim) => ((P.stops == []) : Bool)) Tryz.prog 3 Tryz.f3 Rows.dumpRingsSpec Rows.dumpRingsRow = true := by kernel_rfl
theorem dumpRings_fact8 : (fun (P : Program) (f : FuncId) (fn : Func) (s : ChangeSpec) (c : OpenClaim) => ((c.knobs == []) : Bool)) Tryz.prog 3 Tryz.f3 Rows.dumpRingsSpec Rows.dumpRingsRow = true := by kernel_rfl
theorem dumpRings_fact9 : (fun (P : Program) (f : FuncId) (fn : Func) (s : ChangeSpec) (c : OpenClaim) => ((P.stopKnobs == []) : Bool)) Tryz.prog 3 Tryz.f3 Rows.dumpRingsSpec Rows.dumpRingsRow = true := by kernel_rfl
theorem dumpRings_fact10 : (fun (P : Program) (f : FuncId) (fn : Func) (s : ChangeSpec) (c : OpenClaim) => ((c.inPlace == P.inPlace f) : Bool)) Tryz.prog 3 Tryz.f3 Rows.dumpRingsSpec Rows.dumpRingsRow = true := by
  show (Rows.dumpRingsRow.inPlace == Tryz.prog.inPlace 3) = true
  unfold Program.inPlace
  rw [dumpRings_clo]
  kernel_rfl
theorem dumpRings_fact11 : (fun (P : Program) (f : FuncId) (fn : Func) (s : ChangeSpec) (c : OpenClaim) => ((c.unfollowed == P.unfollowed f) : Bool)) Tryz.prog 3 Tryz.f3 Rows.dumpRingsSpec Rows.dumpRingsRow = true := by
  show (Rows.dumpRingsRow.unfollowed == Tryz.prog.unfollowed 3) = true
  rw [dumpRings_unf]
  kernel_rfl
theorem dumpRings_fact12 : (fun (P : Program) (f : FuncId) (fn : Func) (s : ChangeSpec) (c : OpenClaim) => ((c.recurses == P.recurses f) : Bool)) Tryz.prog 3 Tryz.f3 Rows.dumpRingsSpec Rows.dumpRingsRow = true := by
  show (Rows.dumpRingsRow.recurses == Tryz.prog.recurses 3) = true
  unfold Program.recurses
  rw [dumpRings_unf]
  kernel_rfl
theorem dumpRings_fact13 : (fun (P : Program) (f : FuncId) (fn : Func) (s : ChangeSpec) (c : OpenClaim) => ((c.named == P.varsNamed f) : Bool)) Tryz.prog 3 Tryz.f3 Rows.dumpRingsSpec Rows.dumpRingsRow = true := by
  show (Rows.dumpRingsRow.named == Tryz.prog.varsNamed 3) = true
  unfold Program.varsNamed
  rw [dumpRings_clo]
  kernel_rfl
theorem dumpRings_fact14 : (fun (P : Program) (f : FuncId) (fn : Func) (s : ChangeSpec) (c : OpenClaim) => ((c.maps == (fn.params.toList ++ s.plain.varTypes P).any (P.mapsRec ·)) : Bool)) Tryz.prog 3 Tryz.f3 Rows.dumpRingsSpec Rows.dumpRingsRow = true := by kernel_rfl
theorem dumpRings_fact15 : (fun (P : Program) (f : FuncId) (fn : Func) (s : ChangeSpec) (c : OpenClaim) => ((c.ifaces == (fn.params.toList ++ s.plain.varTypes P).any (P.ifacesRec ·)) : Bool)) Tryz.prog 3 Tryz.f3 Rows.dumpRingsSpec Rows.dumpRingsRow = true := by kernel_rfl
theorem dumpRings_fact16 : (fun (P : Program) (f : FuncId) (fn : Func) (s : ChangeSpec) (c : OpenClaim) => ((c.mapsOut == P.mapsAmong fn.resultTypes.toList) : Bool)) Tryz.prog 3 Tryz.f3 Rows.dumpRingsSpec Rows.dumpRingsRow = true := by kernel_rfl
theorem dumpRings_fact17 : (fun (P : Program) (f : FuncId) (fn : Func) (s : ChangeSpec) (c : OpenClaim) => ((c.loops == (fn.params.toList ++ s.plain.varTypes P).any (P.loopsFrom ·)) : Bool)) Tryz.prog 3 Tryz.f3 Rows.dumpRingsSpec Rows.dumpRingsRow = true := by kernel_rfl
theorem dumpRings_fact18 : (fun (P : Program) (f : FuncId) (fn : Func) (s : ChangeSpec) (c : OpenClaim) => ((c.wideKeys == (fn.params.toList ++ s.plain.varTypes P ++ fn.resultTypes.toList).any (P.wideKeysFrom ·)) : Bool)) Tryz.prog 3 Tryz.f3 Rows.dumpRingsSpec Rows.dumpRingsRow = true := by kernel_rfl
theorem dumpRings_fact19 : (fun (P : Program) (f : FuncId) (fn : Func) (s : ChangeSpec) (c : OpenClaim) => (s.vars.all (P.varReadable ·) : Bool)) Tryz.prog 3 Tryz.f3 Rows.dumpRingsSpec Rows.dumpRingsRow = true := by kernel_rfl
theorem dumpRings_fact20 : (fun (P : Program) (f : FuncId) (fn : Func) (s : ChangeSpec) (c : OpenClaim) => (fn.resultTypes.all (fun t => P.readableRec t && decide (t < P.types.size)) : Bool)) Tryz.prog 3 Tryz.f3 Rows.dumpRingsSpec Rows.dumpRingsRow = true := by kernel_rfl
theorem dumpRings_fact21 : (fun (P : Program) (f : FuncId) (fn : Func) (s : ChangeSpec) (c : OpenClaim) => ((c.ifacesOut == fn.resultTypes.toList.any (P.ifacesRec ·)) : Bool)) Tryz.prog 3 Tryz.f3 Rows.dumpRingsSpec Rows.dumpRingsRow = true := by kernel_rfl
theorem dumpRings_fact22 : (fun (P : Program) (f : FuncId) (fn : Func) (s : ChangeSpec) (c : OpenClaim) => ((c.loopsOut == fn.resultTypes.toList.any (P.loopsFrom ·)) : Bool)) Tryz.prog 3 Tryz.f3 Rows.dumpRingsSpec Rows.dumpRingsRow = true := by kernel_rfl
theorem dumpRings_fact23 : (fun (P : Program) (f : FuncId) (fn : Func) (s : ChangeSpec) (c : OpenClaim) => ((c.plainKeys == P.plainKeys) : Bool)) Tryz.prog 3 Tryz.f3 Rows.dumpRingsSpec Rows.dumpRingsRow = true := by kernel_rfl
theorem dumpRings_fact24 : (fun (P : Program) (f : FuncId) (fn : Func) (s : ChangeSpec) (c : OpenClaim) => (c.shortTexts.isNone : Bool)) Tryz.prog 3 Tryz.f3 Rows.dumpRingsSpec Rows.dumpRingsRow = true := by kernel_rfl
theorem dumpRings_fact25 : (fun (P : Program) (f : FuncId) (fn : Func) (s : ChangeSpec) (c : OpenClaim) => (P.stopsHeard : Bool)) Tryz.prog 3 Tryz.f3 Rows.dumpRingsSpec Rows.dumpRingsRow = true := by kernel_rfl
theorem dumpRings_fact26 : (fun (P : Program) (f : FuncId) (fn : Func) (s : ChangeSpec) (c : OpenClaim) => (P.mayEnter : Bool)) Tryz.prog 3 Tryz.f3 Rows.dumpRingsSpec Rows.dumpRingsRow = true := by kernel_rfl
theorem dumpRings_fact27 : (fun (P : Program) (f : FuncId) (fn : Func) (s : ChangeSpec) (c : OpenClaim) => ((c.lifted == P.liftsFinal) : Bool)) Tryz.prog 3 Tryz.f3 Rows.dumpRingsSpec Rows.dumpRingsRow = true := by kernel_rfl
theorem dumpRings_fact28 : (fun (P : Program) (f : FuncId) (fn : Func) (s : ChangeSpec) (c : OpenClaim) => ((P.make == some c.make) : Bool)) Tryz.prog 3 Tryz.f3 Rows.dumpRingsSpec Rows.dumpRingsRow = true := by kernel_rfl
theorem dumpRings_fact29 : (fun (P : Program) (f : FuncId) (fn : Func) (s : ChangeSpec) (c : OpenClaim) => ((c.kinds == (if c.domain.isEmpty then [] else fn.params.toList.map fun t => match P.underlying t with | some (.int k) => some k | _ => none)) : Bool)) Tryz.prog 3 Tryz.f3 Rows.dumpRingsSpec Rows.dumpRingsRow = true := by kernel_rfl
theorem dumpRings_fact30 : (fun (P : Program) (f : FuncId) (fn : Func) (s : ChangeSpec) (c : OpenClaim) => ((c.pinned == c.pinnedBy) : Bool)) Tryz.prog 3 Tryz.f3 Rows.dumpRingsSpec Rows.dumpRingsRow = true := by kernel_rfl
theorem dumpRings_fact31 : (fun (P : Program) (f : FuncId) (fn : Func) (s : ChangeSpec) (c : OpenClaim) => ((c.veiled == (fn.params.toList ++ s.plain.varTypes P ++ fn.resultTypes.toList).any (P.veiledRec ·)) : Bool)) Tryz.prog 3 Tryz.f3 Rows.dumpRingsSpec Rows.dumpRingsRow = true := by kernel_rfl
theorem dumpRings_fact32 : (fun (P : Program) (f : FuncId) (fn : Func) (s : ChangeSpec) (c : OpenClaim) => (c.veiledFits P fn.params.toList (fn.params.toList ++ s.plain.varTypes P ++ fn.resultTypes.toList) : Bool)) Tryz.prog 3 Tryz.f3 Rows.dumpRingsSpec Rows.dumpRingsRow = true := by kernel_rfl
theorem dumpRings_closed : joinedFacts Tryz.prog 3 Tryz.f3 Rows.dumpRingsSpec Rows.dumpRingsRow = true := andI (andI (andI (andI (andI (andI (andI (andI (andI (andI (andI (andI (andI (andI (andI (andI (andI (andI (andI (andI (andI (andI (andI (andI (andI (andI (andI (andI (andI (andI (andI (dumpRings_fact1) dumpRings_fact2) dumpRings_fact3) dumpRings_fact4) dumpRings_fact5) dumpRings_fact6) dumpRings_fact7) dumpRings_fact8) dumpRings_fact9) dumpRings_fact10) dumpRings_fact11) dumpRings_fact12) dumpRings_fact13) dumpRings_fact14) dumpRings_fact15) dumpRings_fact16) dumpRings_fact17) dumpRings_fact18) dumpRings_fact19) dumpRings_fact20) dumpRings_fact21) dumpRings_fact22) dumpRings_fact23) dumpRings_fact24) dumpRings_fact25) dumpRings_fact26) dumpRings_fact27) dumpRings_fact28) dumpRings_fact29) dumpRings_fact30) dumpRings_fact31) dumpRings_fact32
end Go.Proofs.YtnokndchdkdhbaaGreatDoor
