/- A part of the proof: what a machine of our own over the model's code answers is what the model does; no condition. -/
import Derived.Test.YtglejgncbghngaaGreatDoorCoB
import Derived.Test.YtglejgncbghngaaGreatDoorCoL
set_option linter.all false
namespace Go.Proofs.YtglejgncbghngaaGreatDoor
open Go
set_option maxRecDepth 100000
set_option linter.all false
theorem dumpOrder_named : Tryz.prog.funcNamed "federation/federationlaw6.DumpOrder" = some 4 := by kernel_rfl
theorem dumpOrder_clo : Tryz.prog.closure 4 = [4, 17, 45, 93, 176, 177, 287, 292, 291, 290, 423, 288, 422, 289, 293, 534, 179, 178, 180, 294, 92, 169, 112, 206, 363, 486, 495, 487, 279, 364, 219, 365, 502, 207, 367, 282, 414, 415, 416, 417, 216, 371, 373, 508, 580, 506, 507, 372, 111, 202, 351, 485, 577, 488, 489, 204, 352, 490, 203, 353, 357, 360, 492, 358, 491, 493, 361, 496, 578, 497, 579, 498, 354, 355, 494, 356, 359, 366, 117, 220, 213, 170, 171, 172, 280, 214, 370, 368, 503, 369, 504, 375, 509, 505, 173, 208, 281, 209, 210, 284, 285, 418, 419, 420, 530, 531, 596, 597, 532, 598, 421, 533, 211, 212, 174, 283, 175, 286, 46, 94, 181, 19, 52, 53, 120, 229, 230, 119, 221, 222, 377, 223, 378, 379, 224, 380, 381, 510, 225, 226, 227, 228, 54, 55, 121, 231, 57, 58, 20, 122, 232, 233, 382, 124, 123, 183, 56, 59, 182, 95, 184, 96, 97, 185, 295, 297, 424, 425, 392, 426, 301, 298, 188, 305, 435, 536, 537, 602, 603, 538, 539, 604, 605, 636, 637, 427, 25, 66, 314, 442, 189, 306, 436, 437, 307, 438, 540, 439, 541, 308, 309, 310, 428, 535, 599, 633, 634, 600, 542, 606, 638, 607, 608, 609, 639, 601, 635, 429, 431, 432, 433, 296, 300, 430, 299, 302, 98, 99, 100, 47, 101, 186, 303, 434, 304, 103, 102, 187, 104, 51, 44, 105, 190, 311, 440, 312, 67, 139, 140, 247, 383, 384, 385, 511, 388, 512, 513, 523, 592, 386, 387, 514, 515, 516, 581, 582, 624, 645, 646, 389, 396, 313, 441, 521, 585, 586, 587, 626, 588, 627, 648, 628, 649, 658, 659, 522, 589, 590, 591, 390, 391, 149, 68, 141, 248, 69, 142, 143, 249, 250, 393, 517, 470, 251, 395, 520, 583, 584, 625, 647, 657, 253, 397, 394, 519, 518, 144, 252, 145, 146, 147, 148, 315, 443, 316, 444, 543, 610, 611, 612, 613, 480, 572, 574, 573, 575, 623, 191, 317, 318, 319, 320, 446, 545, 445, 544, 448, 547, 447, 546, 449, 474, 562, 564, 563, 565, 617, 566, 450, 548, 549, 550, 614, 551, 322, 321, 451, 323, 452, 552, 477, 568, 567, 569, 618, 619, 620, 621, 641, 654, 329, 460, 559, 462, 463, 461, 465, 560, 466, 464, 642, 622, 643, 644, 655, 661, 665, 666, 667, 656, 662, 663, 324, 454, 456, 554, 455, 553, 453, 325, 457, 326, 458, 555, 556, 615, 192, 328, 327, 459, 557, 558, 616, 640, 108, 199, 340, 341, 342, 481, 198, 109, 201, 343, 344, 482, 345, 346, 483, 484, 576, 347, 348, 349, 350, 200, 193, 26, 70, 106, 194, 195, 330, 150, 151, 467, 561, 398, 331, 37, 332, 36, 196, 333, 468, 334, 469, 335, 471, 336, 472, 337, 473, 476, 475, 478, 338, 479, 570, 571, 339, 107, 197, 110, 48, 49, 113, 205, 362, 499, 500, 501, 217, 374, 376, 114, 118, 116, 215, 218, 115, 50, 18] := by kernel_rfl
theorem dumpOrder_unf : Tryz.prog.unfollowed 4 = true := by
  unfold Program.unfollowed
  rw [dumpOrder_clo]
  kernel_rfl
theorem dumpOrder_fact1 : (fun (P : Program) (f : FuncId) (fn : Func) (s : ChangeSpec) (c : OpenClaim) => (c.wf (OpenSpec.ofChange s) : Bool)) Tryz.prog 4 Tryz.f4 Rows.dumpOrderSpec Rows.dumpOrderRow = true := by kernel_rfl
theorem dumpOrder_fact2 : (fun (P : Program) (f : FuncId) (fn : Func) (s : ChangeSpec) (c : OpenClaim) => (laidOutB P : Bool)) Tryz.prog 4 Tryz.f4 Rows.dumpOrderSpec Rows.dumpOrderRow = true := lo
theorem dumpOrder_fact3 : (fun (P : Program) (f : FuncId) (fn : Func) (s : ChangeSpec) (c : OpenClaim) => (mapsRowed P : Bool)) Tryz.prog 4 Tryz.f4 Rows.dumpOrderSpec Rows.dumpOrderRow = true := by kernel_rfl
theorem dumpOrder_fact4 : (fun (P : Program) (f : FuncId) (fn : Func) (s : ChangeSpec) (c : OpenClaim) => (fn.params.all (P.readableRec ·) : Bool)) Tryz.prog 4 Tryz.f4 Rows.dumpOrderSpec Rows.dumpOrderRow = true := by kernel_rfl
theorem dumpOrder_fact5 : (fun (P : Program) (f : FuncId) (fn : Func) (s : ChangeSpec) (c : OpenClaim) => (namedTie P c.named s.vars : Bool)) Tryz.prog 4 Tryz.f4 Rows.dumpOrderSpec Rows.dumpOrderRow = true := by kernel_rfl
theorem dumpOrder_fact6 : (fun (P : Program) (f : FuncId) (fn : Func) (s : ChangeSpec) (c : OpenClaim) => ((c.stops == []) : Bool)) Tryz.prog 4 Tryz.f4 Rows.dumpOrderSpec Rows.dumpOrderRow = true := by kernel_rfl
theorem dumpOrder_fact7 : (fun (P : Program) (f : FuncId) (fn : Func) (s : ChangeSpec) (c : OpenClaim) => ((P.stops == []) : Bool)) Tryz.prog 4 Tryz.f4 Rows.dumpOrderSpec Rows.dumpOrderRow = true := by kernel_rfl
theorem dumpOrder_fact8 : (fun (P : Program) (f : FuncId) (fn : Func) (s : ChangeSpec) (c : OpenClaim) => ((c.knobs == []) : Bool)) Tryz.prog 4 Tryz.f4 Rows.dumpOrderSpec Rows.dumpOrderRow = true := by kernel_rfl
theorem dumpOrder_fact9 : (fun (P : Program) (f : FuncId) (fn : Func) (s : ChangeSpec) (c : OpenClaim) => ((P.stopKnobs == []) : Bool)) Tryz.prog 4 Tryz.f4 Rows.dumpOrderSpec Rows.dumpOrderRow = true := by kernel_rfl
theorem dumpOrder_fact10 : (fun (P : Program) (f : FuncId) (fn : Func) (s : ChangeSpec) (c : OpenClaim) => ((c.inPlace == P.inPlace f) : Bool)) Tryz.prog 4 Tryz.f4 Rows.dumpOrderSpec Rows.dumpOrderRow = true := by
  show (Rows.dumpOrderRow.inPlace == Tryz.prog.inPlace 4) = true
  unfold Program.inPlace
  rw [dumpOrder_clo]
  kernel_rfl
theorem dumpOrder_fact11 : (fun (P : Program) (f : FuncId) (fn : Func) (s : ChangeSpec) (c : OpenClaim) => ((c.unfollowed == P.unfollowed f) : Bool)) Tryz.prog 4 Tryz.f4 Rows.dumpOrderSpec Rows.dumpOrderRow = true := by
  show (Rows.dumpOrderRow.unfollowed == Tryz.prog.unfollowed 4) = true
  rw [dumpOrder_unf]
  kernel_rfl
theorem dumpOrder_fact12 : (fun (P : Program) (f : FuncId) (fn : Func) (s : ChangeSpec) (c : OpenClaim) => ((c.recurses == P.recurses f) : Bool)) Tryz.prog 4 Tryz.f4 Rows.dumpOrderSpec Rows.dumpOrderRow = true := by
  show (Rows.dumpOrderRow.recurses == Tryz.prog.recurses 4) = true
  unfold Program.recurses
  rw [dumpOrder_unf]
  kernel_rfl
theorem dumpOrder_fact13 : (fun (P : Program) (f : FuncId) (fn : Func) (s : ChangeSpec) (c : OpenClaim) => ((c.named == P.varsNamed f) : Bool)) Tryz.prog 4 Tryz.f4 Rows.dumpOrderSpec Rows.dumpOrderRow = true := by
  show (Rows.dumpOrderRow.named == Tryz.prog.varsNamed 4) = true
  unfold Program.varsNamed
  rw [dumpOrder_clo]
  kernel_rfl
theorem dumpOrder_fact14 : (fun (P : Program) (f : FuncId) (fn : Func) (s : ChangeSpec) (c : OpenClaim) => ((c.maps == (fn.params.toList ++ s.plain.varTypes P).any (P.mapsRec ·)) : Bool)) Tryz.prog 4 Tryz.f4 Rows.dumpOrderSpec Rows.dumpOrderRow = true := by kernel_rfl
theorem dumpOrder_fact15 : (fun (P : Program) (f : FuncId) (fn : Func) (s : ChangeSpec) (c : OpenClaim) => ((c.ifaces == (fn.params.toList ++ s.plain.varTypes P).any (P.ifacesRec ·)) : Bool)) Tryz.prog 4 Tryz.f4 Rows.dumpOrderSpec Rows.dumpOrderRow = true := by kernel_rfl
theorem dumpOrder_fact16 : (fun (P : Program) (f : FuncId) (fn : Func) (s : ChangeSpec) (c : OpenClaim) => ((c.mapsOut == P.mapsAmong fn.resultTypes.toList) : Bool)) Tryz.prog 4 Tryz.f4 Rows.dumpOrderSpec Rows.dumpOrderRow = true := by kernel_rfl
theorem dumpOrder_fact17 : (fun (P : Program) (f : FuncId) (fn : Func) (s : ChangeSpec) (c : OpenClaim) => ((c.loops == (fn.params.toList ++ s.plain.varTypes P).any (P.loopsFrom ·)) : Bool)) Tryz.prog 4 Tryz.f4 Rows.dumpOrderSpec Rows.dumpOrderRow = true := by kernel_rfl
theorem dumpOrder_fact18 : (fun (P : Program) (f : FuncId) (fn : Func) (s : ChangeSpec) (c : OpenClaim) => ((c.wideKeys == (fn.params.toList ++ s.plain.varTypes P ++ fn.resultTypes.toList).any (P.wideKeysFrom ·)) : Bool)) Tryz.prog 4 Tryz.f4 Rows.dumpOrderSpec Rows.dumpOrderRow = true := by kernel_rfl
theorem dumpOrder_fact19 : (fun (P : Program) (f : FuncId) (fn : Func) (s : ChangeSpec) (c : OpenClaim) => (s.vars.all (P.varReadable ·) : Bool)) Tryz.prog 4 Tryz.f4 Rows.dumpOrderSpec Rows.dumpOrderRow = true := by kernel_rfl
theorem dumpOrder_fact20 : (fun (P : Program) (f : FuncId) (fn : Func) (s : ChangeSpec) (c : OpenClaim) => (fn.resultTypes.all (fun t => P.readableRec t && decide (t < P.types.size)) : Bool)) Tryz.prog 4 Tryz.f4 Rows.dumpOrderSpec Rows.dumpOrderRow = true := by kernel_rfl
theorem dumpOrder_fact21 : (fun (P : Program) (f : FuncId) (fn : Func) (s : ChangeSpec) (c : OpenClaim) => ((c.ifacesOut == fn.resultTypes.toList.any (P.ifacesRec ·)) : Bool)) Tryz.prog 4 Tryz.f4 Rows.dumpOrderSpec Rows.dumpOrderRow = true := by kernel_rfl
theorem dumpOrder_fact22 : (fun (P : Program) (f : FuncId) (fn : Func) (s : ChangeSpec) (c : OpenClaim) => ((c.loopsOut == fn.resultTypes.toList.any (P.loopsFrom ·)) : Bool)) Tryz.prog 4 Tryz.f4 Rows.dumpOrderSpec Rows.dumpOrderRow = true := by kernel_rfl
theorem dumpOrder_fact23 : (fun (P : Program) (f : FuncId) (fn : Func) (s : ChangeSpec) (c : OpenClaim) => ((c.plainKeys == P.plainKeys) : Bool)) Tryz.prog 4 Tryz.f4 Rows.dumpOrderSpec Rows.dumpOrderRow = true := by kernel_rfl
theorem dumpOrder_fact24 : (fun (P : Program) (f : FuncId) (fn : Func) (s : ChangeSpec) (c : OpenClaim) => (c.shortTexts.isNone : Bool)) Tryz.prog 4 Tryz.f4 Rows.dumpOrderSpec Rows.dumpOrderRow = true := by kernel_rfl
theorem dumpOrder_fact25 : (fun (P : Program) (f : FuncId) (fn : Func) (s : ChangeSpec) (c : OpenClaim) => (P.stopsHeard : Bool)) Tryz.prog 4 Tryz.f4 Rows.dumpOrderSpec Rows.dumpOrderRow = true := by kernel_rfl
theorem dumpOrder_fact26 : (fun (P : Program) (f : FuncId) (fn : Func) (s : ChangeSpec) (c : OpenClaim) => (P.mayEnter : Bool)) Tryz.prog 4 Tryz.f4 Rows.dumpOrderSpec Rows.dumpOrderRow = true := by kernel_rfl
theorem dumpOrder_fact27 : (fun (P : Program) (f : FuncId) (fn : Func) (s : ChangeSpec) (c : OpenClaim) => ((c.lifted == P.liftsFinal) : Bool)) Tryz.prog 4 Tryz.f4 Rows.dumpOrderSpec Rows.dumpOrderRow = true := by kernel_rfl
theorem dumpOrder_fact28 : (fun (P : Program) (f : FuncId) (fn : Func) (s : ChangeSpec) (c : OpenClaim) => ((P.make == some c.make) : Bool)) Tryz.prog 4 Tryz.f4 Rows.dumpOrderSpec Rows.dumpOrderRow = true := by kernel_rfl
theorem dumpOrder_fact29 : (fun (P : Program) (f : FuncId) (fn : Func) (s : ChangeSpec) (c : OpenClaim) => ((c.kinds == (if c.domain.isEmpty then [] else fn.params.toList.map fun t => match P.underlying t with | some (.int k) => some k | _ => none)) : Bool)) Tryz.prog 4 Tryz.f4 Rows.dumpOrderSpec Rows.dumpOrderRow = true := by kernel_rfl
theorem dumpOrder_fact30 : (fun (P : Program) (f : FuncId) (fn : Func) (s : ChangeSpec) (c : OpenClaim) => ((c.pinned == c.pinnedBy) : Bool)) Tryz.prog 4 Tryz.f4 Rows.dumpOrderSpec Rows.dumpOrderRow = true := by kernel_rfl
theorem dumpOrder_fact31 : (fun (P : Program) (f : FuncId) (fn : Func) (s : ChangeSpec) (c : OpenClaim) => ((c.veiled == (fn.params.toList ++ s.plain.varTypes P ++ fn.resultTypes.toList).any (P.veiledRec ·)) : Bool)) Tryz.prog 4 Tryz.f4 Rows.dumpOrderSpec Rows.dumpOrderRow = true := by kernel_rfl
theorem dumpOrder_fact32 : (fun (P : Program) (f : FuncId) (fn : Func) (s : ChangeSpec) (c : OpenClaim) => (c.veiledFits P fn.params.toList (fn.params.toList ++ s.plain.varTypes P ++ fn.resultTypes.toList) : Bool)) Tryz.prog 4 Tryz.f4 Rows.dumpOrderSpec Rows.dumpOrderRow = true := by kernel_rfl
theorem dumpOrder_closed : joinedFacts Tryz.prog 4 Tryz.f4 Rows.dumpOrderSpec Rows.dumpOrderRow = true := andI (andI (andI (andI (andI (andI (andI (andI (andI (andI (andI (andI (andI (andI (andI (andI (andI (andI (andI (andI (andI (andI (andI (andI (andI (andI (andI (andI (andI (andI (andI (dumpOrder_fact1) dumpOrder_fact2) dumpOrder_fact3) dumpOrder_fact4) dumpOrder_fact5) dumpOrder_fact6) dumpOrder_fact7) dumpOrder_fact8) dumpOrder_fact9) dumpOrder_fact10) dumpOrder_fact11) dumpOrder_fact12) dumpOrder_fact13) dumpOrder_fact14) dumpOrder_fact15) dumpOrder_fact16) dumpOrder_fact17) dumpOrder_fact18) dumpOrder_fact19) dumpOrder_fact20) dumpOrder_fact21) dumpOrder_fact22) dumpOrder_fact23) dumpOrder_fact24) dumpOrder_fact25) dumpOrder_fact26) dumpOrder_fact27) dumpOrder_fact28) dumpOrder_fact29) dumpOrder_fact30) dumpOrder_fact31) dumpOrder_fact32
end Go.Proofs.YtglejgncbghngaaGreatDoor
