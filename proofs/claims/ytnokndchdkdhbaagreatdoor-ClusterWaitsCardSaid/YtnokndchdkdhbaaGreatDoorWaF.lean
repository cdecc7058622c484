/- A part of the proof: what a machine of our own over the model's code answers is what the model does; no condition. -/
import Derived.Test.YtnokndchdkdhbaaGreatDoorCoB
import Derived.Test.YtnokndchdkdhbaaGreatDoorCoL
set_option linter.all false
namespace Go.Proofs.YtnokndchdkdhbaaGreatDoor
open Go
set_option maxRecDepth 100000
set_option linter.all false
theorem clusterWaits_named : Tryz.prog.funcNamed "federation/federationlaw12.ClusterWaits" = some 5 := by kernel_rfl
theorem clusterWaits_clo : Tryz.prog.closure 5 = [5, 16, 17, 64, 65, 153, 303, 436, 61, 20, 69, 70, 157, 159, 160, 158, 307, 71, 149, 300, 161, 150, 301, 302, 163, 173, 311, 442, 162, 308, 438, 310, 441, 309, 439, 318, 67, 154, 452, 554, 561, 555, 560, 556, 557, 558, 559, 171, 319, 453, 320, 454, 562, 455, 456, 321, 457, 458, 459, 460, 548, 549, 602, 48, 603, 631, 312, 604, 632, 642, 654, 655, 56, 141, 292, 643, 644, 656, 657, 664, 665, 440, 550, 605, 551, 606, 166, 72, 165, 164, 73, 167, 155, 131, 156, 304, 305, 306, 437, 547, 297, 313, 299, 314, 443, 298, 444, 315, 168, 316, 446, 445, 552, 447, 553, 282, 607, 633, 645, 448, 449, 49, 124, 239, 381, 240, 128, 258, 259, 408, 517, 518, 519, 584, 522, 585, 586, 498, 580, 520, 521, 587, 588, 589, 616, 617, 634, 646, 647, 222, 364, 523, 529, 241, 382, 496, 572, 613, 573, 574, 575, 614, 593, 620, 621, 622, 636, 623, 637, 649, 567, 610, 638, 650, 659, 660, 594, 624, 625, 626, 524, 525, 268, 129, 260, 409, 130, 261, 262, 410, 488, 411, 526, 590, 418, 412, 528, 592, 618, 619, 635, 648, 658, 414, 530, 527, 591, 374, 508, 263, 413, 264, 265, 266, 267, 242, 383, 243, 384, 87, 244, 385, 497, 576, 577, 578, 579, 428, 542, 544, 543, 545, 601, 125, 245, 246, 247, 248, 387, 500, 386, 499, 389, 502, 388, 501, 390, 422, 532, 534, 533, 535, 595, 536, 119, 223, 225, 365, 366, 367, 229, 226, 122, 233, 376, 490, 491, 291, 568, 569, 492, 493, 570, 571, 611, 612, 368, 123, 234, 377, 378, 235, 379, 494, 380, 495, 236, 237, 238, 369, 489, 565, 608, 609, 566, 370, 372, 373, 224, 228, 371, 227, 230, 391, 503, 504, 505, 581, 506, 250, 249, 392, 251, 393, 507, 425, 538, 537, 539, 596, 597, 598, 599, 627, 639, 257, 401, 515, 403, 404, 402, 406, 516, 407, 405, 628, 600, 629, 630, 640, 651, 661, 662, 663, 641, 652, 653, 252, 395, 397, 510, 396, 509, 394, 253, 398, 254, 399, 511, 512, 582, 126, 256, 255, 400, 513, 514, 583, 615, 53, 137, 279, 280, 281, 429, 136, 54, 140, 290, 139, 283, 430, 284, 431, 432, 285, 433, 434, 546, 286, 287, 288, 289, 138, 127, 84, 450, 132, 133, 269, 415, 531, 270, 271, 134, 272, 85, 191, 348, 349, 482, 350, 351, 483, 484, 564, 352, 353, 354, 355, 416, 273, 417, 192, 117, 90, 274, 419, 275, 420, 276, 421, 424, 423, 426, 277, 427, 540, 541, 278, 451, 169, 75, 74, 170, 317, 76, 172, 322, 323, 324, 462, 461, 463, 326, 465, 464, 325, 328, 470, 175, 329, 19, 50, 68, 62, 148, 21, 77, 174, 327, 466, 467, 468, 469, 78, 176, 330, 331, 177, 332, 333, 471, 334, 472, 335, 473, 63, 151, 152, 18, 66, 22] := by kernel_rfl
theorem clusterWaits_unf : Tryz.prog.unfollowed 5 = true := by
  unfold Program.unfollowed
  rw [clusterWaits_clo]
  kernel_rfl
theorem clusterWaits_fact1 : (fun (P : Program) (f : FuncId) (fn : Func) (s : ChangeSpec) (c : OpenClaim) => (c.wf (OpenSpec.ofChange s) : Bool)) Tryz.prog 5 Tryz.f5 Rows.clusterWaitsSpec Rows.clusterWaitsRow = true := by kernel_rfl
theorem clusterWaits_fact2 : (fun (P : Program) (f : FuncId) (fn : Func) (s : ChangeSpec) (c : OpenClaim) => (laidOutB P : Bool)) Tryz.prog 5 Tryz.f5 Rows.clusterWaitsSpec Rows.clusterWaitsRow = true := lo
theorem clusterWaits_fact3 : (fun (P : Program) (f : FuncId) (fn : Func) (s : ChangeSpec) (c : OpenClaim) => (mapsRowed P : Bool)) Tryz.prog 5 Tryz.f5 Rows.clusterWaitsSpec Rows.clusterWaitsRow = true := by kernel_rfl
theorem clusterWaits_fact4 : (fun (P : Program) (f : FuncId) (fn : Func) (s : ChangeSpec) (c : OpenClaim) => (fn.params.all (P.readableRec ·) : Bool)) Tryz.prog 5 Tryz.f5 Rows.clusterWaitsSpec Rows.clusterWaitsRow = true := by kernel_rfl
theorem clusterWaits_fact5 : (fun (P : Program) (f : FuncId) (fn : Func) (s : ChangeSpec) (c : OpenClaim) => (namedTie P c.named s.vars : Bool)) Tryz.prog 5 Tryz.f5 Rows.clusterWaitsSpec Rows.clusterWaitsRow = true := by kernel_rfl
theorem clusterWaits_fact6 : (fun (P : Program) (f : FuncId) (fn : Func) (s : ChangeSpec) (c : OpenClaim) => ((c.stops == []) : Bool)) Tryz.prog 5 Tryz.f5 Rows.clusterWaitsSpec Rows.clusterWaitsRow = true := by kernel_rfl
theorem clusterWaits_fact7 : (fun (P : Program) (f : FuncId) (fn : Func) (s : ChangeSpec) (c : OpenClaim) => ((P.stops == []) : Bool)) Tryz.prog 5 Tryz.f5 Rows.clusterWaitsSpec Rows.clusterWaitsRow = true := by kernel_rfl
theorem clusterWaits_fact8 : (fun (P : Program) (f : FuncId) (fn : Func) (s : ChangeSpec) (c : OpenClaim) => ((c.knobs == []) : Bool)) Tryz.prog 5 Tryz.f5 Rows.clusterWaitsSpec Rows.clusterWaitsRow = true := by kernel_rfl
theorem clusterWaits_fact9 : (fun (P : Program) (f : FuncId) (fn : Func) (s : ChangeSpec) (c : OpenClaim) => ((P.stopKnobs == []) : Bool)) Tryz.prog 5 Tryz.f5 Rows.clusterWaitsSpec Rows.clusterWaitsRow = true := by kernel_rfl
theorem clusterWaits_fact10 : (fun (P : Program) (f : FuncId) (fn : Func) (s : ChangeSpec) (c : OpenClaim) => ((c.inPlace == P.inPlace f) : Bool)) Tryz.prog 5 Tryz.f5 Rows.clusterWaitsSpec Rows.clusterWaitsRow = true := by
  show (Rows.clusterWaitsRow.inPlace == Tryz.prog.inPlace 5) = true
  unfold Program.inPlace
  rw [clusterWaits_clo]
  kernel_rfl
theorem clusterWaits_fact11 : (fun (P : Program) (f : FuncId) (fn : Func) (s : ChangeSpec) (c : OpenClaim) => ((c.unfollowed == P.unfollowed f) : Bool)) Tryz.prog 5 Tryz.f5 Rows.clusterWaitsSpec Rows.clusterWaitsRow = true := by
  show (Rows.clusterWaitsRow.unfollowed == Tryz.prog.unfollowed 5) = true
  rw [clusterWaits_unf]
  kernel_rfl
theorem clusterWaits_fact12 : (fun (P : Program) (f : FuncId) (fn : Func) (s : ChangeSpec) (c : OpenClaim) => ((c.recurses == P.recurses f) : Bool)) Tryz.prog 5 Tryz.f5 Rows.clusterWaitsSpec Rows.clusterWaitsRow = true := by
  show (Rows.clusterWaitsRow.recurses == Tryz.prog.recurses 5) = true
  unfold Program.recurses
  rw [clusterWaits_unf]
  kernel_rfl
theorem clusterWaits_fact13 : (fun (P : Program) (f : FuncId) (fn : Func) (s : ChangeSpec) (c : OpenClaim) => ((c.named == P.varsNamed f) : Bool)) Tryz.prog 5 Tryz.f5 Rows.clusterWaitsSpec Rows.clusterWaitsRow = true := by
  show (Rows.clusterWaitsRow.named == Tryz.prog.varsNamed 5) = true
  unfold Program.varsNamed
  rw [clusterWaits_clo]
  kernel_rfl
theorem clusterWaits_fact14 : (fun (P : Program) (f : FuncId) (fn : Func) (s : ChangeSpec) (c : OpenClaim) => ((c.maps == (fn.params.toList ++ s.plain.varTypes P).any (P.mapsRec ·)) : Bool)) Tryz.prog 5 Tryz.f5 Rows.clusterWaitsSpec Rows.clusterWaitsRow = true := by kernel_rfl
theorem clusterWaits_fact15 : (fun (P : Program) (f : FuncId) (fn : Func) (s : ChangeSpec) (c : OpenClaim) => ((c.ifaces == (fn.params.toList ++ s.plain.varTypes P).any (P.ifacesRec ·)) : Bool)) Tryz.prog 5 Tryz.f5 Rows.clusterWaitsSpec Rows.clusterWaitsRow = true := by kernel_rfl
theorem clusterWaits_fact16 : (fun (P : Program) (f : FuncId) (fn : Func) (s : ChangeSpec) (c : OpenClaim) => ((c.mapsOut == P.mapsAmong fn.resultTypes.toList) : Bool)) Tryz.prog 5 Tryz.f5 Rows.clusterWaitsSpec Rows.clusterWaitsRow = true := by kernel_rfl
theorem clusterWaits_fact17 : (fun (P : Program) (f : FuncId) (fn : Func) (s : ChangeSpec) (c : OpenClaim) => ((c.loops == (fn.params.toList ++ s.plain.varTypes P).any (P.loopsFrom ·)) : Bool)) Tryz.prog 5 Tryz.f5 Rows.clusterWaitsSpec Rows.clusterWaitsRow = true := by kernel_rfl
theorem clusterWaits_fact18 : (fun (P : Program) (f : FuncId) (fn : Func) (s : ChangeSpec) (c : OpenClaim) => ((c.wideKeys == (fn.params.toList ++ s.plain.varTypes P ++ fn.resultTypes.toList).any (P.wideKeysFrom ·)) : Bool)) Tryz.prog 5 Tryz.f5 Rows.clusterWaitsSpec Rows.clusterWaitsRow = true := by kernel_rfl
theorem clusterWaits_fact19 : (fun (P : Program) (f : FuncId) (fn : Func) (s : ChangeSpec) (c : OpenClaim) => (s.vars.all (P.varReadable ·) : Bool)) Tryz.prog 5 Tryz.f5 Rows.clusterWaitsSpec Rows.clusterWaitsRow = true := by kernel_rfl
theorem clusterWaits_fact20 : (fun (P : Program) (f : FuncId) (fn : Func) (s : ChangeSpec) (c : OpenClaim) => (fn.resultTypes.all (fun t => P.readableRec t && decide (t < P.types.size)) : Bool)) Tryz.prog 5 Tryz.f5 Rows.clusterWaitsSpec Rows.clusterWaitsRow = true := by kernel_rfl
theorem clusterWaits_fact21 : (fun (P : Program) (f : FuncId) (fn : Func) (s : ChangeSpec) (c : OpenClaim) => ((c.ifacesOut == fn.resultTypes.toList.any (P.ifacesRec ·)) : Bool)) Tryz.prog 5 Tryz.f5 Rows.clusterWaitsSpec Rows.clusterWaitsRow = true := by kernel_rfl
theorem clusterWaits_fact22 : (fun (P : Program) (f : FuncId) (fn : Func) (s : ChangeSpec) (c : OpenClaim) => ((c.loopsOut == fn.resultTypes.toList.any (P.loopsFrom ·)) : Bool)) Tryz.prog 5 Tryz.f5 Rows.clusterWaitsSpec Rows.clusterWaitsRow = true := by kernel_rfl
theorem clusterWaits_fact23 : (fun (P : Program) (f : FuncId) (fn : Func) (s : ChangeSpec) (c : OpenClaim) => ((c.plainKeys == P.plainKeys) : Bool)) Tryz.prog 5 Tryz.f5 Rows.clusterWaitsSpec Rows.clusterWaitsRow = true := by kernel_rfl
theorem clusterWaits_fact24 : (fun (P : Program) (f : FuncId) (fn : Func) (s : ChangeSpec) (c : OpenClaim) => (c.shortTexts.isNone : Bool)) Tryz.prog 5 Tryz.f5 Rows.clusterWaitsSpec Rows.clusterWaitsRow = true := by kernel_rfl
theorem clusterWaits_fact25 : (fun (P : Program) (f : FuncId) (fn : Func) (s : ChangeSpec) (c : OpenClaim) => (P.stopsHeard : Bool)) Tryz.prog 5 Tryz.f5 Rows.clusterWaitsSpec Rows.clusterWaitsRow = true := by kernel_rfl
theorem clusterWaits_fact26 : (fun (P : Program) (f : FuncId) (fn : Func) (s : ChangeSpec) (c : OpenClaim) => (P.mayEnter : Bool)) Tryz.prog 5 Tryz.f5 Rows.clusterWaitsSpec Rows.clusterWaitsRow = true := by kernel_rfl
theorem clusterWaits_fact27 : (fun (P : Program) (f : FuncId) (fn : Func) (s : ChangeSpec) (c : OpenClaim) => ((c.lifted == P.liftsFinal) : Bool)) Tryz.prog 5 Tryz.f5 Rows.clusterWaitsSpec Rows.clusterWaitsRow = true := by kernel_rfl
theorem clusterWaits_fact28 : (fun (P : Program) (f : FuncId) (fn : Func) (s : ChangeSpec) (c : OpenClaim) => ((P.make == some c.make) : Bool)) Tryz.prog 5 Tryz.f5 Rows.clusterWaitsSpec Rows.clusterWaitsRow = true := by kernel_rfl
theorem clusterWaits_fact29 : (fun (P : Program) (f : FuncId) (fn : Func) (s : ChangeSpec) (c : OpenClaim) => ((c.kinds == (if c.domain.isEmpty then [] else fn.params.toList.map fun t => match P.underlying t with | some (.int k) => some k | _ => none)) : Bool)) Tryz.prog 5 Tryz.f5 Rows.clusterWaitsSpec Rows.clusterWaitsRow = true := by kernel_rfl
theorem clusterWaits_fact30 : (fun (P : Program) (f : FuncId) (fn : Func) (s : ChangeSpec) (c : OpenClaim) => ((c.pinned == c.pinnedBy) : Bool)) Tryz.prog 5 Tryz.f5 Rows.clusterWaitsSpec Rows.clusterWaitsRow = true := by kernel_rfl
theorem clusterWaits_fact31 : (fun (P : Program) (f : FuncId) (fn : Func) (s : ChangeSpec) (c : OpenClaim) => ((c.veiled == (fn.params.toList ++ s.plain.varTypes P ++ fn.resultTypes.toList).any (P.veiledRec ·)) : Bool)) Tryz.prog 5 Tryz.f5 Rows.clusterWaitsSpec Rows.clusterWaitsRow = true := by kernel_rfl
theorem clusterWaits_fact32 : (fun (P : Program) (f : FuncId) (fn : Func) (s : ChangeSpec) (c : OpenClaim) => (c.veiledFits P fn.params.toList (fn.params.toList ++ s.plain.varTypes P ++ fn.resultTypes.toList) : Bool)) Tryz.prog 5 Tryz.f5 Rows.clusterWaitsSpec Rows.clusterWaitsRow = true := by kernel_rfl
theorem clusterWaits_closed : joinedFacts Tryz.prog 5 Tryz.f5 Rows.clusterWaitsSpec Rows.clusterWaitsRow = true := andI (andI (andI (andI (andI (andI (andI (andI (andI (andI (andI (andI (andI (andI (andI (andI (andI (andI (andI (andI (andI (andI (andI (andI (andI (andI (andI (andI (andI (andI (andI (clusterWaits_fact1) clusterWaits_fact2) clusterWaits_fact3) clusterWaits_fact4) clusterWaits_fact5) clusterWaits_fact6) clusterWaits_fact7) clusterWaits_fact8) clusterWaits_fact9) clusterWaits_fact10) clusterWaits_fact11) clusterWaits_fact12) clusterWaits_fact13) clusterWaits_fact14) clusterWaits_fact15) clusterWaits_fact16) clusterWaits_fact17) clusterWaits_fact18) clusterWaits_fact19) clusterWaits_fact20) clusterWaits_fact21) clusterWaits_fact22) clusterWaits_fact23) clusterWaits_fact24) clusterWaits_fact25) clusterWaits_fact26) clusterWaits_fact27) clusterWaits_fact28) clusterWaits_fact29) clusterWaits_fact30) clusterWaits_fact31) clusterWaits_fact32
end Go.Proofs.YtnokndchdkdhbaaGreatDoor
