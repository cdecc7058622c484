/- A part of the proof: what a machine of our own over the model's code answers is what the model does; no condition. -/
import Derived.Test.YtndjadliihggpaaGreatDoorCoA
set_option linter.all false
namespace Go.Proofs.YtndjadliihggpaaGreatDoor
open Go
set_option maxRecDepth 100000
set_option linter.all false
theorem coordHomes_named : Tryz.prog.funcNamed "federation/federationlaw11.CoordHomes" = some 7 := by kernel_rfl
theorem coordHomes_clo : Tryz.prog.closure 7 = [7, 15, 20, 45, 97, 46, 98, 99, 100, 101, 179, 269, 102, 22, 47, 49, 17, 48, 103, 23, 50, 104, 180, 105, 181, 149, 182, 106, 62, 51, 107, 184, 183, 270, 185, 271, 226, 343, 378, 409, 186, 61, 133, 236, 187, 272, 273, 24, 53, 108, 188, 109, 189, 274, 275, 344, 379, 380, 381, 410, 384, 411, 412, 287, 359, 382, 383, 413, 415, 416, 437, 438, 457, 464, 465, 414, 436, 385, 391, 110, 192, 285, 351, 393, 352, 353, 354, 394, 420, 441, 442, 443, 459, 444, 460, 467, 404, 432, 461, 468, 470, 471, 421, 445, 446, 447, 386, 387, 191, 190, 276, 345, 277, 278, 279, 346, 362, 347, 388, 417, 155, 348, 390, 419, 439, 440, 458, 466, 469, 350, 392, 389, 418, 313, 296, 280, 349, 281, 282, 283, 284, 111, 193, 112, 195, 194, 113, 196, 286, 355, 356, 357, 358, 224, 314, 316, 315, 317, 366, 54, 114, 115, 116, 117, 198, 289, 197, 288, 200, 291, 199, 290, 162, 161, 247, 249, 248, 250, 332, 251, 128, 216, 218, 303, 304, 305, 222, 219, 306, 363, 396, 422, 423, 235, 448, 449, 424, 425, 450, 451, 462, 463, 307, 364, 397, 426, 427, 398, 428, 452, 429, 453, 399, 400, 401, 308, 365, 402, 430, 431, 403, 309, 311, 312, 217, 221, 310, 220, 223, 201, 292, 293, 294, 360, 295, 119, 118, 202, 120, 158, 246, 165, 253, 252, 254, 333, 334, 335, 336, 371, 406, 126, 209, 301, 211, 212, 210, 214, 302, 215, 213, 372, 337, 373, 374, 407, 433, 454, 455, 456, 408, 434, 435, 121, 204, 206, 298, 205, 297, 203, 122, 207, 123, 157, 244, 245, 331, 55, 125, 124, 208, 299, 300, 361, 395, 25, 58, 127, 129, 130, 225, 57, 59, 132, 234, 131, 227, 318, 228, 319, 320, 229, 321, 322, 367, 230, 231, 232, 233, 60, 56, 32, 12, 29, 30, 74, 148, 241, 75, 76, 31, 77, 150, 242, 323, 324, 368, 325, 326, 369, 370, 405, 327, 328, 329, 330, 151, 78, 153, 152, 243, 154, 79, 156, 80, 159, 81, 160, 164, 163, 166, 82, 167, 255, 256, 83, 44, 52, 21, 16, 19, 18] := by kernel_rfl
theorem coordHomes_unf : Tryz.prog.unfollowed 7 = true := by
  unfold Program.unfollowed
  rw [coordHomes_clo]
  kernel_rfl
theorem coordHomes_fact1 : (fun (P : Program) (f : FuncId) (fn : Func) (s : ChangeSpec) (c : OpenClaim) => (c.wf (OpenSpec.ofChange s) : Bool)) Tryz.prog 7 Tryz.f7 Rows.coordHomesSpec Rows.coordHomesRow = true := by kernel_rfl
theorem coordHomes_fact2 : (fun (P : Program) (f : FuncId) (fn : Func) (s : ChangeSpec) (c : OpenClaim) => (laidOutB P : Bool)) Tryz.prog 7 Tryz.f7 Rows.coordHomesSpec Rows.coordHomesRow = true := by kernel_rfl
theorem coordHomes_fact3 : (fun (P : Program) (f : FuncId) (fn : Func) (s : ChangeSpec) (c : OpenClaim) => (mapsRowed P : Bool)) Tryz.prog 7 Tryz.f7 Rows.coordHomesSpec Rows.coordHomesRow = true := by kernel_rfl
theorem coordHomes_fact4 : (fun (P : Program) (f : FuncId) (fn : Func) (s : ChangeSpec) (c : OpenClaim) => (fn.params.all (P.readableRec ·) : Bool)) Tryz.prog 7 Tryz.f7 Rows.coordHomesSpec Rows.coordHomesRow = true := by kernel_rfl
theorem coordHomes_fact5 : (fun (P : Program) (f : FuncId) (fn : Func) (s : ChangeSpec) (c : OpenClaim) => (namedTie P c.named s.vars : Bool)) Tryz.prog 7 Tryz.f7 Rows.coordHomesSpec Rows.coordHomesRow = true := by kernel_rfl
theorem coordHomes_fact6 : (fun (P : Program) (f : FuncId) (fn : Func) (s : ChangeSpec) (c : OpenClaim) => ((c.stops == []) : Bool)) Tryz.prog 7 Tryz.f7 Rows.coordHomesSpec Rows.coordHomesRow = true := by kernel_rfl
theorem coordHomes_fact7 : (fun (P : Program) (f : FuncId) (fn : Func) (s : ChangeSpec) (c : OpenClaim) => ((P.stops == []) : Bool)) Tryz.prog 7 Tryz.f7 Rows.coordHomesSpec Rows.coordHomesRow = true := by kernel_rfl
theorem coordHomes_fact8 : (fun (P : Program) (f : FuncId) (fn : Func) (s : ChangeSpec) (c : OpenClaim) => ((c.knobs == []) : Bool)) Tryz.prog 7 Tryz.f7 Rows.coordHomesSpec Rows.coordHomesRow = true := by kernel_rfl
theorem coordHomes_fact9 : (fun (P : Program) (f : FuncId) (fn : Func) (s : ChangeSpec) (c : OpenClaim) => ((P.stopKnobs == []) : Bool)) Tryz.prog 7 Tryz.f7 Rows.coordHomesSpec Rows.coordHomesRow = true := by kernel_rfl
theorem coordHomes_fact10 : (fun (P : Program) (f : FuncId) (fn : Func) (s : ChangeSpec) (c : OpenClaim) => ((c.inPlace == P.inPlace f) : Bool)) Tryz.prog 7 Tryz.f7 Rows.coordHomesSpec Rows.coordHomesRow = true := by
  show (Rows.coordHomesRow.inPlace == Tryz.prog.inPlace 7) = true
  unfold Program.inPlace
  rw [coordHomes_clo]
  kernel_rfl
theorem coordHomes_fact11 : (fun (P : Program) (f : FuncId) (fn : Func) (s : ChangeSpec) (c : OpenClaim) => ((c.unfollowed == P.unfollowed f) : Bool)) Tryz.prog 7 Tryz.f7 Rows.coordHomesSpec Rows.coordHomesRow = true := by
  show (Rows.coordHomesRow.unfollowed == Tryz.prog.unfollowed 7) = true
  rw [coordHomes_unf]
  kernel_rfl
theorem coordHomes_fact12 : (fun (P : Program) (f : FuncId) (fn : Func) (s : ChangeSpec) (c : OpenClaim) => ((c.recurses == P.recurses f) : Bool)) Tryz.prog 7 Tryz.f7 Rows.coordHomesSpec Rows.coordHomesRow = true := by
  show (Rows.coordHomesRow.recurses == Tryz.prog.recurses 7) = true
  unfold Program.recurses
  rw [coordHomes_unf]
  kernel_rfl
theorem coordHomes_fact13 : (fun (P : Program) (f : FuncId) (fn : Func) (s : ChangeSpec) (c : OpenClaim) => ((c.named == P.varsNamed f) : Bool)) Tryz.prog 7 Tryz.f7 Rows.coordHomesSpec Rows.coordHomesRow = true := by
  show (Rows.coordHomesRow.named == Tryz.prog.varsNamed 7) = true
  unfold Program.varsNamed
  rw [coordHomes_clo]
  kernel_rfl
theorem coordHomes_fact14 : (fun (P : Program) (f : FuncId) (fn : Func) (s : ChangeSpec) (c : OpenClaim) => ((c.maps == (fn.params.toList ++ s.plain.varTypes P).any (P.mapsRec ·)) : Bool)) Tryz.prog 7 Tryz.f7 Rows.coordHomesSpec Rows.coordHomesRow = true := by kernel_rfl
theorem coordHomes_fact15 : (fun (P : Program) (f : FuncId) (fn : Func) (s : ChangeSpec) (c : OpenClaim) => ((c.ifaces == (fn.params.toList ++ s.plain.varTypes P).any (P.ifacesRec ·)) : Bool)) Tryz.prog 7 Tryz.f7 Rows.coordHomesSpec Rows.coordHomesRow = true := by kernel_rfl
theorem coordHomes_fact16 : (fun (P : Program) (f : FuncId) (fn : Func) (s : ChangeSpec) (c : OpenClaim) => ((c.mapsOut == P.mapsAmong fn.resultTypes.toList) : Bool)) Tryz.prog 7 Tryz.f7 Rows.coordHomesSpec Rows.coordHomesRow = true := by kernel_rfl
theorem coordHomes_fact17 : (fun (P : Program) (f : FuncId) (fn : Func) (s : ChangeSpec) (c : OpenClaim) => ((c.loops == (fn.params.toList ++ s.plain.varTypes P).any (P.loopsFrom ·)) : Bool)) Tryz.prog 7 Tryz.f7 Rows.coordHomesSpec Rows.coordHomesRow = true := by kernel_rfl
theorem coordHomes_fact18 : (fun (P : Program) (f : FuncId) (fn : Func) (s : ChangeSpec) (c : OpenClaim) => ((c.wideKeys == (fn.params.toList ++ s.plain.varTypes P ++ fn.resultTypes.toList).any (P.wideKeysFrom ·)) : Bool)) Tryz.prog 7 Tryz.f7 Rows.coordHomesSpec Rows.coordHomesRow = true := by kernel_rfl
theorem coordHomes_fact19 : (fun (P : Program) (f : FuncId) (fn : Func) (s : ChangeSpec) (c : OpenClaim) => (s.vars.all (P.varReadable ·) : Bool)) Tryz.prog 7 Tryz.f7 Rows.coordHomesSpec Rows.coordHomesRow = true := by kernel_rfl
theorem coordHomes_fact20 : (fun (P : Program) (f : FuncId) (fn : Func) (s : ChangeSpec) (c : OpenClaim) => (fn.resultTypes.all (fun t => P.readableRec t && decide (t < P.types.size)) : Bool)) Tryz.prog 7 Tryz.f7 Rows.coordHomesSpec Rows.coordHomesRow = true := by kernel_rfl
theorem coordHomes_fact21 : (fun (P : Program) (f : FuncId) (fn : Func) (s : ChangeSpec) (c : OpenClaim) => ((c.ifacesOut == fn.resultTypes.toList.any (P.ifacesRec ·)) : Bool)) Tryz.prog 7 Tryz.f7 Rows.coordHomesSpec Rows.coordHomesRow = true := by kernel_rfl
theorem coordHomes_fact22 : (fun (P : Program) (f : FuncId) (fn : Func) (s : ChangeSpec) (c : OpenClaim) => ((c.loopsOut == fn.resultTypes.toList.any (P.loopsFrom ·)) : Bool)) Tryz.prog 7 Tryz.f7 Rows.coordHomesSpec Rows.coordHomesRow = true := by kernel_rfl
theorem coordHomes_fact23 : (fun (P : Program) (f : FuncId) (fn : Func) (s : ChangeSpec) (c : OpenClaim) => ((c.plainKeys == P.plainKeys) : Bool)) Tryz.prog 7 Tryz.f7 Rows.coordHomesSpec Rows.coordHomesRow = true := by kernel_rfl
theorem coordHomes_fact24 : (fun (P : Program) (f : FuncId) (fn : Func) (s : ChangeSpec) (c : OpenClaim) => (c.shortTexts.isNone : Bool)) Tryz.prog 7 Tryz.f7 Rows.coordHomesSpec Rows.coordHomesRow = true := by kernel_rfl
theorem coordHomes_fact25 : (fun (P : Program) (f : FuncId) (fn : Func) (s : ChangeSpec) (c : OpenClaim) => (P.stopsHeard : Bool)) Tryz.prog 7 Tryz.f7 Rows.coordHomesSpec Rows.coordHomesRow = true := by kernel_rfl
theorem coordHomes_fact26 : (fun (P : Program) (f : FuncId) (fn : Func) (s : ChangeSpec) (c : OpenClaim) => (P.mayEnter : Bool)) Tryz.prog 7 Tryz.f7 Rows.coordHomesSpec Rows.coordHomesRow = true := by kernel_rfl
theorem coordHomes_fact27 : (fun (P : Program) (f : FuncId) (fn : Func) (s : ChangeSpec) (c : OpenClaim) => ((c.lifted == P.liftsFinal) : Bool)) Tryz.prog 7 Tryz.f7 Rows.coordHomesSpec Rows.coordHomesRow = true := by kernel_rfl
theorem coordHomes_fact28 : (fun (P : Program) (f : FuncId) (fn : Func) (s : ChangeSpec) (c : OpenClaim) => ((P.make == some c.make) : Bool)) Tryz.prog 7 Tryz.f7 Rows.coordHomesSpec Rows.coordHomesRow = true := by kernel_rfl
theorem coordHomes_fact29 : (fun (P : Program) (f : FuncId) (fn : Func) (s : ChangeSpec) (c : OpenClaim) => ((c.kinds == (if c.domain.isEmpty then [] else fn.params.toList.map fun t => match P.underlying t with | some (.int k) => some k | _ => none)) : Bool)) Tryz.prog 7 Tryz.f7 Rows.coordHomesSpec Rows.coordHomesRow = true := by kernel_rfl
theorem coordHomes_fact30 : (fun (P : Program) (f : FuncId) (fn : Func) (s : ChangeSpec) (c : OpenClaim) => ((c.pinned == c.pinnedBy) : Bool)) Tryz.prog 7 Tryz.f7 Rows.coordHomesSpec Rows.coordHomesRow = true := by kernel_rfl
theorem coordHomes_fact31 : (fun (P : Program) (f : FuncId) (fn : Func) (s : ChangeSpec) (c : OpenClaim) => ((c.veiled == (fn.params.toList ++ s.plain.varTypes P ++ fn.resultTypes.toList).any (P.veiledRec ·)) : Bool)) Tryz.prog 7 Tryz.f7 Rows.coordHomesSpec Rows.coordHomesRow = true := by kernel_rfl
theorem coordHomes_fact32 : (fun (P : Program) (f : FuncId) (fn : Func) (s : ChangeSpec) (c : OpenClaim) => (c.veiledFits P fn.params.toList (fn.params.toList ++ s.plain.varTypes P ++ fn.resultTypes.toList) : Bool)) Tryz.prog 7 Tryz.f7 Rows.coordHomesSpec Rows.coordHomesRow = true := by kernel_rfl
theorem coordHomes_closed : joinedFacts Tryz.prog 7 Tryz.f7 Rows.coordHomesSpec Rows.coordHomesRow = true := andI (andI (andI (andI (andI (andI (andI (andI (andI (andI (andI (andI (andI (andI (andI (andI (andI (andI (andI (andI (andI (andI (andI (andI (andI (andI (andI (andI (andI (andI (andI (coordHomes_fact1) coordHomes_fact2) coordHomes_fact3) coordHomes_fact4) coordHomes_fact5) coordHomes_fact6) coordHomes_fact7) coordHomes_fact8) coordHomes_fact9) coordHomes_fact10) coordHomes_fact11) coordHomes_fact12) coordHomes_fact13) coordHomes_fact14) coordHomes_fact15) coordHomes_fact16) coordHomes_fact17) coordHomes_fact18) coordHomes_fact19) coordHomes_fact20) coordHomes_fact21) coordHomes_fact22) coordHomes_fact23) coordHomes_fact24) coordHomes_fact25) coordHomes_fact26) coordHomes_fact27) coordHomes_fact28) coordHomes_fact29) coordHomes_fact30) coordHomes_fact31) coordHomes_fact32
end Go.Proofs.YtndjadliihggpaaGreatDoor
