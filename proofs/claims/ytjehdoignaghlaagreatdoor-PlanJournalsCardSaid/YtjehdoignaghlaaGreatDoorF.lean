/- CLOSED FACTS of the row and the card of PlanJournals; no condition. -/
import Derived.Test.YtjehdoignaghlaaGreatDoorCards
import Derived.JoinedOf
set_option linter.unusedVariables false
set_option linter.unusedSimpArgs false
set_option linter.unusedSectionVars false
set_option linter.unnecessarySimpa false

section
open Go Go.Proofs Go.Proofs.YtjehdoignaghlaaGreatDoor
namespace Go.Proofs.YtjehdoignaghlaaGreatDoor
def reached : List Nat := [3, 4, 7, 8, 14, 30, 61, 55, 105, 165, 104, 163, 205, 164, 202, 248, 249, 206, 251, 257, 299, 252, 296, 253, 291, 292, 254, 297, 298, 319, 255, 256, 258, 259, 62, 59, 106, 166, 207, 260, 300, 261, 262, 263, 301, 107, 167, 208, 264, 302, 303, 168, 209, 265, 210, 211, 65, 116, 175, 214, 215, 267, 268, 216, 217, 269, 270, 304, 305, 266, 212, 32, 66, 117, 176, 177, 118, 178, 119, 179, 218, 180, 219, 120, 121, 122, 10, 26, 12, 28, 60, 108, 169, 213, 31, 63, 109, 170, 171, 110, 111, 173, 172, 64, 112, 113, 174, 114, 115, 38, 81, 149, 201, 239, 245, 295, 240, 290, 241, 242, 293, 294, 318, 243, 244, 246, 247, 150, 82, 127, 83, 84, 13, 29, 85, 151, 33, 67, 123, 181, 37, 80, 35, 77, 145, 78, 124, 182, 220, 223, 271, 221, 272, 282, 306, 307, 321, 320, 322, 324, 345, 323, 326, 348, 365, 346, 363, 347, 364, 371, 372, 325, 222, 273, 308, 130, 192, 228, 188, 226, 280, 137, 195, 230, 161, 23, 229, 281, 193, 231, 232, 194, 233, 283, 234, 235, 236, 284, 316, 336, 337, 360, 338, 339, 361, 362, 370, 340, 341, 342, 343, 285, 287, 317, 344, 286, 288, 125, 183, 224, 274, 275, 310, 309, 276, 277, 311, 278, 312, 327, 328, 349, 366, 367, 373, 350, 351, 352, 353, 329, 313, 330, 331, 354, 355, 368, 374, 369, 279, 314, 332, 333, 356, 358, 357, 334, 315, 335, 359, 184, 68, 126, 185, 186, 225, 187, 189, 190, 227, 191, 131, 162, 128, 129, 34, 69, 132, 133, 70, 135, 134, 71, 72, 136, 138, 196, 197, 237, 289, 73, 139, 74, 141, 140, 75, 142, 76, 143, 144, 36, 79, 146, 198, 238, 147, 199, 200, 148, 15, 40, 41, 42, 18, 51, 101, 160, 88, 153, 152, 203, 204, 250, 97, 96, 159, 43, 44, 86, 87, 89, 154, 155, 90, 91, 92, 156, 157, 99, 93, 50, 100, 94, 95, 158, 46, 45, 39, 17, 16, 47, 48, 98, 49, 19, 9, 20, 52, 53, 27, 102, 56, 57, 21, 58, 54, 103, 22, 25, 24, 6, 5, 11]
theorem closure3 : Tryz.prog.closure 3 = reached := by kernel_rfl
theorem fact9 : ((Rows.planJournalsRow.inPlace == Tryz.prog.inPlace 3)) = true := by
  unfold Program.inPlace
  rw [closure3]
  kernel_rfl
theorem unfollowed3 : Tryz.prog.unfollowed 3 = true := by
  unfold Program.unfollowed
  rw [closure3]
  kernel_rfl
theorem fact10 : ((Rows.planJournalsRow.unfollowed == Tryz.prog.unfollowed 3)) = true := by
  rw [unfollowed3]
  rfl
theorem fact11 : ((Rows.planJournalsRow.recurses == Tryz.prog.recurses 3)) = true := by
  unfold Program.recurses
  rw [unfollowed3]
  rfl
theorem fact12 : ((Rows.planJournalsRow.named == Tryz.prog.varsNamed 3)) = true := by
  unfold Program.varsNamed
  rw [closure3]
  kernel_rfl
theorem fact0 : (Rows.planJournalsRow.wf (OpenSpec.ofChange Rows.planJournalsSpec)) = true := by kernel_rfl
theorem fact1 : (laidOutB Tryz.prog) = true := by kernel_rfl
theorem fact2 : (mapsRowed Tryz.prog) = true := by kernel_rfl
theorem fact3 : (Tryz.f3.params.all (Tryz.prog.readableRec ·)) = true := by kernel_rfl
theorem fact4 : (namedTie Tryz.prog Rows.planJournalsRow.named Rows.planJournalsSpec.vars) = true := by kernel_rfl
theorem fact5 : ((Rows.planJournalsRow.stops == [])) = true := by kernel_rfl
theorem fact6 : ((Tryz.prog.stops == [])) = true := by kernel_rfl
theorem fact7 : ((Rows.planJournalsRow.knobs == [])) = true := by kernel_rfl
theorem fact8 : ((Tryz.prog.stopKnobs == [])) = true := by kernel_rfl
theorem fact13 : ((Rows.planJournalsRow.maps == (Tryz.f3.params.toList ++ Rows.planJournalsSpec.plain.varTypes Tryz.prog).any (Tryz.prog.mapsRec ·))) = true := by kernel_rfl
theorem fact14 : ((Rows.planJournalsRow.ifaces == (Tryz.f3.params.toList ++ Rows.planJournalsSpec.plain.varTypes Tryz.prog).any (Tryz.prog.ifacesRec ·))) = true := by kernel_rfl
theorem fact15 : ((Rows.planJournalsRow.mapsOut == Tryz.prog.mapsAmong Tryz.f3.resultTypes.toList)) = true := by kernel_rfl
theorem fact16 : ((Rows.planJournalsRow.loops == (Tryz.f3.params.toList ++ Rows.planJournalsSpec.plain.varTypes Tryz.prog).any (Tryz.prog.loopsFrom ·))) = true := by kernel_rfl
theorem fact17 : ((Rows.planJournalsRow.wideKeys == (Tryz.f3.params.toList ++ Rows.planJournalsSpec.plain.varTypes Tryz.prog ++ Tryz.f3.resultTypes.toList).any (Tryz.prog.wideKeysFrom ·))) = true := by kernel_rfl
theorem fact18 : (Rows.planJournalsSpec.vars.all (Tryz.prog.varReadable ·)) = true := by kernel_rfl
theorem fact19 : (Tryz.f3.resultTypes.all (fun t => Tryz.prog.readableRec t && decide (t < Tryz.prog.types.size))) = true := by kernel_rfl
theorem fact20 : ((Rows.planJournalsRow.ifacesOut == Tryz.f3.resultTypes.toList.any (Tryz.prog.ifacesRec ·))) = true := by kernel_rfl
theorem fact21 : ((Rows.planJournalsRow.loopsOut == Tryz.f3.resultTypes.toList.any (Tryz.prog.loopsFrom ·))) = true := by kernel_rfl
theorem fact22 : ((Rows.planJournalsRow.plainKeys == Tryz.prog.plainKeys)) = true := by kernel_rfl
theorem fact23 : (Rows.planJournalsRow.shortTexts.isNone) = true := by kernel_rfl
theorem fact24 : (Tryz.prog.stopsHeard) = true := by kernel_rfl
theorem fact25 : (Tryz.prog.mayEnter) = true := by kernel_rfl
theorem fact26 : ((Rows.planJournalsRow.lifted == Tryz.prog.liftsFinal)) = true := by kernel_rfl
theorem fact27 : ((Tryz.prog.make == some Rows.planJournalsRow.make)) = true := by kernel_rfl
theorem fact29 : ((Rows.planJournalsRow.pinned == Rows.planJournalsRow.pinnedBy)) = true := by kernel_rfl
theorem fact30 : ((Rows.planJournalsRow.veiled == (Tryz.f3.params.toList ++ Rows.planJournalsSpec.plain.varTypes Tryz.prog ++ Tryz.f3.resultTypes.toList).any (Tryz.prog.veiledRec ·))) = true := by kernel_rfl
theorem fact31 : (Rows.planJournalsRow.veiledFits Tryz.prog Tryz.f3.params.toList (Tryz.f3.params.toList ++ Rows.planJournalsSpec.plain.varTypes Tryz.prog ++ Tryz.f3.resultTypes.toList)) = true := by kernel_rfl
theorem card_wf : Rows.planJournalsRow.wfByText (OpenSpec.ofChange Rows.planJournalsSpec) = true := by kernel_rfl
theorem card_main : Tryz.prog.mainIs = some (true, "e3462d2a6dafebd48484e4761135b7c9c8ac4445dc08c23bfe8dfe8982fd1b41".toList) := by kernel_rfl
theorem card_looks : true = Tryz.prog.looks [] := by kernel_rfl
theorem card_named : Tryz.prog.funcNamed "alluvium/alluviumlaw18.PlanJournals" = some 3 := by kernel_rfl
theorem card_stand : ([5, 9].all fun u => !Tryz.prog.wantsStandIn u) = true := by kernel_rfl
theorem goes3 : Tryz.prog.goes 3 = false := by
  unfold Program.goes
  rw [closure3, unfollowed3]
  kernel_rfl
theorem card_goes : false = Rows.planJournalsRow.goesBy Tryz.prog := by
  show false = ((Tryz.prog.funcNamed "alluvium/alluviumlaw18.PlanJournals").any Tryz.prog.goes || false)
  rw [card_named]
  simp [goes3]
end Go.Proofs.YtjehdoignaghlaaGreatDoor
end
