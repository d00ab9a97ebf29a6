/- THE CLOSED RUN works() OF LAYER 18 ANSWERS true, whatever the memory beside the listed variables; no condition. -/
import Derived.Test.YtjehdoignaghlaaGreatDoorC
set_option linter.unusedVariables false
set_option linter.unusedSimpArgs false
set_option linter.unusedSectionVars false
set_option linter.unnecessarySimpa false

section
open Go Go.Lg Go.Proofs
namespace Go.Lg
def W18a0 : LState := glob ++ [.map [] 0,
  .map [] 0,
  oc 50 [vm 10, vm 11, vl0 0 0, vi 10000, vi 0, vi (-1), vf]]
def W18b0 : LState := upd W18a0 [(12, oc 50 [vm 91, vm 91, vl0 0 0, vi 10000, vi 10, vi (-1), vf])] ++ [oc 63 [vi 0, vi 0, vi 0, vl0 0 0, vl0 0 0, vi 0, vl0 0 0, vi 0, vi 0, vl0 0 0, vi 0, vf, vi 0, vl0 0 0],
  oc 63 [vi 0, vi 0, vi 0, vl0 0 0, vl0 0 0, vi 0, vl0 0 0, vi 0, vi 0, vl0 0 0, vi 0, vf, vi 0, vl0 0 0],
  .dead,
  oc 63 [vi 3, vi 1, vi 0, vl0 0 0, vl0 0 0, vi 0, vl0 0 0, vi 0, vi 0, vl0 0 0, vi 10, vf, vi 3, vl0 0 0],
  oc 28 [vp 12 0],
  oc 59 [vi 3, vl0 0 0],
  oc 5 [vy 3, vy 0],
  oc 9 [vs [65, 87, 65, 76, 3, 0, 129, 14, 245, 133]],
  oc 59 [vi 3, vl0 0 0],
  oc 23 [vi 0],
  oc 53 [vi 3, vi 1, vi 0, vl0 0 0],
  oc 53 [vi 3, vi 1, vi 0, vl0 0 0],
  oc 3 [vi 0],
  oc 3 [vi 1, vi 1, vi 0],
  oc 208 [vp 27 0, vl 33 0 3 1180591620717411303427],
  oc 253 [vy 1, vy 0, vy 0, vy 0, vy 0, vy 0, vy 0, vy 0, vy 0, vy 0],
  .dead,
  oc 253 [vy 1, vy 0, vy 0, vy 0, vy 0, vy 0, vy 0, vy 0, vy 0, vy 0],
  .dead,
  oc 253 [vy 0, vy 0, vy 0, vy 0, vy 0, vy 0, vy 0, vy 0, vy 0, vy 0],
  .cells [vy 1, vy 1, vy 0] 5 true none,
  oc 5 [vy 3, vy 0],
  oc 253 [vy 3, vy 0, vy 0, vy 0, vy 0, vy 0, vy 0, vy 0, vy 0, vy 0],
  oc 9 [vs [65, 77, 69, 84, 3, 0, 39, 201, 67, 140, 3, 1, 1, 0, 247, 200, 166, 156]],
  oc 23 [vi 0],
  oc 112 [vfn 40 [] [vp 22 0], vfn 41 [] [vp 37 0], vfn 42 [] [vp 17 0], vfn 43 [] [vp 17 0, vp 20 0], vfn 45 [] [vp 17 0, vp 36 0]],
  .dead,
  oc 28 [vp 12 0],
  oc 9 [vs [119, 97, 108, 45, 48, 48, 48, 48, 48, 48]],
  oc 9 [vs [65, 87, 65, 76, 3, 0, 129, 14, 245, 133]],
  oc 9 [vs [116, 109, 112, 45, 119, 97, 108, 45, 48, 48, 48, 48, 48, 48]],
  .dead,
  oc 9 [vs [116, 109, 112, 45, 119, 97, 108, 45, 48, 48, 48, 48, 48, 48]],
  oc 28 [vp 12 0],
  oc 255 [vfn 155 [] [vp 45 0]],
  .map [⟨vs [116, 109, 112, 45, 119, 97, 108, 45, 48, 48, 48, 48, 48, 48], vp 49 0, 0⟩] 1,
  oc 84 [vs [65, 87, 65, 76, 3, 0, 129, 14, 245, 133], vs [65, 87, 65, 76, 3, 0, 129, 14, 245, 133], vl0 0 0],
  oc 47 [vm 48],
  .cells [vm 48] 47 false (some 65),
  oc 4 [vt],
  oc 112 [vfn 91 [] [vp 40 0, vp 43 0, vp 42 0], vfn 93 [] [vp 40 0, vp 43 0], vfn 94 [] [vp 40 0, vp 43 0, vp 41 0]],
  oc 9 [vs [65, 87, 65, 76, 3, 0, 129, 14, 245, 133]],
  oc 79 [vp 49 0],
  oc 258 [vif 256 (vs [65, 87, 65, 76, 3, 0, 129, 14, 245, 133])],
  oc 258 [vif 256 (vs [65, 87, 65, 76, 3, 0, 129, 14, 245, 133])],
  oc 9 [vs [116, 109, 112, 45, 119, 97, 108, 45, 48, 48, 48, 48, 48, 48]],
  oc 9 [vs [119, 97, 108, 45, 48, 48, 48, 48, 48, 48]],
  oc 79 [vp 49 0],
  oc 28 [vp 12 0],
  oc 255 [vfn 158 [] [vp 58 0, vp 60 0, vp 59 0]],
  .map [⟨vs [119, 97, 108, 45, 48, 48, 48, 48, 48, 48], vp 49 0, 1⟩] 2,
  oc 47 [vm 63],
  .cells [vm 48, vm 63] 47 false (some 51),
  oc 28 [vp 12 0],
  oc 28 [vp 12 0],
  oc 9 [vs [109, 101, 116, 97]],
  oc 9 [vs [65, 77, 69, 84, 3, 0, 39, 201, 67, 140, 3, 1, 1, 0, 247, 200, 166, 156]],
  oc 9 [vs [116, 109, 112, 45, 109, 101, 116, 97]],
  .dead,
  oc 9 [vs [119, 97, 108, 45, 48, 48, 48, 48, 48, 48]],
  oc 9 [vs [116, 109, 112, 45, 109, 101, 116, 97]],
  oc 28 [vp 12 0],
  oc 255 [vfn 155 [] [vp 73 0]],
  .map [⟨vs [119, 97, 108, 45, 48, 48, 48, 48, 48, 48], vp 49 0, 1⟩, ⟨vs [116, 109, 112, 45, 109, 101, 116, 97], vp 77 0, 2⟩] 3,
  oc 84 [vs [65, 77, 69, 84, 3, 0, 39, 201, 67, 140, 3, 1, 1, 0, 247, 200, 166, 156], vs [65, 77, 69, 84, 3, 0, 39, 201, 67, 140, 3, 1, 1, 0, 247, 200, 166, 156], vl0 0 0],
  oc 47 [vm 76],
  .cells [vm 76] 47 false (some 93),
  oc 4 [vt],
  oc 112 [vfn 91 [] [vp 67 0, vp 70 0, vp 69 0], vfn 93 [] [vp 67 0, vp 70 0], vfn 94 [] [vp 67 0, vp 70 0, vp 68 0]],
  oc 9 [vs [65, 77, 69, 84, 3, 0, 39, 201, 67, 140, 3, 1, 1, 0, 247, 200, 166, 156]],
  oc 79 [vp 77 0],
  oc 258 [vif 256 (vs [65, 77, 69, 84, 3, 0, 39, 201, 67, 140, 3, 1, 1, 0, 247, 200, 166, 156])],
  oc 258 [vif 256 (vs [65, 77, 69, 84, 3, 0, 39, 201, 67, 140, 3, 1, 1, 0, 247, 200, 166, 156])],
  oc 9 [vs [116, 109, 112, 45, 109, 101, 116, 97]],
  oc 9 [vs [109, 101, 116, 97]],
  oc 79 [vp 77 0],
  oc 28 [vp 12 0],
  oc 255 [vfn 158 [] [vp 86 0, vp 88 0, vp 87 0]],
  .map [⟨vs [119, 97, 108, 45, 48, 48, 48, 48, 48, 48], vp 49 0, 1⟩, ⟨vs [109, 101, 116, 97], vp 77 0, 3⟩] 4,
  oc 47 [vm 91],
  .cells [vm 76, vm 91] 47 false (some 79),
  oc 28 [vp 12 0],
  oc 63 [vi 3, vi 1, vi 0, vl0 0 0, vl0 0 0, vi 0, vl0 0 0, vi 0, vi 0, vl0 0 0, vi 10, vf, vi 3, vl0 0 0],
  oc 63 [vi 3, vi 1, vi 0, vl0 0 0, vl0 0 0, vi 0, vl0 0 0, vi 0, vi 0, vl0 0 0, vi 10, vf, vi 3, vl0 0 0],
  .dead,
  oc 9 [vs [109, 101, 116, 97], vs [119, 97, 108, 45, 48, 48, 48, 48, 48, 48]],
  oc 5 [vy 48, vy 48, vy 48, vy 48, vy 48, vy 48],
  oc 53 [vi 3, vi 1, vi 0, vl0 0 0],
  oc 199 [vs [247, 200, 166, 156], vf],
  oc 3 [vi 3],
  oc 3 [vi 3],
  oc 53 [vi 3, vi 1, vi 0, vl0 0 0],
  oc 199 [vs [], vf],
  oc 53 [vi 3, vi 1, vi 0, vl0 0 0],
  oc 53 [vi 3, vi 1, vi 0, vl0 0 0],
  oc 53 [vi 3, vi 1, vi 0, vl0 0 0],
  oc 53 [vi 3, vi 1, vi 0, vl0 0 0],
  oc 3 [vi 0],
  oc 3 [vi 1, vi 1, vi 0],
  oc 208 [vp 112 0, vl 118 0 3 1180591620717411303427],
  oc 253 [vy 1, vy 0, vy 0, vy 0, vy 0, vy 0, vy 0, vy 0, vy 0, vy 0],
  .dead,
  oc 253 [vy 1, vy 0, vy 0, vy 0, vy 0, vy 0, vy 0, vy 0, vy 0, vy 0],
  .dead,
  oc 253 [vy 0, vy 0, vy 0, vy 0, vy 0, vy 0, vy 0, vy 0, vy 0, vy 0],
  .cells [vy 1, vy 1, vy 0] 5 true none,
  oc 5 [vy 3, vy 0],
  oc 253 [vy 3, vy 0, vy 0, vy 0, vy 0, vy 0, vy 0, vy 0, vy 0, vy 0],
  oc 61 [vi 0, vl0 0 0, vi 10, vf, vi 3, vl0 0 0],
  oc 59 [vi 0, vl0 0 0],
  .map [] 0,
  oc 167 [vl0 0 0, vm 123],
  oc 61 [vi 0, vl0 0 0, vi 10, vf, vi 3, vl0 0 0],
  oc 56 [vl0 0 0, vi 0],
  oc 56 [vl0 0 0, vi 0],
  oc 68 [vi 3, vi 1, vi 0, vl0 0 0, vl0 0 0, vi 0, vl0 0 0, vi 0, vi 0, vl0 0 0, vi 10, vf, vi 3, vl0 0 0, vp 12 0],
  oc 53 [vi 3, vi 1, vi 0, vl0 0 0],
  oc 9 [vs [109, 101, 116, 97], vs [119, 97, 108, 45, 48, 48, 48, 48, 48, 48]],
  .dead,
  oc 9 [vs [109, 101, 116, 97], vs [119, 97, 108, 45, 48, 48, 48, 48, 48, 48]]]
def W18b1 : LState := upd W18b0 [] ++ [oc 3 [vi 2],
  oc 36 [vi 2, vl 183 0 2 1180591620717411303426, vl 188 0 0 1180591620717411303426, vf],
  oc 56 [vl0 0 0, vi 0],
  .dead,
  oc 9 [vs [109, 101, 116, 97], vs [119, 97, 108, 45, 48, 48, 48, 48, 48, 48]],
  oc 5 [vy 48, vy 48, vy 48, vy 48, vy 48, vy 48],
  oc 119 [vl 183 0 2 1180591620717411303426, vl0 0 0, vi 0],
  oc 53 [vi 3, vi 1, vi 0, vl0 0 0],
  oc 199 [vs [247, 200, 166, 156], vf],
  oc 3 [vi 3],
  oc 3 [vi 3],
  oc 53 [vi 3, vi 1, vi 0, vl0 0 0],
  oc 199 [vs [], vf],
  oc 53 [vi 3, vi 1, vi 0, vl0 0 0],
  oc 53 [vi 3, vi 1, vi 0, vl0 0 0],
  oc 53 [vi 3, vi 1, vi 0, vl0 0 0],
  oc 53 [vi 3, vi 1, vi 0, vl0 0 0],
  oc 3 [vi 0],
  oc 3 [vi 1, vi 1, vi 0],
  oc 208 [vp 152 0, vl 158 0 3 1180591620717411303427],
  oc 253 [vy 1, vy 0, vy 0, vy 0, vy 0, vy 0, vy 0, vy 0, vy 0, vy 0],
  .dead,
  oc 253 [vy 1, vy 0, vy 0, vy 0, vy 0, vy 0, vy 0, vy 0, vy 0, vy 0],
  .dead,
  oc 253 [vy 0, vy 0, vy 0, vy 0, vy 0, vy 0, vy 0, vy 0, vy 0, vy 0],
  .cells [vy 1, vy 1, vy 0] 5 true none,
  oc 5 [vy 3, vy 0],
  oc 253 [vy 3, vy 0, vy 0, vy 0, vy 0, vy 0, vy 0, vy 0, vy 0, vy 0],
  oc 53 [vi 3, vi 1, vi 0, vl0 0 0],
  oc 133 [vi 0, vl0 0 0, vl0 0 0, vi 0],
  oc 43 [vs [109, 101, 116, 97], vi 3, vi 0],
  oc 122 [vi 3, vi 1, vi 0, vl0 0 0],
  oc 43 [vs [109, 101, 116, 97], vi 3, vi 0],
  oc 43 [vs [109, 101, 116, 97], vi 3, vi 0],
  oc 53 [vi 3, vi 1, vi 0, vl0 0 0],
  oc 43 [vs [109, 101, 116, 97], vi 3, vi 0],
  oc 5 [vy 48, vy 48, vy 48, vy 48, vy 48, vy 48],
  oc 61 [vi 0, vl0 0 0, vi 10, vf, vi 3, vl0 0 0],
  oc 59 [vi 0, vl0 0 0],
  .map [] 0,
  oc 167 [vl0 0 0, vm 172],
  oc 61 [vi 0, vl0 0 0, vi 10, vf, vi 3, vl0 0 0],
  oc 61 [vi 0, vl0 0 0, vi 10, vf, vi 3, vl0 0 0],
  oc 133 [vi 0, vl0 0 0, vl0 0 0, vi 0],
  oc 43 [vs [119, 97, 108, 45, 48, 48, 48, 48, 48, 48], vi 3, vi 0],
  oc 124 [vi 0, vl0 0 0, vi 10, vf, vi 3, vl0 0 0],
  oc 43 [vs [119, 97, 108, 45, 48, 48, 48, 48, 48, 48], vi 3, vi 0],
  .cells [vs [119, 97, 108, 45, 48, 48, 48, 48, 48, 48], vi 3, vi 0] 43 false (some 183),
  oc 61 [vi 0, vl0 0 0, vi 10, vf, vi 3, vl0 0 0],
  oc 43 [vs [109, 101, 116, 97], vi 3, vi 0],
  .cells [vs [119, 97, 108, 45, 48, 48, 48, 48, 48, 48], vi 3, vi 0, vs [109, 101, 116, 97], vi 3, vi 0] 43 false (some 180),
  oc 56 [vl0 0 0, vi 0],
  oc 56 [vl0 0 0, vi 0],
  oc 56 [vl0 0 0, vi 0],
  .dead,
  oc 9 [vs [], vs []],
  oc 9 [vs [109, 101, 116, 97]],
  oc 43 [vs [119, 97, 108, 45, 48, 48, 48, 48, 48, 48], vi 3, vi 0],
  oc 43 [vs [109, 101, 116, 97], vi 3, vi 0],
  oc 9 [vs [119, 97, 108, 45, 48, 48, 48, 48, 48, 48]],
  oc 43 [vs [119, 97, 108, 45, 48, 48, 48, 48, 48, 48], vi 3, vi 0],
  oc 56 [vl0 0 0, vi 0],
  oc 43 [vs [119, 97, 108, 45, 48, 48, 48, 48, 48, 48], vi 3, vi 0],
  oc 43 [vs [109, 101, 116, 97], vi 3, vi 0],
  oc 43 [vs [119, 97, 108, 45, 48, 48, 48, 48, 48, 48], vi 3, vi 0],
  oc 43 [vs [109, 101, 116, 97], vi 3, vi 0]]
def W18a2 : LState := upd W18b1 [] ++ [oc 36 [vi 2, vl 183 0 2 1180591620717411303426, vl 188 0 0 1180591620717411303426, vf]]
def W18b2 : LState := upd W18a2 [] ++ [oc 3 [vi 3],
  oc 36 [vi 3, vl 250 0 0 1180591620717411303426, vl 255 0 0 1180591620717411303426, vf],
  oc 56 [vl0 0 0, vi 0],
  .dead,
  oc 9 [vs [109, 101, 116, 97], vs [119, 97, 108, 45, 48, 48, 48, 48, 48, 48]],
  oc 5 [vy 48, vy 48, vy 48, vy 48, vy 48, vy 48],
  oc 119 [vl 250 0 2 1180591620717411303426, vl0 0 0, vi 0],
  oc 53 [vi 3, vi 1, vi 0, vl0 0 0],
  oc 199 [vs [247, 200, 166, 156], vf],
  oc 3 [vi 3],
  oc 3 [vi 3],
  oc 53 [vi 3, vi 1, vi 0, vl0 0 0],
  oc 199 [vs [], vf],
  oc 53 [vi 3, vi 1, vi 0, vl0 0 0],
  oc 53 [vi 3, vi 1, vi 0, vl0 0 0],
  oc 53 [vi 3, vi 1, vi 0, vl0 0 0],
  oc 53 [vi 3, vi 1, vi 0, vl0 0 0],
  oc 3 [vi 0],
  oc 3 [vi 1, vi 1, vi 0],
  oc 208 [vp 219 0, vl 225 0 3 1180591620717411303427],
  oc 253 [vy 1, vy 0, vy 0, vy 0, vy 0, vy 0, vy 0, vy 0, vy 0, vy 0],
  .dead,
  oc 253 [vy 1, vy 0, vy 0, vy 0, vy 0, vy 0, vy 0, vy 0, vy 0, vy 0],
  .dead,
  oc 253 [vy 0, vy 0, vy 0, vy 0, vy 0, vy 0, vy 0, vy 0, vy 0, vy 0],
  .cells [vy 1, vy 1, vy 0] 5 true none,
  oc 5 [vy 3, vy 0],
  oc 253 [vy 3, vy 0, vy 0, vy 0, vy 0, vy 0, vy 0, vy 0, vy 0, vy 0],
  oc 53 [vi 3, vi 1, vi 0, vl0 0 0],
  oc 133 [vi 0, vl0 0 0, vl0 0 0, vi 0],
  oc 43 [vs [109, 101, 116, 97], vi 3, vi 0],
  oc 122 [vi 3, vi 1, vi 0, vl0 0 0],
  oc 43 [vs [109, 101, 116, 97], vi 3, vi 0],
  oc 43 [vs [109, 101, 116, 97], vi 3, vi 0],
  oc 53 [vi 3, vi 1, vi 0, vl0 0 0],
  oc 43 [vs [109, 101, 116, 97], vi 3, vi 0],
  oc 5 [vy 48, vy 48, vy 48, vy 48, vy 48, vy 48],
  oc 61 [vi 0, vl0 0 0, vi 10, vf, vi 3, vl0 0 0],
  oc 59 [vi 0, vl0 0 0],
  .map [] 0,
  oc 167 [vl0 0 0, vm 239],
  oc 61 [vi 0, vl0 0 0, vi 10, vf, vi 3, vl0 0 0],
  oc 61 [vi 0, vl0 0 0, vi 10, vf, vi 3, vl0 0 0],
  oc 133 [vi 0, vl0 0 0, vl0 0 0, vi 0],
  oc 43 [vs [119, 97, 108, 45, 48, 48, 48, 48, 48, 48], vi 3, vi 0],
  oc 124 [vi 0, vl0 0 0, vi 10, vf, vi 3, vl0 0 0],
  oc 43 [vs [119, 97, 108, 45, 48, 48, 48, 48, 48, 48], vi 3, vi 0],
  .dead,
  oc 61 [vi 0, vl0 0 0, vi 10, vf, vi 3, vl0 0 0],
  oc 43 [vs [109, 101, 116, 97], vi 3, vi 0],
  oc 43 [vs [], vi 0, vi 0, vs [], vi 0, vi 0],
  oc 56 [vl0 0 0, vi 0],
  oc 56 [vl0 0 0, vi 0],
  oc 56 [vl0 0 0, vi 0],
  .dead,
  oc 9 [vs [], vs []],
  oc 9 [vs [109, 101, 116, 97]],
  oc 43 [vs [119, 97, 108, 45, 48, 48, 48, 48, 48, 48], vi 3, vi 0],
  oc 43 [vs [109, 101, 116, 97], vi 3, vi 0],
  oc 9 [vs [119, 97, 108, 45, 48, 48, 48, 48, 48, 48]],
  oc 43 [vs [119, 97, 108, 45, 48, 48, 48, 48, 48, 48], vi 3, vi 0],
  oc 56 [vl0 0 0, vi 0],
  oc 43 [vs [119, 97, 108, 45, 48, 48, 48, 48, 48, 48], vi 3, vi 0],
  oc 43 [vs [109, 101, 116, 97], vi 3, vi 0],
  oc 43 [vs [119, 97, 108, 45, 48, 48, 48, 48, 48, 48], vi 3, vi 0],
  oc 43 [vs [109, 101, 116, 97], vi 3, vi 0],
  oc 43 [vs [109, 101, 116, 97], vi 3, vi 0]]
def W18a3 : LState := upd W18b2 [] ++ [oc 36 [vi 3, vl 250 0 0 1180591620717411303426, vl 255 0 0 1180591620717411303426, vf],
  oc 5 [vy 2, vy 0]]
def W18b3 : LState := upd W18a3 [] ++ [oc 53 [vi 3, vi 1, vi 0, vl0 0 0],
  oc 199 [vs [247, 200, 166, 156], vf],
  oc 3 [vi 3],
  oc 3 [vi 3],
  oc 53 [vi 3, vi 1, vi 0, vl0 0 0],
  oc 199 [vs [], vf],
  oc 53 [vi 3, vi 1, vi 0, vl0 0 0],
  oc 53 [vi 3, vi 1, vi 0, vl0 0 0],
  oc 53 [vi 3, vi 1, vi 0, vl0 0 0],
  oc 53 [vi 3, vi 1, vi 0, vl0 0 0],
  oc 3 [vi 0],
  oc 3 [vi 1, vi 1, vi 0],
  oc 208 [vp 281 0, vl 287 0 3 1180591620717411303427],
  oc 253 [vy 1, vy 0, vy 0, vy 0, vy 0, vy 0, vy 0, vy 0, vy 0, vy 0],
  .dead,
  oc 253 [vy 1, vy 0, vy 0, vy 0, vy 0, vy 0, vy 0, vy 0, vy 0, vy 0],
  .dead,
  oc 253 [vy 0, vy 0, vy 0, vy 0, vy 0, vy 0, vy 0, vy 0, vy 0, vy 0],
  .cells [vy 1, vy 1, vy 0] 5 true none,
  oc 5 [vy 3, vy 0],
  oc 253 [vy 3, vy 0, vy 0, vy 0, vy 0, vy 0, vy 0, vy 0, vy 0, vy 0],
  oc 53 [vi 3, vi 1, vi 0, vl0 0 0],
  oc 122 [vi 1, vi 1, vi 0, vl0 0 0],
  oc 53 [vi 1, vi 1, vi 0, vl0 0 0],
  oc 53 [vi 1, vi 1, vi 0, vl0 0 0],
  oc 3 [vi 0],
  oc 3 [vi 1, vi 0, vi 0],
  oc 208 [vp 296 0, vl 302 0 24 1180591620717411303448],
  oc 292 [vy 1, vy 0, vy 0, vy 0, vy 0, vy 0, vy 0, vy 0],
  .dead,
  oc 292 [vy 0, vy 0, vy 0, vy 0, vy 0, vy 0, vy 0, vy 0],
  .dead,
  oc 292 [vy 0, vy 0, vy 0, vy 0, vy 0, vy 0, vy 0, vy 0],
  .cells [vy 1, vy 0, vy 0, vy 0, vy 0, vy 0, vy 0, vy 0, vy 0, vy 0, vy 0, vy 0, vy 0, vy 0, vy 0, vy 0, vy 0, vy 0, vy 0, vy 0, vy 0, vy 0, vy 0, vy 0] 5 true none,
  oc 5 [vy 1, vy 0],
  oc 253 [vy 24, vy 0, vy 0, vy 0, vy 0, vy 0, vy 0, vy 0, vy 0, vy 0]]
def W18b4 : LState := upd W18b3 [] ++ [oc 53 [vi 1, vi 1, vi 0, vl0 0 0],
  oc 199 [vs [37, 3, 32, 59], vf],
  oc 3 [vi 24],
  oc 3 [vi 1],
  oc 53 [vi 1, vi 1, vi 0, vl0 0 0],
  oc 199 [vs [], vf],
  oc 53 [vi 1, vi 1, vi 0, vl0 0 0],
  oc 53 [vi 1, vi 1, vi 0, vl0 0 0],
  oc 53 [vi 1, vi 1, vi 0, vl0 0 0],
  oc 53 [vi 1, vi 1, vi 0, vl0 0 0],
  oc 3 [vi 0],
  oc 3 [vi 1, vi 0, vi 0],
  oc 208 [vp 317 0, vl 323 0 24 1180591620717411303448],
  oc 292 [vy 1, vy 0, vy 0, vy 0, vy 0, vy 0, vy 0, vy 0],
  .dead,
  oc 292 [vy 0, vy 0, vy 0, vy 0, vy 0, vy 0, vy 0, vy 0],
  .dead,
  oc 292 [vy 0, vy 0, vy 0, vy 0, vy 0, vy 0, vy 0, vy 0],
  .cells [vy 1, vy 0, vy 0, vy 0, vy 0, vy 0, vy 0, vy 0, vy 0, vy 0, vy 0, vy 0, vy 0, vy 0, vy 0, vy 0, vy 0, vy 0, vy 0, vy 0, vy 0, vy 0, vy 0, vy 0] 5 true none,
  oc 5 [vy 1, vy 0],
  oc 253 [vy 24, vy 0, vy 0, vy 0, vy 0, vy 0, vy 0, vy 0, vy 0, vy 0],
  oc 53 [vi 1, vi 1, vi 0, vl0 0 0],
  oc 122 [vi 3, vi 1, vi 0, vl0 0 0],
  oc 53 [vi 3, vi 1, vi 0, vl0 0 0],
  oc 53 [vi 3, vi 1, vi 0, vl0 0 0],
  oc 3 [vi 0],
  oc 3 [vi 1, vi 1, vi 0],
  oc 208 [vp 332 0, vl 338 0 3 1180591620717411303427],
  oc 253 [vy 1, vy 0, vy 0, vy 0, vy 0, vy 0, vy 0, vy 0, vy 0, vy 0],
  .dead,
  oc 253 [vy 1, vy 0, vy 0, vy 0, vy 0, vy 0, vy 0, vy 0, vy 0, vy 0],
  .dead,
  oc 253 [vy 0, vy 0, vy 0, vy 0, vy 0, vy 0, vy 0, vy 0, vy 0, vy 0],
  .cells [vy 1, vy 1, vy 0] 5 true none,
  oc 5 [vy 3, vy 0],
  oc 253 [vy 3, vy 0, vy 0, vy 0, vy 0, vy 0, vy 0, vy 0, vy 0, vy 0]]
def W18b5 : LState := upd W18b4 [] ++ [oc 360 [vs [65, 116, 111, 105], vs [], vif 384 (vp 8 0)]]
def W18k0 : Known := ⟨8, [vp 12 0, vi 3], W18a0, vtu [vp 128 0, vi 0], W18b0⟩
def W18k1 : Known := ⟨9, [vp 12 0, vi 2], W18b0, vtu [vg [vi 2, vl 183 0 2 1180591620717411303426, vl 188 0 0 1180591620717411303426, vf], vi 0], W18b1⟩
def W18k2 : Known := ⟨9, [vp 12 0, vi 3], W18a2, vtu [vg [vi 3, vl 250 0 0 1180591620717411303426, vl 255 0 0 1180591620717411303426, vf], vi 0], W18b2⟩
def W18k3 : Known := ⟨11, [vs [109, 101, 116, 97], vs [65, 77, 69, 84, 3, 0, 39, 201, 67, 140, 3, 1, 1, 0, 247, 200, 166, 156], vi 1], W18a3, vtu [vs [65, 77, 69, 84, 1, 0, 201, 249, 6, 171, 24, 1, 0, 0, 0, 0, 0, 0, 0, 0, 0, 0, 0, 0, 0, 0, 0, 0, 0, 0, 0, 0, 0, 0, 0, 37, 3, 32, 59], vi 0], W18b3⟩
def W18k4 : Known := ⟨11, [vs [109, 101, 116, 97], vs [65, 77, 69, 84, 1, 0, 201, 249, 6, 171, 24, 1, 0, 0, 0, 0, 0, 0, 0, 0, 0, 0, 0, 0, 0, 0, 0, 0, 0, 0, 0, 0, 0, 0, 0, 37, 3, 32, 59], vi 3], W18b3, vtu [vs [65, 77, 69, 84, 3, 0, 39, 201, 67, 140, 3, 1, 1, 0, 247, 200, 166, 156], vi 0], W18b4⟩
def W18k5 : Known := ⟨11, [vs [111, 116, 104, 101, 114], vs [], vi 3], W18b4, vtu [vs [], vi 11], W18b5⟩
end Go.Lg
end

section
open Go Go.Lg Go.Proofs
namespace Go.Lg
theorem W18t0_run : answers ((deep Tryz.prog (withK [] BT) 100000 40).call W18k0.f W18k0.args W18k0.pre) W18k0.val W18k0.post = true := by kernel_rfl
end Go.Lg
end

section
open Go Go.Lg Go.Proofs
namespace Go.Lg
theorem W18t1_run : answers ((deep Tryz.prog (withK [] BT) 100000 40).call W18k1.f W18k1.args W18k1.pre) W18k1.val W18k1.post = true := by kernel_rfl
end Go.Lg
end

section
open Go Go.Lg Go.Proofs
namespace Go.Lg
theorem W18t2_run : answers ((deep Tryz.prog (withK [] BT) 100000 40).call W18k2.f W18k2.args W18k2.pre) W18k2.val W18k2.post = true := by kernel_rfl
end Go.Lg
end

section
open Go Go.Lg Go.Proofs
namespace Go.Lg
theorem W18t3_run : answers ((deep Tryz.prog (withK [] BT) 100000 40).call W18k3.f W18k3.args W18k3.pre) W18k3.val W18k3.post = true := by kernel_rfl
end Go.Lg
end

section
open Go Go.Lg Go.Proofs
namespace Go.Lg
theorem W18t4_run : answers ((deep Tryz.prog (withK [] BT) 100000 40).call W18k4.f W18k4.args W18k4.pre) W18k4.val W18k4.post = true := by kernel_rfl
end Go.Lg
end

section
open Go Go.Lg Go.Proofs
namespace Go.Lg
theorem W18t5_run : answers ((deep Tryz.prog (withK [] BT) 100000 40).call W18k5.f W18k5.args W18k5.pre) W18k5.val W18k5.post = true := by kernel_rfl
end Go.Lg
end

section
open Go Go.Lg Go.Proofs
namespace Go.Lg
def W18K : List Known := [W18k0, W18k1, W18k2, W18k3, W18k4, W18k5]
def W18end : LState := W18b5
theorem W18_run : answers ((deep Tryz.prog (withK W18K BT) 100000 40).call 4 [] glob) vt W18end = true := by kernel_rfl
end Go.Lg
end

section
open Go Go.Lg Go.Proofs
namespace Go.Lg
theorem noKnown : ∀ k ∈ ([] : List Known), k.True := fun _ h => by cases h
theorem W18K_true : ∀ k ∈ W18K, k.True := by
  intro k hk
  simp only [W18K, List.mem_cons, List.not_mem_nil, or_false] at hk
  rcases hk with rfl | rfl | rfl | rfl | rfl | rfl
  · exact known_of_run noKnown (fn := Tryz.f8) Tryz.func8 rfl W18t0_run
  · exact known_of_run noKnown (fn := Tryz.f9) Tryz.func9 rfl W18t1_run
  · exact known_of_run noKnown (fn := Tryz.f9) Tryz.func9 rfl W18t2_run
  · exact known_of_run noKnown (fn := Tryz.f11) Tryz.func11 rfl W18t3_run
  · exact known_of_run noKnown (fn := Tryz.f11) Tryz.func11 rfl W18t4_run
  · exact known_of_run noKnown (fn := Tryz.f11) Tryz.func11 rfl W18t5_run
theorem works18 : Enters Tryz.prog 4 ∧ LCalls Tryz.prog 4 [] glob vt W18end :=
  ⟨enters_of_body tryz_plain Tryz.func4 rfl, ((deep_sound tryz_plain tryz_mixed (withK_sound W18K_true BT_sound) 100000 40).call _ _ _ _ _ (answers_eq W18_run)).2⟩
end Go.Lg
end
