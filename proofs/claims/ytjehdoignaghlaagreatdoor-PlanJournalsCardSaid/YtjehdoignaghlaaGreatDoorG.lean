/- PlanJournals: for every generation (uint8) and every text behind the journal the law returns true and leaves its arguments as they were; the condition: the listed variables of the library hold what the text lays (the card ties that). -/
import Derived.Test.YtjehdoignaghlaaGreatDoorRows
import Derived.ProofKit
import Derived.LaidMore
import Derived.LaidLaws
import Derived.OpenShut
import Derived.Test.YtjehdoignaghlaaGreatDoorCards
import Derived.Test.YtjehdoignaghlaaGreatDoorTie
import Derived.Lay
import Derived.SevenTiedAt
import Derived.Stop.Joined
import Derived.HandedShaped
import Derived.Test.YtjehdoignaghlaaGreatDoorE
import Derived.Test.YtjehdoignaghlaaGreatDoorF
set_option linter.unusedVariables false
set_option linter.unusedSimpArgs false
set_option linter.unusedSectionVars false
set_option linter.unnecessarySimpa false

section
open Go Go.Lg Go.Proofs Go.Proofs.YtjehdoignaghlaaGreatDoor
namespace Go.Lg
open Go.ChangeShapes Go.RowKit

theorem chunks {α : Type} (s : Nat) (g : α → List Value) : ∀ (ds : List α) (cs : List Value), cs.length = ds.length * s → (∀ (i : Nat) (d : α), ds[i]? = some d → (cs.drop (i * s)).take s = g d) → cs = ds.flatMap g
  | [], cs, h, _ => by simp at h; simp [h]
  | d :: r, cs, h, hc => by
    have h0 := hc 0 d rfl
    simp only [Nat.zero_mul, List.drop_zero] at h0
    have ih := chunks s g r (cs.drop s) (by simp at h ⊢; rw [h, Nat.succ_mul]; omega) fun i e hi => by
      have := hc (i + 1) e (by simpa using hi)
      rw [Nat.succ_mul, Nat.add_comm] at this
      rw [List.drop_drop]
      exact this
    rw [List.flatMap_cons, ← h0, ← ih, List.take_append_drop]

def valOf {H : Type} : DataW H → Value
  | .lit (.int k n) => .int k n
  | _ => undef
def pairOf {H : Type} : DataW H → List Value
  | .agg [x, y] => [valOf x, valOf y]
  | _ => []

section
variable {H : Type} {enc : TypeId × Value → H} {P : Program} {w : World} {base : Nat} {spare : Nat → Bool} {held : Bool}

theorem ints_of_trod {fuel : Nat} {t n e : Nat} {k : IntKind} (ht : P.underlying t = some (.array n e)) (he : P.underlying e = some (.int k)) (hc : P.cellsOf e = 1) (hn : P.cellsOf t = n) {cs : List Value} {ds : List (DataW H)} {p : List MemPlace}
    (h : DataW.trod enc P w base spare held fuel t cs = some (.agg ds, p)) : cs = ds.flatMap fun d => [valOf d] := by
  obtain ⟨xs, m, _, ex, hl, hx, hel⟩ := DataW.trod_array ht h
  have e1 : xs.map (·.1) = ds := (DataW.agg.inj (Prod.mk.inj ex).1).symm
  have hlen : ds.length = n := by rw [← e1, List.length_map, hx]
  refine chunks 1 _ ds cs (by rw [hl, hn, hlen, Nat.mul_one]) fun i d hi => ?_
  have hin : i < n := by rw [← hlen]; exact get_lt hi
  have hE := hel i hin
  rw [hc] at hE
  rw [← e1, List.getElem?_map] at hi
  cases hxi : xs[i]? with
  | none => simp [hxi] at hi
  | some x =>
    simp [hxi] at hi
    rw [hxi] at hE
    obtain ⟨z, h1, h2, _⟩ := DataW.trod_int he hE
    rw [h1, ← hi, h2]
    rfl

theorem pairs_of_trod {fuel : Nat} {t n e : Nat} {fs : Array Field} {f0 f1 : Field} {k : IntKind} (ht : P.underlying t = some (.array n e)) (he : P.underlying e = some (.struct fs)) (hf : fs = #[f0, f1])
    (h0 : f0.offset = 0) (h1 : f1.offset = 1) (t0 : P.underlying f0.type = some (.int k)) (t1 : P.underlying f1.type = some (.int k)) (c0 : P.cellsOf f0.type = 1) (c1 : P.cellsOf f1.type = 1)
    (hc : P.cellsOf e = 2) (hn : P.cellsOf t = n * 2) {cs : List Value} {ds : List (DataW H)} {p : List MemPlace}
    (h : DataW.trod enc P w base spare held fuel t cs = some (.agg ds, p)) : cs = ds.flatMap pairOf := by
  obtain ⟨xs, m, _, ex, hl, hx, hel⟩ := DataW.trod_array ht h
  have e1 : xs.map (·.1) = ds := (DataW.agg.inj (Prod.mk.inj ex).1).symm
  have hlen : ds.length = n := by rw [← e1, List.length_map, hx]
  refine chunks 2 _ ds cs (by rw [hl, hn, hlen]) fun i d hi => ?_
  have hin : i < n := by rw [← hlen]; exact get_lt hi
  have hE := hel i hin
  rw [hc] at hE
  rw [← e1, List.getElem?_map] at hi
  cases hxi : xs[i]? with
  | none => simp [hxi] at hi
  | some x =>
    simp [hxi] at hi
    rw [hxi] at hE
    obtain ⟨ys, m', _, ey, hly, hy, hey⟩ := DataW.trod_struct he hE
    subst hf
    have g0 := hey 0 f0 rfl
    have g1 := hey 1 f1 rfl
    rw [h0, c0] at g0
    rw [h1, c1] at g1
    match ys, hy with
    | [y0, y1], _ =>
      obtain ⟨z0, a0, b0, _⟩ := DataW.trod_int t0 g0
      obtain ⟨z1, a1, b1, _⟩ := DataW.trod_int t1 g1
      generalize (cs.drop (i * 2)).take 2 = l at a0 a1 hly
      rw [hc] at hly
      match l, hly with
      | [u, v], _ =>
        simp at a0 a1
        rw [← hi, ey, b0, b1, a0, a1]
        rfl
end

end Go.Lg
end

section
open Go Go.Lg Go.Proofs Go.Proofs.YtjehdoignaghlaaGreatDoor
namespace Go.Lg
open Go.ChangeShapes Go.RowKit

theorem gn4 : Tryz.prog.globalNamed "math/bits.deBruijn32tab" = some 4 := by kernel_rfl
theorem gn5 : Tryz.prog.globalNamed "math/bits.deBruijn64tab" = some 5 := by kernel_rfl
theorem gn3 : Tryz.prog.globalNamed "internal/strconv.uint64pow10" = some 3 := by kernel_rfl
theorem gn7 : Tryz.prog.globalNamed "unicode/utf8.acceptRanges" = some 7 := by kernel_rfl
theorem gn2 : Tryz.prog.globalNamed "strconv.ErrRange" = some 2 := by kernel_rfl
theorem gn1 : Tryz.prog.globalNamed "strconv.ErrSyntax" = some 1 := by kernel_rfl
theorem gt4 : (Tryz.prog.globals[4]?).map (·.type) = some 403 := by kernel_rfl
theorem gt5 : (Tryz.prog.globals[5]?).map (·.type) = some 404 := by kernel_rfl
theorem gt3 : (Tryz.prog.globals[3]?).map (·.type) = some 363 := by kernel_rfl
theorem gt7 : (Tryz.prog.globals[7]?).map (·.type) = some 464 := by kernel_rfl
theorem gt2 : (Tryz.prog.globals[2]?).map (·.type) = some 192 := by kernel_rfl
theorem gt1 : (Tryz.prog.globals[1]?).map (·.type) = some 192 := by kernel_rfl
theorem gsize : Tryz.prog.globals.size = 8 := by kernel_rfl
theorem gr4 : ((((begin Tryz.prog (fun _ _ => 0) default).world.heap[4]?).bind Obj.row?).map (·.2)) = some 403 := by kernel_rfl
theorem gr5 : ((((begin Tryz.prog (fun _ _ => 0) default).world.heap[5]?).bind Obj.row?).map (·.2)) = some 404 := by kernel_rfl
theorem gr3 : ((((begin Tryz.prog (fun _ _ => 0) default).world.heap[3]?).bind Obj.row?).map (·.2)) = some 363 := by kernel_rfl
theorem gr7 : ((((begin Tryz.prog (fun _ _ => 0) default).world.heap[7]?).bind Obj.row?).map (·.2)) = some 464 := by kernel_rfl
theorem gr2 : ((((begin Tryz.prog (fun _ _ => 0) default).world.heap[2]?).bind Obj.row?).map (·.2)) = some 192 := by kernel_rfl
theorem gr1 : ((((begin Tryz.prog (fun _ _ => 0) default).world.heap[1]?).bind Obj.row?).map (·.2)) = some 192 := by kernel_rfl
theorem ce403 : Tryz.prog.cellsOf 403 = 32 := by kernel_rfl
theorem ce404 : Tryz.prog.cellsOf 404 = 64 := by kernel_rfl
theorem ce363 : Tryz.prog.cellsOf 363 = 20 := by kernel_rfl
theorem ce464 : Tryz.prog.cellsOf 464 = 16 * 2 := by kernel_rfl
theorem ce143 : Tryz.prog.cellsOf 143 = 1 := by kernel_rfl
theorem ce463 : Tryz.prog.cellsOf 463 = 2 := by kernel_rfl
theorem ce386 : Tryz.prog.cellsOf 386 = 1 := by kernel_rfl
theorem ce9 : Tryz.prog.cellsOf 9 = 1 := by kernel_rfl
theorem ce5 : Tryz.prog.cellsOf 5 = 1 := by kernel_rfl

theorem block_of {W : World} {n : String} {g : Nat} {t : TypeId} {cs : Array Value} (hg : Tryz.prog.globalNamed n = some g) (hv : W.var? Tryz.prog n = some cs) (hs : W.ShapedOpen Tryz.prog)
    (hr : ((((begin Tryz.prog (fun _ _ => 0) default).world.heap[g]?).bind Obj.row?).map (·.2)) = some t) (hlt : g < 8) : W.heap[g]? = some (.cells cs t) := by
  cases hz : ((begin Tryz.prog (fun _ _ => 0) default).world.heap[g]?).bind Obj.row? with
  | none => rw [hz] at hr; cases hr
  | some zt =>
    obtain ⟨zero, t'⟩ := zt
    rw [hz] at hr
    obtain rfl : t' = t := by simpa using hr
    obtain ⟨cs', h1, _⟩ := hs.1 g zero t' (by rw [gsize]; exact hlt) hz
    simp only [World.var?, hg, Option.bind_some, h1, Option.some.injEq] at hv
    rw [h1, hv]


/-- Which type has that name. -/
theorem starName : "*" ++ "errors.errorString" = "*errors.errorString" := by decide
theorem named384 (u : TypeId) (h : Tryz.prog.typeName? 3 u = some "*errors.errorString") : u = 384 :=
  typeName_ptr_named (nm := "errors.errorString") (by rw [starName]; kernel_rfl) (by kernel_rfl) (by decide) u (by rw [starName]; exact h)

def rhoAt (a b : Addr) : List Loc := [⟨0, 0, 0⟩, ⟨1, 0, 0⟩, ⟨2, 0, 0⟩, ⟨3, 0, 0⟩, ⟨4, 0, 0⟩, ⟨5, 0, 0⟩, ⟨6, 0, 0⟩, ⟨7, 0, 0⟩, ⟨a.block, a.off, 0⟩, ⟨b.block, b.off, 0⟩]

theorem obj_ro {ρ : List Loc} {W : World} {g : Nat} {c : List Value} {e : TypeId} {cs : Array Value} (h : W.heap[g]? = some (.cells cs e)) (hc : ∀ (k : Nat) (v : Value), c[k]? = some v → ∃ v', cs[k]? = some v' ∧ ren ρ v = some v') (hl : c.length ≤ cs.size) :
    ObjRel Tryz.prog ρ W ⟨g, 0, 0⟩ (.cells c e true none) := by
  refine ⟨cs, (0, 0), h, by simpa using hl, fun k v hk => ?_, fun h => by simp at h⟩
  simpa using hc k v hk

theorem obj_flat {ρ : List Loc} {W : World} {g : Nat} {c : List Value} {e : TypeId} {cs : Array Value} (h : W.heap[g]? = some (.cells cs e)) (hc : cs.toList = c) (hf : flatL c = true) :
    ObjRel Tryz.prog ρ W ⟨g, 0, 0⟩ (.cells c e true none) := by
  subst hc
  refine obj_ro h (fun k v hk => ⟨v, by simpa using hk, ?_⟩) (by simp)
  obtain ⟨v', h1, h2⟩ := renL_get (renL_flat ρ hf) hk
  rw [h1] at hk
  cases hk
  exact h2

theorem glob_kinds {i : Nat} {o : LObj} (h : glob[i]? = some o) : o = .dead ∨ ∃ c e, o = .cells c e true none := by
  have hl := get_lt h
  have : i < 10 := hl
  have hm : o ∈ glob := List.mem_of_getElem? h
  simp only [glob, List.mem_cons, List.not_mem_nil, or_false] at hm
  rcases hm with rfl | rfl | rfl | rfl | rfl | rfl | rfl | rfl | rfl | rfl
  · exact .inl rfl
  · exact .inr ⟨_, _, rfl⟩
  · exact .inr ⟨_, _, rfl⟩
  · exact .inr ⟨_, _, rfl⟩
  · exact .inr ⟨_, _, rfl⟩
  · exact .inr ⟨_, _, rfl⟩
  · exact .inl rfl
  · exact .inr ⟨_, _, rfl⟩
  · exact .inl rfl
  · exact .inl rfl

set_option maxRecDepth 100000 in
theorem rel_glob {W : World} (h : laidMetH Tryz.prog Rows.planJournalsRow.laid W) (hs : W.ShapedOpen Tryz.prog) : ∃ ρ, Rel Tryz.prog glob ρ W := by
  rw [MakeChecks.laidMetH_plain _ _ _ (by kernel_rfl)] at h
  obtain ⟨ps, ⟨g4, t4, cs4, f4, p4, q4, hg4, ht4, hv4, hd4, ⟨g5, t5, cs5, f5, p5, q5, hg5, ht5, hv5, hd5, ⟨g3, t3, cs3, f3, p3, q3, hg3, ht3, hv3, hd3, ⟨g7, t7, cs7, f7, p7, q7, hg7, ht7, hv7, hd7,
    ⟨g2, t2, cs2, f2, p2, q2, hg2, ht2, hv2, hd2, ⟨g1, t1, cs1, f1, p1, q1, hg1, ht1, hv1, hd1, _, e1⟩, e2⟩, e7⟩, e3⟩, e5⟩, e4⟩, _, hps⟩ := h
  obtain rfl := Option.some.inj (gn4.symm.trans hg4)
  obtain rfl := Option.some.inj (gn5.symm.trans hg5)
  obtain rfl := Option.some.inj (gn3.symm.trans hg3)
  obtain rfl := Option.some.inj (gn7.symm.trans hg7)
  obtain rfl := Option.some.inj (gn2.symm.trans hg2)
  obtain rfl := Option.some.inj (gn1.symm.trans hg1)
  obtain rfl := Option.some.inj (gt4.symm.trans ht4)
  obtain rfl := Option.some.inj (gt5.symm.trans ht5)
  obtain rfl := Option.some.inj (gt3.symm.trans ht3)
  obtain rfl := Option.some.inj (gt7.symm.trans ht7)
  obtain rfl := Option.some.inj (gt2.symm.trans ht2)
  obtain rfl := Option.some.inj (gt1.symm.trans ht1)
  have b4 := block_of gn4 hv4 hs gr4 (by decide)
  have b5 := block_of gn5 hv5 hs gr5 (by decide)
  have b3 := block_of gn3 hv3 hs gr3 (by decide)
  have b7 := block_of gn7 hv7 hs gr7 (by decide)
  have b2 := block_of gn2 hv2 hs gr2 (by decide)
  have b1 := block_of gn1 hv1 hs gr1 (by decide)
  have c4 : cs4.toList = glob4 := ints_of_trod Tryz.underlying403 Tryz.underlying5 ce5 ce403 hd4
  have c5 : cs5.toList = glob5 := ints_of_trod Tryz.underlying404 Tryz.underlying5 ce5 ce404 hd5
  have c3 : cs3.toList = glob3 := ints_of_trod Tryz.underlying363 Tryz.underlying143 ce143 ce363 hd3
  have c7 : cs7.toList = glob7 := pairs_of_trod Tryz.underlying464 Tryz.underlying463 rfl rfl rfl Tryz.underlying5 Tryz.underlying5 ce5 ce5 ce463 ce464 hd7
  have okAt : ∀ {g : Nat} {cs : Array Value} {n : String}, Tryz.prog.globalNamed n = some g → W.var? Tryz.prog n = some cs → (cs.size = 1 → MemPlace.cell g 0 ∈ ps) → ∀ u v, cs.toList = [.iface u v] → Value.okWide Tryz.prog W .any 0 u v := by
    intro g cs n hg hv hm u v hc
    refine (hps g 0 (hm (by rw [← Array.length_toList, hc]; rfl))).2 u v ?_
    rw [World.var?_cell hg hv 0]
    have : cs.toList[0]? = some (.iface u v) := by rw [hc]; rfl
    simpa using this
  have m2 : cs2.size = 1 → MemPlace.cell 2 0 ∈ ps := by
    intro h
    rw [e4, e5, e3, e7, e2]
    simp only [List.mem_append]
    exact .inr (.inr (.inr (.inr (.inl (.inl (by simp [MemPlace.row, h]))))))
  have m1 : cs1.size = 1 → MemPlace.cell 1 0 ∈ ps := by
    intro h
    rw [e4, e5, e3, e7, e2, e1]
    simp only [List.mem_append]
    exact .inr (.inr (.inr (.inr (.inr (.inl (.inl (by simp [MemPlace.row, h])))))))
  obtain ⟨a2, s2, c2, k2, _, _, _⟩ := errorString_of_trod Tryz.underlying192 named384 Tryz.underlying384 Tryz.underlying386 rfl rfl Tryz.underlying9 ce386 ce9 hd2 (okAt gn2 hv2 m2)
  obtain ⟨a1, s1, c1, k1, _, _, _⟩ := errorString_of_trod Tryz.underlying192 named384 Tryz.underlying384 Tryz.underlying386 rfl rfl Tryz.underlying9 ce386 ce9 hd1 (okAt gn1 hv1 m1)
  have sp1 := World.cell?_spot k1
  have sp2 := World.cell?_spot k2
  have lt_of : ∀ {a : Addr} {v : Value}, W.cell? a = some v → a.block < W.heap.size := by
    intro a v h
    rcases Nat.lt_or_ge a.block W.heap.size with h1 | h1
    · exact h1
    · simp [World.cell?, Array.getElem?_eq_none h1] at h
  have l7 : 7 < W.heap.size := by
    rcases Nat.lt_or_ge 7 W.heap.size with h1 | h1
    · exact h1
    · simp [Array.getElem?_eq_none h1] at b7
  have one : ∀ {a : Addr} {cs : Array Value} {i : Nat}, cs.toList = [.iface 384 (.pointer (some a))] → (rhoAt a1 a2)[i]? = some ⟨a.block, a.off, 0⟩ → a.spot = none →
      ∀ (k : Nat) (v : Value), ([.iface 384 (.pointer (some ⟨i, 0, none⟩))] : List Value)[k]? = some v → ∃ v', cs[k]? = some v' ∧ ren (rhoAt a1 a2) v = some v' := by
    intro a cs i hc hr hsp k v hk
    have hk0 : k = 0 := by have := get_lt hk; simpa using this
    subst hk0
    simp only [List.getElem?_cons_zero, Option.some.injEq] at hk
    subst hk
    obtain ⟨ab, ao, asp⟩ := a
    simp only at hsp hr
    subst hsp
    refine ⟨.iface 384 (.pointer (some ⟨ab, ao, none⟩)), ?_, ?_⟩
    · have : cs.toList[0]? = some (.iface 384 (.pointer (some ⟨ab, ao, none⟩))) := by rw [hc]; rfl
      simpa using this
    · simp [ren, hr]
  refine ⟨rhoAt a1 a2, rfl, ?_, ?_, ?_, ?_, ?_⟩
  · intro g hg
    rw [gsize] at hg
    rcases (by omega : g = 0 ∨ g = 1 ∨ g = 2 ∨ g = 3 ∨ g = 4 ∨ g = 5 ∨ g = 6 ∨ g = 7) with rfl | rfl | rfl | rfl | rfl | rfl | rfl | rfl <;> rfl
  · intro i L hL
    have hm := List.mem_of_getElem? hL
    simp only [rhoAt, List.mem_cons, List.not_mem_nil, or_false] at hm
    rcases hm with rfl | rfl | rfl | rfl | rfl | rfl | rfl | rfl | rfl | rfl <;> first | exact lt_of k1 | exact lt_of k2 | exact Nat.lt_of_le_of_lt (by decide) l7
  · intro i o L ho hL
    have hi : i < 10 := get_lt ho
    rcases (by omega : i = 0 ∨ i = 1 ∨ i = 2 ∨ i = 3 ∨ i = 4 ∨ i = 5 ∨ i = 6 ∨ i = 7 ∨ i = 8 ∨ i = 9) with rfl | rfl | rfl | rfl | rfl | rfl | rfl | rfl | rfl | rfl <;>
      (simp only [glob, rhoAt, List.getElem?_cons_zero, List.getElem?_cons_succ, Option.some.injEq] at ho hL; subst ho; subst hL)
    · trivial
    · exact obj_ro b1 (one c1 rfl sp1) (by rw [← Array.length_toList, c1]; exact Nat.le_refl _)
    · exact obj_ro b2 (one c2 rfl sp2) (by rw [← Array.length_toList, c2]; exact Nat.le_refl _)
    · exact obj_flat b3 c3 rfl
    · exact obj_flat b4 c4 rfl
    · exact obj_flat b5 c5 rfl
    · trivial
    · exact obj_flat b7 c7 rfl
    · trivial
    · trivial
  · intro i j o p L M ho hp _ _ _ _
    rcases glob_kinds ho with rfl | ⟨c, e, rfl⟩
    · simp [Exempt]
    · rcases glob_kinds hp with rfl | ⟨c', e', rfl⟩
      · simp [Exempt]
      · exact .inl ⟨rfl, rfl⟩
  · intro i c e ro k L ho hL
    have hi : i < 10 := get_lt ho
    rcases (by omega : i < 8 ∨ i = 8 ∨ i = 9) with h8 | rfl | rfl
    · have : L.off = 0 := by
        rcases (by omega : i = 0 ∨ i = 1 ∨ i = 2 ∨ i = 3 ∨ i = 4 ∨ i = 5 ∨ i = 6 ∨ i = 7) with rfl | rfl | rfl | rfl | rfl | rfl | rfl | rfl <;>
          (simp only [rhoAt, List.getElem?_cons_zero, List.getElem?_cons_succ, Option.some.injEq] at hL; subst hL; rfl)
      rw [this]; simp
    · simp [glob] at ho
    · simp [glob] at ho
end Go.Lg
end

section
open Go Go.Lg Go.Proofs Go.Proofs.YtjehdoignaghlaaGreatDoor
namespace Go.Proofs.YtjehdoignaghlaaGreatDoor
open Go.ChangeShapes Go.WideShapes Go.ChangeAt Go.RowKit

theorem own : ownKnob Tryz.prog.godebug = none := by kernel_rfl

theorem returns_shaped_and {H : Type} {enc : TypeId × Value → H} {a : Assume} {C : Checked} {os : Os} {f : FuncId} {fn : Func} {s : ChangeSpec} {conds : List PathCond} {apart fresh handsOn again : Bool} {X : World → Array Value → Prop}
    (hX : ∀ (w w' : World) (args : Array Value), w.heap = w'.heap → X w args → X w' args)
    (own : ownKnob C.prog.godebug = none) (started : os.Started) (noInit : C.prog.inits.idxOf? f = none) (hfn : C.prog.funcs[f]? = some fn)
    (witness : ∃ (w : World) (tape : Tape) (i : Input), w.os = os ∧ (w.forCall tape i).Shaped C.prog ∧ i.vars = [] ∧ Input.okWide C.prog (w.forCall tape i) .any w.heap.size f i ∧
      ((s.pre enc C.prog fn conds apart (w.forCall tape i).memory i.args ∧ X (w.forCall tape i).memory i.args) ∧ sizedMet enc C.prog fn (OpenSpec.ofChange s) apart (w.forCall tape i).memory i.args) ∧ a.holds C.prog (lone (Frame.enter C.prog f i.args .normal) [] (w.forCall tape i)))
    (contract : ∀ (W : World) (base : Nat) (args : Array Value) (ds gs : List (DataW H)) (before : List MemPlace),
      (∀ (j : Nat) t v, fn.params[j]? = some t → args[j]? = some v → Value.okWide C.prog W .any base t v) →
      DataW.Whole enc C.prog fn.params.toList s.vars apart W args.toList ds gs before →
      W.ShapedOpen C.prog → X W args →
      Calls C.prog f args W fun e W' => ∃ v, e = .returned v ∧ s.post enc C.prog fn apart fresh handsOn again W args v W') :
    ReturnsInHanded a C os f .any (fun w args => (s.pre enc C.prog fn conds apart w args ∧ X w args) ∧ sizedMet enc C.prog fn (OpenSpec.ofChange s) apart w args) (s.post enc C.prog fn apart fresh handsOn again) := by
  refine returnsInHanded_of_calls own started noInit witness ?_
  intro w tape i _ hsh _ hok hpre _
  obtain ⟨_, _, _, fn', hfn', _, _, _, _, hval⟩ := hok
  have e : fn' = fn := Option.some.inj (hfn'.symm.trans hfn)
  subst e
  obtain ⟨⟨⟨ds, gs, before, hw, _⟩, hx⟩, _⟩ := hpre
  have hw' := DataW.Whole.of_heap (w' := w.forCall tape i) (by rfl) hw
  refine (contract (w.forCall tape i) w.heap.size i.args ds gs before hval hw' hsh (hX _ _ _ (by rfl) hx)).mono fun e W' ⟨v, he, hp⟩ => ?_
  subst he
  exact ChangeSpec.post_blind hp

theorem keptBut_of_blocks {w w' : World} {may : MemPlace → Prop} (h1 : w'.os = w.os) (h2 : w'.output = w.output) (h3 : ∀ b, b < w.heap.size → w'.heap[b]? = w.heap[b]?) : w.keptBut w' may := by
  refine ⟨h1, h2, fun i hi => ?_⟩
  rw [h3 i hi]
  cases h : w.heap[i]? with
  | none => rfl
  | some o => cases o <;> simp

theorem not_owned_glob {ρ : List Lg.Loc} {b : Nat} : ¬ Owned glob ρ b := by
  rintro ⟨i, o, L, ho, _, hw, _⟩
  rcases glob_kinds ho with rfl | ⟨c, e, rfl⟩
  · simp [LObj.writable] at hw
  · simp [LObj.writable] at hw

/-- What the whole call comes to. -/
theorem walk (g : Nat) (hg : g < 256) (s : ByteArray) (W : World) (hL : laidMetH Tryz.prog Rows.planJournalsRow.laid W) (hs : W.ShapedOpen Tryz.prog) :
    Calls Tryz.prog 3 #[.int .u8 (.ofNat g), .string s] W fun e W' => e = .returned (.bool true) ∧ W'.os = W.os ∧ W'.output = W.output ∧ ∀ b, b < W.heap.size → W'.heap[b]? = W.heap[b]? := by
  obtain ⟨ρ, hR⟩ := rel_glob hL hs
  obtain ⟨⟨m⟩⟩ := s
  refine (planJournals_calls g hg m ρ W _ hR (renL_flat ρ rfl)).mono ?_
  rintro e W' ⟨v', ρ', rfl, hv, _, hE⟩
  have : v' = .bool true := by simpa [vt, ren] using hv.symm
  subst this
  exact ⟨rfl, hE.os, hE.output, fun b hb => hE.keep b hb not_owned_glob⟩

set_option maxRecDepth 100000 in
theorem lifted (os : Os) (started : os.Started) (H : Type) (enc : TypeId × Value → H) :
    ReturnsInHanded {} Tryz.checked os 3 .any (fun w args => (Rows.planJournalsSpec.pre enc Tryz.prog Tryz.f3 [] false w args ∧ laidMetH Tryz.prog Rows.planJournalsRow.laid w) ∧ sizedMet enc Tryz.prog Tryz.f3 (OpenSpec.ofChange Rows.planJournalsSpec) false w args)
      (Rows.planJournalsSpec.post enc Tryz.prog Tryz.f3 false true false false) := by
  refine returns_shaped_and (C := Tryz.checked) (X := fun w _ => laidMetH Tryz.prog Rows.planJournalsRow.laid w) (fun _ _ _ hh h => h.of_heap hh) own started (by kernel_rfl) Tryz.func3
    (ChangeSpec.witness_shaped (enc := enc) (C := Tryz.checked) (os := os) (X := fun w _ => laidMetH Tryz.prog Rows.planJournalsRow.laid w) false (World.laidAll Tryz.prog os Rows.planJournalsRow.laid) #[.int .u8 0, .string ⟨#[]⟩] 8 (World.laidAll_os _ _ _)
      (World.shaped_of_ZipB (by kernel_rfl) (by kernel_rfl)) (by kernel_rfl) (by kernel_rfl) (by kernel_rfl)
      (by rw [MakeChecks.laidMetH_plain _ _ _ (by kernel_rfl)]; exact laidMet_laidAll _ (by kernel_rfl) (by kernel_rfl))) ?_
  intro W base args ds gs before hval0 hW hs hL
  have hval : ∀ (j : Nat) t v, Tryz.f3.params[j]? = some t → args[j]? = some v → Value.okWide Tryz.prog W .any base t v := hval0
  have hW' := hW
  obtain ⟨p, q, hA0, hV, rfl, _, _⟩ := hW
  have hA : DataW.TrodAll enc Tryz.prog W 0 (fun _ => true) true Tryz.f3.params.toList args.toList ds p := hA0
  rw [Tryz.params3] at hA hval
  obtain ⟨v0, v1, d0, d1, p0, p1, rfl, rfl, rfl, h0, h1⟩ := trodAll_two hA
  obtain ⟨rfl, rfl⟩ := trodVars_none hV
  obtain ⟨x, rfl, rfl, rfl, wx⟩ := open_int Tryz.underlying5 (hval 0 5 v0 rfl rfl) h0
  obtain ⟨s, rfl, rfl, rfl, hsz⟩ := ChangeMaps.open_string Tryz.underlying9 (hval 1 9 v1 rfl rfl) h1
  have hx : 0 ≤ x ∧ x < 256 := by
    simp [Lit.wf, IntKind.min, IntKind.max, IntKind.signed, IntKind.bits] at wx
    omega
  obtain ⟨g, rfl⟩ : ∃ g : Nat, x = Int.ofNat g := ⟨x.toNat, by simp; omega⟩
  have hg : g < 256 := by have := hx.2; simp at this; omega
  refine (walk g hg s W hL hs).mono ?_
  rintro e W' ⟨rfl, ho, hout, hk⟩
  refine ⟨_, rfl, _, _, _, [], [], [], hW', ?_, ?_, ?_, keptBut_of_blocks ho hout hk, fun h => by cases h⟩
  · exact trodAll_mk1 (shut_bool Tryz.underlying4 true)
  · exact trodAll_mk2 (shut_int Tryz.underlying5 wx) (ChangeMaps.shut_string Tryz.underlying9 hsz)
  · rfl

end Go.Proofs.YtjehdoignaghlaaGreatDoor
end

section
open Go Go.Lg Go.Proofs Go.Proofs.YtjehdoignaghlaaGreatDoor
namespace Go.Proofs.YtjehdoignaghlaaGreatDoor
open Go.ChangeShapes Go.WideShapes Go.ChangeAt Go.RowKit

theorem facts : joinedFacts Tryz.prog 3 Tryz.f3 Rows.planJournalsSpec Rows.planJournalsRow = true := by
  unfold joinedFacts
  rw [fact0, fact1, fact2, fact3, fact4, fact5, fact6, fact7, fact8, fact9, fact10, fact11, fact12, fact13, fact14, fact15, fact16, fact17, fact18, fact19, fact20, fact21, fact22, fact23, fact24, fact25, fact26, fact27, fact29, fact30, fact31]
  rfl

theorem planJournals_holds : Rows.PlanJournalsSaid :=
  OpenClaim.holds_of_wide 3 Tryz.f3 rfl rfl rfl rfl rfl rfl rfl ⟨rfl, rfl, rfl, rfl, rfl⟩ rfl rfl rfl rfl rfl (by kernel_rfl) Tryz.func3 facts
    (of_decide_eq_true (by kernel_rfl)) (by unfold Func.isWrapper; first | (rw [if_pos (by decide +kernel)]; kernel_rfl) | (rw [if_neg (by decide +kernel)]; exact ⟨rfl, rfl⟩))
    (fun os started H enc _ => lifted os started H enc)
end Go.Proofs.YtjehdoignaghlaaGreatDoor
end

section
open Go Go.Lg Go.Proofs Go.Proofs.YtjehdoignaghlaaGreatDoor
namespace Go.Proofs.YtjehdoignaghlaaGreatDoor
open Go.ChangeShapes Go.WideShapes Go.ChangeAt Go.RowKit

theorem planJournals_card : Rows.PlanJournalsCardSaid :=
  Claim7.holds_tied_plain_at .later [] [.data, .data, .data, .data, .sentinel, .sentinel, .pinned] true (true, "e3462d2a6dafebd48484e4761135b7c9c8ac4445dc08c23bfe8dfe8982fd1b41") true
    planJournals_holds (fun _ h => by cases h) card_wf (fun _ h => by cases h) planJournals_row_tie rfl ⟨rfl, rfl⟩ card_main rfl
    (fun f fn hf hfn => by
      obtain rfl : f = 3 := Option.some.inj (card_named.symm.trans hf) |>.symm
      obtain rfl : fn = Tryz.f3 := (Option.some.inj (Tryz.func3.symm.trans hfn)).symm
      exact ⟨card_looks, fun j t ht => by
        rw [Tryz.params3] at ht
        have hm : t ∈ [5, 9] := by simpa using Array.mem_of_getElem? ht
        exact (show Tryz.prog.wantsStandIn t = false by simpa using List.all_eq_true.1 card_stand t hm)⟩)
    card_goes
#print axioms planJournals_card
end Go.Proofs.YtjehdoignaghlaaGreatDoor
end
