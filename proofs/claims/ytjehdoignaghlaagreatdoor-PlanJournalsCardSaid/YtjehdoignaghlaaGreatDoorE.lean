/- PlanJournals ANSWERS true at the logical state of the call, for every generation and every text behind it; no condition. -/
import Derived.Test.YtjehdoignaghlaaGreatDoorC
import Derived.Test.YtjehdoignaghlaaGreatDoorD
set_option linter.unusedVariables false
set_option linter.unusedSimpArgs false
set_option linter.unusedSectionVars false
set_option linter.unnecessarySimpa false

section
open Go Go.Lg Go.Proofs
namespace Go.Lg

def hdB (g : Nat) : List UInt8 := [65, 74, 78, 76, UInt8.ofNat g, 0]
def hd (g : Nat) : List UInt8 := hdB g ++ tailOf (hdB g)

def readAns (g : Nat) (m : List UInt8) : Value :=
  if Nat.beq g 0 then vtu [vi 0, vi 9] else if Nat.blt 3 g then vtu [vi 0, vi 10] else match m with
    | [] => vtu [vi (.ofNat g), vi 0]
    | _ :: _ => vtu [vi 0, vi 9]

def okV (r : Option (Value × LState)) (v : Value) : Bool := match r with
  | some (u, _) => eqV u v
  | none => false

noncomputable def runD (f : Nat) (args : List Value) : Option (Value × LState) := (deep Tryz.prog BT 100 8).call f args (deads Tryz.prog)

noncomputable def runR (s : List UInt8) : Option (Value × LState) := match Tryz.f5.body with
  | some c => lbody Tryz.prog (deep Tryz.prog BT 100 8) 100 Tryz.f5 c [.string ⟨⟨s⟩⟩] (deads Tryz.prog)
  | none => none

def upTo (a n : Nat) : List Nat := List.range' a n

theorem jour_run : ((upTo 0 256).all fun g => okV (runD 6 [vi (.ofNat g)]) (.string ⟨⟨hd g⟩⟩)) = true := by kernel_rfl
end Go.Lg
end

section
open Go Go.Lg Go.Proofs
namespace Go.Lg
theorem readz_run : (fun (m : List UInt8) => okV (runR (hd 0 ++ m)) (vtu [vi 0, vi 9])) = fun _ => true := by kernel_rfl
theorem readk_run : ([1, 2, 3].all fun g => okV (runR (hd g)) (vtu [vi (.ofNat g), vi 0])) = true := by kernel_rfl
theorem readm_run : (fun (x : UInt8) (m : List UInt8) => [1, 2, 3].all fun g => okV (runR (hd g ++ x :: m)) (vtu [vi 0, vi 9])) = fun _ _ => true := by kernel_rfl
end Go.Lg
end

section
open Go Go.Lg Go.Proofs
namespace Go.Lg
theorem read0_run : (fun (m : List UInt8) => (upTo 4 42).all fun g => okV (runR (hd g ++ m)) (vtu [vi 0, vi 10])) = fun _ => true := by kernel_rfl
end Go.Lg
end

section
open Go Go.Lg Go.Proofs
namespace Go.Lg
theorem read1_run : (fun (m : List UInt8) => (upTo 46 42).all fun g => okV (runR (hd g ++ m)) (vtu [vi 0, vi 10])) = fun _ => true := by kernel_rfl
end Go.Lg
end

section
open Go Go.Lg Go.Proofs
namespace Go.Lg
theorem read2_run : (fun (m : List UInt8) => (upTo 88 42).all fun g => okV (runR (hd g ++ m)) (vtu [vi 0, vi 10])) = fun _ => true := by kernel_rfl
end Go.Lg
end

section
open Go Go.Lg Go.Proofs
namespace Go.Lg
theorem read3_run : (fun (m : List UInt8) => (upTo 130 42).all fun g => okV (runR (hd g ++ m)) (vtu [vi 0, vi 10])) = fun _ => true := by kernel_rfl
end Go.Lg
end

section
open Go Go.Lg Go.Proofs
namespace Go.Lg
theorem read4_run : (fun (m : List UInt8) => (upTo 172 42).all fun g => okV (runR (hd g ++ m)) (vtu [vi 0, vi 10])) = fun _ => true := by kernel_rfl
end Go.Lg
end

section
open Go Go.Lg Go.Proofs
namespace Go.Lg
theorem read5_run : (fun (m : List UInt8) => (upTo 214 42).all fun g => okV (runR (hd g ++ m)) (vtu [vi 0, vi 10])) = fun _ => true := by kernel_rfl
end Go.Lg
end

section
open Go Go.Lg Go.Proofs
namespace Go.Lg
theorem okV_eq {r : Option (Value × LState)} {v : Value} (h : okV r v = true) : ∃ σ, r = some (v, σ) := by
  unfold okV at h
  split at h
  · rename_i u σ
    exact ⟨σ, by rw [eqV_eq h]⟩
  · simp at h

theorem mem_upTo {a n g : Nat} (h : a ≤ g) (k : g < a + n) : g ∈ upTo a n := by
  simp only [upTo, List.mem_range'_1]
  exact ⟨h, k⟩

theorem jour_calls (g : Nat) (hg : g < 256) (σ : LState) : LCalls Tryz.prog 6 [vi (.ofNat g)] σ (.string ⟨⟨hd g⟩⟩) σ := by
  obtain ⟨σ1, h⟩ := okV_eq (List.all_eq_true.1 jour_run g (mem_upTo (Nat.zero_le _) (by omega)))
  exact LCalls.pure (run_calls h) rfl rfl σ

theorem readAns_flat (g : Nat) (m : List UInt8) : flat (readAns g m) = true := by
  unfold readAns
  split
  · rfl
  · split
    · rfl
    · cases m <;> rfl

theorem runR_calls {s : List UInt8} {v : Value} (hv : flat v = true) (h : okV (runR s) v = true) (σ : LState) : LCalls Tryz.prog 5 [.string ⟨⟨s⟩⟩] σ v σ := by
  obtain ⟨σ1, h⟩ := okV_eq h
  unfold runR at h
  split at h
  · rename_i c hc
    exact LCalls.pure (lbody_calls (deep_sound tryz_plain tryz_mixed BT_sound 100 8) tryz_mixed Tryz.func5 hc h) rfl hv σ
  · simp at h

theorem read_calls (g : Nat) (hg : g < 256) (m : List UInt8) (σ : LState) : LCalls Tryz.prog 5 [.string ⟨⟨hd g ++ m⟩⟩] σ (readAns g m) σ := by
  refine runR_calls (readAns_flat g m) ?_ σ
  rcases Nat.eq_zero_or_pos g with h0 | h0
  · subst h0
    exact congrFun readz_run m
  rcases Nat.lt_or_ge 3 g with h3 | h3
  · have e : readAns g m = vtu [vi 0, vi 10] := by
      have h1 : Nat.beq g 0 = false := by cases g with
        | zero => omega
        | succ n => rfl
      have h2 : Nat.blt 3 g = true := by simpa using h3
      simp only [readAns, h1, h2, Bool.false_eq_true, if_false, if_true]
    rw [e]
    have key : ∀ {a n : Nat}, (fun (m : List UInt8) => (upTo a n).all fun g => okV (runR (hd g ++ m)) (vtu [vi 0, vi 10])) = (fun _ => true) → a ≤ g → g < a + n → okV (runR (hd g ++ m)) (vtu [vi 0, vi 10]) = true :=
      fun h ha hn => List.all_eq_true.1 (congrFun h m) g (mem_upTo ha hn)
    rcases Nat.lt_or_ge g 46 with h | h
    · exact key read0_run (by omega) (by omega)
    rcases Nat.lt_or_ge g 88 with h | h
    · exact key read1_run (by omega) (by omega)
    rcases Nat.lt_or_ge g 130 with h | h
    · exact key read2_run (by omega) (by omega)
    rcases Nat.lt_or_ge g 172 with h | h
    · exact key read3_run (by omega) (by omega)
    rcases Nat.lt_or_ge g 214 with h | h
    · exact key read4_run (by omega) (by omega)
    · exact key read5_run (by omega) (by omega)
  · have hm : g ∈ [1, 2, 3] := by simp only [List.mem_cons, List.not_mem_nil, or_false]; omega
    cases m with
    | nil =>
      have := List.all_eq_true.1 readk_run g hm
      simp only [List.append_nil]
      rcases (by simpa using hm : g = 1 ∨ g = 2 ∨ g = 3) with rfl | rfl | rfl <;> exact this
    | cons x m =>
      have := List.all_eq_true.1 (congrFun (congrFun readm_run x) m) g hm
      rcases (by simpa using hm : g = 1 ∨ g = 2 ∨ g = 3) with rfl | rfl | rfl <;> exact this
end Go.Lg
end

section
open Go Go.Lg Go.Proofs
namespace Go.Lg
set_option maxRecDepth 100000
set_option maxHeartbeats 8000000

open Classical in
noncomputable def OJ (g : Nat) (m : List UInt8) : Orc :=
  { call := fun f args σ => if f = 4 ∧ args = [] ∧ σ = glob then some (vt, W18end)
      else if f = 6 ∧ args = [vi (.ofNat g)] then some (.string ⟨⟨hd g⟩⟩, σ)
      else if f = 5 ∧ args = [.string ⟨⟨hd g⟩⟩] then some (readAns g [], σ)
      else if f = 5 ∧ args = [.string ⟨⟨hd g ++ m⟩⟩] then some (readAns g m, σ)
      else none
    calld := fun _ _ _ => none
    ext := fun _ _ _ => none
    meth := fun _ _ => none }

theorem OJ_sound (g : Nat) (hg : g < 256) (m : List UInt8) : (OJ g m).Sound Tryz.prog := by
  refine ⟨?_, fun _ _ _ _ h => by simp [OJ] at h, fun _ _ _ _ _ h => by simp [OJ] at h, fun _ _ _ h => by simp [OJ] at h⟩
  intro f args σ v σ' h
  simp only [OJ] at h
  split at h
  · rename_i hc
    obtain ⟨rfl, rfl, rfl⟩ := hc
    simp at h
    obtain ⟨rfl, rfl⟩ := h
    exact works18
  · split at h
    · rename_i hc
      obtain ⟨rfl, rfl⟩ := hc
      simp at h
      obtain ⟨rfl, rfl⟩ := h
      exact ⟨enters_of_body tryz_plain Tryz.func6 rfl, jour_calls g hg _⟩
    · split at h
      · rename_i hc
        obtain ⟨rfl, rfl⟩ := hc
        simp at h
        obtain ⟨rfl, rfl⟩ := h
        have := read_calls g hg [] σ
        rw [List.append_nil] at this
        exact ⟨enters_of_body tryz_plain Tryz.func5 rfl, this⟩
      · split at h
        · rename_i hc
          obtain ⟨rfl, rfl⟩ := hc
          simp at h
          obtain ⟨rfl, rfl⟩ := h
          exact ⟨enters_of_body tryz_plain Tryz.func5 rfl, read_calls g hg m σ⟩
        · simp at h

theorem OJ_4 (g : Nat) (m : List UInt8) : (OJ g m).call 4 [] glob = some (vt, W18end) := by simp [OJ]
theorem OJ_6 (g : Nat) (m : List UInt8) (σ : LState) : (OJ g m).call 6 [.int .i64 (.ofNat g)] σ = some (.string ⟨⟨hd g⟩⟩, σ) := by simp [OJ, vi]
theorem OJ_5 (g : Nat) (m : List UInt8) (σ : LState) : (OJ g m).call 5 [.string ⟨⟨hd g⟩⟩] σ = some (readAns g [], σ) := by simp [OJ]
theorem OJ_5m (g : Nat) (m : List UInt8) (σ : LState) : (OJ g m).call 5 [.string ⟨⟨hd g ++ m⟩⟩] σ = some (readAns g m, σ) := by
  by_cases h : m = []
  · subst h; simp [OJ]
  · simp [OJ, h]

theorem u3 : Tryz.prog.underlying 3 = some (.int .i64) := by kernel_rfl
noncomputable def body3 : Code := Tryz.f3.body.getD .skip

theorem ieq_same (n : Nat) : ieq (Int.ofNat n) (Int.ofNat n) = true := by rw [ieq_eq]; simp

theorem body3_long (g : Nat) (m : List UInt8) (hm : 300 < m.length) : lbody Tryz.prog (OJ g m) 10 Tryz.f3 body3 [.int .u8 (.ofNat g), .string ⟨⟨m⟩⟩] glob = some (vt, W18end) := by
  have h1 : ilt 300 (Int.ofNat m.length) = true := by rw [ilt_eq]; simp; omega
  unfold lbody
  have rep : Tryz.f3.ntmps = 81 := rfl
  simp only [rep, List.length_cons, List.length_nil, List.cons_append, List.nil_append, List.replicate]
  simp only [body3, Tryz.f3, Option.getD, lcode, lregion, lops, lwanted, lopX, xBin, xCall, lcallOp, lfun, oneQ, oneW, leval, levals, List.getElem?_cons_zero, List.getElem?_cons_succ, fastBin, kindEq, LAct.put, List.set, List.nil_append, List.append_nil, Bool.false_eq_true, if_false, if_true, flat, u3, u5, u9,
    lop, lvalQ, lfast, lleave, lresults, lresL, OJ_4, vt, Bool.not_true, h1]
  trace_state
  done
end Go.Lg
end

section
open Go Go.Lg Go.Proofs
namespace Go.Lg
set_option maxRecDepth 100000
set_option maxHeartbeats 8000000

theorem i00 : ieq 0 0 = true := rfl
theorem i99 : ieq 9 9 = true := rfl
theorem i1010 : ieq 10 10 = true := rfl

def eqBools (a b : Bool) : Sem Next := do
  let v ← (do eqGuard .eql 4 (.tmp 76) (.tmp 78) (.bool a) (.bool b); binOp .eql 4 (.bool a) (.bool b) : Sem Value)
  pure (.value v)
def nextBool : Option Next → Option Bool
  | some (.value (.bool b)) => some b
  | _ => none
theorem nextBool_eq {r : Option Next} {b : Bool} (h : nextBool r = some b) : r = some (.value (.bool b)) := by
  unfold nextBool at h
  split at h
  · simp at h; rw [h]
  · simp at h
theorem eq_tt : nextBool (pureRun Tryz.prog (eqBools true true)) = some true := by kernel_rfl
theorem eq_tf : nextBool (pureRun Tryz.prog (eqBools true false)) = some false := by kernel_rfl
theorem eq_ft : nextBool (pureRun Tryz.prog (eqBools false true)) = some false := by kernel_rfl
theorem eq_ff : nextBool (pureRun Tryz.prog (eqBools false false)) = some true := by kernel_rfl
theorem eq_bools (a b : Bool) : pureRun Tryz.prog (eqBools a b) = some (.value (.bool (a == b))) := by
  cases a <;> cases b
  · exact nextBool_eq eq_ff
  · exact nextBool_eq eq_ft
  · exact nextBool_eq eq_tf
  · exact nextBool_eq eq_tt
theorem lflat_bools (la : LAct) (d : Option Tmp) (g : Option (Nat × Bool)) (po : String) (ty : TypeId) (af : Array Edge) (a b : Bool) (h1 : la.tmps[76]? = some (.bool a)) (h2 : la.tmps[78]? = some (.bool b)) :
    lflat Tryz.prog la { dst := d, op := .binOp .eql 4 (.tmp 76) (.tmp 78) 4, type := ty, pos := po, after := af, guard := g } = some (.bool (a == b)) := by
  have e1 : levalD Tryz.prog la (.tmp 76) = .bool a := by simp [levalD, leval, h1]
  have e2 : levalD Tryz.prog la (.tmp 78) = .bool b := by simp [levalD, leval, h2]
  have k : ∀ (ev : Operand → Value), ev (.tmp 76) = .bool a → ev (.tmp 78) = .bool b → pureRun Tryz.prog (execOp ev { dst := d, op := .binOp .eql 4 (.tmp 76) (.tmp 78) 4, type := ty, pos := po, after := af, guard := g }) = some (.value (.bool (a == b))) := by
    intro ev h1 h2
    simp only [execOp, h1, h2]
    exact eq_bools a b
  unfold lflat
  simp only [notSelect, Op.operands, allFlat, leval, h1, h2, flat, Bool.and_self, if_true, k _ e1 e2]
theorem body3_later (g : Nat) (m : List UInt8) (hg : g < 256) (h3 : 3 < g) (hm : m.length ≤ 300) : lbody Tryz.prog (OJ g m) 10 Tryz.f3 body3 [.int .u8 (.ofNat g), .string ⟨⟨m⟩⟩] glob = some (vt, W18end) := by
  have h1 : ilt 300 (Int.ofNat m.length) = false := by rw [ilt_eq]; simp; omega
  have h2 : ilt 3 (Int.ofNat g) = true := by rw [ilt_eq]; simp; omega
  have w1 : fwrap .i64 (Int.ofNat g) = Int.ofNat g := by
    have : Nat.blt g 9223372036854775808 = true := by simp; omega
    simp only [fwrap, lim, this, if_true]
  have hl : Nat.ble ((hd g).length + m.length) 9223372036854775807 = true := by
    have : (hd g).length = 10 := rfl
    rw [this]; simp; omega
  have ra : ∀ m, readAns g m = vtu [vi 0, vi 10] := by
    intro m
    have h1 : Nat.beq g 0 = false := by cases g with
      | zero => omega
      | succ n => rfl
    have h2 : Nat.blt 3 g = true := by simpa using h3
    simp only [readAns, h1, h2, Bool.false_eq_true, if_false, if_true]
  have c5 : ∀ σ, (OJ g m).call 5 [.string ⟨⟨hd g⟩⟩] σ = some (.tuple ⟨[.int .i64 0, .int .i64 10]⟩, σ) := fun σ => by rw [OJ_5, ra]; rfl
  have c5m : ∀ σ, (OJ g m).call 5 [.string ⟨⟨hd g ++ m⟩⟩] σ = some (.tuple ⟨[.int .i64 0, .int .i64 10]⟩, σ) := fun σ => by rw [OJ_5m, ra]; rfl
  unfold lbody
  have rep : Tryz.f3.ntmps = 81 := rfl
  simp only [rep, List.length_cons, List.length_nil, List.cons_append, List.nil_append, List.replicate]
  simp only [body3, Tryz.f3, Option.getD, lcode, lregion, lops, lwanted, lopX, xBin, xCall, lcallOp, lfun, oneQ, oneW, leval, levals, List.getElem?_cons_zero, List.getElem?_cons_succ, fastBin, kindEq, LAct.put, List.set, List.nil_append, List.append_nil, Bool.false_eq_true, if_false, if_true, flat, u3, u5, u9,
    lop, lvalQ, lfast, lleave, lresults, lresL, OJ_4, OJ_6, c5, c5m, vt, Bool.not_true, h1, h2, w1, hl, qExtract, lextract, List.getElem?_toArray, qPick, i00, i1010, beq_self_eq_true]
theorem body3_none (g : Nat) (m : List UInt8) (hg : g = 0) (hm : m.length ≤ 300) : lbody Tryz.prog (OJ g m) 10 Tryz.f3 body3 [.int .u8 (.ofNat g), .string ⟨⟨m⟩⟩] glob = some (vt, W18end) := by
  have h1 : ilt 300 (Int.ofNat m.length) = false := by rw [ilt_eq]; simp; omega
  have h2 : ilt 3 (Int.ofNat g) = false := by rw [ilt_eq]; simp; omega
  have w1 : fwrap .i64 (Int.ofNat g) = Int.ofNat g := by
    have : Nat.blt g 9223372036854775808 = true := by simp; omega
    simp only [fwrap, lim, this, if_true]
  have hl : Nat.ble ((hd g).length + m.length) 9223372036854775807 = true := by
    have : (hd g).length = 10 := rfl
    rw [this]; simp; omega
  have h3 : ieq (Int.ofNat g) 0 = true := by rw [ieq_eq]; simp; omega
  have ra : ∀ m, readAns g m = vtu [vi 0, vi 9] := by
    intro m
    subst hg
    rfl
  have c5 : ∀ σ, (OJ g m).call 5 [.string ⟨⟨hd g⟩⟩] σ = some (.tuple ⟨[.int .i64 0, .int .i64 9]⟩, σ) := fun σ => by rw [OJ_5, ra]; rfl
  have c5m : ∀ σ, (OJ g m).call 5 [.string ⟨⟨hd g ++ m⟩⟩] σ = some (.tuple ⟨[.int .i64 0, .int .i64 9]⟩, σ) := fun σ => by rw [OJ_5m, ra]; rfl
  unfold lbody
  have rep : Tryz.f3.ntmps = 81 := rfl
  simp only [rep, List.length_cons, List.length_nil, List.cons_append, List.nil_append, List.replicate]
  simp only [body3, Tryz.f3, Option.getD, lcode, lregion, lops, lwanted, lopX, xBin, xCall, lcallOp, lfun, oneQ, oneW, leval, levals, List.getElem?_cons_zero, List.getElem?_cons_succ, fastBin, kindEq, LAct.put, List.set, List.nil_append, List.append_nil, Bool.false_eq_true, if_false, if_true, flat, u3, u5, u9,
    lop, lvalQ, lfast, lleave, lresults, lresL, OJ_4, OJ_6, c5, c5m, vt, Bool.not_true, h1, h2, w1, hl, qExtract, lextract, List.getElem?_toArray, qPick, h3, i00, i99, beq_self_eq_true]

theorem body3_known (g : Nat) (m : List UInt8) (hg : 0 < g) (hg3 : g ≤ 3) (he : m = []) : lbody Tryz.prog (OJ g m) 10 Tryz.f3 body3 [.int .u8 (.ofNat g), .string ⟨⟨m⟩⟩] glob = some (vt, W18end) := by
  have hm : m.length ≤ 300 := by subst he; simp
  have h1 : ilt 300 (Int.ofNat m.length) = false := by rw [ilt_eq]; simp; omega
  have h2 : ilt 3 (Int.ofNat g) = false := by rw [ilt_eq]; simp; omega
  have w1 : fwrap .i64 (Int.ofNat g) = Int.ofNat g := by
    have : Nat.blt g 9223372036854775808 = true := by simp; omega
    simp only [fwrap, lim, this, if_true]
  have hl : Nat.ble ((hd g).length + m.length) 9223372036854775807 = true := by
    have : (hd g).length = 10 := rfl
    rw [this]; simp; omega
  have hg0 : g ≠ 0 := by omega
  have h3 : ieq (Int.ofNat g) 0 = false := by rw [ieq_eq]; simp; omega
  have hs := ieq_same g
  have b0 : Nat.beq g 0 = false := by cases g with
    | zero => omega
    | succ n => rfl
  have b3 : Nat.blt 3 g = false := by
    cases h : Nat.blt 3 g with
    | false => rfl
    | true => have : 3 < g := by simpa using h
              omega
  have ra : readAns g [] = vtu [vi (.ofNat g), vi 0] := by simp only [readAns, b0, b3, Bool.false_eq_true, if_false]
  have c5 : ∀ σ, (OJ g m).call 5 [.string ⟨⟨hd g⟩⟩] σ = some (.tuple ⟨[.int .i64 (.ofNat g), .int .i64 0]⟩, σ) := fun σ => by rw [OJ_5, ra]; rfl
  have rm : readAns g m = vtu [vi (.ofNat g), vi 0] := by rw [he]; exact ra
  have c5m : ∀ σ, (OJ g m).call 5 [.string ⟨⟨hd g ++ m⟩⟩] σ = some (.tuple ⟨[.int .i64 (.ofNat g), .int .i64 0]⟩, σ) := fun σ => by rw [OJ_5m, rm]; rfl
  have lfb := fun la d g po ty af => lflat_bools la d g po ty af true true
  have hb : beqB m [] = true := by rw [he]; rfl
  unfold lbody
  have rep : Tryz.f3.ntmps = 81 := rfl
  simp only [rep, List.length_cons, List.length_nil, List.cons_append, List.nil_append, List.replicate]
  simp only [body3, Tryz.f3, Option.getD, lcode, lregion, lops, lwanted, lopX, xBin, xCall, lcallOp, lfun, oneQ, oneW, leval, levals, List.getElem?_cons_zero, List.getElem?_cons_succ, fastBin, kindEq, LAct.put, List.set, List.nil_append, List.append_nil, Bool.false_eq_true, if_false, if_true, flat, u3, u5, u9,
    lop, lvalQ, lfast, lleave, lresults, lresL, OJ_4, OJ_6, c5, c5m, vt, Bool.not_true, h1, h2, w1, hl, qExtract, lextract, List.getElem?_toArray, qPick, h3, hs, i00, hb, lbin, lfb, beq_self_eq_true]

theorem body3_more (g : Nat) (x : UInt8) (m' m : List UInt8) (hg : 0 < g) (hg3 : g ≤ 3) (he : m = x :: m') (hm : m.length ≤ 300) : lbody Tryz.prog (OJ g m) 10 Tryz.f3 body3 [.int .u8 (.ofNat g), .string ⟨⟨m⟩⟩] glob = some (vt, W18end) := by
  have h1 : ilt 300 (Int.ofNat m.length) = false := by rw [ilt_eq]; simp; omega
  have h2 : ilt 3 (Int.ofNat g) = false := by rw [ilt_eq]; simp; omega
  have w1 : fwrap .i64 (Int.ofNat g) = Int.ofNat g := by
    have : Nat.blt g 9223372036854775808 = true := by simp; omega
    simp only [fwrap, lim, this, if_true]
  have hl : Nat.ble ((hd g).length + m.length) 9223372036854775807 = true := by
    have : (hd g).length = 10 := rfl
    rw [this]; simp; omega
  have hg0 : g ≠ 0 := by omega
  have h3 : ieq (Int.ofNat g) 0 = false := by rw [ieq_eq]; simp; omega
  have hs := ieq_same g
  have b0 : Nat.beq g 0 = false := by cases g with
    | zero => omega
    | succ n => rfl
  have b3 : Nat.blt 3 g = false := by
    cases h : Nat.blt 3 g with
    | false => rfl
    | true => have : 3 < g := by simpa using h
              omega
  have ra : readAns g [] = vtu [vi (.ofNat g), vi 0] := by simp only [readAns, b0, b3, Bool.false_eq_true, if_false]
  have c5 : ∀ σ, (OJ g m).call 5 [.string ⟨⟨hd g⟩⟩] σ = some (.tuple ⟨[.int .i64 (.ofNat g), .int .i64 0]⟩, σ) := fun σ => by rw [OJ_5, ra]; rfl
  have rm : readAns g m = vtu [vi 0, vi 9] := by rw [he]; simp only [readAns, b0, b3, Bool.false_eq_true, if_false]
  have c5m : ∀ σ, (OJ g m).call 5 [.string ⟨⟨hd g ++ m⟩⟩] σ = some (.tuple ⟨[.int .i64 0, .int .i64 9]⟩, σ) := fun σ => by rw [OJ_5m, rm]; rfl
  have lfb := fun la d g po ty af => lflat_bools la d g po ty af false false
  have hb : beqB m [] = false := by rw [he]; rfl
  have i90 : ieq 9 0 = false := rfl
  unfold lbody
  have rep : Tryz.f3.ntmps = 81 := rfl
  simp only [rep, List.length_cons, List.length_nil, List.cons_append, List.nil_append, List.replicate]
  simp only [body3, Tryz.f3, Option.getD, lcode, lregion, lops, lwanted, lopX, xBin, xCall, lcallOp, lfun, oneQ, oneW, leval, levals, List.getElem?_cons_zero, List.getElem?_cons_succ, fastBin, kindEq, LAct.put, List.set, List.nil_append, List.append_nil, Bool.false_eq_true, if_false, if_true, flat, u3, u5, u9,
    lop, lvalQ, lfast, lleave, lresults, lresL, OJ_4, OJ_6, c5, c5m, vt, Bool.not_true, h1, h2, w1, hl, qExtract, lextract, List.getElem?_toArray, qPick, h3, hs, i00, i90, hb, lbin, lfb, beq_self_eq_true]
end Go.Lg
end

section
open Go Go.Lg Go.Proofs
namespace Go.Lg
theorem planJournals_calls (g : Nat) (hg : g < 256) (m : List UInt8) : LCalls Tryz.prog 3 [.int .u8 (.ofNat g), .string ⟨⟨m⟩⟩] glob vt W18end := by
  have fin : lbody Tryz.prog (OJ g m) 10 Tryz.f3 body3 [.int .u8 (.ofNat g), .string ⟨⟨m⟩⟩] glob = some (vt, W18end) := by
    rcases Nat.lt_or_ge 300 m.length with h | h
    · exact body3_long g m h
    rcases Nat.lt_or_ge 3 g with h3 | h3
    · exact body3_later g m hg h3 h
    rcases Nat.eq_zero_or_pos g with h0 | h0
    · exact body3_none g m h0 h
    · cases m with
      | nil => exact body3_known g [] h0 h3 rfl
      | cons x m' => exact body3_more g x m' (x :: m') h0 h3 rfl h
  exact lbody_calls (OJ_sound g hg m) tryz_mixed Tryz.func3 rfl fin
end Go.Lg
end
