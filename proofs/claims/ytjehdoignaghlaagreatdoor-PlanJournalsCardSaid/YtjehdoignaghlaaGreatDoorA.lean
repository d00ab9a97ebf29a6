/- THE LOGICAL MACHINE, part 1: values, states and single operations, each shown to be what the model does, wherever the real memory lies; no condition. -/
import Derived.Calls
import Derived.Orders
import Derived.Defers
import Derived.Laws.World
import Derived.Laws.Cells
import Derived.Laws.Rows
import Derived.Laws.Append
import Derived.KernelRfl
import Derived.Laws.BytesArg
import Derived.Lib.Builder
set_option linter.unusedVariables false
set_option linter.unusedSimpArgs false
set_option linter.unusedSectionVars false
set_option linter.unnecessarySimpa false

section
namespace Go.Lg
open Go

structure Loc where
  block : Nat
  off : Nat
  slack : Nat

def big : Nat := 1180591620717411303424

def Loc.cap (L : Loc) (c : Nat) : Nat := if c < big then c else c - big + L.slack

def renFn (ρ : List Loc) : Fn → Option Fn
  | .yield l => match ρ[l]? with
    | some L => some (.yield L.block)
    | none => none
  | f => some f

mutual
def ren (ρ : List Loc) : Value → Option Value
  | .bool b => some (.bool b)
  | .int k n => some (.int k n)
  | .float k b => some (.float k b)
  | .complex k a b => some (.complex k a b)
  | .string s => some (.string s)
  | .pointer none => some (.pointer none)
  | .pointer (some a) => match a.spot, ρ[a.block]? with
    | none, some L => some (.pointer (some ⟨L.block, L.off + a.off, none⟩))
    | _, _ => none
  | .slice none n c => some (.slice none n c)
  | .slice (some a) n c => match a.spot, ρ[a.block]? with
    | none, some L => some (.slice (some ⟨L.block, L.off + a.off, none⟩) n (L.cap c))
    | _, _ => none
  | .map none => some (.map none)
  | .map (some r) => match ρ[r]? with
    | some L => some (.map (some L.block))
    | none => none
  | .chan none => some (.chan none)
  | .chan (some _) => none
  | .func fn first captured => match renFn ρ fn, renA ρ first, renA ρ captured with
    | some f, some x, some y => some (.func f x y)
    | _, _, _ => none
  | .nilFunc => some .nilFunc
  | .iface t v => match ren ρ v with
    | some v' => some (.iface t v')
    | none => none
  | .nilIface => some .nilIface
  | .agg cs => match renA ρ cs with
    | some x => some (.agg x)
    | none => none
  | .tuple vs => match renA ρ vs with
    | some x => some (.tuple x)
    | none => none
def renA (ρ : List Loc) : Array Value → Option (Array Value)
  | ⟨l⟩ => match renL ρ l with
    | some l' => some ⟨l'⟩
    | none => none
def renL (ρ : List Loc) : List Value → Option (List Value)
  | [] => some []
  | v :: l => match ren ρ v, renL ρ l with
    | some v', some l' => some (v' :: l')
    | _, _ => none
end

theorem getElem?_prefix {α : Type} {l l' : List α} (h : l <+: l') {i : Nat} {x : α} (hx : l[i]? = some x) : l'[i]? = some x := by
  obtain ⟨t, rfl⟩ := h
  have : i < l.length := by
    rcases Nat.lt_or_ge i l.length with h | h
    · exact h
    · simp [List.getElem?_eq_none h] at hx
  rw [List.getElem?_append_left this, hx]

theorem renFn_mono {ρ ρ' : List Loc} (h : ρ <+: ρ') {f f' : Fn} (hv : renFn ρ f = some f') : renFn ρ' f = some f' := by
  cases f with
  | yield l =>
    simp only [renFn] at hv ⊢
    cases hl : ρ[l]? with
    | none => simp [hl] at hv
    | some L => rw [getElem?_prefix h hl]; simpa [hl] using hv
  | _ => exact hv

mutual
theorem ren_mono {ρ ρ' : List Loc} (h : ρ <+: ρ') : ∀ {v v' : Value}, ren ρ v = some v' → ren ρ' v = some v'
  | .bool _, _, hv | .int _ _, _, hv | .float _ _, _, hv | .complex _ _ _, _, hv | .string _, _, hv | .pointer none, _, hv | .slice none _ _, _, hv
  | .map none, _, hv | .chan none, _, hv | .nilFunc, _, hv | .nilIface, _, hv => by simpa [ren] using hv
  | .pointer (some ⟨b, o, sp⟩), _, hv => by
    cases sp with
    | some s => simp [ren] at hv
    | none =>
      simp only [ren] at hv ⊢
      cases hl : ρ[b]? with
      | none => simp [hl] at hv
      | some L => rw [getElem?_prefix h hl]; simpa [hl] using hv
  | .slice (some ⟨b, o, sp⟩) _ _, _, hv => by
    cases sp with
    | some s => simp [ren] at hv
    | none =>
      simp only [ren] at hv ⊢
      cases hl : ρ[b]? with
      | none => simp [hl] at hv
      | some L => rw [getElem?_prefix h hl]; simpa [hl] using hv
  | .map (some b), _, hv => by
    simp only [ren] at hv ⊢
    cases hl : ρ[b]? with
    | none => simp [hl] at hv
    | some L => rw [getElem?_prefix h hl]; simpa [hl] using hv
  | .chan (some _), _, hv => by simp [ren] at hv
  | .func fn first cap, _, hv => by
    simp only [ren] at hv ⊢
    cases hf : renFn ρ fn with
    | none => simp [hf] at hv
    | some f' =>
      cases hx : renA ρ first with
      | none => simp [hf, hx] at hv
      | some x =>
        cases hy : renA ρ cap with
        | none => simp [hf, hx, hy] at hv
        | some y => rw [renFn_mono h hf, renA_mono h hx, renA_mono h hy]; simpa [hf, hx, hy] using hv
  | .iface t v, _, hv => by
    simp only [ren] at hv ⊢
    cases hx : ren ρ v with
    | none => simp [hx] at hv
    | some x => rw [ren_mono h hx]; simpa [hx] using hv
  | .agg cs, _, hv => by
    simp only [ren] at hv ⊢
    cases hx : renA ρ cs with
    | none => simp [hx] at hv
    | some x => rw [renA_mono h hx]; simpa [hx] using hv
  | .tuple cs, _, hv => by
    simp only [ren] at hv ⊢
    cases hx : renA ρ cs with
    | none => simp [hx] at hv
    | some x => rw [renA_mono h hx]; simpa [hx] using hv
theorem renA_mono {ρ ρ' : List Loc} (h : ρ <+: ρ') : ∀ {v v' : Array Value}, renA ρ v = some v' → renA ρ' v = some v'
  | ⟨l⟩, _, hv => by
    simp only [renA] at hv ⊢
    cases hx : renL ρ l with
    | none => simp [hx] at hv
    | some x => rw [renL_mono h hx]; simpa [hx] using hv
theorem renL_mono {ρ ρ' : List Loc} (h : ρ <+: ρ') : ∀ {v v' : List Value}, renL ρ v = some v' → renL ρ' v = some v'
  | [], _, hv => by simpa [renL] using hv
  | v :: l, _, hv => by
    simp only [renL] at hv ⊢
    cases hx : ren ρ v with
    | none => simp [hx] at hv
    | some x =>
      cases hy : renL ρ l with
      | none => simp [hx, hy] at hv
      | some y => rw [ren_mono h hx, renL_mono h hy]; simpa [hx, hy] using hv
end

/-- No address in it. -/
def flatFn : Fn → Bool
  | .yield _ => false
  | _ => true
mutual
def flat : Value → Bool
  | .pointer (some _) => false
  | .slice (some _) _ _ => false
  | .map (some _) => false
  | .chan (some _) => false
  | .func fn first captured => flatFn fn && flatA first && flatA captured
  | .iface _ v => flat v
  | .agg cs => flatA cs
  | .tuple vs => flatA vs
  | _ => true
def flatA : Array Value → Bool
  | ⟨l⟩ => flatL l
def flatL : List Value → Bool
  | [] => true
  | v :: l => flat v && flatL l
end

theorem renFn_flat (ρ : List Loc) {f : Fn} (h : flatFn f = true) : renFn ρ f = some f := by
  cases f <;> first | rfl | simp [flatFn] at h

mutual
theorem ren_flat (ρ : List Loc) : ∀ {v : Value}, flat v = true → ren ρ v = some v
  | .bool _, _ | .int _ _, _ | .float _ _, _ | .complex _ _ _, _ | .string _, _ | .pointer none, _ | .slice none _ _, _
  | .map none, _ | .chan none, _ | .nilFunc, _ | .nilIface, _ => by simp [ren]
  | .pointer (some _), h | .slice (some _) _ _, h | .map (some _), h | .chan (some _), h => by simp [flat] at h
  | .func fn first cap, h => by
    simp only [flat, Bool.and_eq_true] at h
    simp [ren, renFn_flat ρ h.1.1, renA_flat ρ h.1.2, renA_flat ρ h.2]
  | .iface t v, h => by simp only [flat] at h; simp [ren, ren_flat ρ h]
  | .agg cs, h => by simp only [flat] at h; simp [ren, renA_flat ρ h]
  | .tuple cs, h => by simp only [flat] at h; simp [ren, renA_flat ρ h]
theorem renA_flat (ρ : List Loc) : ∀ {v : Array Value}, flatA v = true → renA ρ v = some v
  | ⟨l⟩, h => by simp only [flatA] at h; simp [renA, renL_flat ρ h]
theorem renL_flat (ρ : List Loc) : ∀ {v : List Value}, flatL v = true → renL ρ v = some v
  | [], _ => by simp [renL]
  | v :: l, h => by simp only [flatL, Bool.and_eq_true] at h; simp [renL, ren_flat ρ h.1, renL_flat ρ h.2]
end

theorem renL_length {ρ : List Loc} : ∀ {l l' : List Value}, renL ρ l = some l' → l'.length = l.length
  | [], _, h => by simp [renL] at h; subst h; rfl
  | v :: l, _, h => by
    simp only [renL] at h
    cases hx : ren ρ v with
    | none => simp [hx] at h
    | some x =>
      cases hy : renL ρ l with
      | none => simp [hx, hy] at h
      | some y => simp [hx, hy] at h; subst h; simp [renL_length hy]

theorem renL_get {ρ : List Loc} : ∀ {l l' : List Value} {i : Nat} {v : Value}, renL ρ l = some l' → l[i]? = some v → ∃ v', l'[i]? = some v' ∧ ren ρ v = some v'
  | [], _, i, v, _, h => by simp at h
  | x :: l, _, i, v, hl, h => by
    simp only [renL] at hl
    cases hx : ren ρ x with
    | none => simp [hx] at hl
    | some x' =>
      cases hy : renL ρ l with
      | none => simp [hx, hy] at hl
      | some y =>
        simp [hx, hy] at hl
        subst hl
        cases i with
        | zero => simp at h; subst h; exact ⟨x', by simp, hx⟩
        | succ i => simp at h; simpa using renL_get hy h

theorem renL_of_get {ρ : List Loc} : ∀ {l l' : List Value}, l'.length = l.length → (∀ (i : Nat) (v : Value), l[i]? = some v → ∃ v' : Value, l'[i]? = some v' ∧ ren ρ v = some v') → renL ρ l = some l'
  | [], l', hn, _ => by
    have : l' = [] := List.length_eq_zero_iff.1 (by simpa using hn)
    subst this; simp [renL]
  | x :: l, l', hn, h => by
    cases l' with
    | nil => simp at hn
    | cons y l' =>
      obtain ⟨v', hv, hr⟩ := h 0 x (by simp)
      simp at hv
      subst hv
      have := renL_of_get (ρ := ρ) (l := l) (l' := l') (by simpa using hn) (fun i v hi => by simpa using h (i + 1) v (by simpa using hi))
      simp [renL, hr, this]

theorem renL_append {ρ : List Loc} {a b a' b' : List Value} (h : renL ρ a = some a') (k : renL ρ b = some b') : renL ρ (a ++ b) = some (a' ++ b') := by
  refine renL_of_get (by simp [renL_length h, renL_length k]) fun i v hv => ?_
  have ha := renL_length h
  rcases Nat.lt_or_ge i a.length with hi | hi
  · rw [List.getElem?_append_left hi] at hv
    rw [List.getElem?_append_left (by omega)]
    exact renL_get h hv
  · rw [List.getElem?_append_right hi] at hv
    rw [List.getElem?_append_right (by omega), ha]
    exact renL_get k hv

theorem renL_take {ρ : List Loc} {a a' : List Value} (n : Nat) (h : renL ρ a = some a') : renL ρ (a.take n) = some (a'.take n) := by
  refine renL_of_get (by simp [renL_length h]) fun i v hv => ?_
  rw [List.getElem?_take] at hv ⊢
  split at hv
  · rename_i hi; rw [if_pos hi]; exact renL_get h hv
  · simp at hv

theorem renL_drop {ρ : List Loc} {a a' : List Value} (n : Nat) (h : renL ρ a = some a') : renL ρ (a.drop n) = some (a'.drop n) := by
  refine renL_of_get (by simp [renL_length h]) fun i v hv => ?_
  rw [List.getElem?_drop] at hv ⊢
  exact renL_get h hv

theorem renL_set {ρ : List Loc} {a a' : List Value} {v v' : Value} (n : Nat) (h : renL ρ a = some a') (hv : ren ρ v = some v') : renL ρ (a.set n v) = some (a'.set n v') := by
  refine renL_of_get (by simp [renL_length h]) fun i u hu => ?_
  rw [List.getElem?_set] at hu ⊢
  rw [renL_length h]
  split at hu
  · rename_i hi
    split at hu
    · rename_i hlt; simp at hu; subst hu; exact ⟨v', by rw [if_pos hi, if_pos hlt], hv⟩
    · simp at hu
  · rename_i hi; rw [if_neg hi]; exact renL_get h hu

theorem renA_toList {ρ : List Loc} {v v' : Array Value} (h : renA ρ v = some v') : renL ρ v.toList = some v'.toList := by
  obtain ⟨l⟩ := v
  simp only [renA] at h
  cases hx : renL ρ l with
  | none => simp [hx] at h
  | some x => simp [hx] at h; subst h; simpa using hx

theorem renA_mk {ρ : List Loc} {v v' : List Value} (h : renL ρ v = some v') : renA ρ v.toArray = some v'.toArray := by
  show renA ρ ⟨v⟩ = _
  simp [renA, h]

/-- A value of one cell stays one. -/
theorem ren_oneCell {ρ : List Loc} {v v' : Value} (h : ren ρ v = some v') : v'.oneCell' = v.oneCell' := by
  cases v with
  | pointer a =>
    cases a with
    | none => simp [ren] at h; subst h; rfl
    | some a => simp only [ren] at h; split at h <;> simp at h; subst h; rfl
  | slice a n c =>
    cases a with
    | none => simp [ren] at h; subst h; rfl
    | some a => simp only [ren] at h; split at h <;> simp at h; subst h; rfl
  | map a =>
    cases a with
    | none => simp [ren] at h; subst h; rfl
    | some a => simp only [ren] at h; split at h <;> simp at h; subst h; rfl
  | chan a =>
    cases a with
    | none => simp [ren] at h; subst h; rfl
    | some a => simp [ren] at h
  | func f x y => simp only [ren] at h; split at h <;> simp at h; subst h; rfl
  | iface t x => simp only [ren] at h; split at h <;> simp at h; subst h; rfl
  | agg x => simp only [ren] at h; split at h <;> simp at h; subst h; rfl
  | tuple x => simp only [ren] at h; split at h <;> simp at h; subst h; rfl
  | _ => simp [ren] at h; subst h; rfl

theorem ren_cells {ρ : List Loc} {v v' : Value} (h : ren ρ v = some v') : renL ρ v.cells.toList = some v'.cells.toList := by
  cases v with
  | agg x =>
    simp only [ren] at h
    split at h
    · rename_i x' hx; simp at h; subst h; exact renA_toList hx
    · simp at h
  | pointer a =>
    cases a with
    | none => simp [ren] at h; subst h; simp [Value.cells, renL, ren]
    | some a => have h0 := h; simp only [ren] at h; split at h <;> simp at h; subst h; simp [Value.cells, renL, h0]
  | slice a n c =>
    cases a with
    | none => simp [ren] at h; subst h; simp [Value.cells, renL, ren]
    | some a => have h0 := h; simp only [ren] at h; split at h <;> simp at h; subst h; simp [Value.cells, renL, h0]
  | map a =>
    cases a with
    | none => simp [ren] at h; subst h; simp [Value.cells, renL, ren]
    | some a => have h0 := h; simp only [ren] at h; split at h <;> simp at h; subst h; simp [Value.cells, renL, h0]
  | chan a =>
    cases a with
    | none => simp [ren] at h; subst h; simp [Value.cells, renL, ren]
    | some a => simp [ren] at h
  | func f x y => have h0 := h; simp only [ren] at h; split at h <;> simp at h; subst h; simp [Value.cells, renL, h0]
  | iface t x => have h0 := h; simp only [ren] at h; split at h <;> simp at h; subst h; simp [Value.cells, renL, h0]
  | tuple x => have h0 := h; simp only [ren] at h; split at h <;> simp at h; subst h; simp [Value.cells, renL, h0]
  | _ => simp [ren] at h; subst h; simp [Value.cells, renL, ren]

end Go.Lg
end

section
namespace Go.Lg
open Go

inductive LObj where
  | dead
  | cells (c : List Value) (e : TypeId) (ro : Bool) (kin : Option Nat)
  | map (es : List MapEntry) (clock : Nat)
  deriving Inhabited

def LObj.writable : LObj → Bool
  | .dead => false
  | .cells _ _ ro _ => !ro
  | .map _ _ => true

abbrev LState := List LObj

structure EntR (ρ : List Loc) (x y : MapEntry) : Prop where
  key : ren ρ x.key = some y.key
  val : ren ρ x.val = some y.val
  born : y.born = x.born

structure MapR (ρ : List Loc) (es es' : List MapEntry) : Prop where
  len : es'.length = es.length
  at_ : ∀ (i : Nat) (x : MapEntry), es[i]? = some x → ∃ y, es'[i]? = some y ∧ EntR ρ x y

def ObjRel (P : Program) (ρ : List Loc) (w : World) (L : Loc) : LObj → Prop
  | .dead => True
  | .cells c e ro _ => ∃ (rc : Array Value) (fr : Nat × Nat), w.heap[L.block]? = some (.cells rc e fr) ∧ L.off + c.length + L.slack * P.cellsOf e ≤ rc.size ∧
      (∀ (k : Nat) (v : Value), c[k]? = some v → ∃ v', rc[L.off + k]? = some v' ∧ ren ρ v = some v') ∧
      (ro = false → ∀ k, k < c.length + L.slack * P.cellsOf e → ¬ (fr.1 ≤ L.off + k ∧ L.off + k < fr.2))
  | .map es clock => ∃ es' : Array MapEntry, w.heap[L.block]? = some (.map es' clock) ∧ L.off = 0 ∧ MapR ρ es es'.toList

/-- Two objects may lie in one block. -/
def Exempt (i j : Nat) : LObj → LObj → Prop
  | .dead, _ => True
  | _, .dead => True
  | .cells _ _ r k, .cells _ _ s m => (r = true ∧ s = true) ∨ (k = some j ∧ m = some i)
  | _, _ => False

structure Rel (P : Program) (σ : LState) (ρ : List Loc) (w : World) : Prop where
  len : ρ.length = σ.length
  glob : ∀ g, g < P.globals.size → ρ[g]? = some ⟨g, 0, 0⟩
  lt : ∀ (i : Nat) (L : Loc), ρ[i]? = some L → L.block < w.heap.size
  obj : ∀ (i : Nat) (o : LObj) (L : Loc), σ[i]? = some o → ρ[i]? = some L → ObjRel P ρ w L o
  sep : ∀ (i j : Nat) (o p : LObj) (L M : Loc), σ[i]? = some o → σ[j]? = some p → ρ[i]? = some L → ρ[j]? = some M → i ≠ j → L.block = M.block → Exempt i j o p
  al : ∀ (i : Nat) (c : List Value) (e : TypeId) (ro : Bool) (k : Option Nat) (L : Loc), σ[i]? = some (.cells c e ro k) → ρ[i]? = some L → L.off % P.cellsOf e = 0

def Owned (σ : LState) (ρ : List Loc) (b : Nat) : Prop := ∃ (i : Nat) (o : LObj) (L : Loc), σ[i]? = some o ∧ ρ[i]? = some L ∧ o.writable = true ∧ L.block = b

structure Ext (σ : LState) (ρ : List Loc) (w : World) (σ' : LState) (ρ' : List Loc) (w' : World) : Prop where
  pre : ρ <+: ρ'
  size : w.heap.size ≤ w'.heap.size
  keep : ∀ b, b < w.heap.size → ¬ Owned σ ρ b → w'.heap[b]? = w.heap[b]?
  own : ∀ b, b < w.heap.size → Owned σ' ρ' b → Owned σ ρ b
  tape : w'.tape = w.tape
  os : w'.os = w.os
  output : w'.output = w.output
  names : ∀ (i : Nat) (L : Loc), ρ'[i]? = some L → L.block < w.heap.size → ∃ (j : Nat) (M : Loc), ρ[j]? = some M ∧ M.block = L.block

theorem Ext.refl (σ : LState) (ρ : List Loc) (w : World) : Ext σ ρ w σ ρ w := ⟨List.prefix_refl _, Nat.le_refl _, fun _ _ _ => rfl, fun _ _ h => h, rfl, rfl, rfl, fun i L h _ => ⟨i, L, h, rfl⟩⟩

theorem Ext.trans {σ σ' σ'' : LState} {ρ ρ' ρ'' : List Loc} {w w' w'' : World} (h : Ext σ ρ w σ' ρ' w') (k : Ext σ' ρ' w' σ'' ρ'' w'') : Ext σ ρ w σ'' ρ'' w'' :=
  ⟨h.pre.trans k.pre, Nat.le_trans h.size k.size,
   fun b hb ho => (k.keep b (Nat.lt_of_lt_of_le hb h.size) (fun x => ho (h.own b hb x))).trans (h.keep b hb ho),
   fun b hb ho => h.own b hb (k.own b (Nat.lt_of_lt_of_le hb h.size) ho),
   k.tape.trans h.tape, k.os.trans h.os, k.output.trans h.output, fun i L hL hb => let ⟨j, M, h1, h2⟩ := k.names i L hL (Nat.lt_of_lt_of_le hb h.size); let ⟨j', M', h3, h4⟩ := h.names j M h1 (by rw [h2]; exact hb); ⟨j', M', h3, h4.trans h2⟩⟩

theorem EntR.mono {ρ ρ' : List Loc} (h : ρ <+: ρ') {x y : MapEntry} (k : EntR ρ x y) : EntR ρ' x y := ⟨ren_mono h k.key, ren_mono h k.val, k.born⟩
theorem MapR.mono {ρ ρ' : List Loc} (h : ρ <+: ρ') {x y : List MapEntry} (k : MapR ρ x y) : MapR ρ' x y :=
  ⟨k.len, fun i a ha => let ⟨b, hb, r⟩ := k.at_ i a ha; ⟨b, hb, r.mono h⟩⟩

theorem ObjRel.keep {P : Program} {ρ ρ' : List Loc} {w w' : World} {L : Loc} {o : LObj} (h : ObjRel P ρ w L o) (hp : ρ <+: ρ')
    (hw : w'.heap[L.block]? = w.heap[L.block]?) : ObjRel P ρ' w' L o := by
  cases o with
  | dead => trivial
  | cells c e ro kin =>
    obtain ⟨rc, fr, hc, hs, hv, hf⟩ := h
    exact ⟨rc, fr, hw.trans hc, hs, fun k v hk => let ⟨v', h1, h2⟩ := hv k v hk; ⟨v', h1, ren_mono hp h2⟩, hf⟩
  | map es clock =>
    obtain ⟨es', hc, ho, hm⟩ := h
    exact ⟨es', hw.trans hc, ho, hm.mono hp⟩

theorem Rel.of_heap {P : Program} {σ : LState} {ρ : List Loc} {w w' : World} (h : Rel P σ ρ w) (hw : w'.heap = w.heap) : Rel P σ ρ w' :=
  ⟨h.len, h.glob, fun i L hL => by rw [hw]; exact h.lt i L hL, fun i o L ho hL => (h.obj i o L ho hL).keep (List.prefix_refl _) (by rw [hw]), h.sep, h.al⟩

theorem Rel.drew {P : Program} {σ : LState} {ρ : List Loc} {w : World} (h : Rel P σ ρ w) : Rel P σ ρ w.drew := h.of_heap rfl
theorem Ext.drew (σ : LState) (ρ : List Loc) (w : World) : Ext σ ρ w σ ρ w.drew := ⟨List.prefix_refl _, Nat.le_refl _, fun _ _ _ => rfl, fun _ _ h => h, rfl, rfl, rfl, fun i L h _ => ⟨i, L, h, rfl⟩⟩

theorem Exempt.symm {i j : Nat} {o p : LObj} (h : Exempt i j o p) : Exempt j i p o := by
  cases o <;> cases p <;> simp_all [Exempt]
  rcases h with h | h
  · exact .inl ⟨h.2, h.1⟩
  · exact .inr ⟨h.2, h.1⟩

theorem get_lt {α : Type} {l : List α} {i : Nat} {x : α} (h : l[i]? = some x) : i < l.length := by
  rcases Nat.lt_or_ge i l.length with hi | hi
  · exact hi
  · simp [List.getElem?_eq_none hi] at h

/-- A new object in a new block. -/
theorem Rel.push {P : Program} {σ : LState} {ρ : List Loc} {w : World} (h : Rel P σ ρ w) (o : LObj) (O : Obj)
    (ho : ObjRel P (ρ ++ [⟨w.heap.size, 0, 0⟩]) (w.alloc O) ⟨w.heap.size, 0, 0⟩ o) :
    Rel P (σ ++ [o]) (ρ ++ [⟨w.heap.size, 0, 0⟩]) (w.alloc O) ∧ Ext σ ρ w (σ ++ [o]) (ρ ++ [⟨w.heap.size, 0, 0⟩]) (w.alloc O) := by
  have hsz : (w.alloc O).heap.size = w.heap.size + 1 := by simp
  have cases_ : ∀ (i : Nat) (L : Loc), (ρ ++ [⟨w.heap.size, 0, 0⟩])[i]? = some L → (ρ[i]? = some L ∧ i < ρ.length) ∨ (i = ρ.length ∧ L = ⟨w.heap.size, 0, 0⟩) := by
    intro i L hL
    rcases Nat.lt_or_ge i ρ.length with hi | hi
    · exact .inl ⟨by rwa [List.getElem?_append_left hi] at hL, hi⟩
    · rw [List.getElem?_append_right hi] at hL
      have h0 := get_lt hL
      simp at h0
      have : i = ρ.length := by omega
      subst this
      simp at hL
      exact .inr ⟨rfl, hL.symm⟩
  have oldo : ∀ (i : Nat) (p : LObj), (σ ++ [o])[i]? = some p → i < ρ.length → σ[i]? = some p := by
    intro i p hp hi
    rwa [List.getElem?_append_left (by rw [← h.len]; exact hi)] at hp
  refine ⟨⟨by simp [h.len], fun g hg => getElem?_prefix (List.prefix_append _ _) (h.glob g hg), ?_, ?_, ?_, fun i c e ro k L hi hL => by
    rcases cases_ i L hL with ⟨hL, hi2⟩ | ⟨_, rfl⟩
    · exact h.al i c e ro k L (oldo i _ hi hi2) hL
    · simp⟩, ?_⟩
  · intro i L hL
    rcases cases_ i L hL with ⟨hL, _⟩ | ⟨_, rfl⟩
    · have := h.lt i L hL; omega
    · show w.heap.size < _; omega
  · intro i p L hp hL
    rcases cases_ i L hL with ⟨hL, hi⟩ | ⟨rfl, rfl⟩
    · exact (h.obj i p L (oldo i p hp hi) hL).keep (List.prefix_append _ _) (heap_alloc_old w O _ (h.lt i L hL))
    · rw [h.len] at hp
      simp at hp
      subst hp
      exact ho
  · intro i j p q L M hp hq hL hM hne hb
    rcases cases_ i L hL with ⟨hL, hi⟩ | ⟨hi, rfl⟩ <;> rcases cases_ j M hM with ⟨hM, hj⟩ | ⟨hj, rfl⟩
    · exact h.sep i j p q L M (oldo i p hp hi) (oldo j q hq hj) hL hM hne hb
    · have := h.lt i L hL; simp only at hb; omega
    · have := h.lt j M hM; simp only at hb; omega
    · omega
  · refine ⟨List.prefix_append _ _, by omega, fun b hb _ => heap_alloc_old w O b hb, ?_, rfl, rfl, rfl, fun i L hL hb => by
      rcases cases_ i L hL with ⟨hL, _⟩ | ⟨_, rfl⟩
      · exact ⟨i, L, hL, rfl⟩
      · simp at hb⟩
    rintro b hb ⟨i, p, L, hp, hL, hw, rfl⟩
    rcases cases_ i L hL with ⟨hL, hi⟩ | ⟨_, rfl⟩
    · exact ⟨i, p, L, oldo i p hp hi, hL, hw, rfl⟩
    · simp at hb

theorem ObjRel.new_cells {P : Program} {ρ : List Loc} {w : World} {c : List Value} {c' : Array Value} (e : TypeId) (h : renL ρ c = some c'.toList) (ro : Bool) (ρ' : List Loc) (hp : ρ <+: ρ') :
    ObjRel P ρ' (w.alloc (.cells c' e)) ⟨w.heap.size, 0, 0⟩ (.cells c e ro none) := by
  have hl := renL_length h
  refine ⟨c', (0, 0), heap_alloc_new w _, by simp [← hl], fun k v hk => ?_, fun _ k _ => by simp⟩
  obtain ⟨v', h1, h2⟩ := renL_get h hk
  exact ⟨v', by simpa using h1, ren_mono hp h2⟩

/-- The other one of a family goes. -/
def kill (k : Option Nat) (σ : LState) : LState :=
  match k with
  | some j => σ.set j .dead
  | none => σ

theorem kill_length (k : Option Nat) (σ : LState) : (kill k σ).length = σ.length := by cases k <;> simp [kill]

theorem kill_get {k : Option Nat} {σ : LState} {i : Nat} {o : LObj} (h : (kill k σ)[i]? = some o) : o = .dead ∨ (σ[i]? = some o ∧ k ≠ some i) := by
  cases k with
  | none => exact .inr ⟨h, by simp⟩
  | some j =>
    simp only [kill, List.getElem?_set] at h
    split at h
    · split at h <;> simp at h
      exact .inl h.symm
    · rename_i hne; exact .inr ⟨h, by simpa using hne⟩

theorem heap_setCell_at (w : World) (a : Addr) (v : Value) (rc : Array Value) (e : TypeId) (fr : Nat × Nat) (ha : a.spot = none) (h : w.heap[a.block]? = some (.cells rc e fr)) :
    (w.setCell a v).heap[a.block]? = some (.cells (rc.setIfInBounds a.off v) e fr) := by
  obtain ⟨b, o, s⟩ := a
  simp only at ha h
  subst ha
  simp [World.setCell, Array.getElem?_modify, h]

/-- A cell is written. -/
theorem Rel.setCell {P : Program} {σ : LState} {ρ : List Loc} {w : World} (h : Rel P σ ρ w) {i : Nat} {c : List Value} {e : TypeId} {kin : Option Nat} {L : Loc} {k : Nat} {v v' : Value}
    (hi : σ[i]? = some (.cells c e false kin)) (hL : ρ[i]? = some L) (hk : k < c.length) (hv : ren ρ v = some v') :
    Rel P (kill kin (σ.set i (.cells (c.set k v) e false none))) ρ (w.setCell ⟨L.block, L.off + k, none⟩ v') ∧
      Ext σ ρ w (kill kin (σ.set i (.cells (c.set k v) e false none))) ρ (w.setCell ⟨L.block, L.off + k, none⟩ v') := by
  have hil := get_lt hi
  have get : ∀ (j : Nat) (p : LObj), (kill kin (σ.set i (.cells (c.set k v) e false none)))[j]? = some p →
      p = .dead ∨ (j = i ∧ p = .cells (c.set k v) e false none) ∨ (j ≠ i ∧ σ[j]? = some p ∧ kin ≠ some j) := by
    intro j p hp
    rcases kill_get hp with hd | ⟨hp, hkin⟩
    · exact .inl hd
    · by_cases he : i = j
      · subst he; rw [List.getElem?_set_self hil] at hp; simp at hp; exact .inr (.inl ⟨rfl, hp.symm⟩)
      · rw [List.getElem?_set_ne he] at hp; exact .inr (.inr ⟨fun x => he x.symm, hp, hkin⟩)
  have other : ∀ (j : Nat) (p : LObj) (M : Loc), j ≠ i → σ[j]? = some p → kin ≠ some j → ρ[j]? = some M → p ≠ .dead → M.block ≠ L.block := by
    intro j p M hne hp hkin hM hd hb
    have := h.sep j i p _ M L hp hi hM hL hne hb
    cases p with
    | dead => exact hd rfl
    | cells a b r s =>
      simp only [Exempt] at this
      rcases this with ⟨_, x⟩ | ⟨_, x⟩
      · simp at x
      · exact hkin x
    | map a b => simp [Exempt] at this
  refine ⟨⟨by simp [kill_length, h.len], h.glob, fun j M hM => by simpa using h.lt j M hM, ?_, ?_, fun j c2 e2 ro k2 M hj hM => by
    rcases get j _ hj with hd | ⟨hji, he⟩ | ⟨_, hp, _⟩
    · simp at hd
    · simp only [LObj.cells.injEq] at he
      rw [he.2.1]
      rw [hji] at hM
      exact h.al i _ _ _ _ M hi hM
    · exact h.al j _ _ _ _ M hp hM⟩, ?_⟩
  · intro j p M hp hM
    rcases get j p hp with rfl | ⟨rfl, rfl⟩ | ⟨hne, hp, hkin⟩
    · trivial
    · rw [hL] at hM
      simp at hM
      subst hM
      obtain ⟨rc, fr, hc, hs, hvs, hf⟩ := h.obj j _ L hi hL
      refine ⟨rc.setIfInBounds (L.off + k) v', fr, ?_, by simpa using hs, ?_, by simpa using hf⟩
      · exact heap_setCell_at w ⟨L.block, L.off + k, none⟩ v' rc e fr rfl hc
      · intro m u hm
        by_cases he : k = m
        · subst he
          rw [List.getElem?_set_self hk] at hm
          simp at hm
          subst hm
          exact ⟨v', by simp [Array.getElem?_setIfInBounds]; omega, hv⟩
        · rw [List.getElem?_set_ne he] at hm
          obtain ⟨u', h1, h2⟩ := hvs m u hm
          exact ⟨u', by rw [Array.getElem?_setIfInBounds_ne (by omega)]; exact h1, h2⟩
    · by_cases hd : p = .dead
      · subst hd; trivial
      · exact (h.obj j p M hp hM).keep (List.prefix_refl _) (heap_setCell_other w _ _ _ (other j p M hne hp hkin hM hd))
  · intro j m p q M N hp hq hM hN hne hb
    rcases get j p hp with hp1 | ⟨hj, hp1⟩ | ⟨hj, hp1, hkin1⟩
    · subst hp1; simp [Exempt]
    · rcases get m q hq with hq1 | ⟨hm, hq1⟩ | ⟨hm, hq1, hkin2⟩
      · subst hq1; simp [Exempt, hp1]
      · exact absurd (hj.trans hm.symm) hne
      · rw [hj, hL] at hM
        simp at hM
        rw [← hM] at hb
        by_cases hd : q = .dead
        · subst hd; simp [Exempt, hp1]
        · exact absurd hb.symm (other m q N hm hq1 hkin2 hN hd)
    · rcases get m q hq with hq1 | ⟨hm, hq1⟩ | ⟨hm, hq1, hkin2⟩
      · subst hq1; cases p <;> simp [Exempt]
      · rw [hm, hL] at hN
        simp at hN
        rw [← hN] at hb
        by_cases hd : p = .dead
        · subst hd; simp [Exempt]
        · exact absurd hb (other j p M hj hp1 hkin1 hM hd)
      · exact h.sep j m p q M N hp1 hq1 hM hN hne hb
  · refine ⟨List.prefix_refl _, by simp, ?_, ?_, rfl, rfl, rfl, fun i L h _ => ⟨i, L, h, rfl⟩⟩
    · intro b _ ho
      refine heap_setCell_other w _ _ _ fun hb => ho ⟨i, _, L, hi, hL, rfl, hb.symm⟩
    · rintro b _ ⟨j, p, M, hp, hM, hw, rfl⟩
      rcases get j p hp with rfl | ⟨rfl, rfl⟩ | ⟨_, hp, _⟩
      · simp [LObj.writable] at hw
      · exact ⟨j, _, M, hi, hM, rfl, rfl⟩
      · exact ⟨j, p, M, hp, hM, hw, rfl⟩

/-- Objects may be forgotten. -/
theorem Rel.forget {P : Program} {σ : LState} {ρ : List Loc} {w : World} (h : Rel P σ ρ w) (k : Option Nat) : Rel P (kill k σ) ρ w ∧ Ext σ ρ w (kill k σ) ρ w := by
  refine ⟨⟨by simp [kill_length, h.len], h.glob, h.lt, ?_, ?_, fun j c2 e2 ro k2 M hj hM => by
    rcases kill_get hj with hd | ⟨hp, _⟩
    · simp at hd
    · exact h.al j _ _ _ _ M hp hM⟩, List.prefix_refl _, Nat.le_refl _, fun _ _ _ => rfl, ?_, rfl, rfl, rfl, fun i L h _ => ⟨i, L, h, rfl⟩⟩
  · intro i o L ho hL
    rcases kill_get ho with rfl | ⟨ho, _⟩
    · trivial
    · exact h.obj i o L ho hL
  · intro i j o p L M ho hp hL hM hne hb
    rcases kill_get ho with rfl | ⟨ho, _⟩
    · simp [Exempt]
    · rcases kill_get hp with rfl | ⟨hp, _⟩
      · cases o <;> simp [Exempt]
      · exact h.sep i j o p L M ho hp hL hM hne hb
  · rintro b _ ⟨i, o, L, ho, hL, hw, rfl⟩
    rcases kill_get ho with rfl | ⟨ho, _⟩
    · simp [LObj.writable] at hw
    · exact ⟨i, o, L, ho, hL, hw, rfl⟩

end Go.Lg
end

section
namespace Go.Lg
open Go

/-- What an operation does, at a related world. -/
def Does (P : Program) (σ : LState) (ρ : List Loc) (w : World) (s : Sem Value) (v : Value) (σ' : LState) : Prop :=
  ∃ v' w' ρ', s.run P w = .ok v' w' ∧ ren ρ' v = some v' ∧ Rel P σ' ρ' w' ∧ Ext σ ρ w σ' ρ' w'

theorem Does.same {P : Program} {σ : LState} {ρ : List Loc} {w : World} {s : Sem Value} {v v' : Value} (hR : Rel P σ ρ w) (h : s.run P w = .ok v' w) (hv : ren ρ v = some v') :
    Does P σ ρ w s v σ := ⟨v', w, ρ, h, hv, hR, Ext.refl _ _ _⟩

/-- .. where nothing turns. -/
def DoesQ (P : Program) (ρ : List Loc) (w : World) (s : Sem Value) (v : Value) : Prop := ∃ v', s.run P w = .ok v' w ∧ ren ρ v = some v'

theorem DoesQ.same {P : Program} {σ : LState} {ρ : List Loc} {w : World} {s : Sem Value} {v v' : Value} (_ : Rel P σ ρ w) (h : s.run P w = .ok v' w) (hv : ren ρ v = some v') : DoesQ P ρ w s v := ⟨v', h, hv⟩

theorem DoesQ.does {P : Program} {σ : LState} {ρ : List Loc} {w : World} {s : Sem Value} {v : Value} (h : DoesQ P ρ w s v) (hR : Rel P σ ρ w) : Does P σ ρ w s v σ :=
  let ⟨_, h1, h2⟩ := h; Does.same hR h1 h2

def pureRun (P : Program) {α : Type} : Sem α → Option α
  | .pure a => some a
  | .program k => pureRun P (k P)
  | .mark _ k => pureRun P k
  | _ => none

theorem pureRun_sound {P : Program} {α : Type} : ∀ {s : Sem α} {x : α}, pureRun P s = some x → ∀ w, s.run P w = .ok x w
  | .pure a, x, h, w => by simp [pureRun] at h; subst h; rfl
  | .program k, x, h, w => by simp only [pureRun] at h; simpa [Sem.run] using pureRun_sound h w
  | .mark m k, x, h, w => by simp only [pureRun] at h; simpa [Sem.run] using pureRun_sound h w

theorem add_none (b o n : Nat) : (⟨b, o, none⟩ : Addr).add n = ⟨b, o + n, none⟩ := Addr.add_lit b o n

theorem cell_of (w : World) {b : Nat} {rc : Array Value} {e : TypeId} {fr : Nat × Nat} (h : w.heap[b]? = some (.cells rc e fr)) (o : Nat) : w.cell? ⟨b, o, none⟩ = rc[o]? :=
  cell_of_row w b o rc e fr h

theorem frozen_of (w : World) {b : Nat} {rc : Array Value} {e : TypeId} {fr : Nat × Nat} (h : w.heap[b]? = some (.cells rc e fr)) (o : Nat) :
    w.frozen? ⟨b, o, none⟩ = (fr.1 ≤ o && o < fr.2) := by simp [World.frozen?, h]

/- ---- reading -/

def cellAt (σ : LState) (a : Addr) : Option Value :=
  match a.spot, σ[a.block]? with
  | none, some (.cells c _ _ _) => c[a.off]?
  | _, _ => none

def cellsAt (σ : LState) (a : Addr) (n : Nat) : Option (List Value) :=
  match a.spot, σ[a.block]? with
  | none, some (.cells c _ _ _) => if a.off + n ≤ c.length then some ((c.drop a.off).take n) else none
  | _, _ => none

theorem cellAt_real {P : Program} {σ : LState} {ρ : List Loc} {w : World} (hR : Rel P σ ρ w) {a : Addr} {v : Value} (h : cellAt σ a = some v) {x' : Value} (hx : ren ρ (.pointer (some a)) = some x') :
    ∃ L v', ρ[a.block]? = some L ∧ x' = .pointer (some ⟨L.block, L.off + a.off, none⟩) ∧ w.cell? ⟨L.block, L.off + a.off, none⟩ = some v' ∧ ren ρ v = some v' := by
  obtain ⟨b, o, sp⟩ := a
  cases sp with
  | some s => simp [ren] at hx
  | none =>
    simp only [ren] at hx
    cases hL : ρ[b]? with
    | none => simp [hL] at hx
    | some L =>
      simp only [hL, Option.some.injEq] at hx
      simp only [cellAt] at h
      cases ho : σ[b]? with
      | none => simp [ho] at h
      | some O =>
        cases O with
        | cells c e ro k =>
          simp only [ho] at h
          obtain ⟨rc, fr, hc, _, hv, _⟩ := hR.obj b _ L ho hL
          obtain ⟨v', h1, h2⟩ := hv o v h
          exact ⟨L, v', rfl, hx.symm, by rw [cell_of w hc]; exact h1, h2⟩
        | _ => simp [ho] at h

theorem cellsAt_real {P : Program} {σ : LState} {ρ : List Loc} {w : World} (hR : Rel P σ ρ w) {a : Addr} {n : Nat} {l : List Value} (h : cellsAt σ a n = some l) {L : Loc} (hL : ρ[a.block]? = some L) :
    ∃ l', renL ρ l = some l' ∧ l.length = n ∧ (loadCells ⟨L.block, L.off + a.off, none⟩ n).run P w = .ok l'.toArray w ∧ ∀ j v, l'[j]? = some v → w.cell? ⟨L.block, L.off + a.off + j, none⟩ = some v := by
  obtain ⟨b, o, sp⟩ := a
  cases sp with
  | some s => simp [cellsAt] at h
  | none =>
    simp only [cellsAt] at h
    cases ho : σ[b]? with
    | none => simp [ho] at h
    | some O =>
      cases O with
      | cells c e ro k =>
        simp only [ho] at h
        split at h
        · rename_i hle
          simp at h
          subst h
          obtain ⟨rc, fr, hc, hs, hv, _⟩ := hR.obj b _ L ho hL
          have hlen : ((c.drop o).take n).length = n := by simp; omega
          let l' : List Value := (rc.toList.drop (L.off + o)).take n
          have hl' : l'.length = n := by simp [l']; omega
          have hget : ∀ (j : Nat), j < n → l'[j]? = rc[L.off + o + j]? := by
            intro j hj
            simp [l', hj, List.getElem?_drop]
          have hren : renL ρ ((c.drop o).take n) = some l' := by
            refine renL_of_get (by rw [hl', hlen]) fun j v hj => ?_
            have hjn : j < n := by have := get_lt hj; omega
            rw [List.getElem?_take, if_pos hjn, List.getElem?_drop] at hj
            obtain ⟨v', h1, h2⟩ := hv (o + j) v hj
            exact ⟨v', by rw [hget j hjn, ← h1, Nat.add_assoc], h2⟩
          have hcell : ∀ j v, l'[j]? = some v → w.cell? ⟨L.block, L.off + o + j, none⟩ = some v := by
            intro j v hj
            have hjn : j < n := by have := get_lt hj; omega
            rw [cell_of w hc, ← hget j hjn, hj]
          refine ⟨l', hren, hlen, ?_, hcell⟩
          have := run_loadCells_list (P := P) w ⟨L.block, L.off + o, none⟩ l' (fun j v hj => by rw [add_none]; exact hcell j v hj)
          rwa [hl'] at this
        · simp at h
      | _ => simp [ho] at h

def lisAgg (P : Program) (t : TypeId) : Option Bool :=
  match P.underlying t with
  | some (.struct _) => some true
  | some (.array _ _) => some true
  | some _ => some false
  | none => none

def lsize (P : Program) (t : TypeId) : Option Nat := (P.info? t).map (·.size)

theorem run_isAgg {P : Program} {t : TypeId} {b : Bool} (h : lisAgg P t = some b) (w : World) : (isAgg t).run P w = .ok b w := by
  unfold lisAgg at h
  cases hu : P.underlying t with
  | none => simp [hu] at h
  | some d =>
    simp only [isAgg, Sem.run_bind, run_underlying hu, Result.andThen_ok]
    cases d <;> simp [hu] at h <;> subst h <;> rfl

theorem run_sizeOf {P : Program} {t : TypeId} {n : Nat} (h : lsize P t = some n) (w : World) : (sizeOf t).run P w = .ok n w := by
  unfold lsize at h
  cases hi : P.info? t with
  | none => simp [hi] at h
  | some i => simp [hi] at h; subst h; simp [sizeOf, typeInfo, hi]

theorem cellsOf_lsize {P : Program} {t : TypeId} {n : Nat} (h : lsize P t = some n) : P.cellsOf t = n := by
  unfold lsize at h
  simp only [Program.cellsOf, h, Option.getD_some]

def lloadAt (P : Program) (σ : LState) (t : TypeId) (a : Addr) : Option Value :=
  match lisAgg P t with
  | some true => match lsize P t with
    | some n => match cellsAt σ a n with
      | some l => some (.agg l.toArray)
      | none => none
    | none => none
  | some false => cellAt σ a
  | none => none

def lload (P : Program) (σ : LState) (t : TypeId) : Value → Option Value
  | .pointer (some a) => lloadAt P σ t a
  | _ => none

theorem ren_pointer {ρ : List Loc} {a : Addr} {x' : Value} (hx : ren ρ (.pointer (some a)) = some x') : ∃ L, a.spot = none ∧ ρ[a.block]? = some L ∧ x' = .pointer (some ⟨L.block, L.off + a.off, none⟩) := by
  obtain ⟨b, o, sp⟩ := a
  cases sp with
  | some s => simp [ren] at hx
  | none =>
    simp only [ren] at hx
    cases hL : ρ[b]? with
    | none => simp [hL] at hx
    | some L => simp only [hL, Option.some.injEq] at hx; exact ⟨L, rfl, rfl, hx.symm⟩

theorem ren_pointer_mk {ρ : List Loc} {a : Addr} {L : Loc} (hs : a.spot = none) (hL : ρ[a.block]? = some L) : ren ρ (.pointer (some a)) = some (.pointer (some ⟨L.block, L.off + a.off, none⟩)) := by
  obtain ⟨b, o, sp⟩ := a
  simp only at hs hL
  subst hs
  simp [ren, hL]

theorem loadVar_real {P : Program} {σ : LState} {ρ : List Loc} {w : World} (hR : Rel P σ ρ w) {t : TypeId} {a : Addr} {v : Value} (h : lloadAt P σ t a = some v) {L : Loc} (hs : a.spot = none) (hL : ρ[a.block]? = some L) :
    ∃ v', (loadVar t ⟨L.block, L.off + a.off, none⟩).run P w = .ok v' w ∧ ren ρ v = some v' := by
  unfold lloadAt at h
  cases hg : lisAgg P t with
  | none => simp [hg] at h
  | some b =>
    cases b with
    | true =>
      simp only [hg] at h
      cases hn : lsize P t with
      | none => simp [hn] at h
      | some n =>
        simp only [hn] at h
        cases hc : cellsAt σ a n with
        | none => simp [hc] at h
        | some l =>
          simp only [hc, Option.some.injEq] at h
          subst h
          obtain ⟨l', hl, _, hrun, _⟩ := cellsAt_real hR hc hL
          refine ⟨.agg l'.toArray, ?_, by simp [ren, renA_mk hl]⟩
          simp [loadVar, run_isAgg hg, run_sizeOf hn, hrun]
    | false =>
      simp only [hg] at h
      obtain ⟨L', v', hL', hx, hcell, hv⟩ := cellAt_real hR h (ren_pointer_mk hs hL)
      rw [hL] at hL'
      simp at hL'
      subst hL'
      exact ⟨v', by simp [loadVar, run_isAgg hg, hcell], hv⟩

theorem lload_does {P : Program} {σ : LState} {ρ : List Loc} {w : World} (hR : Rel P σ ρ w) {t : TypeId} {x x' v : Value} (hx : ren ρ x = some x') (h : lload P σ t x = some v) :
    DoesQ P ρ w (Instr.loadAt t x') v := by
  cases x with
  | pointer a =>
    cases a with
    | none => simp [lload] at h
    | some a =>
      simp only [lload] at h
      obtain ⟨L, hs, hL, rfl⟩ := ren_pointer hx
      obtain ⟨v', hrun, hv⟩ := loadVar_real hR h hs hL
      exact DoesQ.same hR (by simpa [Instr.loadAt, Instr.sureAddr] using hrun) hv
  | _ => simp [lload] at h

/- ---- writing -/

def setCell1 (σ : LState) (a : Addr) (v : Value) : Option LState :=
  match a.spot, σ[a.block]? with
  | none, some (.cells c e false kin) => if a.off < c.length && v.oneCell' then some (kill kin (σ.set a.block (.cells (c.set a.off v) e false none))) else none
  | _, _ => none

def storeL (σ : LState) (b o : Nat) : List Value → Option LState
  | [] => some σ
  | v :: r => match setCell1 σ ⟨b, o, none⟩ v with
    | some σ' => storeL σ' b (o + 1) r
    | none => none

theorem setCell1_real {P : Program} {σ σ' : LState} {ρ : List Loc} {w : World} (hR : Rel P σ ρ w) {b o : Nat} {v v' : Value} (h : setCell1 σ ⟨b, o, none⟩ v = some σ') (hv : ren ρ v = some v') {L : Loc} (hL : ρ[b]? = some L) :
    (store ⟨L.block, L.off + o, none⟩ v').run P w = .ok () (w.setCell ⟨L.block, L.off + o, none⟩ v') ∧ Rel P σ' ρ (w.setCell ⟨L.block, L.off + o, none⟩ v') ∧ Ext σ ρ w σ' ρ (w.setCell ⟨L.block, L.off + o, none⟩ v') := by
  simp only [setCell1] at h
  cases ho : σ[b]? with
  | none => simp [ho] at h
  | some O =>
    cases O with
    | cells c e ro kin =>
      cases ro with
      | true => simp [ho] at h
      | false =>
        simp only [ho] at h
        split at h
        · rename_i hc
          simp only [Bool.and_eq_true, decide_eq_true_eq] at hc
          simp only [Option.some.injEq] at h
          subst h
          refine ⟨?_, hR.setCell ho hL hc.1 hv⟩
          obtain ⟨rc, fr, hh, hs, hvs, hf⟩ := hR.obj b _ L ho hL
          obtain ⟨u', hu, _⟩ := hvs o _ (List.getElem?_eq_getElem hc.1)
          have hcell : w.cell? ⟨L.block, L.off + o, none⟩ = some u' := by rw [cell_of w hh]; exact hu
          have hfr : w.frozen? ⟨L.block, L.off + o, none⟩ = false := by
            rw [frozen_of w hh]
            have := hf rfl o (by omega)
            simp only [Bool.and_eq_false_iff, decide_eq_false_iff_not]
            by_cases hx : fr.1 ≤ L.off + o
            · exact .inr fun hy => this ⟨hx, hy⟩
            · exact .inl hx
          rw [run_store P w _ v' _ (by rw [ren_oneCell hv]; exact hc.2)]
          simp [hcell, hfr]
        · simp at h
    | _ => simp [ho] at h

theorem storeL_real {P : Program} {ρ : List Loc} {b : Nat} {L : Loc} (hL : ρ[b]? = some L) : ∀ {vs vs' : List Value} {σ σ' : LState} {w : World} {o base i : Nat}, base + i = L.off + o → Rel P σ ρ w → renL ρ vs = some vs' →
    storeL σ b o vs = some σ' → ∃ w', (storeCells ⟨L.block, base, none⟩ vs' i).run P w = .ok () w' ∧ Rel P σ' ρ w' ∧ Ext σ ρ w σ' ρ w'
  | [], _, σ, σ', w, o, base, i, _, hR, hv, h => by
    simp [renL] at hv
    subst hv
    simp [storeL] at h
    subst h
    exact ⟨w, by simp [storeCells], hR, Ext.refl _ _ _⟩
  | v :: vs, _, σ, σ', w, o, base, i, hb, hR, hv, h => by
    simp only [renL] at hv
    cases hx : ren ρ v with
    | none => simp [hx] at hv
    | some v' =>
      cases hy : renL ρ vs with
      | none => simp [hx, hy] at hv
      | some vs' =>
        simp [hx, hy] at hv
        subst hv
        simp only [storeL] at h
        cases h1 : setCell1 σ ⟨b, o, none⟩ v with
        | none => simp [h1] at h
        | some σ1 =>
          simp only [h1] at h
          obtain ⟨hrun, hR1, hE1⟩ := setCell1_real hR h1 hx hL
          obtain ⟨w', hrun2, hR2, hE2⟩ := storeL_real hL (base := base) (i := i + 1) (o := o + 1) (by omega) hR1 hy h
          refine ⟨w', ?_, hR2, hE1.trans hE2⟩
          rw [← hb] at hrun hrun2
          simp only [storeCells, Sem.run_bind, add_none, hrun, Result.andThen_ok, hrun2]

def lstore (P : Program) (σ : LState) (t : TypeId) (x v : Value) : Option LState :=
  match x with
  | .pointer (some a) => match a.spot, lsize P t with
    | none, some n => if v.cells.size = n then storeL σ a.block a.off v.cells.toList else none
    | _, _ => none
  | _ => none

theorem lstore_real {P : Program} {σ σ' : LState} {ρ : List Loc} {w : World} (hR : Rel P σ ρ w) {t : TypeId} {x x' v v' : Value} (hx : ren ρ x = some x') (hv : ren ρ v = some v') (h : lstore P σ t x v = some σ') :
    ∃ w', (Instr.storeAt t x' v').run P w = .ok () w' ∧ Rel P σ' ρ w' ∧ Ext σ ρ w σ' ρ w' := by
  unfold lstore at h
  cases x with
  | pointer a =>
    cases a with
    | none => simp at h
    | some a =>
      obtain ⟨L, hs, hL, rfl⟩ := ren_pointer hx
      cases hn : lsize P t with
      | none => simp [hs, hn] at h
      | some n =>
        simp only [hs, hn] at h
        split at h
        · rename_i hsz
          have hc := ren_cells hv
          obtain ⟨w', hrun, hR', hE'⟩ := storeL_real (P := P) hL (base := L.off + a.off) (i := 0) (o := a.off) (by omega) hR hc h
          refine ⟨w', ?_, hR', hE'⟩
          have hsz' : v'.cells.size = n := by have := renL_length hc; simp at this; omega
          simp [Instr.storeAt, Instr.sureAddr, storeVar, run_sizeOf hn, hsz', hrun]
        · simp at h
  | _ => simp at h

/- ---- new memory -/

def lnew (σ : LState) (t : TypeId) (c : List Value) : Value × LState := (.pointer (some ⟨σ.length, 0, none⟩), σ ++ [.cells c t false none])

theorem push_ren {P : Program} {σ : LState} {ρ : List Loc} {w : World} (hR : Rel P σ ρ w) (L : Loc) : (ρ ++ [L])[σ.length]? = some L := by
  rw [← hR.len]; simp

theorem lnew_real {P : Program} {σ : LState} {ρ : List Loc} {w : World} (hR : Rel P σ ρ w) (t : TypeId) {c : List Value} {c' : Array Value} (hc : renL ρ c = some c'.toList) :
    ∃ w' ρ', (newRow t c').run P w = .ok ⟨w.heap.size, 0, none⟩ w' ∧ ren ρ' (lnew σ t c).1 = some (.pointer (some ⟨w.heap.size, 0, none⟩)) ∧ ρ'[σ.length]? = some ⟨w.heap.size, 0, 0⟩ ∧
      Rel P (lnew σ t c).2 ρ' w' ∧ Ext σ ρ w (lnew σ t c).2 ρ' w' := by
  obtain ⟨h1, h2⟩ := hR.push (.cells c t false none) (.cells c' t) (ObjRel.new_cells t hc false _ (List.prefix_append _ _))
  refine ⟨_, _, by simp [newRow], ?_, push_ren hR _, h1, h2⟩
  simp [lnew, ren, push_ren hR]

def lzero (P : Program) (t : TypeId) : Option Value :=
  match P.info? t with
  | some i => match i.zero with
    | some z => if flat z then some z else none
    | none => none
  | none => none

theorem lzero_real {P : Program} {t : TypeId} {z : Value} (h : lzero P t = some z) (w : World) : (zeroValue t).run P w = .ok z w ∧ flat z = true := by
  unfold lzero at h
  cases hi : P.info? t with
  | none => simp [hi] at h
  | some i =>
    simp only [hi] at h
    cases hz : i.zero with
    | none => simp [hz] at h
    | some z' =>
      simp only [hz] at h
      split at h
      · rename_i hf; simp at h; subst h; exact ⟨by simp [zeroValue, typeInfo, hi, hz], hf⟩
      · simp at h

def lalloc (P : Program) (σ : LState) (t : TypeId) : Option (Value × LState) :=
  match lzero P t with
  | some z => some (lnew σ t z.cells.toList)
  | none => none

theorem lalloc_does {P : Program} {σ σ' : LState} {ρ : List Loc} {w : World} (hR : Rel P σ ρ w) {t : TypeId} {v : Value} (h : lalloc P σ t = some (v, σ')) :
    Does P σ ρ w (Instr.alloc t true (.tuple #[])) v σ' := by
  unfold lalloc at h
  cases hz : lzero P t with
  | none => simp [hz] at h
  | some z =>
    simp only [hz, Option.some.injEq] at h
    obtain ⟨hrun, hf⟩ := lzero_real hz w
    obtain ⟨w', ρ', hr, hren, _, hR', hE⟩ := lnew_real hR t (ren_cells (ren_flat ρ hf))
    refine ⟨.pointer (some ⟨w.heap.size, 0, none⟩), w', ρ', ?_, ?_, ?_, ?_⟩
    · simp only [Instr.alloc, Sem.run_bind, hrun, Result.andThen_ok, newVar, hr, Sem.run_pure]
    · rw [← hren, h]
    · rw [h] at hR'; exact hR'
    · rw [h] at hE; exact hE

def lbox (σ : LState) (t : TypeId) (x : Value) : Value × LState := lnew σ t x.cells.toList

theorem lbox_does {P : Program} {σ : LState} {ρ : List Loc} {w : World} (hR : Rel P σ ρ w) (t : TypeId) {x x' : Value} (hx : ren ρ x = some x') :
    Does P σ ρ w (Instr.box t x') (lbox σ t x).1 (lbox σ t x).2 := by
  obtain ⟨w', ρ', hr, hren, _, hR', hE⟩ := lnew_real hR t (ren_cells hx)
  exact ⟨_, w', ρ', by simp only [Instr.box, Sem.run_bind, newVar, hr, Result.andThen_ok, Sem.run_pure], hren, hR', hE⟩

/- ---- build -/

theorem renA_set {ρ : List Loc} {a a' : Array Value} {v v' : Value} (n : Nat) (h : renL ρ a.toList = some a'.toList) (hv : ren ρ v = some v') : renL ρ (a.setIfInBounds n v).toList = some (a'.setIfInBounds n v').toList := by
  simpa using renL_set n h hv

theorem fold_ren {ρ : List Loc} (off : Nat) : ∀ (l l' : List (Value × Nat)) (a a' : Array Value), l'.length = l.length → (∀ (i : Nat) (x : Value × Nat), l[i]? = some x → ∃ y : Value × Nat, l'[i]? = some y ∧ ren ρ x.1 = some y.1 ∧ y.2 = x.2) →
    renL ρ a.toList = some a'.toList → renL ρ (l.foldl (fun cs (c : Value × Nat) => cs.setIfInBounds (off + c.2) c.1) a).toList = some (l'.foldl (fun cs (c : Value × Nat) => cs.setIfInBounds (off + c.2) c.1) a').toList
  | [], l', a, a', hl, _, h => by
    have : l' = [] := List.length_eq_zero_iff.1 (by simpa using hl)
    subst this; simpa using h
  | x :: l, [], _, _, hl, _, _ => by simp at hl
  | x :: l, y :: l', a, a', hl, hg, h => by
    obtain ⟨y', hy, hr, hn⟩ := hg 0 x (by simp)
    simp at hy
    subst hy
    simp only [List.foldl_cons]
    refine fold_ren off l l' _ _ (by simpa using hl) (fun i z hz => by simpa using hg (i + 1) z (by simpa using hz)) ?_
    rw [hn]
    exact renA_set _ h hr

theorem size_fold (off : Nat) : ∀ (l : List (Value × Nat)) (a : Array Value), (l.foldl (fun cs (c : Value × Nat) => cs.setIfInBounds (off + c.2) c.1) a).size = a.size
  | [], _ => rfl
  | x :: l, a => by rw [List.foldl_cons, size_fold off l]; simp

theorem fold_zipIdx (v : Value) (off : Nat) (a : Array Value) : v.cells.zipIdx.foldl (fun cs (c, j) => cs.setIfInBounds (off + j) c) a = v.cells.toList.zipIdx.foldl (fun cs (c : Value × Nat) => cs.setIfInBounds (off + c.2) c.1) a := by
  rw [← Array.foldl_toList]
  simp

structure PartsR (ρ : List Loc) (l l' : List (Nat × Value)) : Prop where
  len : l'.length = l.length
  at_ : ∀ (i : Nat) (x : Nat × Value), l[i]? = some x → ∃ y : Nat × Value, l'[i]? = some y ∧ y.1 = x.1 ∧ ren ρ x.2 = some y.2

theorem fill_ren {ρ : List Loc} (place : Nat → Option (Nat × Nat)) : ∀ (l l' : List (Nat × Value)) (a a' r : Array Value), PartsR ρ l l' → renL ρ a.toList = some a'.toList → Instr.fill place a l = some r →
    ∃ r', Instr.fill place a' l' = some r' ∧ renL ρ r.toList = some r'.toList
  | [], l', a, a', r, hp, h, hf => by
    have : l' = [] := List.length_eq_zero_iff.1 (by simpa using hp.len)
    subst this
    simp [Instr.fill] at hf
    subst hf
    exact ⟨a', rfl, h⟩
  | x :: l, [], _, _, _, hp, _, _ => by have := hp.len; simp at this
  | (i, v) :: l, (j, v') :: l', a, a', r, hp, h, hf => by
    obtain ⟨y, hy, hi, hv⟩ := hp.at_ 0 (i, v) (by simp)
    simp at hy
    subst hy
    simp only at hi hv
    subst hi
    have hp' : PartsR ρ l l' := ⟨by simpa using hp.len, fun i z hz => by simpa using hp.at_ (i + 1) z (by simpa using hz)⟩
    have hc := ren_cells hv
    have hsz : v'.cells.size = v.cells.size := by have := renL_length hc; simpa using this
    have hsa : a'.size = a.size := by have := renL_length h; simpa using this
    simp only [Instr.fill] at hf ⊢
    cases hpl : place j with
    | none => simp [hpl] at hf
    | some os =>
      obtain ⟨off, size⟩ := os
      simp only [hpl] at hf ⊢
      rw [hsz, hsa]
      split at hf
      · simp at hf
      · rename_i hcond
        rw [if_neg hcond]
        refine fill_ren place l l' _ _ r hp' ?_ hf
        rw [fold_zipIdx, fold_zipIdx]
        refine fold_ren off _ _ a a' (by simp [hsz]) (fun k z hz => ?_) h
        rw [List.getElem?_zipIdx] at hz
        cases hk : v.cells.toList[k]? with
        | none => simp [hk] at hz
        | some u =>
          simp only [hk, Option.map_some, Option.some.injEq] at hz
          subst hz
          obtain ⟨u', h1, h2⟩ := renL_get hc hk
          exact ⟨(u', 0 + k), by rw [List.getElem?_zipIdx, h1]; rfl, h2, rfl⟩

theorem renL_flatA {ρ : List Loc} {z : Value} (h : flat z = true) : renL ρ z.cells.toList = some z.cells.toList := ren_cells (ren_flat ρ h)

def placesOf (P : Program) : List Field → Option (List (Nat × Nat))
  | [] => some []
  | f :: r => match lsize P f.type, placesOf P r with
    | some n, some l => some ((f.offset, n) :: l)
    | _, _ => none

def lbuild (P : Program) (t : TypeId) (parts : List (Nat × Value)) : Option Value :=
  match lzero P t with
  | some z => match P.underlying t with
    | some (.struct fields) => match placesOf P fields.toList with
      | some pl => match Instr.fill (fun i => pl[i]?) z.cells parts with
        | some r => some (.agg r)
        | none => none
      | none => none
    | some (.array _ e) => match lsize P e with
      | some n => match Instr.fill (fun i => some (i * n, n)) z.cells parts with
        | some r => some (.agg r)
        | none => none
      | none => none
    | _ => none
  | none => none

theorem run_places {P : Program} (w : World) : ∀ (fs : List Field) (l : List (Nat × Nat)), placesOf P fs = some l →
    (fs.mapM (fun (f : Field) => (do pure (f.offset, ← sizeOf f.type) : Sem (Nat × Nat)))).run P w = .ok l w
  | [], l, h => by simp [placesOf] at h; subst h; simp
  | f :: r, l, h => by
    simp only [placesOf] at h
    cases hn : lsize P f.type with
    | none => simp [hn] at h
    | some n =>
      cases hl : placesOf P r with
      | none => simp [hn, hl] at h
      | some l' =>
        simp only [hn, hl, Option.some.injEq] at h
        subst h
        have := run_places w r l' hl
        simp only [List.mapM_cons, Sem.run_bind, run_sizeOf hn, Result.andThen_ok, Sem.run_pure, this]

theorem run_placesA {P : Program} (w : World) (fs : Array Field) (l : List (Nat × Nat)) (h : placesOf P fs.toList = some l) :
    (fs.mapM (fun (f : Field) => (do pure (f.offset, ← sizeOf f.type) : Sem (Nat × Nat)))).run P w = .ok l.toArray w := by
  rw [Array.mapM_eq_mapM_toList]
  have := run_places w fs.toList l h
  simp only [Sem.run_map, this, Result.andThen_ok]

theorem lbuild_does {P : Program} {σ : LState} {ρ : List Loc} {w : World} (hR : Rel P σ ρ w) {t : TypeId} {l : List (Nat × Value)} {l' : Array (Nat × Value)} {v : Value} (hp : PartsR ρ l l'.toList) (h : lbuild P t l = some v) :
    DoesQ P ρ w (Instr.build t l') v := by
  unfold lbuild at h
  cases hz : lzero P t with
  | none => simp [hz] at h
  | some z =>
    obtain ⟨hzr, hf⟩ := lzero_real hz w
    simp only [hz] at h
    cases hu : P.underlying t with
    | none => simp [hu] at h
    | some d =>
      cases d with
      | struct fields =>
        simp only [hu] at h
        cases hpl : placesOf P fields.toList with
        | none => simp [hpl] at h
        | some pl =>
          simp only [hpl] at h
          cases hfill : Instr.fill (fun i => pl[i]?) z.cells l with
          | none => simp [hfill] at h
          | some r =>
            simp only [hfill, Option.some.injEq] at h
            subst h
            obtain ⟨r', hr', hren⟩ := fill_ren _ l l'.toList _ _ r hp (renL_flatA hf) hfill
            refine DoesQ.same hR (v' := .agg r') ?_ (by have := renA_mk hren; simp at this; simp [ren, this])
            have e : (fun x : Nat => pl.toArray[x]?) = (fun i : Nat => pl[i]?) := by funext x; simp
            simp only [Instr.build, Sem.run_bind, hzr, Result.andThen_ok, run_underlying hu, run_placesA w fields pl hpl, e, hr', Sem.run_pure]
      | array n e =>
        simp only [hu] at h
        cases hs : lsize P e with
        | none => simp [hs] at h
        | some m =>
          simp only [hs] at h
          cases hfill : Instr.fill (fun i => some (i * m, m)) z.cells l with
          | none => simp [hfill] at h
          | some r =>
            simp only [hfill, Option.some.injEq] at h
            subst h
            obtain ⟨r', hr', hren⟩ := fill_ren _ l l'.toList _ _ r hp (renL_flatA hf) hfill
            refine DoesQ.same hR (v' := .agg r') ?_ (by have := renA_mk hren; simp at this; simp [ren, this])
            simp only [Instr.build, Sem.run_bind, hzr, Result.andThen_ok, run_underlying hu, run_sizeOf hs, hr', Sem.run_pure]
      | _ => simp [hu] at h

end Go.Lg
end

section
namespace Go.Lg
open Go

theorem ren_slice {ρ : List Loc} {a : Addr} {n c : Nat} {x' : Value} (hx : ren ρ (.slice (some a) n c) = some x') :
    ∃ L, a.spot = none ∧ ρ[a.block]? = some L ∧ x' = .slice (some ⟨L.block, L.off + a.off, none⟩) n (L.cap c) := by
  obtain ⟨b, o, sp⟩ := a
  cases sp with
  | some s => simp [ren] at hx
  | none =>
    simp only [ren] at hx
    cases hL : ρ[b]? with
    | none => simp [hL] at hx
    | some L => simp only [hL, Option.some.injEq] at hx; exact ⟨L, rfl, rfl, hx.symm⟩

theorem ren_slice_mk {ρ : List Loc} {a : Addr} {L : Loc} (hs : a.spot = none) (hL : ρ[a.block]? = some L) (n c : Nat) :
    ren ρ (.slice (some a) n c) = some (.slice (some ⟨L.block, L.off + a.off, none⟩) n (L.cap c)) := by
  obtain ⟨b, o, sp⟩ := a
  simp only at hs hL
  subst hs
  simp [ren, hL]

theorem Loc.cap_small (L : Loc) {c : Nat} (h : c < big) : L.cap c = c := by simp [Loc.cap, h]

/- ---- a slice from a literal -/

def zerosOf (z : Array Value) (n : Nat) : Array Value := (Array.range n).map (z[· % z.size]!)

def lzs (z : Array Value) (m : Nat) : Array Value := zerosOf (if m = 0 then #[] else z) m

def lbuildSlice (P : Program) (σ : LState) (t : TypeId) (len : Nat) (parts : List (Nat × Value)) : Option (Value × LState) :=
  match P.underlying t with
  | some (.slice e) => match lsize P e, lzero P e with
    | some n, some z =>
      if len * n ≤ 16777216 && len < big && flatL (lzs z.cells (len * n)).toList then
        match Instr.fill (fun i => some (i * n, n)) (lzs z.cells (len * n)) parts with
        | some r => some (.slice (some ⟨σ.length, 0, none⟩) len len, σ ++ [.cells r.toList e false none])
        | none => none
      else none
    | _, _ => none
  | _ => none

theorem lbuildSlice_does {P : Program} {σ σ' : LState} {ρ : List Loc} {w : World} (hR : Rel P σ ρ w) {t : TypeId} {len : Nat} {l : List (Nat × Value)} {l' : Array (Nat × Value)} {v : Value} (hp : PartsR ρ l l'.toList)
    (h : lbuildSlice P σ t len l = some (v, σ')) : Does P σ ρ w (Instr.buildSlice t len l') v σ' := by
  unfold lbuildSlice at h
  cases hu : P.underlying t with
  | none => simp [hu] at h
  | some d =>
    cases d with
    | slice e =>
      simp only [hu] at h
      cases hn : lsize P e with
      | none => simp [hn] at h
      | some n =>
        cases hz : lzero P e with
        | none => simp [hn, hz] at h
        | some z =>
          simp only [hn, hz] at h
          split at h
          · rename_i hc
            simp only [Bool.and_eq_true, decide_eq_true_eq] at hc
            obtain ⟨⟨h24, hbig⟩, hfl⟩ := hc
            obtain ⟨hzr, hf⟩ := lzero_real hz w
            cases hfill : Instr.fill (fun i => some (i * n, n)) (lzs z.cells (len * n)) l with
            | none => simp [hfill] at h
            | some r =>
              simp only [hfill, Option.some.injEq, Prod.mk.injEq] at h
              obtain ⟨rfl, rfl⟩ := h
              obtain ⟨r', hr', hren⟩ := fill_ren _ l l'.toList _ _ r hp (renL_flat ρ hfl) hfill
              obtain ⟨w', ρ', hrow, _, hL, hR', hE⟩ := lnew_real hR e hren
              refine ⟨.slice (some ⟨w.heap.size, 0, none⟩) len len, w', ρ', ?_, ?_, hR', hE⟩
              · have hnot : ¬ (len * n > 2 ^ 24) := by omega
                unfold lzs zerosOf at hr'
                simp only [Instr.buildSlice, Sem.run_bind, run_underlying hu, Result.andThen_ok, run_sizeOf hn]
                rw [if_neg hnot]
                by_cases h0 : len * n = 0
                · rw [if_pos h0] at hr' ⊢
                  simp only [Sem.run_bind, Sem.run_pure, Result.andThen_ok, hr', hrow]
                · rw [if_neg h0] at hr' ⊢
                  simp only [Sem.run_bind, hzr, Sem.run_pure, Result.andThen_ok, hr', hrow]
              · rw [ren_slice_mk rfl hL]
                simp [Loc.cap_small _ hbig]
          · simp at h
    | _ => simp [hu] at h

/- ---- addresses -/

def lfieldAddr (P : Program) (s : TypeId) (x : Value) (f : Nat) : Option Value :=
  match x, P.underlying s with
  | .pointer (some a), some (.struct fields) => match a.spot, fields[f]? with
    | none, some fd => match lsize P fd.type with
      | some n => if n = 0 then none else some (.pointer (some ⟨a.block, a.off + fd.offset, none⟩))
      | none => none
    | _, _ => none
  | _, _ => none

theorem lfieldAddr_does {P : Program} {σ : LState} {ρ : List Loc} {w : World} (hR : Rel P σ ρ w) {s : TypeId} {x x' v : Value} {f : Nat} (hx : ren ρ x = some x') (h : lfieldAddr P s x f = some v) :
    DoesQ P ρ w (Instr.fieldAt s x' f) v := by
  unfold lfieldAddr at h
  cases x with
  | pointer a =>
    cases a with
    | none => simp at h
    | some a =>
      cases hu : P.underlying s with
      | none => simp [hu] at h
      | some d =>
        cases d with
        | struct fields =>
          obtain ⟨L, hs, hL, rfl⟩ := ren_pointer hx
          simp only [hu, hs] at h
          cases hf : fields[f]? with
          | none => simp [hf] at h
          | some fd =>
            simp only [hf] at h
            cases hn : lsize P fd.type with
            | none => simp [hn] at h
            | some n =>
              simp only [hn] at h
              split at h
              · simp at h
              · rename_i hn0
                simp only [Option.some.injEq] at h
                subst h
                refine DoesQ.same hR (v' := .pointer (some ⟨L.block, L.off + (a.off + fd.offset), none⟩)) ?_ (ren_pointer_mk rfl hL)
                simp only [Instr.fieldAt, Sem.run_bind, run_underlying hu, Result.andThen_ok, hf, Instr.sureAddr, Sem.run_pure, fieldPlace, run_sizeOf hn, if_neg hn0, add_none, Nat.add_assoc]
        | _ => simp [hu] at h
  | _ => simp at h

def lpart (P : Program) (t : TypeId) (cs : Array Value) (off : Nat) : Option Value :=
  match lisAgg P t with
  | some true => match lsize P t with
    | some n => some (.agg (cs.extract off (off + n)))
    | none => none
  | some false => cs[off]?
  | none => none

theorem renA_extract {ρ : List Loc} {a a' : Array Value} (i j : Nat) (h : renA ρ a = some a') : renA ρ (a.extract i j) = some (a'.extract i j) := by
  have h1 := renA_toList h
  have h2 := renA_mk (renL_take (j - i) (renL_drop i h1))
  have e : ∀ b : Array Value, b.extract i j = ((b.toList.drop i).take (j - i)).toArray := by
    intro b; apply Array.ext'; simp [Array.toList_extract, List.extract_eq_take_drop]
  rw [e a, e a', h2]

theorem lpart_real {P : Program} {ρ : List Loc} {t : TypeId} {cs cs' : Array Value} {off : Nat} {v : Value} (hc : renA ρ cs = some cs') (h : lpart P t cs off = some v) (w : World) :
    ∃ v', (part t cs' off).run P w = .ok v' w ∧ ren ρ v = some v' := by
  unfold lpart at h
  cases hg : lisAgg P t with
  | none => simp [hg] at h
  | some b =>
    cases b with
    | true =>
      simp only [hg] at h
      cases hn : lsize P t with
      | none => simp [hn] at h
      | some n =>
        simp only [hn, Option.some.injEq] at h
        subst h
        exact ⟨.agg (cs'.extract off (off + n)), by simp [part, run_isAgg hg, run_sizeOf hn], by simp [ren, renA_extract _ _ hc]⟩
    | false =>
      simp only [hg] at h
      obtain ⟨v', h1, h2⟩ := renL_get (renA_toList hc) (i := off) (v := v) (by simpa using h)
      have h1' : cs'[off]? = some v' := by simpa using h1
      exact ⟨v', by simp [part, run_isAgg hg, h1'], h2⟩

def lfield (P : Program) (t : TypeId) (x : Value) (f : Nat) : Option Value :=
  match x, P.underlying t with
  | .agg cs, some (.struct fields) => match fields[f]? with
    | some fd => lpart P fd.type cs fd.offset
    | none => none
  | _, _ => none

theorem ren_agg {ρ : List Loc} {cs : Array Value} {x' : Value} (h : ren ρ (.agg cs) = some x') : ∃ cs', renA ρ cs = some cs' ∧ x' = .agg cs' := by
  simp only [ren] at h
  cases hc : renA ρ cs with
  | none => simp [hc] at h
  | some y => simp [hc] at h; exact ⟨y, rfl, h.symm⟩

theorem lfield_does {P : Program} {σ : LState} {ρ : List Loc} {w : World} (hR : Rel P σ ρ w) {t : TypeId} {x x' v : Value} {f : Nat} (hx : ren ρ x = some x') (h : lfield P t x f = some v) :
    DoesQ P ρ w (Instr.field t x' f) v := by
  unfold lfield at h
  cases x with
  | agg cs =>
    cases hu : P.underlying t with
    | none => simp [hu] at h
    | some d =>
      cases d with
      | struct fields =>
        obtain ⟨cs', hc, rfl⟩ := ren_agg hx
        simp only [hu] at h
        cases hf : fields[f]? with
        | none => simp [hf] at h
        | some fd =>
          simp only [hf] at h
          obtain ⟨v', hrun, hv⟩ := lpart_real hc h w
          exact DoesQ.same hR (by simp only [Instr.field, Sem.run_bind, run_underlying hu, Result.andThen_ok, hf, asAgg, Sem.run_pure, hrun]) hv
      | _ => simp [hu] at h
  | _ => simp at h

def lindexAddr (P : Program) (t : TypeId) (x ix : Value) : Option Value :=
  match x, ix, P.underlying t with
  | .pointer (some a), .int _ i, some (.array len e) => match a.spot, lsize P e with
    | none, some n => if 0 ≤ i ∧ i < len then some (.pointer (some ⟨a.block, a.off + i.toNat * n, none⟩)) else none
    | _, _ => none
  | .slice (some a) len _, .int _ i, some (.slice e) => match a.spot, lsize P e with
    | none, some n => if 0 ≤ i ∧ i < len then some (.pointer (some ⟨a.block, a.off + i.toNat * n, none⟩)) else none
    | _, _ => none
  | _, _, _ => none

theorem lindexAddr_does {P : Program} {σ : LState} {ρ : List Loc} {w : World} (hR : Rel P σ ρ w) {t : TypeId} {x x' ix ix' v : Value} (hx : ren ρ x = some x') (hi : ren ρ ix = some ix') (h : lindexAddr P t x ix = some v) :
    DoesQ P ρ w (Instr.indexAt t x' ix') v := by
  unfold lindexAddr at h
  cases ix with
  | int k i =>
    simp [ren] at hi
    subst hi
    cases hu : P.underlying t with
    | none => cases x <;> simp [hu] at h <;> (rename_i a; cases a <;> simp at h)
    | some d =>
      cases x with
      | pointer a =>
        cases a with
        | none => simp at h
        | some a =>
          cases d with
          | array len e =>
            obtain ⟨L, hs, hL, rfl⟩ := ren_pointer hx
            simp only [hu, hs] at h
            cases hn : lsize P e with
            | none => simp [hn] at h
            | some n =>
              simp only [hn] at h
              split at h
              · rename_i hb
                simp only [Option.some.injEq] at h
                subst h
                refine DoesQ.same hR (v' := .pointer (some ⟨L.block, L.off + (a.off + i.toNat * n), none⟩)) ?_ (ren_pointer_mk rfl hL)
                simp [Instr.indexAt, asIntOf, run_underlying hu, Instr.sureAddr, hb, run_sizeOf hn, add_none, Nat.add_assoc]
              · simp at h
          | _ => simp [hu] at h
      | slice a len c =>
        cases a with
        | none => simp at h
        | some a =>
          cases d with
          | slice e =>
            obtain ⟨L, hs, hL, rfl⟩ := ren_slice hx
            simp only [hu, hs] at h
            cases hn : lsize P e with
            | none => simp [hn] at h
            | some n =>
              simp only [hn] at h
              split at h
              · rename_i hb
                simp only [Option.some.injEq] at h
                subst h
                refine DoesQ.same hR (v' := .pointer (some ⟨L.block, L.off + (a.off + i.toNat * n), none⟩)) ?_ (ren_pointer_mk rfl hL)
                simp [Instr.indexAt, asIntOf, run_underlying hu, hb, run_sizeOf hn, add_none, Nat.add_assoc]
              · simp at h
          | _ => simp [hu] at h
      | _ => simp at h
  | _ => cases x <;> simp at h <;> (rename_i a; cases a <;> simp at h)

def lindexAgg (P : Program) (t : TypeId) (x ix : Value) : Option Value :=
  match x, ix, P.underlying t with
  | .agg cs, .int _ i, some (.array len e) => match lsize P e with
    | some n => if 0 ≤ i ∧ i < len then lpart P e cs (i.toNat * n) else none
    | none => none
  | _, _, _ => none

theorem lindexAgg_does {P : Program} {σ : LState} {ρ : List Loc} {w : World} (hR : Rel P σ ρ w) {t : TypeId} {x x' ix ix' v : Value} (hx : ren ρ x = some x') (hi : ren ρ ix = some ix') (h : lindexAgg P t x ix = some v) :
    DoesQ P ρ w (Instr.index t x' ix') v := by
  unfold lindexAgg at h
  cases x with
  | agg cs =>
    cases ix with
    | int k i =>
      simp [ren] at hi
      subst hi
      obtain ⟨cs', hc, rfl⟩ := ren_agg hx
      cases hu : P.underlying t with
      | none => simp [hu] at h
      | some d =>
        cases d with
        | array len e =>
          simp only [hu] at h
          cases hn : lsize P e with
          | none => simp [hn] at h
          | some n =>
            simp only [hn] at h
            split at h
            · rename_i hb
              obtain ⟨v', hrun, hv⟩ := lpart_real hc h w
              exact DoesQ.same hR (by simp [Instr.index, asIntOf, run_underlying hu, hb, run_sizeOf hn, hrun]) hv
            · simp at h
        | _ => simp [hu] at h
    | _ => simp at h
  | _ => simp at h

/- ---- tuples, interfaces, function values -/

theorem ren_tuple {ρ : List Loc} {cs : Array Value} {x' : Value} (h : ren ρ (.tuple cs) = some x') : ∃ cs', renA ρ cs = some cs' ∧ x' = .tuple cs' := by
  simp only [ren] at h
  cases hc : renA ρ cs with
  | none => simp [hc] at h
  | some y => simp [hc] at h; exact ⟨y, rfl, h.symm⟩

def lextract (x : Value) (i : Nat) : Option Value :=
  match x with
  | .tuple vs => vs[i]?
  | _ => none

theorem lextract_does {P : Program} {σ : LState} {ρ : List Loc} {w : World} (hR : Rel P σ ρ w) {x x' v : Value} {i : Nat} (hx : ren ρ x = some x') (h : lextract x i = some v) :
    DoesQ P ρ w (Instr.extract x' i) v := by
  cases x with
  | tuple vs =>
    obtain ⟨vs', hc, rfl⟩ := ren_tuple hx
    simp only [lextract] at h
    obtain ⟨v', h1, h2⟩ := renL_get (renA_toList hc) (i := i) (v := v) (by simpa using h)
    have h1' : vs'[i]? = some v' := by simpa using h1
    exact DoesQ.same hR (by simp [Instr.extract, h1']) h2
  | _ => simp [lextract] at h

def lmakeInterface (P : Program) (t : TypeId) (x : Value) : Option Value :=
  match P.underlying t with
  | some (.interface _) => none
  | some _ => some (.iface t x)
  | none => none

theorem lmakeInterface_does {P : Program} {σ : LState} {ρ : List Loc} {w : World} (hR : Rel P σ ρ w) {t : TypeId} {x x' v : Value} (hx : ren ρ x = some x') (h : lmakeInterface P t x = some v) :
    DoesQ P ρ w (Instr.makeInterface t x') v := by
  unfold lmakeInterface at h
  cases hu : P.underlying t with
  | none => simp [hu] at h
  | some d =>
    have hv : v = .iface t x := by cases d <;> simp_all
    subst hv
    refine DoesQ.same hR (v' := .iface t x') ?_ (by simp [ren, hx])
    cases d <;> simp [hu] at h <;> simp [Instr.makeInterface, run_underlying hu]

def lmakeFunc (fn : Fn) (first captured : List Value) : Option Value :=
  if flatFn fn then some (.func fn first.toArray captured.toArray) else none

theorem lmakeFunc_does {P : Program} {σ : LState} {ρ : List Loc} {w : World} (hR : Rel P σ ρ w) {fn : Fn} {first captured : List Value} {first' captured' : Array Value} {v : Value} (h1 : renL ρ first = some first'.toList) (h2 : renL ρ captured = some captured'.toList)
    (h : lmakeFunc fn first captured = some v) : DoesQ P ρ w (Instr.makeFunc fn first' captured') v := by
  unfold lmakeFunc at h
  split at h
  · rename_i hf
    simp only [Option.some.injEq] at h
    subst h
    exact DoesQ.same hR (v' := .func fn first' captured') rfl (by have a := renA_mk h1; have b := renA_mk h2; simp only [Array.toArray_toList] at a b; simp [ren, renFn_flat ρ hf, a, b])
  · simp at h

def ltypeAssert (P : Program) (x : Value) (t : TypeId) (ok : Bool) : Option Value :=
  match P.underlying t, x with
  | some (.interface _), _ => none
  | some _, .iface u v => if u = t then some (if ok then .tuple #[v, .bool true] else v) else if ok then match lzero P t with
      | some z => some (.tuple #[z, .bool false])
      | none => none
    else none
  | some _, .nilIface => if ok then match lzero P t with
      | some z => some (.tuple #[z, .bool false])
      | none => none
    else none
  | _, _ => none

theorem ren_iface {ρ : List Loc} {t : TypeId} {v x' : Value} (h : ren ρ (.iface t v) = some x') : ∃ v', ren ρ v = some v' ∧ x' = .iface t v' := by
  simp only [ren] at h
  cases hc : ren ρ v with
  | none => simp [hc] at h
  | some y => simp [hc] at h; exact ⟨y, rfl, h.symm⟩

theorem ren_pair {ρ : List Loc} {a b a' b' : Value} (h : ren ρ a = some a') (k : ren ρ b = some b') : ren ρ (.tuple #[a, b]) = some (.tuple #[a', b']) := by
  simp [ren, renA, renL, h, k]

theorem ltypeAssert_does {P : Program} {σ : LState} {ρ : List Loc} {w : World} (hR : Rel P σ ρ w) {xt t : TypeId} {ok : Bool} {x x' v : Value} (hx : ren ρ x = some x') (h : ltypeAssert P x t ok = some v) :
    DoesQ P ρ w (Instr.typeAssert x' xt t ok) v := by
  unfold ltypeAssert at h
  cases hu : P.underlying t with
  | none => simp [hu] at h
  | some d =>
    cases x with
    | iface u y =>
      obtain ⟨y', hy, rfl⟩ := ren_iface hx
      by_cases hut : u = t
      · subst hut
        have hv : v = if ok then .tuple #[y, .bool true] else y := by cases d <;> simp_all
        subst hv
        refine DoesQ.same hR (v' := if ok then .tuple #[y', .bool true] else y') ?_ ?_
        · cases d <;> simp [hu] at h <;> simp [Instr.typeAssert, run_underlying hu]
        · cases ok
          · simpa using hy
          · exact ren_pair hy (by simp [ren])
      · cases ok with
        | false => cases d <;> simp [hu, hut] at h
        | true =>
          cases hz : lzero P t with
          | none => cases d <;> simp [hu, hut, hz] at h
          | some z =>
            obtain ⟨hzr, hzf⟩ := lzero_real hz w
            have hv : v = .tuple #[z, .bool false] := by cases d <;> simp_all
            subst hv
            refine DoesQ.same hR (v' := .tuple #[z, .bool false]) ?_ (ren_pair (ren_flat ρ hzf) (by simp [ren]))
            cases d <;> simp [hu] at h <;> simp [Instr.typeAssert, run_underlying hu, hut, hzr]
    | nilIface =>
      simp [ren] at hx
      subst hx
      cases ok with
      | false => cases d <;> simp [hu] at h
      | true =>
        cases hz : lzero P t with
        | none => cases d <;> simp [hu, hz] at h
        | some z =>
          obtain ⟨hzr, hzf⟩ := lzero_real hz w
          have hv : v = .tuple #[z, .bool false] := by cases d <;> simp_all
          subst hv
          refine DoesQ.same hR (v' := .tuple #[z, .bool false]) ?_ (ren_pair (ren_flat ρ hzf) (by simp [ren]))
          cases d <;> simp [hu] at h <;> simp [Instr.typeAssert, run_underlying hu, hzr]
    | _ => cases d <;> simp [hu] at h

end Go.Lg
end

section
namespace Go.Lg
open Go

/- ---- slicing -/

def baseCap (c : Nat) : Nat := if c < big then c else c - big

def boundOf : Option Value → Nat → Option Nat
  | none, d => some d
  | some (.int _ i), _ => if 0 ≤ i then some i.toNat else none
  | some _, _ => none

def lslice (P : Program) (t : TypeId) (x : Value) (lo hi mx : Option Value) : Option Value :=
  match x, P.underlying t with
  | .slice (some a) len c, some (.slice e) => match a.spot, lsize P e, boundOf lo 0, boundOf hi len, mx with
    | none, some n, some l, some h, none =>
      if l ≤ h && l ≤ baseCap c && (hi.isNone || h ≤ baseCap c) then
        if l = 0 then some (.slice (some a) h c)
        else if c < big then (if c = l then some (.slice (some a) (h - l) (c - l)) else some (.slice (some ⟨a.block, a.off + l * n, none⟩) (h - l) (c - l)))
        else if l < baseCap c then some (.slice (some ⟨a.block, a.off + l * n, none⟩) (h - l) (c - l)) else none
      else none
    | none, some n, some l, some h, some m => match boundOf (some m) 0 with
      | some m => if hi.isSome && l ≤ h && h ≤ m && m ≤ baseCap c && m < big then
          (if m = l then some (.slice (some a) (h - l) (m - l)) else some (.slice (some ⟨a.block, a.off + l * n, none⟩) (h - l) (m - l)))
        else none
      | none => none
    | _, _, _, _, _ => none
  | .slice none len c, some (.slice e) => match lsize P e, boundOf lo 0, boundOf hi len, mx with
    | some _, some l, some h, none => if l ≤ h && l ≤ c && (hi.isNone || h ≤ c) && c < big then some (.slice none (h - l) (c - l)) else none
    | _, _, _, _ => none
  | .pointer (some a), some (.array len e) => match a.spot, lsize P e, boundOf lo 0, boundOf hi len, mx with
    | none, some n, some l, some h, none =>
      if l ≤ h && h ≤ len && len < big then
        (if len = l then some (.slice (some a) (h - l) (len - l)) else some (.slice (some ⟨a.block, a.off + l * n, none⟩) (h - l) (len - l)))
      else none
    | _, _, _, _, _ => none
  | _, _ => none

def optRen (ρ : List Loc) : Option Value → Option Value → Prop
  | none, none => True
  | some v, some v' => ren ρ v = some v'
  | _, _ => False

theorem bound_int {ρ : List Loc} {x x' : Option Value} {d n : Nat} (hx : optRen ρ x x') (h : boundOf x d = some n) : (x = none ∧ x' = none ∧ n = d) ∨ ∃ k i, x' = some (.int k i) ∧ x = some (.int k i) ∧ 0 ≤ i ∧ n = i.toNat := by
  cases x with
  | none => cases x' with
    | none => simp [boundOf] at h; exact .inl ⟨rfl, rfl, h.symm⟩
    | some y => simp [optRen] at hx
  | some v => cases x' with
    | none => simp [optRen] at hx
    | some y =>
      cases v with
      | int k i =>
        simp only [boundOf] at h
        split at h
        · rename_i hi
          simp at h
          simp [optRen, ren] at hx
          subst hx
          exact .inr ⟨k, i, rfl, rfl, hi, h.symm⟩
        · simp at h
      | _ => simp [boundOf] at h

theorem run_sliceBound {P : Program} (w : World) (k : IntKind) (i : Int) (y : Nat) (code : BoundsCode) (h0 : 0 ≤ i) (h1 : i.toNat ≤ y) : (Instr.sliceBound (.int k i) y code).run P w = .ok i.toNat w := by
  have : 0 ≤ i ∧ i ≤ (y : Int) := ⟨h0, by omega⟩
  simp [Instr.sliceBound, asIntOf, this]

theorem run_sliceBounds {P : Program} {ρ : List Loc} (w : World) {isS : Bool} {len cap l h : Nat} {lo hi lo' hi' : Option Value} (hlo : optRen ρ lo lo') (hhi : optRen ρ hi hi') (hl : boundOf lo 0 = some l) (hh : boundOf hi len = some h)
    (h1 : l ≤ h) (h2 : hi.isNone = true ∨ h ≤ cap) : (Instr.sliceBounds isS len cap lo' hi' none).run P w = .ok (l, h, cap) w := by
  have hH : ((match hi', (none : Option Value) with
    | some v, some _ => Instr.sliceBound v cap .slice3B
    | some v, none => Instr.sliceBound v cap (if isS then .sliceAcap else .sliceAlen)
    | none, none => pure len
    | none, some _ => stuck "Slice: max without high") : Sem Nat).run P w = .ok h w := by
    rcases bound_int hhi hh with ⟨rfl, rfl, rfl⟩ | ⟨k, i, rfl, rfl, hi0, rfl⟩
    · rfl
    · simp only
      exact run_sliceBound w k i _ _ hi0 (by simpa using h2)
  have hL : ((match lo' with
    | some v => Instr.sliceBound v h (if (none : Option Value).isSome then .slice3C else .sliceB)
    | none => pure 0) : Sem Nat).run P w = .ok l w := by
    rcases bound_int hlo hl with ⟨rfl, rfl, rfl⟩ | ⟨k, i, rfl, rfl, hi0, rfl⟩
    · rfl
    · exact run_sliceBound w k i _ _ hi0 h1
  unfold Instr.sliceBounds
  simp only [Sem.run_bind, Sem.run_pure, Result.andThen_ok]
  rcases bound_int hhi hh with ⟨rfl, rfl, rfl⟩ | ⟨k, i, rfl, rfl, hi0, rfl⟩
  · rcases bound_int hlo hl with ⟨rfl, rfl, rfl⟩ | ⟨k2, i2, rfl, rfl, hi2, rfl⟩
    · simp
    · simp [run_sliceBound w k2 i2 _ _ hi2 h1]
  · have hb : i.toNat ≤ cap := by simpa using h2
    rcases bound_int hlo hl with ⟨rfl, rfl, rfl⟩ | ⟨k2, i2, rfl, rfl, hi2, rfl⟩
    · simp [run_sliceBound w k i _ _ hi0 hb]
    · simp [run_sliceBound w k i _ _ hi0 hb, run_sliceBound w k2 i2 _ _ hi2 h1]

theorem Loc.cap_base (L : Loc) (c : Nat) : baseCap c ≤ L.cap c := by unfold baseCap Loc.cap; split <;> omega

theorem Loc.cap_sub (L : Loc) {c l : Nat} (h : l ≤ baseCap c) (hc : ¬ c < big) : L.cap (c - l) = L.cap c - l := by
  unfold baseCap at h
  simp only [hc, if_false] at h
  unfold Loc.cap
  rw [if_neg hc, if_neg (by omega)]
  omega

theorem lslice_does {P : Program} {σ : LState} {ρ : List Loc} {w : World} (hR : Rel P σ ρ w) {t : TypeId} {x x' v : Value} {lo hi mx lo' hi' mx' : Option Value} (hx : ren ρ x = some x') (hlo : optRen ρ lo lo') (hhi : optRen ρ hi hi') (hmx : optRen ρ mx mx')
    (h : lslice P t x lo hi mx = some v) : DoesQ P ρ w (Instr.sliceAt t x' lo' hi' mx') v := by
  unfold lslice at h
  cases x with
  | slice a len c =>
    cases hu : P.underlying t with
    | none => cases a <;> simp [hu] at h
    | some d =>
      cases d with
      | slice e =>
        cases a with
        | none =>
          simp only [hu] at h
          have hx2 : x' = .slice none len c := by simpa [ren] using hx.symm
          subst hx2
          cases mx with
          | some m => cases hn : lsize P e <;> cases hl : boundOf lo 0 <;> cases hh : boundOf hi len <;> simp [hn, hl, hh] at h
          | none =>
            cases mx' with
            | some m => simp [optRen] at hmx
            | none =>
              cases hn : lsize P e with
              | none => simp [hn] at h
              | some n =>
                cases hl : boundOf lo 0 with
                | none => simp [hn, hl] at h
                | some l =>
                  cases hh : boundOf hi len with
                  | none => simp [hn, hl, hh] at h
                  | some h0 =>
                    simp only [hn, hl, hh] at h
                    split at h
                    · rename_i hc
                      simp only [Bool.and_eq_true, Bool.or_eq_true, decide_eq_true_eq] at hc
                      simp only [Option.some.injEq] at h
                      subst h
                      refine DoesQ.same hR (v' := .slice none (h0 - l) (c - l)) ?_ (by simp [ren])
                      have hb := run_sliceBounds (P := P) w (isS := true) (cap := c) hlo hhi hl hh hc.1.1.1 hc.1.2
                      simp only [Instr.sliceAt, Sem.run_bind, run_underlying hu, Result.andThen_ok, Instr.slice, hb, run_sizeOf hn, Sem.run_pure]
                      simp
                    · simp at h
        | some a =>
          obtain ⟨L, hs, hL, rfl⟩ := ren_slice hx
          simp only [hu, hs] at h
          cases hn : lsize P e with
          | none => simp [hn] at h
          | some n =>
            cases hl : boundOf lo 0 with
            | none => simp [hn, hl] at h
            | some l =>
              cases hh : boundOf hi len with
              | none => simp [hn, hl, hh] at h
              | some h0 =>
                cases mx with
                | none =>
                  cases mx' with
                  | some m => simp [optRen] at hmx
                  | none =>
                    simp only [hn, hl, hh] at h
                    split at h
                    · rename_i hc
                      simp only [Bool.and_eq_true, Bool.or_eq_true, decide_eq_true_eq] at hc
                      have hcb := L.cap_base c
                      have hb := run_sliceBounds (P := P) w (isS := true) (cap := L.cap c) hlo hhi hl hh hc.1.1 (hc.2.imp id (fun z => Nat.le_trans z hcb))
                      have hrun : (Instr.sliceAt t (.slice (some ⟨L.block, L.off + a.off, none⟩) len (L.cap c)) lo' hi' none).run P w =
                          .ok (.slice (if L.cap c = l then some ⟨L.block, L.off + a.off, none⟩ else some ⟨L.block, L.off + a.off + l * n, none⟩) (h0 - l) (L.cap c - l)) w := by
                        simp only [Instr.sliceAt, Sem.run_bind, run_underlying hu, Result.andThen_ok, Instr.slice, hb, run_sizeOf hn, Sem.run_pure, Option.map_some, add_none]
                      by_cases hl0 : l = 0
                      · subst hl0
                        simp only [if_true, Option.some.injEq] at h
                        subst h
                        refine DoesQ.same hR hrun ?_
                        rw [ren_slice_mk hs hL]
                        simp
                      · simp only [hl0, if_false] at h
                        by_cases hcs : c < big
                        · simp only [hcs, if_true] at h
                          have hcap := L.cap_small hcs
                          by_cases hcl : c = l
                          · simp only [hcl, if_true, Option.some.injEq] at h
                            subst h
                            refine DoesQ.same hR hrun ?_
                            rw [ren_slice_mk hs hL, hcap, if_pos hcl, Loc.cap_small _ (by omega)]
                            simp [hcl]
                          · simp only [hcl, if_false, Option.some.injEq] at h
                            subst h
                            refine DoesQ.same hR hrun ?_
                            rw [ren_slice_mk (a := ⟨a.block, a.off + l * n, none⟩) rfl hL, hcap, if_neg hcl, Loc.cap_small _ (by omega), Nat.add_assoc]
                        · simp only [hcs, if_false] at h
                          split at h
                          · rename_i hlt
                            simp only [Option.some.injEq] at h
                            subst h
                            refine DoesQ.same hR hrun ?_
                            have hne : ¬ L.cap c = l := by omega
                            rw [ren_slice_mk (a := ⟨a.block, a.off + l * n, none⟩) rfl hL, if_neg hne, L.cap_sub hc.1.2 hcs, Nat.add_assoc]
                          · simp at h
                    · simp at h
                | some m =>
                  cases mx' with
                  | none => simp [optRen] at hmx
                  | some m' =>
                    simp only [hn, hl, hh] at h
                    cases hm : boundOf (some m) 0 with
                    | none => simp [hm] at h
                    | some mm =>
                      simp only [hm] at h
                      split at h
                      · rename_i hc
                        simp only [Bool.and_eq_true, decide_eq_true_eq] at hc
                        obtain ⟨⟨⟨⟨hc1, hc2⟩, hc3⟩, hc4⟩, hc5⟩ := hc
                        have hcb := L.cap_base c
                        rcases bound_int hmx hm with ⟨h1, _⟩ | ⟨km, im, hm1, hm2, hm3, rfl⟩
                        · simp at h1
                        · simp only [Option.some.injEq] at hm1
                          subst hm1
                          have hb : (Instr.sliceBounds true len (L.cap c) lo' hi' (some (.int km im))).run P w = .ok (l, h0, im.toNat) w := by
                            unfold Instr.sliceBounds
                            rcases bound_int hhi hh with ⟨h1, _⟩ | ⟨k, i, rfl, rfl, hi0, rfl⟩
                            · rw [h1] at hc1; simp at hc1
                            · rcases bound_int hlo hl with ⟨rfl, rfl, rfl⟩ | ⟨k2, i2, rfl, rfl, hi2, rfl⟩
                              · simp [run_sliceBound w km im _ _ hm3 (Nat.le_trans hc4 hcb), run_sliceBound w k i _ _ hi0 hc3]
                              · simp [run_sliceBound w km im _ _ hm3 (Nat.le_trans hc4 hcb), run_sliceBound w k i _ _ hi0 hc3, run_sliceBound w k2 i2 _ _ hi2 hc2]
                          have hrun : (Instr.sliceAt t (.slice (some ⟨L.block, L.off + a.off, none⟩) len (L.cap c)) lo' hi' (some (.int km im))).run P w =
                              .ok (.slice (if im.toNat = l then some ⟨L.block, L.off + a.off, none⟩ else some ⟨L.block, L.off + a.off + l * n, none⟩) (h0 - l) (im.toNat - l)) w := by
                            simp only [Instr.sliceAt, Sem.run_bind, run_underlying hu, Result.andThen_ok, Instr.slice, hb, run_sizeOf hn, Sem.run_pure, Option.map_some, add_none]
                          split at h
                          · rename_i hml
                            simp only [Option.some.injEq] at h
                            subst h
                            refine DoesQ.same hR hrun ?_
                            rw [ren_slice_mk hs hL, if_pos hml, Loc.cap_small _ (by omega)]
                          · rename_i hml
                            simp only [Option.some.injEq] at h
                            subst h
                            refine DoesQ.same hR hrun ?_
                            rw [ren_slice_mk (a := ⟨a.block, a.off + l * n, none⟩) rfl hL, if_neg hml, Loc.cap_small _ (by omega), Nat.add_assoc]
                      · simp at h
      | _ => cases a <;> simp [hu] at h
  | pointer a =>
    cases a with
    | none => simp at h
    | some a =>
      cases hu : P.underlying t with
      | none => simp [hu] at h
      | some d =>
        cases d with
        | array len e =>
          obtain ⟨L, hs, hL, rfl⟩ := ren_pointer hx
          simp only [hu, hs] at h
          cases hn : lsize P e with
          | none => simp [hn] at h
          | some n =>
            cases hl : boundOf lo 0 with
            | none => simp [hn, hl] at h
            | some l =>
              cases hh : boundOf hi len with
              | none => simp [hn, hl, hh] at h
              | some h0 =>
                cases mx with
                | some m => simp [hn, hl, hh] at h
                | none =>
                  cases mx' with
                  | some m => simp [optRen] at hmx
                  | none =>
                    simp only [hn, hl, hh] at h
                    split at h
                    · rename_i hc
                      simp only [Bool.and_eq_true, decide_eq_true_eq] at hc
                      have hb := run_sliceBounds (P := P) w (isS := false) (cap := len) hlo hhi hl hh hc.1.1 (.inr hc.1.2)
                      have hrun : (Instr.sliceAt t (.pointer (some ⟨L.block, L.off + a.off, none⟩)) lo' hi' none).run P w =
                          .ok (.slice (some (if len = l then ⟨L.block, L.off + a.off, none⟩ else ⟨L.block, L.off + a.off + l * n, none⟩)) (h0 - l) (len - l)) w := by
                        simp only [Instr.sliceAt, Sem.run_bind, run_underlying hu, Result.andThen_ok, Instr.sureAddr, hb, run_sizeOf hn, Sem.run_pure, add_none]
                      split at h
                      · rename_i hml
                        simp only [Option.some.injEq] at h
                        subst h
                        refine DoesQ.same hR hrun ?_
                        rw [ren_slice_mk hs hL, if_pos hml, Loc.cap_small _ (by omega)]
                      · rename_i hml
                        simp only [Option.some.injEq] at h
                        subst h
                        refine DoesQ.same hR hrun ?_
                        rw [ren_slice_mk (a := ⟨a.block, a.off + l * n, none⟩) rfl hL, if_neg hml, Loc.cap_small _ (by omega), Nat.add_assoc]
                    · simp at h
        | _ => simp [hu] at h
  | _ => simp at h

end Go.Lg
end

section
namespace Go.Lg
open Go

def litBytes (s : ByteArray) : List Value := s.data.toList.map fun b => .int .u8 b.toNat

theorem litBytes_flat (s : ByteArray) : flatL (litBytes s) = true := by
  unfold litBytes
  induction s.data.toList with
  | nil => rfl
  | cons b l ih => simpa [flatL, flat] using ih

/-- What is appended, or copied: how many elements, and their cells. -/
def newsOf (σ : LState) (n : Nat) : Value → Option (Nat × List Value)
  | .slice none m _ => if m = 0 then some (0, []) else none
  | .slice (some a) m _ => match cellsAt σ a (m * n) with
    | some l => some (m, l)
    | none => none
  | .string s => if n = 1 then some (s.size, litBytes s) else none
  | _ => none

structure News (P : Program) (ρ : List Loc) (w : World) (n m : Nat) (x' : Value) (news news' : List Value) : Prop where
  ren : renL ρ news = some news'
  len : news.length = m * n
  count : ∀ W, (Builtin.lenOf x').run P W = .ok m W
  first : ∀ W : World, W.heap = w.heap → (Builtin.firstCells n m x').run P W = .ok news'.toArray W

theorem cell?_heap {w W : World} (h : W.heap = w.heap) (a : Addr) : W.cell? a = w.cell? a := by unfold World.cell?; rw [h]

theorem news_of {P : Program} {σ : LState} {ρ : List Loc} {w : World} (hR : Rel P σ ρ w) {n m : Nat} {x x' : Value} {news : List Value} (hx : Lg.ren ρ x = some x') (h : newsOf σ n x = some (m, news)) :
    ∃ news', News P ρ w n m x' news news' := by
  cases x with
  | slice a k c =>
    cases a with
    | none =>
      simp only [newsOf] at h
      split at h
      · rename_i hk
        simp at h
        obtain ⟨rfl, rfl⟩ := h
        subst hk
        simp [Lg.ren] at hx
        subst hx
        exact ⟨[], by simp [renL], by simp, fun W => rfl, fun W _ => rfl⟩
      · simp at h
    | some a =>
      simp only [newsOf] at h
      cases hc : cellsAt σ a (k * n) with
      | none => simp [hc] at h
      | some l =>
        simp only [hc, Option.some.injEq, Prod.mk.injEq] at h
        obtain ⟨rfl, rfl⟩ := h
        obtain ⟨L, hs, hL, rfl⟩ := ren_slice hx
        obtain ⟨l', hl, hlen, _, hcell⟩ := cellsAt_real (P := P) hR hc hL
        refine ⟨l', hl, hlen, fun W => rfl, fun W hW => ?_⟩
        have h2 := run_loadCells_list (P := P) W ⟨L.block, L.off + a.off, none⟩ l' (fun j v hj => by rw [add_none, cell?_heap hW]; exact hcell j v hj)
        rw [renL_length hl, hlen] at h2
        exact h2
  | string s =>
    simp only [newsOf] at h
    split at h
    · rename_i hn
      simp only [Option.some.injEq, Prod.mk.injEq] at h
      obtain ⟨rfl, rfl⟩ := h
      subst hn
      simp [Lg.ren] at hx
      subst hx
      refine ⟨litBytes s, renL_flat ρ (litBytes_flat s), by simp [litBytes], fun W => rfl, fun W _ => ?_⟩
      have he : s.extract 0 s.size = s := by
        apply ByteArray.ext
        simp
      simp only [Builtin.firstCells, he, Sem.run_pure, litBytes]
      congr 1
      apply Array.ext'
      simp
    · simp at h
  | _ => simp [newsOf] at h

def isInt (d : TypeDesc) : Bool := d matches .int _

/-- The real append in place. -/
theorem run_append_here {P : Program} {w w' : World} {sT xT ty e : TypeId} {d : TypeDesc} {n m : Nat} {a : Addr} {len cap : Nat} {x' : Value} {news : List Value} (ht : P.underlying sT = some (.slice e)) (hx : P.underlying xT = some d) (hd : isInt d = false) (hn : lsize P e = some n)
    (hc : (Builtin.lenOf x').run P w = .ok m w) (hf : (Builtin.firstCells n m x').run P w = .ok news.toArray w) (hle : len + m ≤ cap)
    (hs : (storeCells (a.add (len * n)) news).run P w = .ok () w') :
    (Builtin.append_ #[sT, xT] ty #[.slice (some a) len cap, x']).run P w = .ok (.slice (some a) (len + m) cap) w' := by
  simp only [Builtin.append_, List.getElem?_toArray, List.getElem?_cons_zero, List.getElem?_cons_succ, Sem.run_bind, run_underlying ht, run_underlying hx, run_sizeOf hn, Result.andThen_ok, Sem.run_pure]
  rw [if_neg]
  rotate_left
  · cases d <;> simp_all [isInt]
  simp only [Sem.run_bind, hc, Result.andThen_ok, hle, if_true]
  rw [if_pos]
  rotate_left
  · cases d <;> simp_all [isInt]
  simp only [Sem.run_bind, hf, Result.andThen_ok, hs, Sem.run_pure]

def freshCap (w : World) (need cap : Nat) (e : TypeId) : Nat := (Question.appendCap need cap e).cut (w.tape w.drawn (.appendCap need cap e))

theorem freshCap_le (w : World) (need cap : Nat) (e : TypeId) : need ≤ freshCap w need cap e := by simp [freshCap, Question.cut]

/-- The real append that grows. -/
theorem run_append_anew {P : Program} {w : World} {sT xT ty e : TypeId} {d : TypeDesc} {i : TypeInfo} {z : Value} {m : Nat} {base : Option Addr} {len cap : Nat} {x' : Value} {olds news : List Value} (ht : P.underlying sT = some (.slice e)) (hx : P.underlying xT = some d) (hd : isInt d = false)
    (hi : P.info? e = some i) (hz : i.zero = some z) (hc : (Builtin.lenOf x').run P w = .ok m w) (hf : (Builtin.firstCells i.size m x').run P w.drew = .ok news.toArray w.drew)
    (ho : (Builtin.firstCells i.size len (.slice base len cap)).run P w.drew = .ok olds.toArray w.drew) (hgt : cap < len + m) (hb : (len + m) * i.bytes ≤ 140737488355328) (h63 : len + m ≤ 9223372036854775807) :
    (Builtin.append_ #[sT, xT] ty #[.slice base len cap, x']).run P w =
      .ok (.slice (some ⟨w.heap.size, 0, none⟩) (len + m) (freshCap w (len + m) cap e)) (w.drew.alloc (.cells (olds.toArray ++ news.toArray ++ Builtin.zeroCells z.cells (freshCap w (len + m) cap e - (len + m))) e)) := by
  have hn : ¬ (len + m ≤ cap) := by omega
  have h63' : ¬ (9223372036854775807 < ((len : Int) + (m : Int))) := by omega
  have h48 : ¬ (281474976710656 < Builtin.nextslicecap (len + m) cap * i.bytes) := by
    have := growslice_fits hgt hb; omega
  have hi' : ∀ W : World, (typeInfo e).run P W = .ok i W := fun W => by simp [typeInfo, hi]
  have hsz : ∀ W : World, (sizeOf e).run P W = .ok i.size W := fun W => by simp [sizeOf, hi']
  have hzz : ∀ W : World, (zeroValue e).run P W = .ok z W := fun W => by simp [zeroValue, hi', hz]
  simp only [Builtin.append_, List.getElem?_toArray, List.getElem?_cons_zero, List.getElem?_cons_succ, Sem.run_bind, run_underlying ht, run_underlying hx, hsz, Result.andThen_ok, Sem.run_pure]
  rw [if_neg]
  rotate_left
  · cases d <;> simp_all [isInt]
  simp only [Sem.run_bind, hc, Result.andThen_ok, hn, if_false, hi', hzz]
  rw [if_neg]
  rotate_left
  · intro hx; have := hx.1; simp at this; omega
  simp only [Sem.run_bind, hi', Result.andThen_ok]
  rw [if_neg]
  rotate_left
  · omega
  simp only [Sem.run_bind, run_choose, Question.forced, Bool.false_eq_true, if_false, Result.andThen_ok, hi', run_askRoom, World.drew_eq, ho, hzz, Sem.run_pure]
  rw [if_pos]
  rotate_left
  · cases d <;> simp_all [isInt]
  simp only [Sem.run_bind, hf, Result.andThen_ok, newRow, run_newObj, World.alloc_eq, Sem.run_pure, freshCap, World.size_drew]

theorem size_zeroCells (z : Array Value) (n : Nat) : (Builtin.zeroCells z n).size = n * z.size := by simp [Builtin.zeroCells]

/-- A new row with room behind it: the relation. -/
theorem Rel.push_row {P : Program} {σ : LState} {ρ : List Loc} {w : World} (h : Rel P σ ρ w) {c c' : List Value} {e : TypeId} {tail : Array Value} {slack : Nat} (hc : renL ρ c = some c') (hs : slack * P.cellsOf e ≤ tail.size) (kn : Option Nat) :
    Rel P (σ ++ [.cells c e false kn]) (ρ ++ [⟨w.heap.size, 0, slack⟩]) (w.alloc (.cells (c'.toArray ++ tail) e)) ∧
      Ext σ ρ w (σ ++ [.cells c e false kn]) (ρ ++ [⟨w.heap.size, 0, slack⟩]) (w.alloc (.cells (c'.toArray ++ tail) e)) := by
  have hl := renL_length hc
  have hsz : (w.alloc (.cells (c'.toArray ++ tail) e)).heap.size = w.heap.size + 1 := by simp
  have cases_ : ∀ (i : Nat) (L : Loc), (ρ ++ [⟨w.heap.size, 0, slack⟩])[i]? = some L → (ρ[i]? = some L ∧ i < ρ.length) ∨ (i = ρ.length ∧ L = ⟨w.heap.size, 0, slack⟩) := by
    intro i L hL
    rcases Nat.lt_or_ge i ρ.length with hi | hi
    · exact .inl ⟨by rwa [List.getElem?_append_left hi] at hL, hi⟩
    · rw [List.getElem?_append_right hi] at hL
      have h0 := get_lt hL
      simp at h0
      have : i = ρ.length := by omega
      subst this
      simp at hL
      exact .inr ⟨rfl, hL.symm⟩
  have oldo : ∀ (i : Nat) (p : LObj), (σ ++ [LObj.cells c e false kn])[i]? = some p → i < ρ.length → σ[i]? = some p := by
    intro i p hp hi
    rwa [List.getElem?_append_left (by rw [← h.len]; exact hi)] at hp
  refine ⟨⟨by simp [h.len], fun g hg => getElem?_prefix (List.prefix_append _ _) (h.glob g hg), ?_, ?_, ?_, fun i c e ro k L hi hL => by
    rcases cases_ i L hL with ⟨hL, hi2⟩ | ⟨_, rfl⟩
    · exact h.al i c e ro k L (oldo i _ hi hi2) hL
    · simp⟩, ?_⟩
  · intro i L hL
    rcases cases_ i L hL with ⟨hL, _⟩ | ⟨_, rfl⟩
    · have := h.lt i L hL; omega
    · show w.heap.size < _; omega
  · intro i p L hp hL
    rcases cases_ i L hL with ⟨hL, hi⟩ | ⟨rfl, rfl⟩
    · exact (h.obj i p L (oldo i p hp hi) hL).keep (List.prefix_append _ _) (heap_alloc_old w _ _ (h.lt i L hL))
    · rw [h.len] at hp
      simp at hp
      subst hp
      refine ⟨_, (0, 0), heap_alloc_new w _, ?_, fun k v hk => ?_, fun _ k _ => by simp⟩
      · simp only [Array.size_append, List.size_toArray]
        show 0 + c.length + slack * P.cellsOf e ≤ c'.length + tail.size
        omega
      · obtain ⟨v', h1, h2⟩ := renL_get hc hk
        refine ⟨v', ?_, ren_mono (List.prefix_append _ _) h2⟩
        have hk' := get_lt h1
        show (c'.toArray ++ tail)[0 + k]? = some v'
        rw [Array.getElem?_append_left (by simp; omega)]
        simpa using h1
  · intro i j p q L M hp hq hL hM hne hb
    rcases cases_ i L hL with ⟨hL, hi⟩ | ⟨hi, rfl⟩ <;> rcases cases_ j M hM with ⟨hM, hj⟩ | ⟨hj, rfl⟩
    · exact h.sep i j p q L M (oldo i p hp hi) (oldo j q hq hj) hL hM hne hb
    · have := h.lt i L hL; simp only at hb; omega
    · have := h.lt j M hM; simp only at hb; omega
    · omega
  · refine ⟨List.prefix_append _ _, by omega, fun b hb _ => heap_alloc_old w _ b hb, ?_, rfl, rfl, rfl, fun i L hL hb => by
      rcases cases_ i L hL with ⟨hL, _⟩ | ⟨_, rfl⟩
      · exact ⟨i, L, hL, rfl⟩
      · simp at hb⟩
    rintro b hb ⟨i, p, L, hp, hL, hw, rfl⟩
    rcases cases_ i L hL with ⟨hL, hi⟩ | ⟨_, rfl⟩
    · exact ⟨i, p, L, oldo i p hp hi, hL, hw, rfl⟩
    · simp at hb

end Go.Lg
end

section
namespace Go.Lg
open Go

def writeA (rc : Array Value) (pos : Nat) : List Value → Array Value
  | [] => rc
  | v :: vs => writeA (rc.setIfInBounds pos v) (pos + 1) vs

theorem writeA_size : ∀ (vs : List Value) (rc : Array Value) (pos : Nat), (writeA rc pos vs).size = rc.size
  | [], _, _ => rfl
  | v :: vs, rc, pos => by rw [writeA, writeA_size vs]; simp

theorem writeA_out : ∀ (vs : List Value) (rc : Array Value) (pos j : Nat), (j < pos ∨ pos + vs.length ≤ j) → (writeA rc pos vs)[j]? = rc[j]?
  | [], _, _, _, _ => rfl
  | v :: vs, rc, pos, j, h => by
    rw [writeA, writeA_out vs _ _ _ (by simp at h; omega), Array.getElem?_setIfInBounds_ne (by simp at h; omega)]

theorem writeA_in : ∀ (vs : List Value) (rc : Array Value) (pos k : Nat) (v : Value), vs[k]? = some v → pos + vs.length ≤ rc.size → (writeA rc pos vs)[pos + k]? = some v
  | [], _, _, _, _, h, _ => by simp at h
  | u :: vs, rc, pos, k, v, h, hs => by
    cases k with
    | zero =>
      simp at h
      subst h
      simp at hs
      rw [writeA, writeA_out vs _ _ _ (by omega)]
      simp [Array.getElem?_setIfInBounds]
      omega
    | succ k =>
      simp at h hs
      rw [writeA, show pos + (k + 1) = (pos + 1) + k by omega]
      exact writeA_in vs _ _ _ _ h (by simp; omega)

theorem run_storeRaw {P : Program} {b : Nat} {e : TypeId} {fr : Nat × Nat} : ∀ (vs : List Value) (w : World) (rc : Array Value) (base i : Nat), w.heap[b]? = some (.cells rc e fr) → base + i + vs.length ≤ rc.size →
    (∀ k, k < vs.length → ¬ (fr.1 ≤ base + i + k ∧ base + i + k < fr.2)) → (∀ (k : Nat) (v : Value), vs[k]? = some v → v.oneCell' = true) →
    ∃ w', (storeCells ⟨b, base, none⟩ vs i).run P w = .ok () w' ∧ w'.heap[b]? = some (.cells (writeA rc (base + i) vs) e fr) ∧ (∀ j, j ≠ b → w'.heap[j]? = w.heap[j]?) ∧ w'.heap.size = w.heap.size ∧ w'.tape = w.tape ∧ w'.os = w.os ∧ w'.output = w.output
  | [], w, rc, base, i, h, _, _, _ => ⟨w, by simp [storeCells], h, fun _ _ => rfl, rfl, rfl, rfl, rfl⟩
  | v :: vs, w, rc, base, i, h, hs, hf, hv => by
    simp at hs
    have hrc : rc[base + i]? = some rc[base + i] := Array.getElem?_eq_getElem (by omega)
    have hcell : w.cell? ⟨b, base + i, none⟩ = some rc[base + i] := by rw [cell_of w h]; exact hrc
    have hfr : w.frozen? ⟨b, base + i, none⟩ = false := by
      rw [frozen_of w h]
      have := hf 0 (by simp)
      simp only [Nat.add_zero] at this
      simp only [Bool.and_eq_false_iff, decide_eq_false_iff_not]
      by_cases hx : fr.1 ≤ base + i
      · exact .inr fun hy => this ⟨hx, hy⟩
      · exact .inl hx
    have h1 : (w.setCell ⟨b, base + i, none⟩ v).heap[b]? = some (.cells (rc.setIfInBounds (base + i) v) e fr) := heap_setCell_at w ⟨b, base + i, none⟩ v rc e fr rfl h
    obtain ⟨w', hr, ha, hb, hc, hd, ho, hout⟩ := run_storeRaw (P := P) vs (w.setCell ⟨b, base + i, none⟩ v) _ base (i + 1) h1 (by simp; omega) (fun k hk => by have := hf (k + 1) (by simpa using hk); rwa [show base + (i + 1) + k = base + i + (k + 1) by omega])
      (fun k u hu => hv (k + 1) u (by simpa using hu))
    refine ⟨w', ?_, ?_, ?_, ?_, hd, ho, hout⟩
    · simp only [storeCells, Sem.run_bind, add_none, run_store P w _ v _ (hv 0 v (by simp)), hcell, hfr, Bool.false_eq_true, if_false, Result.andThen_ok, hr]
    · rw [ha, writeA]; rfl
    · intro j hj
      rw [hb j hj]
      exact heap_setCell_other w _ _ _ hj
    · rw [hc]; simp

/-- One object by itself: whoever shared its block is gone. -/
theorem Rel.isolate {P : Program} {σ : LState} {ρ : List Loc} {w : World} (h : Rel P σ ρ w) {i : Nat} {c : List Value} {e : TypeId} {kin : Option Nat} {L : Loc}
    (hi : σ[i]? = some (.cells c e false kin)) (hL : ρ[i]? = some L) (hkin : kin ≠ some i) (k' : Option Nat) :
    Rel P (kill kin (σ.set i (.cells c e false k'))) ρ w ∧ Ext σ ρ w (kill kin (σ.set i (.cells c e false k'))) ρ w ∧
      (kill kin (σ.set i (.cells c e false k')))[i]? = some (.cells c e false k') ∧
      ∀ (j : Nat) (p : LObj) (M : Loc), j ≠ i → (kill kin (σ.set i (.cells c e false k')))[j]? = some p → ρ[j]? = some M → p ≠ .dead → M.block ≠ L.block := by
  have hil := get_lt hi
  have get : ∀ (j : Nat) (p : LObj), (kill kin (σ.set i (.cells c e false k')))[j]? = some p →
      p = .dead ∨ (j = i ∧ p = .cells c e false k') ∨ (j ≠ i ∧ σ[j]? = some p ∧ kin ≠ some j) := by
    intro j p hp
    rcases kill_get hp with hd | ⟨hp, hkin⟩
    · exact .inl hd
    · by_cases he : i = j
      · subst he; rw [List.getElem?_set_self hil] at hp; simp at hp; exact .inr (.inl ⟨rfl, hp.symm⟩)
      · rw [List.getElem?_set_ne he] at hp; exact .inr (.inr ⟨fun x => he x.symm, hp, hkin⟩)
  have other : ∀ (j : Nat) (p : LObj) (M : Loc), j ≠ i → σ[j]? = some p → kin ≠ some j → ρ[j]? = some M → p ≠ .dead → M.block ≠ L.block := by
    intro j p M hne hp hkin hM hd hb
    have := h.sep j i p _ M L hp hi hM hL hne hb
    cases p with
    | dead => exact hd rfl
    | cells a b r s =>
      simp only [Exempt] at this
      rcases this with ⟨_, x⟩ | ⟨_, x⟩
      · simp at x
      · exact hkin x
    | map a b => simp [Exempt] at this
  have hself : (kill kin (σ.set i (.cells c e false k')))[i]? = some (.cells c e false k') := by
    cases kin with
    | none => simp [kill, hil]
    | some j =>
      have : j ≠ i := fun x => hkin (by rw [x])
      simp only [kill]
      rw [List.getElem?_set_ne this]
      simp [hil]
  refine ⟨⟨by simp [kill_length, h.len], h.glob, h.lt, ?_, ?_, fun j c2 e2 ro k2 M hj hM => by
    rcases get j _ hj with hd | ⟨hji, he⟩ | ⟨_, hp, _⟩
    · simp at hd
    · simp only [LObj.cells.injEq] at he
      rw [he.2.1]
      rw [hji] at hM
      exact h.al i _ _ _ _ M hi hM
    · exact h.al j _ _ _ _ M hp hM⟩, ?_, hself, ?_⟩
  · intro j p M hp hM
    rcases get j p hp with rfl | ⟨rfl, rfl⟩ | ⟨_, hp, _⟩
    · trivial
    · rw [hL] at hM
      simp at hM
      subst hM
      have := h.obj j _ L hi hL
      exact this
    · exact h.obj j p M hp hM
  · intro j m p q M N hp hq hM hN hne hb
    rcases get j p hp with hp1 | ⟨hj, hp1⟩ | ⟨hj, hp1, hkin1⟩
    · subst hp1; simp [Exempt]
    · rcases get m q hq with hq1 | ⟨hm, hq1⟩ | ⟨hm, hq1, hkin2⟩
      · subst hq1; simp [Exempt, hp1]
      · exact absurd (hj.trans hm.symm) hne
      · rw [hj, hL] at hM
        simp at hM
        rw [← hM] at hb
        by_cases hd : q = .dead
        · subst hd; simp [Exempt, hp1]
        · exact absurd hb.symm (other m q N hm hq1 hkin2 hN hd)
    · rcases get m q hq with hq1 | ⟨hm, hq1⟩ | ⟨hm, hq1, hkin2⟩
      · subst hq1; cases p <;> simp [Exempt]
      · rw [hm, hL] at hN
        simp at hN
        rw [← hN] at hb
        by_cases hd : p = .dead
        · subst hd; simp [Exempt]
        · exact absurd hb (other j p M hj hp1 hkin1 hM hd)
      · exact h.sep j m p q M N hp1 hq1 hM hN hne hb
  · refine ⟨List.prefix_refl _, Nat.le_refl _, fun _ _ _ => rfl, ?_, rfl, rfl, rfl, fun i L h _ => ⟨i, L, h, rfl⟩⟩
    rintro b _ ⟨j, p, M, hp, hM, hw, rfl⟩
    rcases get j p hp with rfl | ⟨rfl, rfl⟩ | ⟨_, hp, _⟩
    · simp [LObj.writable] at hw
    · exact ⟨j, _, M, hi, hM, rfl, rfl⟩
    · exact ⟨j, p, M, hp, hM, hw, rfl⟩
  · intro j p M hne hp hM hd
    rcases get j p hp with rfl | ⟨rfl, rfl⟩ | ⟨_, hp, hk⟩
    · exact absurd rfl hd
    · exact absurd rfl hne
    · exact other j p M hne hp hk hM hd

/-- What is appended in the room behind an object: a second object over the same block. -/
theorem Rel.extend {P : Program} {σ : LState} {ρ : List Loc} {w : World} (h : Rel P σ ρ w) {i : Nat} {c : List Value} {e : TypeId} {L : Loc} {o m : Nat} {news news' : List Value}
    (hi : σ[i]? = some (.cells c e false (some σ.length))) (hL : ρ[i]? = some L)
    (alone : ∀ (j : Nat) (p : LObj) (M : Loc), j ≠ i → σ[j]? = some p → ρ[j]? = some M → p ≠ .dead → M.block ≠ L.block)
    (ho : o ≤ c.length) (hoal : o % P.cellsOf e = 0) (hm : m ≤ L.slack) (hnews : renL ρ news = some news') (hlen : news.length = m * P.cellsOf e) (hone : ∀ (k : Nat) (v : Value), news[k]? = some v → v.oneCell' = true) :
    ∃ w', (storeCells ⟨L.block, L.off + c.length, none⟩ news').run P w = .ok () w' ∧ Rel P (σ ++ [.cells (c.drop o ++ news) e false (some i)]) (ρ ++ [⟨L.block, L.off + o, L.slack - m⟩]) w' ∧
      Ext σ ρ w (σ ++ [.cells (c.drop o ++ news) e false (some i)]) (ρ ++ [⟨L.block, L.off + o, L.slack - m⟩]) w' := by
  obtain ⟨rc, fr, hc, hs, hv, hf⟩ := h.obj i _ L hi hL
  have hl := renL_length hnews
  have hroom : m * P.cellsOf e ≤ L.slack * P.cellsOf e := Nat.mul_le_mul_right _ hm
  have hsub : (L.slack - m) * P.cellsOf e = L.slack * P.cellsOf e - m * P.cellsOf e := Nat.sub_mul _ _ _
  have hone' : ∀ (k : Nat) (v : Value), news'[k]? = some v → v.oneCell' = true := by
    intro k v hk
    have hk' : k < news.length := by have := get_lt hk; omega
    obtain ⟨v', h1, h2⟩ := renL_get hnews (List.getElem?_eq_getElem hk')
    rw [hk] at h1
    simp at h1
    subst h1
    rw [ren_oneCell h2]
    exact hone k _ (List.getElem?_eq_getElem hk')
  obtain ⟨w', hrun, hb, hother, hsize, htape, hos, hout⟩ := run_storeRaw (P := P) news' w rc (L.off + c.length) 0 hc (by omega) (fun k hk => by
    have := hf rfl (c.length + k) (by omega)
    rw [show L.off + c.length + 0 + k = L.off + (c.length + k) by omega]; exact this) hone'
  rw [Nat.add_zero] at hb
  refine ⟨w', hrun, ?_⟩
  have hpre : ρ <+: ρ ++ [⟨L.block, L.off + o, L.slack - m⟩] := List.prefix_append _ _
  have cases_ : ∀ (j : Nat) (M : Loc), (ρ ++ [⟨L.block, L.off + o, L.slack - m⟩])[j]? = some M → (ρ[j]? = some M ∧ j < ρ.length) ∨ (j = ρ.length ∧ M = ⟨L.block, L.off + o, L.slack - m⟩) := by
    intro j M hM
    rcases Nat.lt_or_ge j ρ.length with hj | hj
    · exact .inl ⟨by rwa [List.getElem?_append_left hj] at hM, hj⟩
    · rw [List.getElem?_append_right hj] at hM
      have h0 := get_lt hM
      simp at h0
      have : j = ρ.length := by omega
      subst this
      simp at hM
      exact .inr ⟨rfl, hM.symm⟩
  have oldo : ∀ (j : Nat) (p : LObj), (σ ++ [LObj.cells (c.drop o ++ news) e false (some i)])[j]? = some p → j < ρ.length → σ[j]? = some p := by
    intro j p hp hj
    rwa [List.getElem?_append_left (by rw [← h.len]; exact hj)] at hp
  have newo : ∀ (p : LObj), (σ ++ [LObj.cells (c.drop o ++ news) e false (some i)])[ρ.length]? = some p → p = .cells (c.drop o ++ news) e false (some i) := by
    intro p hp
    rw [h.len] at hp
    simpa using hp.symm
  have keepi : ∀ (k : Nat), k < c.length → (writeA rc (L.off + c.length) news')[L.off + k]? = rc[L.off + k]? := fun k hk => writeA_out _ _ _ _ (.inl (by omega))
  have hil : i < ρ.length := get_lt hL
  refine ⟨⟨by simp [h.len], fun g hg => getElem?_prefix hpre (h.glob g hg), ?_, ?_, ?_, fun j c2 e2 ro k2 M hj hM => by
    rcases cases_ j M hM with ⟨hM, hjl⟩ | ⟨hjl, rfl⟩
    · exact h.al j _ _ _ _ M (oldo j _ hj hjl) hM
    · subst hjl
      have := newo _ hj
      simp only [LObj.cells.injEq] at this
      rw [this.2.1]
      have h1 := h.al i _ _ _ _ L hi hL
      show (L.off + o) % P.cellsOf e = 0
      rw [Nat.add_mod, h1, hoal]; simp⟩, ?_⟩
  · intro j M hM
    rw [hsize]
    rcases cases_ j M hM with ⟨hM, _⟩ | ⟨_, rfl⟩
    · exact h.lt j M hM
    · exact h.lt i L hL
  · intro j p M hp hM
    rcases cases_ j M hM with ⟨hM, hj⟩ | ⟨rfl, rfl⟩
    · have hp2 := oldo j p hp hj
      by_cases hji : j = i
      · rw [hji, hi] at hp2
        simp at hp2
        subst hp2
        rw [hji, hL] at hM
        simp at hM
        subst hM
        refine ⟨_, fr, hb, by rw [writeA_size]; exact hs, fun k v hk => ?_, hf⟩
        obtain ⟨v', h1, h2⟩ := hv k v hk
        exact ⟨v', by rw [keepi k (get_lt hk)]; exact h1, ren_mono hpre h2⟩
      · by_cases hd : p = .dead
        · subst hd; trivial
        · exact (h.obj j p M hp2 hM).keep hpre (hother _ (alone j p M hji hp2 hM hd))
    · rw [newo p hp]
      refine ⟨_, fr, hb, ?_, fun k v hk => ?_, fun _ k hk => ?_⟩
      · rw [writeA_size]
        simp only [List.length_append, List.length_drop]
        omega
      · rcases Nat.lt_or_ge k (c.length - o) with hk2 | hk2
        · rw [List.getElem?_append_left (by simpa using hk2), List.getElem?_drop] at hk
          obtain ⟨v', h1, h2⟩ := hv (o + k) v hk
          refine ⟨v', ?_, ren_mono hpre h2⟩
          have := keepi (o + k) (by omega)
          show (writeA rc (L.off + c.length) news')[L.off + o + k]? = some v'
          rw [Nat.add_assoc, this]
          exact h1
        · rw [List.getElem?_append_right (by simpa using hk2)] at hk
          simp only [List.length_drop] at hk
          obtain ⟨v', h1, h2⟩ := renL_get hnews hk
          refine ⟨v', ?_, ren_mono hpre h2⟩
          have := writeA_in news' rc (L.off + c.length) (k - (c.length - o)) v' h1 (by omega)
          rw [← this]
          show (writeA rc (L.off + c.length) news')[L.off + o + k]? = _
          congr 1
          omega
      · simp only [List.length_append, List.length_drop] at hk
        have := hf rfl (o + k) (by omega)
        show ¬ (fr.1 ≤ L.off + o + k ∧ L.off + o + k < fr.2)
        rw [Nat.add_assoc]
        exact this
  · intro j k p q M N hp hq hM hN hne hbl
    rcases cases_ j M hM with ⟨hM, hj⟩ | ⟨hj, rfl⟩ <;> rcases cases_ k N hN with ⟨hN, hk⟩ | ⟨hk, rfl⟩
    · exact h.sep j k p q M N (oldo j p hp hj) (oldo k q hq hk) hM hN hne hbl
    · subst hk
      rw [newo q hq]
      have hp2 := oldo j p hp hj
      by_cases hji : j = i
      · rw [hji, hi] at hp2
        simp at hp2
        subst hp2
        simp [Exempt, h.len, hji]
      · by_cases hd : p = .dead
        · subst hd; simp [Exempt]
        · exact absurd hbl (alone j p M hji hp2 hM hd)
    · subst hj
      rw [newo p hp]
      have hq2 := oldo k q hq hk
      by_cases hki : k = i
      · rw [hki, hi] at hq2
        simp at hq2
        subst hq2
        simp [Exempt, h.len, hki]
      · by_cases hd : q = .dead
        · subst hd; simp [Exempt]
        · exact absurd hbl.symm (alone k q N hki hq2 hN hd)
    · omega
  · refine ⟨hpre, by omega, ?_, ?_, htape, hos, hout, fun j M hM _ => by
      rcases cases_ j M hM with ⟨hM, _⟩ | ⟨_, rfl⟩
      · exact ⟨j, M, hM, rfl⟩
      · exact ⟨i, L, hL, rfl⟩⟩
    · intro b _ hno
      refine hother b fun hbl => hno ⟨i, _, L, hi, hL, rfl, hbl.symm⟩
    · rintro b _ ⟨j, p, M, hp, hM, hw, rfl⟩
      rcases cases_ j M hM with ⟨hM, hj⟩ | ⟨hj, rfl⟩
      · exact ⟨j, p, M, oldo j p hp hj, hM, hw, rfl⟩
      · exact ⟨i, _, L, hi, hL, rfl, rfl⟩

end Go.Lg
end

section
namespace Go.Lg
open Go

def allOne : List Value → Bool
  | [] => true
  | v :: l => v.oneCell' && allOne l

theorem allOne_get : ∀ {l : List Value} {k : Nat} {v : Value}, allOne l = true → l[k]? = some v → v.oneCell' = true
  | [], _, _, _, h => by simp at h
  | u :: l, k, v, ha, h => by
    simp only [allOne, Bool.and_eq_true] at ha
    cases k with
    | zero => simp at h; subst h; exact ha.1
    | succ k => simp at h; exact allOne_get ha.2 h

def lappendNew (σ : LState) (e : TypeId) (c : List Value) (need : Nat) : Value × LState := (.slice (some ⟨σ.length, 0, none⟩) need (big + need), σ ++ [.cells c e false none])

def lappendTo (σ : LState) (e : TypeId) (n bytes : Nat) (s : Value) (m : Nat) (news : List Value) : Option (Value × LState) :=
  match s with
  | .slice none 0 0 => if m = 0 then some (.slice none 0 0, σ) else if m * bytes ≤ 140737488355328 && m ≤ 9223372036854775807 then some (lappendNew σ e news m) else none
  | .slice (some a) len c => match a.spot with
    | some _ => none
    | none =>
      if len + m ≤ baseCap c then match storeL σ a.block (a.off + len * n) news with
        | some σ' => some (.slice (some a) (len + m) c, σ')
        | none => none
      else if (len + m) * bytes ≤ 140737488355328 && len + m ≤ 9223372036854775807 then
        if c < big then match cellsAt σ a (len * n) with
          | some old => some (lappendNew σ e (old ++ news) (len + m))
          | none => none
        else match σ[a.block]? with
          | some (.cells cs e' false kin) =>
            if e' = e && cs.length = a.off + len * n && len = baseCap c && kin != some a.block && allOne news && a.off % n = 0 then
              some (.slice (some ⟨σ.length, 0, none⟩) (len + m) (big + (len + m)),
                kill kin (σ.set a.block (.cells cs e false (some σ.length))) ++ [.cells (cs.drop a.off ++ news) e false (some a.block)])
            else none
          | _ => none
      else none
  | _ => none

def lappend (P : Program) (σ : LState) (argTypes : Array TypeId) (s x : Value) : Option (Value × LState) :=
  match argTypes.toList with
  | [sT, xT] => match P.underlying sT, P.underlying xT with
    | some (.slice e), some d => if isInt d then none else match P.info? e, lzero P e with
      | some i, some z => if z.cells.size = i.size && 0 < i.size then match newsOf σ i.size x with
          | some (m, news) => lappendTo σ e i.size i.bytes s m news
          | none => none
        else none
      | _, _ => none
    | _, _ => none
  | _ => none

theorem cap_big (L : Loc) (n : Nat) : L.cap (big + n) = n + L.slack := by unfold Loc.cap; rw [if_neg (by omega)]; omega

theorem lappend_does {P : Program} {σ σ' : LState} {ρ : List Loc} {w : World} (hR : Rel P σ ρ w) {argTypes : Array TypeId} {ty : TypeId} {s s' x x' v : Value} (hs : ren ρ s = some s') (hx : ren ρ x = some x') (h : lappend P σ argTypes s x = some (v, σ')) :
    Does P σ ρ w (Builtin.append_ argTypes ty #[s', x']) v σ' := by
  unfold lappend at h
  split at h
  case h_2 => simp at h
  rename_i sT xT hargs
  obtain ⟨l⟩ := argTypes
  simp only at hargs
  subst hargs
  split at h
  case h_2 => simp at h
  rename_i e d ht hxT
  split at h
  case isTrue => simp at h
  rename_i hd
  split at h
  case h_2 => simp at h
  rename_i i z hi hz0
  split at h
  case isFalse => simp at h
  rename_i hcond
  simp only [Bool.and_eq_true, decide_eq_true_eq] at hcond
  obtain ⟨hzs, hpos⟩ := hcond
  have hd' : isInt d = false := by simpa using hd
  have hn : lsize P e = some i.size := by simp [lsize, hi]
  have hco : P.cellsOf e = i.size := cellsOf_lsize hn
  have hz : i.zero = some z := by
    unfold lzero at hz0
    simp only [hi] at hz0
    cases hzz : i.zero with
    | none => simp [hzz] at hz0
    | some z' => simp only [hzz] at hz0; split at hz0 <;> simp at hz0; rw [hz0]
  split at h
  case h_2 => simp at h
  rename_i m news hnews
  obtain ⟨news', hN⟩ := news_of hR hx hnews
  have hRd : Rel P σ ρ w.drew := hR.drew
  -- the way that makes a new row
  have anew : ∀ (base : Option Addr) (len cap : Nat) (olds olds' : List Value), renL ρ olds = some olds' → olds.length = len * i.size → (∀ W : World, W.heap = w.heap → (Builtin.firstCells i.size len (.slice base len cap)).run P W = .ok olds'.toArray W) →
      cap < len + m → (len + m) * i.bytes ≤ 140737488355328 → len + m ≤ 9223372036854775807 →
      Does P σ ρ w (Builtin.append_ #[sT, xT] ty #[.slice base len cap, x']) (lappendNew σ e (olds ++ news) (len + m)).1 (lappendNew σ e (olds ++ news) (len + m)).2 := by
    intro base len cap olds olds' hol hlo hfirst hgt hb h63
    have hrun := run_append_anew (P := P) (w := w) (sT := sT) (xT := xT) (ty := ty) (base := base) (len := len) (cap := cap) ht hxT hd' hi hz (hN.count w) (hN.first w.drew rfl) (hfirst w.drew rfl) hgt hb h63
    have hfc := freshCap_le w (len + m) cap e
    have hren := renL_append hol hN.ren
    obtain ⟨h1, h2⟩ := hRd.push_row (c := olds ++ news) (e := e) (tail := Builtin.zeroCells z.cells (freshCap w (len + m) cap e - (len + m))) (slack := freshCap w (len + m) cap e - (len + m)) hren (by rw [size_zeroCells, hco, hzs]; exact Nat.le_refl _) none
    have hE := (Ext.drew σ ρ w).trans h2
    refine ⟨_, _, ρ ++ [⟨w.heap.size, 0, freshCap w (len + m) cap e - (len + m)⟩], hrun, ?_, ?_, ?_⟩
    · show ren _ (.slice (some ⟨σ.length, 0, none⟩) (len + m) (big + (len + m))) = _
      have hp : (ρ ++ [⟨w.heap.size, 0, freshCap w (len + m) cap e - (len + m)⟩] : List Loc)[σ.length]? = some ⟨w.heap.size, 0, freshCap w (len + m) cap e - (len + m)⟩ := push_ren hR _
      rw [ren_slice_mk (a := ⟨σ.length, 0, none⟩) rfl hp, cap_big]
      simp only [Nat.add_zero]
      rw [Nat.add_sub_cancel' hfc]
    · have e1 : (olds' ++ news').toArray ++ Builtin.zeroCells z.cells (freshCap w (len + m) cap e - (len + m)) = olds'.toArray ++ news'.toArray ++ Builtin.zeroCells z.cells (freshCap w (len + m) cap e - (len + m)) := by
        apply Array.ext'; simp
      rw [e1] at h1
      exact h1
    · have e1 : (olds' ++ news').toArray ++ Builtin.zeroCells z.cells (freshCap w (len + m) cap e - (len + m)) = olds'.toArray ++ news'.toArray ++ Builtin.zeroCells z.cells (freshCap w (len + m) cap e - (len + m)) := by
        apply Array.ext'; simp
      rw [e1] at hE
      exact hE
  unfold lappendTo at h
  split at h
  · -- nil
    have hs2 : s' = .slice none 0 0 := by simpa [ren] using hs.symm
    subst hs2
    split at h
    · rename_i hm
      simp at h
      obtain ⟨rfl, rfl⟩ := h
      subst hm
      refine Does.same hR (v' := .slice none 0 0) ?_ (by simp [ren])
      have h1 := hN.count w
      have h2 := hN.first w rfl
      have hl := hN.len
      have hnil : news' = [] := List.length_eq_zero_iff.1 (by rw [renL_length hN.ren, hl]; simp)
      subst hnil
      simp only [Builtin.append_, List.getElem?_toArray, List.getElem?_cons_zero, List.getElem?_cons_succ, Sem.run_bind, run_underlying ht, run_underlying hxT, run_sizeOf hn, Result.andThen_ok, Sem.run_pure]
      rw [if_neg]
      rotate_left
      · cases d <;> simp_all [isInt]
      simp only [Sem.run_bind, h1, Result.andThen_ok, Nat.add_zero, Nat.le_refl, if_true]
      rw [if_pos]
      rotate_left
      · cases d <;> simp_all [isInt]
      simp only [Sem.run_bind, h2, Result.andThen_ok, Sem.run_pure]
    · rename_i hm
      split at h
      · rename_i hb
        simp only [Bool.and_eq_true, decide_eq_true_eq] at hb
        simp only [Option.some.injEq] at h
        have := anew none 0 0 [] [] (by simp [renL]) (by simp) (fun W _ => rfl) (by omega) (by simpa using hb.1) (by simpa using hb.2)
        simp only [List.nil_append, Nat.zero_add] at this
        rw [h] at this
        exact this
      · simp at h
  · rename_i a len c
    obtain ⟨L, hsp, hL, rfl⟩ := ren_slice hs
    simp only [hsp] at h
    have hcb := L.cap_base c
    split at h
    · -- in place, surely
      rename_i hle
      cases hst : storeL σ a.block (a.off + len * i.size) news with
      | none => simp [hst] at h
      | some σ1 =>
        simp only [hst, Option.some.injEq, Prod.mk.injEq] at h
        obtain ⟨rfl, rfl⟩ := h
        obtain ⟨w', hrun, hR', hE⟩ := storeL_real (P := P) hL (base := L.off + (a.off + len * i.size)) (i := 0) (o := a.off + len * i.size) (by omega) hR hN.ren hst
        refine ⟨.slice (some ⟨L.block, L.off + a.off, none⟩) (len + m) (L.cap c), w', ρ, ?_, ?_, hR', hE⟩
        · refine run_append_here ht hxT hd' hn (hN.count w) (hN.first w rfl) (by omega) ?_
          rw [add_none, Nat.add_assoc]
          exact hrun
        · exact ren_slice_mk hsp hL _ _
    · rename_i hle
      split at h
      case isFalse => simp at h
      rename_i hb
      simp only [Bool.and_eq_true, decide_eq_true_eq] at hb
      split at h
      · -- the capacity is known, and too small
        rename_i hcs
        cases hold : cellsAt σ a (len * i.size) with
        | none => simp [hold] at h
        | some old =>
          simp only [hold, Option.some.injEq] at h
          obtain ⟨old', hol, hlo, _, hcell⟩ := cellsAt_real (P := P) hR hold hL
          have hcap := L.cap_small hcs
          have hbase : baseCap c = c := by simp [baseCap, hcs]
          have := anew (some ⟨L.block, L.off + a.off, none⟩) len (L.cap c) old old' hol hlo (fun W hW => by
            have h2 := run_loadCells_list (P := P) W ⟨L.block, L.off + a.off, none⟩ old' (fun j v hj => by rw [add_none, cell?_heap hW]; exact hcell j v hj)
            rw [renL_length hol, hlo] at h2
            exact h2) (by omega) hb.1 hb.2
          rw [h] at this
          exact this
      · -- nobody knows
        rename_i hcs
        cases ho : σ[a.block]? with
        | none => simp [ho] at h
        | some O =>
          cases O with
          | dead => simp [ho] at h
          | map es k => simp [ho] at h
          | cells cs e' ro kin =>
            cases ro with
            | true => simp [ho] at h
            | false =>
              simp only [ho] at h
              split at h
              case isFalse => simp at h
              rename_i hk
              simp only [Bool.and_eq_true, decide_eq_true_eq, bne_iff_ne, ne_eq] at hk
              obtain ⟨⟨⟨⟨⟨rfl, hlen⟩, hbase⟩, hkin⟩, hone⟩, hoal⟩ := hk
              simp only [Option.some.injEq, Prod.mk.injEq] at h
              obtain ⟨rfl, rfl⟩ := h
              have hold : cellsAt σ a (len * i.size) = some (cs.drop a.off) := by
                simp only [cellsAt, hsp, ho]
                rw [if_pos (by omega), List.take_of_length_le (by simp; omega)]
              obtain ⟨old', hol, hlo, _, hcell⟩ := cellsAt_real (P := P) hR hold hL
              have hcapL : L.cap c = len + L.slack := by
                have : c = big + len := by unfold baseCap at hbase; rw [if_neg hcs] at hbase; omega
                rw [this, cap_big]
              have hfirst : ∀ W : World, W.heap = w.heap → (Builtin.firstCells i.size len (.slice (some ⟨L.block, L.off + a.off, none⟩) len (L.cap c))).run P W = .ok old'.toArray W := fun W hW => by
                have h2 := run_loadCells_list (P := P) W ⟨L.block, L.off + a.off, none⟩ old' (fun j v hj => by rw [add_none, cell?_heap hW]; exact hcell j v hj)
                rw [renL_length hol, hlo] at h2
                exact h2
              obtain ⟨hR1, hE1, hself, halone⟩ := hR.isolate ho hL hkin (some σ.length)
              have hlen1 : (kill kin (σ.set a.block (.cells cs e' false (some σ.length)))).length = σ.length := by simp [kill_length]
              by_cases hfit : len + m ≤ L.cap c
              · -- it lies in place
                obtain ⟨w', hrun, hR2, hE2⟩ := hR1.extend (i := a.block) (c := cs) (e := e') (L := L) (o := a.off) (m := m) (news := news) (by rw [hlen1]; exact hself) hL halone (by omega) (by rw [hco]; exact hoal) (by omega) hN.ren (by rw [hco]; exact hN.len) (fun k v hv => allOne_get hone hv)
                refine ⟨.slice (some ⟨L.block, L.off + a.off, none⟩) (len + m) (L.cap c), w', _, ?_, ?_, hR2, hE1.trans hE2⟩
                · refine run_append_here ht hxT hd' hn (hN.count w) (hN.first w rfl) hfit ?_
                  rw [add_none, Nat.add_assoc, ← hlen]
                  exact hrun
                · have hp : (ρ ++ [⟨L.block, L.off + a.off, L.slack - m⟩] : List Loc)[σ.length]? = some ⟨L.block, L.off + a.off, L.slack - m⟩ := push_ren hR _
                  rw [ren_slice_mk (a := ⟨σ.length, 0, none⟩) rfl hp, cap_big, hcapL]
                  simp only [Nat.add_zero]
                  rw [show len + m + (L.slack - m) = len + L.slack by omega]
              · -- a new row
                have hrun := run_append_anew (P := P) (w := w) (sT := sT) (xT := xT) (ty := ty) (base := some ⟨L.block, L.off + a.off, none⟩) (len := len) (cap := L.cap c) ht hxT hd' hi hz (hN.count w) (hN.first w.drew rfl) (hfirst w.drew rfl) (by omega) hb.1 hb.2
                have hfc := freshCap_le w (len + m) (L.cap c) e'
                have hren := renL_append hol hN.ren
                obtain ⟨h1, h2⟩ := hR1.drew.push_row (c := cs.drop a.off ++ news) (e := e') (tail := Builtin.zeroCells z.cells (freshCap w (len + m) (L.cap c) e' - (len + m))) (slack := freshCap w (len + m) (L.cap c) e' - (len + m)) hren (by rw [size_zeroCells, hco, hzs]; exact Nat.le_refl _) (some a.block)
                have hE := (hE1.trans (Ext.drew _ ρ w)).trans h2
                have e1 : (old' ++ news').toArray ++ Builtin.zeroCells z.cells (freshCap w (len + m) (L.cap c) e' - (len + m)) = old'.toArray ++ news'.toArray ++ Builtin.zeroCells z.cells (freshCap w (len + m) (L.cap c) e' - (len + m)) := by
                  apply Array.ext'; simp
                rw [e1] at h1 hE
                refine ⟨_, _, ρ ++ [⟨w.heap.size, 0, freshCap w (len + m) (L.cap c) e' - (len + m)⟩], hrun, ?_, h1, hE⟩
                have hp : (ρ ++ [⟨w.heap.size, 0, freshCap w (len + m) (L.cap c) e' - (len + m)⟩] : List Loc)[σ.length]? = some ⟨w.heap.size, 0, freshCap w (len + m) (L.cap c) e' - (len + m)⟩ := push_ren hR _
                rw [ren_slice_mk (a := ⟨σ.length, 0, none⟩) rfl hp, cap_big]
                simp only [Nat.add_zero]
                rw [Nat.add_sub_cancel' hfc]
  · simp at h

end Go.Lg
end

section
namespace Go.Lg
open Go

def lcopy (P : Program) (σ : LState) (argTypes : Array TypeId) (d x : Value) : Option (Value × LState) :=
  match argTypes[0]? with
  | none => none
  | some dT => match P.underlying dT with
    | some (.slice e) => match lsize P e, d with
      | some n, .slice none _ _ => match newsOf σ n x with
        | some (_, _) => none
        | none => none
      | some n, .slice (some a) len _ => match a.spot, newsOf σ n x with
        | none, some (m, news) => match storeL σ a.block a.off (news.take (min m len * n)) with
          | some σ' => some (.int .i64 (min m len : Nat), σ')
          | none => none
        | _, _ => none
      | _, _ => none
    | _ => none

structure NewsMin (P : Program) (w : World) (n k : Nat) (x' : Value) (news' : List Value) : Prop where
  first : ∀ W : World, W.heap = w.heap → (Builtin.firstCells n k x').run P W = .ok (news'.take (k * n)).toArray W

theorem news_min {P : Program} {σ : LState} {ρ : List Loc} {w : World} (hR : Rel P σ ρ w) {n m k : Nat} {x x' : Value} {news news' : List Value} (hx : ren ρ x = some x') (h : newsOf σ n x = some (m, news)) (hk : k ≤ m) (hren : renL ρ news = some news') :
    NewsMin P w n k x' news' := by
  cases x with
  | slice a k2 c =>
    cases a with
    | none =>
      simp only [newsOf] at h
      split at h
      · rename_i hk2
        simp at h
        obtain ⟨rfl, rfl⟩ := h
        subst hk2
        simp [ren] at hx
        subst hx
        simp [renL] at hren
        subst hren
        exact ⟨fun W _ => by simp [Builtin.firstCells]⟩
      · simp at h
    | some a =>
      simp only [newsOf] at h
      cases hc : cellsAt σ a (k2 * n) with
      | none => simp [hc] at h
      | some l =>
        simp only [hc, Option.some.injEq, Prod.mk.injEq] at h
        obtain ⟨rfl, rfl⟩ := h
        obtain ⟨L, hs, hL, rfl⟩ := ren_slice hx
        obtain ⟨l', hl, hlen, _, hcell⟩ := cellsAt_real (P := P) hR hc hL
        rw [hl] at hren
        simp at hren
        subst hren
        refine ⟨fun W hW => ?_⟩
        have hle : k * n ≤ l'.length := by rw [renL_length hl, hlen]; exact Nat.mul_le_mul_right _ hk
        have h2 := run_loadCells_list (P := P) W ⟨L.block, L.off + a.off, none⟩ (l'.take (k * n)) (fun j v hj => by
          rw [List.getElem?_take] at hj
          split at hj
          · rw [add_none, cell?_heap hW]; exact hcell j v hj
          · simp at hj)
        rw [List.length_take, Nat.min_eq_left hle] at h2
        exact h2
  | string s =>
    simp only [newsOf] at h
    split at h
    · rename_i hn
      simp only [Option.some.injEq, Prod.mk.injEq] at h
      obtain ⟨rfl, rfl⟩ := h
      subst hn
      simp [ren] at hx
      subst hx
      rw [renL_flat ρ (litBytes_flat s)] at hren
      simp at hren
      subst hren
      refine ⟨fun W _ => ?_⟩
      simp only [Builtin.firstCells, Sem.run_pure, litBytes]
      congr 1
      apply Array.ext'
      simp [List.map_take, ByteArray.extract, ByteArray.copySlice]
    · simp at h
  | _ => simp [newsOf] at h

theorem lcopy_does {P : Program} {σ σ' : LState} {ρ : List Loc} {w : World} (hR : Rel P σ ρ w) {argTypes : Array TypeId} {ty : TypeId} {d d' x x' v : Value} (hd : ren ρ d = some d') (hx : ren ρ x = some x') (h : lcopy P σ argTypes d x = some (v, σ')) :
    Does P σ ρ w (Builtin.copy_ argTypes ty #[d', x']) v σ' := by
  unfold lcopy at h
  cases ha : argTypes[0]? with
  | none => simp [ha] at h
  | some dT =>
    simp only [ha] at h
    cases hu : P.underlying dT with
    | none => simp [hu] at h
    | some D =>
      cases D with
      | slice e =>
        simp only [hu] at h
        cases hn : lsize P e with
        | none => simp [hn] at h
        | some n =>
          simp only [hn] at h
          cases d with
          | slice a len c =>
            cases a with
            | none => simp only at h; split at h <;> simp at h
            | some a =>
              obtain ⟨L, hs, hL, rfl⟩ := ren_slice hd
              simp only [hs] at h
              cases hnw : newsOf σ n x with
              | none => simp [hnw] at h
              | some mn =>
                obtain ⟨m, news⟩ := mn
                simp only [hnw] at h
                obtain ⟨news', hN⟩ := news_of hR hx hnw
                cases hst : storeL σ a.block a.off (news.take (min m len * n)) with
                | none => simp [hst] at h
                | some σ1 =>
                  simp only [hst, Option.some.injEq, Prod.mk.injEq] at h
                  obtain ⟨rfl, rfl⟩ := h
                  have hmin := news_min hR hx hnw (Nat.min_le_left m len) hN.ren
                  obtain ⟨w', hrun, hR', hE⟩ := storeL_real (P := P) hL (base := L.off + a.off) (i := 0) (o := a.off) (by omega) hR (renL_take _ hN.ren) hst
                  refine ⟨.int .i64 (min m len : Nat), w', ρ, ?_, by simp [ren], hR', hE⟩
                  have hmm : Nat.min m len = min m len := rfl
                  simp only [Builtin.copy_, ha, List.getElem?_toArray, List.getElem?_cons_zero, List.getElem?_cons_succ, Sem.run_bind, run_underlying hu, run_sizeOf hn, Result.andThen_ok, hN.count w, hmm, hmin.first w rfl, hrun, goInt, Sem.run_pure]
          | _ => simp at h
      | _ => simp [hu] at h

/-- len of a slice or a map; cap of a slice whose capacity is known. -/
def llen (P : Program) (σ : LState) (argTypes : Array TypeId) (x : Value) : Option Value :=
  match argTypes[0]? with
  | none => none
  | some t => match P.underlying t, x with
    | some (.slice _), .slice _ n _ => some (.int .i64 n)
    | some (.map _ _), .map none => some (.int .i64 0)
    | some (.map _ _), .map (some r) => match σ[r]? with
      | some (.map es _) => some (.int .i64 es.length)
      | _ => none
    | some (.array n _), _ => some (.int .i64 n)
    | some .string, .string s => some (.int .i64 s.size)
    | _, _ => none

theorem map_real {P : Program} {σ : LState} {ρ : List Loc} {w : World} (hR : Rel P σ ρ w) {r : Nat} {es : List MapEntry} {k : Nat} {x' : Value} (hs : σ[r]? = some (.map es k)) (hx : ren ρ (.map (some r)) = some x') :
    ∃ L es', ρ[r]? = some L ∧ x' = .map (some L.block) ∧ w.heap[L.block]? = some (.map es' k) ∧ MapR ρ es es'.toList := by
  simp only [ren] at hx
  cases hL : ρ[r]? with
  | none => simp [hL] at hx
  | some L =>
    simp only [hL, Option.some.injEq] at hx
    obtain ⟨es', h1, _, h2⟩ := hR.obj r _ L hs hL
    exact ⟨L, es', rfl, hx.symm, h1, h2⟩

theorem run_getObj_map {P : Program} {w : World} {r : Nat} {es : Array MapEntry} {k : Nat} (h : w.heap[r]? = some (.map es k)) : (getObj r).run P w = .ok (.map es k) w := by
  simp [getObj, Sem.run, h]

theorem llen_does {P : Program} {σ : LState} {ρ : List Loc} {w : World} (hR : Rel P σ ρ w) {argTypes : Array TypeId} {ty : TypeId} {x x' v : Value} (hx : ren ρ x = some x') (h : llen P σ argTypes x = some v) :
    DoesQ P ρ w (Builtin.len_ argTypes ty #[x']) v := by
  unfold llen at h
  cases ha : argTypes[0]? with
  | none => simp [ha] at h
  | some t =>
    simp only [ha] at h
    split at h
    · rename_i e a n c hu
      simp at h
      subst h
      refine DoesQ.same hR (v' := .int .i64 n) ?_ (by simp [ren])
      have : ∃ a' c', x' = .slice a' n c' := by
        cases a with
        | none => simp [ren] at hx; exact ⟨_, _, hx.symm⟩
        | some a => obtain ⟨L, _, _, rfl⟩ := ren_slice hx; exact ⟨_, _, rfl⟩
      obtain ⟨a', c', rfl⟩ := this
      simp [Builtin.len_, ha, run_underlying hu, goInt]
    · rename_i k e hu
      simp at h
      subst h
      simp [ren] at hx
      subst hx
      exact DoesQ.same hR (v' := .int .i64 0) (by simp [Builtin.len_, ha, run_underlying hu, goInt]) (by simp [ren])
    · rename_i k e r hu
      split at h
      · rename_i es clock hs
        simp at h
        subst h
        obtain ⟨L, es', _, rfl, hw, hm⟩ := map_real hR hs hx
        refine DoesQ.same hR (v' := .int .i64 es.length) ?_ (by simp [ren])
        have hl : es'.size = es.length := by have := hm.len; simpa using this
        simp [Builtin.len_, ha, run_underlying hu, goInt, run_getObj_map hw, hl]
      · simp at h
    · rename_i n e hu
      simp at h
      subst h
      exact DoesQ.same hR (v' := .int .i64 n) (by simp [Builtin.len_, ha, run_underlying hu, goInt]) (by simp [ren])
    · rename_i s hu
      simp at h
      subst h
      simp [ren] at hx
      subst hx
      exact DoesQ.same hR (v' := .int .i64 s.size) (by simp [Builtin.len_, ha, run_underlying hu, goInt]) (by simp [ren])
    · simp at h

/- ---- clear of a slice -/

def lclear (P : Program) (σ : LState) (argTypes : Array TypeId) (x : Value) : Option (Value × LState) :=
  match argTypes[0]? with
  | none => none
  | some t => match P.underlying t, x with
    | some (.slice _), .slice _ 0 _ => some (.tuple #[], σ)
    | some (.slice e), .slice (some a) n _ => match a.spot, lzero P e with
      | none, some z => if flatL (Builtin.zeroCells z.cells n).toList then match storeL σ a.block a.off (Builtin.zeroCells z.cells n).toList with
          | some σ' => some (.tuple #[], σ')
          | none => none
        else none
      | _, _ => none
    | _, _ => none

theorem lclear_does {P : Program} {σ σ' : LState} {ρ : List Loc} {w : World} (hR : Rel P σ ρ w) {argTypes : Array TypeId} {ty : TypeId} {x x' v : Value} (hx : ren ρ x = some x') (h : lclear P σ argTypes x = some (v, σ')) :
    Does P σ ρ w (Builtin.clear_ argTypes ty #[x']) v σ' := by
  unfold lclear at h
  cases ha : argTypes[0]? with
  | none => simp [ha] at h
  | some t =>
    simp only [ha] at h
    split at h
    · rename_i e a c hu
      simp at h
      obtain ⟨rfl, rfl⟩ := h
      have : ∃ a' c', x' = .slice a' 0 c' := by
        cases a with
        | none => simp [ren] at hx; exact ⟨_, _, hx.symm⟩
        | some a => obtain ⟨L, _, _, rfl⟩ := ren_slice hx; exact ⟨_, _, rfl⟩
      obtain ⟨a', c', rfl⟩ := this
      refine Does.same hR (v' := .tuple #[]) ?_ (by simp [ren, renA, renL])
      cases a' <;> simp [Builtin.clear_, ha, run_underlying hu]
    · rename_i e a n c hne hu
      obtain ⟨L, hs, hL, rfl⟩ := ren_slice hx
      simp only [hs] at h
      cases hz : lzero P e with
      | none => simp [hz] at h
      | some z =>
        simp only [hz] at h
        split at h
        · rename_i hfl
          cases hst : storeL σ a.block a.off (Builtin.zeroCells z.cells n).toList with
          | none => simp [hst] at h
          | some σ1 =>
            simp only [hst, Option.some.injEq, Prod.mk.injEq] at h
            obtain ⟨rfl, rfl⟩ := h
            obtain ⟨hzr, _⟩ := lzero_real hz w
            obtain ⟨w', hrun, hR', hE⟩ := storeL_real (P := P) hL (base := L.off + a.off) (i := 0) (o := a.off) (by omega) hR (renL_flat ρ hfl) hst
            refine ⟨.tuple #[], w', ρ, ?_, by simp [ren, renA, renL], hR', hE⟩
            cases n with
            | zero => exact (hne rfl).elim
            | succ n => simp [Builtin.clear_, ha, run_underlying hu, hzr, hrun]
        · simp at h
    · simp at h

/- ---- strings and bytes -/

def bytesOf : List Value → Option (List UInt8)
  | [] => some []
  | .int .u8 n :: l => match bytesOf l with
    | some r => some (UInt8.ofNat n.toNat :: r)
    | none => none
  | _ :: _ => none

def lbytesToString (P : Program) (σ : LState) (src dst : TypeId) (x : Value) : Option Value :=
  match P.underlying src, P.underlying dst, x with
  | some (.slice e), some .string, .slice none _ _ => match P.underlying e with
    | some (.int .u8) => some (.string .empty)
    | _ => none
  | some (.slice e), some .string, .slice (some a) n _ => match P.underlying e with
    | some (.int .u8) => match cellsAt σ a n with
      | some l => match bytesOf l with
        | some b => some (.string ⟨b.toArray⟩)
        | none => none
      | none => none
    | _ => none
  | _, _, _ => none

theorem renL_bytes {ρ : List Loc} : ∀ {l l' : List Value} {b : List UInt8}, bytesOf l = some b → renL ρ l = some l' → l' = l
  | [], _, _, _, h => by simp [renL] at h; exact h
  | v :: l, _, b, hb, h => by
    cases v with
    | int k n =>
      cases k with
      | u8 =>
        simp only [bytesOf] at hb
        cases hr : bytesOf l with
        | none => simp [hr] at hb
        | some r =>
          simp only [renL, ren] at h
          cases hl : renL ρ l with
          | none => simp [hl] at h
          | some l2 => simp [hl] at h; rw [← h, renL_bytes hr hl]
      | _ => simp [bytesOf] at hb
    | _ => simp [bytesOf] at hb

theorem bytesOf_nums : ∀ {l : List Value} {b : List UInt8}, bytesOf l = some b → ∃ ns : List Int, l = ns.map (Value.int .u8) ∧ b = ns.map fun n => UInt8.ofNat n.toNat
  | [], b, h => by simp [bytesOf] at h; subst h; exact ⟨[], rfl, rfl⟩
  | v :: l, b, h => by
    cases v with
    | int k n =>
      cases k with
      | u8 =>
        simp only [bytesOf] at h
        cases hr : bytesOf l with
        | none => simp [hr] at h
        | some r =>
          simp only [hr, Option.some.injEq] at h
          obtain ⟨ns, h1, h2⟩ := bytesOf_nums hr
          exact ⟨n :: ns, by rw [h1]; rfl, by rw [← h, h2]; rfl⟩
      | _ => simp [bytesOf] at h
    | _ => simp [bytesOf] at h

theorem lbytesToString_does {P : Program} {σ : LState} {ρ : List Loc} {w : World} (hR : Rel P σ ρ w) {src dst : TypeId} {x x' v : Value} (hx : ren ρ x = some x') (h : lbytesToString P σ src dst x = some v) :
    DoesQ P ρ w (convert src dst x') v := by
  unfold lbytesToString at h
  split at h
  · rename_i e n c hs hd
    split at h
    · rename_i he
      simp at h
      subst h
      simp [ren] at hx
      subst hx
      refine DoesQ.same hR (v' := .string .empty) ?_ (by simp [ren])
      simp [convert, run_underlying hs, run_underlying hd, run_underlying he, Conv.bytesToString]
    · simp at h
  · rename_i e a n c hs hd
    split at h
    · rename_i he
      cases hc : cellsAt σ a n with
      | none => simp [hc] at h
      | some l =>
        simp only [hc] at h
        cases hb : bytesOf l with
        | none => simp [hb] at h
        | some b =>
          simp only [hb, Option.some.injEq] at h
          subst h
          obtain ⟨L, hsp, hL, rfl⟩ := ren_slice hx
          obtain ⟨l', hl, _, hrun, _⟩ := cellsAt_real (P := P) hR hc hL
          have e1 := renL_bytes hb hl
          subst e1
          refine DoesQ.same hR (v' := .string ⟨b.toArray⟩) ?_ (by simp [ren])
          obtain ⟨ns, rfl, rfl⟩ := bytesOf_nums hb
          rw [run_convert_bytes_string w src dst e _ n _ hs he hd, run_bytesToString w _ n _ ns hrun, foldl_push_bytes]
          simp [ByteArray.empty, ByteArray.emptyWithCapacity]
          rfl
    · simp at h
  · simp at h

end Go.Lg
end

section
namespace Go.Lg
open Go

theorem MapR.cons_inv {ρ : List Loc} {e : MapEntry} {es es' : List MapEntry} (h : MapR ρ (e :: es) es') : ∃ e2 es2, es' = e2 :: es2 ∧ EntR ρ e e2 ∧ MapR ρ es es2 := by
  cases es' with
  | nil => have := h.len; simp at this
  | cons e2 es2 =>
    obtain ⟨y, hy, hr⟩ := h.at_ 0 e (by simp)
    simp at hy
    subst hy
    exact ⟨e2, es2, rfl, hr, ⟨by have := h.len; simpa using this, fun i x hx => by simpa using h.at_ (i + 1) x (by simpa using hx)⟩⟩

theorem MapR.nil_inv {ρ : List Loc} {es' : List MapEntry} (h : MapR ρ [] es') : es' = [] := List.length_eq_zero_iff.1 (by have := h.len; simpa using this)

theorem MapR.empty {ρ : List Loc} {es : List MapEntry} {es' : Array MapEntry} (h : MapR ρ es es'.toList) : es'.isEmpty = es.isEmpty := by
  have hl : es'.size = es.length := by simpa using h.len
  rw [Bool.eq_iff_iff, Array.isEmpty_iff_size_eq_zero, hl]
  simp

theorem sameNow_flat {d : TypeDesc} {k x y : Value} {b : Bool} {ρ : List Loc} (h : Instr.sameNow d k x = some b) (hx : ren ρ x = some y) : y = x := by
  cases x with
  | bool c => simp [ren] at hx; exact hx.symm
  | int a n => simp [ren] at hx; exact hx.symm
  | string s => simp [ren] at hx; exact hx.symm
  | _ => cases d <;> cases k <;> simp [Instr.sameNow] at h

theorem findNow_ren {ρ : List Loc} {d : TypeDesc} {k : Value} : ∀ {es es' : List MapEntry} {i : Nat} {r : Option (Nat × Value)}, MapR ρ es es' → Instr.findNow d k es i = some r →
    ∃ r', Instr.findNow d k es' i = some r' ∧ ((r = none ∧ r' = none) ∨ ∃ n v v', r = some (n, v) ∧ r' = some (n, v') ∧ ren ρ v = some v' ∧ i ≤ n ∧ n < i + es.length ∧ ∃ e, es[n - i]? = some e ∧ Instr.sameNow d k e.key = some true)
  | [], es', i, r, hm, h => by
    have := hm.nil_inv
    subst this
    simp [Instr.findNow] at h
    subst h
    exact ⟨none, rfl, .inl ⟨rfl, rfl⟩⟩
  | e :: es, es', i, r, hm, h => by
    obtain ⟨e2, es2, rfl, he, hm2⟩ := hm.cons_inv
    simp only [Instr.findNow] at h ⊢
    cases hs : Instr.sameNow d k e.key with
    | none => simp [hs] at h
    | some b =>
      have hk := sameNow_flat hs he.key
      rw [hk, hs]
      simp only [hs] at h
      cases b with
      | true =>
        simp only [Option.some.injEq] at h
        subst h
        exact ⟨_, rfl, .inr ⟨i, e.val, e2.val, rfl, rfl, he.val, by omega, by simp, e, by simp, hs⟩⟩
      | false =>
        obtain ⟨r', h1, h2⟩ := findNow_ren hm2 h
        refine ⟨r', h1, h2.imp id ?_⟩
        rintro ⟨n, v, v', a, b, c, d1, d2, e3, d3, d4⟩
        refine ⟨n, v, v', a, b, c, by omega, by simp; omega, e3, ?_, d4⟩
        rw [show n - i = (n - (i + 1)) + 1 by omega]
        simpa using d3

theorem run_findKey {P : Program} {t : TypeId} {d : TypeDesc} {k : Value} {es : List MapEntry} {r : Option (Nat × Value)} (hu : P.underlying t = some d) (h : Instr.findNow d k es 0 = some r) (w : World) :
    (Instr.findKey t k es).run P w = .ok r w := by
  simp only [Instr.findKey, Sem.run_bind, run_underlying hu, Result.andThen_ok, h, Sem.run_pure]

/-- What a map holds: no block, or an object. -/
def entriesOf (σ : LState) : Value → Option (List MapEntry)
  | .map none => some []
  | .map (some r) => match σ[r]? with
    | some (.map es _) => some es
    | _ => none
  | _ => none

def lfindKey (P : Program) (empty : Bool) (kt : TypeId) (k : Value) (es : List MapEntry) : Option (Option (Nat × Value)) :=
  if flat k then match pureRun P (Instr.checkKey empty 10000 kt k), P.underlying kt with
    | some _, some d => Instr.findNow d k es 0
    | _, _ => none
  else none

def llookup (P : Program) (σ : LState) (t : TypeId) (x k : Value) (ok : Bool) : Option Value :=
  match P.underlying t, entriesOf σ x with
  | some (.map kt e), some es => match lfindKey P es.isEmpty kt k es with
    | some (some (_, v)) => some (if ok then .tuple #[v, .bool true] else v)
    | some none => match lzero P e with
      | some z => some (if ok then .tuple #[z, .bool false] else z)
      | none => none
    | none => none
  | _, _ => none

theorem entries_real {P : Program} {σ : LState} {ρ : List Loc} {w : World} (hR : Rel P σ ρ w) {x x' : Value} {es : List MapEntry} (h : entriesOf σ x = some es) (hx : ren ρ x = some x') :
    ∃ es' : Array MapEntry, MapR ρ es es'.toList ∧ (x' = .map none ∧ es' = #[] ∨ ∃ r k, x' = .map (some r) ∧ w.heap[r]? = some (.map es' k)) := by
  cases x with
  | map r =>
    cases r with
    | none =>
      simp [entriesOf] at h
      subst h
      simp [ren] at hx
      exact ⟨#[], ⟨rfl, fun i x hx => by simp at hx⟩, .inl ⟨hx.symm, rfl⟩⟩
    | some r =>
      simp only [entriesOf] at h
      split at h
      · rename_i es0 k hs
        simp at h
        subst h
        obtain ⟨L, es', _, rfl, hw, hm⟩ := map_real hR hs hx
        exact ⟨es', hm, .inr ⟨_, k, rfl, hw⟩⟩
      · simp at h
  | _ => simp [entriesOf] at h

theorem llookup_does {P : Program} {σ : LState} {ρ : List Loc} {w : World} (hR : Rel P σ ρ w) {t : TypeId} {ok : Bool} {x x' k k' v : Value} (hx : ren ρ x = some x') (hk : ren ρ k = some k') (h : llookup P σ t x k ok = some v) :
    DoesQ P ρ w (Instr.lookup t x' k' ok) v := by
  unfold llookup at h
  split at h
  case h_2 => simp at h
  rename_i kt e es hu hes
  obtain ⟨es', hm, hcase⟩ := entries_real hR hes hx
  have hempty : es'.isEmpty = es.isEmpty := hm.empty
  have hget : ((match x' with
    | .map none => pure #[]
    | .map (some r) => do
      let .map es _ ← getObj r | stuck "Lookup: map expected"
      pure es
    | _ => stuck "Lookup: map expected") : Sem (Array MapEntry)).run P w = .ok es' w := by
    rcases hcase with ⟨rfl, rfl⟩ | ⟨r, c, rfl, hw⟩
    · rfl
    · simp [run_getObj_map hw]
  unfold lfindKey at h
  by_cases hf : flat k = true
  · rw [if_pos hf] at h
    rw [ren_flat ρ hf] at hk
    simp at hk
    subst hk
    cases hc : pureRun P (Instr.checkKey es.isEmpty 10000 kt k) with
    | none => simp [hc] at h
    | some u =>
      have hcheck : (Instr.checkKey es'.isEmpty 10000 kt k).run P w = .ok () w := by rw [hempty]; exact pureRun_sound hc w
      cases hd : P.underlying kt with
      | none => simp [hc, hd] at h
      | some d =>
        simp only [hc, hd] at h
        cases hfn : Instr.findNow d k es 0 with
        | none => simp [hfn] at h
        | some r =>
          simp only [hfn] at h
          obtain ⟨r', h1, h2⟩ := findNow_ren hm hfn
          have hfk := run_findKey (P := P) hd h1 w
          rcases h2 with ⟨rfl, rfl⟩ | ⟨n, u, u', rfl, rfl, hu', _⟩
          · simp only at h
            cases hz : lzero P e with
            | none => simp [hz] at h
            | some z =>
              simp only [hz, Option.some.injEq] at h
              subst h
              obtain ⟨hzr, hzf⟩ := lzero_real hz w
              refine DoesQ.same hR (v' := if ok then .tuple #[z, .bool false] else z) ?_ ?_
              · simp only [Instr.lookup, Sem.run_bind, run_underlying hu, Result.andThen_ok]
                rcases hcase with ⟨rfl, rfl⟩ | ⟨rr, c, rfl, hw⟩
                · simp only [Sem.run_bind, Sem.run_pure, Result.andThen_ok, hcheck, hfk, hzr]
                · simp only [Sem.run_bind, run_getObj_map hw, Sem.run_pure, Result.andThen_ok, hcheck, hfk, hzr]
              · cases ok
                · simpa using ren_flat ρ hzf
                · exact ren_pair (ren_flat ρ hzf) (by simp [ren])
          · simp only [Option.some.injEq] at h
            subst h
            refine DoesQ.same hR (v' := if ok then .tuple #[u', .bool true] else u') ?_ ?_
            · simp only [Instr.lookup, Sem.run_bind, run_underlying hu, Result.andThen_ok]
              rcases hcase with ⟨rfl, rfl⟩ | ⟨rr, c, rfl, hw⟩
              · simp only [Sem.run_bind, Sem.run_pure, Result.andThen_ok, hcheck, hfk]
              · simp only [Sem.run_bind, run_getObj_map hw, Sem.run_pure, Result.andThen_ok, hcheck, hfk]
            · cases ok
              · simpa using hu'
              · exact ren_pair hu' (by simp [ren])
  · rw [if_neg hf] at h
    simp at h

/- ---- new maps; stores; deletes -/

theorem MapR.nil (ρ : List Loc) : MapR ρ [] [] := ⟨rfl, fun i x hx => by simp at hx⟩

def lmakeMap (σ : LState) : Value × LState := (.map (some σ.length), σ ++ [.map [] 0])

theorem lmakeMap_does {P : Program} {σ : LState} {ρ : List Loc} {w : World} (hR : Rel P σ ρ w) (t : TypeId) : Does P σ ρ w (Instr.makeMap t none) (lmakeMap σ).1 (lmakeMap σ).2 := by
  obtain ⟨h1, h2⟩ := hR.push (.map [] 0) (.map #[] 0) ⟨#[], heap_alloc_new w _, rfl, MapR.nil _⟩
  refine ⟨.map (some w.heap.size), _, _, ?_, ?_, h1, h2⟩
  · simp [Instr.makeMap]
  · simp [lmakeMap, ren, push_ren hR]

theorem Rel.setMap {P : Program} {σ : LState} {ρ : List Loc} {w : World} (h : Rel P σ ρ w) {i : Nat} {es es2 : List MapEntry} {es2' : Array MapEntry} {k k2 : Nat} {L : Loc}
    (hi : σ[i]? = some (.map es k)) (hL : ρ[i]? = some L) (hm : MapR ρ es2 es2'.toList) :
    Rel P (σ.set i (.map es2 k2)) ρ { w with heap := w.heap.setIfInBounds L.block (.map es2' k2) } ∧ Ext σ ρ w (σ.set i (.map es2 k2)) ρ { w with heap := w.heap.setIfInBounds L.block (.map es2' k2) } := by
  have hil := get_lt hi
  have hlt := h.lt i L hL
  have get : ∀ (j : Nat) (p : LObj), (σ.set i (.map es2 k2))[j]? = some p → (j = i ∧ p = .map es2 k2) ∨ (j ≠ i ∧ σ[j]? = some p) := by
    intro j p hp
    by_cases he : i = j
    · subst he; rw [List.getElem?_set_self hil] at hp; simp at hp; exact .inl ⟨rfl, hp.symm⟩
    · rw [List.getElem?_set_ne he] at hp; exact .inr ⟨fun x => he x.symm, hp⟩
  have other : ∀ (j : Nat) (p : LObj) (M : Loc), j ≠ i → σ[j]? = some p → ρ[j]? = some M → p ≠ .dead → M.block ≠ L.block := by
    intro j p M hne hp hM hd hb
    have := h.sep j i p _ M L hp hi hM hL hne hb
    cases p <;> simp [Exempt] at this hd
  have heq : ∀ b, b ≠ L.block → (w.heap.setIfInBounds L.block (.map es2' k2))[b]? = w.heap[b]? := fun b hb => Array.getElem?_setIfInBounds_ne (fun x => hb x.symm)
  refine ⟨⟨by simp [h.len], h.glob, fun j M hM => by simpa using h.lt j M hM, ?_, ?_, fun j c2 e2 ro k2 M hj hM => by
    rcases get j _ hj with ⟨_, he⟩ | ⟨_, hp⟩
    · simp at he
    · exact h.al j _ _ _ _ M hp hM⟩, ?_⟩
  · intro j p M hp hM
    rcases get j p hp with ⟨rfl, rfl⟩ | ⟨hne, hp⟩
    · rw [hL] at hM
      simp at hM
      subst hM
      obtain ⟨_, _, ho, _⟩ := h.obj j _ L hi hL
      exact ⟨es2', by simp [hlt], ho, hm⟩
    · by_cases hd : p = .dead
      · subst hd; trivial
      · exact (h.obj j p M hp hM).keep (List.prefix_refl _) (heq _ (other j p M hne hp hM hd))
  · intro j m p q M N hp hq hM hN hne hb
    rcases get j p hp with ⟨hj, hp1⟩ | ⟨hj, hp1⟩
    · rcases get m q hq with ⟨hm1, hq1⟩ | ⟨hm1, hq1⟩
      · exact absurd (hj.trans hm1.symm) hne
      · rw [hj, hL] at hM
        simp at hM
        rw [← hM] at hb
        by_cases hd : q = .dead
        · subst hd; simp [Exempt, hp1]
        · exact absurd hb.symm (other m q N hm1 hq1 hN hd)
    · rcases get m q hq with ⟨hm1, hq1⟩ | ⟨hm1, hq1⟩
      · rw [hm1, hL] at hN
        simp at hN
        rw [← hN] at hb
        by_cases hd : p = .dead
        · subst hd; simp [Exempt]
        · exact absurd hb (other j p M hj hp1 hM hd)
      · exact h.sep j m p q M N hp1 hq1 hM hN hne hb
  · refine ⟨List.prefix_refl _, by simp, ?_, ?_, rfl, rfl, rfl, fun i L h _ => ⟨i, L, h, rfl⟩⟩
    · intro b _ ho
      exact heq b fun hb => ho ⟨i, _, L, hi, hL, rfl, hb.symm⟩
    · rintro b _ ⟨j, p, M, hp, hM, hw, rfl⟩
      rcases get j p hp with ⟨rfl, rfl⟩ | ⟨_, hp⟩
      · exact ⟨j, _, M, hi, hM, rfl, rfl⟩
      · exact ⟨j, p, M, hp, hM, hw, rfl⟩

theorem run_setObj_map {P : Program} {w : World} {r : Nat} {es : Array MapEntry} {k : Nat} (h : w.heap[r]? = some (.map es k)) (o : Obj) : (setObj r o).run P w = .ok () { w with heap := w.heap.setIfInBounds r o } := by
  simp [setObj, Sem.run, h]

theorem MapR.append {ρ : List Loc} {a b a' b' : List MapEntry} (h : MapR ρ a a') (k : MapR ρ b b') : MapR ρ (a ++ b) (a' ++ b') := by
  refine ⟨by simp [h.len, k.len], fun i x hx => ?_⟩
  rcases Nat.lt_or_ge i a.length with hi | hi
  · rw [List.getElem?_append_left hi] at hx
    rw [List.getElem?_append_left (by rw [h.len]; exact hi)]
    exact h.at_ i x hx
  · rw [List.getElem?_append_right hi] at hx
    rw [List.getElem?_append_right (by rw [h.len]; exact hi), h.len]
    exact k.at_ _ x hx

theorem MapR.one {ρ : List Loc} {e e' : MapEntry} (h : EntR ρ e e') : MapR ρ [e] [e'] := by
  refine ⟨rfl, fun i x hx => ?_⟩
  cases i with
  | zero => simp at hx; subst hx; exact ⟨e', by simp, h⟩
  | succ i => simp at hx

theorem MapR.set {ρ : List Loc} {a a' : List MapEntry} {e e' : MapEntry} (h : MapR ρ a a') (he : EntR ρ e e') (n : Nat) : MapR ρ (a.set n e) (a'.set n e') := by
  refine ⟨by simp [h.len], fun i x hx => ?_⟩
  by_cases hn : n = i
  · subst hn
    have hlt : n < a.length := by have := get_lt hx; simpa using this
    rw [List.getElem?_set_self hlt] at hx
    simp at hx
    subst hx
    exact ⟨e', List.getElem?_set_self (by rw [h.len]; exact hlt), he⟩
  · rw [List.getElem?_set_ne hn] at hx ⊢
    exact h.at_ i x hx

theorem MapR.erase {ρ : List Loc} {a a' : List MapEntry} (h : MapR ρ a a') (n : Nat) : MapR ρ (a.eraseIdx n) (a'.eraseIdx n) := by
  refine ⟨by simp [List.length_eraseIdx, h.len], fun i x hx => ?_⟩
  rw [List.getElem?_eraseIdx] at hx ⊢
  split at hx
  · rename_i hi; rw [if_pos hi]; exact h.at_ i x hx
  · rename_i hi; rw [if_neg hi]; exact h.at_ _ x hx

def lmapUpdate (P : Program) (σ : LState) (t : TypeId) (m k v : Value) : Option LState :=
  match P.underlying t, m with
  | some (.map kt _), .map (some r) => match σ[r]? with
    | some (.map es clock) => match lfindKey P false kt k es with
      | some (some (i, _)) => match es[i]? with
        | some e => if Instr.sameBits 10000 e.key k then some (σ.set r (.map (es.set i { e with key := k, val := v }) clock)) else none
        | none => none
      | some none => some (σ.set r (.map (es ++ [{ key := k, val := v, born := clock }]) (clock + 1)))
      | none => none
    | _ => none
  | _, _ => none

theorem lfindKey_inv {P : Program} {empty : Bool} {kt : TypeId} {k : Value} {es : List MapEntry} {r : Option (Nat × Value)} (h : lfindKey P empty kt k es = some r) :
    flat k = true ∧ (∀ w, (Instr.checkKey empty 10000 kt k).run P w = .ok () w) ∧ ∃ d, P.underlying kt = some d ∧ Instr.findNow d k es 0 = some r := by
  unfold lfindKey at h
  by_cases hf : flat k = true
  · rw [if_pos hf] at h
    cases hc : pureRun P (Instr.checkKey empty 10000 kt k) with
    | none => simp [hc] at h
    | some u =>
      cases hd : P.underlying kt with
      | none => simp [hc, hd] at h
      | some d => simp only [hc, hd] at h; exact ⟨hf, fun w => pureRun_sound hc w, d, rfl, h⟩
  · rw [if_neg hf] at h; simp at h

theorem modify_set {α : Type} (a : Array α) (i : Nat) (f : α → α) (x : α) (h : a[i]? = some x) : (a.modify i f).toList = a.toList.set i (f x) := by
  apply List.ext_getElem?
  intro j
  have hlt : i < a.size := (Array.getElem?_eq_some_iff.1 h).1
  by_cases hj : i = j
  · subst hj
    have hx := (Array.getElem?_eq_some_iff.1 h).2
    simp [hlt, hx]
  · rw [List.getElem?_set_ne hj]
    simp [hj]

theorem lmapUpdate_real {P : Program} {σ σ' : LState} {ρ : List Loc} {w : World} (hR : Rel P σ ρ w) {t : TypeId} {m m' k k' v v' : Value} (hm : ren ρ m = some m') (hk : ren ρ k = some k') (hv : ren ρ v = some v') (h : lmapUpdate P σ t m k v = some σ') :
    ∃ w', (Instr.mapUpdate t m' k' v').run P w = .ok () w' ∧ Rel P σ' ρ w' ∧ Ext σ ρ w σ' ρ w' := by
  unfold lmapUpdate at h
  split at h
  case h_2 => simp at h
  rename_i kt e r hu
  split at h
  case h_2 => simp at h
  rename_i es clock hs
  obtain ⟨L, es', hL, rfl, hw, hmr⟩ := map_real hR hs hm
  cases hfk : lfindKey P false kt k es with
  | none => simp [hfk] at h
  | some rr =>
    simp only [hfk] at h
    obtain ⟨hf, hcheck, d, hd, hfn⟩ := lfindKey_inv hfk
    rw [ren_flat ρ hf] at hk
    simp at hk
    subst hk
    obtain ⟨r', h1, h2⟩ := findNow_ren hmr hfn
    have hrun := run_findKey (P := P) hd h1 w
    rcases h2 with ⟨rfl, rfl⟩ | ⟨n, u, u', rfl, rfl, _, _⟩
    · simp only [Option.some.injEq] at h
      subst h
      obtain ⟨hR', hE⟩ := hR.setMap (es2 := es ++ [{ key := k, val := v, born := clock }]) (es2' := es'.push { key := k, val := v', born := clock }) (k2 := clock + 1) hs hL (by
        rw [Array.toList_push]; exact hmr.append (MapR.one ⟨ren_flat ρ hf, hv, rfl⟩))
      exact ⟨_, by simp only [Instr.mapUpdate, Sem.run_bind, run_underlying hu, Result.andThen_ok, run_getObj_map hw, hcheck w, hrun, run_setObj_map hw], hR', hE⟩
    · simp only at h
      cases he : es[n]? with
      | none => simp [he] at h
      | some x =>
        simp only [he] at h
        split at h
        · rename_i hb
          simp only [Option.some.injEq] at h
          subst h
          obtain ⟨y, hy, hxy⟩ := hmr.at_ n x he
          have hy' : es'[n]? = some y := by simpa using hy
          obtain ⟨e0, he0, hsame⟩ : ∃ e, es[n]? = some e ∧ Instr.sameNow d k e.key = some true := by
            rename_i hx
            obtain ⟨_, _, e1, he1, hs1⟩ := hx
            exact ⟨e1, by simpa using he1, hs1⟩
          rw [he] at he0
          simp at he0
          subst he0
          have hkey : y.key = x.key := sameNow_flat hsame hxy.key
          have hstay : (Instr.keyThatStays (((es'[n]?).map (·.key)).getD k) k).run P w = .ok k w := by
            simp [Instr.keyThatStays, hy', hkey, hb]
          obtain ⟨hR', hE⟩ := hR.setMap (es2 := es.set n { x with key := k, val := v }) (es2' := es'.modify n fun e => { e with key := k, val := v' }) (k2 := clock) hs hL (by
            rw [modify_set es' n _ y hy']; exact hmr.set (e := { x with key := k, val := v }) (e' := { y with key := k, val := v' }) ⟨ren_flat ρ hf, hv, hxy.born⟩ n)
          exact ⟨_, by simp only [Instr.mapUpdate, Sem.run_bind, run_underlying hu, Result.andThen_ok, run_getObj_map hw, hcheck w, hrun, hstay, run_setObj_map hw], hR', hE⟩
        · simp at h

def ldelete (P : Program) (σ : LState) (argTypes : Array TypeId) (m k : Value) : Option (Value × LState) :=
  match argTypes[0]? with
  | none => none
  | some t => match P.underlying t, m with
    | some (.map kt _), .map (some r) => match σ[r]? with
      | some (.map es clock) => match lfindKey P es.isEmpty kt k es with
        | some (some (i, _)) => some (.tuple #[], σ.set r (.map (es.eraseIdx i) clock))
        | some none => some (.tuple #[], σ.set r (.map es clock))
        | none => none
      | _ => none
    | _, _ => none

theorem ldelete_does {P : Program} {σ σ' : LState} {ρ : List Loc} {w : World} (hR : Rel P σ ρ w) {argTypes : Array TypeId} {ty : TypeId} {m m' k k' v : Value} (hm : ren ρ m = some m') (hk : ren ρ k = some k') (h : ldelete P σ argTypes m k = some (v, σ')) :
    Does P σ ρ w (Builtin.delete_ argTypes ty #[m', k']) v σ' := by
  unfold ldelete at h
  cases ha : argTypes[0]? with
  | none => simp [ha] at h
  | some t =>
    simp only [ha] at h
    split at h
    case h_2 => simp at h
    rename_i kt e r hu
    split at h
    case h_2 => simp at h
    rename_i es clock hs
    obtain ⟨L, es', hL, rfl, hw, hmr⟩ := map_real hR hs hm
    have hempty : es'.isEmpty = es.isEmpty := hmr.empty
    cases hfk : lfindKey P es.isEmpty kt k es with
    | none => simp [hfk] at h
    | some rr =>
      simp only [hfk] at h
      obtain ⟨hf, hcheck, d, hd, hfn⟩ := lfindKey_inv hfk
      rw [ren_flat ρ hf] at hk
      simp at hk
      subst hk
      obtain ⟨r', h1, h2⟩ := findNow_ren hmr hfn
      have hrun := run_findKey (P := P) hd h1 w
      have hcheck' : (Instr.checkKey es'.isEmpty 10000 kt k).run P w = .ok () w := by rw [hempty]; exact hcheck w
      rcases h2 with ⟨rfl, rfl⟩ | ⟨n, u, u', rfl, rfl, _⟩
      · simp only [Option.some.injEq, Prod.mk.injEq] at h
        obtain ⟨rfl, rfl⟩ := h
        obtain ⟨hR', hE⟩ := hR.setMap (es2 := es) (es2' := es') (k2 := clock) hs hL hmr
        exact ⟨.tuple #[], _, ρ, by simp only [Builtin.delete_, ha, List.getElem?_toArray, List.getElem?_cons_zero, List.getElem?_cons_succ, Sem.run_bind, run_underlying hu, Result.andThen_ok, run_getObj_map hw, hcheck', hrun, run_setObj_map hw, Sem.run_pure], by simp [ren, renA, renL], hR', hE⟩
      · simp only [Option.some.injEq, Prod.mk.injEq] at h
        obtain ⟨rfl, rfl⟩ := h
        obtain ⟨hR', hE⟩ := hR.setMap (es2 := es.eraseIdx n) (es2' := es'.eraseIdxIfInBounds n) (k2 := clock) hs hL (by
          have := hmr.erase n
          simpa [Array.toList_eraseIdxIfInBounds] using this)
        exact ⟨.tuple #[], _, ρ, by simp only [Builtin.delete_, ha, List.getElem?_toArray, List.getElem?_cons_zero, List.getElem?_cons_succ, Sem.run_bind, run_underlying hu, Result.andThen_ok, run_getObj_map hw, hcheck', hrun, run_setObj_map hw, Sem.run_pure], by simp [ren, renA, renL], hR', hE⟩

end Go.Lg
end

section
namespace Go.Lg
open Go

def leq (P : Program) (t : TypeId) (x y : Value) : Option Bool :=
  match P.underlying t, x, y with
  | some (.pointer _), .pointer none, .pointer b => some b.isNone
  | some (.pointer _), .pointer (some _), .pointer none => some false
  | some (.pointer e), .pointer (some a), .pointer (some b) => match lsize P e, a.spot, b.spot with
    | some n, none, none => if n ≠ 0 ∧ a.block = b.block then some (a.off == b.off) else none
    | _, _, _ => none
  | some (.slice _), .slice none _ _, .slice b _ _ => some b.isNone
  | some (.slice _), .slice (some _) _ _, .slice none _ _ => some false
  | some (.map _ _), .map none, .map b => some b.isNone
  | some (.map _ _), .map (some _), .map none => some false
  | some (.func _ _ _), .nilFunc, .nilFunc => some true
  | some (.func _ _ _), .nilFunc, .func _ _ _ => some false
  | some (.func _ _ _), .func _ _ _, .nilFunc => some false
  | some (.interface _), .nilIface, .iface _ _ => some false
  | some (.interface _), .iface _ _, .nilIface => some false
  | _, _, _ => none

theorem ren_ptr_shape {ρ : List Loc} {a : Option Addr} {x' : Value} (h : ren ρ (.pointer a) = some x') : ∃ a', x' = .pointer a' ∧ a'.isNone = a.isNone := by
  cases a with
  | none => simp [ren] at h; exact ⟨none, h.symm, rfl⟩
  | some a => obtain ⟨L, _, _, rfl⟩ := ren_pointer h; exact ⟨_, rfl, rfl⟩
theorem ren_slice_shape {ρ : List Loc} {a : Option Addr} {n c : Nat} {x' : Value} (h : ren ρ (.slice a n c) = some x') : ∃ a' c', x' = .slice a' n c' ∧ a'.isNone = a.isNone := by
  cases a with
  | none => simp [ren] at h; exact ⟨none, c, h.symm, rfl⟩
  | some a => obtain ⟨L, _, _, rfl⟩ := ren_slice h; exact ⟨_, _, rfl, rfl⟩
theorem ren_map_shape {ρ : List Loc} {a : Option Nat} {x' : Value} (h : ren ρ (.map a) = some x') : ∃ a', x' = .map a' ∧ a'.isNone = a.isNone := by
  cases a with
  | none => simp [ren] at h; exact ⟨none, h.symm, rfl⟩
  | some a =>
    simp only [ren] at h
    cases hL : ρ[a]? with
    | none => simp [hL] at h
    | some L => simp only [hL, Option.some.injEq] at h; exact ⟨_, h.symm, rfl⟩
theorem ren_func_shape {ρ : List Loc} {f : Fn} {a b : Array Value} {x' : Value} (h : ren ρ (.func f a b) = some x') : ∃ f' a' b', renFn ρ f = some f' ∧ renA ρ a = some a' ∧ renA ρ b = some b' ∧ x' = .func f' a' b' := by
  simp only [ren] at h
  cases hf : renFn ρ f with
  | none => simp [hf] at h
  | some f' =>
    cases ha : renA ρ a with
    | none => simp [hf, ha] at h
    | some a' =>
      cases hb : renA ρ b with
      | none => simp [hf, ha, hb] at h
      | some b' => simp only [hf, ha, hb, Option.some.injEq] at h; exact ⟨_, _, _, rfl, rfl, rfl, h.symm⟩

theorem isNone_iff {α β : Type} {a : Option α} {b : Option β} (h : a.isNone = b.isNone) : (a = none ↔ b = none) := by
  cases a <;> cases b <;> simp_all

theorem leq_run {P : Program} {ρ : List Loc} {w : World} {t : TypeId} {x y x' y' : Value} {b : Bool} (hx : ren ρ x = some x') (hy : ren ρ y = some y') (h : leq P t x y = some b) :
    ∀ d, (Op.equalIn (d + 1) t x' y').run P w = .ok b w := by
  intro d
  unfold leq at h
  split at h
  · rename_i e c hu
    simp at h
    obtain ⟨a', rfl, h1⟩ := ren_ptr_shape hy
    simp [ren] at hx
    subst hx
    subst h
    simp [Op.equalIn, run_underlying hu, h1]
  · rename_i e a hu
    simp at h
    subst h
    obtain ⟨L, _, _, rfl⟩ := ren_pointer hx
    simp [ren] at hy
    subst hy
    simp [Op.equalIn, run_underlying hu]
  · rename_i e a c hu
    split at h
    · rename_i n hn ha hc
      split at h
      · rename_i hcond
        simp at h
        obtain ⟨L, hs1, hL, rfl⟩ := ren_pointer hx
        obtain ⟨M, hs2, hM, rfl⟩ := ren_pointer hy
        rw [hcond.2, hM] at hL
        simp at hL
        subst hL
        subst h
        have e1 : ((⟨M.block, M.off + a.off, none⟩ : Addr) == ⟨M.block, M.off + c.off, none⟩) = (a.off == c.off) := by
          rw [Bool.eq_iff_iff]; simp
        simp [Op.equalIn, run_underlying hu, run_sizeOf hn, hcond.1, sameAddr, e1]
      · simp at h
    · simp at h
  · rename_i e n c b2 n2 c2 hu
    simp at h
    obtain ⟨a', c', rfl, h1⟩ := ren_slice_shape hy
    simp [ren] at hx
    subst hx
    subst h
    simp [Op.equalIn, run_underlying hu, h1]
  · rename_i e a n c n2 c2 hu
    simp at h
    subst h
    obtain ⟨L, _, _, rfl⟩ := ren_slice hx
    simp [ren] at hy
    subst hy
    simp [Op.equalIn, run_underlying hu]
  · rename_i k e b2 hu
    simp at h
    obtain ⟨a', rfl, h1⟩ := ren_map_shape hy
    simp [ren] at hx
    subst hx
    subst h
    simp [Op.equalIn, run_underlying hu, h1]
  · rename_i k e a hu
    simp at h
    subst h
    obtain ⟨a', rfl, h1⟩ := ren_map_shape hx
    simp [ren] at hy
    subst hy
    cases a' with
    | none => simp at h1
    | some a' => simp [Op.equalIn, run_underlying hu]
  · rename_i p q r hu
    simp at h
    subst h
    simp [ren] at hx hy
    subst hx
    subst hy
    simp [Op.equalIn, run_underlying hu]
  · rename_i p q r f a c hu
    simp at h
    subst h
    obtain ⟨f', a', b', _, _, _, rfl⟩ := ren_func_shape hy
    simp [ren] at hx
    subst hx
    simp [Op.equalIn, run_underlying hu]
  · rename_i p q r f a c hu
    simp at h
    subst h
    obtain ⟨f', a', b', _, _, _, rfl⟩ := ren_func_shape hx
    simp [ren] at hy
    subst hy
    simp [Op.equalIn, run_underlying hu]
  · rename_i ms u z hu
    simp at h
    subst h
    obtain ⟨z', _, rfl⟩ := ren_iface hy
    simp [ren] at hx
    subst hx
    simp [Op.equalIn, run_underlying hu]
  · rename_i ms u z hu
    simp at h
    subst h
    obtain ⟨z', _, rfl⟩ := ren_iface hx
    simp [ren] at hy
    subst hy
    simp [Op.equalIn, run_underlying hu]
  · simp at h

def leqOp (P : Program) (op : BinOp) (t : TypeId) (x y : Value) : Option Value :=
  match op with
  | .eql => (leq P t x y).map fun b => .bool b
  | .neq => (leq P t x y).map fun b => .bool (!b)
  | _ => none

theorem leq_kind {P : Program} {t : TypeId} {x y : Value} {b : Bool} (h : leq P t x y = some b) :
    (∃ a c, x = .pointer a ∧ y = .pointer c) ∨ (∃ a n c a2 n2 c2, x = .slice a n c ∧ y = .slice a2 n2 c2) ∨ (∃ a c, x = .map a ∧ y = .map c) ∨
    ((x = .nilFunc ∨ ∃ f a c, x = .func f a c) ∧ (y = .nilFunc ∨ ∃ f a c, y = .func f a c)) ∨ (x = .nilIface ∧ ∃ u z, y = .iface u z) ∨ ((∃ u z, x = .iface u z) ∧ y = .nilIface) := by
  unfold leq at h
  split at h <;> simp_all

theorem leqOp_run {P : Program} {ρ : List Loc} {w : World} {op : BinOp} {t : TypeId} {ox oy : Operand} {x y x' y' v : Value} (hx : ren ρ x = some x') (hy : ren ρ y = some y') (h : leqOp P op t x y = some v) :
    (do eqGuard op t ox oy x' y'; binOp op t x' y' : Sem Value).run P w = .ok v w ∧ flat v = true := by
  have key : ∀ b, leq P t x y = some b → (eqGuard op t ox oy x' y' = pure ()) ∧ (Op.equal t x' y').run P w = .ok b w ∧
      (binOp .eql t x' y' = (do pure (.bool (← Op.equal t x' y')) : Sem Value)) ∧ (binOp .neq t x' y' = (do pure (.bool (!(← Op.equal t x' y'))) : Sem Value)) := by
    intro b hb
    have h1 : (Op.equal t x' y').run P w = .ok b w := leq_run hx hy hb 9999
    rcases leq_kind hb with ⟨a, c, rfl, rfl⟩ | ⟨a, n, c, a2, n2, c2, rfl, rfl⟩ | ⟨a, c, rfl, rfl⟩ | ⟨hf, hg⟩ | ⟨rfl, u, z, rfl⟩ | ⟨⟨u, z, rfl⟩, rfl⟩
    · obtain ⟨a', rfl, _⟩ := ren_ptr_shape hx
      obtain ⟨c', rfl, _⟩ := ren_ptr_shape hy
      exact ⟨by cases op <;> rfl, h1, by simp [binOp], by simp [binOp]⟩
    · obtain ⟨a', d', rfl, _⟩ := ren_slice_shape hx
      obtain ⟨c', e', rfl, _⟩ := ren_slice_shape hy
      exact ⟨by cases op <;> rfl, h1, by simp [binOp], by simp [binOp]⟩
    · obtain ⟨a', rfl, _⟩ := ren_map_shape hx
      obtain ⟨c', rfl, _⟩ := ren_map_shape hy
      exact ⟨by cases op <;> rfl, h1, by simp [binOp], by simp [binOp]⟩
    · have e1 : x' = .nilFunc ∨ ∃ f a c, x' = .func f a c := by
        rcases hf with rfl | ⟨f, a, c, rfl⟩
        · simp [ren] at hx; exact .inl hx.symm
        · obtain ⟨f', a', b', _, _, _, rfl⟩ := ren_func_shape hx; exact .inr ⟨_, _, _, rfl⟩
      have e2 : y' = .nilFunc ∨ ∃ f a c, y' = .func f a c := by
        rcases hg with rfl | ⟨f, a, c, rfl⟩
        · simp [ren] at hy; exact .inl hy.symm
        · obtain ⟨f', a', b', _, _, _, rfl⟩ := ren_func_shape hy; exact .inr ⟨_, _, _, rfl⟩
      rcases e1 with rfl | ⟨f, a, c, rfl⟩ <;> rcases e2 with rfl | ⟨g, a2, c2, rfl⟩ <;> exact ⟨by cases op <;> rfl, h1, by simp [binOp], by simp [binOp]⟩
    · obtain ⟨z', _, rfl⟩ := ren_iface hy
      simp [ren] at hx
      subst hx
      exact ⟨by cases op <;> rfl, h1, by simp [binOp], by simp [binOp]⟩
    · obtain ⟨z', _, rfl⟩ := ren_iface hx
      simp [ren] at hy
      subst hy
      exact ⟨by cases op <;> rfl, h1, by simp [binOp], by simp [binOp]⟩
  cases op with
  | eql =>
    simp only [leqOp] at h
    cases hb : leq P t x y with
    | none => simp [hb] at h
    | some b =>
      simp [hb] at h
      subst h
      obtain ⟨h1, h2, h3, _⟩ := key b hb
      exact ⟨by rw [h1, h3]; simp [h2], rfl⟩
  | neq =>
    simp only [leqOp] at h
    cases hb : leq P t x y with
    | none => simp [hb] at h
    | some b =>
      simp [hb] at h
      subst h
      obtain ⟨h1, h2, _, h4⟩ := key b hb
      exact ⟨by rw [h1, h4]; simp [h2], rfl⟩
  | _ => simp [leqOp] at h

/- ---- cap -/

def lcap (P : Program) (argTypes : Array TypeId) (x : Value) : Option Value :=
  match argTypes[0]? with
  | none => none
  | some t => match P.underlying t, x with
    | some (.slice _), .slice _ _ c => if c < big then some (.int .i64 c) else none
    | _, _ => none

theorem lcap_does {P : Program} {σ : LState} {ρ : List Loc} {w : World} (hR : Rel P σ ρ w) {argTypes : Array TypeId} {ty : TypeId} {x x' v : Value} (hx : ren ρ x = some x') (h : lcap P argTypes x = some v) :
    DoesQ P ρ w (Builtin.cap_ argTypes ty #[x']) v := by
  unfold lcap at h
  cases ha : argTypes[0]? with
  | none => simp [ha] at h
  | some t =>
    simp only [ha] at h
    split at h
    · rename_i e a n c hu
      split at h
      · rename_i hc
        simp at h
        subst h
        refine DoesQ.same hR (v' := .int .i64 c) ?_ (by simp [ren])
        have : ∃ a', x' = .slice a' n c := by
          cases a with
          | none => simp [ren] at hx; exact ⟨_, hx.symm⟩
          | some a => obtain ⟨L, _, _, rfl⟩ := ren_slice hx; exact ⟨_, by rw [Loc.cap_small _ hc]⟩
        obtain ⟨a', rfl⟩ := this
        simp [Builtin.cap_, ha, run_underlying hu, goInt]
      · simp at h
    · simp at h

/- ---- *T to unsafe.Pointer, and back -/

def lunsafe (P : Program) (σ : LState) (src dst : TypeId) (x : Value) : Option Value :=
  match P.underlying src, P.underlying dst, x with
  | some (.pointer t), some .unsafePointer, .pointer (some a) => match lsize P t, σ[a.block]? with
    | some n, some (.cells c _ _ _) => if n ≠ 0 ∧ a.off < c.length then some x else none
    | _, _ => none
  | some .unsafePointer, some (.pointer u), .pointer (some a) => match lsize P u, σ[a.block]? with
    | some n, some (.cells c e _ _) => if n ≠ 0 ∧ e = u ∧ a.off + n ≤ c.length ∧ a.off % n = 0 ∧ sameLayout P P.depth u u = true then some x else none
    | _, _ => none
  | _, _, _ => none

theorem shape_of {w : World} {b : Nat} {rc : Array Value} {e : TypeId} {fr : Nat × Nat} (h : w.heap[b]? = some (.cells rc e fr)) : w.shape? b = some (e, rc.size) := by simp [World.shape?, h]

theorem lunsafe_does {P : Program} {σ : LState} {ρ : List Loc} {w : World} (hR : Rel P σ ρ w) {src dst : TypeId} {x x' v : Value} (hx : ren ρ x = some x') (h : lunsafe P σ src dst x = some v) :
    DoesQ P ρ w (convert src dst x') v := by
  unfold lunsafe at h
  split at h
  · rename_i t a hs hd
    split at h
    · rename_i n c e ro k hn ho
      split at h
      · rename_i hc
        simp at h
        subst h
        obtain ⟨L, hsp, hL, rfl⟩ := ren_pointer hx
        obtain ⟨rc, fr, hh, hsz, _, _⟩ := hR.obj _ _ L ho hL
        unfold lsize at hn
        cases hi : P.info? t with
        | none => simp [hi] at hn
        | some j =>
          simp [hi] at hn
          exact DoesQ.same hR (Lib.run_to_unsafe (P := P) w ⟨L.block, L.off + a.off, none⟩ hs hd hi (by rw [hn]; exact hc.1) (shape_of hh) (by simp only; omega)) hx
      · simp at h
    · simp at h
  · rename_i u a hs hd
    split at h
    · rename_i n c e ro k hn ho
      split at h
      · rename_i hc
        simp at h
        subst h
        obtain ⟨L, hsp, hL, rfl⟩ := ren_pointer hx
        obtain ⟨rc, fr, hh, hsz, _, _⟩ := hR.obj _ _ L ho hL
        have hal := hR.al _ _ _ _ _ L ho hL
        obtain ⟨hn0, rfl, hle, hmod, hsl⟩ := hc
        have hco : P.cellsOf e = n := cellsOf_lsize hn
        rw [hco] at hal
        have hdepth : P.depth = 2 * (P.types.size + Made.depth) + 1 + 1 := rfl
        have hr : (L.off + a.off) % n = 0 := by rw [Nat.add_mod, hal, hmod]; simp
        have hq : n * ((L.off + a.off) / n) = L.off + a.off := by have := Nat.div_add_mod (L.off + a.off) n; rw [hr] at this; omega
        have hle2 : (L.off + a.off) / n + 1 ≤ rc.size / n := by
          rw [Nat.le_div_iff_mul_le (by omega), Nat.add_mul, Nat.one_mul, Nat.mul_comm, hq]; omega
        have hrow : rowAt P (sameLayout P P.depth · e) P.depth e (rc.size / n) (L.off + a.off) 1 = true := by
          rw [hdepth, rowAt]
          simp only [hco, hn0, if_false, hr, hdepth] at hsl ⊢
          simp [hle2, hsl]
        have hlies : liesAt P P.depth e (rc.size / P.cellsOf e) (L.off + a.off) e 1 = true := by
          rw [hco, hdepth, liesAt]; simp only [← hdepth] at *; simp [hrow]
        unfold lsize at hn
        cases hi : P.info? e with
        | none => simp [hi] at hn
        | some j => exact DoesQ.same hR (Lib.run_from_unsafe (P := P) w ⟨L.block, L.off + a.off, none⟩ hs hd hi (shape_of hh) hlies) hx
      · simp at h
    · simp at h
  · simp at h

end Go.Lg
end

section
namespace Go.Lg
open Go

def lsliceData (x : Value) : Option Value :=
  match x with
  | .slice none _ _ => some (.pointer none)
  | .slice (some a) _ c => if baseCap c ≠ 0 then some (.pointer (some a)) else none
  | _ => none

theorem lsliceData_does {P : Program} {σ : LState} {ρ : List Loc} {w : World} (hR : Rel P σ ρ w) {argTypes : Array TypeId} {ty : TypeId} {x x' v : Value} (hx : ren ρ x = some x') (h : lsliceData x = some v) :
    DoesQ P ρ w (Builtin.unsafeSliceData_ argTypes ty #[x']) v := by
  cases x with
  | slice a n c =>
    cases a with
    | none =>
      simp [lsliceData] at h
      subst h
      simp [ren] at hx
      subst hx
      exact DoesQ.same hR (v' := .pointer none) rfl (by simp [ren])
    | some a =>
      simp only [lsliceData] at h
      split at h
      · rename_i hc
        simp at h
        subst h
        obtain ⟨L, hs, hL, rfl⟩ := ren_slice hx
        have := L.cap_base c
        have hne : ¬ L.cap c = 0 := by omega
        exact DoesQ.same hR (v' := .pointer (some ⟨L.block, L.off + a.off, none⟩)) (by change (if L.cap c ≠ 0 then (pure (.pointer (some ⟨L.block, L.off + a.off, none⟩)) : Sem Value) else _).run P w = _; rw [if_pos hne]; rfl) (ren_pointer_mk hs hL)
      · simp at h
  | _ => simp [lsliceData] at h

theorem run_loadBytes {P : Program} (w : World) (b : Nat) : ∀ (ns : List Int) (base : Nat) (acc : ByteArray), (∀ (j : Nat) (v : Value), (ns.map (Value.int .u8))[j]? = some v → w.cell? ⟨b, base + j, none⟩ = some v) →
    (loadBytes ⟨b, base, none⟩ acc ns.length).run P w = .ok ⟨acc.data ++ (ns.map fun n => UInt8.ofNat n.toNat).toArray⟩ w
  | [], base, acc, _ => by simp [loadBytes]
  | n :: ns, base, acc, h => by
    have h0 := h 0 (.int .u8 n) (by simp)
    have ih := run_loadBytes (P := P) w b ns (base + 1) (acc.push n.toNat.toUInt8) (fun j v hj => by
      have := h (j + 1) v (by simpa using hj)
      rwa [show base + 1 + j = base + (j + 1) by omega])
    simp only [Nat.add_zero] at h0
    simp only [List.length_cons, loadBytes, Sem.run_bind, run_load, h0, Result.andThen_ok, add_none, ih]
    congr 2
    simp [ByteArray.push]

theorem Rel.freeze {P : Program} {σ : LState} {ρ : List Loc} {w : World} (h : Rel P σ ρ w) {i : Nat} {c : List Value} {e : TypeId} {kin : Option Nat} {L : Loc} (hi : σ[i]? = some (.cells c e false kin)) (hL : ρ[i]? = some L) (hkin : kin ≠ some i) (o n : Nat) :
    Rel P (kill kin (σ.set i (.cells c e true none))) ρ (w.freeze ⟨L.block, o, none⟩ n) ∧ Ext σ ρ w (kill kin (σ.set i (.cells c e true none))) ρ (w.freeze ⟨L.block, o, none⟩ n) := by
  obtain ⟨h1, hE1, hself, alone⟩ := h.isolate hi hL hkin none
  have hil := get_lt hi
  have e2 : kill kin (σ.set i (.cells c e true none)) = (kill kin (σ.set i (.cells c e false none))).set i (.cells c e true none) := by
    cases kin with
    | none => simp [kill, List.set_set]
    | some j =>
      have hne : i ≠ j := fun x => hkin (by rw [x])
      simp only [kill]
      symm
      rw [List.set_comm _ _ (fun x => hne x.symm), List.set_set]
  rw [e2]
  generalize hτ : kill kin (σ.set i (.cells c e false none)) = τ at h1 hE1 hself alone
  obtain ⟨rc, fr, hc, hs, hv, hf⟩ := h1.obj i _ L hself hL
  have hil2 : i < τ.length := get_lt hself
  have hblk : ∃ fr', (w.freeze ⟨L.block, o, none⟩ n).heap[L.block]? = some (.cells rc e fr') := by
    unfold World.freeze
    split
    · exact ⟨fr, hc⟩
    · obtain ⟨lo, hi2⟩ := fr
      exact ⟨_, by simp [Array.getElem?_modify, hc]; rfl⟩
  have hoth : ∀ b, b ≠ L.block → (w.freeze ⟨L.block, o, none⟩ n).heap[b]? = w.heap[b]? := by
    intro b hb
    unfold World.freeze
    split
    · rfl
    · simp only [Array.getElem?_modify]
      rw [if_neg (fun x => hb x.symm)]
  have hsize : (w.freeze ⟨L.block, o, none⟩ n).heap.size = w.heap.size := by unfold World.freeze; split <;> simp
  have htape : (w.freeze ⟨L.block, o, none⟩ n).tape = w.tape ∧ (w.freeze ⟨L.block, o, none⟩ n).os = w.os ∧ (w.freeze ⟨L.block, o, none⟩ n).output = w.output := by unfold World.freeze; split <;> exact ⟨rfl, rfl, rfl⟩
  have get : ∀ (j : Nat) (p : LObj), (τ.set i (.cells c e true none))[j]? = some p → (j = i ∧ p = .cells c e true none) ∨ (j ≠ i ∧ τ[j]? = some p) := by
    intro j p hp
    by_cases he : i = j
    · subst he; rw [List.getElem?_set_self hil2] at hp; simp at hp; exact .inl ⟨rfl, hp.symm⟩
    · rw [List.getElem?_set_ne he] at hp; exact .inr ⟨fun x => he x.symm, hp⟩
  refine ⟨⟨by simp [h1.len], h1.glob, fun j M hM => by rw [hsize]; exact h1.lt j M hM, ?_, ?_, ?_⟩, ?_⟩
  · intro j p M hp hM
    rcases get j p hp with ⟨rfl, rfl⟩ | ⟨hne, hp⟩
    · rw [hL] at hM
      simp at hM
      subst hM
      obtain ⟨fr', hb⟩ := hblk
      exact ⟨rc, fr', hb, hs, hv, fun x => by simp at x⟩
    · by_cases hd : p = .dead
      · subst hd; trivial
      · exact (h1.obj j p M hp hM).keep (List.prefix_refl _) (hoth _ (alone j p M hne hp hM hd))
  · intro j m p q M N hp hq hM hN hne hb
    rcases get j p hp with ⟨hj, hp1⟩ | ⟨hj, hp1⟩
    · rcases get m q hq with ⟨hm, hq1⟩ | ⟨hm, hq1⟩
      · exact absurd (hj.trans hm.symm) hne
      · rw [hj, hL] at hM
        simp at hM
        rw [← hM] at hb
        by_cases hd : q = .dead
        · subst hd; simp [Exempt, hp1]
        · exact absurd hb.symm (alone m q N hm hq1 hN hd)
    · rcases get m q hq with ⟨hm, hq1⟩ | ⟨hm, hq1⟩
      · rw [hm, hL] at hN
        simp at hN
        rw [← hN] at hb
        by_cases hd : p = .dead
        · subst hd; simp [Exempt]
        · exact absurd hb (alone j p M hj hp1 hM hd)
      · exact h1.sep j m p q M N hp1 hq1 hM hN hne hb
  · intro j c2 e3 ro k2 M hj hM
    rcases get j _ hj with ⟨hji, he⟩ | ⟨_, hp⟩
    · simp only [LObj.cells.injEq] at he
      rw [he.2.1]
      rw [hji] at hM
      exact h1.al i _ _ _ _ M hself hM
    · exact h1.al j _ _ _ _ M hp hM
  · refine hE1.trans ⟨List.prefix_refl _, by omega, ?_, ?_, htape.1, htape.2.1, htape.2.2, fun i L h _ => ⟨i, L, h, rfl⟩⟩
    · intro b _ ho
      exact hoth b fun hb => ho ⟨i, _, L, hself, hL, rfl, hb.symm⟩
    · rintro b _ ⟨j, p, M, hp, hM, hw, rfl⟩
      rcases get j p hp with ⟨_, rfl⟩ | ⟨_, hp⟩
      · simp [LObj.writable] at hw
      · exact ⟨j, p, M, hp, hM, hw, rfl⟩

def lunsafeString (P : Program) (σ : LState) (argTypes : Array TypeId) (p n : Value) : Option (Value × LState) :=
  match p, n with
  | .pointer none, .int _ 0 => some (.string .empty, σ)
  | .pointer (some a), .int .i64 k => if k = 0 then some (.string .empty, σ) else
    match a.spot, argTypes[0]?, σ[a.block]? with
    | none, some pt, some (.cells c e false kin) => match P.underlying pt, lsize P e, cellsAt σ a k.toNat with
      | some (.pointer e2), some 1, some l => if 0 < k ∧ k ≤ 9223372036854775807 ∧ e2 = e ∧ kin ≠ some a.block ∧ sameLayout P P.depth e e = true then match bytesOf l with
          | some b => some (.string ⟨b.toArray⟩, kill kin (σ.set a.block (.cells c e true none)))
          | none => none
        else none
      | _, _, _ => none
    | _, _, _ => none
  | _, _ => none

theorem lunsafeString_does {P : Program} {σ σ' : LState} {ρ : List Loc} {w : World} (hR : Rel P σ ρ w) {argTypes : Array TypeId} {ty : TypeId} {p p' n n' v : Value} (hpt : argTypes[0]?.isSome = true) (hp : ren ρ p = some p') (hn : ren ρ n = some n') (h : lunsafeString P σ argTypes p n = some (v, σ')) :
    Does P σ ρ w (Builtin.unsafeString_ argTypes ty #[p', n']) v σ' := by
  obtain ⟨pt0, hpt0⟩ := Option.isSome_iff_exists.1 hpt
  unfold lunsafeString at h
  split at h
  · simp at h
    obtain ⟨rfl, rfl⟩ := h
    simp [ren] at hp hn
    subst hp
    subst hn
    refine Does.same hR (v' := .string .empty) ?_ (by simp [ren])
    change (asInt (.int _ 0) >>= _ : Sem Value).run P w = _
    simp [asInt, asIntOf, hpt0]
  · rename_i a k
    simp [ren] at hn
    subst hn
    obtain ⟨L, hs, hL, rfl⟩ := ren_pointer hp
    split at h
    · rename_i hk
      simp at h
      obtain ⟨rfl, rfl⟩ := h
      subst hk
      refine Does.same hR (v' := .string .empty) ?_ (by simp [ren])
      change (asInt (.int .i64 0) >>= _ : Sem Value).run P w = _
      simp [asInt, asIntOf, hpt0]
    · rename_i hk
      split at h
      · rename_i pt c e kin _ hpt2 ho
        split at h
        · rename_i e2 l hu h1 hc
          split at h
          · rename_i hcond
            obtain ⟨hk0, hk63, rfl, hkin, hsl⟩ := hcond
            cases hb : bytesOf l with
            | none => simp [hb] at h
            | some b =>
              simp only [hb, Option.some.injEq, Prod.mk.injEq] at h
              obtain ⟨rfl, rfl⟩ := h
              obtain ⟨l', hl, hlen, _, hcell⟩ := cellsAt_real (P := P) hR hc hL
              have e1 := renL_bytes hb hl
              subst e1
              obtain ⟨ns, rfl, rfl⟩ := bytesOf_nums hb
              obtain ⟨rc, fr, hh, hsz, _, _⟩ := hR.obj _ _ L ho hL
              have hco : P.cellsOf e2 = 1 := cellsOf_lsize h1
              have hle : a.off + k.toNat ≤ c.length := by
                simp only [cellsAt, hs, ho] at hc
                split at hc
                · assumption
                · simp at hc
              have hdepth : P.depth = 2 * (P.types.size + Made.depth) + 1 + 1 := rfl
              have hrow : rowAt P (sameLayout P P.depth · e2) P.depth e2 rc.size (L.off + a.off) k.toNat = true := by
                rw [hdepth, rowAt]
                simp only [hco, Nat.one_ne_zero, if_false, Nat.div_one, Nat.mod_one, hdepth] at hsl ⊢
                simp [hsl]
                omega
              have hlies : liesAt P P.depth e2 (rc.size / P.cellsOf e2) (L.off + a.off) e2 k.toNat = true := by
                rw [hco, Nat.div_one, hdepth, liesAt]; simp only [← hdepth] at *; simp [hrow]
              obtain ⟨hR', hE⟩ := hR.freeze ho hL hkin (L.off + a.off) k.toNat
              have hbytes := run_loadBytes (P := P) w L.block ns (L.off + a.off) .empty hcell
              have hlen2 : ns.length = k.toNat := by simpa using hlen
              rw [hlen2] at hbytes
              refine ⟨.string ⟨(ns.map fun n => UInt8.ofNat n.toNat).toArray⟩, _, ρ, ?_, ?_, hR', hE⟩
              · have hn0 : ¬ k < 0 := by omega
                have hn1 : ¬ (9223372036854775807 < k) := by omega
                rw [hpt2] at hpt0
                simp at hpt0
                change (asInt (.int .i64 k) >>= _ : Sem Value).run P w = _
                simp [asInt, asIntOf, hpt2, hn0, hn1, hk, elemOf, run_underlying hu, variablesAt, shape_of hh, hlies, hbytes]
              · simp [ren]
          · simp at h
        · simp at h
      · simp at h
  · simp at h

end Go.Lg
end

section
namespace Go.Lg
open Go

/-- The world has grown, and what lay there lies there still. -/
theorem Rel.grown {P : Program} {σ : LState} {ρ : List Loc} {w w' : World} (h : Rel P σ ρ w) (hs : w.heap.size ≤ w'.heap.size) (hk : ∀ k, k < w.heap.size → w'.heap[k]? = w.heap[k]?) (ht : w'.tape = w.tape) (ho : w'.os = w.os) (hout : w'.output = w.output) :
    Rel P σ ρ w' ∧ Ext σ ρ w σ ρ w' :=
  ⟨⟨h.len, h.glob, fun i L hL => Nat.lt_of_lt_of_le (h.lt i L hL) hs, fun i o L hi hL => (h.obj i o L hi hL).keep (List.prefix_refl _) (hk _ (h.lt i L hL)), h.sep, h.al⟩,
   List.prefix_refl _, hs, fun b hb _ => hk b hb, fun _ _ x => x, ht, ho, hout, fun i L h _ => ⟨i, L, h, rfl⟩⟩

/-- .. and one new block has a name now. -/
theorem Rel.found {P : Program} {σ : LState} {ρ : List Loc} {w w' : World} (h : Rel P σ ρ w) (hs : w.heap.size ≤ w'.heap.size) (hk : ∀ k, k < w.heap.size → w'.heap[k]? = w.heap[k]?) (ht : w'.tape = w.tape) (hos : w'.os = w.os) (hout : w'.output = w.output)
    (o : LObj) (N : Loc) (h1 : w.heap.size ≤ N.block) (h2 : N.block < w'.heap.size) (h3 : N.off = 0) (ho : ObjRel P (ρ ++ [N]) w' N o) :
    Rel P (σ ++ [o]) (ρ ++ [N]) w' ∧ Ext σ ρ w (σ ++ [o]) (ρ ++ [N]) w' := by
  have cases_ : ∀ (i : Nat) (L : Loc), (ρ ++ [N])[i]? = some L → (ρ[i]? = some L ∧ i < ρ.length) ∨ (i = ρ.length ∧ L = N) := by
    intro i L hL
    rcases Nat.lt_or_ge i ρ.length with hi | hi
    · exact .inl ⟨by rwa [List.getElem?_append_left hi] at hL, hi⟩
    · rw [List.getElem?_append_right hi] at hL
      have h0 := get_lt hL
      simp at h0
      have : i = ρ.length := by omega
      subst this
      simp at hL
      exact .inr ⟨rfl, hL.symm⟩
  have oldo : ∀ (i : Nat) (p : LObj), (σ ++ [o])[i]? = some p → i < ρ.length → σ[i]? = some p := by
    intro i p hp hi
    rwa [List.getElem?_append_left (by rw [← h.len]; exact hi)] at hp
  refine ⟨⟨by simp [h.len], fun g hg => getElem?_prefix (List.prefix_append _ _) (h.glob g hg), ?_, ?_, ?_, fun i c e ro k L hi hL => by
    rcases cases_ i L hL with ⟨hL, hi2⟩ | ⟨_, rfl⟩
    · exact h.al i c e ro k L (oldo i _ hi hi2) hL
    · simp [h3]⟩, ?_⟩
  · intro i L hL
    rcases cases_ i L hL with ⟨hL, _⟩ | ⟨_, rfl⟩
    · have := h.lt i L hL; omega
    · exact h2
  · intro i p L hp hL
    rcases cases_ i L hL with ⟨hL, hi⟩ | ⟨rfl, rfl⟩
    · exact (h.obj i p L (oldo i p hp hi) hL).keep (List.prefix_append _ _) (hk _ (h.lt i L hL))
    · rw [h.len] at hp
      simp at hp
      subst hp
      exact ho
  · intro i j p q L M hp hq hL hM hne hb
    rcases cases_ i L hL with ⟨hL, hi⟩ | ⟨hi, rfl⟩ <;> rcases cases_ j M hM with ⟨hM, hj⟩ | ⟨hj, rfl⟩
    · exact h.sep i j p q L M (oldo i p hp hi) (oldo j q hq hj) hL hM hne hb
    · have := h.lt i L (by assumption); omega
    · have := h.lt j M (by assumption); omega
    · omega
  · refine ⟨List.prefix_append _ _, hs, fun b hb _ => hk b hb, ?_, ht, hos, hout, fun i L hL hb => by
      rcases cases_ i L hL with ⟨hL, _⟩ | ⟨_, rfl⟩
      · exact ⟨i, L, hL, rfl⟩
      · omega⟩
    rintro b hb ⟨i, p, L, hp, hL, hw, rfl⟩
    rcases cases_ i L hL with ⟨hL, hi⟩ | ⟨_, rfl⟩
    · exact ⟨i, p, L, oldo i p hp hi, hL, hw, rfl⟩
    · omega

/-- A new row that holds what is known, room behind it. -/
theorem ObjRel.row {P : Program} {ρ : List Loc} {w : World} {c c' : List Value} {e : TypeId} {N : Loc} {rc : Array Value} {fr : Nat × Nat} (hb : w.heap[N.block]? = some (.cells rc e fr)) (hoff : N.off = 0) (hc : renL ρ c = some c')
    (htake : rc.toList.take c'.length = c') (hs : c.length + N.slack * P.cellsOf e ≤ rc.size) (hfr : rc.size ≤ fr.1 ∨ fr.2 ≤ fr.1) (ro : Bool) (kin : Option Nat) : ObjRel P ρ w N (.cells c e ro kin) := by
  refine ⟨rc, fr, hb, by omega, fun k v hk => ?_, fun _ k hk => by omega⟩
  obtain ⟨v', h1, h2⟩ := renL_get hc hk
  refine ⟨v', ?_, h2⟩
  rw [hoff, Nat.zero_add, ← Array.getElem?_toList]
  rw [← htake, List.getElem?_take] at h1
  split at h1
  · exact h1
  · simp at h1

def lstrBytes (P : Program) (σ : LState) (src dst : TypeId) (x : Value) : Option (Value × LState) :=
  match P.underlying src, P.underlying dst, x with
  | some .string, some (.slice e), .string s => match P.underlying e, lsize P e with
    | some (.int .u8), some 1 => some (.slice (some ⟨σ.length, 0, none⟩) s.size (big + s.size), σ ++ [.cells (litBytes s) e false none])
    | _, _ => none
  | _, _, _ => none

theorem lstrBytes_does {P : Program} {σ σ' : LState} {ρ : List Loc} {w : World} (hR : Rel P σ ρ w) {src dst : TypeId} {x x' v : Value} (hx : ren ρ x = some x') (h : lstrBytes P σ src dst x = some (v, σ')) :
    Does P σ ρ w (convert src dst x') v σ' := by
  unfold lstrBytes at h
  split at h
  case h_2 => simp at h
  rename_i e s hs hd
  split at h
  case h_2 => simp at h
  rename_i he hn
  simp only [Option.some.injEq, Prod.mk.injEq] at h
  obtain ⟨rfl, rfl⟩ := h
  simp [ren] at hx
  subst hx
  let cap := freshCap w s.size 0 e
  have hcap : s.size ≤ cap := freshCap_le w s.size 0 e
  let rc : Array Value := (litBytes s).toArray ++ Array.replicate (cap - s.size) (.int .u8 0)
  have hlit : (litBytes s).length = s.size := by simp [litBytes]
  have hrc : rc.size = cap := by simp [rc, hlit]; omega
  let w1 := w.drew.alloc (.cells rc e)
  let w2 := w1.freeze ⟨w.heap.size, cap, none⟩ 1
  have hh : w1.heap[w.heap.size]? = some (.cells rc e (0, 0)) := heap_alloc_new w.drew _
  have hrun : (convert src dst (.string s)).run P w = .ok (.slice (some ⟨w.heap.size, 0, none⟩) s.size cap) w2 := by
    have e1 : (s.data.map fun b => Value.int .u8 b.toNat) = (litBytes s).toArray := by
      apply Array.ext'
      simp [litBytes]
    have hshape : w1.shape? w.heap.size = some (e, cap) := by simp [World.shape?, hh, hrc]
    simp only [convert, Sem.run_bind, run_underlying hs, run_underlying hd, run_underlying he, Result.andThen_ok, Conv.stringToBytes, run_choose, Question.forced, Bool.false_eq_true, if_false, e1, World.drew_eq, newRow, run_newObj, World.alloc_eq, Sem.run_pure, markStringish, World.size_drew]
    simp only [run_shape]
    have : (w.drew.alloc (.cells ((litBytes s).toArray ++ Array.replicate ((Question.appendCap s.size 0 e).cut (w.tape w.drawn (.appendCap s.size 0 e)) - s.size) (Value.int .u8 0)) e)) = w1 := rfl
    rw [this, hshape]
    simp only [Result.andThen_ok, run_freeze, Sem.run_pure]
    rfl
  have hold : ∀ k, k < w.heap.size → w2.heap[k]? = w.heap[k]? := by
    intro k hk
    have : w2.heap[k]? = w1.heap[k]? := by
      simp only [w2, World.freeze]
      simp only [Nat.one_ne_zero, if_false, Array.getElem?_modify]
      rw [if_neg (by omega)]
    rw [this]
    exact heap_alloc_old w.drew _ k hk
  have hnew : w2.heap[w.heap.size]? = some (.cells rc e (cap, cap + 1)) := by
    simp only [w2, World.freeze, Nat.one_ne_zero, if_false, Array.getElem?_modify, if_true, hh, Option.map_some]
    rfl
  have hsz : w2.heap.size = w.heap.size + 1 := by
    simp only [w2, World.freeze, Nat.one_ne_zero, if_false, Array.size_modify]
    simp [w1]
  have hco : P.cellsOf e = 1 := cellsOf_lsize hn
  obtain ⟨hR2, hE⟩ := hR.found (w' := w2) (by omega) hold rfl rfl rfl (.cells (litBytes s) e false none) ⟨w.heap.size, 0, cap - s.size⟩ (Nat.le_refl _) (by simp only; omega) rfl
    (ObjRel.row hnew rfl (renL_flat _ (litBytes_flat s)) (by simp [rc]) (by simp only [hco, hrc, hlit]; omega) (by simp only [hrc]; omega) false none)
  refine ⟨_, w2, _, hrun, ?_, hR2, hE⟩
  have hl : (ρ ++ [(⟨w.heap.size, 0, cap - s.size⟩ : Loc)])[σ.length]? = some ⟨w.heap.size, 0, cap - s.size⟩ := by
    rw [← hR.len]; simp
  have e3 : s.size + (cap - s.size) = cap := by omega
  simp only [ren, hl, cap_big, e3]

end Go.Lg
end
