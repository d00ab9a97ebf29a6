/- THE LOGICAL MACHINE, part 2: regions, code, bodies and calls to any depth, each shown to be what the model does; no condition. -/
import Derived.Laws.Strings
import Derived.Laws.Concat
import Derived.Laws.Slices
import Derived.Scope
import Derived.Defers
import Derived.Test.YtjehdoignaghlaaGreatDoorA
set_option linter.unusedVariables false
set_option linter.unusedSimpArgs false
set_option linter.unusedSectionVars false
set_option linter.unnecessarySimpa false

section
namespace Go.Lg
open Go

structure LAct where
  tmps : List Value
  defers : List (Value × List Value)

def DefR (ρ : List Loc) (x : Value × List Value) (d : Deferred) : Prop :=
  ∃ fn first captured args', ren ρ x.1 = some (.func fn first captured) ∧ renL ρ x.2 = some args' ∧ d = { target := .fn fn captured, args := first ++ args'.toArray }

def DefsR (ρ : List Loc) : List (Value × List Value) → List Deferred → Prop
  | [], [] => True
  | x :: l, d :: m => DefR ρ x d ∧ DefsR ρ l m
  | _, _ => False

structure ActR (ρ : List Loc) (la : LAct) (a : Act) : Prop where
  tmps : renL ρ la.tmps = some a.tmps.toList
  defs : DefsR ρ la.defers a.defers

theorem DefR.mono {ρ ρ' : List Loc} (h : ρ <+: ρ') {x : Value × List Value} {d : Deferred} (k : DefR ρ x d) : DefR ρ' x d := by
  obtain ⟨fn, first, captured, args', h1, h2, h3⟩ := k
  exact ⟨fn, first, captured, args', ren_mono h h1, renL_mono h h2, h3⟩
theorem DefsR.mono {ρ ρ' : List Loc} (h : ρ <+: ρ') : ∀ {l : List (Value × List Value)} {m : List Deferred}, DefsR ρ l m → DefsR ρ' l m
  | [], [], _ => trivial
  | _ :: _, _ :: _, k => ⟨k.1.mono h, DefsR.mono h k.2⟩
theorem ActR.mono {ρ ρ' : List Loc} (h : ρ <+: ρ') {la : LAct} {a : Act} (k : ActR ρ la a) : ActR ρ' la a := ⟨renL_mono h k.tmps, k.defs.mono h⟩

def LAct.put (la : LAct) (dst : Option Tmp) (v : Value) : LAct :=
  match dst with
  | some d => { la with tmps := la.tmps.set d v }
  | none => la

theorem ActR.put {ρ : List Loc} {la : LAct} {a : Act} (h : ActR ρ la a) (dst : Option Tmp) {v v' : Value} (hv : ren ρ v = some v') : ActR ρ (la.put dst v) (a.put dst v') := by
  cases dst with
  | none => exact h
  | some d => exact ⟨by simpa [LAct.put, Act.put] using renL_set d h.tmps hv, h.defs⟩

def leval (P : Program) (la : LAct) : Operand → Option Value
  | .tmp t => match la.tmps[t]? with
    | some v => some v
    | none => none
  | .const v => if flat v then some v else none
  | .global g => if g < P.globals.size then some (.pointer (some ⟨g, 0, none⟩)) else none
  | .func f => some (.func (.func f) #[] #[])

theorem leval_ren {P : Program} {σ : LState} {ρ : List Loc} {w : World} {la : LAct} {a : Act} (hR : Rel P σ ρ w) (hA : ActR ρ la a) {x : Operand} {v : Value} (h : leval P la x = some v) : ren ρ v = some (a.eval x) := by
  cases x with
  | tmp t =>
    simp only [leval] at h
    cases ht : la.tmps[t]? with
    | none => simp [ht] at h
    | some u =>
      simp [ht] at h
      subst h
      obtain ⟨v', h1, h2⟩ := renL_get hA.tmps ht
      have h1' : a.tmps[t]? = some v' := by simpa using h1
      simp [Act.eval, h1', h2]
  | const c =>
    simp only [leval] at h
    split at h
    · rename_i hf; simp at h; subst h; exact ren_flat ρ hf
    · simp at h
  | global g =>
    simp only [leval] at h
    split at h
    · rename_i hg
      simp at h
      subst h
      have := hR.glob g hg
      simp [ren, this, Act.eval]
    · simp at h
  | func f => simp [leval] at h; subst h; simp [ren, renFn, renA, renL, Act.eval]

def levals (P : Program) (la : LAct) : List Operand → Option (List Value)
  | [] => some []
  | x :: l => match leval P la x, levals P la l with
    | some v, some r => some (v :: r)
    | _, _ => none

theorem levals_ren {P : Program} {σ : LState} {ρ : List Loc} {w : World} {la : LAct} {a : Act} (hR : Rel P σ ρ w) (hA : ActR ρ la a) : ∀ {l : List Operand} {vs : List Value}, levals P la l = some vs → renL ρ vs = some (l.map a.eval)
  | [], vs, h => by simp [levals] at h; subst h; simp [renL]
  | x :: l, vs, h => by
    simp only [levals] at h
    cases hx : leval P la x with
    | none => simp [hx] at h
    | some v =>
      cases hl : levals P la l with
      | none => simp [hx, hl] at h
      | some r =>
        simp [hx, hl] at h
        subst h
        simp [renL, leval_ren hR hA hx, levals_ren hR hA hl]

def lparts (P : Program) (la : LAct) : List (Nat × Operand) → Option (List (Nat × Value))
  | [] => some []
  | (i, x) :: l => match leval P la x, lparts P la l with
    | some v, some r => some ((i, v) :: r)
    | _, _ => none

theorem lparts_ren {P : Program} {σ : LState} {ρ : List Loc} {w : World} {la : LAct} {a : Act} (hR : Rel P σ ρ w) (hA : ActR ρ la a) : ∀ {l : List (Nat × Operand)} {vs : List (Nat × Value)}, lparts P la l = some vs → PartsR ρ vs (l.map fun (i, x) => (i, a.eval x))
  | [], vs, h => by simp [lparts] at h; subst h; exact ⟨rfl, fun i x hx => by simp at hx⟩
  | (i, x) :: l, vs, h => by
    simp only [lparts] at h
    cases hx : leval P la x with
    | none => simp [hx] at h
    | some v =>
      cases hl : lparts P la l with
      | none => simp [hx, hl] at h
      | some r =>
        simp [hx, hl] at h
        subst h
        have ih := lparts_ren hR hA hl
        refine ⟨by have := ih.len; simpa using this, fun j y hy => ?_⟩
        cases j with
        | zero => simp at hy; subst hy; exact ⟨(i, a.eval x), by simp, rfl, leval_ren hR hA hx⟩
        | succ j => simpa using ih.at_ j y (by simpa using hy)

def levalO (P : Program) (la : LAct) : Option Operand → Option (Option Value)
  | none => some none
  | some x => match leval P la x with
    | some v => some (some v)
    | none => none

theorem levalO_ren {P : Program} {σ : LState} {ρ : List Loc} {w : World} {la : LAct} {a : Act} (hR : Rel P σ ρ w) (hA : ActR ρ la a) {x : Option Operand} {v : Option Value} (h : levalO P la x = some v) : optRen ρ v (x.map a.eval) := by
  cases x with
  | none => simp [levalO] at h; subst h; trivial
  | some x =>
    simp only [levalO] at h
    cases hx : leval P la x with
    | none => simp [hx] at h
    | some u => simp [hx] at h; subst h; exact leval_ren hR hA hx

/- ---- operations on values without an address -/

def notSelect : Op → Bool
  | .select _ _ => false
  | _ => true

def allFlat (P : Program) (la : LAct) : List Operand → Bool
  | [] => true
  | x :: l => (match leval P la x with | some v => flat v | none => false) && allFlat P la l

theorem allFlat_get {P : Program} {la : LAct} : ∀ {l : List Operand}, allFlat P la l = true → ∀ x ∈ l, ∃ v, leval P la x = some v ∧ flat v = true
  | [], _, _, hx => by simp at hx
  | y :: l, h, x, hx => by
    simp only [allFlat, Bool.and_eq_true] at h
    rcases List.mem_cons.1 hx with rfl | hx
    · have h1 := h.1
      cases hv : leval P la x with
      | none => simp [hv] at h1
      | some v => simp [hv] at h1; exact ⟨v, rfl, h1⟩
    · exact allFlat_get h.2 x hx

def levalD (P : Program) (la : LAct) (x : Operand) : Value := (leval P la x).getD undef

def lflat (P : Program) (la : LAct) (o : Oper) : Option Value :=
  if notSelect o.op && allFlat P la o.op.operands.toList then
    match pureRun P (execOp (levalD P la) o) with
    | some (.value v) => if flat v then some v else none
    | _ => none
  else none

theorem lflat_run {P : Program} {σ : LState} {ρ : List Loc} {w : World} {la : LAct} {a : Act} (hR : Rel P σ ρ w) (hA : ActR ρ la a) {o : Oper} {v : Value} (h : lflat P la o = some v) :
    (execOp a.eval o).run P w = .ok (.value v) w ∧ flat v = true := by
  unfold lflat at h
  split at h
  · rename_i hc
    simp only [Bool.and_eq_true] at hc
    have hsel : ∀ cs b, o.op ≠ .select cs b := by intro cs b hx; rw [hx] at hc; simp [notSelect] at hc
    have heq : execOp (levalD P la) o = execOp a.eval o := execOp_congr o hsel fun x hx => by
      obtain ⟨u, hu, hf⟩ := allFlat_get hc.2 x (by simpa using hx)
      have := leval_ren hR hA hu
      rw [ren_flat ρ hf] at this
      simp at this
      simp [levalD, hu, this]
    cases hp : pureRun P (execOp (levalD P la) o) with
    | none => simp [hp] at h
    | some n =>
      cases n with
      | value u =>
        simp only [hp] at h
        split at h
        · rename_i hf
          simp at h
          subst h
          rw [heq] at hp
          exact ⟨pureRun_sound hp w, hf⟩
        · simp at h
      | _ => simp [hp] at h
  · simp at h

/- ---- builtins -/

def lbuiltinQ (P : Program) (σ : LState) (b : Builtin) (argTypes : Array TypeId) (args : List Value) : Option Value :=
  match b, args with
  | .len, [x] => llen P σ argTypes x
  | .cap, [x] => lcap P argTypes x
  | .unsafeSliceData, [x] => lsliceData x
  | _, _ => none

def lbuiltinW (P : Program) (σ : LState) (b : Builtin) (argTypes : Array TypeId) (args : List Value) : Option (Value × LState) :=
  match b, args with
  | .append, [s, x] => lappend P σ argTypes s x
  | .copy, [d, x] => lcopy P σ argTypes d x
  | .clear, [x] => lclear P σ argTypes x
  | .delete, [m, k] => ldelete P σ argTypes m k
  | .unsafeString, [p, n] => if argTypes[0]?.isSome then lunsafeString P σ argTypes p n else none
  | _, _ => none

theorem renL_two {ρ : List Loc} {a b : Value} {l : List Value} (h : renL ρ [a, b] = some l) : ∃ a' b', l = [a', b'] ∧ ren ρ a = some a' ∧ ren ρ b = some b' := by
  simp only [renL] at h
  cases ha : ren ρ a with
  | none => simp [ha] at h
  | some a' =>
    cases hb : ren ρ b with
    | none => simp [ha, hb] at h
    | some b' => simp [ha, hb] at h; exact ⟨a', b', h.symm, rfl, rfl⟩
theorem renL_one {ρ : List Loc} {a : Value} {l : List Value} (h : renL ρ [a] = some l) : ∃ a', l = [a'] ∧ ren ρ a = some a' := by
  simp only [renL] at h
  cases ha : ren ρ a with
  | none => simp [ha] at h
  | some a' => simp [ha] at h; exact ⟨a', h.symm, rfl⟩

theorem lbuiltinQ_run {P : Program} {σ : LState} {ρ : List Loc} {w : World} (hR : Rel P σ ρ w) {b : Builtin} {argTypes : Array TypeId} {ty : TypeId} {args : List Value} {args' : Array Value} {v : Value} (ha : renL ρ args = some args'.toList)
    (h : lbuiltinQ P σ b argTypes args = some v) : ∃ v', (∀ consts : Array Bool, (builtin b argTypes ty consts args').run P w = .ok (.value v') w) ∧ ren ρ v = some v' := by
  have fin : ∀ {s : Sem Value}, DoesQ P ρ w s v → ∃ v', (∀ _ : Array Bool, (do pure (.value (← s)) : Sem Next).run P w = .ok (.value v') w) ∧ ren ρ v = some v' := by
    rintro s ⟨v', h1, h2⟩
    exact ⟨v', fun _ => by simp only [Sem.run_bind, h1, Result.andThen_ok, Sem.run_pure], h2⟩
  obtain ⟨l⟩ := args'
  unfold lbuiltinQ at h
  split at h
  · obtain ⟨x', hl, hx⟩ := renL_one ha
    simp only at hl
    subst hl
    exact fin (llen_does hR hx h)
  · obtain ⟨x', hl, hx⟩ := renL_one ha
    simp only at hl
    subst hl
    exact fin (lcap_does hR hx h)
  · obtain ⟨x', hl, hx⟩ := renL_one ha
    simp only at hl
    subst hl
    exact fin (lsliceData_does hR hx h)
  · simp at h

theorem lbuiltinW_run {P : Program} {σ σ' : LState} {ρ : List Loc} {w : World} (hR : Rel P σ ρ w) {b : Builtin} {argTypes : Array TypeId} {ty : TypeId} {args : List Value} {args' : Array Value} {v : Value} (ha : renL ρ args = some args'.toList)
    (h : lbuiltinW P σ b argTypes args = some (v, σ')) :
    ∃ v' w' ρ', (∀ consts : Array Bool, (builtin b argTypes ty consts args').run P w = .ok (.value v') w') ∧ ren ρ' v = some v' ∧ Rel P σ' ρ' w' ∧ Ext σ ρ w σ' ρ' w' := by
  have fin : ∀ {s : Sem Value}, Does P σ ρ w s v σ' → ∃ v' w' ρ', (∀ _ : Array Bool, (do pure (.value (← s)) : Sem Next).run P w = .ok (.value v') w') ∧ ren ρ' v = some v' ∧ Rel P σ' ρ' w' ∧ Ext σ ρ w σ' ρ' w' := by
    rintro s ⟨v', w', ρ', h1, h2, h3, h4⟩
    exact ⟨v', w', ρ', fun _ => by simp only [Sem.run_bind, h1, Result.andThen_ok, Sem.run_pure], h2, h3, h4⟩
  obtain ⟨l⟩ := args'
  unfold lbuiltinW at h
  split at h
  · obtain ⟨s', x', hl, hs, hx⟩ := renL_two ha
    simp only at hl
    subst hl
    exact fin (lappend_does hR hs hx h)
  · obtain ⟨s', x', hl, hs, hx⟩ := renL_two ha
    simp only at hl
    subst hl
    exact fin (lcopy_does hR hs hx h)
  · obtain ⟨x', hl, hx⟩ := renL_one ha
    simp only at hl
    subst hl
    exact fin (lclear_does hR hx h)
  · obtain ⟨s', x', hl, hs, hx⟩ := renL_two ha
    simp only at hl
    subst hl
    exact fin (ldelete_does hR hs hx h)
  · obtain ⟨s', x', hl, hs, hx⟩ := renL_two ha
    simp only at hl
    subst hl
    split at h
    · rename_i hsome; exact fin (lunsafeString_does hR hsome hs hx h)
    · simp at h
  · simp at h

end Go.Lg
end

section
namespace Go.Lg
open Go
set_option maxRecDepth 8000

/-- Below this a number of the kind stays as it is. -/
def lim : IntKind → Nat
  | .i8 => 128
  | .u8 => 256
  | .i16 => 32768
  | .u16 => 65536
  | .i32 => 2147483648
  | .u32 => 4294967296
  | .i64 => 9223372036854775808
  | .u64 => 18446744073709551616

def fwrap (k : IntKind) (n : Int) : Int :=
  match n with
  | .ofNat m => if Nat.blt m (lim k) then .ofNat m else k.wrap (.ofNat m)
  | .negSucc m => if k.signed && Nat.blt m (lim k) then .negSucc m else k.wrap (.negSucc m)

theorem wrap_of (k : IntKind) (n : Int) (h1 : if k.signed then -(lim k : Int) ≤ n else 0 ≤ n) (h2 : n < lim k) : k.wrap n = n := by
  unfold IntKind.wrap
  cases k
  · simp only [IntKind.signed, if_true, lim] at h1 h2
    show (if (true && decide (n % 256 ≥ 128)) = true then n % 256 - 256 else n % 256) = n
    simp only [Bool.true_and, decide_eq_true_eq]
    split <;> omega
  · simp only [IntKind.signed, if_true, lim] at h1 h2
    show (if (true && decide (n % 65536 ≥ 32768)) = true then n % 65536 - 65536 else n % 65536) = n
    simp only [Bool.true_and, decide_eq_true_eq]
    split <;> omega
  · simp only [IntKind.signed, if_true, lim] at h1 h2
    show (if (true && decide (n % 4294967296 ≥ 2147483648)) = true then n % 4294967296 - 4294967296 else n % 4294967296) = n
    simp only [Bool.true_and, decide_eq_true_eq]
    split <;> omega
  · simp only [IntKind.signed, if_true, lim] at h1 h2
    show (if (true && decide (n % 18446744073709551616 ≥ 9223372036854775808)) = true then n % 18446744073709551616 - 18446744073709551616 else n % 18446744073709551616) = n
    simp only [Bool.true_and, decide_eq_true_eq]
    split <;> omega
  · simp only [IntKind.signed, Bool.false_eq_true, if_false, lim] at h1 h2
    show (if (false && decide (n % 256 ≥ 128)) = true then n % 256 - 256 else n % 256) = n
    simp only [Bool.false_and, Bool.false_eq_true, if_false]
    omega
  · simp only [IntKind.signed, Bool.false_eq_true, if_false, lim] at h1 h2
    show (if (false && decide (n % 65536 ≥ 32768)) = true then n % 65536 - 65536 else n % 65536) = n
    simp only [Bool.false_and, Bool.false_eq_true, if_false]
    omega
  · simp only [IntKind.signed, Bool.false_eq_true, if_false, lim] at h1 h2
    show (if (false && decide (n % 4294967296 ≥ 2147483648)) = true then n % 4294967296 - 4294967296 else n % 4294967296) = n
    simp only [Bool.false_and, Bool.false_eq_true, if_false]
    omega
  · simp only [IntKind.signed, Bool.false_eq_true, if_false, lim] at h1 h2
    show (if (false && decide (n % 18446744073709551616 ≥ 9223372036854775808)) = true then n % 18446744073709551616 - 18446744073709551616 else n % 18446744073709551616) = n
    simp only [Bool.false_and, Bool.false_eq_true, if_false]
    omega

theorem wrap_ofNat {k : IntKind} {m : Nat} (h : m < lim k) : k.wrap (.ofNat m) = .ofNat m := by
  refine wrap_of k _ ?_ ?_
  · split <;> (show (_ : Int) ≤ (m : Int); omega)
  · show (m : Int) < _; omega

theorem wrap_negSucc {k : IntKind} {m : Nat} (hs : k.signed = true) (h : m < lim k) : k.wrap (.negSucc m) = .negSucc m := by
  have e : (Int.negSucc m) = -((m : Int) + 1) := Int.negSucc_eq m
  rw [e]
  refine wrap_of k _ ?_ ?_
  · rw [if_pos hs]; omega
  · omega

theorem fwrap_eq (k : IntKind) (n : Int) : fwrap k n = k.wrap n := by
  unfold fwrap
  split
  · split
    · rename_i h; rw [wrap_ofNat (by simpa using h)]
    · rfl
  · split
    · rename_i h
      simp only [Bool.and_eq_true] at h
      rw [wrap_negSucc h.1 (by simpa using h.2)]
    · rfl

def ieq (a b : Int) : Bool :=
  match a, b with
  | .ofNat m, .ofNat n => Nat.beq m n
  | .negSucc m, .negSucc n => Nat.beq m n
  | _, _ => false
def ilt (a b : Int) : Bool :=
  match a, b with
  | .ofNat m, .ofNat n => Nat.blt m n
  | .negSucc m, .negSucc n => Nat.blt n m
  | .negSucc _, .ofNat _ => true
  | _, _ => false

theorem ieq_eq (a b : Int) : ieq a b = (a == b) := by
  have : (a == b) = decide (a = b) := rfl
  rw [this]
  cases a <;> cases b <;> simp [ieq] <;> (try rfl) <;> exact Bool.eq_iff_iff.2 (by simp <;> omega)
theorem ilt_eq (a b : Int) : ilt a b = decide (a < b) := by
  cases a <;> cases b <;> (apply Bool.eq_iff_iff.2; simp [ilt, Nat.blt_eq]) <;> omega

def kindEq : IntKind → IntKind → Bool
  | .i8, .i8 => true
  | .u8, .u8 => true
  | .i16, .i16 => true
  | .u16, .u16 => true
  | .i32, .i32 => true
  | .u32, .u32 => true
  | .i64, .i64 => true
  | .u64, .u64 => true
  | _, _ => false
theorem kindEq_eq {k k' : IntKind} (h : kindEq k k' = true) : k = k' := by cases k <;> cases k' <;> simp_all [kindEq]

def fbits (k : IntKind) (f : Nat → Nat → Nat) (a b : Int) : Option Value :=
  match a, b with
  | .ofNat m, .ofNat n => if Nat.blt m (lim k) && Nat.blt n (lim k) then some (.int k (.ofNat (f m n))) else none
  | _, _ => none

def beqB : List UInt8 → List UInt8 → Bool
  | [], [] => true
  | x :: a, y :: b => Nat.beq x.toNat y.toNat && beqB a b
  | _, _ => false
theorem beqB_eq : ∀ (a b : List UInt8), beqB a b = (a == b)
  | [], [] => rfl
  | [], _ :: _ => rfl
  | _ :: _, [] => rfl
  | x :: a, y :: b => by
    have : Nat.beq x.toNat y.toNat = (x == y) := by
      apply Bool.eq_iff_iff.2
      simp [Nat.beq_eq, UInt8.toNat_inj]
    simp only [beqB, beqB_eq a b, this]
    rfl

def fastBin (op : BinOp) (x y : Value) : Option Value :=
  match x, y with
  | .int k a, .int k' b =>
    match op with
    | .shr => match a, b with
      | .ofNat m, .ofNat n => some (.int k (.ofNat (Nat.shiftRight m (min n k.bits))))
      | _, _ => none
    | .shl => match a, b with
      | .ofNat m, .ofNat n => if Nat.blt n k.bits then some (.int k (fwrap k (.ofNat (Nat.shiftLeft m n)))) else none
      | _, _ => none
    | .quo => none
    | .rem => none
    | .andNot => none
    | op => if kindEq k k' then match op with
      | .add => some (.int k (fwrap k (a + b)))
      | .sub => some (.int k (fwrap k (a - b)))
      | .mul => some (.int k (fwrap k (a * b)))
      | .and => fbits k Nat.land a b
      | .or => fbits k Nat.lor a b
      | .xor => fbits k Nat.xor a b
      | .eql => some (.bool (ieq a b))
      | .neq => some (.bool (!ieq a b))
      | .lss => some (.bool (ilt a b))
      | .leq => some (.bool (!ilt b a))
      | .gtr => some (.bool (ilt b a))
      | .geq => some (.bool (!ilt a b))
      | _ => none
      else none
  | .string s, .string t =>
    match op with
    | .add => if Nat.ble (s.data.toList.length + t.data.toList.length) 9223372036854775807 then some (.string ⟨(s.data.toList ++ t.data.toList).toArray⟩) else none
    | .eql => some (.bool (beqB s.data.toList t.data.toList))
    | .neq => some (.bool (!beqB s.data.toList t.data.toList))
    | _ => none
  | _, _ => none

theorem lim_bits (k : IntKind) : lim k ≤ 2 ^ k.bits := by cases k <;> decide
theorem two_lim (k : IntKind) : ∃ n, lim k = 2 ^ n := by
  cases k
  · exact ⟨7, rfl⟩
  · exact ⟨15, rfl⟩
  · exact ⟨31, rfl⟩
  · exact ⟨63, rfl⟩
  · exact ⟨8, rfl⟩
  · exact ⟨16, rfl⟩
  · exact ⟨32, rfl⟩
  · exact ⟨64, rfl⟩

theorem ofInt_nat (n m : Nat) : BitVec.ofInt n (Int.ofNat m) = BitVec.ofNat n m := by
  show BitVec.ofInt n ((m : Nat) : Int) = _
  exact BitVec.ofInt_natCast n m

theorem fastBin_run {P : Program} {op : BinOp} {x y v : Value} (h : fastBin op x y = some v) (t : TypeId) (ox oy : Operand) (w : World) : (do eqGuard op t ox oy x y; binOp op t x y : Sem Value).run P w = .ok v w ∧ flat v = true := by
  unfold fastBin at h
  split at h
  · rename_i k a k' b
    have hg : ∀ (s : Sem Value), (do eqGuard op t ox oy (.int k a) (.int k' b); s : Sem Value).run P w = s.run P w := by
      intro s
      unfold eqGuard
      split <;> simp
    rw [hg]
    split at h
    · split at h
      · rename_i m n
        simp only [Option.some.injEq] at h
        subst h
        refine ⟨?_, rfl⟩
        have hn : ¬ (Int.ofNat n < 0) := by simp
        have e : (Int.ofNat m).fdiv (2 ^ (min n k.bits)) = Int.ofNat (Nat.shiftRight m (min n k.bits)) := by
          have : Nat.shiftRight m (min n k.bits) = m / 2 ^ (min n k.bits) := Nat.shiftRight_eq_div_pow m _
          rw [this, Int.fdiv_eq_ediv_of_nonneg _ (by exact Int.le_of_lt (Int.pow_pos (by omega)))]
          simp
        simp only [binOp, Op.shift, hn, if_false, Sem.run_pure]
        simp only [Int.ofNat_eq_natCast, Int.toNat_natCast] at e ⊢
        rw [e]
      · simp at h
    · split at h
      · rename_i m n
        split at h
        · rename_i hlt
          simp only [Option.some.injEq] at h
          subst h
          refine ⟨?_, rfl⟩
          have hn : ¬ (Int.ofNat n < 0) := by simp
          have hlt' : n < k.bits := by simpa using hlt
          have e : Nat.shiftLeft m n = m * 2 ^ n := Nat.shiftLeft_eq m n
          simp only [binOp, Op.shift, hn, if_false, Sem.run_pure, fwrap_eq]
          have h2 : min (Int.ofNat n).toNat k.bits = n := by simp; omega
          rw [h2, e]
          simp
        · simp at h
      · simp at h
    · simp at h
    · simp at h
    · simp at h
    · split at h
      case isFalse => simp at h
      rename_i op' n1 n2 n3 n4 n5 hk
      have := kindEq_eq hk
      subst this
      have bits : ∀ {f : Nat → Nat → Nat} {g : BitVec k.bits → BitVec k.bits → BitVec k.bits}, fbits k f a b = some v → (∀ m n, m < lim k → n < lim k → f m n < lim k) → (∀ (m n : Nat), m < 2 ^ k.bits → n < 2 ^ k.bits → (g (BitVec.ofNat _ m) (BitVec.ofNat _ n)).toNat = f m n) →
          (pure (.int k (k.wrap (g (BitVec.ofInt k.bits a) (BitVec.ofInt k.bits b)).toNat)) : Sem Value).run P w = .ok v w ∧ flat v = true := by
        intro f g hf h1 h2
        unfold fbits at hf
        split at hf
        · rename_i m n
          split at hf
          · rename_i hmn
            simp only [Bool.and_eq_true, Nat.blt_eq] at hmn
            simp only [Option.some.injEq] at hf
            subst hf
            have hl := lim_bits k
            rw [ofInt_nat, ofInt_nat, h2 m n (by omega) (by omega)]
            have := wrap_ofNat (h1 m n hmn.1 hmn.2)
            simp only [Int.ofNat_eq_natCast] at this
            refine ⟨by rw [this]; rfl, rfl⟩
          · simp at hf
        · simp at hf
      obtain ⟨e2, hl2⟩ := two_lim k
      split at h
      · simp only [Option.some.injEq] at h
        subst h
        exact ⟨by simp [binOp, Op.intArith, fwrap_eq], rfl⟩
      · simp only [Option.some.injEq] at h
        subst h
        exact ⟨by simp [binOp, Op.intArith, fwrap_eq], rfl⟩
      · simp only [Option.some.injEq] at h
        subst h
        exact ⟨by simp [binOp, Op.intArith, fwrap_eq], rfl⟩
      · have := bits (g := fun a b => a &&& b) h (fun m n hm hn => by rw [hl2] at *; exact Nat.and_lt_two_pow _ hn) (fun m n hm hn => by
          simp [BitVec.toNat_and, Nat.mod_eq_of_lt hm, Nat.mod_eq_of_lt hn] <;> rfl)
        simpa [binOp, Op.intBits] using this
      · have := bits (g := fun a b => a ||| b) h (fun m n hm hn => by rw [hl2] at *; exact Nat.or_lt_two_pow hm hn) (fun m n hm hn => by
          simp [BitVec.toNat_or, Nat.mod_eq_of_lt hm, Nat.mod_eq_of_lt hn] <;> rfl)
        simpa [binOp, Op.intBits] using this
      · have := bits (g := fun a b => a ^^^ b) h (fun m n hm hn => by rw [hl2] at *; exact Nat.xor_lt_two_pow hm hn) (fun m n hm hn => by
          simp [BitVec.toNat_xor, Nat.mod_eq_of_lt hm, Nat.mod_eq_of_lt hn] <;> rfl)
        simpa [binOp, Op.intBits] using this
      · simp only [Option.some.injEq] at h
        subst h
        exact ⟨by simp [binOp, Op.intCmp, ieq_eq], rfl⟩
      · simp only [Option.some.injEq] at h
        subst h
        exact ⟨by simp [binOp, Op.intCmp, ieq_eq, bne], rfl⟩
      · simp only [Option.some.injEq] at h
        subst h
        exact ⟨by simp [binOp, Op.intCmp, ilt_eq], rfl⟩
      · simp only [Option.some.injEq] at h
        subst h
        have : decide (a ≤ b) = !decide (b < a) := by rw [← decide_not]; congr 1; apply propext; omega
        exact ⟨by simp [binOp, Op.intCmp, ilt_eq, this], rfl⟩
      · simp only [Option.some.injEq] at h
        subst h
        exact ⟨by simp [binOp, Op.intCmp, ilt_eq], rfl⟩
      · simp only [Option.some.injEq] at h
        subst h
        have : decide (b ≤ a) = !decide (a < b) := by rw [← decide_not]; congr 1; apply propext; omega
        exact ⟨by simp [binOp, Op.intCmp, ilt_eq, this], rfl⟩
      · simp at h
  · rename_i s u
    have hg : ∀ (q : Sem Value), (do eqGuard op t ox oy (.string s) (.string u); q : Sem Value).run P w = q.run P w := by
      intro q
      unfold eqGuard
      split <;> simp
    rw [hg]
    split at h
    · split at h
      · rename_i hle
        simp only [Option.some.injEq] at h
        subst h
        have hle' : s.size + u.size ≤ 9223372036854775807 := by
          have := Nat.le_of_ble_eq_true hle
          simp only [ByteArray.size, Array.length_toList] at this ⊢
          exact this
        refine ⟨?_, rfl⟩
        rw [binOp_string_add, run_string_add_sum w s u hle']
        congr 2
      · simp at h
    · simp only [Option.some.injEq] at h
      subst h
      exact ⟨by rw [binOp_string_eql]; simp [beqB_eq, ByteArray.toList_eq], rfl⟩
    · simp only [Option.some.injEq] at h
      subst h
      exact ⟨by rw [binOp_string_neq]; simp [beqB_eq, ByteArray.toList_eq], rfl⟩
    · simp at h
  · simp at h

/-- A bound of a slice of a text. -/
def fbound (dflt lim : Nat) : Option Value → Option Nat
  | none => some dflt
  | some (.int _ (.ofNat n)) => if Nat.ble n lim then some n else none
  | _ => none

def fastSlice (s : ByteArray) (lo hi : Option Value) : Option Value :=
  match fbound s.data.toList.length s.data.toList.length hi with
  | some h => match fbound 0 h lo with
    | some l => some (.string ⟨((s.data.toList.drop l).take (h - l)).toArray⟩)
    | none => none
  | none => none

theorem fbound_run {P : Program} {dflt L n : Nat} {v : Value} {e : BoundsCode} {w : World} (h : fbound dflt L (some v) = some n) : (Instr.sliceBound v L e).run P w = .ok n w ∧ n ≤ L := by
  unfold fbound at h
  split at h
  · simp at *
  · rename_i k m hv
    simp at hv
    subst hv
    split at h
    · rename_i hle
      simp at h
      subst h
      have hle' := Nat.le_of_ble_eq_true hle
      refine ⟨?_, hle'⟩
      simp [Instr.sliceBound, asIntOf]
      omega
    · simp at h
  · simp at h

theorem fastSlice_run {P : Program} {t : TypeId} {s : ByteArray} {lo hi : Option Value} {v : Value} (ht : P.underlying t = some .string) (h : fastSlice s lo hi = some v) (w : World) : (Instr.sliceAt t (.string s) lo hi none).run P w = .ok v w ∧ flat v = true := by
  unfold fastSlice at h
  split at h
  case h_2 => simp at h
  rename_i hh h1
  split at h
  case h_2 => simp at h
  rename_i l h2
  simp only [Option.some.injEq] at h
  subst h
  refine ⟨?_, rfl⟩
  rw [run_sliceAt_string w t _ _ _ _ ht]
  have hsz : s.data.toList.length = s.size := rfl
  rw [hsz] at h1
  have e : s.extract l hh = ⟨((s.data.toList.drop l).take (hh - l)).toArray⟩ := by
    apply ByteArray.ext
    apply Array.ext'
    simp [ByteArray.data_extract, List.extract_eq_take_drop]
  have hhi : ∀ (W : World) (e : BoundsCode), (match hi with
      | some v => Instr.sliceBound v s.size e
      | none => (pure s.size : Sem Nat)).run P W = .ok hh W := by
    intro W e
    cases hi with
    | none => simp [fbound] at h1; simp [h1]
    | some v => exact (fbound_run h1).1
  have hlo : ∀ (W : World) (e : BoundsCode), (match lo with
      | some v => Instr.sliceBound v hh e
      | none => (pure 0 : Sem Nat)).run P W = .ok l W := by
    intro W e
    cases lo with
    | none => simp [fbound] at h2; simp [h2]
    | some v => exact (fbound_run h2).1
  have key : (Instr.sliceBounds false s.size s.size lo hi none).run P w = .ok (l, hh, s.size) w := by
    cases hi <;> cases lo <;> simp_all [Instr.sliceBounds]
  simp [Instr.slice, run_underlying ht, key, e]

def fastIndex (s : ByteArray) (i : Value) : Option Value :=
  match i with
  | .int _ (.ofNat n) => match s.data.toList[n]? with
    | some b => some (.int .u8 (.ofNat b.toNat))
    | none => none
  | _ => none

theorem fastIndex_run {P : Program} {t : TypeId} {s : ByteArray} {i : Value} {v : Value} (ht : P.underlying t = some .string) (h : fastIndex s i = some v) (w : World) : (Instr.index t (.string s) i).run P w = .ok v w ∧ flat v = true := by
  unfold fastIndex at h
  split at h
  · rename_i k n
    split at h
    · rename_i b hb
      simp at h
      subst h
      refine ⟨?_, rfl⟩
      have hb' : s[n]? = some b := by
        have h1 : n < s.data.toList.length := by
          rcases Nat.lt_or_ge n s.data.toList.length with h | h
          · exact h
          · simp [List.getElem?_eq_none h] at hb
        have h2 : n < s.size := h1
        rw [getElem?_pos s n h2]
        rw [List.getElem?_eq_getElem h1] at hb
        simp at hb
        rw [← hb]
        rfl
      have h0 : (0 : Int) ≤ Int.ofNat n := Int.natCast_nonneg n
      simp only [Instr.index, asIntOf, Sem.run_bind, Sem.run_pure, Result.andThen_ok, run_underlying ht]
      have e2 : (if 0 ≤ Int.ofNat n then s[(Int.ofNat n).toNat]? else none) = some b := by
        rw [if_pos h0]; exact hb'
      rw [e2]
      rfl
    · simp at h
  · simp at h

/-- The operations that go the short way. -/
def lfast (P : Program) (la : LAct) (o : Oper) : Option Value :=
  match o.op with
  | .binOp op _ x y _ => match leval P la x, leval P la y with
    | some a, some b => fastBin op a b
    | _, _ => none
  | .unOp .not _ x => match leval P la x with
    | some (.bool b) => some (.bool (!b))
    | _ => none
  | .unOp .xor _ x => match leval P la x with
    | some (.int k a) => if k.signed then none else fbits k Nat.xor (.ofNat (lim k - 1)) a
    | _ => none
  | .convert s d x => match leval P la x with
    | some (.int _ n) => match P.underlying s, P.underlying d with
      | some _, some (.int k) => some (.int k (fwrap k n))
      | _, _ => none
    | _ => none
  | .slice t x lo hi none => match leval P la x with
    | some (.string s) => match P.underlying t, levalO P la lo, levalO P la hi with
      | some .string, some l, some h => fastSlice s l h
      | _, _, _ => none
    | _ => none
  | .index t x ix => match leval P la x with
    | some (.string s) => match P.underlying t, leval P la ix with
      | some .string, some i => fastIndex s i
      | _, _ => none
    | _ => none
  | .call { callee := .builtin .len, args, argTypes } => match args.toList, argTypes.toList with
    | [x], [t] => match leval P la x with
      | some (.string s) => match P.underlying t with
        | some .string => some (.int .i64 (.ofNat s.data.toList.length))
        | _ => none
      | _ => none
    | _, _ => none
  | _ => none

theorem lfast_run {P : Program} {σ : LState} {ρ : List Loc} {w : World} (hR : Rel P σ ρ w) {la : LAct} {a : Act} (hA : ActR ρ la a) {o : Oper} {v : Value} (h : lfast P la o = some v) :
    (execOp a.eval o).run P w = .ok (.value v) w ∧ flat v = true := by
  have ev : ∀ {x : Operand} {u : Value}, leval P la x = some u → ren ρ u = some (a.eval x) := fun hx => leval_ren hR hA hx
  have evs : ∀ {x : Operand} {s : ByteArray}, leval P la x = some (.string s) → a.eval x = .string s := fun hx => by
    have := ev hx; simp [ren] at this; exact this.symm
  have evi : ∀ {x : Operand} {k : IntKind} {n : Int}, leval P la x = some (.int k n) → a.eval x = .int k n := fun hx => by
    have := ev hx; simp [ren] at this; exact this.symm
  unfold lfast at h
  split at h
  · rename_i op t x y yt ho
    split at h
    · rename_i b c hb hc
      have hx : a.eval x = b ∧ a.eval y = c := by
        have h1 := ev hb
        have h2 := ev hc
        unfold fastBin at h
        split at h
        · simp [ren] at h1 h2; exact ⟨h1.symm, h2.symm⟩
        · simp [ren] at h1 h2; exact ⟨h1.symm, h2.symm⟩
        · simp at h
      obtain ⟨h1, h2⟩ := fastBin_run (P := P) h t x y w
      refine ⟨?_, h2⟩
      simp only [execOp, ho, hx.1, hx.2]
      rw [Sem.run_bind, h1]
      rfl
    · simp at h
  · rename_i x ho
    split at h
    · rename_i b hb
      simp at h
      subst h
      have := ev hb
      simp [ren] at this
      exact ⟨by simp [execOp, ho, ← this, Op.unary], rfl⟩
    · simp at h
  · rename_i x ho
    split at h
    · rename_i k n hb
      split at h
      · simp at h
      · rename_i hs
        have hs' : k.signed = false := by simpa using hs
        have e : (if k.signed then (-1 : Int) else k.max) = Int.ofNat (lim k - 1) := by
          cases k <;> simp [IntKind.signed] at hs' <;> rfl
        have hb2 : fastBin .xor (.int k (.ofNat (lim k - 1))) (.int k n) = some v := by
          have : kindEq k k = true := by cases k <;> rfl
          simpa [fastBin, this] using h
        obtain ⟨h1, h2⟩ := fastBin_run (P := P) hb2 0 (.const undef) (.const undef) w
        have hg : (do eqGuard .xor 0 (.const undef) (.const undef) (.int k (.ofNat (lim k - 1))) (.int k n); binOp .xor 0 (.int k (.ofNat (lim k - 1))) (.int k n) : Sem Value).run P w = (Op.intBits .xor k (.ofNat (lim k - 1)) n).run P w := by
          simp [eqGuard, binOp]
        rw [hg] at h1
        refine ⟨?_, h2⟩
        simp only [execOp, ho, evi hb, Op.unary, e, Sem.run_bind, h1, Result.andThen_ok, Sem.run_pure]
    · simp at h
  · rename_i s d x ho
    split at h
    · rename_i k n hb
      split at h
      · rename_i ds k' hs hd
        simp at h
        subst h
        exact ⟨by simp [execOp, ho, evi hb, convert, run_underlying hs, run_underlying hd, Conv.intToInt, fwrap_eq], rfl⟩
      · simp at h
    · simp at h
  · rename_i t x lo hi ho
    split at h
    · rename_i s hb
      split at h
      · rename_i l hh ht hl hh2
        have e1 := levalO_ren hR hA hl
        have e2 := levalO_ren hR hA hh2
        have el : lo.map a.eval = l ∨ fastSlice s l hh = none := by
          cases l with
          | none => left; cases lo with
            | none => rfl
            | some u => simp [optRen] at e1
          | some u =>
            cases u with
            | int k n => left; cases lo <;> simp_all [optRen, ren]
            | _ => right; unfold fastSlice; cases fbound s.data.toList.length s.data.toList.length hh <;> simp [fbound]
        have eh : hi.map a.eval = hh ∨ fastSlice s l hh = none := by
          cases hh with
          | none => left; cases hi with
            | none => rfl
            | some u => simp [optRen] at e2
          | some u =>
            cases u with
            | int k n => left; cases hi <;> simp_all [optRen, ren]
            | _ => right; simp [fastSlice, fbound]
        have el := el.resolve_right (by simp [h])
        have eh := eh.resolve_right (by simp [h])
        obtain ⟨h1, h2⟩ := fastSlice_run (P := P) ht h w
        refine ⟨?_, h2⟩
        simp only [execOp, ho, evs hb, el, eh, Option.map_none, Sem.run_bind, h1, Result.andThen_ok, Sem.run_pure]
      · simp at h
    · simp at h
  · rename_i t x ix ho
    split at h
    · rename_i s hb
      split at h
      · rename_i i ht hi
        have hx : a.eval ix = i := by
          unfold fastIndex at h
          split at h
          · exact evi hi
          · simp at h
        obtain ⟨h1, h2⟩ := fastIndex_run (P := P) ht h w
        refine ⟨?_, h2⟩
        simp only [execOp, ho, evs hb, hx, Sem.run_bind, h1, Result.andThen_ok, Sem.run_pure]
      · simp at h
    · simp at h
  · rename_i args argTypes ho
    split at h
    · rename_i x t hargs htys
      split at h
      · rename_i s hb
        split at h
        · rename_i ht
          simp at h
          subst h
          have ha : args = #[x] := by apply Array.ext'; simpa using hargs
          have hty : argTypes = #[t] := by apply Array.ext'; simpa using htys
          subst ha
          subst hty
          refine ⟨?_, rfl⟩
          simp only [execOp, ho, resolve, Sem.run_bind, Sem.run_pure, Result.andThen_ok, invoke, builtin, List.map_toArray, List.map_cons, List.map_nil, evs hb, Builtin.len_, List.getElem?_toArray, List.getElem?_cons_zero, run_underlying ht]
          rfl
        · simp at h
      · simp at h
    · simp at h
  · simp at h

end Go.Lg
end

section
namespace Go.Lg
open Go

/-- What the machine is told of functions: summaries or runs of bodies ('call'), entries without a body ('ext'), methods behind interface values ('meth'). -/
structure Orc where
  call : FuncId → List Value → LState → Option (Value × LState)
  calld : FuncId → List Value → LState → Option LState
  ext : FuncId → List Value → LState → Option (Value × LState)
  meth : TypeId → String → Option FuncId

def LCalls (P : Program) (f : FuncId) (args : List Value) (σ : LState) (v : Value) (σ' : LState) : Prop :=
  ∀ (ρ : List Loc) (w : World) (args' : Array Value), Rel P σ ρ w → renL ρ args = some args'.toList →
    Calls P f args' w fun e w' => ∃ v' ρ', e = .returned v' ∧ ren ρ' v = some v' ∧ Rel P σ' ρ' w' ∧ Ext σ ρ w σ' ρ' w'

/-- A deferred call: what it answers is not looked at. -/
def LCallsD (P : Program) (f : FuncId) (args : List Value) (σ : LState) (σ' : LState) : Prop :=
  ∀ (ρ : List Loc) (w : World) (args' : Array Value) (u : FrameMode), Rel P σ ρ w → renL ρ args = some args'.toList →
    CallsD P f args' u w fun e u' w' => u' = u ∧ ∃ v' ρ', e = .returned v' ∧ Rel P σ' ρ' w' ∧ Ext σ ρ w σ' ρ' w'

def Enters (P : Program) (f : FuncId) : Prop := ∀ (args : Array Value) (w : World), (callFunc f args).run P w = .ok (.enter f args) w

structure Orc.Sound (P : Program) (O : Orc) : Prop where
  call : ∀ f args σ v σ', O.call f args σ = some (v, σ') → Enters P f ∧ LCalls P f args σ v σ'
  calld : ∀ f args σ σ', O.calld f args σ = some σ' → Enters P f ∧ LCallsD P f args σ σ'
  ext : ∀ f args σ v σ', O.ext f args σ = some (v, σ') → ∀ (ρ : List Loc) (w : World) (args' : Array Value), Rel P σ ρ w → renL ρ args = some args'.toList →
    ∃ v' w' ρ', (callFunc f args').run P w = .ok (.value v') w' ∧ ren ρ' v = some v' ∧ Rel P σ' ρ' w' ∧ Ext σ ρ w σ' ρ' w'
  meth : ∀ t name f, O.meth t name = some f → (∀ (v : Value) (w : World), (method (P.types.size + Made.depth) t v name).run P w = .ok (f, v) w) ∧ (∀ (v : Value) (w : World), (nilAhead (P.types.size + Made.depth) t v name).run P w = .ok (some false) w)

/- ---- operations that call nothing -/

def lbin (P : Program) (la : LAct) (o : Oper) (op : BinOp) (t : TypeId) (x y : Operand) : Option Value :=
  match lflat P la o with
  | some v => some v
  | none => match leval P la x, leval P la y with
    | some a, some b => leqOp P op t a b
    | _, _ => none

def lconvert (P : Program) (la : LAct) (σ : LState) (o : Oper) (s d : TypeId) (x : Operand) : Option Value :=
  match lflat P la o with
  | some v => some v
  | none => match leval P la x with
    | some a => match lbytesToString P σ s d a with
      | some v => some v
      | none => lunsafe P σ s d a
    | none => none

def lnilCheck (O : Orc) (x : Value) : Option Value :=
  match x with
  | .pointer (some a) => some (.pointer (some a))
  | .func (.method name) first captured => match first.toList with
    | [.iface t v] => match O.meth t name with
      | some _ => some (.func (.method name) #[.iface t v] captured)
      | none => none
    | _ => none
  | _ => none

/-- The operations that turn nothing. -/
def lvalQ0 (P : Program) (O : Orc) (la : LAct) (σ : LState) (o : Oper) : Option Value :=
  match o.op with
  | .move x => leval P la x
  | .assign x => leval P la x
  | .pick c x y => match leval P la c with
    | some (.bool true) => leval P la x
    | some (.bool false) => leval P la y
    | _ => none
  | .build t ps => match lparts P la ps.toList with
    | some l => lbuild P t l
    | none => none
  | .load t x => match leval P la x with
    | some a => lload P σ t a
    | none => none
  | .nilCheck x => match leval P la x with
    | some a => lnilCheck O a
    | none => none
  | .binOp op t x y _ => lbin P la o op t x y
  | .unOp _ _ _ => lflat P la o
  | .convert s d x => lconvert P la σ o s d x
  | .makeInterface t x => match leval P la x with
    | some a => lmakeInterface P t a
    | none => none
  | .makeFunc fn first captured => match levals P la first.toList, levals P la captured.toList with
    | some f, some c => lmakeFunc fn f c
    | _, _ => none
  | .slice t x lo hi mx => match lflat P la o with
    | some v => some v
    | none => match leval P la x, levalO P la lo, levalO P la hi, levalO P la mx with
      | some a, some l, some h, some m => lslice P t a l h m
      | _, _, _, _ => none
  | .fieldAddr s x f => match leval P la x with
    | some a => lfieldAddr P s a f
    | none => none
  | .field t x f => match leval P la x with
    | some a => lfield P t a f
    | none => none
  | .indexAddr t x ix => match leval P la x, leval P la ix with
    | some a, some i => lindexAddr P t a i
    | _, _ => none
  | .index t x ix => match lflat P la o with
    | some v => some v
    | none => match leval P la x, leval P la ix with
      | some a, some i => lindexAgg P t a i
      | _, _ => none
  | .lookup t x k ok => match leval P la x, leval P la k with
    | some a, some i => llookup P σ t a i ok
    | _, _ => none
  | .typeAssert x _ t ok => match leval P la x with
    | some a => ltypeAssert P a t ok
    | none => none
  | .extract x i => match leval P la x with
    | some a => lextract a i
    | none => none
  | .call { callee := .builtin b, args, argTypes } => match lflat P la o with
    | some v => some v
    | none => match levals P la args.toList with
      | some l => lbuiltinQ P σ b argTypes l
      | none => none
  | _ => none

/-- Those that write, or make memory, and call nothing. -/
def lvalQ (P : Program) (O : Orc) (la : LAct) (σ : LState) (o : Oper) : Option Value :=
  match lfast P la o with
  | some v => some v
  | none => lvalQ0 P O la σ o

def lvalW (P : Program) (la : LAct) (σ : LState) (o : Oper) : Option (Value × LState) :=
  match o.op with
  | .alloc t => lalloc P σ t
  | .box t x => match leval P la x with | some v => some (lbox σ t v) | none => none
  | .buildSlice t n ps => match lparts P la ps.toList with
    | some l => lbuildSlice P σ t n l
    | none => none
  | .store t x y => match leval P la x, leval P la y with
    | some a, some v => match lstore P σ t a v with | some σ' => some (undef, σ') | none => none
    | _, _ => none
  | .makeMap _ none => some (lmakeMap σ)
  | .mapUpdate t m k x => match leval P la m, leval P la k, leval P la x with
    | some a, some b, some c => match lmapUpdate P σ t a b c with | some σ' => some (undef, σ') | none => none
    | _, _, _ => none
  | .call { callee := .builtin b, args, argTypes } => match levals P la args.toList with
    | some l => lbuiltinW P σ b argTypes l
    | none => none
  | .convert s d x => match leval P la x with
    | some a => lstrBytes P σ s d a
    | none => none
  | _ => none

/-- What the operation has come to, at a related world. -/
def Ran (P : Program) (σ : LState) (ρ : List Loc) (w : World) (s : Sem Next) (v : Value) (σ' : LState) : Prop :=
  ∃ v' w' ρ', (s.run P w = .ok (.value v') w' ∨ (s.run P w = .ok .skip w' ∧ v' = undef)) ∧ ren ρ' v = some v' ∧ Rel P σ' ρ' w' ∧ Ext σ ρ w σ' ρ' w'

def RanQ (P : Program) (ρ : List Loc) (w : World) (s : Sem Next) (v : Value) : Prop := ∃ v', s.run P w = .ok (.value v') w ∧ ren ρ v = some v'

theorem RanQ.of_does {P : Program} {ρ : List Loc} {w : World} {s : Sem Value} {v : Value} (h : DoesQ P ρ w s v) : RanQ P ρ w (do pure (.value (← s))) v := by
  obtain ⟨v', h1, h2⟩ := h
  exact ⟨v', by simp only [Sem.run_bind, h1, Result.andThen_ok, Sem.run_pure], h2⟩

theorem Ran.of_does {P : Program} {σ σ' : LState} {ρ : List Loc} {w : World} {s : Sem Value} {v : Value} (h : Does P σ ρ w s v σ') : Ran P σ ρ w (do pure (.value (← s))) v σ' := by
  obtain ⟨v', w', ρ', h1, h2, h3, h4⟩ := h
  exact ⟨v', w', ρ', .inl (by simp only [Sem.run_bind, h1, Result.andThen_ok, Sem.run_pure]), h2, h3, h4⟩

theorem Ran.of_unit {P : Program} {σ σ' : LState} {ρ : List Loc} {w : World} {s : Sem Unit} (h : ∃ w', s.run P w = .ok () w' ∧ Rel P σ' ρ w' ∧ Ext σ ρ w σ' ρ w') : Ran P σ ρ w (do s; pure .skip) undef σ' := by
  obtain ⟨w', h1, h2, h3⟩ := h
  exact ⟨undef, w', ρ, .inr ⟨by simp only [Sem.run_bind, h1, Result.andThen_ok, Sem.run_pure], rfl⟩, by simp [undef, ren, renA, renL], h2, h3⟩

theorem lnilCheck_run {P : Program} {O : Orc} (hO : O.Sound P) {ρ : List Loc} {w : World} {o : Oper} {a : Act} {x : Operand} {u v : Value} (ho : o.op = .nilCheck x) (hx : ren ρ u = some (a.eval x)) (h : lnilCheck O u = some v) :
    RanQ P ρ w (execOp a.eval o) v := by
  unfold lnilCheck at h
  split at h
  · simp at h
    subst h
    obtain ⟨L, hs, hL, hx2⟩ := ren_pointer hx
    refine ⟨_, ?_, hx⟩
    simp [execOp, ho, hx2]
  · rename_i name first captured
    split at h
    · rename_i t z hf
      cases hm : O.meth t name with
      | none => simp [hm] at h
      | some g =>
        simp only [hm, Option.some.injEq] at h
        subst h
        have hfirst : first = #[.iface t z] := by apply Array.ext'; simpa using hf
        subst hfirst
        obtain ⟨f', a', b', h1, h2, h3, hx2⟩ := ren_func_shape hx
        simp [renFn] at h1
        subst h1
        obtain ⟨l⟩ := a'
        obtain ⟨z2, hz, hz2⟩ := renL_one (renA_toList h2)
        simp only at hz
        subst hz
        obtain ⟨z', hz3, rfl⟩ := ren_iface hz2
        refine ⟨a.eval x, ?_, hx⟩
        have := (hO.meth t name g hm).2 z' w
        simp [execOp, ho, hx2, this]
    · simp at h
  · simp at h

theorem lvalQ0_run {P : Program} {O : Orc} (hO : O.Sound P) {σ : LState} {ρ : List Loc} {w : World} (hR : Rel P σ ρ w) {la : LAct} {a : Act} (hA : ActR ρ la a) {o : Oper} {v : Value} (h : lvalQ0 P O la σ o = some v) :
    RanQ P ρ w (execOp a.eval o) v := by
  have ev : ∀ {x : Operand} {u : Value}, leval P la x = some u → ren ρ u = some (a.eval x) := fun hx => leval_ren hR hA hx
  have flatway : ∀ {u : Value}, lflat P la o = some u → RanQ P ρ w (execOp a.eval o) u := fun hu => by
    obtain ⟨h1, h2⟩ := lflat_run hR hA hu
    exact ⟨_, h1, ren_flat ρ h2⟩
  unfold lvalQ0 at h
  split at h
  · rename_i x ho
    exact ⟨_, by simp [execOp, ho], ev h⟩
  · rename_i x ho
    exact ⟨_, by simp [execOp, ho], ev h⟩
  · rename_i c x y ho
    split at h
    · rename_i hc
      have hc' := ev hc
      simp [ren] at hc'
      exact ⟨a.eval x, by simp [execOp, ho, ← hc', asBool], ev h⟩
    · rename_i hc
      have hc' := ev hc
      simp [ren] at hc'
      exact ⟨a.eval y, by simp [execOp, ho, ← hc', asBool], ev h⟩
    · simp at h
  · rename_i t ps ho
    split at h
    · rename_i l hl
      have hp : PartsR ρ l (ps.map fun (i, x) => (i, a.eval x)).toList := by simpa using lparts_ren hR hA hl
      have := RanQ.of_does (lbuild_does hR hp h)
      simpa [execOp, ho] using this
    · simp at h
  · rename_i t x ho
    split at h
    · rename_i b hb
      have := RanQ.of_does (lload_does hR (ev hb) h)
      simpa [execOp, ho] using this
    · simp at h
  · rename_i x ho
    split at h
    · rename_i b hb
      exact lnilCheck_run hO ho (ev hb) h
    · simp at h
  · rename_i op t x y yt ho
    unfold lbin at h
    split at h
    · rename_i z hz; simp at h; subst h; exact flatway hz
    · split at h
      · rename_i b c hb hc
        obtain ⟨h1, h2⟩ := leqOp_run (w := w) (ox := x) (oy := y) (ev hb) (ev hc) h
        have := RanQ.of_does (P := P) (DoesQ.same hR h1 (ren_flat ρ h2))
        simpa [execOp, ho] using this
      · simp at h
  · exact flatway h
  · rename_i s d x ho
    unfold lconvert at h
    split at h
    · rename_i z hz; simp at h; subst h; exact flatway hz
    · split at h
      · rename_i b hb
        split at h
        · rename_i z hz
          simp at h
          subst h
          have := RanQ.of_does (lbytesToString_does hR (ev hb) hz)
          simpa [execOp, ho] using this
        · have := RanQ.of_does (lunsafe_does hR (ev hb) h)
          simpa [execOp, ho] using this
      · simp at h
  · rename_i t x ho
    split at h
    · rename_i b hb
      have := RanQ.of_does (lmakeInterface_does hR (ev hb) h)
      simpa [execOp, ho] using this
    · simp at h
  · rename_i fn first captured ho
    split at h
    · rename_i f c hf hc
      have h1 : renL ρ f = some (first.map a.eval).toList := by simpa using levals_ren hR hA hf
      have h2 : renL ρ c = some (captured.map a.eval).toList := by simpa using levals_ren hR hA hc
      have := RanQ.of_does (lmakeFunc_does hR h1 h2 h)
      simpa [execOp, ho] using this
    · simp at h
  · rename_i t x lo hi mx ho
    split at h
    · rename_i u hu; simp at h; subst h; exact flatway hu
    · split at h
      · rename_i b l hh m hb hl hh2 hm
        have := RanQ.of_does (lslice_does hR (ev hb) (levalO_ren hR hA hl) (levalO_ren hR hA hh2) (levalO_ren hR hA hm) h)
        simpa [execOp, ho] using this
      · simp at h
  · rename_i s x f ho
    split at h
    · rename_i b hb
      have := RanQ.of_does (lfieldAddr_does hR (ev hb) h)
      simpa [execOp, ho] using this
    · simp at h
  · rename_i s x f ho
    split at h
    · rename_i b hb
      have := RanQ.of_does (lfield_does hR (ev hb) h)
      simpa [execOp, ho] using this
    · simp at h
  · rename_i t x ix ho
    split at h
    · rename_i b i hb hi
      have := RanQ.of_does (lindexAddr_does hR (ev hb) (ev hi) h)
      simpa [execOp, ho] using this
    · simp at h
  · rename_i t x ix ho
    split at h
    · rename_i u hu; simp at h; subst h; exact flatway hu
    · split at h
      · rename_i b i hb hi
        have := RanQ.of_does (lindexAgg_does hR (ev hb) (ev hi) h)
        simpa [execOp, ho] using this
      · simp at h
  · rename_i t x k ok ho
    split at h
    · rename_i b i hb hi
      have := RanQ.of_does (llookup_does hR (ev hb) (ev hi) h)
      simpa [execOp, ho] using this
    · simp at h
  · rename_i x xt t ok ho
    split at h
    · rename_i b hb
      have := RanQ.of_does (ltypeAssert_does (xt := xt) hR (ev hb) h)
      simpa [execOp, ho] using this
    · simp at h
  · rename_i x i ho
    split at h
    · rename_i b hb
      have := RanQ.of_does (lextract_does hR (ev hb) h)
      simpa [execOp, ho] using this
    · simp at h
  · rename_i b args argTypes ho
    split at h
    · rename_i u hu; simp at h; subst h; exact flatway hu
    · split at h
      · rename_i l hl
        have h1 : renL ρ l = some (args.map a.eval).toList := by simpa using levals_ren hR hA hl
        obtain ⟨v', hrun, h2⟩ := lbuiltinQ_run (ty := o.type) hR h1 h
        refine ⟨v', ?_, h2⟩
        simp only [execOp, ho, resolve, Sem.run_bind, Sem.run_pure, Result.andThen_ok, invoke]
        exact hrun _
      · simp at h
  · simp at h

theorem lvalQ_run {P : Program} {O : Orc} (hO : O.Sound P) {σ : LState} {ρ : List Loc} {w : World} (hR : Rel P σ ρ w) {la : LAct} {a : Act} (hA : ActR ρ la a) {o : Oper} {v : Value} (h : lvalQ P O la σ o = some v) :
    RanQ P ρ w (execOp a.eval o) v := by
  unfold lvalQ at h
  split at h
  · rename_i u hu
    simp at h
    subst h
    obtain ⟨h1, h2⟩ := lfast_run hR hA hu
    exact ⟨_, h1, ren_flat ρ h2⟩
  · exact lvalQ0_run hO hR hA h

theorem lvalQ_select {P : Program} {O : Orc} {la : LAct} {σ : LState} {o : Oper} {v : Value} (h : lvalQ P O la σ o = some v) : ∀ cs b, o.op ≠ .select cs b := by
  intro cs b hx
  simp [lvalQ, lfast, lvalQ0, hx] at h

theorem lvalW_run {P : Program} {σ σ' : LState} {ρ : List Loc} {w : World} (hR : Rel P σ ρ w) {la : LAct} {a : Act} (hA : ActR ρ la a) {o : Oper} {v : Value} (h : lvalW P la σ o = some (v, σ')) :
    Ran P σ ρ w (execOp a.eval o) v σ' := by
  have ev : ∀ {x : Operand} {u : Value}, leval P la x = some u → ren ρ u = some (a.eval x) := fun hx => leval_ren hR hA hx
  unfold lvalW at h
  split at h
  · rename_i t ho
    have := Ran.of_does (lalloc_does hR h)
    simpa [execOp, ho] using this
  · rename_i t x ho
    split at h
    · rename_i u hu
      simp at h
      have := Ran.of_does (lbox_does hR t (ev hu))
      rw [h] at this
      simpa [execOp, ho] using this
    · simp at h
  · rename_i t n ps ho
    split at h
    · rename_i l hl
      have hp : PartsR ρ l (ps.map fun (i, x) => (i, a.eval x)).toList := by simpa using lparts_ren hR hA hl
      have := Ran.of_does (lbuildSlice_does hR hp h)
      simpa [execOp, ho] using this
    · simp at h
  · rename_i t x y ho
    split at h
    · rename_i b c hb hc
      split at h
      · rename_i τ hu
        simp at h
        obtain ⟨rfl, rfl⟩ := h
        have := Ran.of_unit (lstore_real hR (ev hb) (ev hc) hu)
        simpa [execOp, ho] using this
      · simp at h
    · simp at h
  · rename_i t ho
    simp at h
    have := Ran.of_does (lmakeMap_does hR t)
    rw [h] at this
    simpa [execOp, ho] using this
  · rename_i t m k x ho
    split at h
    · rename_i b c d hb hc hd
      split at h
      · rename_i τ hu
        simp at h
        obtain ⟨rfl, rfl⟩ := h
        have := Ran.of_unit (lmapUpdate_real hR (ev hb) (ev hc) (ev hd) hu)
        simpa [execOp, ho] using this
      · simp at h
    · simp at h
  · rename_i b args argTypes ho
    split at h
    · rename_i l hl
      have h1 : renL ρ l = some (args.map a.eval).toList := by simpa using levals_ren hR hA hl
      obtain ⟨v', w', ρ', hrun, h2, h3, h4⟩ := lbuiltinW_run (ty := o.type) hR h1 h
      refine ⟨v', w', ρ', .inl ?_, h2, h3, h4⟩
      simp only [execOp, ho, resolve, Sem.run_bind, Sem.run_pure, Result.andThen_ok, invoke]
      exact hrun _
    · simp at h
  · rename_i s d x ho
    split at h
    · rename_i u hu
      have := Ran.of_does (lstrBytes_does hR (src := s) (dst := d) (ev hu) h)
      simpa [execOp, ho] using this
    · simp at h
  · simp at h

end Go.Lg
end

section
namespace Go.Lg
open Go

def lfun (O : Orc) (f : Value) (args : List Value) (σ : LState) : Option (Value × LState) :=
  match f with
  | .func (.func g) first captured => match O.call g (first.toList ++ args ++ captured.toList) σ with
    | some r => some r
    | none => O.ext g (first.toList ++ args ++ captured.toList) σ
  | .func (.method name) first _ => match first.toList with
    | [.iface t v] => match O.meth t name with
      | some g => O.call g (v :: args) σ
      | none => none
    | _ => none
  | _ => none

/-- A call: through a function's value, or a method behind an interface value. -/
def lcallOp (P : Program) (O : Orc) (la : LAct) (σ : LState) (o : Oper) : Option (Value × LState) :=
  match o.op with
  | .call { callee := .value f, args, argTypes := _ } => match leval P la f, levals P la args.toList with
    | some fv, some l => lfun O fv l σ
    | _, _ => none
  | .call { callee := .invoke r name, args, argTypes := _ } => match leval P la r, levals P la args.toList with
    | some (.iface t v), some l => match O.meth t name with
      | some g => O.call g (v :: l) σ
      | none => none
    | _, _ => none
  | _ => none

def ldefer (P : Program) (la : LAct) (o : Oper) : Option (Value × List Value) :=
  match o.op with
  | .defer { callee := .value f, args, argTypes := _ } => match leval P la f, levals P la args.toList with
    | some (.func fn first captured), some l => some (.func fn first captured, l)
    | _, _ => none
  | _ => none

/-- What one operation may come to in the real machine, told without its frame. -/
def Outc (P : Program) (s : Sem Next) (w : World) (R : Value → List Deferred → World → Prop) : Prop :=
  (∃ v w', s.run P w = .ok (.value v) w' ∧ R v [] w') ∨ (∃ w', s.run P w = .ok .skip w' ∧ R undef [] w') ∨ (∃ d w', s.run P w = .ok (.defer d) w' ∧ R undef [d] w') ∨
  (∃ f args w1, s.run P w = .ok (.enter f args) w1 ∧ Calls P f args w1 fun e w' => ∃ v, e = .returned v ∧ R v [] w')

theorem Outc.wp {P : Program} {o : Oper} {a : Act} {w : World} {R : Value → List Deferred → World → Prop} {K : Act → World → Prop} {Q : Exit → Act → World → Prop} (h : Outc P (execOp a.eval o) w R)
    (hK : ∀ v dd w', R v dd w' → K (({ a with defers := dd ++ a.defers } : Act).put o.dst v) w') : o.wp P a w K Q := by
  unfold Oper.wp
  rcases h with ⟨v, w', hr, h⟩ | ⟨w', hr, h⟩ | ⟨d, w', hr, h⟩ | ⟨f, args, w1, hr, h⟩
  · rw [hr, Oper.upon_value]; exact hK v [] w' h
  · rw [hr, Oper.upon_skip]; exact hK undef [] w' h
  · rw [hr, Oper.upon_defer]; exact hK undef [d] w' h
  · rw [hr, Oper.upon_enter]
    refine h.mono ?_
    rintro e w' ⟨v, rfl, h⟩
    exact hK v [] w' h

theorem Outc.mono {P : Program} {s : Sem Next} {w : World} {R R' : Value → List Deferred → World → Prop} (h : Outc P s w R) (hr : ∀ v dd w', R v dd w' → R' v dd w') : Outc P s w R' := by
  rcases h with ⟨v, w', e, h⟩ | ⟨w', e, h⟩ | ⟨d, w', e, h⟩ | ⟨f, args, w1, e, h⟩
  · exact .inl ⟨v, w', e, hr _ _ _ h⟩
  · exact .inr (.inl ⟨w', e, hr _ _ _ h⟩)
  · exact .inr (.inr (.inl ⟨d, w', e, hr _ _ _ h⟩))
  · exact .inr (.inr (.inr ⟨f, args, w1, e, h.mono fun _ _ ⟨v, he, h⟩ => ⟨v, he, hr _ _ _ h⟩⟩))

/-- The end of an operation that is no defer. -/
def Ends (P : Program) (σ : LState) (ρ : List Loc) (w : World) (v : Value) (σ' : LState) (v' : Value) (dd : List Deferred) (w' : World) : Prop :=
  dd = [] ∧ ∃ ρ', ren ρ' v = some v' ∧ Rel P σ' ρ' w' ∧ Ext σ ρ w σ' ρ' w'

theorem outc_calls {P : Program} {s : Sem Next} {σ σ' : LState} {ρ : List Loc} {w : World} {f : FuncId} {l : List Value} {args : Array Value} {v : Value} (hR : Rel P σ ρ w)
    (h : LCalls P f l σ v σ') (ha : renL ρ l = some args.toList) (hrun : s.run P w = .ok (.enter f args) w) : Outc P s w (Ends P σ ρ w v σ') := by
  refine .inr (.inr (.inr ⟨f, args, w, hrun, (h ρ w args hR ha).mono ?_⟩))
  rintro e w' ⟨v', ρ', rfl, h1, h2, h3⟩
  exact ⟨v', rfl, rfl, ρ', h1, h2, h3⟩

theorem lfun_outc {P : Program} {O : Orc} (hO : O.Sound P) {s : Sem Next} {σ σ' : LState} {ρ : List Loc} {w : World} {fv fv' : Value} {l : List Value} {args : Array Value} {v : Value} (hR : Rel P σ ρ w)
    (hf : ren ρ fv = some fv') (ha : renL ρ l = some args.toList) (h : lfun O fv l σ = some (v, σ')) (hexec : s = (do let d ← Deferred.ofValue fv' args; invoke d.target d.args)) : Outc P s w (Ends P σ ρ w v σ') := by
  unfold lfun at h
  split at h
  · rename_i g first captured
    obtain ⟨f', x, y, h1, h2, h3, rfl⟩ := ren_func_shape hf
    simp [renFn] at h1
    subst h1
    have hargs : renL ρ (first.toList ++ l ++ captured.toList) = some (x ++ args ++ y).toList := by
      simpa using renL_append (renL_append (renA_toList h2) ha) (renA_toList h3)
    have hrun0 : s.run P w = (callFunc g (x ++ args ++ y)).run P w := by
      rw [hexec]; simp [Deferred.ofValue, invoke]
    split at h
    · rename_i r hr
      simp at h
      subst h
      obtain ⟨he, hc⟩ := hO.call _ _ _ _ _ hr
      exact outc_calls hR hc hargs (by rw [hrun0]; exact he _ _)
    · obtain ⟨v', w', ρ', hx, h4, h5, h6⟩ := hO.ext _ _ _ _ _ h ρ w _ hR hargs
      exact .inl ⟨v', w', by rw [hrun0, hx], rfl, ρ', h4, h5, h6⟩
  · rename_i name first captured
    split at h
    · rename_i t z hfl
      have hfirst : first = #[.iface t z] := by apply Array.ext'; simpa using hfl
      subst hfirst
      obtain ⟨f', x, y, h1, h2, h3, rfl⟩ := ren_func_shape hf
      simp [renFn] at h1
      subst h1
      obtain ⟨z2, hz, hz2⟩ := renL_one (renA_toList h2)
      obtain ⟨z', hz3, rfl⟩ := ren_iface hz2
      have hx : x = #[.iface t z'] := by apply Array.ext'; simpa using hz
      subst hx
      split at h
      · rename_i g hm
        obtain ⟨he, hc⟩ := hO.call _ _ _ _ _ h
        have hargs : renL ρ (z :: l) = some (#[z'] ++ args).toList := by
          have := renL_append (a := [z]) (a' := [z']) (by simp [renL, hz3]) ha
          simpa using this
        refine outc_calls hR hc hargs ?_
        rw [hexec]
        have := (hO.meth t name g hm).1 z' w
        have e1 : (#[Value.iface t z'] ++ args)[0]? = some (.iface t z') := by rw [Array.getElem?_append_left (by simp)]; rfl
        have e2 : (#[Value.iface t z'] ++ args).extract 1 (#[Value.iface t z'] ++ args).size = args := by
          apply Array.ext'; simp
        simp only [Deferred.ofValue, Sem.run_bind, Sem.run_pure, Result.andThen_ok, invoke]
        rw [e1, e2]
        simp only [callMethod, Sem.run_bind, run_program, Result.andThen_ok, this]
        exact he _ _
      · simp at h
    · simp at h
  · simp at h

theorem lcallOp_outc {P : Program} {O : Orc} (hO : O.Sound P) {σ σ' : LState} {ρ : List Loc} {w : World} (hR : Rel P σ ρ w) {la : LAct} {a : Act} (hA : ActR ρ la a) {o : Oper} {v : Value} (h : lcallOp P O la σ o = some (v, σ')) :
    Outc P (execOp a.eval o) w (Ends P σ ρ w v σ') := by
  have ev : ∀ {x : Operand} {u : Value}, leval P la x = some u → ren ρ u = some (a.eval x) := fun hx => leval_ren hR hA hx
  unfold lcallOp at h
  split at h
  · rename_i f args _ ho
    split at h
    · rename_i fv l hfv hl
      have h1 : renL ρ l = some (args.map a.eval).toList := by simpa using levals_ren hR hA hl
      exact lfun_outc hO hR (ev hfv) h1 h (by simp only [execOp, ho, resolve])
    · simp at h
  · rename_i r name args _ ho
    split at h
    · rename_i t z l hr hl
      split at h
      · rename_i g hm
        have h1 : renL ρ l = some (args.map a.eval).toList := by simpa using levals_ren hR hA hl
        obtain ⟨z', hz, hz2⟩ := ren_iface (ev hr)
        obtain ⟨he, hc⟩ := hO.call _ _ _ _ _ h
        have hargs : renL ρ (z :: l) = some (#[z'] ++ args.map a.eval).toList := by
          have := renL_append (a := [z]) (a' := [z']) (by simp [renL, hz]) h1
          simpa using this
        refine outc_calls hR hc hargs ?_
        have := (hO.meth t name g hm).1 z' w
        have e1 : (#[Value.iface t z'] ++ args.map a.eval)[0]? = some (.iface t z') := by rw [Array.getElem?_append_left (by simp)]; rfl
        have e2 : ∀ X : Array Value, (#[Value.iface t z'] ++ X).extract 1 (#[Value.iface t z'] ++ X).size = X := fun X => by
          apply Array.ext'; simp
        simp only [execOp, ho, resolve, hz2, Sem.run_bind, Sem.run_pure, Result.andThen_ok, invoke]
        rw [e1, e2]
        simp only [callMethod, Sem.run_bind, run_program, Result.andThen_ok, this]
        exact he _ _
      · simp at h
    · simp at h
  · simp at h

def lop (P : Program) (O : Orc) (la : LAct) (σ : LState) (o : Oper) : Option (Value × LState × List (Value × List Value)) :=
  match lvalQ P O la σ o with
  | some v => some (v, σ, [])
  | none => match lvalW P la σ o with
    | some (v, σ') => some (v, σ', [])
    | none => match lcallOp P O la σ o with
      | some (v, σ') => some (v, σ', [])
      | none => match ldefer P la o with
        | some d => some (undef, σ, [d])
        | none => none

theorem lop_outc {P : Program} {O : Orc} (hO : O.Sound P) {σ σ' : LState} {ρ : List Loc} {w : World} (hR : Rel P σ ρ w) {la : LAct} {a : Act} (hA : ActR ρ la a) {o : Oper} {v : Value} {ds : List (Value × List Value)} (h : lop P O la σ o = some (v, σ', ds)) :
    Outc P (execOp a.eval o) w fun v' dd w' => ∃ ρ', ren ρ' v = some v' ∧ Rel P σ' ρ' w' ∧ Ext σ ρ w σ' ρ' w' ∧ DefsR ρ' ds dd := by
  unfold lop at h
  split at h
  · rename_i u hu
    simp at h
    obtain ⟨rfl, rfl, rfl⟩ := h
    obtain ⟨v', h1, h2⟩ := lvalQ_run hO hR hA hu
    exact .inl ⟨v', w, h1, ρ, h2, hR, Ext.refl _ _ _, trivial⟩
  · split at h
    · rename_i u τ hu
      simp at h
      obtain ⟨rfl, rfl, rfl⟩ := h
      obtain ⟨v', w', ρ', hrun, h1, h2, h3⟩ := lvalW_run hR hA hu
      rcases hrun with hrun | ⟨hrun, rfl⟩
      · exact .inl ⟨v', w', hrun, ρ', h1, h2, h3, trivial⟩
      · exact .inr (.inl ⟨w', hrun, ρ', h1, h2, h3, trivial⟩)
    · split at h
      · rename_i u τ hu
        simp at h
        obtain ⟨rfl, rfl, rfl⟩ := h
        refine (lcallOp_outc hO hR hA hu).mono ?_
        rintro v' dd w' ⟨rfl, ρ', h1, h2, h3⟩
        exact ⟨ρ', h1, h2, h3, trivial⟩
      · split at h
        · rename_i d hd
          simp at h
          obtain ⟨rfl, rfl, rfl⟩ := h
          unfold ldefer at hd
          split at hd
          · rename_i f args _ ho
            split at hd
            · rename_i fn first captured l hf hl
              simp at hd
              subst hd
              have h1 : renL ρ l = some (args.map a.eval).toList := by simpa using levals_ren hR hA hl
              have hev := leval_ren hR hA hf
              obtain ⟨f', x, y, h2, h3, h4, h5⟩ := ren_func_shape hev
              rw [h5] at hev
              have : (execOp a.eval o).run P w = .ok (.defer { target := .fn f' y, args := x ++ args.map a.eval }) w := by
                simp [execOp, ho, resolve, h5, Deferred.ofValue]
              exact .inr (.inr (.inl ⟨_, w, this, ρ, by simp [undef, ren, renA, renL], hR, Ext.refl _ _ _, ⟨f', x, y, _, hev, h1, by rw [Array.toArray_toList]⟩, trivial⟩))
            · simp at hd
          · simp at hd
        · simp at h

theorem lop_wp {P : Program} {O : Orc} (hO : O.Sound P) {σ σ' : LState} {ρ : List Loc} {w : World} (hR : Rel P σ ρ w) {la : LAct} {a : Act} (hA : ActR ρ la a) {o : Oper} {v : Value} {ds : List (Value × List Value)} (h : lop P O la σ o = some (v, σ', ds))
    {K : Act → World → Prop} {Q : Exit → Act → World → Prop}
    (hK : ∀ v' w' ρ' dd, ren ρ' v = some v' → Rel P σ' ρ' w' → Ext σ ρ w σ' ρ' w' → DefsR ρ' ds dd → K (({ a with defers := dd ++ a.defers } : Act).put o.dst v') w') : o.wp P a w K Q :=
  (lop_outc hO hR hA h).wp fun v' dd w' ⟨ρ', h1, h2, h3, h4⟩ => hK v' w' ρ' dd h1 h2 h3 h4

end Go.Lg
end

section
namespace Go.Lg
open Go

abbrev LOut := Option (Value × LState × List (Value × List Value))

def oneQ (σ : LState) (r : Option Value) : LOut := match r with
  | some v => some (v, σ, [])
  | none => none
def oneW (r : Option (Value × LState)) : LOut := match r with
  | some (v, σ') => some (v, σ', [])
  | none => none

def qPick (P : Program) (la : LAct) (c x y : Operand) : Option Value := match leval P la c with
  | some (.bool true) => leval P la x
  | some (.bool false) => leval P la y
  | _ => none
def qLoad (P : Program) (la : LAct) (σ : LState) (t : TypeId) (x : Operand) : Option Value := match leval P la x with
  | some a => lload P σ t a
  | none => none
def qNil (P : Program) (O : Orc) (la : LAct) (x : Operand) : Option Value := match leval P la x with
  | some a => lnilCheck O a
  | none => none
def qField (P : Program) (la : LAct) (s : TypeId) (x : Operand) (f : Nat) : Option Value := match leval P la x with
  | some a => lfieldAddr P s a f
  | none => none
def qIndexAddr (P : Program) (la : LAct) (t : TypeId) (x ix : Operand) : Option Value := match leval P la x, leval P la ix with
  | some a, some i => lindexAddr P t a i
  | _, _ => none
def qExtract (P : Program) (la : LAct) (x : Operand) (i : Nat) : Option Value := match leval P la x with
  | some a => lextract a i
  | none => none
def wStore (P : Program) (la : LAct) (σ : LState) (t : TypeId) (x y : Operand) : LOut := match leval P la x, leval P la y with
  | some a, some v => match lstore P σ t a v with
    | some σ' => some (undef, σ', [])
    | none => none
  | _, _ => none
def xBin (P : Program) (la : LAct) (σ : LState) (o : Oper) (op : BinOp) (t : TypeId) (x y : Operand) : LOut := match leval P la x, leval P la y with
  | some a, some b => match fastBin op a b with
    | some v => some (v, σ, [])
    | none => oneQ σ (lbin P la o op t x y)
  | _, _ => oneQ σ (lbin P la o op t x y)
def xCall (P : Program) (O : Orc) (la : LAct) (σ : LState) (o : Oper) (c : Call) : LOut := match c.callee with
  | .builtin _ => lop P O la σ o
  | _ => oneW (lcallOp P O la σ o)

def lopX (P : Program) (O : Orc) (la : LAct) (σ : LState) (o : Oper) : LOut :=
  match o.op with
  | .move x => oneQ σ (leval P la x)
  | .assign x => oneQ σ (leval P la x)
  | .pick c x y => oneQ σ (qPick P la c x y)
  | .load t x => oneQ σ (qLoad P la σ t x)
  | .nilCheck x => oneQ σ (qNil P O la x)
  | .fieldAddr s x f => oneQ σ (qField P la s x f)
  | .indexAddr t x ix => oneQ σ (qIndexAddr P la t x ix)
  | .extract x i => oneQ σ (qExtract P la x i)
  | .store t x y => wStore P la σ t x y
  | .binOp op t x y _ => xBin P la σ o op t x y
  | .alloc t => oneW (lalloc P σ t)
  | .call c => xCall P O la σ o c
  | _ => lop P O la σ o

theorem lop_quiet {P : Program} {O : Orc} {la : LAct} {σ : LState} {o : Oper} {r : Option Value} (h1 : lvalQ P O la σ o = r) (h2 : lvalW P la σ o = none) (h3 : lcallOp P O la σ o = none) (h4 : ldefer P la o = none) : lop P O la σ o = oneQ σ r := by
  unfold lop oneQ
  rw [h1]
  cases r <;> simp [h2, h3, h4]

theorem lop_write {P : Program} {O : Orc} {la : LAct} {σ : LState} {o : Oper} {r : Option (Value × LState)} (h1 : lvalQ P O la σ o = none) (h2 : lvalW P la σ o = r) (h3 : lcallOp P O la σ o = none) (h4 : ldefer P la o = none) : lop P O la σ o = oneW r := by
  unfold lop oneW
  rw [h1, h2]
  cases r <;> simp [h3, h4]

theorem lopX_eq (P : Program) (O : Orc) (la : LAct) (σ : LState) (o : Oper) : lopX P O la σ o = lop P O la σ o := by
  unfold lopX
  split
  · rename_i ho; exact (lop_quiet (by simp [lvalQ, lfast, lvalQ0, ho]) (by simp [lvalW, ho]) (by simp [lcallOp, ho]) (by simp [ldefer, ho])).symm
  · rename_i ho; exact (lop_quiet (by simp [lvalQ, lfast, lvalQ0, ho]) (by simp [lvalW, ho]) (by simp [lcallOp, ho]) (by simp [ldefer, ho])).symm
  · rename_i ho; exact (lop_quiet (by simp only [lvalQ, lfast, lvalQ0, ho, qPick] <;> rfl) (by simp [lvalW, ho]) (by simp [lcallOp, ho]) (by simp [ldefer, ho])).symm
  · rename_i ho; exact (lop_quiet (by simp only [lvalQ, lfast, lvalQ0, ho, qLoad] <;> rfl) (by simp [lvalW, ho]) (by simp [lcallOp, ho]) (by simp [ldefer, ho])).symm
  · rename_i ho; exact (lop_quiet (by simp only [lvalQ, lfast, lvalQ0, ho, qNil] <;> rfl) (by simp [lvalW, ho]) (by simp [lcallOp, ho]) (by simp [ldefer, ho])).symm
  · rename_i ho; exact (lop_quiet (by simp only [lvalQ, lfast, lvalQ0, ho, qField] <;> rfl) (by simp [lvalW, ho]) (by simp [lcallOp, ho]) (by simp [ldefer, ho])).symm
  · rename_i ho; exact (lop_quiet (by simp only [lvalQ, lfast, lvalQ0, ho, qIndexAddr] <;> rfl) (by simp [lvalW, ho]) (by simp [lcallOp, ho]) (by simp [ldefer, ho])).symm
  · rename_i ho; exact (lop_quiet (by simp only [lvalQ, lfast, lvalQ0, ho, qExtract] <;> rfl) (by simp [lvalW, ho]) (by simp [lcallOp, ho]) (by simp [ldefer, ho])).symm
  · rename_i t x y ho
    have h1 : lvalQ P O la σ o = none := by simp [lvalQ, lfast, lvalQ0, ho]
    have h3 : lcallOp P O la σ o = none := by simp [lcallOp, ho]
    have h4 : ldefer P la o = none := by simp [ldefer, ho]
    unfold lop wStore
    rw [h1, h3, h4]
    simp only [lvalW, ho]
    cases leval P la x <;> cases leval P la y <;> simp
    rename_i a b
    cases lstore P σ t a b <;> simp
  · rename_i op t x y yt ho
    have h2 : lvalW P la σ o = none := by simp [lvalW, ho]
    have h3 : lcallOp P O la σ o = none := by simp [lcallOp, ho]
    have h4 : ldefer P la o = none := by simp [ldefer, ho]
    unfold xBin
    cases hx : leval P la x with
    | none => exact (lop_quiet (by simp only [lvalQ, lfast, lvalQ0, ho, hx]) h2 h3 h4).symm
    | some a =>
      cases hy : leval P la y with
      | none => exact (lop_quiet (by simp only [lvalQ, lfast, lvalQ0, ho, hx, hy]) h2 h3 h4).symm
      | some b =>
        simp only
        cases hf : fastBin op a b with
        | some v => exact (lop_quiet (r := some v) (by simp only [lvalQ, lfast, ho, hx, hy, hf]) h2 h3 h4).symm
        | none => exact (lop_quiet (by simp only [lvalQ, lfast, lvalQ0, ho, hx, hy, hf]) h2 h3 h4).symm
  · rename_i t ho; exact (lop_write (by simp [lvalQ, lfast, lvalQ0, ho]) (by simp only [lvalW, ho]) (by simp [lcallOp, ho]) (by simp [ldefer, ho])).symm
  · rename_i c ho
    unfold xCall
    split
    · rfl
    · rename_i hne
      have h1 : lvalQ P O la σ o = none := by
        obtain ⟨callee, args, tys⟩ := c
        cases callee with
        | builtin b => exact absurd rfl (hne b)
        | _ => simp [lvalQ, lfast, lvalQ0, ho]
      have h2 : lvalW P la σ o = none := by
        obtain ⟨callee, args, tys⟩ := c
        cases callee with
        | builtin b => exact absurd rfl (hne b)
        | _ => simp [lvalW, ho]
      have h4 : ldefer P la o = none := by simp [ldefer, ho]
      unfold lop oneW
      rw [h1, h2]
      cases lcallOp P O la σ o <;> simp [h4]
  · rfl

end Go.Lg
end

section
namespace Go.Lg
open Go

/- ---- a region in the text's order -/

def lwanted (ops : Array Oper) (la : LAct) (o : Oper) : Option Bool :=
  match o.guard with
  | none => some true
  | some (j, want) => match ops[j]? with
    | some oj => match oj.dst with
      | some d => match la.tmps[d]? with
        | some (.bool b) => some (b == want)
        | some (.tuple _) => some false
        | _ => none
      | none => none
    | none => none

theorem lwanted_real {ρ : List Loc} {ops : Array Oper} {la : LAct} {a : Act} (hA : ActR ρ la a) {o : Oper} {b : Bool} (h : lwanted ops la o = some b) : Region.wanted o (yielded ops a.tmps) = b := by
  unfold lwanted at h
  unfold Region.wanted
  cases hg : o.guard with
  | none => simp [hg] at h; simp [h]
  | some jw =>
    obtain ⟨j, want⟩ := jw
    simp only [hg] at h
    cases hj : ops[j]? with
    | none => simp [hj] at h
    | some oj =>
      simp only [hj] at h
      cases hd : oj.dst with
      | none => simp [hd] at h
      | some d =>
        simp only [hd] at h
        split at h
        · rename_i c hc
          simp at h
          obtain ⟨v', h1, h2⟩ := renL_get hA.tmps hc
          simp [ren] at h2
          subst h2
          have h1' : a.tmps[d]? = some (.bool c) := by simpa using h1
          simp [yielded, hj, hd, h1', h]
        · rename_i u hc
          simp at h
          obtain ⟨v', h1, h2⟩ := renL_get hA.tmps hc
          simp only [ren] at h2
          split at h2
          · simp at h2
            subst h2
            have h1' := h1
            rw [Array.getElem?_toList] at h1'
            simp [yielded, hj, hd, h1', h]
          · simp at h2
        · simp at h

def lops (P : Program) (O : Orc) (ops : Array Oper) : List Oper → LAct → LState → Option (LAct × LState)
  | [], la, σ => some (la, σ)
  | o :: r, la, σ => match lwanted ops la o with
    | some true => match lopX P O la σ o with
      | some (v, σ', ds) => lops P O ops r (({ la with defers := ds ++ la.defers } : LAct).put o.dst v) σ'
      | none => none
    | some false => lops P O ops r (la.put o.dst undef) σ
    | none => none

theorem DefsR.append {ρ : List Loc} : ∀ {l l2 : List (Value × List Value)} {m m2 : List Deferred}, DefsR ρ l m → DefsR ρ l2 m2 → DefsR ρ (l ++ l2) (m ++ m2)
  | [], _, [], _, _, h => h
  | _ :: _, _, _ :: _, _, h, k => ⟨h.1, DefsR.append h.2 k⟩

theorem lops_wp {P : Program} {O : Orc} (hO : O.Sound P) {ops : Array Oper} {Q : Exit → Act → World → Prop} : ∀ (l : List Oper) (k : Nat) {la la' : LAct} {σ σ' : LState} {ρ : List Loc} {w : World} {a : Act}, ops.toList.drop k = l → Rel P σ ρ w → ActR ρ la a →
    lops P O ops l la σ = some (la', σ') → (∀ a' w' ρ', Rel P σ' ρ' w' → ActR ρ' la' a' → Ext σ ρ w σ' ρ' w' → Q .normal a' w') → wpOps P ops Q (List.range' k l.length) a w
  | [], k, la, la', σ, σ', ρ, w, a, _, hR, hA, h, hQ => by
    simp [lops] at h
    obtain ⟨rfl, rfl⟩ := h
    simpa [wpOps] using hQ a w ρ hR hA (Ext.refl _ _ _)
  | o :: r, k, la, la', σ, σ', ρ, w, a, hd, hR, hA, h, hQ => by
    have hk : ops[k]? = some o := by
      have : (ops.toList.drop k)[0]? = some o := by rw [hd]; rfl
      simpa [List.getElem?_drop] using this
    have hd2 : ops.toList.drop (k + 1) = r := by
      have : (ops.toList.drop k).drop 1 = r := by rw [hd]; rfl
      simpa [List.drop_drop] using this
    simp only [List.length_cons, List.range'_succ, wpOps, hk]
    simp only [lops] at h
    split at h
    · rename_i hw
      rw [lwanted_real hA hw]
      simp only [if_true]
      split at h
      · rename_i v τ ds hop
        refine .inl (lop_wp hO hR hA (by rw [← lopX_eq]; exact hop) ?_)
        intro v' w' ρ' dd h1 h2 h3 h4
        have hA' : ActR ρ' (({ la with defers := ds ++ la.defers } : LAct).put o.dst v) (({ a with defers := dd ++ a.defers } : Act).put o.dst v') :=
          ActR.put (la := { la with defers := ds ++ la.defers }) (a := { a with defers := dd ++ a.defers }) ⟨renL_mono h3.pre hA.tmps, h4.append (hA.defs.mono h3.pre)⟩ o.dst h1
        exact lops_wp hO r (k + 1) hd2 h2 hA' h fun a' w2 ρ2 h5 h6 h7 => hQ a' w2 ρ2 h5 h6 (h3.trans h7)
      · simp at h
    · rename_i hw
      rw [lwanted_real hA hw]
      simp only [Bool.false_eq_true, if_false]
      exact lops_wp hO r (k + 1) hd2 hR (hA.put o.dst (by simp [undef, ren, renA, renL])) h hQ
    · simp at h

end Go.Lg
end

section
namespace Go.Lg
open Go

/- ---- equality of values, as a Bool -/

mutual
def veq : Value → Value → Bool
  | .bool a, .bool b => a == b
  | .int k n, .int k' n' => decide (k = k') && decide (n = n')
  | .string s, .string t => decide (s.data.toList = t.data.toList)
  | .pointer a, .pointer b => decide (a = b)
  | .slice a n c, .slice b m d => decide (a = b) && n == m && c == d
  | .map a, .map b => decide (a = b)
  | .func f x y, .func g z u => decide (f = g) && veqA x z && veqA y u
  | .nilFunc, .nilFunc => true
  | .iface t v, .iface u x => t == u && veq v x
  | .nilIface, .nilIface => true
  | .agg x, .agg y => veqA x y
  | .tuple x, .tuple y => veqA x y
  | _, _ => false
def veqA : Array Value → Array Value → Bool
  | ⟨a⟩, ⟨b⟩ => veqL a b
def veqL : List Value → List Value → Bool
  | [], [] => true
  | x :: a, y :: b => veq x y && veqL a b
  | _, _ => false
end

mutual
theorem veq_eq : ∀ {x y : Value}, veq x y = true → x = y
  | .bool a, y, h => by cases y <;> simp_all [veq]
  | .int k n, y, h => by cases y <;> simp_all [veq]
  | .float _ _, y, h => by simp [veq] at h
  | .complex _ _ _, y, h => by simp [veq] at h
  | .string s, y, h => by
    cases y with
    | string t =>
      simp [veq] at h
      have : s = t := by cases s; cases t; simp_all
      rw [this]
    | _ => simp [veq] at h
  | .pointer a, y, h => by cases y <;> simp_all [veq]
  | .slice a n c, y, h => by cases y <;> simp_all [veq]
  | .map a, y, h => by cases y <;> simp_all [veq]
  | .chan a, y, h => by cases y <;> simp [veq] at h
  | .func f x z, y, h => by
    cases y with
    | func g u v =>
      simp only [veq, Bool.and_eq_true, decide_eq_true_eq] at h
      rw [h.1.1, veqA_eq h.1.2, veqA_eq h.2]
    | _ => simp [veq] at h
  | .nilFunc, y, h => by cases y <;> simp_all [veq]
  | .iface t v, y, h => by
    cases y with
    | iface u x =>
      simp only [veq, Bool.and_eq_true, beq_iff_eq] at h
      rw [h.1, veq_eq h.2]
    | _ => simp [veq] at h
  | .nilIface, y, h => by cases y <;> simp_all [veq]
  | .agg x, y, h => by
    cases y with
    | agg z => simp only [veq] at h; rw [veqA_eq h]
    | _ => simp [veq] at h
  | .tuple x, y, h => by
    cases y with
    | tuple z => simp only [veq] at h; rw [veqA_eq h]
    | _ => simp [veq] at h
theorem veqA_eq : ∀ {x y : Array Value}, veqA x y = true → x = y
  | ⟨a⟩, ⟨b⟩, h => by simp only [veqA] at h; rw [veqL_eq h]
theorem veqL_eq : ∀ {x y : List Value}, veqL x y = true → x = y
  | [], y, h => by cases y <;> simp_all [veqL]
  | x :: a, [], h => by simp [veqL] at h
  | x :: a, y :: b, h => by
    simp only [veqL, Bool.and_eq_true] at h
    rw [veq_eq h.1, veqL_eq h.2]
end

/- ---- what the order of a region is, as closed data -/

def opTmps : List Operand → List Nat
  | [] => []
  | .tmp t :: l => t :: opTmps l
  | _ :: l => opTmps l

theorem mem_opTmps {t : Nat} : ∀ {l : List Operand}, .tmp t ∈ l → t ∈ opTmps l
  | [], h => by simp at h
  | x :: l, h => by
    rcases List.mem_cons.1 h with rfl | h
    · simp [opTmps]
    · have ih := mem_opTmps h
      cases x <;> simp [opTmps, ih]

/-- The slots that an operation looks at: its operands', and its guard's. -/
def looks (ops : Array Oper) (o : Oper) : List Nat :=
  match o.guard with
  | none => opTmps o.op.operands.toList
  | some (j, _) => match (ops[j]?).bind (·.dst) with
    | some d => d :: opTmps o.op.operands.toList
    | none => opTmps o.op.operands.toList

def union : List Nat → List Nat → List Nat
  | [], l => l
  | x :: r, l => if (union r l).contains x then union r l else x :: union r l

theorem mem_union {x : Nat} : ∀ {a b : List Nat}, x ∈ union a b → x ∈ a ∨ x ∈ b
  | [], b, h => .inr h
  | y :: r, b, h => by
    simp only [union] at h
    split at h
    · rcases mem_union h with h | h
      · exact .inl (List.mem_cons_of_mem _ h)
      · exact .inr h
    · rcases List.mem_cons.1 h with rfl | h
      · exact .inl (by simp)
      · rcases mem_union h with h | h
        · exact .inl (List.mem_cons_of_mem _ h)
        · exact .inr h

/-- All that stands ahead of one operation, out of what stands ahead of the earlier ones. -/
def aheadOf (acc : List (List Nat)) : List Edge → List Nat
  | [] => []
  | e :: r => if Region.binds .any e then union (e.on :: acc.getD e.on []) (aheadOf acc r) else aheadOf acc r

def aheads : List Oper → List (List Nat) → List (List Nat)
  | [], acc => acc
  | o :: r, acc => aheads r (acc ++ [aheadOf acc o.after.toList])

def edgesBack : List Oper → Nat → Bool
  | [], _ => true
  | o :: r, i => (o.after.toList.all fun e => !Region.binds .any e || e.on < i) && edgesBack r (i + 1)

/-- The writer of a slot. -/
def writerOf (t : Nat) : List Oper → Nat → Option Nat
  | [], _ => none
  | o :: r, i => if o.dst == some t then some i else writerOf t r (i + 1)

def dstsOnce : List Oper → Bool
  | [] => true
  | o :: r => (match o.dst with
    | some d => r.all fun p => p.dst != some d
    | none => true) && dstsOnce r

/-- Each operand's writer is ordered against its reader. -/
def looksOrdered (ops : List Oper) (A : List (List Nat)) (i : Nat) : List Nat → Bool
  | [] => true
  | t :: r => (match writerOf t ops 0 with
    | none => true
    | some j => (j == i) || (if j < i then (A.getD i []).contains j else (A.getD j []).contains i)) && looksOrdered ops A i r

def allLooks (arr : Array Oper) (ops : List Oper) (A : List (List Nat)) : List Oper → Nat → Bool
  | [], _ => true
  | o :: r, i => looksOrdered ops A i (looks arr o) && allLooks arr ops A r (i + 1)

def staticOK (ops : Array Oper) : Bool :=
  edgesBack ops.toList 0 && dstsOnce ops.toList && allLooks ops ops.toList (aheads ops.toList []) ops.toList 0

end Go.Lg
end

section
namespace Go.Lg
open Go

def cidx (kind : Nat → Nat) : Nat → Nat
  | 0 => 0
  | i + 1 => cidx kind i + (if 2 ≤ kind i then 1 else 0)

theorem cidx_mono (kind : Nat → Nat) {i j : Nat} (h : i ≤ j) : cidx kind i ≤ cidx kind j := by
  induction h with
  | refl => exact Nat.le_refl _
  | step _ ih => simp only [cidx]; omega

theorem cidx_lt (kind : Nat → Nat) {i j : Nat} (h : i < j) (hk : 2 ≤ kind i) : cidx kind i < cidx kind j := by
  have := cidx_mono kind (show i + 1 ≤ j from h)
  simp only [cidx, if_pos hk] at this
  omega

theorem cidx_hit (kind : Nat → Nat) : ∀ {i m : Nat}, m < cidx kind i → ∃ j, j < i ∧ 2 ≤ kind j ∧ cidx kind j = m
  | 0, m, h => by simp [cidx] at h
  | i + 1, m, h => by
    simp only [cidx] at h
    rcases Nat.lt_or_ge m (cidx kind i) with hm | hm
    · obtain ⟨j, h1, h2, h3⟩ := cidx_hit kind hm
      exact ⟨j, by omega, h2, h3⟩
    · by_cases hk : 2 ≤ kind i
      · rw [if_pos hk] at h
        exact ⟨i, by omega, hk, by omega⟩
      · rw [if_neg hk] at h; omega

theorem cidx_inj (kind : Nat → Nat) {i j : Nat} (hi : 2 ≤ kind i) (hj : 2 ≤ kind j) (h : cidx kind i = cidx kind j) : i = j := by
  rcases Nat.lt_trichotomy i j with hl | hl | hl
  · have := cidx_lt kind hl hi; omega
  · exact hl
  · have := cidx_lt kind hl hj; omega

/- ---- operations that make one new object, and turn nothing else -/

def isFresh : Op → Bool
  | .alloc _ => true
  | .box .. => true
  | .buildSlice .. => true
  | _ => false

/-- The value that stands for a new object. -/
def mkv (sl : Option Nat) (b : Nat) : Value :=
  match sl with
  | none => .pointer (some ⟨b, 0, none⟩)
  | some n => .slice (some ⟨b, 0, none⟩) n n

theorem fresh_spec {P : Program} {la : LAct} {σ σ' : LState} {o : Oper} {v : Value} (hf : isFresh o.op = true) (h : lvalW P la σ o = some (v, σ')) :
    ∃ c e sl, v = mkv sl σ.length ∧ σ' = σ ++ [.cells c e false none] ∧ (∀ n, sl = some n → n < big) ∧ ∀ (τ : LState) (ρ : List Loc) (w : World) (a : Act), Rel P τ ρ w → ActR ρ la a → ∃ c', renL ρ c = some c' ∧ (execOp a.eval o).run P w = .ok (.value (mkv sl w.heap.size)) (w.alloc (.cells c'.toArray e)) := by
  unfold lvalW at h
  split at h
  · rename_i t ho
    unfold lalloc at h
    cases hz : lzero P t with
    | none => simp [hz] at h
    | some z =>
      simp only [hz, lnew, Option.some.injEq, Prod.mk.injEq] at h
      obtain ⟨rfl, rfl⟩ := h
      refine ⟨_, t, none, rfl, rfl, by simp, fun τ ρ w a hR hA => ?_⟩
      obtain ⟨hrun, hfl⟩ := lzero_real hz w
      refine ⟨_, ren_cells (ren_flat ρ hfl), ?_⟩
      simp [execOp, ho, Instr.alloc, hrun, newVar, newRow, mkv]
  · rename_i t x ho
    split at h
    · rename_i u hu
      simp only [lbox, lnew, Option.some.injEq, Prod.mk.injEq] at h
      obtain ⟨rfl, rfl⟩ := h
      refine ⟨_, t, none, rfl, rfl, by simp, fun τ ρ w a hR hA => ?_⟩
      refine ⟨_, ren_cells (leval_ren hR hA hu), ?_⟩
      simp [execOp, ho, Instr.box, newVar, newRow, mkv]
    · simp at h
  · rename_i t len ps ho
    split at h
    · rename_i l hl
      unfold lbuildSlice at h
      split at h
      case h_2 => simp at h
      rename_i e hu
      split at h
      case h_2 => simp at h
      rename_i n z hn hz
      split at h
      case isFalse => simp at h
      rename_i hc
      simp only [Bool.and_eq_true, decide_eq_true_eq] at hc
      obtain ⟨⟨h24, hbig⟩, hfl⟩ := hc
      split at h
      case h_2 => simp at h
      rename_i r hfill
      simp only [Option.some.injEq, Prod.mk.injEq] at h
      obtain ⟨rfl, rfl⟩ := h
      refine ⟨_, e, some len, rfl, rfl, by simpa using hbig, fun τ ρ w a hR hA => ?_⟩
      have hp : PartsR ρ l (ps.map fun (i, x) => (i, a.eval x)).toList := by simpa using lparts_ren hR hA hl
      obtain ⟨hzr, hf⟩ := lzero_real hz w
      obtain ⟨r', hr', hren⟩ := fill_ren _ l _ _ _ r hp (renL_flat ρ hfl) hfill
      refine ⟨r'.toList, hren, ?_⟩
      have hnot : ¬ (len * n > 2 ^ 24) := by omega
      unfold lzs zerosOf at hr'
      have key : (Instr.buildSlice t len (ps.map fun (i, x) => (i, a.eval x))).run P w = .ok (mkv (some len) w.heap.size) (w.alloc (.cells r' e)) := by
        simp only [Instr.buildSlice, Sem.run_bind, run_underlying hu, Result.andThen_ok, run_sizeOf hn]
        rw [if_neg hnot]
        by_cases h0 : len * n = 0
        · rw [if_pos h0] at hr' ⊢
          simp only [Sem.run_bind, Sem.run_pure, Result.andThen_ok, hr', newRow, run_newObj, World.alloc_eq]
          rfl
        · rw [if_neg h0] at hr' ⊢
          simp only [Sem.run_bind, hzr, Sem.run_pure, Result.andThen_ok, hr', newRow, run_newObj, World.alloc_eq]
          rfl
      simp only [execOp, ho, Sem.run_bind, key, Result.andThen_ok, Sem.run_pure, Array.toArray_toList]
    · simp at h
  all_goals (rename_i ho; first | (simp [isFresh, ho] at hf) | (rename_i ho' _; simp [isFresh, ho'] at hf) | skip)
  all_goals simp_all [isFresh]

theorem ren_mkv {ρ : List Loc} {sl : Option Nat} {i b : Nat} (hl : ρ[i]? = some ⟨b, 0, 0⟩) (hb : ∀ n, sl = some n → n < big) : ren ρ (mkv sl i) = some (mkv sl b) := by
  cases sl with
  | none => simp [mkv, ren, hl]
  | some n => simp [mkv, ren, hl, Loc.cap_small _ (hb n rfl)]

/-- The slots that are kept; all others are undefined. -/
def maskL (tmps : List Value) (keep : List Nat) : List Value := keep.foldl (fun m t => m.set t (tmps.getD t undef)) (List.replicate tmps.length undef)

theorem maskL_length_aux (tmps : List Value) : ∀ (keep : List Nat) (m : List Value), (keep.foldl (fun m t => m.set t (tmps.getD t undef)) m).length = m.length
  | [], _ => rfl
  | t :: r, m => by rw [List.foldl_cons, maskL_length_aux tmps r]; simp

theorem maskL_length (tmps : List Value) (keep : List Nat) : (maskL tmps keep).length = tmps.length := by rw [maskL, maskL_length_aux, List.length_replicate]

theorem maskL_aux (tmps : List Value) : ∀ (keep : List Nat) (m : List Value) (t : Nat) (v : Value), (keep.foldl (fun m t => m.set t (tmps.getD t undef)) m)[t]? = some v → (t ∈ keep ∧ v = tmps.getD t undef) ∨ (t ∉ keep ∧ m[t]? = some v)
  | [], m, t, v, h => .inr ⟨by simp, h⟩
  | u :: r, m, t, v, h => by
    rw [List.foldl_cons] at h
    rcases maskL_aux tmps r _ t v h with ⟨h1, h2⟩ | ⟨h1, h2⟩
    · exact .inl ⟨List.mem_cons_of_mem _ h1, h2⟩
    · by_cases hu : u = t
      · subst hu
        have hlt : u < m.length := by have := get_lt h2; simpa using this
        rw [List.getElem?_set_self hlt] at h2
        simp at h2
        exact .inl ⟨by simp, by rw [← h2]; simp⟩
      · rw [List.getElem?_set_ne hu] at h2
        refine .inr ⟨?_, h2⟩
        intro hx
        rcases List.mem_cons.1 hx with e | e
        · exact hu e.symm
        · exact h1 e

theorem maskL_get {tmps : List Value} {keep : List Nat} {t : Nat} {v : Value} (h : (maskL tmps keep)[t]? = some v) : (t ∈ keep ∧ v = tmps.getD t undef) ∨ (t ∉ keep ∧ v = undef) := by
  rcases maskL_aux tmps keep _ t v h with h1 | ⟨h1, h2⟩
  · exact .inl h1
  · refine .inr ⟨h1, ?_⟩
    rw [List.getElem?_replicate] at h2
    split at h2 <;> simp at h2
    exact h2.symm

def mact (la : LAct) (keep : List Nat) : LAct := { tmps := maskL la.tmps keep, defers := [] }

structure Cert (P : Program) (O : Orc) (ops : Array Oper) (A : Nat → List Nat) (lai : Nat → LAct) (val : Nat → Value) (kind : Nat → Nat) (st : Nat → LState) : Prop where
  back : ∀ (i : Nat) (o : Oper) (e : Edge), ops[i]? = some o → e ∈ o.after → Region.binds .any e = true → e.on < i
  ahead : ∀ (i : Nat) (o : Oper) (j : Nat), ops[i]? = some o → j ∈ A i → ∃ e ∈ o.after, Region.binds .any e = true ∧ (j = e.on ∨ j ∈ A e.on)
  once : ∀ (i j : Nat) (o p : Oper) (d : Nat), ops[i]? = some o → ops[j]? = some p → o.dst = some d → p.dst = some d → i = j
  look : ∀ (i : Nat) (o : Oper) (t j : Nat) (p : Oper), ops[i]? = some o → t ∈ looks ops o → ops[j]? = some p → p.dst = some t → j = i ∨ (j < i ∧ j ∈ A i) ∨ (i < j ∧ i ∈ A j)
  next : ∀ (i : Nat) (o : Oper), ops[i]? = some o → lai (i + 1) = (lai i).put o.dst (val i)
  want : ∀ (i : Nat) (o : Oper), ops[i]? = some o → lwanted ops (mact (lai i) (looks ops o)) o = some (kind i != 0)
  kinds : ∀ (i : Nat) (o : Oper), ops[i]? = some o → kind i = 0 ∨ kind i = 1 ∨ kind i = 2 ∨ kind i = 3
  unw : ∀ (i : Nat) (o : Oper), ops[i]? = some o → kind i = 0 → val i = undef
  quiet : ∀ (i : Nat) (o : Oper) (m : Nat), ops[i]? = some o → kind i = 1 → m ≤ cidx kind ops.size → (∀ j ∈ A i, 2 ≤ kind j → cidx kind j < m) → (∀ (j : Nat) (p : Oper), ops[j]? = some p → 2 ≤ kind j → i ∈ A j → m ≤ cidx kind j) →
    lvalQ P O (mact (lai i) (looks ops o)) (st m) o = some (val i)
  chain : ∀ (i j : Nat) (o : Oper), ops[i]? = some o → kind i = 2 → j < i → 2 ≤ kind j → j ∈ A i
  write : ∀ (i : Nat) (o : Oper), ops[i]? = some o → kind i = 2 → lvalW P (mact (lai i) (looks ops o)) (st (cidx kind i)) o = some (val i, st (cidx kind i + 1)) ∨ lcallOp P O (mact (lai i) (looks ops o)) (st (cidx kind i)) o = some (val i, st (cidx kind i + 1))
  fresh : ∀ (i : Nat) (o : Oper), ops[i]? = some o → kind i = 3 → isFresh o.op = true ∧ lvalW P (mact (lai i) (looks ops o)) (st (cidx kind i)) o = some (val i, st (cidx kind i + 1))
  float : ∀ (i j : Nat) (o : Oper), ops[i]? = some o → j ∈ A i → kind j = 3 → ∀ k, k < j → 2 ≤ kind k → k ∈ A i

section
variable {P : Program} {O : Orc} {ops : Array Oper} {A : Nat → List Nat} {lai : Nat → LAct} {val : Nat → Value} {kind : Nat → Nat} {st : Nat → LState}

abbrev On (listed : Array Bool) (i : Nat) : Prop := listed.getD i false = true

theorem Cert.closed (C : Cert P O ops A lai val kind st) {listed : Array Bool} (down : ∀ (i : Nat) (o : Oper) (e : Edge), ops[i]? = some o → On listed i → e ∈ o.after → Region.binds .any e = true → On listed e.on) :
    ∀ (n i : Nat) (o : Oper), i < n → ops[i]? = some o → (∀ e ∈ o.after, Region.binds .any e = true → On listed e.on) → ∀ j ∈ A i, On listed j
  | 0, i, o, hn, _, _, _, _ => by omega
  | n + 1, i, o, hn, ho, hall, j, hj => by
    obtain ⟨e, he, hb, hcase⟩ := C.ahead i o j ho hj
    have hon := hall e he hb
    rcases hcase with rfl | hcase
    · exact hon
    · have hlt := C.back i o e ho he hb
      have hi : i < ops.size := (Array.getElem?_eq_some_iff.1 ho).1
      have hq : ops[e.on]? = some ops[e.on] := Array.getElem?_eq_getElem (by omega)
      exact C.closed down n e.on _ (by omega) hq (fun e' he' hb' => down e.on _ e' hq hon he' hb') j hcase

theorem Cert.lai_get (C : Cert P O ops A lai val kind st) : ∀ (i t : Nat), i ≤ ops.size →
    (lai i).tmps.length = (lai 0).tmps.length ∧ (lai i).defers = (lai 0).defers ∧
    ((∃ j o, j < i ∧ ops[j]? = some o ∧ o.dst = some t ∧ (t < (lai 0).tmps.length → (lai i).tmps[t]? = some (val j))) ∨
      ((∀ j o, j < i → ops[j]? = some o → o.dst ≠ some t) ∧ (lai i).tmps[t]? = (lai 0).tmps[t]?))
  | 0, t, _ => ⟨rfl, rfl, .inr ⟨fun j o h => by omega, rfl⟩⟩
  | i + 1, t, hi => by
    obtain ⟨h1, h2, h3⟩ := C.lai_get i t (by omega)
    have ho : ops[i]? = some ops[i] := Array.getElem?_eq_getElem (by omega)
    have hn := C.next i _ ho
    have hlen : (lai (i + 1)).tmps.length = (lai 0).tmps.length := by
      rw [hn, ← h1]; cases hd : (ops[i]).dst <;> simp [LAct.put]
    have hdef : (lai (i + 1)).defers = (lai 0).defers := by
      rw [hn, ← h2]; cases hd : (ops[i]).dst <;> simp [LAct.put]
    refine ⟨hlen, hdef, ?_⟩
    cases hd : (ops[i]).dst with
    | none =>
      have e : (lai (i + 1)).tmps[t]? = (lai i).tmps[t]? := by rw [hn, hd]; rfl
      rcases h3 with ⟨j, o, a, b, c, d⟩ | ⟨a, b⟩
      · exact .inl ⟨j, o, by omega, b, c, fun ht => by rw [e]; exact d ht⟩
      · refine .inr ⟨fun j o hj hjo => ?_, by rw [e, b]⟩
        rcases Nat.lt_succ_iff_lt_or_eq.1 hj with hj | rfl
        · exact a j o hj hjo
        · rw [ho] at hjo; simp at hjo; rw [← hjo, hd]; simp
    | some d0 =>
      by_cases htd : d0 = t
      · subst htd
        refine .inl ⟨i, _, by omega, ho, hd, fun ht => ?_⟩
        rw [hn, hd]
        show ((lai i).tmps.set d0 (val i))[d0]? = _
        exact List.getElem?_set_self (by rw [h1]; exact ht)
      · have e : (lai (i + 1)).tmps[t]? = (lai i).tmps[t]? := by
          rw [hn, hd]
          show ((lai i).tmps.set d0 (val i))[t]? = _
          exact List.getElem?_set_ne htd
        rcases h3 with ⟨j, o, a, b, c, d⟩ | ⟨a, b⟩
        · exact .inl ⟨j, o, by omega, b, c, fun ht => by rw [e]; exact d ht⟩
        · refine .inr ⟨fun j o hj hjo => ?_, by rw [e, b]⟩
          rcases Nat.lt_succ_iff_lt_or_eq.1 hj with hj | rfl
          · exact a j o hj hjo
          · rw [ho] at hjo; simp at hjo; rw [← hjo, hd]; simpa using htd

/-- What the slots hold when just the listed operations have been carried out; 'm': how far the chain has come: an object made ahead of its turn has no name yet. -/
def Tm (ops : Array Oper) (la0 : LAct) (val : Nat → Value) (kind : Nat → Nat) (m : Nat) (ρ : List Loc) (listed : Array Bool) (a : Act) : Prop :=
  a.tmps.size = la0.tmps.length ∧ ∀ t, t < la0.tmps.length → (∃ j o, ops[j]? = some o ∧ o.dst = some t ∧ kind j = 3 ∧ On listed j ∧ m ≤ cidx kind j) ∨ ∃ v v', a.tmps[t]? = some v' ∧ ren ρ v = some v' ∧
    ((∃ j o, ops[j]? = some o ∧ o.dst = some t ∧ On listed j ∧ v = val j) ∨ ((∀ j o, ops[j]? = some o → o.dst = some t → ¬ On listed j) ∧ la0.tmps[t]? = some v))

/-- An object made ahead of its turn. -/
def Fl (kind : Nat → Nat) (val : Nat → Value) (st : Nat → LState) (la0 : LAct) (ρ : List Loc) (w0 : World) (a : Act) (w : World) (k : Nat) (o : Oper) (b : Nat) : Prop :=
  ∃ c e sl c', val k = mkv sl (st (cidx kind k)).length ∧ st (cidx kind k + 1) = st (cidx kind k) ++ [.cells c e false none] ∧ (∀ n, sl = some n → n < big) ∧
    (∀ d, o.dst = some d → d < la0.tmps.length → a.tmps[d]? = some (mkv sl b)) ∧ renL ρ c = some c' ∧ w.heap[b]? = some (.cells c'.toArray e) ∧ w0.heap.size ≤ b ∧ ∀ (i : Nat) (L : Loc), ρ[i]? = some L → L.block ≠ b

structure Core (P : Program) (ops : Array Oper) (la0 : LAct) (val : Nat → Value) (kind : Nat → Nat) (st : Nat → LState) (ρ0 : List Loc) (w0 : World) (listed : Array Bool) (a : Act) (w : World) (m : Nat) (ρ : List Loc) (fb : Nat → Nat) : Prop where
  le : m ≤ cidx kind ops.size
  rel : Rel P (st m) ρ w
  ext : Ext (st 0) ρ0 w0 (st m) ρ w
  two : ∀ (i : Nat) (o : Oper), ops[i]? = some o → kind i = 2 → (On listed i ↔ cidx kind i < m)
  three : ∀ (i : Nat) (o : Oper), ops[i]? = some o → kind i = 3 → cidx kind i < m → On listed i
  tm : Tm ops la0 val kind m ρ listed a
  defs : DefsR ρ la0.defers a.defers
  fl : ∀ (i : Nat) (o : Oper), ops[i]? = some o → kind i = 3 → On listed i → m ≤ cidx kind i → Fl kind val st la0 ρ w0 a w i o (fb i)
  sep : ∀ (i j : Nat) (o p : Oper), ops[i]? = some o → ops[j]? = some p → kind i = 3 → kind j = 3 → On listed i → On listed j → m ≤ cidx kind i → m ≤ cidx kind j → i ≠ j → fb i ≠ fb j

structure Inv (P : Program) (ops : Array Oper) (A : Nat → List Nat) (la0 : LAct) (val : Nat → Value) (kind : Nat → Nat) (st : Nat → LState) (ρ0 : List Loc) (w0 : World) (listed : Array Bool) (a : Act) (w : World) : Prop where
  size : listed.size = ops.size
  down : ∀ (i : Nat) (o : Oper) (e : Edge), ops[i]? = some o → On listed i → e ∈ o.after → Region.binds .any e = true → On listed e.on
  rest : ∃ m ρ fb, Core P ops la0 val kind st ρ0 w0 listed a w m ρ fb ∧ ∀ (i : Nat) (o : Oper), ops[i]? = some o → kind i = 3 → On listed i → cidx kind i ≠ m

/-- The next of the chain is there already: it is named. -/
theorem Core.name {la0 : LAct} {ρ0 : List Loc} {w0 : World} {listed : Array Bool} {a : Act} {w : World} {m : Nat} {ρ : List Loc} {fb : Nat → Nat} (once : ∀ (i j : Nat) (o p : Oper) (d : Nat), ops[i]? = some o → ops[j]? = some p → o.dst = some d → p.dst = some d → i = j)
    (h : Core P ops la0 val kind st ρ0 w0 listed a w m ρ fb) {i : Nat} {o : Oper} (ho : ops[i]? = some o) (hk : kind i = 3) (hon : On listed i) (hm : cidx kind i = m) :
    Core P ops la0 val kind st ρ0 w0 listed a w (m + 1) (ρ ++ [⟨fb i, 0, 0⟩]) fb := by
  subst hm
  obtain ⟨c, e, sl, c', h1, h2, hbig, h3, h4, h5, h6, h7⟩ := h.fl i o ho hk hon (Nat.le_refl _)
  have hlt : i < ops.size := (Array.getElem?_eq_some_iff.1 ho).1
  have hpre : ρ <+: ρ ++ [(⟨fb i, 0, 0⟩ : Loc)] := List.prefix_append _ _
  have hbw : fb i < w.heap.size := (Array.getElem?_eq_some_iff.1 h5).1
  have cases_ : ∀ (k : Nat) (L : Loc), (ρ ++ [(⟨fb i, 0, 0⟩ : Loc)])[k]? = some L → (ρ[k]? = some L ∧ k < ρ.length) ∨ (k = ρ.length ∧ L = ⟨fb i, 0, 0⟩) := by
    intro k L hL
    rcases Nat.lt_or_ge k ρ.length with hi | hi
    · exact .inl ⟨by rwa [List.getElem?_append_left hi] at hL, hi⟩
    · rw [List.getElem?_append_right hi] at hL
      have h0 := get_lt hL
      simp at h0
      have : k = ρ.length := by omega
      subst this
      simp at hL
      exact .inr ⟨rfl, hL.symm⟩
  have oldo : ∀ (k : Nat) (p : LObj), (st (cidx kind i) ++ [.cells c e false none])[k]? = some p → k < ρ.length → (st (cidx kind i))[k]? = some p := by
    intro k p hp hk
    rwa [List.getElem?_append_left (by rw [← h.rel.len]; exact hk)] at hp
  have hll := renL_length h4
  have hnew : ObjRel P (ρ ++ [⟨fb i, 0, 0⟩]) w ⟨fb i, 0, 0⟩ (.cells c e false none) := by
    refine ⟨c'.toArray, (0, 0), h5, by simp [hll], fun k v hkv => ?_, fun _ k _ => by simp⟩
    obtain ⟨v', h8, h9⟩ := renL_get h4 hkv
    exact ⟨v', by simpa using h8, ren_mono hpre h9⟩
  have hR' : Rel P (st (cidx kind i + 1)) (ρ ++ [⟨fb i, 0, 0⟩]) w := by
    rw [h2]
    refine ⟨by simp [h.rel.len], fun g hg => getElem?_prefix hpre (h.rel.glob g hg), ?_, ?_, ?_, ?_⟩
    · intro k L hL
      rcases cases_ k L hL with ⟨hL, _⟩ | ⟨_, rfl⟩
      · exact h.rel.lt k L hL
      · exact hbw
    · intro k p L hp hL
      rcases cases_ k L hL with ⟨hL, hk⟩ | ⟨rfl, rfl⟩
      · exact (h.rel.obj k p L (oldo k p hp hk) hL).keep hpre rfl
      · rw [h.rel.len] at hp
        simp at hp
        subst hp
        exact hnew
    · intro k j p q L M hp hq hL hM hne hb
      rcases cases_ k L hL with ⟨hL, hi⟩ | ⟨hi, rfl⟩ <;> rcases cases_ j M hM with ⟨hM, hj⟩ | ⟨hj, rfl⟩
      · exact h.rel.sep k j p q L M (oldo k p hp hi) (oldo j q hq hj) hL hM hne hb
      · exact absurd hb (h7 k L hL)
      · exact absurd hb.symm (h7 j M hM)
      · omega
    · intro k c2 e2 ro k2 L hi hL
      rcases cases_ k L hL with ⟨hL, hi2⟩ | ⟨_, rfl⟩
      · exact h.rel.al k c2 e2 ro k2 L (oldo k _ hi hi2) hL
      · simp
  have hE' : Ext (st 0) ρ0 w0 (st (cidx kind i + 1)) (ρ ++ [⟨fb i, 0, 0⟩]) w := by
    refine ⟨h.ext.pre.trans hpre, h.ext.size, h.ext.keep, ?_, h.ext.tape, h.ext.os, h.ext.output, ?_⟩
    · rintro b hb ⟨k, p, L, hp, hL, hw, rfl⟩
      rw [h2] at hp
      rcases cases_ k L hL with ⟨hL, hi⟩ | ⟨_, rfl⟩
      · exact h.ext.own _ hb ⟨k, p, L, oldo k p hp hi, hL, hw, rfl⟩
      · simp only at hb; omega
    · intro k L hL hb
      rcases cases_ k L hL with ⟨hL, _⟩ | ⟨_, rfl⟩
      · exact h.ext.names k L hL hb
      · simp only at hb; omega
  have hle : cidx kind i + 1 ≤ cidx kind ops.size := cidx_lt kind hlt (by omega)
  have other : ∀ {k : Nat}, 2 ≤ kind k → k ≠ i → cidx kind k ≠ cidx kind i := fun hk2 hne hc => hne (cidx_inj kind hk2 (by omega) hc)
  refine ⟨hle, hR', hE', ?_, ?_, ?_, h.defs.mono hpre, ?_, ?_⟩
  · intro k p hp hk2
    rw [h.two k p hp hk2]
    have := other (k := k) (by omega) (fun x => by subst x; omega)
    omega
  · intro k p hp hk3 hc
    by_cases hki : k = i
    · subst hki; exact hon
    · have := other (k := k) (by omega) hki
      exact h.three k p hp hk3 (by omega)
  · refine ⟨h.tm.1, fun t ht => ?_⟩
    by_cases hd : o.dst = some t
    · refine .inr ⟨val i, mkv sl (fb i), h3 t hd ht, ?_, .inl ⟨i, o, ho, hd, hon, rfl⟩⟩
      rw [h1]
      exact ren_mkv (by rw [← h.rel.len]; simp) hbig
    · rcases h.tm.2 t ht with ⟨j, p, hj, hjd, hjk, hjon, hjm⟩ | ⟨v, v', hv1, hv2, hv3⟩
      · have := other (k := j) (by omega) (fun x => by subst x; rw [ho] at hj; simp at hj; subst hj; exact hd hjd)
        exact .inl ⟨j, p, hj, hjd, hjk, hjon, by omega⟩
      · exact .inr ⟨v, v', hv1, ren_mono hpre hv2, hv3⟩
  · intro k p hp hk3 hkon hkm
    obtain ⟨c2, e2, sl2, c2', g1, g2, gb, g3, g4, g5, g6, g7⟩ := h.fl k p hp hk3 hkon (by omega)
    refine ⟨c2, e2, sl2, c2', g1, g2, gb, g3, renL_mono hpre g4, g5, g6, fun n L hL => ?_⟩
    rcases cases_ n L hL with ⟨hL, _⟩ | ⟨_, rfl⟩
    · exact g7 n L hL
    · exact h.sep i k o p ho hp hk hk3 hon hkon (Nat.le_refl _) (by omega) (fun x => by subst x; omega)
  · intro k j p q hp hq hk3 hj3 hkon hjon hkm hjm hne
    exact h.sep k j p q hp hq hk3 hj3 hkon hjon (by omega) (by omega) hne

theorem Core.normal {la0 : LAct} {ρ0 : List Loc} {w0 : World} {listed : Array Bool} {a : Act} {w : World} (once : ∀ (i j : Nat) (o p : Oper) (d : Nat), ops[i]? = some o → ops[j]? = some p → o.dst = some d → p.dst = some d → i = j) :
    ∀ (n m : Nat) (ρ : List Loc) (fb : Nat → Nat), cidx kind ops.size - m ≤ n → Core P ops la0 val kind st ρ0 w0 listed a w m ρ fb →
      ∃ m ρ fb, Core P ops la0 val kind st ρ0 w0 listed a w m ρ fb ∧ ∀ (i : Nat) (o : Oper), ops[i]? = some o → kind i = 3 → On listed i → cidx kind i ≠ m := by
  intro n
  induction n with
  | zero =>
    intro m ρ fb hn h
    refine ⟨m, ρ, fb, h, fun i o ho hk _ hc => ?_⟩
    have hlt : i < ops.size := (Array.getElem?_eq_some_iff.1 ho).1
    have := cidx_lt kind hlt (by omega)
    omega
  | succ n ih =>
    intro m ρ fb hn h
    by_cases hx : ∃ (i : Nat) (o : Oper), ops[i]? = some o ∧ kind i = 3 ∧ On listed i ∧ cidx kind i = m
    · obtain ⟨i, o, ho, hk, hon, hc⟩ := hx
      exact ih (m + 1) _ fb (by omega) (h.name once ho hk hon hc)
    · exact ⟨m, ρ, fb, h, fun i o ho hk hon hc => hx ⟨i, o, ho, hk, hon, hc⟩⟩

def unl (n : Nat) (listed : Array Bool) : Nat := (List.range n).countP fun i => !listed.getD i true

theorem countP_drop {p q : Nat → Bool} {i : Nat} : ∀ {l : List Nat}, i ∈ l → (∀ x, q x = true → p x = true) → p i = true → q i = false → l.countP q < l.countP p
  | [], h, _, _, _ => by simp at h
  | x :: l, h, himp, hp, hq => by
    have hle : l.countP q ≤ l.countP p := List.countP_mono_left fun y _ => himp y
    rcases List.mem_cons.1 h with rfl | h
    · rw [List.countP_cons, List.countP_cons, hp, hq]; simp; omega
    · have := countP_drop h himp hp hq
      rw [List.countP_cons, List.countP_cons]
      by_cases hqx : q x = true
      · rw [if_pos hqx, if_pos (himp x hqx)]; omega
      · rw [if_neg hqx]; split <;> omega

theorem wpOp_of {Q : Exit → Act → World → Prop} {i : Nat} {o : Oper} (ho : ops[i]? = some o) {K : Act → World → Prop} {a : Act} {w : World} {b : Bool} (hw : Region.wanted o (yielded ops a.tmps) = b) (h : if b = true then o.wp P a w K Q else K (a.put o.dst undef) w) :
    wpOp P ops Q i K a w := by
  unfold wpOp
  simp only [ho, hw]
  cases b
  · simpa using h
  · simp only [if_true] at h ⊢; exact .inl h

/-- The slots that an operation looks at, in the real frame and in the masked one. -/
theorem masked {la : LAct} {ρ : List Loc} {a : Act} {keep : List Nat} (hs : a.tmps.size = la.tmps.length) (h : ∀ t, t ∈ keep → t < la.tmps.length → ∃ v', a.tmps[t]? = some v' ∧ ren ρ (la.tmps.getD t undef) = some v') :
    ∃ a' : Act, ActR ρ (mact la keep) a' ∧ ∀ t, t ∈ keep → a'.tmps.getD t undef = a.tmps.getD t undef ∧ a'.tmps[t]? = a.tmps[t]? := by
  refine ⟨{ tmps := ((List.range la.tmps.length).map fun t => if t ∈ keep then a.tmps.getD t undef else undef).toArray, defers := [] }, ⟨?_, trivial⟩, ?_⟩
  · refine renL_of_get (by simp [mact, maskL_length]) fun t v hv => ?_
    have hlt : t < la.tmps.length := by have := get_lt hv; simpa [mact, maskL_length] using this
    rcases maskL_get hv with ⟨h1, h2⟩ | ⟨h1, h2⟩
    · obtain ⟨v', h3, h4⟩ := h t h1 hlt
      exact ⟨v', by simp [hlt, h1, h3], by rw [h2]; exact h4⟩
    · exact ⟨undef, by simp [hlt, h1], by rw [h2]; simp [undef, ren, renA, renL]⟩
  · intro t ht
    rcases Nat.lt_or_ge t la.tmps.length with hlt | hge
    · obtain ⟨v', h3, _⟩ := h t ht hlt
      simp [hlt, ht, h3]
    · have h1 : a.tmps[t]? = none := by simp; omega
      have h2 : (((List.range la.tmps.length).map fun t => if t ∈ keep then a.tmps.getD t undef else undef).toArray)[t]? = none := by simp; omega
      constructor
      · have e : ∀ x : Array Value, x.getD t undef = x[t]?.getD undef := fun x => by simp
        rw [e, e, h1, h2]
      · rw [h1, h2]


theorem Cert.sound (C : Cert P O ops A lai val kind st) (hO : O.Sound P) {ρ0 : List Loc} {w0 : World} {Q : Exit → Act → World → Prop}
    (hQ : ∀ a' w' ρ', Rel P (st (cidx kind ops.size)) ρ' w' → ActR ρ' (lai ops.size) a' → Ext (st 0) ρ0 w0 (st (cidx kind ops.size)) ρ' w' → Q .normal a' w') :
    ∀ (fuel : Nat) (listed : Array Bool) (a : Act) (w : World), unl ops.size listed ≤ fuel → Inv P ops A (lai 0) val kind st ρ0 w0 listed a w → wpAny P .any ops Q fuel listed a w := by
  -- where nothing is ready all is done
  have done : ∀ (listed : Array Bool) (a : Act) (w : World), Inv P ops A (lai 0) val kind st ρ0 w0 listed a w → Region.ready .any ops listed = [] → Q .normal a w := by
    intro listed a w I hnil
    have all : ∀ (n i : Nat) (o : Oper), i < n → ops[i]? = some o → On listed i := by
      intro n
      induction n with
      | zero => intro i o hi; omega
      | succ n ih =>
        intro i o hi ho
        rcases Nat.lt_succ_iff_lt_or_eq.1 hi with hi | rfl
        · exact ih i o hi ho
        · have hlt : i < ops.size := (Array.getElem?_eq_some_iff.1 ho).1
          have hnot : i ∉ Region.ready .any ops listed := by rw [hnil]; simp
          rw [mem_ready] at hnot
          have hbk : ∀ e ∈ o.after, Region.binds .any e = true → listed.getD e.on false = true := fun e he hb => by
            have hlt2 := C.back i o e ho he hb
            exact ih e.on ops[e.on] hlt2 (Array.getElem?_eq_getElem (by omega))
          have hnf : listed.getD i true ≠ false := fun hf => hnot ⟨hf, o, ho, hbk⟩
          have hs := I.size
          have hx : listed[i]? = some listed[i] := Array.getElem?_eq_getElem (by omega)
          simp only [On, Array.getD_eq_getD_getElem?, hx, Option.getD_some] at hnf ⊢
          simpa using hnf
    obtain ⟨m, ρ, fb, hC, hnorm⟩ := I.rest
    have hmK : m = cidx kind ops.size := by
      have hm := hC.le
      rcases Nat.lt_or_ge m (cidx kind ops.size) with h | h
      · obtain ⟨j, h1, h2, h3⟩ := cidx_hit kind h
        have hj : ops[j]? = some ops[j] := Array.getElem?_eq_getElem h1
        have hon := all ops.size j _ h1 hj
        rcases C.kinds j _ hj with hk | hk | hk | hk
        · omega
        · omega
        · have := (hC.two j _ hj hk).1 hon
          omega
        · exact absurd h3 (hnorm j _ hj hk hon)
      · omega
    subst hmK
    refine hQ a w ρ hC.rel ⟨?_, ?_⟩ hC.ext
    · obtain ⟨hsz, hget⟩ := hC.tm
      refine renL_of_get (by rw [(C.lai_get ops.size 0 (Nat.le_refl _)).1]; simpa using hsz) fun t v hv => ?_
      obtain ⟨hl, _, hcase⟩ := C.lai_get ops.size t (Nat.le_refl _)
      have ht : t < (lai 0).tmps.length := by have := get_lt hv; omega
      rcases hget t ht with ⟨j, p, hj, _, hjk, _, hjm⟩ | ⟨u, v', h1, h2, h3⟩
      · have := cidx_lt kind ((Array.getElem?_eq_some_iff.1 hj).1) (show 2 ≤ kind j by omega)
        omega
      refine ⟨v', by simpa using h1, ?_⟩
      rcases hcase with ⟨j, o, hj, hjo, hjd, hjv⟩ | ⟨hno, hsame⟩
      · have e1 := hjv ht
        rw [hv] at e1
        simp at e1
        rcases h3 with ⟨k, p, hk, hkd, _, rfl⟩ | ⟨hnone, _⟩
        · rw [C.once j k o p t hjo hk hjd hkd] at e1
          rw [e1]; exact h2
        · exact absurd (all ops.size j o hj hjo) (hnone j o hjo hjd)
      · rcases h3 with ⟨k, p, hk, hkd, _, rfl⟩ | ⟨_, h4⟩
        · exact absurd hkd (hno k p ((Array.getElem?_eq_some_iff.1 hk).1) hk)
        · rw [hsame] at hv
          rw [hv] at h4
          simp at h4
          rw [h4]; exact h2
    · rw [(C.lai_get ops.size 0 (Nat.le_refl _)).2.1]; exact hC.defs
  intro fuel
  induction fuel with
  | zero =>
    intro listed a w hu I
    have hnil : Region.ready .any ops listed = [] := by
      apply List.eq_nil_iff_forall_not_mem.2
      intro i hi
      rw [mem_ready] at hi
      obtain ⟨hf, o, ho, _⟩ := hi
      have hlt : i < ops.size := (Array.getElem?_eq_some_iff.1 ho).1
      have : 0 < unl ops.size listed := List.countP_pos_iff.2 ⟨i, by simpa using hlt, by simp only [hf]; rfl⟩
      omega
    exact ⟨hnil, done listed a w I hnil⟩
  | succ fuel ih =>
    intro listed a w hu I
    refine ⟨fun hnil => done listed a w I hnil, fun i hi => ?_⟩
    rw [mem_ready] at hi
    obtain ⟨hf, o, ho, hbk⟩ := hi
    have hlt : i < ops.size := (Array.getElem?_eq_some_iff.1 ho).1
    have hsize := I.size
    have hni : ¬ On listed i := by
      intro hx
      have hy : listed[i]? = some listed[i] := Array.getElem?_eq_getElem (by omega)
      simp only [On, Array.getD_eq_getD_getElem?, hy, Option.getD_some] at hx hf
      rw [hx] at hf; simp at hf
    have hA := C.closed I.down (ops.size) i o hlt ho (fun e he hb => hbk e he hb)
    have hAj : ∀ (j : Nat) (p : Oper), ops[j]? = some p → On listed j → ∀ k ∈ A j, On listed k := fun j p hp hj k hk =>
      C.closed I.down ops.size j p ((Array.getElem?_eq_some_iff.1 hp).1) hp (fun e he hb => I.down j p e hp hj he hb) k hk
    obtain ⟨m, ρ, fb, hC, hnorm⟩ := I.rest
    have hm := hC.le
    have hR := hC.rel
    have htm := hC.tm
    have hdef := hC.defs
    -- all of the chain ahead of a moment is done, and the moment has come
    have come : ∀ (j : Nat), (∀ k, k < j → 2 ≤ kind k → On listed k) → j ≤ ops.size → cidx kind j ≤ m := by
      intro j hall hjs
      rcases Nat.lt_or_ge m (cidx kind j) with h | h
      · obtain ⟨k, h1, h2, h3⟩ := cidx_hit kind h
        have hk : ops[k]? = some ops[k] := Array.getElem?_eq_getElem (by omega)
        have hon := hall k h1 h2
        rcases C.kinds k _ hk with hkk | hkk | hkk | hkk
        · omega
        · omega
        · have := (hC.two k _ hk hkk).1 hon
          omega
        · exact absurd h3 (hnorm k _ hk hkk hon)
      · exact h
    have onlt : ∀ {j : Nat}, On listed j → j < ops.size := by
      intro j hj
      rcases Nat.lt_or_ge j ops.size with h | h
      · exact h
      · simp only [On, Array.getD_eq_getD_getElem?] at hj
        rw [Array.getElem?_eq_none (by omega)] at hj
        simp at hj
    -- what stands ahead and makes an object has its name
    have named : ∀ j, j ∈ A i → kind j = 3 → cidx kind j < m := by
      intro j hj hk3
      have hjon := hA j hj
      have hjl := onlt hjon
      have h1 := come j (fun k hk hk2 => hA k (C.float i j o ho hj hk3 k hk hk2)) (by omega)
      have h2 := hnorm j _ (Array.getElem?_eq_getElem hjl) hk3 hjon
      omega
    have on_new : ∀ j, On (listed.setIfInBounds i true) j ↔ (On listed j ∨ j = i) := by
      intro j
      by_cases hji : i = j
      · subst hji
        simp [On, hsize, hlt]
      · simp only [On]
        rw [getD_set_ne _ hji]
        constructor
        · exact .inl
        · rintro (h | h)
          · exact h
          · exact absurd h.symm hji
    have hunl : unl ops.size (listed.setIfInBounds i true) ≤ fuel := by
      have : unl ops.size (listed.setIfInBounds i true) < unl ops.size listed := by
        refine countP_drop (i := i) (by simpa using hlt) (fun x hx => ?_) (by simp only [hf]; rfl) (by simp [hsize, hlt])
        by_cases hxi : i = x
        · subst hxi; simp [hsize, hlt] at hx
        · rw [getD_set_ne _ hxi] at hx; exact hx
      omega
    have down' : ∀ (j : Nat) (p : Oper) (e : Edge), ops[j]? = some p → On (listed.setIfInBounds i true) j → e ∈ p.after → Region.binds .any e = true → On (listed.setIfInBounds i true) e.on := by
      intro j p e hp hj he hb
      rw [on_new] at hj ⊢
      rcases hj with hj | rfl
      · exact .inl (I.down j p e hp hj he hb)
      · rw [ho] at hp
        simp at hp
        subst hp
        exact .inl (hbk e he hb)
    -- what the operation looks at is as in the text's order
    have hlook : ∀ t, t ∈ looks ops o → t < (lai i).tmps.length → ∃ v', a.tmps[t]? = some v' ∧ ren ρ ((lai i).tmps.getD t undef) = some v' := by
      intro t ht htl
      obtain ⟨hl, _, hcase⟩ := C.lai_get i t (by omega)
      rcases htm.2 t (by omega) with ⟨j, p, hj, hjd, hjk, hjon, hjm⟩ | ⟨u, v', h1, h2, h3⟩
      · rcases C.look i o t j p ho ht hj hjd with rfl | ⟨_, h⟩ | ⟨_, h⟩
        · exact absurd hjon hni
        · have := named j h hjk; omega
        · exact absurd (hAj j p hj hjon i h) hni
      refine ⟨v', h1, ?_⟩
      rcases h3 with ⟨j, p, hj, hjd, hon, rfl⟩ | ⟨hnone, h4⟩
      · have hji : j < i := by
          rcases C.look i o t j p ho ht hj hjd with rfl | ⟨h, _⟩ | ⟨_, h⟩
          · exact absurd hon hni
          · exact h
          · exact absurd (hAj j p hj hon i h) hni
        rcases hcase with ⟨k, q, hk, hkq, hkd, hkv⟩ | ⟨hno, _⟩
        · have e1 := hkv (by omega)
          rw [C.once k j q p t hkq hj hkd hjd] at e1
          simp only [List.getD_eq_getElem?_getD, e1, Option.getD_some]
          exact h2
        · exact absurd hjd (hno j p hji hj)
      · have e1 : (lai i).tmps[t]? = (lai 0).tmps[t]? := by
          rcases hcase with ⟨k, q, hk, hkq, hkd, hkv⟩ | ⟨_, hsame⟩
          · rcases C.look i o t k q ho ht hkq hkd with rfl | ⟨_, h⟩ | ⟨h, _⟩
            · omega
            · exact absurd (hA k h) (hnone k q hkq hkd)
            · omega
          · exact hsame
        simp only [List.getD_eq_getElem?_getD, e1, h4, Option.getD_some]
        exact h2
    obtain ⟨a', hA', hsame⟩ := masked (la := lai i) (ρ := ρ) (keep := looks ops o) (by rw [htm.1, (C.lai_get i 0 (by omega)).1]) hlook
    have hwant : Region.wanted o (yielded ops a.tmps) = (kind i != 0) := by
      rw [← lwanted_real hA' (C.want i o ho)]
      unfold Region.wanted
      cases hg : o.guard with
      | none => rfl
      | some jw =>
        obtain ⟨j, want⟩ := jw
        have : yielded ops a.tmps j = yielded ops a'.tmps j := by
          unfold yielded
          cases hd : (ops[j]?).bind (·.dst) with
          | none => rfl
          | some d =>
            have hd' : d ∈ looks ops o := by simp [looks, hg, hd]
            simp only [Option.bind_some]
            rw [(hsame d hd').2]
        simp only [this]
    have hexec : ∀ (hs : ∀ cs b, o.op ≠ .select cs b), execOp a.eval o = execOp a'.eval o := fun hs => execOp_congr o hs fun x hx => by
      cases x with
      | tmp t =>
        have ht : t ∈ looks ops o := by
          have := mem_opTmps (t := t) (l := o.op.operands.toList) (by simpa using hx)
          unfold looks
          split
          · exact this
          · split
            · exact List.mem_cons_of_mem _ this
            · exact this
        exact (hsame t ht).1.symm
      | _ => rfl
    -- the new state, where the operation makes no object ahead of its turn
    have step : ∀ (m' : Nat) (ρ' : List Loc) (w' : World) (v' : Value), kind i ≠ 3 → (m' = m ∨ (m' = m + 1 ∧ kind i = 2 ∧ cidx kind i = m)) → m' ≤ cidx kind ops.size → Rel P (st m') ρ' w' → Ext (st m) ρ w (st m') ρ' w' → ren ρ' (val i) = some v' →
        (kind i = 2 → m' = m + 1) → wpAny P .any ops Q fuel (listed.setIfInBounds i true) (a.put o.dst v') w' := by
      intro m' ρ' w' v' hk3 hmm hm' hR' hE' hv' hk2
      have hput : ∀ t, o.dst ≠ some t → (a.put o.dst v').tmps[t]? = a.tmps[t]? := by
        intro t hd
        cases hd2 : o.dst with
        | none => rfl
        | some d => exact Array.getElem?_setIfInBounds_ne (fun x => hd (by rw [hd2, x]))
      have noti : ∀ {k : Nat} {p : Oper}, ops[k]? = some p → kind k = 3 → k ≠ i := fun _ hk x => by subst x; exact hk3 hk
      have stay : ∀ {k : Nat}, kind k = 3 → m ≤ cidx kind k → m' ≤ cidx kind k := by
        intro k hk hle
        rcases hmm with rfl | ⟨rfl, hi2, hci⟩
        · exact hle
        · have : cidx kind k ≠ cidx kind i := fun x => by
            have := cidx_inj kind (by omega) (by omega) x
            subst this; omega
          omega
      have hcore : Core P ops (lai 0) val kind st ρ0 w0 (listed.setIfInBounds i true) (a.put o.dst v') w' m' ρ' fb := by
        refine ⟨hm', hR', hC.ext.trans hE', ?_, ?_, ?_, ?_, ?_, ?_⟩
        · intro k q hk hkk
          rw [on_new]
          by_cases hki : k = i
          · subst hki
            have := hk2 hkk
            rcases hmm with h | ⟨_, _, h⟩
            · omega
            · exact ⟨fun _ => by omega, fun _ => .inr rfl⟩
          · rw [hC.two k q hk hkk]
            rcases hmm with rfl | ⟨rfl, hi2, hci⟩
            · exact ⟨fun h => h.resolve_right hki, .inl⟩
            · have : cidx kind k ≠ cidx kind i := fun x => hki (cidx_inj kind (by omega) (by omega) x)
              constructor
              · rintro (h | h)
                · omega
                · exact absurd h hki
              · intro h; exact .inl (by omega)
        · intro k q hk hkk hc
          rw [on_new]
          refine .inl (hC.three k q hk hkk ?_)
          rcases hmm with rfl | ⟨rfl, hi2, hci⟩
          · exact hc
          · have : cidx kind k ≠ cidx kind i := fun x => noti hk hkk (cidx_inj kind (by omega) (by omega) x)
            omega
        · refine ⟨by rw [← htm.1]; cases hd : o.dst <;> simp [Act.put], fun t ht => ?_⟩
          by_cases hd : o.dst = some t
          · have hlt2 : t < a.tmps.size := by rw [htm.1]; exact ht
            exact .inr ⟨val i, v', by simp [Act.put, hd, hlt2], hv', .inl ⟨i, o, ho, hd, by rw [on_new]; exact .inr rfl, rfl⟩⟩
          · rcases htm.2 t ht with ⟨j, p, hj, hjd, hjk, hjon, hjm⟩ | ⟨u, u', h1, h2, h3⟩
            · exact .inl ⟨j, p, hj, hjd, hjk, by rw [on_new]; exact .inl hjon, stay hjk hjm⟩
            · refine .inr ⟨u, u', by rw [hput t hd]; exact h1, ren_mono hE'.pre h2, ?_⟩
              rcases h3 with ⟨j, p, hj, hjd, hon, rfl⟩ | ⟨hnone, h4⟩
              · exact .inl ⟨j, p, hj, hjd, by rw [on_new]; exact .inl hon, rfl⟩
              · refine .inr ⟨fun j p hj hjd hon => ?_, h4⟩
                rw [on_new] at hon
                rcases hon with hon | rfl
                · exact hnone j p hj hjd hon
                · rw [ho] at hj; simp at hj; subst hj; exact hd hjd
        · have : (a.put o.dst v').defers = a.defers := by cases hd : o.dst <;> rfl
          rw [this]
          exact hdef.mono hE'.pre
        · intro k q hk hkk hkon hkm
          rw [on_new] at hkon
          have hki := noti hk hkk
          have hkon := hkon.resolve_right hki
          have hkm2 : m ≤ cidx kind k := by rcases hmm with rfl | ⟨rfl, _, _⟩ <;> omega
          obtain ⟨c2, e2, sl2, c2', g1, g2, gb, g3, g4, g5, g6, g7⟩ := hC.fl k q hk hkk hkon hkm2
          have hbw : fb k < w.heap.size := (Array.getElem?_eq_some_iff.1 g5).1
          refine ⟨c2, e2, sl2, c2', g1, g2, gb, fun d hd hdl => ?_, renL_mono hE'.pre g4, ?_, g6, fun n L hL hb => ?_⟩
          · rw [hput d (fun x => hki (C.once k i q o d hk ho hd x))]
            exact g3 d hd hdl
          · rw [hE'.keep _ hbw (fun ⟨n, p, L, _, hL, _, hb⟩ => g7 n L hL hb)]
            exact g5
          · obtain ⟨j, M, h1, h2⟩ := hE'.names n L hL (by rw [hb]; exact hbw)
            exact g7 j M h1 (h2.trans hb)
        · intro k j p q hp hq hk3' hj3 hkon hjon hkm hjm hne
          rw [on_new] at hkon hjon
          have h1 : m ≤ cidx kind k := by rcases hmm with rfl | ⟨rfl, _, _⟩ <;> omega
          have h2 : m ≤ cidx kind j := by rcases hmm with rfl | ⟨rfl, _, _⟩ <;> omega
          exact hC.sep k j p q hp hq hk3' hj3 (hkon.resolve_right (noti hp hk3')) (hjon.resolve_right (noti hq hj3)) h1 h2 hne
      exact ih _ _ _ hunl ⟨by simp [hsize], down', Core.normal C.once _ m' ρ' fb (Nat.le_refl _) hcore⟩
    rcases C.kinds i o ho with hk | hk | hk | hk
    · -- it is not wanted
      refine wpOp_of ho (b := false) (by rw [hwant, hk]; rfl) ?_
      simp only [Bool.false_eq_true, if_false]
      exact step m ρ w undef (by omega) (.inl rfl) hm hR (Ext.refl _ _ _) (by rw [C.unw i o ho hk]; simp [undef, ren, renA, renL]) (by omega)
    · -- it turns nothing
      have hq := C.quiet i o m ho hk hm (fun j hj hj2 => by
        have hjon := hA j hj
        have hjl := onlt hjon
        rcases C.kinds j _ (Array.getElem?_eq_getElem hjl) with h | h | h | h
        · omega
        · omega
        · exact (hC.two j _ (Array.getElem?_eq_getElem hjl) h).1 hjon
        · exact named j hj h) (fun j p hp hj2 hij => by
        rcases Nat.lt_or_ge (cidx kind j) m with h | h
        · have hjon : On listed j := by
            rcases C.kinds j p hp with hk' | hk' | hk' | hk'
            · omega
            · omega
            · exact (hC.two j p hp hk').2 h
            · exact hC.three j p hp hk' h
          exact absurd (hAj j p hp hjon i hij) hni
        · exact h)
      refine wpOp_of ho (b := true) (by rw [hwant, hk]; rfl) ?_
      simp only [if_true]
      obtain ⟨v', hrun, hv'⟩ := lvalQ_run hO hR hA' hq
      have hsel : ∀ cs b, o.op ≠ .select cs b := by
        exact lvalQ_select hq
      rw [← hexec hsel] at hrun
      unfold Oper.wp
      rw [hrun, Oper.upon_value]
      exact step m ρ w v' (by omega) (.inl rfl) hm hR (Ext.refl _ _ _) hv' (by omega)
    · -- it writes, or calls: it is the next one of the chain
      have hmi : m = cidx kind i := by
        have h1 : ¬ cidx kind i < m := fun h => hni ((hC.two i o ho hk).2 h)
        have h2 := come i (fun k hk1 hk2 => hA k (C.chain i k o ho hk hk1 hk2)) (by omega)
        omega
      have hK : cidx kind i + 1 ≤ cidx kind ops.size := cidx_lt kind hlt (by omega)
      refine wpOp_of ho (b := true) (by rw [hwant, hk]; rfl) ?_
      simp only [if_true]
      have hwr := C.write i o ho hk
      rw [← hmi] at hwr
      have hsel : ∀ cs b, o.op ≠ .select cs b := by
        intro cs b hx
        rcases hwr with h | h
        · simp [lvalW, hx] at h
        · simp [lcallOp, hx] at h
      have fin : Outc P (execOp a.eval o) w (Ends P (st m) ρ w (val i) (st (m + 1))) := by
        rw [hexec hsel]
        rcases hwr with h | h
        · obtain ⟨v', w', ρ', hrun, h1, h2, h3⟩ := lvalW_run hR hA' h
          rcases hrun with hrun | ⟨hrun, rfl⟩
          · exact .inl ⟨v', w', hrun, rfl, ρ', h1, h2, h3⟩
          · exact .inr (.inl ⟨w', hrun, rfl, ρ', h1, h2, h3⟩)
        · exact lcallOp_outc hO hR hA' h
      refine fin.wp ?_
      rintro v' dd w' ⟨rfl, ρ', h1, h2, h3⟩
      exact step (m + 1) ρ' w' v' (by omega) (.inr ⟨rfl, hk, hmi.symm⟩) (by omega) h2 h3 h1 (fun _ => rfl)
    · -- it makes one new object
      refine wpOp_of ho (b := true) (by rw [hwant, hk]; rfl) ?_
      simp only [if_true]
      obtain ⟨hfr, hwr⟩ := C.fresh i o ho hk
      have hsel : ∀ cs b, o.op ≠ .select cs b := by
        intro cs b hx
        simp [lvalW, hx] at hwr
      obtain ⟨c, e, sl, h1, h2, hbig, hrun⟩ := fresh_spec hfr hwr
      obtain ⟨c', hc', hrun⟩ := hrun _ ρ w a' hR hA'
      rw [← hexec hsel] at hrun
      unfold Oper.wp
      rw [hrun, Oper.upon_value]
      let w' := w.alloc (.cells c'.toArray e)
      have hold : ∀ k, k < w.heap.size → w'.heap[k]? = w.heap[k]? := fun k hk => heap_alloc_old w _ k hk
      have hsz : w'.heap.size = w.heap.size + 1 := by simp [w']
      obtain ⟨hR', hE'⟩ := hR.grown (w' := w') (by omega) hold rfl rfl rfl
      let fb' : Nat → Nat := fun k => if k = i then w.heap.size else fb k
      have fbi : fb' i = w.heap.size := by simp [fb']
      have fbk : ∀ {k : Nat}, k ≠ i → fb' k = fb k := fun h => by simp [fb', h]
      have hmle : m ≤ cidx kind i := by
        rcases Nat.lt_or_ge (cidx kind i) m with h | h
        · exact absurd (hC.three i o ho hk h) hni
        · exact h
      have hput : ∀ t, o.dst ≠ some t → (a.put o.dst (mkv sl w.heap.size)).tmps[t]? = a.tmps[t]? := by
        intro t hd
        cases hd2 : o.dst with
        | none => rfl
        | some d => exact Array.getElem?_setIfInBounds_ne (fun x => hd (by rw [hd2, x]))
      have hcore : Core P ops (lai 0) val kind st ρ0 w0 (listed.setIfInBounds i true) (a.put o.dst (mkv sl w.heap.size)) w' m ρ fb' := by
        refine ⟨hm, hR', hC.ext.trans hE', ?_, ?_, ?_, ?_, ?_, ?_⟩
        · intro k q hkq hkk
          rw [on_new, ← hC.two k q hkq hkk]
          exact ⟨fun h => h.resolve_right (fun x => by subst x; omega), .inl⟩
        · intro k q hkq hkk hc
          rw [on_new]
          exact .inl (hC.three k q hkq hkk hc)
        · refine ⟨by rw [← htm.1]; cases hd : o.dst <;> simp [Act.put], fun t ht => ?_⟩
          by_cases hd : o.dst = some t
          · exact .inl ⟨i, o, ho, hd, hk, by rw [on_new]; exact .inr rfl, hmle⟩
          · rcases htm.2 t ht with ⟨j, p, hj, hjd, hjk, hjon, hjm⟩ | ⟨u, u', h1, h2, h3⟩
            · exact .inl ⟨j, p, hj, hjd, hjk, by rw [on_new]; exact .inl hjon, hjm⟩
            · refine .inr ⟨u, u', by rw [hput t hd]; exact h1, h2, ?_⟩
              rcases h3 with ⟨j, p, hj, hjd, hon, rfl⟩ | ⟨hnone, h4⟩
              · exact .inl ⟨j, p, hj, hjd, by rw [on_new]; exact .inl hon, rfl⟩
              · refine .inr ⟨fun j p hj hjd hon => ?_, h4⟩
                rw [on_new] at hon
                rcases hon with hon | rfl
                · exact hnone j p hj hjd hon
                · rw [ho] at hj; simp at hj; subst hj; exact hd hjd
        · have : (a.put o.dst (mkv sl w.heap.size)).defers = a.defers := by cases hd : o.dst <;> rfl
          rw [this]
          exact hdef
        · intro k q hkq hkk hkon hkm
          rw [on_new] at hkon
          by_cases hki : k = i
          · subst hki
            rw [ho] at hkq
            simp at hkq
            subst hkq
            rw [fbi]
            refine ⟨c, e, sl, c', h1, h2, hbig, fun d hd hdl => ?_, hc', heap_alloc_new w _, hC.ext.size, fun n L hL hb => ?_⟩
            · have : d < a.tmps.size := by rw [htm.1]; exact hdl
              simp [Act.put, hd, this]
            · have := hR.lt n L hL; omega
          · have hkon := hkon.resolve_right hki
            obtain ⟨c2, e2, sl2, c2', g1, g2, gb, g3, g4, g5, g6, g7⟩ := hC.fl k q hkq hkk hkon hkm
            have hbw : fb k < w.heap.size := (Array.getElem?_eq_some_iff.1 g5).1
            rw [fbk hki]
            refine ⟨c2, e2, sl2, c2', g1, g2, gb, fun d hd hdl => ?_, g4, by rw [hold _ hbw]; exact g5, g6, g7⟩
            rw [hput d (fun x => hki (C.once k i q o d hkq ho hd x))]
            exact g3 d hd hdl
        · intro k j p q hp hq hk3' hj3 hkon hjon hkm hjm hne
          rw [on_new] at hkon hjon
          by_cases hki : k = i
          · by_cases hji : j = i
            · exact absurd (hki.trans hji.symm) hne
            · rw [hki, fbi, fbk hji]
              obtain ⟨_, _, _, _, _, _, _, _, _, g5, _, _⟩ := hC.fl j q hq hj3 (hjon.resolve_right hji) hjm
              have hbw : fb j < w.heap.size := (Array.getElem?_eq_some_iff.1 g5).1
              omega
          · by_cases hji : j = i
            · rw [hji, fbi, fbk hki]
              obtain ⟨_, _, _, _, _, _, _, _, _, g5, _, _⟩ := hC.fl k p hp hk3' (hkon.resolve_right hki) hkm
              have hbw : fb k < w.heap.size := (Array.getElem?_eq_some_iff.1 g5).1
              omega
            · rw [fbk hki, fbk hji]
              exact hC.sep k j p q hp hq hk3' hj3 (hkon.resolve_right hki) (hjon.resolve_right hji) hkm hjm hne
      exact ih _ _ _ hunl ⟨by simp [hsize], down', Core.normal C.once _ m ρ fb' (Nat.le_refl _) hcore⟩

end
end Go.Lg
end

section
namespace Go.Lg
open Go

structure DEnt where
  la : LAct
  σ : LState
  v : Value
  k : Nat

def dpass (P : Program) (O : Orc) (ops : Array Oper) : List Oper → LAct → LState → Option (List DEnt × LAct × LState)
  | [], la, σ => some ([], la, σ)
  | o :: r, la, σ => match lwanted ops (mact la (looks ops o)) o with
    | some true => match lvalQ P O (mact la (looks ops o)) σ o with
      | some v => match dpass P O ops r (la.put o.dst v) σ with
        | some (es, la', σ') => some (⟨la, σ, v, 1⟩ :: es, la', σ')
        | none => none
      | none => match lvalW P (mact la (looks ops o)) σ o with
        | some (v, σ1) => match dpass P O ops r (la.put o.dst v) σ1 with
          | some (es, la', σ') => some (⟨la, σ, v, if isFresh o.op then 3 else 2⟩ :: es, la', σ')
          | none => none
        | none => match lcallOp P O (mact la (looks ops o)) σ o with
          | some (v, σ1) => match dpass P O ops r (la.put o.dst v) σ1 with
            | some (es, la', σ') => some (⟨la, σ, v, 2⟩ :: es, la', σ')
            | none => none
          | none => none
    | some false => match dpass P O ops r (la.put o.dst undef) σ with
      | some (es, la', σ') => some (⟨la, σ, undef, 0⟩ :: es, la', σ')
      | none => none
    | none => none

/-- One operation of the pass. -/
structure DStep (P : Program) (O : Orc) (ops : Array Oper) (o : Oper) (e : DEnt) (la' : LAct) (σ' : LState) : Prop where
  next : la' = e.la.put o.dst e.v
  want : lwanted ops (mact e.la (looks ops o)) o = some (e.k != 0)
  way : (e.k = 0 ∧ e.v = undef ∧ σ' = e.σ) ∨ (e.k = 1 ∧ lvalQ P O (mact e.la (looks ops o)) e.σ o = some e.v ∧ σ' = e.σ) ∨
    (e.k = 2 ∧ (lvalW P (mact e.la (looks ops o)) e.σ o = some (e.v, σ') ∨ lcallOp P O (mact e.la (looks ops o)) e.σ o = some (e.v, σ'))) ∨
    (e.k = 3 ∧ isFresh o.op = true ∧ lvalW P (mact e.la (looks ops o)) e.σ o = some (e.v, σ'))

def laAt : List DEnt → LAct → Nat → LAct
  | [], fin, _ => fin
  | e :: _, _, 0 => e.la
  | _ :: es, fin, i + 1 => laAt es fin i
def stAt : List DEnt → LState → Nat → LState
  | [], fin, _ => fin
  | e :: _, _, 0 => e.σ
  | _ :: es, fin, i + 1 => stAt es fin i

theorem dpass_spec {P : Program} {O : Orc} {ops : Array Oper} : ∀ {l : List Oper} {la la' : LAct} {σ σ' : LState} {es : List DEnt}, dpass P O ops l la σ = some (es, la', σ') →
    es.length = l.length ∧ laAt es la' 0 = la ∧ stAt es σ' 0 = σ ∧ laAt es la' l.length = la' ∧ stAt es σ' l.length = σ' ∧
      ∀ (i : Nat) (o : Oper), l[i]? = some o → ∃ e, es[i]? = some e ∧ e.la = laAt es la' i ∧ e.σ = stAt es σ' i ∧ DStep P O ops o e (laAt es la' (i + 1)) (stAt es σ' (i + 1))
  | [], la, la', σ, σ', es, h => by
    simp [dpass] at h
    obtain ⟨rfl, rfl, rfl⟩ := h
    exact ⟨rfl, rfl, rfl, rfl, rfl, fun i o hi => by simp at hi⟩
  | o :: r, la, la', σ, σ', es, h => by
    have key : ∀ (v : Value) (k : Nat) (σ1 : LState) (es1 : List DEnt), dpass P O ops r (la.put o.dst v) σ1 = some (es1, la', σ') → es = ⟨la, σ, v, k⟩ :: es1 → DStep P O ops o ⟨la, σ, v, k⟩ (la.put o.dst v) σ1 →
        es.length = (o :: r).length ∧ laAt es la' 0 = la ∧ stAt es σ' 0 = σ ∧ laAt es la' (o :: r).length = la' ∧ stAt es σ' (o :: r).length = σ' ∧
          ∀ (i : Nat) (p : Oper), (o :: r)[i]? = some p → ∃ e, es[i]? = some e ∧ e.la = laAt es la' i ∧ e.σ = stAt es σ' i ∧ DStep P O ops p e (laAt es la' (i + 1)) (stAt es σ' (i + 1)) := by
      intro v k σ1 es1 hd he hs
      obtain ⟨h1, h2, h3, h4, h5, h6⟩ := dpass_spec hd
      subst he
      refine ⟨by simp [h1], rfl, rfl, by simpa [laAt] using h4, by simpa [stAt] using h5, ?_⟩
      intro i p hp
      cases i with
      | zero =>
        simp at hp
        subst hp
        refine ⟨_, rfl, rfl, rfl, ?_⟩
        show DStep P O ops o _ (laAt es1 la' 0) (stAt es1 σ' 0)
        rw [h2, h3]
        exact hs
      | succ i => simpa [laAt, stAt] using h6 i p (by simpa using hp)
    simp only [dpass] at h
    split at h
    · rename_i hw
      split at h
      · rename_i v hv
        split at h
        · rename_i es1 la1 σ1 hd
          simp at h
          obtain ⟨rfl, rfl, rfl⟩ := h
          exact key v 1 σ es1 hd rfl ⟨rfl, hw, .inr (.inl ⟨rfl, hv, rfl⟩)⟩
        · simp at h
      · split at h
        · rename_i v σ1 hv
          split at h
          · rename_i es1 la1 σ2 hd
            simp at h
            obtain ⟨rfl, rfl, rfl⟩ := h
            by_cases hfr : isFresh o.op = true
            · exact key v 3 σ1 es1 hd (by rw [if_pos hfr]) ⟨rfl, hw, .inr (.inr (.inr ⟨rfl, hfr, hv⟩))⟩
            · exact key v 2 σ1 es1 hd (by rw [if_neg hfr]) ⟨rfl, hw, .inr (.inr (.inl ⟨rfl, .inl hv⟩))⟩
          · simp at h
        · split at h
          · rename_i v σ1 hv
            split at h
            · rename_i es1 la1 σ2 hd
              simp at h
              obtain ⟨rfl, rfl, rfl⟩ := h
              exact key v 2 σ1 es1 hd rfl ⟨rfl, hw, .inr (.inr (.inl ⟨rfl, .inr hv⟩))⟩
            · simp at h
          · simp at h
    · rename_i hw
      split at h
      · rename_i es1 la1 σ1 hd
        simp at h
        obtain ⟨rfl, rfl, rfl⟩ := h
        exact key undef 0 σ es1 hd rfl ⟨rfl, hw, .inl ⟨rfl, rfl, rfl⟩⟩
      · simp at h
    · simp at h

def kindAt (es : List DEnt) (i : Nat) : Nat :=
  match es[i]? with
  | some e => e.k
  | none => 0
def valAt (es : List DEnt) (i : Nat) : Value :=
  match es[i]? with
  | some e => e.v
  | none => undef

/-- The states between the writing operations. -/
def chainOf : List DEnt → LState → List LState
  | [], fin => [fin]
  | e :: es, fin => if 2 ≤ e.k then e.σ :: chainOf es fin else chainOf es fin

theorem cidx_cons (e : DEnt) (es : List DEnt) : ∀ i, cidx (kindAt (e :: es)) (i + 1) = (if 2 ≤ e.k then 1 else 0) + cidx (kindAt es) i
  | 0 => by simp [cidx, kindAt]
  | i + 1 => by
    rw [cidx, cidx_cons e es i]
    have h1 : kindAt (e :: es) (i + 1) = kindAt es i := by simp [kindAt]
    rw [h1]
    conv => rhs; rw [cidx]
    omega

theorem chain_get : ∀ (es : List DEnt) (fin : LState), (∀ (i : Nat) (e : DEnt), es[i]? = some e → ¬ 2 ≤ e.k → stAt es fin (i + 1) = e.σ) → ∀ i, i ≤ es.length → (chainOf es fin)[cidx (kindAt es) i]? = some (stAt es fin i)
  | [], fin, _, i, hi => by
    have : i = 0 := by simpa using hi
    subst this
    simp [chainOf, cidx, stAt]
  | e :: es, fin, h, i, hi => by
    have ih := chain_get es fin (fun j e' hj hk => by simpa [stAt] using h (j + 1) e' (by simpa using hj) hk)
    cases i with
    | zero =>
      simp only [cidx, chainOf, stAt]
      split
      · simp
      · rename_i hk
        have h0 := h 0 e (by simp) hk
        simp only [stAt] at h0
        have := ih 0 (by omega)
        simp only [cidx] at this
        rw [this]
        have h1 : stAt es fin 0 = e.σ := h0
        rw [h1]
    | succ i =>
      rw [cidx_cons]
      have := ih i (by simpa using hi)
      simp only [chainOf, stAt]
      split
      · rename_i hk; rw [Nat.add_comm]; simpa using this
      · simpa using this

theorem chain_length : ∀ (es : List DEnt) (fin : LState), (chainOf es fin).length = cidx (kindAt es) es.length + 1
  | [], fin => by simp [chainOf, cidx]
  | e :: es, fin => by
    rw [List.length_cons, cidx_cons]
    simp only [chainOf]
    split
    · simp [chain_length es fin]; omega
    · rw [chain_length es fin]; omega

/-- Does it look at no memory? -/
def memless : Op → Bool
  | .move _ | .assign _ | .pick .. | .build .. | .nilCheck _ | .binOp .. | .unOp .. | .makeInterface .. | .makeFunc .. | .slice .. | .fieldAddr .. | .field .. | .indexAddr .. | .index .. | .typeAssert .. | .extract .. => true
  | _ => false

theorem memless_same {P : Program} {O : Orc} {la : LAct} {σ σ' : LState} {o : Oper} (h : memless o.op = true) : lvalQ P O la σ o = lvalQ P O la σ' o := by
  have : lvalQ0 P O la σ o = lvalQ0 P O la σ' o := by
    unfold lvalQ0
    cases ho : o.op <;> simp [ho, memless] at h <;> rfl
  unfold lvalQ
  rw [this]

/-- The moments at which an operation may stand: all say the same. -/
def quietOK (P : Program) (O : Orc) (la : LAct) (o : Oper) (v : Value) (mayBe : Nat → Bool) : List LState → Nat → Bool
  | [], _ => true
  | s :: r, m => (!mayBe m || (match lvalQ P O la s o with
    | some u => veq u v
    | none => false)) && quietOK P O la o v mayBe r (m + 1)

theorem quietOK_get {P : Program} {O : Orc} {la : LAct} {o : Oper} {v : Value} {mayBe : Nat → Bool} : ∀ {l : List LState} {m i : Nat} {s : LState}, quietOK P O la o v mayBe l m = true → l[i]? = some s → mayBe (m + i) = true → lvalQ P O la s o = some v
  | [], _, _, _, _, h, _ => by simp at h
  | s :: r, m, i, t, hq, h, hm => by
    simp only [quietOK, Bool.and_eq_true, Bool.or_eq_true, Bool.not_eq_true'] at hq
    cases i with
    | zero =>
      simp at h
      subst h
      rcases hq.1 with h1 | h1
      · simp only [Nat.add_zero] at hm; rw [hm] at h1; simp at h1
      · cases hl : lvalQ P O la s o with
        | none => simp [hl] at h1
        | some u => simp only [hl] at h1; rw [veq_eq h1]
    | succ i =>
      simp at h
      exact quietOK_get hq.2 h (by rw [show m + 1 + i = m + (i + 1) by omega]; exact hm)

def mayStand (A : List (List Nat)) (es : List DEnt) (n i m : Nat) : Bool :=
  ((A.getD i []).all fun j => decide (kindAt es j < 2) || decide (cidx (kindAt es) j < m)) && (List.range n).all fun j => decide (kindAt es j < 2) || !(A.getD j []).contains i || decide (m ≤ cidx (kindAt es) j)

/-- What is made ahead of its turn has its name when it is looked at. -/
def floatOK (A : List (List Nat)) (es : List DEnt) (i : Nat) : Bool :=
  (A.getD i []).all fun j => kindAt es j != 3 || (List.range j).all fun k => decide (kindAt es k < 2) || (A.getD i []).contains k

def dynOK (P : Program) (O : Orc) (ops : Array Oper) (A : List (List Nat)) (es : List DEnt) (fin : LState) : List Oper → Nat → Bool
  | [], _ => true
  | o :: r, i => (match es[i]? with
    | none => false
    | some e =>
      if e.k = 1 then memless o.op || quietOK P O (mact e.la (looks ops o)) o e.v (mayStand A es ops.size i) (chainOf es fin) 0
      else if e.k = 2 then (List.range i).all fun j => decide (kindAt es j < 2) || (A.getD i []).contains j
      else true) && floatOK A es i && dynOK P O ops A es fin r (i + 1)

def ldraw (P : Program) (O : Orc) (ops : Array Oper) (la : LAct) (σ : LState) : Option (LAct × LState) :=
  if staticOK ops then match dpass P O ops ops.toList la σ with
    | some (es, la', σ') => if dynOK P O ops (aheads ops.toList []) es σ' ops.toList 0 then some (la', σ') else none
    | none => none
  else none

/- ---- the check is a certificate -/

theorem edgesBack_get : ∀ {l : List Oper} {k i : Nat} {o : Oper} {e : Edge}, edgesBack l k = true → l[i]? = some o → e ∈ o.after → Region.binds .any e = true → e.on < k + i
  | [], _, _, _, _, _, h, _, _ => by simp at h
  | o :: r, k, i, p, e, hb, h, he, hbd => by
    simp only [edgesBack, Bool.and_eq_true] at hb
    cases i with
    | zero =>
      simp at h
      subst h
      have := List.all_eq_true.1 hb.1 e (by simpa using he)
      simpa [hbd] using this
    | succ i =>
      simp at h
      have := edgesBack_get hb.2 h he hbd
      omega

theorem dstsOnce_get : ∀ {l : List Oper} {i j : Nat} {o p : Oper} {d : Nat}, dstsOnce l = true → l[i]? = some o → l[j]? = some p → o.dst = some d → p.dst = some d → i = j
  | [], _, _, _, _, _, _, h, _, _, _ => by simp at h
  | x :: r, i, j, o, p, d, hd, hi, hj, ho, hp => by
    simp only [dstsOnce, Bool.and_eq_true] at hd
    cases i with
    | zero =>
      cases j with
      | zero => rfl
      | succ j =>
        simp at hi hj
        subst hi
        simp only [ho] at hd
        have := List.all_eq_true.1 hd.1 p (List.mem_of_getElem? hj)
        simp [hp] at this
    | succ i =>
      cases j with
      | zero =>
        simp at hi hj
        subst hj
        simp only [hp] at hd
        have := List.all_eq_true.1 hd.1 o (List.mem_of_getElem? hi)
        simp [ho] at this
      | succ j =>
        simp at hi hj
        rw [dstsOnce_get hd.2 hi hj ho hp]

theorem writerOf_get {t : Nat} : ∀ {l : List Oper} {k i : Nat} {o : Oper}, dstsOnce l = true → l[i]? = some o → o.dst = some t → writerOf t l k = some (k + i)
  | [], _, _, _, _, h, _ => by simp at h
  | x :: r, k, i, o, hd, hi, ho => by
    have hd0 := hd
    simp only [dstsOnce, Bool.and_eq_true] at hd
    simp only [writerOf]
    cases i with
    | zero =>
      simp at hi
      subst hi
      simp [ho]
    | succ i =>
      have hx : (x.dst == some t) = false := by
        cases hc : x.dst == some t with
        | false => rfl
        | true =>
          have hxt : x.dst = some t := by simpa using hc
          have := dstsOnce_get hd0 (i := 0) (j := i + 1) (by simp) hi hxt ho
          omega
      rw [hx]
      simp at hi
      simp only [Bool.false_eq_true, if_false]
      rw [writerOf_get (k := k + 1) hd.2 hi ho]
      congr 1
      omega

theorem looksOrdered_get {ops : List Oper} {A : List (List Nat)} {i t j : Nat} {p : Oper} (hd : dstsOnce ops = true) (hp : ops[j]? = some p) (hpd : p.dst = some t) : ∀ {l : List Nat}, looksOrdered ops A i l = true → t ∈ l →
    j = i ∨ (j < i ∧ j ∈ A.getD i []) ∨ (i < j ∧ i ∈ A.getD j [])
  | [], _, h => by simp at h
  | u :: r, hl, h => by
    simp only [looksOrdered, Bool.and_eq_true] at hl
    rcases List.mem_cons.1 h with rfl | h
    · have hw := writerOf_get (k := 0) hd hp hpd
      rw [Nat.zero_add] at hw
      have h1 := hl.1
      rw [hw] at h1
      simp only [Bool.or_eq_true, beq_iff_eq] at h1
      rcases h1 with h1 | h1
      · exact .inl h1
      · split at h1
        · rename_i hlt
          exact .inr (.inl ⟨hlt, by simpa using h1⟩)
        · rename_i hlt
          rcases Nat.lt_or_ge i j with h2 | h2
          · exact .inr (.inr ⟨h2, by simpa using h1⟩)
          · exact .inl (by omega)
    · exact looksOrdered_get hd hp hpd hl.2 h

theorem allLooks_get {arr : Array Oper} {ops : List Oper} {A : List (List Nat)} : ∀ {l : List Oper} {k i : Nat} {o : Oper}, allLooks arr ops A l k = true → l[i]? = some o → looksOrdered ops A (k + i) (looks arr o) = true
  | [], _, _, _, _, h => by simp at h
  | x :: r, k, i, o, hl, hi => by
    simp only [allLooks, Bool.and_eq_true] at hl
    cases i with
    | zero => simp at hi; subst hi; exact hl.1
    | succ i =>
      simp at hi
      have := allLooks_get hl.2 hi
      rwa [show k + 1 + i = k + (i + 1) by omega] at this

theorem mem_aheadOf {acc : List (List Nat)} {j : Nat} : ∀ {l : List Edge}, j ∈ aheadOf acc l → ∃ e ∈ l, Region.binds .any e = true ∧ (j = e.on ∨ j ∈ acc.getD e.on [])
  | [], h => by simp [aheadOf] at h
  | e :: r, h => by
    simp only [aheadOf] at h
    split at h
    · rename_i hb
      rcases mem_union h with h | h
      · exact ⟨e, by simp, hb, by simpa using h⟩
      · obtain ⟨e', h1, h2⟩ := mem_aheadOf h; exact ⟨e', List.mem_cons_of_mem _ h1, h2⟩
    · obtain ⟨e', h1, h2⟩ := mem_aheadOf h; exact ⟨e', List.mem_cons_of_mem _ h1, h2⟩

theorem aheads_get : ∀ (l : List Oper) (acc : List (List Nat)) (i : Nat) (o : Oper), l[i]? = some o → (∀ e ∈ o.after.toList, Region.binds .any e = true → e.on < acc.length + i) →
    (∀ k, k < acc.length → (aheads l acc).getD k [] = acc.getD k []) ∧ ∀ j ∈ (aheads l acc).getD (acc.length + i) [], ∃ e ∈ o.after.toList, Region.binds .any e = true ∧ (j = e.on ∨ j ∈ (aheads l acc).getD e.on [])
  | [], _, _, _, h, _ => by simp at h
  | x :: r, acc, i, o, hi, hback => by
    have pre : ∀ (l : List Oper) (acc : List (List Nat)) (k : Nat), k < acc.length → (aheads l acc).getD k [] = acc.getD k [] := by
      intro l
      induction l with
      | nil => intro acc k _; rfl
      | cons y l ih =>
        intro acc k hk
        rw [aheads, ih _ _ (by simp; omega)]
        simp only [List.getD_eq_getElem?_getD]
        rw [List.getElem?_append_left hk]
    refine ⟨pre (x :: r) acc, ?_⟩
    cases i with
    | zero =>
      simp at hi
      subst hi
      intro j hj
      have hget : (aheads (x :: r) acc).getD (acc.length + 0) [] = aheadOf acc x.after.toList := by
        rw [aheads, pre _ _ _ (by simp)]
        simp
      rw [hget] at hj
      obtain ⟨e, h1, h2, h3⟩ := mem_aheadOf hj
      refine ⟨e, h1, h2, h3.imp id fun h => ?_⟩
      rw [pre (x :: r) acc e.on (by have := hback e h1 h2; omega)]
      exact h
    | succ i =>
      simp at hi
      have := (aheads_get r (acc ++ [aheadOf acc x.after.toList]) i o hi (fun e he hb => by have := hback e he hb; simp; omega)).2
      simp only [List.length_append, List.length_singleton] at this
      rw [show acc.length + 1 + i = acc.length + (i + 1) by omega] at this
      exact this

theorem dynOK_get {P : Program} {O : Orc} {ops : Array Oper} {A : List (List Nat)} {es : List DEnt} {fin : LState} : ∀ {l : List Oper} {k i : Nat} {o : Oper}, dynOK P O ops A es fin l k = true → l[i]? = some o → ∃ e, es[k + i]? = some e ∧
    (e.k = 1 → memless o.op = true ∨ quietOK P O (mact e.la (looks ops o)) o e.v (mayStand A es ops.size (k + i)) (chainOf es fin) 0 = true) ∧
    (e.k = 2 → ∀ j, j < k + i → 2 ≤ kindAt es j → j ∈ A.getD (k + i) []) ∧ floatOK A es (k + i) = true
  | [], _, _, _, _, h => by simp at h
  | x :: r, k, i, o, hd, hi => by
    simp only [dynOK, Bool.and_eq_true] at hd
    cases i with
    | zero =>
      simp at hi
      subst hi
      have h1 := hd.1.1
      have hflo := hd.1.2
      cases he : es[k]? with
      | none => simp [he] at h1
      | some e =>
        refine ⟨e, by simpa using he, fun hk => ?_, fun hk j hj hkj => ?_, by simpa using hflo⟩
        · simp only [he, hk, if_true, Bool.or_eq_true] at h1
          exact h1
        · simp only [he, hk, Nat.reduceEqDiff, if_false, if_true] at h1
          have := List.all_eq_true.1 h1 j (by simpa using hj)
          simp only [Bool.or_eq_true, decide_eq_true_eq] at this
          rcases this with this | this
          · omega
          · simpa using this
    | succ i =>
      simp at hi
      have := dynOK_get hd.2 hi
      rwa [show k + 1 + i = k + (i + 1) by omega] at this

theorem ldraw_cert {P : Program} {O : Orc} {ops : Array Oper} {la la' : LAct} {σ σ' : LState} (h : ldraw P O ops la σ = some (la', σ')) :
    ∃ A lai val kind st, Cert P O ops A lai val kind st ∧ lai 0 = la ∧ lai ops.size = la' ∧ st 0 = σ ∧ st (cidx kind ops.size) = σ' := by
  unfold ldraw at h
  split at h
  case isFalse => simp at h
  rename_i hstat
  simp only [staticOK, Bool.and_eq_true] at hstat
  obtain ⟨⟨hback, honce⟩, hlooks⟩ := hstat
  cases hp : dpass P O ops ops.toList la σ with
  | none => simp [hp] at h
  | some x =>
    obtain ⟨es, la1, σ1⟩ := x
    simp only [hp] at h
    split at h
    case isFalse => simp at h
    rename_i hdyn
    simp only [Option.some.injEq, Prod.mk.injEq] at h
    obtain ⟨rfl, rfl⟩ := h
    obtain ⟨hlen, hla0, hst0, hlan, hstn, hspec⟩ := dpass_spec hp
    have hlen' : es.length = ops.size := by simpa using hlen
    have toL : ∀ {i : Nat} {o : Oper}, ops[i]? = some o → ops.toList[i]? = some o := fun h => by simpa using h
    have hsame : ∀ (i : Nat) (e : DEnt), es[i]? = some e → ¬ 2 ≤ e.k → stAt es σ1 (i + 1) = e.σ := by
      intro i e he hk
      have hi : i < ops.toList.length := by have := get_lt he; omega
      obtain ⟨e', h1, _, _, hs⟩ := hspec i _ (List.getElem?_eq_getElem hi)
      rw [he] at h1
      simp at h1
      subst h1
      rcases hs.way with ⟨_, _, h3⟩ | ⟨_, _, h3⟩ | ⟨h3, _⟩ | ⟨h3, _⟩
      · exact h3
      · exact h3
      · omega
      · omega
    have hchain := chain_get es σ1 hsame
    have hst : ∀ i, i ≤ ops.size → (chainOf es σ1).getD (cidx (kindAt es) i) [] = stAt es σ1 i := by
      intro i hi
      simp only [List.getD_eq_getElem?_getD, hchain i (by omega), Option.getD_some]
    have ent : ∀ {i : Nat} {o : Oper}, ops[i]? = some o → ∃ e, es[i]? = some e ∧ kindAt es i = e.k ∧ valAt es i = e.v ∧ e.la = laAt es la1 i ∧ e.σ = stAt es σ1 i ∧ DStep P O ops o e (laAt es la1 (i + 1)) (stAt es σ1 (i + 1)) := by
      intro i o ho
      obtain ⟨e, h1, h2, h3, h4⟩ := hspec i o (toL ho)
      exact ⟨e, h1, by simp [kindAt, h1], by simp [valAt, h1], h2, h3, h4⟩
    have hlt : ∀ {i : Nat} {o : Oper}, ops[i]? = some o → i < ops.size := fun h => (Array.getElem?_eq_some_iff.1 h).1
    refine ⟨fun i => (aheads ops.toList []).getD i [], laAt es la1, valAt es, kindAt es, fun m => (chainOf es σ1).getD m [], ?_, hla0, by simpa using hlan, ?_, ?_⟩
    · refine ⟨?_, ?_, ?_, ?_, ?_, ?_, ?_, ?_, ?_, ?_, ?_, ?_, ?_⟩
      · intro i o e ho he hb
        have := edgesBack_get hback (toL ho) he hb
        omega
      · intro i o j ho hj
        have := (aheads_get ops.toList [] i o (toL ho) (fun e he hb => by have := edgesBack_get hback (toL ho) (by simpa using he) hb; simpa using this)).2 j (by simpa using hj)
        obtain ⟨e, h1, h2, h3⟩ := this
        exact ⟨e, by simpa using h1, h2, h3⟩
      · intro i j o p d ho hpo h1 h2
        exact dstsOnce_get honce (toL ho) (toL hpo) h1 h2
      · intro i o t j p ho ht hpo hpd
        have := allLooks_get hlooks (toL ho)
        rw [Nat.zero_add] at this
        exact looksOrdered_get honce (toL hpo) hpd this ht
      · intro i o ho
        obtain ⟨e, _, _, h3, h4, _, h6⟩ := ent ho
        rw [h6.next, h3, h4]
      · intro i o ho
        obtain ⟨e, _, h2, _, h4, _, h6⟩ := ent ho
        rw [← h4, h2, h6.want]
      · intro i o ho
        obtain ⟨e, _, h2, _, _, _, h6⟩ := ent ho
        rw [h2]
        rcases h6.way with ⟨h, _⟩ | ⟨h, _⟩ | ⟨h, _⟩ | ⟨h, _⟩
        · exact .inl h
        · exact .inr (.inl h)
        · exact .inr (.inr (.inl h))
        · exact .inr (.inr (.inr h))
      · intro i o ho hk
        obtain ⟨e, _, h2, h3, _, _, h6⟩ := ent ho
        rw [h3]
        rw [h2] at hk
        rcases h6.way with ⟨_, h, _⟩ | ⟨h, _⟩ | ⟨h, _⟩ | ⟨h, _⟩
        · exact h
        · omega
        · omega
        · omega
      · intro i o m ho hk hm h1 h2
        obtain ⟨e, he, hke, hve, hlae, hσe, h6⟩ := ent ho
        rw [hke] at hk
        have hq : lvalQ P O (mact e.la (looks ops o)) e.σ o = some e.v := by
          rcases h6.way with ⟨h, _⟩ | ⟨_, h, _⟩ | ⟨h, _⟩ | ⟨h, _⟩
          · omega
          · exact h
          · omega
          · omega
        rw [← hlae, hve]
        obtain ⟨e', he', hd1, _⟩ := dynOK_get hdyn (toL ho)
        rw [Nat.zero_add] at he' hd1
        rw [he] at he'
        simp at he'
        subst he'
        have hml : m < (chainOf es σ1).length := by rw [chain_length, hlen']; omega
        have hget : (chainOf es σ1)[m]? = some ((chainOf es σ1).getD m []) := by
          simp only [List.getD_eq_getElem?_getD, List.getElem?_eq_getElem hml, Option.getD_some]
        rcases hd1 hk with hml2 | hqo
        · rw [memless_same (σ' := e.σ) hml2]; exact hq
        · refine quietOK_get hqo hget ?_
          rw [Nat.zero_add]
          simp only [mayStand, Bool.and_eq_true, List.all_eq_true, Bool.or_eq_true, decide_eq_true_eq, Bool.not_eq_true']
          refine ⟨fun j hj => ?_, fun j hj => ?_⟩
          · by_cases hkj : kindAt es j < 2
            · exact .inl hkj
            · exact .inr (h1 j hj (by omega))
          · have hjl : j < ops.size := by simpa using hj
            by_cases hkj : kindAt es j < 2
            · exact .inl (.inl hkj)
            · by_cases hc : i ∈ (aheads ops.toList []).getD j []
              · exact .inr (h2 j _ (Array.getElem?_eq_getElem hjl) (by omega) hc)
              · exact .inl (.inr (by simpa using hc))
      · intro i j o ho hk hj hkj
        obtain ⟨e, he, hke, _⟩ := ent ho
        obtain ⟨e', he', _, hd2, _⟩ := dynOK_get hdyn (toL ho)
        rw [Nat.zero_add] at he' hd2
        rw [he] at he'
        simp at he'
        subst he'
        exact hd2 (by rw [← hke]; exact hk) j hj hkj
      · intro i o ho hk
        obtain ⟨e, he, hke, hve, hlae, hσe, h6⟩ := ent ho
        have hi := hlt ho
        rw [hst i (by omega), hve, ← hlae, ← hσe]
        have h7 : (chainOf es σ1).getD (cidx (kindAt es) i + 1) [] = stAt es σ1 (i + 1) := by
          have := hst (i + 1) (by omega)
          rw [cidx, if_pos (by omega)] at this
          exact this
        rw [h7]
        rw [hke] at hk
        rcases h6.way with ⟨h, _⟩ | ⟨h, _⟩ | ⟨_, h⟩ | ⟨h, _⟩
        · omega
        · omega
        · exact h
        · omega
      · intro i o ho hk
        obtain ⟨e, he, hke, hve, hlae, hσe, h6⟩ := ent ho
        have hi := hlt ho
        rw [hst i (by omega), hve, ← hlae, ← hσe]
        have h7 : (chainOf es σ1).getD (cidx (kindAt es) i + 1) [] = stAt es σ1 (i + 1) := by
          have := hst (i + 1) (by omega)
          rw [cidx, if_pos (by omega)] at this
          exact this
        rw [h7]
        rw [hke] at hk
        rcases h6.way with ⟨h, _⟩ | ⟨h, _⟩ | ⟨h, _⟩ | ⟨_, h⟩
        · omega
        · omega
        · omega
        · exact h
      · intro i j o ho hj hk3 k hkj hk2
        obtain ⟨_, _, _, _, hflo⟩ := dynOK_get hdyn (toL ho)
        rw [Nat.zero_add] at hflo
        have h1 := List.all_eq_true.1 hflo j hj
        simp only [Bool.or_eq_true, bne_iff_ne, ne_eq] at h1
        have h2 := List.all_eq_true.1 (h1.resolve_left (fun x => x hk3)) k (by simpa using hkj)
        simp only [Bool.or_eq_true, decide_eq_true_eq] at h2
        rcases h2 with h2 | h2
        · omega
        · simpa using h2
    · have := hst 0 (by omega)
      rw [cidx] at this
      show (chainOf es σ1).getD 0 [] = σ
      rw [this, hst0]
    · show (chainOf es σ1).getD (cidx (kindAt es) ops.size) [] = σ1
      rw [hst ops.size (Nat.le_refl _)]
      simpa using hstn

end Go.Lg
end

section
namespace Go.Lg
open Go

inductive LExit where
  | normal
  | exit (id : Nat)
  | goto (l : Nat)
  | ret

def LExit.real : LExit → Exit
  | .normal => .normal
  | .exit id => .exit id
  | .goto l => .goto l
  | .ret => .ret

abbrev LRes := Option (LExit × LAct × LState)

def iter (body : LAct → LState → LRes) : Nat → LAct → LState → LRes
  | 0, _, _ => none
  | n + 1, la, σ => match body la σ with
    | some (.normal, la', σ') => iter body n la' σ'
    | r => r

def lregion (P : Program) (O : Orc) (ops : Array Oper) (draw : Bool) (la : LAct) (σ : LState) : Option (LAct × LState) :=
  if draw then ldraw P O ops la σ else lops P O ops ops.toList la σ

def lcode (P : Program) (O : Orc) (fuel : Nat) : Code → LAct → LState → LRes
  | .skip, la, σ => some (.normal, la, σ)
  | .label _, la, σ => some (.normal, la, σ)
  | .region _ ops draw, la, σ => match lregion P O ops draw la σ with
    | some (la', σ') => some (.normal, la', σ')
    | none => none
  | .seq a b, la, σ => match lcode P O fuel a la σ with
    | some (.normal, la', σ') => lcode P O fuel b la' σ'
    | r => r
  | .cond c x y, la, σ => match leval P la c with
    | some (.bool true) => lcode P O fuel x la σ
    | some (.bool false) => lcode P O fuel y la σ
    | _ => none
  | .block id b, la, σ => match lcode P O fuel b la σ with
    | some (.exit i, la', σ') => if i = id then some (.normal, la', σ') else some (.exit i, la', σ')
    | r => r
  | .loop b, la, σ => iter (lcode P O fuel b) fuel la σ
  | .scope b, la, σ => match lcode P O fuel b la σ with
    | some (.goto _, _, _) => none
    | r => r
  | .exit id, la, σ => some (.exit id, la, σ)
  | .goto l, la, σ => some (.goto l, la, σ)
  | .ret, la, σ => some (.ret, la, σ)
  | .rangeFunc .., _, _ => none
  | .refuse _, _, _ => none

/-- The end of a piece of code, at a related world. -/
def LQ (P : Program) (σ : LState) (ρ : List Loc) (w : World) (le : LExit) (la' : LAct) (σ' : LState) (e : Exit) (a' : Act) (w' : World) : Prop :=
  e = le.real ∧ ∃ ρ', Rel P σ' ρ' w' ∧ ActR ρ' la' a' ∧ Ext σ ρ w σ' ρ' w'

/-- A loop from inside: what its own text comes to. -/
def loopWp (P : Program) (c : Code) (Q : Exit → Act → World → Prop) (a : Act) (w : World) : Prop :=
  ∀ (b : Frame) (k : List Item) (cs : List Frame), ∃ e a' w', Q e a' w' ∧ Arrives P (lone (b.at a (.code c :: .inLoop c :: k)) cs w) b k cs e a' w'

theorem loopWp_step {P : Program} {c : Code} {Q : Exit → Act → World → Prop} {a : Act} {w : World} (h : c.wp P (Exit.then (loopWp P c Q) Q) a w) : loopWp P c Q a w := by
  intro b k cs
  obtain ⟨e, a₁, w₁, hq, harr⟩ := h b (.inLoop c :: k) cs
  cases e with
  | normal =>
    obtain ⟨e₂, a₂, w₂, hq₂, harr₂⟩ := hq b k cs
    exact ⟨e₂, a₂, w₂, hq₂, .of_steps (Steps.trans harr (.one step_inLoop)) harr₂⟩
  | exit id => exact ⟨_, a₁, w₁, hq, .pass (x := .inLoop c) rfl (fun _ _ => .inl (by simp)) harr⟩
  | goto l => exact ⟨_, a₁, w₁, hq, .pass (x := .inLoop c) rfl (fun _ _ => .inl (by simp)) harr⟩
  | ret => exact ⟨_, a₁, w₁, hq, .pass (x := .inLoop c) rfl (fun _ _ => .inl (by simp)) harr⟩
  | panic ch => exact ⟨_, a₁, w₁, hq, .pass (x := .inLoop c) rfl (fun _ _ => .inl (by simp)) harr⟩
  | outgrown => exact ⟨_, a₁, w₁, hq, .pass (x := .inLoop c) rfl (fun _ _ => .inl (by simp)) harr⟩

theorem wp_of_loopWp {P : Program} {c : Code} {Q : Exit → Act → World → Prop} {a : Act} {w : World} (h : loopWp P c Q a w) : (Code.loop c).wp P Q a w := by
  intro b k cs
  obtain ⟨e, a', w', hq, harr⟩ := h b k cs
  exact ⟨e, a', w', hq, .of_steps (.one step_loop) harr⟩

theorem LQ.ext {P : Program} {σ σ1 σ2 : LState} {ρ ρ1 : List Loc} {w w1 : World} {le : LExit} {la' : LAct} {e : Exit} {a' : Act} {w' : World} (hE : Ext σ ρ w σ1 ρ1 w1) (h : LQ P σ1 ρ1 w1 le la' σ2 e a' w') : LQ P σ ρ w le la' σ2 e a' w' := by
  obtain ⟨he, ρ', h1, h2, h3⟩ := h
  exact ⟨he, ρ', h1, h2, hE.trans h3⟩

/-- A piece of code does what the run says, wherever it begins. -/
def Fits (P : Program) (c : Code) (run : LAct → LState → LRes) : Prop :=
  ∀ (la : LAct) (σ : LState) (le : LExit) (la' : LAct) (σ' : LState), run la σ = some (le, la', σ') → ∀ (ρ : List Loc) (w : World) (a : Act), Rel P σ ρ w → ActR ρ la a → c.wp P (LQ P σ ρ w le la' σ') a w

theorem iter_fits {P : Program} {c : Code} {run : LAct → LState → LRes} (hc : Fits P c run) : ∀ (n : Nat) (la : LAct) (σ : LState) (le : LExit) (la' : LAct) (σ' : LState), iter run n la σ = some (le, la', σ') →
    ∀ (ρ : List Loc) (w : World) (a : Act), Rel P σ ρ w → ActR ρ la a → loopWp P c (LQ P σ ρ w le la' σ') a w
  | 0, _, _, _, _, _, h, _, _, _, _, _ => by simp [iter] at h
  | n + 1, la, σ, le, la', σ', h, ρ, w, a, hR, hA => by
    simp only [iter] at h
    refine loopWp_step ?_
    cases hb : run la σ with
    | none => simp [hb] at h
    | some x =>
      obtain ⟨e1, la1, σ1⟩ := x
      refine wp_mono (hc la σ e1 la1 σ1 hb ρ w a hR hA) ?_
      rintro e a1 w1 ⟨rfl, ρ1, h1, h2, h3⟩
      cases e1 with
      | normal =>
        simp only [hb] at h
        have := iter_fits hc n la1 σ1 le la' σ' h ρ1 w1 a1 h1 h2
        show loopWp P c _ a1 w1
        intro b k cs
        obtain ⟨e, a', w', hq, harr⟩ := this b k cs
        exact ⟨e, a', w', hq.ext h3, harr⟩
      | exit id =>
        simp only [hb, Option.some.injEq, Prod.mk.injEq] at h
        obtain ⟨rfl, rfl, rfl⟩ := h
        exact ⟨rfl, ρ1, h1, h2, h3⟩
      | goto id =>
        simp only [hb, Option.some.injEq, Prod.mk.injEq] at h
        obtain ⟨rfl, rfl, rfl⟩ := h
        exact ⟨rfl, ρ1, h1, h2, h3⟩
      | ret =>
        simp only [hb, Option.some.injEq, Prod.mk.injEq] at h
        obtain ⟨rfl, rfl, rfl⟩ := h
        exact ⟨rfl, ρ1, h1, h2, h3⟩

theorem lregion_fits {P : Program} {O : Orc} (hO : O.Sound P) (hmix : P.follows .mixedOrders = true) {id : Nat} {ops : Array Oper} {draw : Bool} {la la' : LAct} {σ σ' : LState} (h : lregion P O ops draw la σ = some (la', σ')) {ρ : List Loc} {w : World} {a : Act}
    (hR : Rel P σ ρ w) (hA : ActR ρ la a) : (Code.region id ops draw).wp P (LQ P σ ρ w .normal la' σ') a w := by
  unfold lregion at h
  cases draw with
  | false =>
    simp only [Bool.false_eq_true, if_false] at h
    refine wp_region ?_
    have := lops_wp hO (Q := LQ P σ ρ w .normal la' σ') ops.toList 0 (by simp) hR hA h (fun a' w' ρ' h1 h2 h3 => ⟨rfl, ρ', h1, h2, h3⟩)
    simpa [List.range_eq_range'] using this
  | true =>
    simp only [if_true] at h
    obtain ⟨A, lai, val, kind, st, C, h1, h2, h3, h4⟩ := ldraw_cert h
    subst h1
    subst h2
    subst h3
    subst h4
    refine wp_region_any hmix ?_
    refine C.sound hO (ρ0 := ρ) (w0 := w) (fun a' w' ρ' h1 h2 h3 => ⟨rfl, ρ', h1, h2, h3⟩) ops.size _ a _ ?_ ?_
    · unfold unl
      have := List.countP_le_length (p := fun i => !(Array.replicate ops.size false).getD i true) (l := List.range ops.size)
      simpa using this
    · have off : ∀ i, ¬ On (Array.replicate ops.size false) i := by
        intro i hi
        simp only [On, Array.getD_eq_getD_getElem?] at hi
        by_cases hlt : i < ops.size
        · simp [hlt] at hi
        · rw [Array.getElem?_eq_none (by simp; omega)] at hi; simp at hi
      refine ⟨by simp, fun i o e _ hi => absurd hi (off i), 0, ρ, fun _ => 0, ⟨by omega, hR.drew, Ext.drew _ _ _, fun i o _ _ => ⟨fun hi => absurd hi (off i), fun hi => by omega⟩, fun i o _ _ hi => by omega, ?_, hA.defs,
        fun i o _ _ hi => absurd hi (off i), fun i j o p _ _ _ _ hi => absurd hi (off i)⟩, fun i o _ _ hi => absurd hi (off i)⟩
      refine ⟨by have := renL_length hA.tmps; simpa using this, fun t ht => .inr ?_⟩
      obtain ⟨v', h1, h2⟩ := renL_get hA.tmps (List.getElem?_eq_getElem ht)
      exact ⟨_, v', by simpa using h1, h2, .inr ⟨fun j o _ _ => off j, List.getElem?_eq_getElem ht⟩⟩

theorem lcode_fits {P : Program} {O : Orc} (hO : O.Sound P) (hmix : P.follows .mixedOrders = true) (fuel : Nat) : ∀ (c : Code), Fits P c (lcode P O fuel c)
  | .skip => by
    intro la σ le la' σ' h ρ w a hR hA
    simp [lcode] at h
    obtain ⟨rfl, rfl, rfl⟩ := h
    exact wp_skip ⟨rfl, ρ, hR, hA, Ext.refl _ _ _⟩
  | .label l => by
    intro la σ le la' σ' h ρ w a hR hA
    simp [lcode] at h
    obtain ⟨rfl, rfl, rfl⟩ := h
    exact wp_label ⟨rfl, ρ, hR, hA, Ext.refl _ _ _⟩
  | .region id ops draw => by
    intro la σ le la' σ' h ρ w a hR hA
    simp only [lcode] at h
    split at h
    · rename_i la1 σ1 hr
      simp at h
      obtain ⟨rfl, rfl, rfl⟩ := h
      exact lregion_fits hO hmix hr hR hA
    · simp at h
  | .seq x y => by
    intro la σ le la' σ' h ρ w a hR hA
    simp only [lcode] at h
    refine wp_seq ?_
    cases hx : lcode P O fuel x la σ with
    | none => simp [hx] at h
    | some r =>
      obtain ⟨e1, la1, σ1⟩ := r
      refine wp_mono (lcode_fits hO hmix fuel x la σ e1 la1 σ1 hx ρ w a hR hA) ?_
      rintro e a1 w1 ⟨rfl, ρ1, h1, h2, h3⟩
      cases e1 with
      | normal =>
        simp only [hx] at h
        exact wp_mono (lcode_fits hO hmix fuel y la1 σ1 le la' σ' h ρ1 w1 a1 h1 h2) fun e a' w' hq => hq.ext h3
      | exit id =>
        simp only [hx, Option.some.injEq, Prod.mk.injEq] at h
        obtain ⟨rfl, rfl, rfl⟩ := h
        exact ⟨rfl, ρ1, h1, h2, h3⟩
      | goto id =>
        simp only [hx, Option.some.injEq, Prod.mk.injEq] at h
        obtain ⟨rfl, rfl, rfl⟩ := h
        exact ⟨rfl, ρ1, h1, h2, h3⟩
      | ret =>
        simp only [hx, Option.some.injEq, Prod.mk.injEq] at h
        obtain ⟨rfl, rfl, rfl⟩ := h
        exact ⟨rfl, ρ1, h1, h2, h3⟩
  | .cond c x y => by
    intro la σ le la' σ' h ρ w a hR hA
    simp only [lcode] at h
    split at h
    · rename_i hc
      have := leval_ren hR hA hc
      simp [ren] at this
      exact wp_cond_true this.symm (lcode_fits hO hmix fuel x la σ le la' σ' h ρ w a hR hA)
    · rename_i hc
      have := leval_ren hR hA hc
      simp [ren] at this
      exact wp_cond_false this.symm (lcode_fits hO hmix fuel y la σ le la' σ' h ρ w a hR hA)
    · simp at h
  | .block id b => by
    intro la σ le la' σ' h ρ w a hR hA
    simp only [lcode] at h
    refine wp_block ?_
    cases hx : lcode P O fuel b la σ with
    | none => simp [hx] at h
    | some r =>
      obtain ⟨e1, la1, σ1⟩ := r
      refine wp_mono (lcode_fits hO hmix fuel b la σ e1 la1 σ1 hx ρ w a hR hA) ?_
      rintro e a1 w1 ⟨rfl, ρ1, h1, h2, h3⟩
      cases e1 with
      | normal =>
        simp only [hx, Option.some.injEq, Prod.mk.injEq] at h
        obtain ⟨rfl, rfl, rfl⟩ := h
        exact ⟨rfl, ρ1, h1, h2, h3⟩
      | exit i =>
        simp only [hx] at h
        show if i = id then _ else _
        split at h
        · rename_i hi
          simp only [Option.some.injEq, Prod.mk.injEq] at h
          obtain ⟨rfl, rfl, rfl⟩ := h
          rw [if_pos hi]
          exact ⟨rfl, ρ1, h1, h2, h3⟩
        · rename_i hi
          simp only [Option.some.injEq, Prod.mk.injEq] at h
          obtain ⟨rfl, rfl, rfl⟩ := h
          rw [if_neg hi]
          exact ⟨rfl, ρ1, h1, h2, h3⟩
      | goto i =>
        simp only [hx, Option.some.injEq, Prod.mk.injEq] at h
        obtain ⟨rfl, rfl, rfl⟩ := h
        exact ⟨rfl, ρ1, h1, h2, h3⟩
      | ret =>
        simp only [hx, Option.some.injEq, Prod.mk.injEq] at h
        obtain ⟨rfl, rfl, rfl⟩ := h
        exact ⟨rfl, ρ1, h1, h2, h3⟩
  | .loop b => by
    intro la σ le la' σ' h ρ w a hR hA
    simp only [lcode] at h
    exact wp_of_loopWp (iter_fits (lcode_fits hO hmix fuel b) fuel la σ le la' σ' h ρ w a hR hA)
  | .scope b => by
    intro la σ le la' σ' h ρ w a hR hA
    simp only [lcode] at h
    refine wp_scope_straight ?_
    cases hx : lcode P O fuel b la σ with
    | none => simp [hx] at h
    | some r =>
      obtain ⟨e1, la1, σ1⟩ := r
      refine wp_mono (lcode_fits hO hmix fuel b la σ e1 la1 σ1 hx ρ w a hR hA) ?_
      rintro e a1 w1 ⟨rfl, ρ1, h1, h2, h3⟩
      cases e1 with
      | goto i => simp [hx] at h
      | normal =>
        simp only [hx, Option.some.injEq, Prod.mk.injEq] at h
        obtain ⟨rfl, rfl, rfl⟩ := h
        exact ⟨rfl, ρ1, h1, h2, h3⟩
      | exit i =>
        simp only [hx, Option.some.injEq, Prod.mk.injEq] at h
        obtain ⟨rfl, rfl, rfl⟩ := h
        exact ⟨rfl, ρ1, h1, h2, h3⟩
      | ret =>
        simp only [hx, Option.some.injEq, Prod.mk.injEq] at h
        obtain ⟨rfl, rfl, rfl⟩ := h
        exact ⟨rfl, ρ1, h1, h2, h3⟩
  | .exit id => by
    intro la σ le la' σ' h ρ w a hR hA
    simp [lcode] at h
    obtain ⟨rfl, rfl, rfl⟩ := h
    exact wp_exit ⟨rfl, ρ, hR, hA, Ext.refl _ _ _⟩
  | .goto l => by
    intro la σ le la' σ' h ρ w a hR hA
    simp [lcode] at h
    obtain ⟨rfl, rfl, rfl⟩ := h
    exact wp_goto ⟨rfl, ρ, hR, hA, Ext.refl _ _ _⟩
  | .ret => by
    intro la σ le la' σ' h ρ w a hR hA
    simp [lcode] at h
    obtain ⟨rfl, rfl, rfl⟩ := h
    exact wp_ret ⟨rfl, ρ, hR, hA, Ext.refl _ _ _⟩
  | .rangeFunc .. => by
    intro la σ le la' σ' h
    simp [lcode] at h
  | .refuse _ => by
    intro la σ le la' σ' h
    simp [lcode] at h

end Go.Lg
end

section
namespace Go.Lg
open Go

def lresL (P : Program) (la : LAct) (σ : LState) : List ResultVar → Option (List Value)
  | [] => some []
  | .tmp t :: r => match la.tmps[t]?, lresL P la σ r with
    | some v, some l => some (v :: l)
    | _, _ => none
  | .cell a t :: r => match la.tmps[a]? with
    | some p => match lload P σ t p, lresL P la σ r with
      | some v, some l => some (v :: l)
      | _, _ => none
    | none => none

def lresults (P : Program) (fn : Func) (la : LAct) (σ : LState) : Option Value :=
  match lresL P la σ fn.results.toList with
  | some [v] => some v
  | some l => some (.tuple l.toArray)
  | none => none

def readRes (tmps : Array Value) : ResultVar → Sem Value
  | .tmp t => pure (tmps.getD t undef)
  | .cell a t => do loadVar t (← asAddr (tmps.getD a undef))

theorem run_readRes_cell {P : Program} {w : World} {tmps : Array Value} {a : Tmp} {t : TypeId} {ad : Addr} {v : Value} (h : tmps[a]? = some (.pointer (some ad))) (hl : (loadVar t ad).run P w = .ok v w) : (readRes tmps (.cell a t)).run P w = .ok v w := by
  simp [readRes, Array.getD_eq_getD_getElem?, h, asAddr, hl]

theorem lresL_real {P : Program} {σ : LState} {ρ : List Loc} {w : World} (hR : Rel P σ ρ w) {la : LAct} {tmps : Array Value} (hA : renL ρ la.tmps = some tmps.toList) : ∀ (rs : List ResultVar) {l : List Value}, lresL P la σ rs = some l →
    ∃ l', renL ρ l = some l' ∧ (rs.mapM (readRes tmps)).run P w = .ok l' w
  | [], l, h => by
    simp [lresL] at h
    subst h
    exact ⟨[], rfl, rfl⟩
  | .tmp t :: r, l, h => by
    simp only [lresL] at h
    split at h
    · rename_i v m hv hm
      simp at h
      subst h
      obtain ⟨l', h1, h2⟩ := lresL_real hR hA r hm
      obtain ⟨v', h3, h4⟩ := renL_get hA hv
      have h3' : tmps[t]? = some v' := by simpa using h3
      refine ⟨v' :: l', by simp [renL, h4, h1], ?_⟩
      have h5 : (readRes tmps (.tmp t)).run P w = .ok v' w := by simp [readRes, Array.getD_eq_getD_getElem?, h3']
      simp only [List.mapM_cons, Sem.run_bind, h5, h2, Sem.run_pure, Result.andThen_ok]
    · simp at h
  | .cell a t :: r, l, h => by
    simp only [lresL] at h
    split at h
    · rename_i p hp
      split at h
      · rename_i v m hv hm
        simp at h
        subst h
        obtain ⟨l', h1, h2⟩ := lresL_real hR hA r hm
        obtain ⟨p', h3, h4⟩ := renL_get hA hp
        have h3' : tmps[a]? = some p' := by simpa using h3
        cases p with
        | pointer o =>
          cases o with
          | none => simp [lload] at hv
          | some ad =>
            simp only [lload] at hv
            obtain ⟨L, hs, hL, rfl⟩ := ren_pointer h4
            obtain ⟨v', h5, h6⟩ := loadVar_real hR hv hs hL
            refine ⟨v' :: l', by simp [renL, h6, h1], ?_⟩
            simp only [List.mapM_cons, Sem.run_bind, run_readRes_cell h3' h5, h2, Sem.run_pure, Result.andThen_ok]
        | _ => simp [lload] at hv
      · simp at h
    · simp at h

theorem lresults_real {P : Program} {σ : LState} {ρ : List Loc} {w : World} (hR : Rel P σ ρ w) {la : LAct} {tmps : Array Value} (hA : renL ρ la.tmps = some tmps.toList) {fn : Func} {v : Value} (h : lresults P fn la σ = some v) :
    ∃ v', ren ρ v = some v' ∧ (results fn tmps).run P w = .ok v' w := by
  unfold lresults at h
  have key : ∀ {l : List Value}, lresL P la σ fn.results.toList = some l → ∃ l', renL ρ l = some l' ∧ (results fn tmps).run P w = .ok (if h : l'.toArray.size = 1 then l'.toArray[0] else .tuple l'.toArray) w := by
    intro l hl
    obtain ⟨l', h1, h2⟩ := lresL_real hR hA _ hl
    refine ⟨l', h1, ?_⟩
    have e : results fn tmps = (do let vs ← fn.results.mapM (readRes tmps); pure (if h : vs.size = 1 then vs[0] else .tuple vs)) := rfl
    rw [e, Array.mapM_eq_mapM_toList]
    simp only [Sem.run_bind, Sem.run_map, h2]
    rfl
  split at h
  · rename_i u hu
    simp at h
    subst h
    obtain ⟨l', h1, h2⟩ := key hu
    obtain ⟨v', rfl, h3⟩ := renL_one h1
    exact ⟨v', h3, by simpa using h2⟩
  · rename_i l hne hl
    simp at h
    subst h
    obtain ⟨l', h1, h2⟩ := key hl
    have hlen : l'.length ≠ 1 := by
      intro h0
      have := renL_length h1
      rw [h0] at this
      match l, this with
      | [u], _ => exact hne u rfl
    refine ⟨.tuple l'.toArray, by simp [ren, renA, h1], ?_⟩
    rw [h2, dif_neg (by simpa using hlen)]
  · simp at h

def lleave (O : Orc) : List (Value × List Value) → LState → Option LState
  | [], σ => some σ
  | (f, args) :: ds, σ => match f with
    | .func (.func g) first captured => match O.calld g (first.toList ++ args ++ captured.toList) σ with
      | some σ' => lleave O ds σ'
      | none => none
    | _ => none

theorem lleave_leaves {P : Program} {O : Orc} (hO : O.Sound P) {fn : Func} {tmps : Array Value} {R : Ending → World → Prop} : ∀ (ds : List (Value × List Value)) (dd : List Deferred) (σ1 σ2 : LState) (ρ : List Loc) (w : World), lleave O ds σ1 = some σ2 → Rel P σ1 ρ w → DefsR ρ ds dd →
    (∀ ρ' w', Rel P σ2 ρ' w' → Ext σ1 ρ w σ2 ρ' w' → ∃ v, (results fn tmps).run P w' = .ok v w' ∧ R (.returned v) w') → Leaves P fn tmps R dd .returning w
  | [], [], σ1, σ2, ρ, w, h, hR, _, hQ => by
    simp [lleave] at h
    subst h
    exact hQ ρ w hR (Ext.refl _ _ _)
  | [], _ :: _, _, _, _, _, _, _, hd, _ => by simp [DefsR] at hd
  | _ :: _, [], _, _, _, _, _, _, hd, _ => by simp [DefsR] at hd
  | (f, args) :: ds, d :: dd, σ1, σ2, ρ, w, h, hR, hd, hQ => by
    obtain ⟨⟨fn', first', captured', args', h1, h2, rfl⟩, hds⟩ := hd
    simp only [lleave] at h
    split at h
    · rename_i g first captured
      split at h
      · rename_i σ' hc
        obtain ⟨he, hcall⟩ := hO.calld _ _ _ _ hc
        obtain ⟨f2, x, y, h3, h4, h5, h6⟩ := ren_func_shape h1
        simp [renFn] at h3
        subst h3
        simp only [Value.func.injEq] at h6
        obtain ⟨rfl, rfl, rfl⟩ := h6
        have hargs : renL ρ (first.toList ++ args ++ captured.toList) = some (first' ++ args'.toArray ++ captured').toList := by
          simpa using renL_append (renL_append (renA_toList h4) h2) (renA_toList h5)
        refine leaves_cons (by simp) (f := g) (args := first' ++ args'.toArray ++ captured') (by simpa [invoke] using he _ w) ?_
        refine (hcall ρ w _ .returning hR hargs).mono ?_
        rintro e u' w' ⟨rfl, v', ρ', rfl, h7, h8⟩
        exact lleave_leaves hO ds dd σ' σ2 ρ' w' h h7 (hds.mono h8.pre) fun ρ2 w2 h9 h10 => hQ ρ2 w2 h9 (h8.trans h10)
      · simp at h
    · simp at h

def lbody (P : Program) (O : Orc) (fuel : Nat) (fn : Func) (c : Code) (args : List Value) (σ : LState) : Option (Value × LState) :=
  match lcode P O fuel c ⟨args ++ List.replicate (fn.ntmps - args.length) undef, []⟩ σ with
  | some (e, la, σ1) => match e with
    | .normal | .ret => match lleave O la.defers σ1 with
      | some σ2 => match lresults P fn la σ2 with
        | some v => some (v, σ2)
        | none => none
      | none => none
    | _ => none
  | none => none

theorem start_actR {ρ : List Loc} {args : List Value} {args' : Array Value} (ha : renL ρ args = some args'.toList) (n : Nat) :
    ActR ρ ⟨args ++ List.replicate (n - args.length) undef, []⟩ { tmps := args' ++ Array.replicate (n - args'.size) undef, defers := [] } := by
  refine ⟨?_, trivial⟩
  have hlen := renL_length ha
  have hz : ∀ k, renL ρ (List.replicate k undef) = some (List.replicate k undef) := by
    intro k
    induction k with
    | zero => rfl
    | succ k ih =>
      have hu : ren ρ undef = some undef := by simp [undef, ren, renA, renL]
      simp only [List.replicate_succ, renL, ih, hu]
  have := renL_append ha (hz (n - args.length))
  simp only [Array.length_toList] at hlen
  simpa [hlen] using this

theorem lbody_calls {P : Program} {O : Orc} (hO : O.Sound P) (hmix : P.follows .mixedOrders = true) {fuel : Nat} {f : FuncId} {fn : Func} {c : Code} (hf : P.funcs[f]? = some fn) (hb : fn.body = some c) {args : List Value} {σ σ' : LState} {v : Value}
    (h : lbody P O fuel fn c args σ = some (v, σ')) : LCalls P f args σ v σ' := by
  intro ρ w args' hR ha
  unfold lbody at h
  split at h
  · rename_i e la σ1 hc
    refine calls_of_wp_defers hf hb (wp_mono (lcode_fits hO hmix fuel c _ σ _ _ _ hc ρ w _ hR (start_actR ha fn.ntmps)) ?_)
    rintro e a' w' ⟨rfl, ρ', h1, h2, h3⟩
    have fin : ∀ {σ2 : LState}, lleave O la.defers σ1 = some σ2 → lresults P fn la σ2 = some v → σ2 = σ' →
        Leaves P fn a'.tmps (fun e w' => ∃ v' ρ', e = .returned v' ∧ ren ρ' v = some v' ∧ Rel P σ' ρ' w' ∧ Ext σ ρ w σ' ρ' w') a'.defers .returning w' := by
      rintro σ2 hl hr rfl
      refine lleave_leaves hO la.defers a'.defers σ1 σ2 ρ' w' hl h1 h2.defs ?_
      intro ρ2 w2 h4 h5
      obtain ⟨v', h6, h7⟩ := lresults_real h4 (renL_mono h5.pre h2.tmps) hr
      exact ⟨v', h7, v', ρ2, rfl, h6, h4, h3.trans h5⟩
    split at h
    · split at h
      · rename_i σ2 hl
        split at h
        · rename_i u hr
          simp only [Option.some.injEq, Prod.mk.injEq] at h
          obtain ⟨rfl, rfl⟩ := h
          exact fin hl hr rfl
        · simp at h
      · simp at h
    · split at h
      · rename_i σ2 hl
        split at h
        · rename_i u hr
          simp only [Option.some.injEq, Prod.mk.injEq] at h
          obtain ⟨rfl, rfl⟩ := h
          exact fin hl hr rfl
        · simp at h
      · simp at h
    · simp at h
  · simp at h

/-- A body that defers nothing, run as a deferred call. -/
def lbodyD (P : Program) (O : Orc) (fuel : Nat) (fn : Func) (c : Code) (args : List Value) (σ : LState) : Option LState :=
  match lcode P O fuel c ⟨args ++ List.replicate (fn.ntmps - args.length) undef, []⟩ σ with
  | some (e, la, σ1) => match e with
    | .normal | .ret => match la.defers with
      | [] => match lresults P fn la σ1 with
        | some _ => some σ1
        | none => none
      | _ => none
    | _ => none
  | none => none

theorem lbodyD_calls {P : Program} {O : Orc} (hO : O.Sound P) (hmix : P.follows .mixedOrders = true) {fuel : Nat} {f : FuncId} {fn : Func} {c : Code} (hf : P.funcs[f]? = some fn) (hb : fn.body = some c) {args : List Value} {σ σ' : LState}
    (h : lbodyD P O fuel fn c args σ = some σ') : LCallsD P f args σ σ' := by
  intro ρ w args' u hR ha
  unfold lbodyD at h
  split at h
  · rename_i e la σ1 hc
    refine callsD_of_wp (R := fun e w' => ∃ v' ρ', e = .returned v' ∧ Rel P σ' ρ' w' ∧ Ext σ ρ w σ' ρ' w') hf hb (wp_mono (lcode_fits hO hmix fuel c _ σ _ _ _ hc ρ w _ hR (start_actR ha fn.ntmps)) ?_)
    rintro e a' w' ⟨rfl, ρ', h1, h2, h3⟩
    have fin : ∀ {r : Value}, la.defers = [] → lresults P fn la σ1 = some r → σ1 = σ' →
        a'.defers = [] ∧ ∃ v, (results fn a'.tmps).run P w' = .ok v w' ∧ ∃ v' ρ', Ending.returned v = .returned v' ∧ Rel P σ' ρ' w' ∧ Ext σ ρ w σ' ρ' w' := by
      rintro r hl hr rfl
      obtain ⟨v', h6, h7⟩ := lresults_real h1 h2.tmps hr
      refine ⟨?_, v', h7, v', ρ', rfl, h1, h3⟩
      have := h2.defs
      rw [hl] at this
      cases hd : a'.defers with
      | nil => rfl
      | cons x y => rw [hd] at this; simp [DefsR] at this
    split at h
    · split at h
      · rename_i hl
        split at h
        · rename_i u hr
          simp only [Option.some.injEq] at h
          exact fin hl hr h
        · simp at h
      · simp at h
    · split at h
      · rename_i hl
        split at h
        · rename_i u hr
          simp only [Option.some.injEq] at h
          exact fin hl hr h
        · simp at h
      · simp at h
    · simp at h
  · simp at h

/-- Calls to a depth: what the table does not answer, the body does. -/
def deep (P : Program) (B : Orc) (fuel : Nat) : Nat → Orc
  | 0 => B
  | n + 1 =>
    { B with
      call := fun f args σ => match B.call f args σ with
        | some r => some r
        | none => match P.funcs[f]? with
          | some fn => match fn.body with
            | some c => lbody P (deep P B fuel n) fuel fn c args σ
            | none => none
          | none => none
      calld := fun f args σ => match B.calld f args σ with
        | some r => some r
        | none => match P.funcs[f]? with
          | some fn => match fn.body with
            | some c => lbodyD P (deep P B fuel n) fuel fn c args σ
            | none => none
          | none => none }

/-- No function of the program is the one whose name the machine knows. -/
def Plain (P : Program) : Prop := ∀ (f : FuncId) (fn : Func), P.funcs[f]? = some fn → (fn.name == "runtime.NumGoroutine") = false

theorem enters_of_body {P : Program} (hP : Plain P) {f : FuncId} {fn : Func} {c : Code} (hf : P.funcs[f]? = some fn) (hb : fn.body = some c) : Enters P f := by
  intro args w
  have h1 : fn.name ≠ "runtime.NumGoroutine" := by simpa using hP f fn hf
  simp [callFunc, hf, h1, hb]

theorem deep_sound {P : Program} (hP : Plain P) (hmix : P.follows .mixedOrders = true) {B : Orc} (hB : B.Sound P) (fuel : Nat) : ∀ n, (deep P B fuel n).Sound P
  | 0 => hB
  | n + 1 => by
    have ih := deep_sound hP hmix hB fuel n
    refine ⟨?_, ?_, ?_, ?_⟩
    · intro f args σ v σ' h
      simp only [deep] at h
      split at h
      · rename_i r hr
        simp at h
        subst h
        exact hB.call _ _ _ _ _ hr
      · split at h
        · rename_i fn hf
          split at h
          · rename_i c hc
            exact ⟨enters_of_body hP hf hc, lbody_calls ih hmix hf hc h⟩
          · simp at h
        · simp at h
    · intro f args σ σ' h
      simp only [deep] at h
      split at h
      · rename_i r hr
        simp at h
        subst h
        exact hB.calld _ _ _ _ hr
      · split at h
        · rename_i fn hf
          split at h
          · rename_i c hc
            exact ⟨enters_of_body hP hf hc, lbodyD_calls ih hmix hf hc h⟩
          · simp at h
        · simp at h
    · exact hB.ext
    · exact hB.meth

end Go.Lg
end

section
namespace Go.Lg
open Go

def deads (P : Program) : LState := List.replicate P.globals.size .dead

theorem deads_get {P : Program} {i : Nat} {o : LObj} (h : (deads P)[i]? = some o) : o = .dead ∧ i < P.globals.size := by
  unfold deads at h
  rw [List.getElem?_replicate] at h
  split at h
  · simp at h; exact ⟨h.symm, by assumption⟩
  · simp at h

theorem Rel.deads {P : Program} {σ : LState} {ρ : List Loc} {w : World} (h : Rel P σ ρ w) : Rel P (deads P) (ρ.take P.globals.size) w := by
  have hlen : P.globals.size ≤ ρ.length := by
    rcases Nat.eq_zero_or_pos P.globals.size with h0 | h0
    · omega
    · have := get_lt (h.glob (P.globals.size - 1) (by omega)); omega
  have get : ∀ {i : Nat} {L : Loc}, (ρ.take P.globals.size)[i]? = some L → ρ[i]? = some L ∧ i < P.globals.size := by
    intro i L hi
    rw [List.getElem?_take] at hi
    split at hi
    · exact ⟨hi, by assumption⟩
    · simp at hi
  refine ⟨by simp [Lg.deads]; omega, fun g hg => by rw [List.getElem?_take, if_pos hg]; exact h.glob g hg, fun i L hL => h.lt i L (get hL).1, ?_, ?_, ?_⟩
  · intro i o L ho _
    rw [(deads_get ho).1]
    trivial
  · intro i j o p L M ho _ _ _ _ _
    rw [(deads_get ho).1]
    simp [Exempt]
  · intro i c e ro k L hi _
    exact absurd (deads_get hi).1 (by simp)

theorem not_owned_deads {P : Program} {ρ : List Loc} {b : Nat} : ¬ Owned (deads P) ρ b := by
  rintro ⟨i, o, L, ho, _, hw, _⟩
  rw [(deads_get ho).1] at hw
  simp [LObj.writable] at hw

/-- A function of plain values that looks at no variable: its answer, wherever it is called; nothing is left behind. -/
theorem LCalls.pure {P : Program} {f : FuncId} {args : List Value} {v : Value} {σ1 : LState} (h : LCalls P f args (deads P) v σ1) (ha : flatL args = true) (hv : flat v = true) (σ : LState) : LCalls P f args σ v σ := by
  intro ρ w args' hR hargs
  rw [renL_flat ρ ha] at hargs
  refine (h (ρ.take P.globals.size) w args' hR.deads (by rw [renL_flat _ ha]; exact hargs)).mono ?_
  rintro e w' ⟨v', ρ', he, hr, _, hE⟩
  rw [ren_flat ρ' hv] at hr
  simp at hr
  subst hr
  obtain ⟨h1, h2⟩ := hR.grown (w' := w') hE.size (fun k hk => hE.keep k hk not_owned_deads) hE.tape hE.os hE.output
  exact ⟨v, ρ, he, ren_flat ρ hv, h1, h2⟩

end Go.Lg
end
