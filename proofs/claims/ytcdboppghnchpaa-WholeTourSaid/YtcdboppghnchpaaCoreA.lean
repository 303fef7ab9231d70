/-
  Verification conditions for the model of Go: general lemmas, no text of a program in them.
-/
import Derived.WalkKit
import Derived.Deep.Quiet
import Derived.StillTail
import Derived.Laws.Append
import Derived.Laws.MakeOwn
import Derived.Maps.AppendAt
import Derived.Deep.RegionHeld3
import Derived.Deep.DeepHandedRow
import Derived.ProofKit
import Derived.OpenShut
import Derived.Lib.LaidTab
import Derived.Deep.AppendSrc
import Derived.Laws.BytesArg
import Derived.Lib.ItoaMem
import Derived.Lib.Join
import Derived.Lib.Repeat
import Derived.Lib.ParseIntB
namespace Go.Proofs.Ytcdboppghnchpaa.Gw
open Go

/- ### Frames as association lists -/
abbrev FM := List (Nat × Value)
def look : FM → Nat → Option Value
  | [], _ => none
  | p :: m, t => bif Nat.beq p.1 t then some p.2 else look m t
structure Fr (a : Act) (N : Nat) (m : FM) : Prop where
  size : a.tmps.size = N
  defers : a.defers = []
  has : ∀ t v, look m t = some v → a.tmps[t]? = some v
def evm (m : FM) : Operand → Option Value
  | .tmp t => look m t
  | .const v => some v
  | .global g => some (.pointer (some ⟨g, 0, none⟩))
  | .func f => some (.func (.func f) #[] #[])
theorem Fr.ev {a : Act} {N : Nat} {m : FM} (h : Fr a N m) {x : Operand} {v : Value} (e : evm m x = some v) : a.eval x = v := by
  cases x <;> simp only [evm, Option.some.injEq] at e <;> simp only [Act.eval]
  case tmp t => have := h.has t v e; simp [Array.getD_eq_getD_getElem?, this]
  all_goals exact e
theorem Fr.put {a : Act} {N : Nat} {m : FM} (h : Fr a N m) {d : Nat} (hd : d < N) (v : Value) : Fr (a.put (some d) v) N ((d, v) :: m) := by
  refine ⟨by simp [Act.put, h.size], by simp [Act.put, h.defers], fun t u hu => ?_⟩
  simp only [Act.put, look] at hu ⊢
  rw [Array.getElem?_setIfInBounds]
  cases hb : Nat.beq d t
  · rw [hb] at hu
    have hne : d ≠ t := by rintro rfl; simp at hb
    rw [if_neg hne]; exact h.has t u hu
  · rw [hb] at hu
    have he : d = t := Nat.eq_of_beq_eq_true hb
    subst he
    simp only [cond_true, Option.some.injEq] at hu
    simp [h.size, hd, hu]
/-- One list says no more than another. -/
def Sub (m m' : FM) : Prop := ∀ t v, look m t = some v → look m' t = some v
theorem Sub.n {m : FM} : Sub [] m := by intro t v h; simp [look] at h
theorem Sub.c {m m' : FM} {t : Nat} {v : Value} (h : look m' t = some v) (k : Sub m m') : Sub ((t, v) :: m) m' := by
  intro u x hx
  simp only [look] at hx
  cases hb : Nat.beq t u
  · rw [hb] at hx; exact k u x hx
  · rw [hb] at hx; obtain rfl := Nat.eq_of_beq_eq_true hb; simp only [cond_true, Option.some.injEq] at hx; subst hx; exact h
theorem Sub.refl (m : FM) : Sub m m := fun _ _ h => h
theorem Fr.sub {a : Act} {N : Nat} {m m' : FM} (h : Fr a N m') (k : Sub m m') : Fr a N m := ⟨h.size, h.defers, fun t v e => h.has t v (k t v e)⟩

/- ### Tests that are known, or not -/
def sel : Bool → Prop → Prop → Prop
  | true, A, _ => A
  | false, _, B => B
theorem sel_of {t : Bool} {A B : Prop} (h : t = true → A) (k : t = false → B) : sel t A B := by cases t; exact k rfl; exact h rfl
theorem sel_f {t : Bool} {A B : Prop} (e : t = false) (h : B) : sel t A B := by subst e; exact h
theorem sel_cases {t : Bool} {A B : Prop} (h : sel t A B) : (t = true ∧ A) ∨ (t = false ∧ B) := by cases t; exact .inr ⟨rfl, h⟩; exact .inl ⟨rfl, h⟩

/- ### What a call gives -/
/-- The call returns; what it returns and leaves satisfies R. -/
def Ret (P : Program) (f : FuncId) (args : Array Value) (w : World) (R : Value → World → Prop) : Prop :=
  Calls P f args w fun e w' => ∃ v, e = .returned v ∧ R v w'
theorem Ret.mono {P : Program} {f : FuncId} {args : Array Value} {w : World} {R R' : Value → World → Prop} (h : Ret P f args w R) (k : ∀ v w', R v w' → R' v w') : Ret P f args w R' :=
  Calls.mono h fun _ _ ⟨v, e, r⟩ => ⟨v, e, k _ _ r⟩

/- ### Operations -/
def kn : IntKind → Nat
  | .i8 => 0 | .i16 => 1 | .i32 => 2 | .i64 => 3 | .u8 => 4 | .u16 => 5 | .u32 => 6 | .u64 => 7
theorem kn_inj {j k : IntKind} (h : Nat.beq (kn j) (kn k) = true) : j = k := by revert h; cases j <;> cases k <;> decide
def ib (op : BinOp) (k : IntKind) (x y : Int) : Int :=
  k.wrap (match op with
    | .and => (BitVec.ofInt k.bits x &&& BitVec.ofInt k.bits y).toNat
    | .or => (BitVec.ofInt k.bits x ||| BitVec.ofInt k.bits y).toNat
    | .xor => (BitVec.ofInt k.bits x ^^^ BitVec.ofInt k.bits y).toNat
    | _ => (BitVec.ofInt k.bits x &&& ~~~ BitVec.ofInt k.bits y).toNat : Nat)
/-- The value of a plain operation on numbers and bools. -/
def binv (op : BinOp) (x y : Value) (K : Value → Prop) (D : Prop) : Prop :=
  match x, y with
  | .int k p, .int j q =>
    match op with
    | .shl => 0 ≤ q ∧ K (.int k (k.wrap (p * 2 ^ min q.toNat k.bits)))
    | .shr => 0 ≤ q ∧ K (.int k (p.fdiv (2 ^ min q.toNat k.bits)))
    | op => bif Nat.beq (kn k) (kn j) then
      match op with
      | .add => K (.int k (k.wrap (p + q)))
      | .sub => K (.int k (k.wrap (p - q)))
      | .mul => K (.int k (k.wrap (p * q)))
      | .quo => q ≠ 0 ∧ K (.int k (k.wrap (p.tdiv q)))
      | .rem => q ≠ 0 ∧ K (.int k (p.tmod q))
      | .and => K (.int k (ib .and k p q))
      | .or => K (.int k (ib .or k p q))
      | .xor => K (.int k (ib .xor k p q))
      | .andNot => K (.int k (ib .andNot k p q))
      | .eql => K (.bool (p == q))
      | .neq => K (.bool (p != q))
      | .lss => K (.bool (decide (p < q)))
      | .leq => K (.bool (decide (p ≤ q)))
      | .gtr => K (.bool (decide (p > q)))
      | .geq => K (.bool (decide (p ≥ q)))
      | _ => False
      else False
  | .string a, .string b =>
    match op with
    | .add => a.size + b.size ≤ 9223372036854775807 ∧ K (.string (a ++ b))
    | .eql => K (.bool (a.toList == b.toList))
    | .neq => K (.bool (!(a.toList == b.toList)))
    | .lss => K (.bool (Op.bytesLess a.toList b.toList))
    | _ => False
  | _, _ => D
def unv (op : UnOp) (x : Value) (K : Value → Prop) : Prop :=
  match op, x with
  | .not, .bool b => K (.bool (!b))
  | .neg, .int k n => K (.int k (k.wrap (0 - n)))
  | .xor, .int k n => K (.int k (ib .xor k (if k.signed then -1 else k.max) n))
  | _, _ => False
/-- What is done with a value that is there. -/
def kv (o : Option Value) (K : Value → Prop) : Prop := match o with | some v => K v | none => False
theorem kv_elim {o : Option Value} {K : Value → Prop} (h : kv o K) : ∃ v, o = some v ∧ K v := by cases o; exact h.elim; exact ⟨_, rfl, h⟩
end Go.Proofs.Ytcdboppghnchpaa.Gw

namespace Go.Proofs.Ytcdboppghnchpaa.Gw
open Go

/- ### The verification conditions of a list of operations -/
/-- Operations that need no fact: computed; all others: the handler E. σ: what stands for the world. -/
def opv {σ : Type} (E : FM → σ → Oper → (Value → σ → Prop) → Prop) (m : FM) (s : σ) (o : Oper) (K : Value → σ → Prop) : Prop :=
  match o.op with
  | .move x => kv (evm m x) fun v => K v s
  | .assign x => kv (evm m x) fun v => K v s
  | .pick c a b =>
    match evm m c with
    | some (.bool t) => kv (evm m (match t with | true => a | false => b)) fun v => K v s
    | _ => False
  | .binOp op _ x y _ => kv (evm m x) fun u => kv (evm m y) fun v => binv op u v (fun r => K r s) (E m s o K)
  | .unOp op _ x => kv (evm m x) fun u => unv op u fun r => K r s
  | .extract x i => match evm m x with | some (.tuple vs) => kv vs[i]? fun v => K v s | _ => False
  | .nilCheck x => match evm m x with | some (.pointer (some a)) => K (.pointer (some a)) s | _ => False
  | _ => E m s o K

/-- Put behind an operation: a slot that there is. -/
def putk (N : Nat) (d : Option Tmp) (v : Value) (m : FM) (K : FM → Prop) : Prop :=
  match d with
  | none => K m
  | some d => bif Nat.blt d N then K ((d, v) :: m) else False

/-- One operation; nx: what follows. -/
def vstep {σ : Type} (E : FM → σ → Oper → (Value → σ → Prop) → Prop) (N : Nat) (ops : List Oper) (o : Oper) (nx : FM → σ → (FM → σ → Prop) → Prop) (m : FM) (s : σ) (K : FM → σ → Prop) : Prop :=
    match o.guard with
    | none => opv E m s o fun v s' => putk N o.dst v m fun m' => nx m' s' K
    | some (j, want) =>
      match ops[j]? with
      | none => False
      | some oj =>
        match oj.dst with
        | none => False
        | some d =>
          match look m d with
          | some (.bool t) =>
            sel t
              (match want with
                | true => opv E ((d, .bool true) :: m) s o fun v s' => putk N o.dst v ((d, .bool true) :: m) fun m' => nx m' s' K
                | false => putk N o.dst undef ((d, .bool true) :: m) fun m' => nx m' s K)
              (match want with
                | true => putk N o.dst undef ((d, .bool false) :: m) fun m' => nx m' s K
                | false => opv E ((d, .bool false) :: m) s o fun v s' => putk N o.dst v ((d, .bool false) :: m) fun m' => nx m' s' K)
          | some (.tuple _) => putk N o.dst undef m fun m' => nx m' s K
          | _ => False
noncomputable def vcs {σ : Type} (E : FM → σ → Oper → (Value → σ → Prop) → Prop) (N : Nat) (ops : List Oper) (l : List Oper) : FM → σ → (FM → σ → Prop) → Prop :=
  List.rec (motive := fun _ => FM → σ → (FM → σ → Prop) → Prop) (fun m s K => K m s) (fun o _ ih => vstep E N ops o ih) l

/- ### The handler of an ordinary region -/
def Ev (P : Program) (m : FM) (w : World) (o : Oper) (K : Value → World → Prop) : Prop :=
  ∀ (a : Act) (N : Nat), Fr a N m → ∀ (K' : Act → World → Prop) (Q : Exit → Act → World → Prop), (∀ v w', K v w' → K' (a.put o.dst v) w') → o.wp P a w K' Q
/-- An operation that only reads: it yields v, and leaves the world alone. -/
def Rn (P : Program) (m : FM) (w : World) (o : Oper) (v : Value) : Prop := ∀ (a : Act) (N : Nat), Fr a N m → (execOp a.eval o).run P w = .ok (.value v) w
theorem ev {P : Program} {m : FM} {w : World} {o : Oper} {K : Value → World → Prop} {v : Value} (h : Rn P m w o v) (k : K v w) : Ev P m w o K := by
  intro a N hf K' Q hk
  unfold Oper.wp
  rw [h a N hf]
  exact hk v w k

section
variable {P : Program}
theorem rn_move {m : FM} {w : World} {o : Oper} {x : Operand} {v : Value} (ho : o.op = .move x) (hx : evm m x = some v) : Rn P m w o v := by
  intro a N hf; simp only [execOp, ho, hf.ev hx]; rfl
theorem rn_assign {m : FM} {w : World} {o : Oper} {x : Operand} {v : Value} (ho : o.op = .assign x) (hx : evm m x = some v) : Rn P m w o v := by
  intro a N hf; simp only [execOp, ho, hf.ev hx]; rfl
theorem rn_pick {m : FM} {w : World} {o : Oper} {c x y : Operand} {t : Bool} {v : Value} (ho : o.op = .pick c x y) (hc : evm m c = some (.bool t)) (hx : evm m (if t then x else y) = some v) : Rn P m w o v := by
  intro a N hf
  cases t <;> simp only [Bool.false_eq_true, if_true, if_false] at hx <;> simp [execOp, ho, hf.ev hc, hf.ev hx, asBool]
theorem binv_run {op : BinOp} {x y : Value} {K : Value → Prop} {D : Prop} (t : TypeId) (h : binv op x y K D) : D ∨ ∃ v, (∀ (w : World) (X Y : Operand), (do eqGuard op t X Y x y; binOp op t x y : Sem Value).run P w = .ok v w) ∧ K v := by
  have hg : ∀ (X Y : Operand) (w : World), (∀ k p j q, x = .int k p → y = .int j q → (eqGuard op t X Y x y).run P w = .ok () w) := by
    intro X Y w k p j q hx hy; subst hx; subst hy; cases op <;> simp [eqGuard]
  have hs : ∀ (X Y : Operand) (w : World), (∀ p q, x = .string p → y = .string q → (eqGuard op t X Y x y).run P w = .ok () w) := by
    intro X Y w p q hx hy; subst hx; subst hy; cases op <;> simp [eqGuard]
  unfold binv at h
  split at h
  · rename_i k p j q
    have hg' := fun X Y w => hg X Y w k p j q rfl rfl
    split at h
    · obtain ⟨hq, hk⟩ := h
      exact .inr ⟨_, fun w X Y => by rw [Sem.run_bind, hg']; simp [binOp, Op.shift, Int.not_lt.2 hq], hk⟩
    · obtain ⟨hq, hk⟩ := h
      exact .inr ⟨_, fun w X Y => by rw [Sem.run_bind, hg']; simp [binOp, Op.shift, Int.not_lt.2 hq], hk⟩
    · cases hb : Nat.beq (kn k) (kn j)
      · rw [hb] at h; exact h.elim
      · have := kn_inj hb; subst this
        rw [hb] at h
        dsimp only [cond] at h
        split at h
        case h_4 => obtain ⟨hq, hk⟩ := h; exact .inr ⟨_, fun w X Y => by rw [Sem.run_bind, hg']; simp [binOp, Op.intDiv, hq], hk⟩
        case h_5 => obtain ⟨hq, hk⟩ := h; exact .inr ⟨_, fun w X Y => by rw [Sem.run_bind, hg']; simp [binOp, Op.intDiv, hq], hk⟩
        case h_16 => exact h.elim
        all_goals exact .inr ⟨_, fun w X Y => by rw [Sem.run_bind, hg']; simp [binOp, Op.intArith, Op.intBits, Op.intCmp, ib], h⟩
  · rename_i p q
    have hs' := fun X Y w => hs X Y w p q rfl rfl
    split at h
    case h_1 => obtain ⟨hq, hk⟩ := h; exact .inr ⟨_, fun w X Y => by rw [Sem.run_bind, hs']; simp [binOp, Op.stringOp, IntKind.max, IntKind.signed, IntKind.bits]; omega, hk⟩
    case h_5 => exact h.elim
    all_goals exact .inr ⟨_, fun w X Y => by rw [Sem.run_bind, hs']; simp [binOp, Op.stringOp], h⟩
  · exact .inl h
theorem unv_run {op : UnOp} {x : Value} {K : Value → Prop} (h : unv op x K) : ∃ v, (∀ w : World, (Op.unary op x).run P w = .ok v w) ∧ K v := by
  unfold unv at h
  split at h
  case h_4 => exact h.elim
  all_goals exact ⟨_, fun w => by simp [Op.unary, Op.intArith, Op.intBits, ib], h⟩
/-- The handler of what is not computed may be read off each operation. -/
theorem opv_run {σ : Type} {E : FM → σ → Oper → (Value → σ → Prop) → Prop} {m : FM} {s : σ} {o : Oper} {K : Value → σ → Prop} (h : opv E m s o K) :
    (∃ v, (∀ w, Rn P m w o v) ∧ K v s) ∨ E m s o K := by
  unfold opv at h
  split at h
  case h_1 x hx => obtain ⟨v, e, k⟩ := kv_elim h; exact .inl ⟨v, fun w => rn_move hx e, k⟩
  case h_2 x hx => obtain ⟨v, e, k⟩ := kv_elim h; exact .inl ⟨v, fun w => rn_assign hx e, k⟩
  case h_3 c x y hx =>
    split at h
    · rename_i t hc
      obtain ⟨v, e, k⟩ := kv_elim h
      exact .inl ⟨v, fun w => rn_pick hx hc (by cases t <;> simpa using e), k⟩
    · exact h.elim
  case h_4 op t x y u hx =>
    obtain ⟨v1, e1, k1⟩ := kv_elim h
    obtain ⟨v2, e2, k2⟩ := kv_elim k1
    rcases binv_run (P := P) t k2 with hD | ⟨v, hr, k⟩
    · exact .inr hD
    exact .inl ⟨v, fun w a N hf => by
      have := hr w x y
      simp only [execOp, hx, hf.ev e1, hf.ev e2]
      rw [Sem.run_bind, this]; rfl, k⟩
  case h_5 op t x hx =>
    obtain ⟨v1, e1, k1⟩ := kv_elim h
    obtain ⟨v, hr, k⟩ := unv_run (P := P) k1
    exact .inl ⟨v, fun w a N hf => by
      have := hr w
      simp only [execOp, hx, hf.ev e1]
      rw [Sem.run_bind, this]; rfl, k⟩
  case h_6 x i hx =>
    split at h
    · rename_i vs hc
      obtain ⟨v, e, k⟩ := kv_elim h
      exact .inl ⟨v, fun w a N hf => by simp [execOp, hx, hf.ev hc, Instr.extract, e], k⟩
    · exact h.elim
  case h_7 x hx =>
    split at h
    · rename_i ad hc
      exact .inl ⟨_, fun w a N hf => by simp [execOp, hx, hf.ev hc], h⟩
    · exact h.elim
  case h_8 => exact .inr h
end
theorem putk_elim {N : Nat} {d : Option Tmp} {v : Value} {m : FM} {K : FM → Prop} {a : Act} (h : putk N d v m K) (hf : Fr a N m) : ∃ m', Fr (a.put d v) N m' ∧ K m' := by
  unfold putk at h
  cases d with
  | none => exact ⟨m, hf, h⟩
  | some d =>
    dsimp only at h
    cases hb : Nat.blt d N
    · rw [hb] at h; exact h.elim
    · rw [hb] at h
      exact ⟨_, hf.put (by simpa [Nat.blt_eq] using hb) v, h⟩
theorem Fr.bool {a : Act} {N d : Nat} {m : FM} {t : Bool} (hf : Fr a N m) (h : look m d = some (.bool t)) : Fr a N ((d, .bool t) :: m) :=
  hf.sub (.c h (.refl m))
theorem wanted_of {ops : List Oper} {o oj : Oper} {a : Act} {j d : Nat} {want t : Bool} {N : Nat} {m : FM} (hg : o.guard = some (j, want)) (hj : ops[j]? = some oj) (hd : oj.dst = some d) (hf : Fr a N m) (hl : look m d = some (.bool t)) :
    Region.wanted o (yielded ops.toArray a.tmps) = (t == want) := by
  have := hf.has d _ hl
  simp [Region.wanted, hg, yielded, hj, hd, this]
theorem unwanted_of {ops : List Oper} {o oj : Oper} {a : Act} {j d : Nat} {want : Bool} {vs : Array Value} {N : Nat} {m : FM} (hg : o.guard = some (j, want)) (hj : ops[j]? = some oj) (hd : oj.dst = some d) (hf : Fr a N m) (hl : look m d = some (.tuple vs)) :
    Region.wanted o (yielded ops.toArray a.tmps) = false := by
  have := hf.has d _ hl
  simp [Region.wanted, hg, yielded, hj, hd, this]

/-- A frame that the list describes, and a world. -/
def Lift (N : Nat) (Q : Exit → FM → World → Prop) (e : Exit) (a : Act) (w : World) : Prop := ∃ m, Fr a N m ∧ Q e m w

theorem vcs_sound {P : Program} {N : Nat} {ops : List Oper} {Q : Exit → Act → World → Prop} : ∀ (l : List Oper) (m : FM) (w : World) (K : FM → World → Prop) (a : Act), Fr a N m →
    (∀ m' w' a', Fr a' N m' → K m' w' → Q .normal a' w') → vcs (Ev P) N ops l m w K → wpList P ops.toArray Q l a w
  | [], m, w, K, a, hf, hk, h => hk _ _ _ hf h
  | o :: rest, m, w, K, a, hf, hk, h => by
    have ih := vcs_sound (P := P) (ops := ops) (N := N) (Q := Q) rest
    have go : ∀ {m : FM}, Fr a N m → opv (Ev P) m w o (fun v s' => putk N o.dst v m fun m' => vcs (Ev P) N ops rest m' s' K) → ∀ K', (∀ a w, wpList P ops.toArray Q rest a w → K' a w) → o.wp P a w K' Q := by
      intro m hf h K' hK'
      have fin : ∀ v w', putk N o.dst v m (fun m' => vcs (Ev P) N ops rest m' w' K) → K' (a.put o.dst v) w' := by
        intro v w' hp
        obtain ⟨m', hf', hv⟩ := putk_elim hp hf
        exact hK' _ _ (ih m' w' K _ hf' hk hv)
      rcases opv_run (P := P) h with ⟨v, hr, hp⟩ | he
      · unfold Oper.wp
        rw [hr w a N hf]
        exact fin v w hp
      · exact he a N hf K' Q fin
    have skip : ∀ {m : FM}, Fr a N m → putk N o.dst undef m (fun m' => vcs (Ev P) N ops rest m' w K) → wpList P ops.toArray Q rest (a.put o.dst undef) w := by
      intro m hf h
      obtain ⟨m', hf', hv⟩ := putk_elim h hf
      exact ih m' w K _ hf' hk hv
    replace h : vstep _ N ops o (vcs _ N ops rest) m w K := h
    unfold vstep at h
    refine wpList_step fun K' hK' => ?_
    split at h
    · rename_i hg
      rw [if_pos (by simp [Region.wanted, hg])]
      exact go hf h K' hK'
    · rename_i j want hg
      split at h
      · exact h.elim
      · rename_i oj hj
        split at h
        · exact h.elim
        · rename_i d hd
          split at h
          · rename_i t hl
            rw [wanted_of hg hj hd hf hl]
            have hfb := hf.bool hl
            rcases sel_cases h with ⟨rfl, h⟩ | ⟨rfl, h⟩
            · cases want
              · simp only [Bool.true_beq, Bool.false_eq_true, if_false]; exact hK' _ _ (skip hfb h)
              · simp only [beq_self_eq_true, if_true]; exact go hfb h K' hK'
            · cases want
              · simp only [beq_self_eq_true, if_true]; exact go hfb h K' hK'
              · simp only [Bool.false_beq, Bool.not_true, Bool.false_eq_true, if_false]; exact hK' _ _ (skip hfb h)
          · rename_i vs hl
            rw [unwanted_of hg hj hd hf hl]
            simp only [Bool.false_eq_true, if_false]
            exact hK' _ _ (skip hf h)
          · exact h.elim
end Go.Proofs.Ytcdboppghnchpaa.Gw

namespace Go.Proofs.Ytcdboppghnchpaa.Gw
open Go

/- ### Code -/
def W (P : Program) (N : Nat) (c : Code) (m : FM) (w : World) (Q : Exit → FM → World → Prop) : Prop := ∀ a, Fr a N m → c.wp P (Lift N Q) a w
def thenQ (A B : Prop) : Exit → Prop
  | .normal => A
  | _ => B
def exitQ (id : Nat) (A B : Prop) : Exit → Prop
  | .exit i => bif Nat.beq i id then A else B
  | _ => B
def vcc (P : Program) (N : Nat) : Code → FM → World → (Exit → FM → World → Prop) → Prop
  | .skip, m, w, Q => Q .normal m w
  | .region _ ops false, m, w, Q => vcs (Ev P) N ops.toList ops.toList m w fun m' w' => Q .normal m' w'
  | .seq a b, m, w, Q => W P N a m w fun e m' w' => thenQ (W P N b m' w' Q) (Q e m' w') e
  | .cond c A B, m, w, Q => match evm m c with
    | some (.bool t) => sel t (W P N A m w Q) (W P N B m w Q)
    | _ => False
  | .block id c, m, w, Q => W P N c m w fun e m' w' => exitQ id (Q .normal m' w') (Q e m' w') e
  | .exit id, m, w, Q => Q (.exit id) m w
  | .ret, m, w, Q => Q .ret m w
  | c, m, w, Q => W P N c m w Q

theorem W.mono {P : Program} {N : Nat} {c : Code} {m : FM} {w : World} {Q Q' : Exit → FM → World → Prop} (h : W P N c m w Q) (k : ∀ e m' w', Q e m' w' → Q' e m' w') : W P N c m w Q' :=
  fun a hf => wp_mono (h a hf) fun _ _ _ ⟨m', hf', q⟩ => ⟨m', hf', k _ _ _ q⟩
theorem W.sub {P : Program} {N : Nat} {c : Code} {m m' : FM} {w : World} {Q : Exit → FM → World → Prop} (h : W P N c m w Q) (k : Sub m m') : W P N c m' w Q := fun a hf => h a (hf.sub k)

theorem go {P : Program} {N : Nat} : ∀ {c : Code} {m : FM} {w : World} {Q : Exit → FM → World → Prop}, vcc P N c m w Q → W P N c m w Q
  | .skip, m, w, Q, h => fun a hf => wp_skip ⟨m, hf, h⟩
  | .region _ ops false, m, w, Q, h => fun a hf => by
    refine wp_region_list ?_
    have := vcs_sound (P := P) (Q := Lift N Q) ops.toList m w _ a hf (fun m' w' a' hf' q => ⟨m', hf', q⟩) h
    simpa using this
  | .region _ ops true, m, w, Q, h => h
  | .seq x y, m, w, Q, h => fun a hf => by
    refine wp_seq (wp_mono (h a hf) ?_)
    rintro e a' w' ⟨m', hf', q⟩
    cases e <;> first | exact q a' hf' | exact ⟨m', hf', q⟩
  | .cond c A B, m, w, Q, h => fun a hf => by
    simp only [vcc] at h
    split at h
    · rename_i t ht
      have he := hf.ev ht
      rcases sel_cases h with ⟨rfl, h⟩ | ⟨rfl, h⟩
      · exact wp_cond_true he (h a hf)
      · exact wp_cond_false he (h a hf)
    · exact h.elim
  | .block id c, m, w, Q, h => fun a hf => by
    refine wp_block (wp_mono (h a hf) ?_)
    rintro e a' w' ⟨m', hf', q⟩
    cases e <;> try exact ⟨m', hf', q⟩
    rename_i i
    simp only [Exit.inBlock]
    simp only [exitQ] at q
    cases hb : Nat.beq i id
    · rw [hb] at q
      have hne : i ≠ id := by rintro rfl; simp at hb
      rw [if_neg hne]; exact ⟨m', hf', q⟩
    · rw [hb] at q
      rw [if_pos (Nat.eq_of_beq_eq_true hb)]; exact ⟨m', hf', q⟩
  | .exit id, m, w, Q, h => fun a hf => wp_exit ⟨m, hf, h⟩
  | .ret, m, w, Q, h => fun a hf => wp_ret ⟨m, hf, h⟩
  | .loop _, m, w, Q, h => h
  | .rangeFunc .., m, w, Q, h => h
  | .scope _, m, w, Q, h => h
  | .label _, m, w, Q, h => h
  | .goto _, m, w, Q, h => h
  | .refuse _, m, w, Q, h => h

/-- A cut: behind the first part only what is said counts. γ: what is not written out (values, blocks, numbers). -/
theorem W.cut {P : Program} {N : Nat} {x y : Code} {m : FM} {w : World} {Q : Exit → FM → World → Prop} {γ : Type} (fm : γ → FM) (S : γ → World → Prop)
    (h : W P N x m w fun e m' w' => thenQ (∃ g, Sub (fm g) m' ∧ S g w') (Q e m' w') e) (k : ∀ g w', S g w' → W P N y (fm g) w' Q) : W P N (.seq x y) m w Q := by
  intro a hf
  refine wp_seq (wp_mono (h a hf) ?_)
  rintro e a' w' ⟨m', hf', q⟩
  cases e <;> first
    | exact ⟨m', hf', q⟩
    | (obtain ⟨g, hs, hS⟩ := q; exact k g w' hS a' (hf'.sub hs))

/- ### Loops -/
inductive Out (σ ρ : Type) | go (s : σ) | done (r : ρ)
def loopN {σ ρ : Type} (body : σ → Option (Out σ ρ)) : Nat → σ → Option ρ
  | 0, _ => none
  | n + 1, s => (body s).bind fun o => match o with | .go s' => loopN body n s' | .done r => some r
theorem wp_loopI {P : Program} {c : Code} {Q : Exit → Act → World → Prop} (I : Nat → Act → World → Prop) (hz : ∀ a w, ¬ I 0 a w)
    (round : ∀ n a w, I (n + 1) a w → c.wp P (Exit.then (I n) Q) a w) : ∀ (n : Nat) (a : Act) (w : World), I n a w → (Code.loop c).wp P Q a w := by
  intro n a w h b k cs
  have key : ∀ n a w, I n a w → ∃ e a' w', Q e a' w' ∧ Arrives P (lone (b.at a (.code c :: .inLoop c :: k)) cs w) b k cs e a' w' := by
    intro n
    induction n with
    | zero => intro a w h; exact (hz a w h).elim
    | succ n ih =>
      intro a w hI
      obtain ⟨e, a₁, w₁, hq, harr⟩ := round n a w hI b (.inLoop c :: k) cs
      cases e with
      | normal =>
        obtain ⟨e₂, a₂, w₂, hq₂, harr₂⟩ := ih a₁ w₁ hq
        exact ⟨e₂, a₂, w₂, hq₂, .of_steps (Steps.trans harr (.one step_inLoop)) harr₂⟩
      | exit id => exact ⟨_, a₁, w₁, hq, .pass (x := .inLoop c) rfl (fun _ _ => .inl (by simp)) harr⟩
      | goto l => exact ⟨_, a₁, w₁, hq, .pass (x := .inLoop c) rfl (fun _ _ => .inl (by simp)) harr⟩
      | ret => exact ⟨_, a₁, w₁, hq, .pass (x := .inLoop c) rfl (fun _ _ => .inl (by simp)) harr⟩
      | panic ch => exact ⟨_, a₁, w₁, hq, .pass (x := .inLoop c) rfl (fun _ _ => .inl (by simp)) harr⟩
      | outgrown => exact ⟨_, a₁, w₁, hq, .pass (x := .inLoop c) rfl (fun _ _ => .inl (by simp)) harr⟩
  obtain ⟨e, a', w', hq, harr⟩ := key n a w h
  exact ⟨e, a', w', hq, .of_steps (.one step_loop) harr⟩
theorem W.loop {P : Program} {N : Nat} {c : Code} {m : FM} {w : World} {Q : Exit → FM → World → Prop} {σ ρ γ : Type} {body : σ → Option (Out σ ρ)} {k : Nat} {s : σ} {r : ρ} (hp : loopN body k s = some r)
    (fm : σ → γ → FM) (S : σ → γ → World → Prop) (g : γ) (h0 : Sub (fm s g) m) (hS : S s g w)
    (step : ∀ s g w o, S s g w → body s = some o → (∀ r', o = .done r' → r' = r) →
      W P N c (fm s g) w fun e m' w' => thenQ (∃ s', o = .go s' ∧ ∃ g', Sub (fm s' g') m' ∧ S s' g' w') (Q e m' w') e) : W P N (.loop c) m w Q := by
  intro a hf
  refine wp_loopI (fun n a w => ∃ s g, loopN body n s = some r ∧ Fr a N (fm s g) ∧ S s g w) ?_ ?_ k a w ⟨s, g, hp, hf.sub h0, hS⟩
  · rintro a w ⟨s, g, h, _⟩
    simp [loopN] at h
  · rintro n a w ⟨s, g, h, hf, hS⟩
    simp only [loopN] at h
    cases hb : body s with
    | none => rw [hb] at h; simp at h
    | some o =>
      rw [hb] at h
      have hst := step s g w o hS hb (fun r' e => by subst e; simpa using h) a hf
      refine wp_mono hst ?_
      rintro e a' w' ⟨m', hf', q⟩
      cases e <;> try exact ⟨m', hf', q⟩
      obtain ⟨s', rfl, g', hs, hS'⟩ := q
      exact ⟨s', g', by simpa using h, hf'.sub hs, hS'⟩

/- ### Regions that draw their order -/
def EvQ (P : Program) (C : World → Prop) (m : FM) (_ : Unit) (o : Oper) (K : Value → Unit → Prop) : Prop :=
  ∃ v, (∀ (a : Act) (N : Nat), Fr a N m → ∀ w, C w → o.quietAt P a C w v) ∧ K v ()
theorem evq {P : Program} {C : World → Prop} {m : FM} {o : Oper} {K : Value → Unit → Prop} {v : Value} (h : ∀ w, C w → Rn P m w o v) (k : K v ()) : EvQ P C m () o K :=
  ⟨v, fun a N hf w hw => by unfold Oper.quietAt; rw [h w hw a N hf]; exact ⟨rfl, rfl⟩, k⟩
theorem vcq_sound {P : Program} {C : World → Prop} {N : Nat} {ops : List Oper} {Q : Act → Prop} : ∀ (l : List Oper) (m : FM) (K : FM → Unit → Prop) (a : Act), Fr a N m →
    (∀ m' a', Fr a' N m' → K m' () → Q a') → vcs (EvQ P C) N ops l m () K → wpQuiet P ops.toArray C Q l a
  | [], m, K, a, hf, hk, h => hk _ _ hf h
  | o :: rest, m, K, a, hf, hk, h => by
    have ih := vcq_sound (P := P) (C := C) (ops := ops) (N := N) (Q := Q) rest
    have go : ∀ {m : FM}, Fr a N m → opv (EvQ P C) m () o (fun v s' => putk N o.dst v m fun m' => vcs (EvQ P C) N ops rest m' s' K) → ∀ K', (∀ a, wpQuiet P ops.toArray C Q rest a → K' a) → o.quiet P a C K' := by
      intro m hf h K' hK'
      have fin : ∀ v, putk N o.dst v m (fun m' => vcs (EvQ P C) N ops rest m' () K) → K' (a.put o.dst v) := by
        intro v hp
        obtain ⟨m', hf', hv⟩ := putk_elim hp hf
        exact hK' _ (ih m' K _ hf' hk hv)
      rcases opv_run (P := P) h with ⟨v, hr, hp⟩ | ⟨v, he, hp⟩
      · exact ⟨v, fun w hw => by unfold Oper.quietAt; rw [hr w a N hf]; exact ⟨rfl, rfl⟩, fin v hp⟩
      · exact ⟨v, he a N hf, fin v hp⟩
    have skip : ∀ {m : FM}, Fr a N m → putk N o.dst undef m (fun m' => vcs (EvQ P C) N ops rest m' () K) → wpQuiet P ops.toArray C Q rest (a.put o.dst undef) := by
      intro m hf h
      obtain ⟨m', hf', hv⟩ := putk_elim h hf
      exact ih m' K _ hf' hk hv
    replace h : vstep _ N ops o (vcs _ N ops rest) m () K := h
    unfold vstep at h
    refine wpQuiet_step fun K' hK' => ?_
    split at h
    · rename_i hg
      rw [if_pos (by simp [Region.wanted, hg])]
      exact go hf h K' hK'
    · rename_i j want hg
      split at h
      · exact h.elim
      · rename_i oj hj
        split at h
        · exact h.elim
        · rename_i d hd
          split at h
          · rename_i t hl
            rw [wanted_of hg hj hd hf hl]
            have hfb := hf.bool hl
            rcases sel_cases h with ⟨rfl, h⟩ | ⟨rfl, h⟩
            · cases want
              · simp only [Bool.true_beq, Bool.false_eq_true, if_false]; exact hK' _ (skip hfb h)
              · simp only [beq_self_eq_true, if_true]; exact go hfb h K' hK'
            · cases want
              · simp only [beq_self_eq_true, if_true]; exact go hfb h K' hK'
              · simp only [Bool.false_beq, Bool.not_true, Bool.false_eq_true, if_false]; exact hK' _ (skip hfb h)
          · rename_i vs hl
            rw [unwanted_of hg hj hd hf hl]
            simp only [Bool.false_eq_true, if_false]
            exact hK' _ (skip hf h)
          · exact h.elim
/-- A region that draws its order and only reads: in the order of the text, in every world of a class. -/
theorem W.quiet {P : Program} {N : Nat} {id : Nat} {l : List Oper} {m : FM} {w : World} {Q : Exit → FM → World → Prop} (C : World → Prop) (hm : P.follows .mixedOrders = true) (hB : Region.lexB .any l.toArray = true)
    (hC : C w.drew) (h : vcs (EvQ P C) N l l m () fun m' _ => ∀ w', C w' → Q .normal m' w') : W P N (.region id l.toArray true) m w Q := by
  intro a hf
  refine wp_region_quiet hm hB hC ?_
  have := vcq_sound (P := P) (C := C) (Q := fun a' => ∀ w', C w' → Lift N Q .normal a' w') l m _ a hf (fun m' a' hf' q w' hw' => ⟨m', hf', q w' hw'⟩) h
  simpa using this
/-- Reads first, in any order; then the rest, each waiting for the one before it. -/
def EvS (P : Program) (w : World) (m : FM) (_ : Unit) (o : Oper) (K : Value → Unit → Prop) : Prop := ∃ v, Rn P m w o v ∧ K v ()
/- ### The beginning and the end of a function -/
def initM : Nat → List Value → FM
  | _, [] => []
  | k, v :: vs => (k, v) :: initM (k + 1) vs
def resK (P : Program) (m : FM) (w : World) : List ResultVar → List Value → (List Value → Prop) → Prop
  | [], acc, K => K acc
  | .tmp t :: l, acc, K => kv (look m t) fun v => resK P m w l (acc ++ [v]) K
  | .cell a t :: l, acc, K => match look m a with
    | some (.pointer (some p)) => ∃ v, (loadVar t p).run P w = .ok v w ∧ resK P m w l (acc ++ [v]) K
    | _ => False
def tupv : List Value → Value
  | [v] => v
  | vs => .tuple vs.toArray
def RetQ (P : Program) (rs : List ResultVar) (R : Value → World → Prop) (e : Exit) (m : FM) (w : World) : Prop :=
  match e with
  | .normal => resK P m w rs [] fun vs => R (tupv vs) w
  | .ret => resK P m w rs [] fun vs => R (tupv vs) w
  | _ => False
def rvar (tmps : Array Value) : ResultVar → Sem Value
  | .tmp t => pure (tmps.getD t undef)
  | .cell p t => do loadVar t (← asAddr (tmps.getD p undef))
theorem resK_run {P : Program} {m : FM} {w : World} {a : Act} {N : Nat} (hf : Fr a N m) : ∀ (l : List ResultVar) (acc : List Value) (K : List Value → Prop), resK P m w l acc K →
    ∃ vs, (l.mapM (rvar a.tmps)).run P w = .ok vs w ∧ K (acc ++ vs)
  | [], acc, K, h => ⟨[], by simp, by simpa [resK] using h⟩
  | .tmp t :: l, acc, K, h => by
    obtain ⟨v, e, h⟩ := kv_elim h
    obtain ⟨vs, hr, hk⟩ := resK_run hf l _ K h
    have hv : a.tmps.getD t undef = v := by have := hf.has t v e; simp [Array.getD_eq_getD_getElem?, this]
    refine ⟨v :: vs, ?_, by simpa using hk⟩
    rw [List.mapM_cons, Sem.run_bind, show (rvar a.tmps (.tmp t)) = pure v from by rw [rvar, hv], Sem.run_pure, Result.andThen_ok, Sem.run_bind, hr]
    rfl
  | .cell p t :: l, acc, K, h => by
    simp only [resK] at h
    split at h
    · rename_i q hq
      obtain ⟨v, hv, h⟩ := h
      obtain ⟨vs, hr, hk⟩ := resK_run hf l _ K h
      have hp : a.tmps.getD p undef = .pointer (some q) := by have := hf.has p _ hq; simp [Array.getD_eq_getD_getElem?, this]
      refine ⟨v :: vs, ?_, by simpa using hk⟩
      rw [List.mapM_cons, Sem.run_bind, show (rvar a.tmps (.cell p t)) = (do loadVar t (← asAddr (.pointer (some q)))) from by rw [rvar, hp]]
      simp only [asAddr, Sem.run_bind, Sem.run_pure, Result.andThen_ok, hv, hr]
    · exact h.elim
theorem results_of {P : Program} {fn : Func} {m : FM} {w : World} {a : Act} {N : Nat} {R : Value → World → Prop} (hf : Fr a N m) (h : resK P m w fn.results.toList [] fun vs => R (tupv vs) w) :
    ∃ v, (results fn a.tmps).run P w = .ok v w ∧ R v w := by
  obtain ⟨vs, hr, hk⟩ := resK_run hf _ _ _ h
  refine ⟨tupv vs, ?_, by simpa using hk⟩
  have e : results fn a.tmps = (do let vs ← fn.results.mapM (rvar a.tmps); pure (if h : vs.size = 1 then vs[0] else .tuple vs)) := by
    unfold results; congr 2
  rw [e, Sem.run_bind, Array.mapM_eq_mapM_toList, Sem.run_map, hr]
  rcases vs with _ | ⟨v, _ | ⟨u, vs⟩⟩
  · rfl
  · rfl
  · simp only [Result.andThen_ok, Sem.run_pure]
    congr 1
theorem enter {P : Program} {f : FuncId} {fn : Func} {c : Code} {l : List Value} {w : World} {R : Value → World → Prop} (hf : P.funcs[f]? = some fn) (hb : fn.body = some c) (hl : l.length ≤ fn.ntmps)
    (h : W P fn.ntmps c (initM 0 l) w (RetQ P fn.results.toList R)) : Ret P f l.toArray w R := by
  refine calls_of_wp hf hb ?_
  have hfr : Fr { tmps := l.toArray ++ Array.replicate (fn.ntmps - l.toArray.size) undef, defers := [] } fn.ntmps (initM 0 l) := by
    refine ⟨by simp; omega, rfl, ?_⟩
    have key : ∀ (l : List Value) (k t : Nat) (v : Value), look (initM k l) t = some v → ∃ i, t = k + i ∧ l[i]? = some v := by
      intro l
      induction l with
      | nil => intro k t v h; simp [initM, look] at h
      | cons x l ih =>
        intro k t v h
        simp only [initM, look] at h
        cases hb : Nat.beq k t
        · rw [hb] at h
          obtain ⟨i, rfl, hi⟩ := ih (k + 1) t v h
          exact ⟨i + 1, by omega, by simpa using hi⟩
        · rw [hb] at h
          obtain rfl := Nat.eq_of_beq_eq_true hb
          exact ⟨0, rfl, by simpa using h⟩
    intro t v hv
    obtain ⟨i, rfl, hi⟩ := key l 0 t v hv
    have hlt : i < l.length := by
      rcases Nat.lt_or_ge i l.length with h | h
      · exact h
      · simp [List.getElem?_eq_none h] at hi
    simp only [Nat.zero_add]
    rw [Array.getElem?_append_left (by simpa using hlt)]
    simpa using hi
  refine wp_mono (h _ hfr) ?_
  rintro e a' w' ⟨m', hf', q⟩
  cases e <;> first | exact q.elim | skip
  all_goals
    obtain ⟨v, hr, hR⟩ := results_of hf' q
    exact ⟨hf'.defers, v, hr, v, rfl, hR⟩
end Go.Proofs.Ytcdboppghnchpaa.Gw

namespace Go.Proofs.Ytcdboppghnchpaa.Gw
open Go Go.RowKit

/- ### Worlds -/
theorem ask_drawn {α : Type} : ∀ (x : Ask α) (w : World), w.drawn ≤ (w.ask x).2.drawn
  | .done a, w => Nat.le_refl _
  | .ask what range k, w => by
    unfold World.ask
    dsimp only
    split
    · exact ask_drawn (k 0) w
    · exact Nat.le_trans (Nat.le_succ w.drawn) (ask_drawn (k _) { w with drawn := w.drawn + 1 })
theorem sys_drawn (w : World) (c : Sys) : w.drawn ≤ (w.sys c).2.drawn := by
  unfold World.sys
  have h := ask_drawn (Kernel.perform c w.os) w
  generalize w.ask (Kernel.perform c w.os) = r at h
  obtain ⟨⟨r, os⟩, w'⟩ := r
  cases r <;> first | exact h | exact Nat.le_refl _
theorem viewStore_drawn {p : Program} {w w' : World} {a : Addr} {u : TypeId} {k : Addr} {v : Value} {b : Bool} {l : List Addr} (h : w.viewStore p a u k v b = .ok (w', l)) : w'.drawn = w.drawn := by
  unfold World.viewStore at h
  simp only [bind, Except.bind, pure, Except.pure] at h
  repeat' split at h
  all_goals first | (cases h; done) | (cases h; rfl) | skip
theorem store_drawn {α : Type} {p : Program} {m : Mode} {a : Addr} {u : Value} {k : Sem α} {w w' : World} {v : α} (ih : ∀ w2, k.run p w2 = .ok v w' → w2.drawn ≤ w'.drawn) (h : (Sem.store m a u k).run p w = .ok v w') : w.drawn ≤ w'.drawn := by
  have key : (match w.cell? a with
      | some _ => if w.frozen? a then Result.halt (.unsupported (.unsafePointer "a write to bytes that a string shares")) w else k.run p (w.setCell a u)
      | none => match w.farStore p a u (m == Mode.atomic) with
        | .ok (w, _) => k.run p w
        | .error h => .halt h w) = .ok v w' → w.drawn ≤ w'.drawn := by
    intro h
    split at h
    · split at h
      · cases h
      · exact ih (w.setCell a u) h
    · split at h
      · rename_i w2 l hf
        have h2 : w2.drawn = w.drawn := by
          unfold World.farStore at hf
          split at hf
          · split at hf
            · rename_i r hr
              cases hf
              exact viewStore_drawn hr
            · cases hf
          · cases hf
        rw [← h2]; exact ih _ h
      · cases h
  cases u
  case agg cs => cases h
  case tuple cs => cases h
  all_goals exact key h
theorem run_drawn {α : Type} {p : Program} : ∀ (s : Sem α) (w : World) {v : α} {w' : World}, s.run p w = .ok v w' → w.drawn ≤ w'.drawn
  | .pure a, w, v, w', h => by cases h; exact Nat.le_refl _
  | .load m a k, w, v, w', h => by
    simp only [Sem.run] at h
    split at h
    · exact run_drawn (k _) w h
    · split at h
      · exact run_drawn (k _) w h
      · cases h
  | .store m a u k, w, v, w', h => store_drawn (fun w2 h2 => run_drawn k w2 h2) h
  | .new o k, w, v, w', h => run_drawn (k w.heap.size) { w with heap := w.heap.push o } h
  | .shape r k, w, v, w', h => run_drawn (k _) _ h
  | .freeze a n k, w, v, w', h => by
    have := run_drawn k _ h
    unfold World.freeze at this
    split at this <;> exact this
  | .frozen a k, w, v, w', h => run_drawn (k _) _ h
  | .getObj r k, w, v, w', h => by
    simp only [Sem.run] at h
    split at h
    · cases h
    · exact run_drawn (k _) w h
    · cases h
  | .setObj r o k, w, v, w', h => by
    simp only [Sem.run] at h
    split at h
    · cases h
    · exact run_drawn k { w with heap := w.heap.setIfInBounds r o } h
    · cases h
  | .choose q k, w, v, w', h => by
    simp only [Sem.run] at h
    split at h
    · exact run_drawn (k _) w h
    · exact Nat.le_trans (Nat.le_succ w.drawn) (run_drawn (k _) { w with drawn := w.drawn + 1 } h)
  | .sys c k, w, v, w', h => Nat.le_trans (sys_drawn w c) (run_drawn (k _) _ h)
  | .program k, w, v, w', h => run_drawn (k _) _ h
  | .mark m k, w, v, w', h => run_drawn k _ h
  | .halt h, w, v, w', h' => by cases h'
/-- w' is w with new blocks; of the old ones only those of B may have turned. -/
structure Ch (B : List Nat) (w w' : World) : Prop where
  drawn : w.drawn ≤ w'.drawn
  os : w'.os = w.os
  tape : w'.tape = w.tape
  output : w'.output = w.output
  size : w.heap.size ≤ w'.heap.size
  old : ∀ g, g < w.heap.size → g ∉ B → w'.heap[g]? = w.heap[g]?
theorem Ch.refl (B : List Nat) (w : World) : Ch B w w := ⟨Nat.le_refl _, rfl, rfl, rfl, Nat.le_refl _, fun _ _ _ => rfl⟩
theorem Ch.trans {B : List Nat} {a b c : World} (h : Ch B a b) (k : Ch B b c) : Ch B a c :=
  ⟨Nat.le_trans h.drawn k.drawn, k.os.trans h.os, k.tape.trans h.tape, k.output.trans h.output, Nat.le_trans h.size k.size, fun g hg hn => (k.old g (Nat.lt_of_lt_of_le hg h.size) hn).trans (h.old g hg hn)⟩
theorem Ch.more {B B' : List Nat} {a b : World} (h : Ch B a b) (k : ∀ g, g ∈ B → g ∈ B') : Ch B' a b :=
  ⟨h.drawn, h.os, h.tape, h.output, h.size, fun g hg hn => h.old g hg fun hb => hn (k g hb)⟩
theorem Ch.drew (B : List Nat) (w : World) : Ch B w w.drew := ⟨Nat.le_succ _, rfl, rfl, rfl, Nat.le_refl _, fun _ _ _ => rfl⟩
theorem Ch.alloc (B : List Nat) (w : World) (o : Obj) : Ch B w (w.alloc o) := ⟨Nat.le_refl _, rfl, rfl, rfl, by simp, fun g hg _ => by show (w.heap.push o)[g]? = _; rw [Array.getElem?_push, if_neg (by omega)]⟩
theorem Ch.below {w w' : World} (h : Ch [] w w') : Below w.heap.size w w' := ⟨h.os, h.tape, h.output, h.size, fun g hg => h.old g hg (by simp)⟩
/-- What may not turn from here to there. -/
def Stp (I : Nat → Prop) (w : World) (I' : Nat → Prop) (w' : World) : Prop := ∀ g, I g → I' g ∧ w'.heap[g]? = w.heap[g]?
theorem Stp.refl (I : Nat → Prop) (w : World) : Stp I w I w := fun _ h => ⟨h, rfl⟩
theorem Stp.trans {I I' I'' : Nat → Prop} {a b c : World} (h : Stp I a I' b) (k : Stp I' b I'' c) : Stp I a I'' c :=
  fun g hg => ⟨(k g (h g hg).1).1, (k g (h g hg).1).2.trans (h g hg).2⟩
/-- The old readable blocks, and all that is new. -/
def Un (I : Nat → Prop) (w w' : World) (g : Nat) : Prop := I g ∨ (w.heap.size ≤ g ∧ g < w'.heap.size)
theorem Ch.stp {I : Nat → Prop} {w w' : World} (h : Ch [] w w') (hI : ∀ g, I g → g < w.heap.size) : Stp I w I w' := fun g hg => ⟨hg, h.old g (hI g hg) (by simp)⟩

/- ### Cells -/
def At (w : World) (I : Nat → Prop) (p : Addr) (cs : List Value) : Prop := I p.block ∧ ∀ j v, cs[j]? = some v → w.cell? (p.add j) = some v
theorem add_block (a : Addr) (n : Nat) : (a.add n).block = a.block := by unfold Addr.add; split <;> rfl
theorem add_add (a : Addr) (i j : Nat) : (a.add i).add j = a.add (i + j) := by
  unfold Addr.add
  by_cases hi : i = 0 <;> by_cases hj : j = 0 <;> simp [hi, hj, Nat.add_assoc]
theorem add_lit (g o n : Nat) : (⟨g, o, none⟩ : Addr).add n = ⟨g, o + n, none⟩ := by unfold Addr.add; split <;> simp_all
theorem At.step {w w' : World} {I I' : Nat → Prop} {p : Addr} {cs : List Value} (h : At w I p cs) (k : Stp I w I' w') : At w' I' p cs :=
  ⟨(k _ h.1).1, fun j v hv => by
    rw [World.cell?_of_block (w := w)]
    · exact h.2 j v hv
    · rw [add_block]; exact (k _ h.1).2⟩
theorem At.drop {w : World} {I : Nat → Prop} {p : Addr} {cs : List Value} (h : At w I p cs) (n : Nat) : At w I (p.add n) (cs.drop n) :=
  ⟨by rw [add_block]; exact h.1, fun j v hv => by rw [add_add]; exact h.2 _ v (by simpa [List.getElem?_drop] using hv)⟩
theorem At.take {w : World} {I : Nat → Prop} {p : Addr} {cs : List Value} (h : At w I p cs) (n : Nat) : At w I p (cs.take n) :=
  ⟨h.1, fun j v hv => h.2 _ v (by rw [List.getElem?_take] at hv; split at hv; exact hv; cases hv)⟩

/- ### Data -/
/-- How data of a type lie in cells. -/
structure Desc (α : Type) where
  size : Nat
  rep : World → (Nat → Prop) → List Value → α → Prop
  step : ∀ {w I w' I' cs x}, rep w I cs x → Stp I w I' w' → rep w' I' cs x
  len : ∀ {w I cs x}, rep w I cs x → cs.length = size
  one : ∀ {w I cs x}, rep w I cs x → ∀ v ∈ cs, v.oneCell' = true
def dI (k : IntKind) : Desc Int where
  size := 1
  rep := fun _ _ cs x => cs = [.int k x]
  step := fun h _ => h
  len := by rintro _ _ _ _ rfl; rfl
  one := by rintro _ _ _ _ rfl v hv; simp at hv; subst hv; rfl
def dB : Desc Bool where
  size := 1
  rep := fun _ _ cs x => cs = [.bool x]
  step := fun h _ => h
  len := by rintro _ _ _ _ rfl; rfl
  one := by rintro _ _ _ _ rfl v hv; simp at hv; subst hv; rfl
def dS : Desc ByteArray where
  size := 1
  rep := fun _ _ cs x => cs = [.string x]
  step := fun h _ => h
  len := by rintro _ _ _ _ rfl; rfl
  one := by rintro _ _ _ _ rfl v hv; simp at hv; subst hv; rfl
def dU : Desc Unit where
  size := 0
  rep := fun _ _ cs _ => cs = []
  step := fun h _ => h
  len := by rintro _ _ _ _ rfl; rfl
  one := by rintro _ _ _ _ rfl v hv; simp at hv
/-- Two parts side by side. -/
def dP {α β : Type} (a : Desc α) (b : Desc β) : Desc (α × β) where
  size := a.size + b.size
  rep := fun w I cs x => ∃ c d, cs = c ++ d ∧ a.rep w I c x.1 ∧ b.rep w I d x.2
  step := fun ⟨c, d, e, h, k⟩ s => ⟨c, d, e, a.step h s, b.step k s⟩
  len := by rintro w I cs x ⟨c, d, rfl, h, k⟩; rw [List.length_append, a.len h, b.len k]
  one := by
    rintro w I cs x ⟨c, d, rfl, h, k⟩ v hv
    rcases List.mem_append.1 hv with hv | hv
    · exact a.one h v hv
    · exact b.one k v hv
/-- Seen through a function. -/
def dV {α β : Type} (f : β → α) (a : Desc α) : Desc β where
  size := a.size
  rep := fun w I cs x => a.rep w I cs (f x)
  step := a.step
  len := a.len
  one := a.one
/-- The elements of a row. -/
def Row {α : Type} (d : Desc α) (w : World) (I : Nat → Prop) (p : Addr) (xs : List α) : Prop :=
  I p.block ∧ ∀ (i : Nat) (x : α), xs[i]? = some x → ∃ cs, d.rep w I cs x ∧ At w I (p.add (i * d.size)) cs
theorem Row.step {α : Type} {d : Desc α} {w w' : World} {I I' : Nat → Prop} {p : Addr} {xs : List α} (h : Row d w I p xs) (k : Stp I w I' w') : Row d w' I' p xs :=
  ⟨(k _ h.1).1, fun i x hx => let ⟨cs, hr, ha⟩ := h.2 i x hx; ⟨cs, d.step hr k, ha.step k⟩⟩
def RepS {α : Type} (d : Desc α) (w : World) (I : Nat → Prop) (v : Value) (xs : List α) : Prop :=
  ∃ a c, v = .slice a xs.length c ∧ xs.length ≤ c ∧ (0 < xs.length → ∃ p, a = some p ∧ Row d w I p xs)
def dSl {α : Type} (d : Desc α) : Desc (List α) where
  size := 1
  rep := fun w I cs xs => ∃ v, cs = [v] ∧ RepS d w I v xs
  step := fun ⟨v, e, a, c, hv, hc, h⟩ k => ⟨v, e, a, c, hv, hc, fun h0 => let ⟨p, e, r⟩ := h h0; ⟨p, e, r.step k⟩⟩
  len := by rintro _ _ _ _ ⟨v, rfl, _⟩; rfl
  one := by rintro _ _ _ _ ⟨v, rfl, a, c, rfl, _⟩ u hu; simp at hu; subst hu; rfl
theorem RepS.step {α : Type} {d : Desc α} {w w' : World} {I I' : Nat → Prop} {v : Value} {xs : List α} (h : RepS d w I v xs) (k : Stp I w I' w') : RepS d w' I' v xs := by
  obtain ⟨a, c, hv, hc, h⟩ := h
  exact ⟨a, c, hv, hc, fun h0 => let ⟨p, e, r⟩ := h h0; ⟨p, e, r.step k⟩⟩
theorem RepS.nil {α : Type} (d : Desc α) (w : World) (I : Nat → Prop) : RepS d w I (.slice none 0 0) [] := ⟨none, 0, rfl, Nat.le_refl _, fun h => by simp at h⟩
theorem dSl_iff {α : Type} {d : Desc α} {w : World} {I : Nat → Prop} {v : Value} {xs : List α} : (dSl d).rep w I [v] xs ↔ RepS d w I v xs :=
  ⟨fun ⟨u, e, h⟩ => by simp at e; subst e; exact h, fun h => ⟨v, rfl, h⟩⟩

/- ### Facts on types -/
def aggD : TypeDesc → Bool
  | .struct _ | .array _ _ => true
  | _ => false
structure TI (P : Program) (t : TypeId) (size bytes : Nat) (z : Value) (agg : Bool) : Prop where
  inf : (P.info? t).map (fun i => (i.size, i.bytes, i.zero)) = some (size, bytes, some z)
  agg : (P.underlying t).map aggD = some agg
  zs : z.cells.size = size
theorem TI.info {P : Program} {t : TypeId} {size bytes : Nat} {z : Value} {agg : Bool} (h : TI P t size bytes z agg) : ∃ i, P.info? t = some i ∧ i.size = size ∧ i.bytes = bytes ∧ i.zero = some z := by
  have := h.inf
  cases hi : P.info? t with
  | none => simp [hi] at this
  | some i => simp [hi] at this; exact ⟨i, rfl, this.1, this.2.1, this.2.2⟩
section
variable {P : Program}
theorem run_sizeOf {t : TypeId} {size bytes : Nat} {z : Value} {agg : Bool} (h : TI P t size bytes z agg) (w : World) : (sizeOf t).run P w = .ok size w := by
  obtain ⟨i, hi, hs, _, _⟩ := h.info
  simp [sizeOf, typeInfo, hi, hs]
theorem run_zeroValue {t : TypeId} {size bytes : Nat} {z : Value} {agg : Bool} (h : TI P t size bytes z agg) (w : World) : (zeroValue t).run P w = .ok z w := by
  obtain ⟨i, hi, _, _, hz⟩ := h.info
  simp [zeroValue, typeInfo, hi, hz]
theorem run_isAgg {t : TypeId} {size bytes : Nat} {z : Value} {agg : Bool} (h : TI P t size bytes z agg) (w : World) : (isAgg t).run P w = .ok agg w := by
  have := h.agg
  cases hu : P.underlying t with
  | none => simp [hu] at this
  | some d =>
    simp only [hu, Option.map_some, Option.some.injEq] at this
    unfold isAgg
    rw [Sem.run_bind, run_underlying hu w]
    subst this
    cases d <;> simp [aggD]
theorem run_loadVar1 {t : TypeId} {size bytes : Nat} {z v : Value} {w : World} {p : Addr} (h : TI P t size bytes z false) (hc : w.cell? p = some v) : (loadVar t p).run P w = .ok v w := by
  simp [loadVar, run_isAgg h, hc]
theorem run_loadVarA {t : TypeId} {size bytes : Nat} {z : Value} {w : World} {p : Addr} {I : Nat → Prop} {cs : List Value} (h : TI P t size bytes z true) (hl : cs.length = size) (ha : At w I p cs) : (loadVar t p).run P w = .ok (.agg cs.toArray) w := by
  have := run_loadCells_list (P := P) w p cs ha.2
  rw [hl] at this
  simp [loadVar, run_isAgg h, run_sizeOf h, this]

/- ### Reading operations -/
/-- An operation that reads no memory, at each of the three handlers. -/
def Rn0 (P : Program) (m : FM) (o : Oper) (v : Value) : Prop := ∀ w, Rn P m w o v
theorem ev0 {m : FM} {w : World} {o : Oper} {K : Value → World → Prop} {v : Value} (h : Rn0 P m o v) (k : K v w) : Ev P m w o K := ev (h w) k
theorem evq0 {C : World → Prop} {m : FM} {o : Oper} {K : Value → Unit → Prop} {v : Value} (h : Rn0 P m o v) (k : K v ()) : EvQ P C m () o K := evq (fun w _ => h w) k
theorem rn_load {m : FM} {w : World} {o : Oper} {t : TypeId} {x : Operand} {p : Addr} {v : Value} (ho : o.op = .load t x) (hx : evm m x = some (.pointer (some p))) (hr : (loadVar t p).run P w = .ok v w) : Rn P m w o v := by
  intro a N hf
  simp [execOp, ho, hf.ev hx, Instr.loadAt, Instr.sureAddr, hr]
def FO (P : Program) (s : TypeId) (f : Nat) (off : Nat) : Prop :=
  (P.underlying s).bind (fun | .struct fs => (fs[f]?).bind (fun fl => ((P.info? fl.type).map (fun i => (fl.offset, Nat.beq i.size 0)))) | _ => none) = some (off, false)
theorem rn_field {m : FM} {o : Oper} {s : TypeId} {f off : Nat} {x : Operand} {p : Addr} (ho : o.op = .fieldAddr s x f) (hx : evm m x = some (.pointer (some p))) (h : FO P s f off) : Rn0 P m o (.pointer (some (p.add off))) := by
  intro w a N hf
  unfold FO at h
  cases hu : P.underlying s with
  | none => simp [hu] at h
  | some d =>
    cases d <;> simp only [hu, Option.bind_some, reduceCtorEq] at h
    rename_i fs
    cases hfl : fs[f]? with
    | none => simp [hfl] at h
    | some fl =>
      simp only [hfl, Option.bind_some] at h
      cases hi : P.info? fl.type with
      | none => simp [hi] at h
      | some i =>
        simp only [hi, Option.map_some, Option.some.injEq, Prod.mk.injEq] at h
        have hz : i.size ≠ 0 := by intro e; rw [e] at h; simp at h
        simp [execOp, ho, hf.ev hx, Instr.fieldAt, run_underlying hu, hfl, Instr.sureAddr, fieldPlace, sizeOf, typeInfo, hi, hz, h.1]
/-- xs[i], if there is such a place. -/
def idx {α : Type} (xs : List α) (i : Int) : Option α := if 0 ≤ i then xs[i.toNat]? else none
theorem idx_some {α : Type} {xs : List α} {i : Int} {x : α} (h : idx xs i = some x) : 0 ≤ i ∧ i < xs.length ∧ xs[i.toNat]? = some x := by
  unfold idx at h
  split at h
  · rename_i h0
    obtain ⟨hl, _⟩ := List.getElem?_eq_some_iff.1 h
    exact ⟨h0, by omega, h⟩
  · cases h
theorem x_index {α : Type} {d : Desc α} {m : FM} {w : World} {o : Oper} {t e : TypeId} {x i : Operand} {v : Value} {k : IntKind} {n : Int} {bytes : Nat} {z : Value} {agg : Bool} {xs : List α} {y : α} {I : Nat → Prop} {R : Prop} {K : Value → Prop}
    (E : ∀ {v}, Rn0 P m o v → K v → R) (ho : o.op = .indexAddr t x i) (hx : evm m x = some v) (hi : evm m i = some (.int k n)) (ht : P.underlying t = some (.slice e)) (he : TI P e d.size bytes z agg) (hr : RepS d w I v xs) (hy : idx xs n = some y)
    (k : ∀ p cs, d.rep w I cs y → At w I p cs → K (.pointer (some p))) : R := by
  obtain ⟨h0, hl, hg⟩ := idx_some hy
  obtain ⟨a, c, rfl, hc, hrow⟩ := hr
  obtain ⟨p, rfl, hrow'⟩ := hrow (by omega)
  obtain ⟨cs, hd, ha⟩ := hrow'.2 _ _ hg
  refine E (fun w a N hf => ?_) (k _ cs hd ha)
  simp [execOp, ho, hf.ev hx, hf.ev hi, Instr.indexAt, asIntOf, run_underlying ht, h0, hl, run_sizeOf he]
end
end Go.Proofs.Ytcdboppghnchpaa.Gw

namespace Go.Proofs.Ytcdboppghnchpaa.Gw
open Go Go.RowKit
section
variable {P : Program}
theorem rn_len {α : Type} {d : Desc α} {m : FM} {w : World} {o : Oper} {x : Operand} {t e : TypeId} {v : Value} {I : Nat → Prop} {xs : List α}
    (ho : o.op = .call { callee := .builtin .len, args := #[x], argTypes := #[t] }) (hx : evm m x = some v) (ht : P.underlying t = some (.slice e)) (hr : RepS d w I v xs) : Rn0 P m o (.int .i64 xs.length) := by
  intro w a N hf
  obtain ⟨ad, c, rfl, _⟩ := hr
  simp [execOp, ho, resolve, invoke, builtin, Builtin.len_, hf.ev hx, run_underlying ht, goInt]
theorem rn_max {m : FM} {o : Oper} {x y : Operand} {t : Array TypeId} {k j : IntKind} {p q : Int}
    (ho : o.op = .call { callee := .builtin .max, args := #[x, y], argTypes := t }) (hx : evm m x = some (.int k p)) (hy : evm m y = some (.int j q)) : Rn0 P m o (.int k (if q > p then q else p)) := by
  intro w a N hf
  simp [execOp, ho, resolve, invoke, builtin, Builtin.max_, Builtin.max2, hf.ev hx, hf.ev hy]
end
theorem bind_some {α β : Type} {x : Option α} {f : α → Option β} {r : β} (h : x.bind f = some r) : ∃ y, x = some y ∧ f y = some r := by
  cases x with
  | none => cases h
  | some y => exact ⟨y, rfl, h⟩
theorem cond_t {α : Type} {c : Bool} {x y r : α} (h : cond c x y = r) (e : c = true) : x = r := by subst e; exact h
theorem cond_f {α : Type} {c : Bool} {x y r : α} (h : cond c x y = r) (e : c = false) : y = r := by subst e; exact h
end Go.Proofs.Ytcdboppghnchpaa.Gw

namespace Go.Proofs.Ytcdboppghnchpaa.Gw
open Go Go.RowKit

/- ### A function's own memory -/
/-- One of the function's own rows: its block, what it holds, its elements' type; or none yet. -/
abbrev Ent := Option (Nat × List Value × TypeId)
structure Cx where
  w0 : World
  I0 : Nat → Prop
  B : List Nat
structure Hp (c : Cx) (I : Nat → Prop) (m : List Ent) (w : World) : Prop where
  ch : Ch c.B c.w0 w
  imm : ∀ g, I g → g < w.heap.size
  lim : ∀ g, I g → c.I0 g ∨ c.w0.heap.size ≤ g ∨ g ∈ c.B
  st : Stp c.I0 c.w0 I w
  own : ∀ (i g : Nat) (cs : List Value) (t : TypeId), m[i]? = some (some (g, cs, t)) → w.heap[g]? = some (.cells cs.toArray t (0, 0)) ∧ ¬ I g ∧ (c.w0.heap.size ≤ g ∨ g ∈ c.B)
  inj : ∀ (i j g : Nat) (cs cs' : List Value) (t t' : TypeId), m[i]? = some (some (g, cs, t)) → m[j]? = some (some (g, cs', t')) → i = j
theorem lt_of_heap {w : World} {g : Nat} {o : Obj} (h : w.heap[g]? = some o) : g < w.heap.size := by
  rcases Nat.lt_or_ge g w.heap.size with h' | h'
  · exact h'
  · rw [Array.getElem?_eq_none h'] at h; cases h
theorem Hp.start {w : World} {I : Nat → Prop} (hI : ∀ g, I g → g < w.heap.size) : Hp ⟨w, I, []⟩ I [] w :=
  ⟨Ch.refl _ _, hI, fun _ h => .inl h, Stp.refl _ _, fun i g cs t h => by simp at h, fun i j g cs cs' t t' h => by simp at h⟩
theorem Hp.out {c : Cx} {I : Nat → Prop} {m : List Ent} {w : World} (h : Hp c I m w) (hB : c.B = []) : Stp I w (Un c.I0 c.w0 w) w :=
  fun g hg => ⟨(h.lim g hg).imp id fun h0 => ⟨h0.resolve_right (by rw [hB]; simp), h.imm g hg⟩, rfl⟩
section
variable {c : Cx} {I : Nat → Prop} {m : List Ent} {w : World}
theorem Hp.lt (h : Hp c I m w) {i g : Nat} {cs : List Value} {t : TypeId} (hi : m[i]? = some (some (g, cs, t))) : g < w.heap.size := lt_of_heap (h.own i g cs t hi).1
theorem Hp.drew (h : Hp c I m w) : Hp c I m w.drew := ⟨h.ch.trans (Ch.drew _ _), h.imm, h.lim, h.st, h.own, h.inj⟩
/-- The world has gone on, and nothing that was there has turned. -/
theorem Hp.ext (h : Hp c I m w) {w' : World} (k : Ch [] w w') : Hp c I m w' :=
  ⟨h.ch.trans (k.more (by simp)), fun g hg => Nat.lt_of_lt_of_le (h.imm g hg) k.size, h.lim, h.st.trans (k.stp h.imm),
    fun i g cs t hi => ⟨(k.old g (h.lt hi) (by simp)).trans (h.own i g cs t hi).1, (h.own i g cs t hi).2⟩, h.inj⟩
theorem Hp.extU (h : Hp c I m w) {w' : World} (k : Ch [] w w') : Hp c (Un I w w') m w' :=
  ⟨h.ch.trans (k.more (by simp)), fun g hg => hg.elim (fun h0 => Nat.lt_of_lt_of_le (h.imm g h0) k.size) (fun h0 => h0.2),
    fun g hg => hg.elim (h.lim g) (fun h0 => .inr (.inl (Nat.le_trans h.ch.size h0.1))), h.st.trans (fun g hg => ⟨.inl hg, k.old g (h.imm g hg) (by simp)⟩),
    fun i g cs t hi => ⟨(k.old g (h.lt hi) (by simp)).trans (h.own i g cs t hi).1, fun hg => hg.elim (h.own i g cs t hi).2.1 (fun h0 => by have := h.lt hi; omega), (h.own i g cs t hi).2.2⟩, h.inj⟩
theorem Ch.stpU {w w' : World} (h : Ch [] w w') (hI : ∀ g, I g → g < w.heap.size) : Stp I w (Un I w w') w' := fun g hg => ⟨.inl hg, h.old g (hI g hg) (by simp)⟩
theorem Hp.stp (h : Hp c I m w) {w' : World} (k : Ch [] w w') : Stp I w I w' := k.stp h.imm
theorem Hp.stpU (h : Hp c I m w) {w' : World} (k : Ch [] w w') : Stp I w (Un I w w') w' := k.stpU h.imm
theorem Hp.new (h : Hp c I m w) (cs : List Value) (t : TypeId) : Hp c I (some (w.heap.size, cs, t) :: m) (w.alloc (.cells cs.toArray t)) := by
  have hk := h.ext (Ch.alloc [] w (.cells cs.toArray t))
  refine ⟨hk.ch, hk.imm, hk.lim, hk.st, ?_, ?_⟩
  · intro i g cs' t' hi
    cases i with
    | zero =>
      simp only [List.getElem?_cons_zero, Option.some.injEq, Prod.mk.injEq] at hi
      obtain ⟨rfl, rfl, rfl⟩ := hi
      exact ⟨heap_alloc_new w _, fun hg => by have := h.imm _ hg; omega, .inl h.ch.size⟩
    | succ i => exact hk.own i g cs' t' (by simpa using hi)
  · intro i j g cs1 cs2 t1 t2 hi hj
    cases i <;> cases j
    · rfl
    · rename_i j
      simp only [List.getElem?_cons_zero, Option.some.injEq, Prod.mk.injEq] at hi
      have := h.lt (i := j) (by simpa using hj)
      omega
    · rename_i i
      simp only [List.getElem?_cons_zero, Option.some.injEq, Prod.mk.injEq] at hj
      have := h.lt (i := i) (by simpa using hi)
      omega
    · rename_i i j
      rw [h.inj i j g cs1 cs2 t1 t2 (by simpa using hi) (by simpa using hj)]
/-- Entries are dropped, or put in another order: each of the new ones is one of the old ones. -/
theorem Hp.pick (h : Hp c I m w) (f : Nat → Nat) (m' : List Ent) (hm : ∀ i e, m'[i]? = some (some e) → m[f i]? = some (some e)) (hf : ∀ i j, i < m'.length → j < m'.length → f i = f j → i = j) : Hp c I m' w :=
  ⟨h.ch, h.imm, h.lim, h.st, fun i g cs t hi => h.own (f i) g cs t (hm i _ hi), fun i j g cs cs' t t' hi hj =>
    hf i j (List.getElem?_eq_some_iff.1 hi).1 (List.getElem?_eq_some_iff.1 hj).1 (h.inj _ _ g cs cs' t t' (hm i _ hi) (hm j _ hj))⟩
theorem Hp.nil (h : Hp c I m w) : Hp c I [] w := ⟨h.ch, h.imm, h.lim, h.st, fun i g cs t h => by simp at h, fun i j g cs cs' t t' h => by simp at h⟩
def pickE (m : List Ent) : List Nat → List Ent
  | [] => []
  | i :: l => (m[i]?).join :: pickE m l
theorem pickE_get (m : List Ent) : ∀ (l : List Nat) (i : Nat) (e : Nat × List Value × TypeId), (pickE m l)[i]? = some (some e) → ∃ j, l[i]? = some j ∧ m[j]? = some (some e)
  | [], i, e, h => by simp [pickE] at h
  | j :: l, 0, e, h => ⟨j, rfl, by
    simp only [pickE, List.getElem?_cons_zero, Option.some.injEq] at h
    cases hm : m[j]? with
    | none => simp [hm] at h
    | some x => simpa [hm] using h⟩
  | j :: l, i + 1, e, h => by
    obtain ⟨k, h1, h2⟩ := pickE_get m l i e (by simpa [pickE] using h)
    exact ⟨k, by simpa using h1, h2⟩
/-- Only the entries at these places, in this order. -/
theorem Hp.sel (h : Hp c I m w) (l : List Nat) (hl : l.Pairwise (· < ·)) : Hp c I (pickE m l) w := by
  refine ⟨h.ch, h.imm, h.lim, h.st, ?_, ?_⟩
  · intro i g cs t hi
    obtain ⟨j, _, hj⟩ := pickE_get m l i _ hi
    exact h.own j g cs t hj
  · intro i j g cs cs' t t' hi hj
    obtain ⟨a, ha, hma⟩ := pickE_get m l i _ hi
    obtain ⟨b, hb, hmb⟩ := pickE_get m l j _ hj
    have := h.inj a b g cs cs' t t' hma hmb
    subst this
    obtain ⟨hil, hie⟩ := List.getElem?_eq_some_iff.1 ha
    obtain ⟨hjl, hje⟩ := List.getElem?_eq_some_iff.1 hb
    rcases Nat.lt_trichotomy i j with hlt | rfl | hgt
    · have := List.pairwise_iff_getElem.1 hl i j hil hjl hlt; omega
    · rfl
    · have := List.pairwise_iff_getElem.1 hl j i hjl hil hgt; omega
/-- One entry turns: in its own block, or into a new one. -/
theorem Hp.turn (h : Hp c I m w) {i : Nat} {e e' : Ent} (hi : m[i]? = some e) {w' : World} (hs : w.heap.size ≤ w'.heap.size) (hdr : w.drawn ≤ w'.drawn) (hos : w'.os = w.os) (htp : w'.tape = w.tape) (hout : w'.output = w.output)
    (ho : ∀ k, k < w.heap.size → (∀ cs t, e ≠ some (k, cs, t)) → w'.heap[k]? = w.heap[k]?)
    (he : ∀ g cs t, e' = some (g, cs, t) → w'.heap[g]? = some (.cells cs.toArray t (0, 0)) ∧ (w.heap.size ≤ g ∨ ∃ cs0 t0, e = some (g, cs0, t0))) : Hp c I (m.set i e') w' ∧ Stp I w I w' := by
  have hI : ∀ k, I k → w'.heap[k]? = w.heap[k]? := fun k hk => ho k (h.imm k hk) (fun cs t e0 => by subst e0; exact (h.own i k cs t hi).2.1 hk)
  have old : ∀ (j k : Nat) (cs1 : List Value) (t1 : TypeId), (m.set i e')[j]? = some (some (k, cs1, t1)) → (j = i ∧ e' = some (k, cs1, t1)) ∨ (j ≠ i ∧ m[j]? = some (some (k, cs1, t1))) := by
    intro j k cs1 t1 hj
    rw [List.getElem?_set] at hj
    split at hj
    · rename_i e0; subst e0
      split at hj <;> simp only [Option.some.injEq, reduceCtorEq] at hj
      exact .inl ⟨rfl, hj⟩
    · rename_i e0; exact .inr ⟨fun e1 => e0 e1.symm, hj⟩
  refine ⟨⟨⟨Nat.le_trans h.ch.drawn hdr, hos.trans h.ch.os, htp.trans h.ch.tape, hout.trans h.ch.output, Nat.le_trans h.ch.size hs, fun k hk hn => ?_⟩, fun k hk => Nat.lt_of_lt_of_le (h.imm k hk) hs, h.lim, h.st.trans (fun k hk => ⟨hk, hI k hk⟩), ?_, ?_⟩, fun k hk => ⟨hk, hI k hk⟩⟩
  · have hkw : k < w.heap.size := Nat.lt_of_lt_of_le hk h.ch.size
    rw [ho k hkw (fun cs t e0 => by
      subst e0
      rcases (h.own i k cs t hi).2.2 with h0 | h0
      · omega
      · exact hn h0)]
    exact h.ch.old k hk hn
  · intro j k cs1 t1 hj
    rcases old j k cs1 t1 hj with ⟨rfl, hj1⟩ | ⟨hne, hj1⟩
    · obtain ⟨h1, h2⟩ := he k cs1 t1 hj1
      rcases h2 with h2 | ⟨cs0, t0, h2⟩
      · exact ⟨h1, fun h0 => by have := h.imm k h0; omega, .inl (Nat.le_trans h.ch.size h2)⟩
      · subst h2; exact ⟨h1, (h.own j k cs0 t0 hi).2⟩
    · have hk := h.own j k cs1 t1 hj1
      refine ⟨?_, hk.2⟩
      rw [ho k (h.lt hj1) (fun cs t e0 => by subst e0; exact hne (h.inj j i k _ _ _ _ hj1 hi))]
      exact hk.1
  · intro a b k cs1 cs2 t1 t2 ha hb
    rcases old a k cs1 t1 ha with ⟨rfl, ha1⟩ | ⟨hna, ha1⟩ <;> rcases old b k cs2 t2 hb with ⟨rfl, hb1⟩ | ⟨hnb, hb1⟩
    · rfl
    · rcases (he k cs1 t1 ha1).2 with h2 | ⟨cs0, t0, h2⟩
      · have := h.lt hb1; omega
      · subst h2; exact h.inj _ _ k _ _ _ _ hi hb1
    · rcases (he k cs2 t2 hb1).2 with h2 | ⟨cs0, t0, h2⟩
      · have := h.lt ha1; omega
      · subst h2; exact h.inj _ _ k _ _ _ _ ha1 hi
    · exact h.inj a b k _ _ t1 t2 ha1 hb1
theorem Hp.set (h : Hp c I m w) {i g : Nat} {cs cs' : List Value} {t : TypeId} (hi : m[i]? = some (some (g, cs, t))) {w' : World} (hs : w'.heap.size = w.heap.size) (hdr : w.drawn ≤ w'.drawn) (hos : w'.os = w.os) (htp : w'.tape = w.tape) (hout : w'.output = w.output)
    (hg : w'.heap[g]? = some (.cells cs'.toArray t (0, 0))) (ho : ∀ k, k ≠ g → w'.heap[k]? = w.heap[k]?) : Hp c I (m.set i (some (g, cs', t))) w' ∧ Stp I w I w' :=
  h.turn hi (by omega) hdr hos htp hout (fun k _ hk => ho k (fun e => hk cs t (by rw [e]))) (fun g' cs1 t1 e => by
    simp only [Option.some.injEq, Prod.mk.injEq] at e
    obtain ⟨rfl, rfl, rfl⟩ := e
    exact ⟨hg, .inr ⟨_, _, rfl⟩⟩)
/-- An own row becomes readable data, not to be written any more. -/
def Ad (I : Nat → Prop) (e : Ent) (g : Nat) : Prop := I g ∨ ∃ cs t, e = some (g, cs, t)
theorem Hp.freeze (h : Hp c I m w) {i : Nat} {e : Ent} (hi : m[i]? = some e) : Hp c (Ad I e) (m.set i none) w ∧ Stp I w (Ad I e) w := by
  have old : ∀ (j g : Nat) (cs : List Value) (t : TypeId), (m.set i none)[j]? = some (some (g, cs, t)) → i ≠ j ∧ m[j]? = some (some (g, cs, t)) := by
    intro j g cs t hj
    rw [List.getElem?_set] at hj
    split at hj
    · split at hj <;> simp at hj
    · rename_i e; exact ⟨e, hj⟩
  refine ⟨⟨h.ch, ?_, ?_, h.st.trans (fun g hg => ⟨.inl hg, rfl⟩), ?_, ?_⟩, fun g hg => ⟨.inl hg, rfl⟩⟩
  · rintro g (hg | ⟨cs, t, rfl⟩)
    · exact h.imm g hg
    · exact h.lt hi
  · rintro g (hg | ⟨cs, t, rfl⟩)
    · exact h.lim g hg
    · exact .inr (h.own i g cs t hi).2.2
  · intro j g cs t hj
    obtain ⟨hne, hj⟩ := old j g cs t hj
    refine ⟨(h.own j g cs t hj).1, ?_, (h.own j g cs t hj).2.2⟩
    rintro (hg | ⟨cs', t', rfl⟩)
    · exact (h.own j g cs t hj).2.1 hg
    · exact hne (h.inj i j g cs' cs t' t hi hj)
  · intro a b g cs cs' t t' ha hb
    exact h.inj a b g _ _ t t' (old _ _ _ _ ha).2 (old _ _ _ _ hb).2
/-- Behind a call that writes nothing of ours: what it has made comes to ours. -/
theorem Hp.join0 (h : Hp c I m w) {I' : Nat → Prop} {nw : List Ent} {w' : World} (k : Hp ⟨w, I, []⟩ I' nw w') : Hp c I' (nw ++ m) w' := by
  have hch : Ch [] w w' := k.ch
  have hfr : ∀ i g cs t, nw[i]? = some (some (g, cs, t)) → w.heap.size ≤ g := fun i g cs t hi => ((k.own i g cs t hi).2.2).resolve_right (by simp)
  have old : ∀ (i g : Nat) (cs : List Value) (t : TypeId), (nw ++ m)[i]? = some (some (g, cs, t)) → nw[i]? = some (some (g, cs, t)) ∨ (nw.length ≤ i ∧ m[i - nw.length]? = some (some (g, cs, t))) := by
    intro i g cs t hi
    rcases Nat.lt_or_ge i nw.length with hlt | hge
    · rw [List.getElem?_append_left hlt] at hi; exact .inl hi
    · rw [List.getElem?_append_right hge] at hi; exact .inr ⟨hge, hi⟩
  refine ⟨h.ch.trans (hch.more (by simp)), k.imm, fun g hg => ?_, h.st.trans k.st, ?_, ?_⟩
  · rcases k.lim g hg with h0 | h0 | h0
    · exact h.lim g h0
    · exact .inr (.inl (Nat.le_trans h.ch.size h0))
    · cases h0
  · intro i g cs t hi
    rcases old i g cs t hi with h1 | ⟨h0, h1⟩
    · exact ⟨(k.own i g cs t h1).1, (k.own i g cs t h1).2.1, .inl (Nat.le_trans h.ch.size (hfr i g cs t h1))⟩
    · have ho := h.own _ g cs t h1
      refine ⟨(hch.old g (h.lt h1) (by simp)).trans ho.1, fun hg => ?_, ho.2.2⟩
      rcases k.lim g hg with h2 | h2 | h2
      · exact ho.2.1 h2
      · have h2 : w.heap.size ≤ g := h2
        have := h.lt h1; omega
      · cases h2
  · intro i j g cs cs' t t' hi hj
    rcases old i g cs t hi with h1 | ⟨h0, h1⟩ <;> rcases old j g cs' t' hj with h3 | ⟨h2, h3⟩
    · exact k.inj i j g cs cs' t t' h1 h3
    · have := hfr i g cs t h1; have := h.lt h3; omega
    · have := hfr j g cs' t' h3; have := h.lt h1; omega
    · have := h.inj _ _ g cs cs' t t' h1 h3; omega
end
end Go.Proofs.Ytcdboppghnchpaa.Gw

namespace Go.Proofs.Ytcdboppghnchpaa.Gw
open Go Go.RowKit
section
variable {P : Program} {c : Cx} {I : Nat → Prop} {m : List Ent} {w : World} {fm : FM} {o : Oper}

/- ### Making blocks -/
theorem ev_alloc {K : Value → World → Prop} {t : TypeId} {size bytes : Nat} {z : Value} {agg : Bool} (hp : Hp c I m w) (ho : o.op = .alloc t) (ht : TI P t size bytes z agg)
    (k : ∀ g w', Hp c I (some (g, z.cells.toList, t) :: m) w' → Stp I w I w' → K (.pointer (some ⟨g, 0, none⟩)) w') : Ev P fm w o K := by
  intro a N hf K' Q hk
  have hr : (execOp a.eval o).run P w = .ok (.value (.pointer (some ⟨w.heap.size, 0, none⟩))) (w.alloc (.cells z.cells t)) := by
    simp [execOp, ho, Instr.alloc, run_zeroValue ht, newVar, newRow]
  unfold Oper.wp
  rw [hr]
  have hn := hp.new z.cells.toList t
  simp only [Array.toArray_toList] at hn
  exact hk _ _ (k _ _ hn (hp.stp (Ch.alloc [] w _)))
theorem ev_box {K : Value → World → Prop} {t : TypeId} {x : Operand} {v : Value} (hp : Hp c I m w) (ho : o.op = .box t x) (hx : evm fm x = some v)
    (k : ∀ g w', Hp c I (some (g, v.cells.toList, t) :: m) w' → Stp I w I w' → K (.pointer (some ⟨g, 0, none⟩)) w') : Ev P fm w o K := by
  intro a N hf K' Q hk
  have hr : (execOp a.eval o).run P w = .ok (.value (.pointer (some ⟨w.heap.size, 0, none⟩))) (w.alloc (.cells v.cells t)) := by
    simp [execOp, ho, hf.ev hx, Instr.box, newVar, newRow]
  unfold Oper.wp
  rw [hr]
  have hn := hp.new v.cells.toList t
  simp only [Array.toArray_toList] at hn
  exact hk _ _ (k _ _ hn (hp.stp (Ch.alloc [] w _)))

/- ### Own cells -/
theorem Hp.cell (hp : Hp c I m w) {i g : Nat} {cs : List Value} {t : TypeId} (hi : m[i]? = some (some (g, cs, t))) {off : Nat} {v : Value} (hv : cs[off]? = some v) : w.cell? ⟨g, off, none⟩ = some v := by
  rw [cell_of_row w g off cs.toArray t (0, 0) (hp.own i g cs t hi).1]
  simpa using hv
theorem Hp.at_ (hp : Hp c I m w) {i g : Nat} {cs : List Value} {t : TypeId} (hi : m[i]? = some (some (g, cs, t))) : At w (fun k => k = g) ⟨g, 0, none⟩ cs :=
  ⟨rfl, fun j v hv => by rw [add_lit, Nat.zero_add]; exact hp.cell hi hv⟩
def setL (cs : List Value) (off : Nat) (vs : List Value) : List Value :=
  match vs with
  | [] => cs
  | v :: vs => setL (cs.set off v) (off + 1) vs
theorem setL_length (cs : List Value) (off : Nat) (vs : List Value) : (setL cs off vs).length = cs.length := by
  induction vs generalizing cs off with
  | nil => rfl
  | cons v vs ih => simp [setL, ih]
theorem run_storeCells_set (g off : Nat) (t : TypeId) : ∀ (vs : List Value) (i : Nat) (cs : List Value) (w : World), w.heap[g]? = some (.cells cs.toArray t (0, 0)) → off + i + vs.length ≤ cs.length → (∀ v ∈ vs, v.oneCell' = true) →
    ∃ w', (storeCells ⟨g, off, none⟩ vs i).run P w = .ok () w' ∧ w'.heap[g]? = some (.cells (setL cs (off + i) vs).toArray t (0, 0)) ∧ w'.heap.size = w.heap.size ∧ w'.os = w.os ∧ w'.tape = w.tape ∧ w'.output = w.output ∧ ∀ k, k ≠ g → w'.heap[k]? = w.heap[k]?
  | [], i, cs, w, hg, _, _ => ⟨w, by simp [storeCells], hg, rfl, rfl, rfl, rfl, fun _ _ => rfl⟩
  | v :: vs, i, cs, w, hg, hl, h1 => by
    have hlen : off + i < cs.length := by simp only [List.length_cons] at hl; omega
    have hc : w.cell? ⟨g, off + i, none⟩ = some (cs[off + i]) := by
      rw [cell_of_row w g _ cs.toArray t (0, 0) hg]; simp [hlen]
    have hfr : w.frozen? ⟨g, off + i, none⟩ = false := by simp [World.frozen?, hg]
    have hst : (store ((⟨g, off, none⟩ : Addr).add i) v).run P w = .ok () (w.setCell ⟨g, off + i, none⟩ v) := by
      rw [add_lit, run_store P w _ v .plain (h1 v (by simp))]
      simp [hc, hfr]
    have hg' : (w.setCell ⟨g, off + i, none⟩ v).heap[g]? = some (.cells (cs.set (off + i) v).toArray t (0, 0)) := by
      simp [World.setCell, Array.getElem?_modify, hg]
    obtain ⟨w', hr, h2, h3, h4, h5, h6, h7⟩ := run_storeCells_set g off t vs (i + 1) (cs.set (off + i) v) _ hg' (by simp only [List.length_cons, List.length_set] at hl ⊢; omega) (fun u hu => h1 u (by simp [hu]))
    refine ⟨w', ?_, by rw [show off + (i + 1) = off + i + 1 by omega] at h2; exact h2, by rw [h3]; simp, by rw [h4]; rfl, by rw [h5]; rfl, by rw [h6]; rfl, fun k hk => ?_⟩
    · simp only [storeCells]
      rw [Sem.run_bind, hst]
      exact hr
    · rw [h7 k hk]
      simp only [World.setCell, Array.getElem?_modify]
      rw [if_neg (fun e => hk e.symm)]
/-- A store into an own row. -/
theorem ev_store {K : Value → World → Prop} {t : TypeId} {x y : Operand} {v : Value} {size bytes : Nat} {z : Value} {agg : Bool} {i g off : Nat} {cs : List Value} {T : TypeId} (hp : Hp c I m w) (hi : m[i]? = some (some (g, cs, T)))
    (ho : o.op = .store t x y) (hx : evm fm x = some (.pointer (some ⟨g, off, none⟩))) (hy : evm fm y = some v) (ht : TI P t size bytes z agg)
    (hs : v.cells.toList.length = size) (hl : off + size ≤ cs.length) (h1 : ∀ u ∈ v.cells.toList, u.oneCell' = true)
    (k : ∀ w', Hp c I (m.set i (some (g, setL cs off v.cells.toList, T))) w' → Stp I w I w' → K undef w') : Ev P fm w o K := by
  intro a N hf K' Q hk
  obtain ⟨w', hr, h2, h3, h4, h5, h6, h7⟩ := run_storeCells_set (P := P) g off T v.cells.toList 0 cs w (hp.own i g cs T hi).1 (by omega) h1
  simp only [Nat.add_zero] at h2
  have hrun : (execOp a.eval o).run P w = .ok .skip w' := by
    have hs' : v.cells.size = size := by simpa using hs
    simp [execOp, ho, hf.ev hx, hf.ev hy, Instr.storeAt, Instr.sureAddr, storeVar, run_sizeOf ht, hs', hr]
  obtain ⟨hp', hst⟩ := hp.set hi h3 (run_drawn _ _ hr) h4 h5 h6 h2 h7
  unfold Oper.wp
  rw [hrun]
  exact hk _ _ (k w' hp' hst)

/- ### Slices of the function's own -/
def Elems {α : Type} (d : Desc α) (w : World) (I : Nat → Prop) (cs : List Value) (xs : List α) : Prop :=
  ∀ (i : Nat) (x : α), xs[i]? = some x → d.rep w I ((cs.drop (i * d.size)).take d.size) x
/-- A slice value over an own row (or nil): what it reads as. -/
def OwnS {α : Type} (d : Desc α) (T : TypeId) (w : World) (I : Nat → Prop) (v : Value) (e : Ent) (xs : List α) : Prop :=
  (v = .slice none 0 0 ∧ e = none ∧ xs = []) ∨
  ∃ g cs n, v = .slice (some ⟨g, 0, none⟩) xs.length n ∧ e = some (g, cs, T) ∧ xs.length ≤ n ∧ n ≤ maxLen ∧ cs.length = n * d.size ∧ Elems d w I cs xs
theorem OwnS.nil {α : Type} (d : Desc α) (T : TypeId) (w : World) (I : Nat → Prop) : OwnS d T w I (.slice none 0 0) none [] := .inl ⟨rfl, rfl, rfl⟩
theorem OwnS.step {α : Type} {d : Desc α} {T : TypeId} {w w' : World} {I I' : Nat → Prop} {v : Value} {e : Ent} {xs : List α} (h : OwnS d T w I v e xs) (k : Stp I w I' w') : OwnS d T w' I' v e xs := by
  rcases h with h | ⟨g, cs, n, h1, h2, h3, h4, h5, h7⟩
  · exact .inl h
  · exact .inr ⟨g, cs, n, h1, h2, h3, h4, h5, fun i x hx => d.step (h7 i x hx) k⟩
theorem drop_take_get {cs : List Value} {a n j : Nat} {v : Value} (h : ((cs.drop a).take n)[j]? = some v) : cs[a + j]? = some v := by
  rw [List.getElem?_take] at h
  split at h
  · simpa [List.getElem?_drop] using h
  · cases h
/-- To be read only, from now on or for a while. -/
theorem OwnS.reads {α : Type} {d : Desc α} {T : TypeId} {v : Value} {e : Ent} {xs : List α} {i : Nat} (h : OwnS d T w I v e xs) (hp : Hp c I m w) (hi : m[i]? = some e) {J : Nat → Prop} (hJ : ∀ g, Ad I e g → J g) : RepS d w J v xs := by
  rcases h with ⟨rfl, rfl, rfl⟩ | ⟨g, cs, n, rfl, rfl, h3, h4, h5, h7⟩
  · exact RepS.nil d w J
  · refine ⟨some ⟨g, 0, none⟩, n, rfl, h3, fun _ => ⟨_, rfl, hJ g (.inr ⟨cs, T, rfl⟩), fun j x hx => ⟨_, d.step (h7 j x hx) (fun k hk => ⟨hJ k (.inl hk), rfl⟩), ?_, fun k v hv => ?_⟩⟩⟩
    · rw [add_block]; exact hJ g (.inr ⟨cs, T, rfl⟩)
    · rw [add_add, add_lit, Nat.zero_add]
      exact hp.cell hi (drop_take_get hv)
theorem OwnS.frz {α : Type} {d : Desc α} {T : TypeId} {v : Value} {e : Ent} {xs : List α} {i : Nat} (h : OwnS d T w I v e xs) (hp : Hp c I m w) (hi : m[i]? = some e) : RepS d w (Ad I e) v xs := h.reads hp hi fun _ h => h
theorem elems_app {α : Type} {d : Desc α} {cs news rest : List Value} {xs ys : List α} (hx : Elems d w I cs xs) (hl : cs.length = xs.length * d.size) (hy : Elems d w I news ys) (hm : news.length = ys.length * d.size) : Elems d w I (cs ++ news ++ rest) (xs ++ ys) := by
  have key : ∀ (l r : List Value) (zs : List α), Elems d w I l zs → l.length = zs.length * d.size → Elems d w I (l ++ r) zs := by
    intro l r zs h hl i x hx
    have hlt : i < zs.length := (List.getElem?_eq_some_iff.1 hx).1
    have hle : (i + 1) * d.size ≤ zs.length * d.size := Nat.mul_le_mul_right _ hlt
    have e : ((l ++ r).drop (i * d.size)).take d.size = (l.drop (i * d.size)).take d.size := by
      rw [Nat.add_mul, Nat.one_mul] at hle
      rw [List.drop_append_of_le_length (by omega), List.take_append_of_le_length (by rw [List.length_drop]; omega)]
    rw [e]; exact h i x hx
  refine key _ _ _ ?_ (by rw [List.length_append, List.length_append, hl, hm, Nat.add_mul])
  intro i x hi
  rcases Nat.lt_or_ge i xs.length with hlt | hge
  · rw [List.getElem?_append_left hlt] at hi
    exact key cs news xs hx hl i x hi
  · rw [List.getElem?_append_right hge] at hi
    have hm := hy _ x hi
    have hmul : xs.length * d.size ≤ i * d.size := Nat.mul_le_mul_right _ hge
    rw [List.drop_append]
    rw [List.drop_eq_nil_of_le (by rw [hl]; exact hmul), List.nil_append, hl, ← Nat.sub_mul]
    exact hm
theorem elems_row {α : Type} {d : Desc α} {p : Addr} {ys : List α} (h : Row d w I p ys) : ∃ news, Elems d w I news ys ∧ news.length = ys.length * d.size ∧ (∀ u ∈ news, u.oneCell' = true) ∧ ∀ j v, news[j]? = some v → w.cell? (p.add j) = some v := by
  induction ys generalizing p with
  | nil => exact ⟨[], fun i x hx => by simp at hx, by simp, by simp, by simp⟩
  | cons y ys ih =>
    obtain ⟨cs, hd, ha⟩ := h.2 0 y rfl
    have hrow : Row d w I (p.add d.size) ys := by
      refine ⟨by rw [add_block]; exact h.1, fun i x hx => ?_⟩
      obtain ⟨cs, hd, ha⟩ := h.2 (i + 1) x (by simpa using hx)
      refine ⟨cs, hd, ?_⟩
      rw [add_add, show d.size + i * d.size = (i + 1) * d.size by rw [Nat.add_mul]; omega]
      exact ha
    obtain ⟨news, h1, h2, h3, h4⟩ := ih hrow
    have hl := d.len hd
    refine ⟨cs ++ news, ?_, by simp [hl, h2, Nat.add_mul, Nat.add_comm], ?_, ?_⟩
    · intro i x hx
      cases i with
      | zero =>
        simp only [List.getElem?_cons_zero, Option.some.injEq] at hx
        subst hx
        simp only [Nat.zero_mul, List.drop_zero]
        rw [List.take_append_of_le_length (by omega), List.take_of_length_le (by omega)]
        exact hd
      | succ i =>
        have := h1 i x (by simpa using hx)
        rw [show (i + 1) * d.size = d.size + i * d.size by rw [Nat.add_mul]; omega, ← hl, List.drop_length_add_append] 
        rw [hl]
        exact this
    · intro u hu
      rcases List.mem_append.1 hu with hu | hu
      · exact d.one hd u hu
      · exact h3 u hu
    · intro j v hv
      rcases Nat.lt_or_ge j cs.length with hlt | hge
      · rw [List.getElem?_append_left hlt] at hv
        have := ha.2 j v hv
        rwa [Nat.zero_mul, show p.add 0 = p from rfl] at this
      · rw [List.getElem?_append_right hge] at hv
        have := h4 _ v hv
        rw [add_add, show d.size + (j - cs.length) = j by omega] at this
        exact this
end
end Go.Proofs.Ytcdboppghnchpaa.Gw

namespace Go.Proofs.Ytcdboppghnchpaa.Gw
open Go Go.RowKit
section
variable {P : Program} {c : Cx} {I : Nat → Prop} {m : List Ent} {w : World} {fm : FM} {o : Oper}
theorem elems_take {α : Type} {d : Desc α} {cs : List Value} {xs : List α} (h : Elems d w I cs xs) (n : Nat) (hn : n = xs.length * d.size) : Elems d w I (cs.take n) xs := by
  intro i x hx
  have hlt : i < xs.length := (List.getElem?_eq_some_iff.1 hx).1
  have hle : (i + 1) * d.size ≤ xs.length * d.size := Nat.mul_le_mul_right _ hlt
  rw [Nat.add_mul, Nat.one_mul] at hle
  have e : ((cs.take n).drop (i * d.size)).take d.size = (cs.drop (i * d.size)).take d.size := by
    rw [List.drop_take, List.take_take, Nat.min_eq_left (by omega)]
  rw [e]; exact h i x hx
theorem elems_of_take {α : Type} {d : Desc α} {cs : List Value} {xs : List α} (n : Nat) (h : Elems d w I (cs.take n) xs) (hn : n = xs.length * d.size) : Elems d w I cs xs := by
  intro i x hx
  have hlt : i < xs.length := (List.getElem?_eq_some_iff.1 hx).1
  have hle : (i + 1) * d.size ≤ xs.length * d.size := Nat.mul_le_mul_right _ hlt
  rw [Nat.add_mul, Nat.one_mul] at hle
  have e : ((cs.take n).drop (i * d.size)).take d.size = (cs.drop (i * d.size)).take d.size := by
    rw [List.drop_take, List.take_take, Nat.min_eq_left (by omega)]
  rw [← e]; exact h i x hx
theorem ev_appendO {α : Type} {d : Desc α} {K : Value → World → Prop} {x y : Operand} {t T : TypeId} {v u : Value} {e : Ent} {xs ys : List α} {bytes : Nat} {z : Value} {agg : Bool} {i : Nat} {J : Nat → Prop}
    (hp : Hp c I m w) (hi : m[i]? = some e) (ho : o.op = .call { callee := .builtin .append, args := #[x, y], argTypes := #[t, t] }) (hx : evm fm x = some v) (hy : evm fm y = some u) (ht : P.underlying t = some (.slice T))
    (hT : TI P T d.size bytes z agg) (hd : 0 < d.size) (hv : OwnS d T w I v e xs) (hu : RepS d w J u ys) (hb : (xs.length + ys.length) * bytes ≤ 140737488355328) (hb' : xs.length + ys.length ≤ 4611686018427387904) (hJ : ∀ g, J g → I g)
    (k : ∀ v' e' w', Hp c I (m.set i e') w' → Stp I w I w' → OwnS d T w' I v' e' (xs ++ ys) → K v' w') : Ev P fm w o K := by
  intro a N hf K' Q hk
  obtain ⟨inf, hinf, hsz, hby, hz⟩ := hT.info
  have hrun : ∀ v' w', (Builtin.append_ #[t, t] o.type #[v, u]).run P w = .ok v' w' → (execOp a.eval o).run P w = .ok (.value v') w' := by
    intro v' w' hr
    simp [execOp, ho, resolve, invoke, builtin, hf.ev hx, hf.ev hy, hr]
  have hml : (9223372036854775807 : Nat) ≤ maxLen := by simp [maxLen]
  obtain ⟨A, n2, rfl, hn2, hrow⟩ := hu
  have hset : m.set i e = m := by
    obtain ⟨hl, he⟩ := List.getElem?_eq_some_iff.1 hi
    rw [← he]; exact List.set_getElem_self hl
  unfold Oper.wp
  rcases Nat.eq_zero_or_pos ys.length with h0 | h0
  · have hys : ys = [] := List.eq_nil_of_length_eq_zero h0
    subst hys
    have hrr : (Builtin.append_ #[t, t] o.type #[v, .slice A 0 n2]).run P w = .ok v w := by
      rcases hv with ⟨rfl, rfl, rfl⟩ | ⟨g, cs, n, rfl, rfl, h3, h4, h5, h7⟩
      · cases A <;> simp [Builtin.append_, run_underlying ht, sizeOf, typeInfo, hinf, Builtin.lenOf, Builtin.firstCells, loadCells, loadCellsFrom]
      · cases A <;> simp [Builtin.append_, run_underlying ht, sizeOf, typeInfo, hinf, Builtin.lenOf, Builtin.firstCells, loadCells, loadCellsFrom, h3, storeCells]
    rw [hrun _ _ hrr]
    exact hk _ _ (k v e w (by rw [hset]; exact hp) (Stp.refl _ _) (by simpa using hv))
  · obtain ⟨p, rfl, hrow'⟩ := hrow h0
    obtain ⟨news, hn1, hn2', hn3, hn4⟩ := elems_row hrow'
    have hnE : Elems d w I news ys := fun j x hx => d.step (hn1 j x hx) (fun g hg => ⟨hJ g hg, rfl⟩)
    have fin : ∀ (olds : List Value) (_ : w.ownsRow 0 T d.size v xs.length olds) (_ : Elems d w I olds xs)
        (hblk : ∀ g, v.ownBlock = some g → ∃ cs, e = some (g, cs, T)), Oper.upon P o a K' Q ((execOp a.eval o).run P w) := by
      intro olds hown hold hblk
      obtain ⟨v', w', hr, hown', hgr, _, hat⟩ := run_append_own_at (P := P) w 0 t o.type T inf z d.size bytes ht hinf hz hsz hby hT.zs hd v xs.length olds hown p ys.length n2 news hn2' hn4 hn3 (by omega) hb (Nat.zero_le _)
      rw [hrun _ _ hr]
      rcases hown'.2 with ⟨rfl, h00⟩ | ⟨g, cap, cur, rfl, _, hg, hnc, hcm, hcs, htake⟩
      · omega
      · have hcur : w'.heap[g]? = some (.cells cur.toList.toArray T (0, 0)) := by simpa using hg
        have hE : ∀ {w''}, Stp I w I w'' → Elems d w'' I cur.toList (xs ++ ys) := by
          intro w'' hst
          refine elems_of_take ((xs.length + ys.length) * d.size) ?_ (by rw [List.length_append])
          rw [htake]
          intro j x hx
          have := elems_app (d := d) (rest := []) hold (by rw [hown.1]) hnE hn2' j x hx
          rw [List.append_nil] at this
          exact d.step this hst
        have hb2 : v.ownBlock = some g ∨ g = w.heap.size := by
          rcases hat with hat | hat
          · left; rw [← hat]; rfl
          · right; simpa [Value.ownBlock] using hat
        obtain ⟨h1, h2⟩ := hp.turn (e' := some (g, cur.toList, T)) hi hgr.size (run_drawn _ _ hr) hgr.os hgr.tape hgr.output (fun k hk hne => hgr.block k hk (fun e0 => by
            obtain ⟨cs, he⟩ := hblk k e0.symm
            exact hne cs T he)) (fun g' cs1 t1 e0 => by
          simp only [Option.some.injEq, Prod.mk.injEq] at e0
          obtain ⟨rfl, rfl, rfl⟩ := e0
          refine ⟨hcur, ?_⟩
          rcases hb2 with hb2 | hb2
          · obtain ⟨cs, he⟩ := hblk g hb2
            exact .inr ⟨cs, T, he⟩
          · exact .inl (by omega))
        exact hk _ _ (k _ _ _ h1 h2 (.inr ⟨g, _, _, by rw [List.length_append], rfl, by rw [List.length_append]; exact hnc, hcm, by simpa using hcs, hE h2⟩))
    rcases hv with ⟨rfl, rfl, rfl⟩ | ⟨g, cs, n, rfl, rfl, h3, h4, h5, h7⟩
    · exact fin [] (World.ownsRow_nil w 0 T d.size) (fun i x hx => by simp at hx) (fun g hg => by simp [Value.ownBlock] at hg)
    · refine fin (cs.take (xs.length * d.size)) ⟨?_, .inr ⟨g, n, cs.toArray, rfl, Nat.zero_le _, (hp.own i g cs T hi).1, h3, h4, by simpa using h5, by simp⟩⟩ (elems_take h7 _ rfl) (fun g' hg' => ⟨cs, by simp [Value.ownBlock] at hg'; rw [hg']⟩)
      rw [List.length_take, h5, Nat.min_eq_left (Nat.mul_le_mul_right _ h3)]
end
end Go.Proofs.Ytcdboppghnchpaa.Gw

namespace Go.Proofs.Ytcdboppghnchpaa.Gw
open Go Go.RowKit
section
variable {P : Program} {c : Cx} {I : Nat → Prop} {m : List Ent} {w : World} {fm : FM} {o : Oper}
/-- make([]T, n): all elements are the zero value. -/
def mk {α : Type} (n : Int) (z : α) : Option (List α) := if 0 ≤ n ∧ n ≤ 1099511627776 then some (List.replicate n.toNat z) else none
theorem mk_some {α : Type} {n : Int} {z : α} {xs : List α} (h : mk n z = some xs) : 0 ≤ n ∧ n ≤ 1099511627776 ∧ xs = List.replicate n.toNat z := by
  unfold mk at h
  split at h
  · rename_i hn; exact ⟨hn.1, hn.2, (Option.some.inj h).symm⟩
  · cases h
theorem madeCells_part {z : Array Value} {n i k : Nat} (hz : z.size = k) (hi : i < n) : ((madeCells z (n * k)).toList.drop (i * k)).take k = z.toList := by
  apply List.ext_getElem?
  intro j
  have hle : (i + 1) * k ≤ n * k := Nat.mul_le_mul_right _ hi
  rw [Nat.add_mul, Nat.one_mul] at hle
  rw [List.getElem?_take]
  split
  · rename_i hj
    rw [List.getElem?_drop]
    have h1 : i * k + j < n * k := by omega
    have h2 : (i * k + j) % z.size = j := by rw [hz, Nat.add_comm, Nat.add_mul_mod_self_right, Nat.mod_eq_of_lt hj]
    simp only [madeCells, Array.toList_map, Array.toList_range, List.getElem?_map, List.getElem?_range h1, Option.map_some, h2]
    have h3 : j < z.size := by omega
    simp [h3]
  · rename_i hj
    rw [List.getElem?_eq_none (by simp; omega)]
theorem ev_make {α : Type} {d : Desc α} {K : Value → World → Prop} {x y : Operand} {t T : TypeId} {n : Int} {xs : List α} {x0 : α} {bytes : Nat} {z : Value} {agg : Bool} {kl kc : IntKind}
    (hp : Hp c I m w) (ho : o.op = .makeSlice t x y) (hx : evm fm x = some (.int kl n)) (hy : evm fm y = some (.int kc n)) (ht : P.underlying t = some (.slice T))
    (hT : TI P T d.size bytes z agg) (hz : ∀ w I, d.rep w I z.cells.toList x0) (hb : bytes ≤ 128) (hm : mk n x0 = some xs)
    (k : ∀ v' e' w', Hp c I (e' :: m) w' → Stp I w I w' → OwnS d T w' I v' e' xs → K v' w') : Ev P fm w o K := by
  intro a N hf K' Q hk
  obtain ⟨inf, hinf, hsz, hby, hz0⟩ := hT.info
  obtain ⟨h0, h1, rfl⟩ := mk_some hm
  have hbb : (inf.bytes : Int) * n ≤ 281474976710656 := by
    rw [hby]
    have : (bytes : Int) * n ≤ 128 * n := Int.mul_le_mul_of_nonneg_right (by omega) h0
    omega
  have hr := run_make (P := P) w t T inf z ht hinf hz0 kl kc n n h0 (Int.le_refl _) hbb (by omega)
  have hrun : (execOp a.eval o).run P w = .ok (.value (.slice (some ⟨w.heap.size, 0, none⟩) n.toNat n.toNat)) (w.alloc (.cells (madeCells z.cells (n.toNat * d.size)) T)) := by
    rw [hsz] at hr
    simp [execOp, ho, hf.ev hx, hf.ev hy, hr]
  unfold Oper.wp
  rw [hrun]
  have hn := hp.new (madeCells z.cells (n.toNat * d.size)).toList T
  simp only [Array.toArray_toList] at hn
  refine hk _ _ (k _ _ _ hn (hp.stp (Ch.alloc [] w _)) (.inr ⟨_, _, n.toNat, by rw [List.length_replicate], rfl, by rw [List.length_replicate]; exact Nat.le_refl _, by simp only [maxLen]; omega, by simp [size_madeCells], ?_⟩))
  intro i x hi
  obtain ⟨hl, he⟩ := List.getElem?_eq_some_iff.1 hi
  rw [List.length_replicate] at hl
  rw [List.getElem_replicate] at he
  subst he
  rw [madeCells_part hT.zs hl]
  exact hz _ _

/-- xs with place i turned. -/
def upd {α : Type} (xs : List α) (i : Int) (x : α) : List α := xs.set i.toNat x
theorem OwnS.open {α : Type} {d : Desc α} {T : TypeId} {v : Value} {e : Ent} {xs : List α} {n : Int} {y : α} (h : OwnS d T w I v e xs) (hy : idx xs n = some y) :
    ∃ g cs k, v = .slice (some ⟨g, 0, none⟩) xs.length k ∧ e = some (g, cs, T) ∧ xs.length ≤ k ∧ k ≤ maxLen ∧ cs.length = k * d.size ∧ Elems d w I cs xs := by
  obtain ⟨h0, hl, hg⟩ := idx_some hy
  rcases h with ⟨rfl, rfl, rfl⟩ | h
  · simp at hl
    omega
  · exact h
/-- The place of an element of an own slice. -/
theorem x_indexO {α : Type} {d : Desc α} {t T : TypeId} {x i : Operand} {v : Value} {k : IntKind} {n : Int} {bytes : Nat} {z : Value} {agg : Bool} {xs : List α} {y : α} {e : Ent} {R : Prop} {K : Value → Prop}
    (E : ∀ {v}, Rn0 P fm o v → K v → R) (ho : o.op = .indexAddr t x i) (hx : evm fm x = some v) (hi : evm fm i = some (.int k n)) (ht : P.underlying t = some (.slice T)) (he : TI P T d.size bytes z agg) (h : OwnS d T w I v e xs) (hy : idx xs n = some y)
    (k : ∀ g cs, e = some (g, cs, T) → d.rep w I ((cs.drop (n.toNat * d.size)).take d.size) y → n.toNat * d.size + d.size ≤ cs.length → K (.pointer (some ⟨g, n.toNat * d.size, none⟩))) : R := by
  obtain ⟨h0, hl, hg⟩ := idx_some hy
  obtain ⟨g, cs, q, rfl, rfl, h3, h4, h5, h7⟩ := h.open hy
  refine E (fun w' a N hf => ?_) (k g cs rfl (h7 _ _ hg) ?_)
  · simp [execOp, ho, hf.ev hx, hf.ev hi, Instr.indexAt, asIntOf, run_underlying ht, h0, hl, run_sizeOf he, add_lit]
  · rw [h5, ← Nat.succ_mul]
    exact Nat.mul_le_mul_right _ (by omega)
theorem x_lenO {α : Type} {d : Desc α} {x : Operand} {t T : TypeId} {v : Value} {e : Ent} {xs : List α}
    (ho : o.op = .call { callee := .builtin .len, args := #[x], argTypes := #[t] }) (hx : evm fm x = some v) (ht : P.underlying t = some (.slice T)) (h : OwnS d T w I v e xs) : Rn0 P fm o (.int .i64 xs.length) := by
  intro w a N hf
  obtain ⟨A, n, rfl⟩ : ∃ A n, v = .slice A xs.length n := by
    rcases h with ⟨rfl, rfl, rfl⟩ | ⟨g, cs, n, rfl, _⟩
    · exact ⟨none, 0, rfl⟩
    · exact ⟨_, n, rfl⟩
  simp [execOp, ho, resolve, invoke, builtin, Builtin.len_, hf.ev hx, run_underlying ht, goInt]
theorem setL_get (cs : List Value) (off : Nat) (vs : List Value) (j : Nat) (hl : off + vs.length ≤ cs.length) : (setL cs off vs)[j]? = if off ≤ j ∧ j < off + vs.length then vs[j - off]? else cs[j]? := by
  induction vs generalizing cs off with
  | nil => simp [setL]; intro h1 h2; omega
  | cons v vs ih =>
    simp only [setL, List.length_cons] at hl ⊢
    rw [ih _ _ (by simp; omega)]
    rw [List.getElem?_set]
    by_cases h1 : j = off
    · subst h1
      rw [if_neg (by omega), if_pos rfl, if_pos (by omega), if_pos (by omega)]; simp
    · by_cases h2 : off + 1 ≤ j ∧ j < off + 1 + vs.length
      · rw [if_pos h2, if_pos (by omega), show j - off = (j - (off + 1)) + 1 by omega, List.getElem?_cons_succ]
      · rw [if_neg h2, if_neg (fun e => h1 e.symm)]
        by_cases h3 : off ≤ j ∧ j < off + (vs.length + 1)
        · omega
        · rw [if_neg h3]
/-- An own slice behind a store of one element. -/
theorem OwnS.stored {α : Type} {d : Desc α} {T : TypeId} {v : Value} {g : Nat} {cs vs : List Value} {xs : List α} {n : Int} {y x : α} (h : OwnS d T w I v (some (g, cs, T)) xs) (hy : idx xs n = some y) (hd : d.rep w I vs x) :
    OwnS d T w I v (some (g, setL cs (n.toNat * d.size) vs, T)) (upd xs n x) := by
  obtain ⟨h0, hl, hg⟩ := idx_some hy
  obtain ⟨g', cs', q, rfl, e, h3, h4, h5, h7⟩ := h.open hy
  simp only [Option.some.injEq, Prod.mk.injEq] at e
  obtain ⟨rfl, rfl, _⟩ := e
  have hvl := d.len hd
  have hfit : n.toNat * d.size + d.size ≤ cs.length := by
    rw [h5, ← Nat.succ_mul]; exact Nat.mul_le_mul_right _ (by omega)
  refine .inr ⟨g, _, q, by simp [upd], rfl, by simpa [upd] using h3, h4, by rw [setL_length, h5], ?_⟩
  intro i u hi
  simp only [upd, List.getElem?_set] at hi
  by_cases hni : n.toNat = i
  · subst hni
    rw [if_pos rfl, if_pos (by omega)] at hi
    obtain rfl := Option.some.inj hi
    have : ((setL cs (n.toNat * d.size) vs).drop (n.toNat * d.size)).take d.size = vs := by
      apply List.ext_getElem?
      intro j
      rw [List.getElem?_take]
      split
      · rw [List.getElem?_drop, setL_get _ _ _ _ (by omega), if_pos (by omega)]
        congr 1; omega
      · rw [List.getElem?_eq_none (by omega)]
    rw [this]; exact hd
  · rw [if_neg hni] at hi
    have hxl : i < xs.length := (List.getElem?_eq_some_iff.1 hi).1
    have hap : i * d.size + d.size ≤ n.toNat * d.size ∨ n.toNat * d.size + d.size ≤ i * d.size := by
      rcases Nat.lt_or_gt_of_ne hni with hlt | hgt
      · right; rw [← Nat.succ_mul]; exact Nat.mul_le_mul_right _ hlt
      · left; rw [← Nat.succ_mul]; exact Nat.mul_le_mul_right _ hgt
    have : ((setL cs (n.toNat * d.size) vs).drop (i * d.size)).take d.size = (cs.drop (i * d.size)).take d.size := by
      apply List.ext_getElem?
      intro j
      rw [List.getElem?_take, List.getElem?_take]
      split
      · rw [List.getElem?_drop, List.getElem?_drop, setL_get _ _ _ _ (by omega), if_neg (by omega)]
      · rfl
    rw [this]; exact h7 i u hi

end
section
variable {P : Program} {c : Cx} {I : Nat → Prop} {m : List Ent} {w : World} {fm : FM} {o : Oper}
/-- xs[lo:hi] -/
def cut {α : Type} (xs : List α) (lo hi : Int) : Option (List α) := if 0 ≤ lo ∧ lo ≤ hi ∧ hi ≤ xs.length then some ((xs.take hi.toNat).drop lo.toNat) else none
theorem cut_some {α : Type} {xs ys : List α} {lo hi : Int} (h : cut xs lo hi = some ys) : 0 ≤ lo ∧ lo ≤ hi ∧ hi ≤ xs.length ∧ ys = (xs.take hi.toNat).drop lo.toNat := by
  unfold cut at h
  split at h
  · rename_i hn; exact ⟨hn.1, hn.2.1, hn.2.2, (Option.some.inj h).symm⟩
  · cases h
def evo (fm : FM) (o : Option Operand) (d : Value) : Option Value := match o with | none => some d | some x => evm fm x
theorem run_sliceBound {k : IntKind} {i : Int} {y : Nat} {code : BoundsCode} {w : World} (h : 0 ≤ i ∧ i ≤ (y : Int)) : (Instr.sliceBound (.int k i) y code).run P w = .ok i.toNat w := by
  simp [Instr.sliceBound, asIntOf, h]
/- ### Small things -/
theorem rn_conv {s t : TypeId} {x : Operand} {k j : IntKind} {n : Int} (ho : o.op = .convert s t x) (hx : evm fm x = some (.int j n)) (hs : (P.underlying s).isSome = true) (ht : P.underlying t = some (.int k)) : Rn0 P fm o (.int k (k.wrap n)) := by
  intro w a N hf
  cases hu : P.underlying s with
  | none => simp [hu] at hs
  | some d => simp [execOp, ho, hf.ev hx, convert, run_underlying ht, run_underlying hu, Conv.intToInt]
theorem run_equalB {t : TypeId} {p q : Bool} (ht : P.underlying t = some .bool) (w : World) : (Op.equal t (.bool p) (.bool q)).run P w = .ok (p == q) w := by
  have h : ∀ d : Nat, (Op.equalIn (d + 1) t (.bool p) (.bool q)).run P w = .ok (p == q) w := fun d => by simp only [Op.equalIn, Sem.run_bind, run_underlying ht, Result.andThen_ok, Sem.run_pure]
  exact h 9999
theorem rn_eqB {t t' : TypeId} {x y : Operand} {p q : Bool} (ho : o.op = .binOp .eql t x y t') (hx : evm fm x = some (.bool p)) (hy : evm fm y = some (.bool q)) (ht : P.underlying t = some .bool) : Rn0 P fm o (.bool (p == q)) := by
  intro w a N hf
  simp only [execOp, ho, hf.ev hx, hf.ev hy, binOp, Sem.run_bind, run_equalB ht, Result.andThen_ok, Sem.run_pure, show (eqGuard .eql t x y (.bool p) (.bool q)).run P w = .ok () w from rfl]
theorem rn_neB {t t' : TypeId} {x y : Operand} {p q : Bool} (ho : o.op = .binOp .neq t x y t') (hx : evm fm x = some (.bool p)) (hy : evm fm y = some (.bool q)) (ht : P.underlying t = some .bool) : Rn0 P fm o (.bool (!(p == q))) := by
  intro w a N hf
  simp only [execOp, ho, hf.ev hx, hf.ev hy, binOp, Sem.run_bind, run_equalB ht, Result.andThen_ok, Sem.run_pure, show (eqGuard .neq t x y (.bool p) (.bool q)).run P w = .ok () w from rfl]
/- ### Calls -/
def evms (fm : FM) : List Operand → Option (List Value)
  | [] => some []
  | x :: l => match evm fm x with
    | some v => match evms fm l with
      | some vs => some (v :: vs)
      | none => none
    | none => none
theorem evms_map {a : Act} {N : Nat} (hf : Fr a N fm) : ∀ {l : List Operand} {vs : List Value}, evms fm l = some vs → l.map a.eval = vs
  | [], vs, h => by simp [evms] at h; simp [h]
  | x :: l, vs, h => by
    simp only [evms] at h
    split at h
    · rename_i v hv
      split at h
      · rename_i us hus
        obtain rfl := Option.some.inj h
        rw [List.map_cons, hf.ev hv, evms_map hf hus]
      · cases h
    · cases h
def CF (P : Program) (f : FuncId) : Prop := ∃ fn, P.funcs[f]? = some fn ∧ fn.body.isNone = false ∧ (fn.name == "runtime.NumGoroutine") = false
theorem run_call {f : FuncId} {l : List Operand} {ts : Array TypeId} {vs : List Value} {a : Act} {N : Nat} (hf : Fr a N fm) (ho : o.op = .call { callee := .value (.func f), args := l.toArray, argTypes := ts }) (hl : evms fm l = some vs) (hc : CF P f) (w : World) :
    (execOp a.eval o).run P w = .ok (.enter f vs.toArray) w := by
  obtain ⟨fn, h1, h2, h3⟩ := hc
  have hm := evms_map hf hl
  have h2' : ¬ fn.body = none := by intro e; rw [e] at h2; cases h2
  have h3' : ¬ fn.name = "runtime.NumGoroutine" := by simpa using h3
  simp [execOp, ho, resolve, Act.eval, Deferred.ofValue, invoke, callFunc, h1, h2', h3', hm]
theorem ev_call {K : Value → World → Prop} {f : FuncId} {l : List Operand} {ts : Array TypeId} {vs : List Value} (ho : o.op = .call { callee := .value (.func f), args := l.toArray, argTypes := ts }) (hl : evms fm l = some vs) (hc : CF P f)
    (h : Ret P f vs.toArray w K) : Ev P fm w o K := by
  intro a N hf K' Q hk
  unfold Oper.wp
  rw [run_call hf ho hl hc]
  exact Calls.mono h fun e w' ⟨v, he, hv⟩ => by subst he; exact hk v w' hv
theorem evq_call {C : World → Prop} {K : Value → Unit → Prop} {f : FuncId} {l : List Operand} {ts : Array TypeId} {vs : List Value} {v : Value} (ho : o.op = .call { callee := .value (.func f), args := l.toArray, argTypes := ts }) (hl : evms fm l = some vs) (hc : CF P f)
    (h : ∀ w, C w → Ret P f vs.toArray w fun u w' => u = v ∧ C w') (k : K v ()) : EvQ P C fm () o K := by
  refine ⟨v, fun a N hf w hw => ?_, k⟩
  unfold Oper.quietAt
  rw [run_call hf ho hl hc]
  exact ⟨rfl, Calls.mono (h w hw) fun e w' ⟨u, he, hu, hC⟩ => by subst he; subst hu; exact ⟨rfl, hC⟩⟩
end
end Go.Proofs.Ytcdboppghnchpaa.Gw

namespace Go.Proofs.Ytcdboppghnchpaa.Gw
open Go Go.RowKit
section
variable {P : Program} {c : Cx} {I : Nat → Prop} {m : List Ent} {w : World} {fm : FM} {o : Oper}
def evps (fm : FM) : List (Nat × Operand) → Option (List (Nat × Value))
  | [] => some []
  | x :: l => match evm fm x.2 with
    | some v => match evps fm l with
      | some vs => some ((x.1, v) :: vs)
      | none => none
    | none => none
theorem evps_map {a : Act} {N : Nat} (hf : Fr a N fm) : ∀ {l : List (Nat × Operand)} {vs : List (Nat × Value)}, evps fm l = some vs → l.map (fun p => (p.1, a.eval p.2)) = vs
  | [], vs, h => by simp [evps] at h; simp [h]
  | x :: l, vs, h => by
    simp only [evps] at h
    split at h
    · rename_i v hv
      split at h
      · rename_i us hus
        obtain rfl := Option.some.inj h
        rw [List.map_cons, hf.ev hv, evps_map hf hus]
      · cases h
    · cases h
def Places (P : Program) (t : TypeId) (pl : List (Nat × Nat)) : Prop :=
  (P.underlying t).bind (fun | .struct fs => fs.toList.mapM (fun f => (P.info? f.type).map (fun i => (f.offset, i.size))) | _ => none) = some pl
theorem mapM_places {fs : List Field} {pl : List (Nat × Nat)} (h : fs.mapM (fun f => (P.info? f.type).map (fun i => (f.offset, i.size))) = some pl) (w : World) :
    (fs.mapM (fun f => (do pure (f.offset, ← sizeOf f.type) : Sem (Nat × Nat)))).run P w = .ok pl w := by
  induction fs generalizing pl with
  | nil => simp at h; subst h; simp
  | cons f fs ih =>
    rw [List.mapM_cons] at h
    simp only [Option.bind_eq_bind, Option.pure_def] at h
    cases hi : P.info? f.type with
    | none => simp [hi] at h
    | some i =>
      cases hm : fs.mapM (fun f => (P.info? f.type).map (fun i => (f.offset, i.size))) with
      | none => rw [hi, hm] at h; simp at h
      | some pl' =>
        rw [hi, hm] at h
        simp only [Option.map_some, Option.bind_some, Option.some.injEq] at h
        subst h
        rw [List.mapM_cons]
        have hs : (sizeOf f.type).run P w = .ok i.size w := by simp [sizeOf, typeInfo, hi]
        simp only [Sem.run_bind, hs, Result.andThen_ok, Sem.run_pure, ih hm]
theorem run_arr_mapM {α β : Type} (f : α → Sem β) (xs : Array α) {ys : List β} {w : World} (h : (xs.toList.mapM f).run P w = .ok ys w) : (xs.mapM f).run P w = .ok ys.toArray w := by
  rw [Array.mapM_eq_mapM_toList, Sem.run_map, h]; rfl
theorem rn_build {t : TypeId} {ps : List (Nat × Operand)} {vs : List (Nat × Value)} {pl : List (Nat × Nat)} {size bytes : Nat} {z : Value} {agg : Bool} {cs : List Value} (ho : o.op = .build t ps.toArray) (hx : evps fm ps = some vs) (ht : TI P t size bytes z agg)
    (hp : Places P t pl) (hc : Instr.fill (fun i => pl[i]?) z.cells vs = some cs.toArray) : Rn P fm w o (.agg cs.toArray) := by
  intro a N hf
  unfold Places at hp
  cases hu : P.underlying t with
  | none => simp [hu] at hp
  | some d =>
    cases d <;> simp only [hu, Option.bind_some, reduceCtorEq] at hp
    rename_i fs
    have hm := run_arr_mapM (P := P) (w := w) (fun f : Field => (do pure (f.offset, ← sizeOf f.type) : Sem (Nat × Nat))) fs (mapM_places hp w)
    have e : (ps.toArray.map fun x => (x.1, a.eval x.2)).toList = vs := by rw [Array.toList_map]; exact evps_map hf hx
    have e2 : (fun i : Nat => pl.toArray[i]?) = (fun i : Nat => pl[i]?) := by funext i; simp
    simp only [execOp, ho, Sem.run_bind, Instr.build, run_zeroValue ht, run_underlying hu, Result.andThen_ok]
    rw [hm]
    simp only [Result.andThen_ok, e, e2, hc, Sem.run_pure]
theorem run_buildSlice {t T : TypeId} {n : Nat} {ps : List (Nat × Operand)} {vs : List (Nat × Value)} {size bytes : Nat} {z : Value} {agg : Bool} {cs : List Value} {a : Act} {N : Nat} (hf : Fr a N fm) (ho : o.op = .buildSlice t n ps.toArray) (hx : evps fm ps = some vs)
    (hs : P.underlying t = some (.slice T)) (ht : TI P T size bytes z agg) (hn : n * size ≤ 1000)
    (hc : Instr.fill (fun i => some (i * size, size)) (if n * size = 0 then #[] else (Array.range (n * size)).map (z.cells[· % z.cells.size]!)) vs = some cs.toArray) (w : World) :
    (execOp a.eval o).run P w = .ok (.value (.slice (some ⟨w.heap.size, 0, none⟩) n n)) (w.alloc (.cells cs.toArray T)) := by
  have e : (ps.toArray.map fun x => (x.1, a.eval x.2)).toList = vs := by rw [Array.toList_map]; exact evps_map hf hx
  have hbig : ¬ (n * size > 2 ^ 24) := by omega
  simp only [execOp, ho, Sem.run_bind, Instr.buildSlice, run_underlying hs, run_sizeOf ht, Result.andThen_ok, if_neg hbig, Sem.run_pure]
  by_cases h0 : n * size = 0
  · rw [if_pos h0] at hc
    have hr0 : (Array.range 0).map (fun x => (#[] : Array Value)[x % (#[] : Array Value).size]!) = #[] := by apply Array.ext <;> simp
    simp only [h0, if_true, Sem.run_pure, Result.andThen_ok, e, hr0, hc, Sem.run_bind]
    simp [newRow]
  · rw [if_neg h0] at hc
    simp only [h0, if_false, Sem.run_bind, run_zeroValue ht, Sem.run_pure, Result.andThen_ok, e, hc]
    simp [newRow]
theorem fill_size : ∀ (l : List (Nat × Value)) (place : Nat → Option (Nat × Nat)) (cs cs' : Array Value), Instr.fill place cs l = some cs' → cs'.size = cs.size
  | [], place, cs, cs', h => by simp [Instr.fill] at h; rw [h]
  | (i, v) :: l, place, cs, cs', h => by
    simp only [Instr.fill] at h
    split at h
    · cases h
    · split at h
      · cases h
      · rw [fill_size l place _ cs' h]
        have key : ∀ (ls : List (Value × Nat)) (off : Nat) (cs : Array Value), (ls.foldl (fun cs x => cs.setIfInBounds (off + x.2) x.1) cs).size = cs.size := by
          intro ls
          induction ls with
          | nil => intro off cs; rfl
          | cons x ls ih => intro off cs; rw [List.foldl_cons, ih]; simp
        rename_i off size _ _
        rw [← Array.foldl_toList]
        exact key _ off cs
/-- []T{..}: a new row of the function's own. -/
theorem ev_litO {α : Type} {d : Desc α} {K : Value → World → Prop} {t T : TypeId} {n : Nat} {ps : List (Nat × Operand)} {vs : List (Nat × Value)} {xs : List α} {bytes : Nat} {z : Value} {agg : Bool} {cs : List Value} (hp : Hp c I m w) (ho : o.op = .buildSlice t n ps.toArray) (hx : evps fm ps = some vs)
    (hs : P.underlying t = some (.slice T)) (ht : TI P T d.size bytes z agg) (hd : 0 < d.size) (hn : n * d.size ≤ 1000)
    (hc : Instr.fill (fun i => some (i * d.size, d.size)) (if n * d.size = 0 then #[] else (Array.range (n * d.size)).map (z.cells[· % z.cells.size]!)) vs = some cs.toArray) (hl : n = xs.length) (hE : Elems d w I cs xs)
    (k : ∀ v' e' w', Hp c I (e' :: m) w' → Stp I w I w' → OwnS d T w' I v' e' xs → K v' w') : Ev P fm w o K := by
  intro a N hf K' Q hk
  unfold Oper.wp
  rw [run_buildSlice hf ho hx hs ht hn hc w]
  subst hl
  have hz : cs.length = xs.length * d.size := by
    have := fill_size _ _ _ _ hc
    split at this
    · rename_i h0; simpa [h0] using this
    · simpa using this
  have hst := hp.stp (Ch.alloc [] w (.cells cs.toArray T))
  exact hk _ _ (k _ _ _ (hp.new cs T) hst (.inr ⟨_, cs, xs.length, rfl, rfl, Nat.le_refl _, by
    have : xs.length * 1 ≤ xs.length * d.size := Nat.mul_le_mul_left _ hd
    simp only [maxLen]; omega, hz, fun i x hx => d.step (hE i x hx) hst⟩))
theorem Elems.nil {α : Type} (d : Desc α) (w : World) (I : Nat → Prop) (cs : List Value) : Elems d w I cs [] := fun i x h => by simp at h
theorem Elems.cons {α : Type} {d : Desc α} {cs c0 : List Value} {x : α} {xs : List α} (h : d.rep w I c0 x) (k : Elems d w I cs xs) : Elems d w I (c0 ++ cs) (x :: xs) := by
  have hl := d.len h
  intro i y hy
  cases i with
  | zero =>
    simp only [List.getElem?_cons_zero, Option.some.injEq] at hy
    subst hy
    rw [Nat.zero_mul, List.drop_zero, ← hl, List.take_left]
    exact h
  | succ i =>
    have := k i y (by simpa using hy)
    rw [show (i + 1) * d.size = c0.length + i * d.size by rw [Nat.add_mul, hl]; omega, List.drop_length_add_append]
    exact this
/-- .. only read from then on. -/
theorem ev_lit {α : Type} {d : Desc α} {K : Value → World → Prop} {t T : TypeId} {n : Nat} {ps : List (Nat × Operand)} {vs : List (Nat × Value)} {xs : List α} {bytes : Nat} {z : Value} {agg : Bool} {cs : List Value} (hp : Hp c I m w) (ho : o.op = .buildSlice t n ps.toArray) (hx : evps fm ps = some vs)
    (hs : P.underlying t = some (.slice T)) (ht : TI P T d.size bytes z agg) (hn : n * d.size ≤ 1000)
    (hc : Instr.fill (fun i => some (i * d.size, d.size)) (if n * d.size = 0 then #[] else (Array.range (n * d.size)).map (z.cells[· % z.cells.size]!)) vs = some cs.toArray) (hl : n = xs.length) (hE : Elems d w I cs xs)
    (k : ∀ v' I' w', Hp c I' m w' → Stp I w I' w' → RepS d w' I' v' xs → K v' w') : Ev P fm w o K := by
  intro a N hf K' Q hk
  unfold Oper.wp
  rw [run_buildSlice hf ho hx hs ht hn hc w]
  subst hl
  have hz : cs.length = xs.length * d.size := by
    have := fill_size _ _ _ _ hc
    split at this
    · rename_i h0; simpa [h0] using this
    · simpa using this
  have hch := Ch.alloc [] w (.cells cs.toArray T)
  have hst := hp.stpU hch
  refine hk _ _ (k _ _ _ (hp.extU hch) hst ⟨some ⟨w.heap.size, 0, none⟩, xs.length, rfl, Nat.le_refl _, fun _ => ⟨_, rfl, .inr ⟨Nat.le_refl _, by simp⟩, fun i x hx => ⟨_, d.step (hE i x hx) hst, ?_, fun j v hv => ?_⟩⟩⟩)
  · rw [add_block]; exact .inr ⟨Nat.le_refl _, by simp⟩
  · rw [add_add, add_lit, Nat.zero_add, World.cell?_alloc_new]
    simpa using drop_take_get hv
end
end Go.Proofs.Ytcdboppghnchpaa.Gw

namespace Go.Proofs.Ytcdboppghnchpaa.Gw
open Go Go.RowKit
section
variable {P : Program} {c : Cx} {I : Nat → Prop} {m : List Ent} {w : World} {fm : FM} {o : Oper}
/-- A cell of an own row, found in a part of it that is known. -/
theorem Hp.cellD (hp : Hp c I m w) {i g : Nat} {cs l : List Value} {t : TypeId} (hi : m[i]? = some (some (g, cs, t))) {a n j : Nat} {v : Value} (h : (cs.drop a).take n = l) (hj : l[j]? = some v) : w.cell? ⟨g, a + j, none⟩ = some v :=
  hp.cell hi (drop_take_get (h ▸ hj))
theorem one_cells {v : Value} (h : v.oneCell' = true) : v.cells = #[v] := by cases v <;> first | rfl | cases h
theorem RepS.one {α : Type} {d : Desc α} {v : Value} {xs : List α} (h : RepS d w I v xs) : v.oneCell' = true := by obtain ⟨a, c, rfl, _⟩ := h; rfl
theorem OwnS.one {α : Type} {d : Desc α} {T : TypeId} {v : Value} {e : Ent} {xs : List α} (h : OwnS d T w I v e xs) : v.oneCell' = true := by
  rcases h with ⟨rfl, _⟩ | ⟨g, cs, n, rfl, _⟩ <;> rfl
theorem RepS.isSl {α : Type} {d : Desc α} {v : Value} {xs : List α} (h : RepS d w I v xs) : ∃ a n k, v = .slice a n k := by obtain ⟨a, c, rfl, _⟩ := h; exact ⟨_, _, _, rfl⟩
/-- A store of one cell into an own row. -/
theorem ev_store1 {K : Value → World → Prop} {t : TypeId} {x y : Operand} {v : Value} {bytes : Nat} {z : Value} {agg : Bool} {i g off : Nat} {cs : List Value} {T : TypeId} (hp : Hp c I m w) (hi : m[i]? = some (some (g, cs, T)))
    (ho : o.op = .store t x y) (hx : evm fm x = some (.pointer (some ⟨g, off, none⟩))) (hy : evm fm y = some v) (ht : TI P t 1 bytes z agg) (h1 : v.oneCell' = true) (hl : off < cs.length)
    (k : ∀ w', Hp c I (m.set i (some (g, cs.set off v, T))) w' → Stp I w I w' → K undef w') : Ev P fm w o K := by
  have hc := one_cells h1
  refine ev_store hp hi ho hx hy ht (by rw [hc]; rfl) (by omega) (by rw [hc]; intro u hu; simp at hu; subst hu; exact h1) (fun w' hp' hs => k w' ?_ hs)
  rw [hc] at hp'
  exact hp'
/-- A store of a whole struct into an own row. -/
theorem ev_storeA {K : Value → World → Prop} {t : TypeId} {x y : Operand} {vs : List Value} {size bytes : Nat} {z : Value} {agg : Bool} {i g off : Nat} {cs : List Value} {T : TypeId} (hp : Hp c I m w) (hi : m[i]? = some (some (g, cs, T)))
    (ho : o.op = .store t x y) (hx : evm fm x = some (.pointer (some ⟨g, off, none⟩))) (hy : evm fm y = some (.agg vs.toArray)) (ht : TI P t size bytes z agg) (hs : vs.length = size) (hl : off + size ≤ cs.length) (h1 : ∀ u ∈ vs, u.oneCell' = true)
    (k : ∀ w', Hp c I (m.set i (some (g, setL cs off vs, T))) w' → Stp I w I w' → K undef w') : Ev P fm w o K :=
  ev_store hp hi ho hx hy ht (by simpa [Value.cells] using hs) hl (by simpa [Value.cells] using h1) (fun w' hp' hs => k w' (by simpa [Value.cells] using hp') hs)
/-- A store of an element of an own slice. -/
theorem ev_storeO {α : Type} {d : Desc α} {K : Value → World → Prop} {t : TypeId} {x y : Operand} {v u : Value} {bytes : Nat} {z : Value} {agg : Bool} {i g : Nat} {cs : List Value} {T : TypeId} {xs : List α} {n : Int} {y0 x0 : α} (hp : Hp c I m w) (hi : m[i]? = some (some (g, cs, T)))
    (ho : o.op = .store t x y) (hx : evm fm x = some (.pointer (some ⟨g, n.toNat * d.size, none⟩))) (hy : evm fm y = some v) (ht : TI P t d.size bytes z agg) (hO : OwnS d T w I u (some (g, cs, T)) xs) (hn : idx xs n = some y0) (hd : d.rep w I v.cells.toList x0)
    (k : ∀ e' w', Hp c I (m.set i e') w' → Stp I w I w' → OwnS d T w' I u e' (upd xs n x0) → K undef w') : Ev P fm w o K := by
  obtain ⟨g', cs', q, _, e, h3, h4, h5, h7⟩ := hO.open hn
  simp only [Option.some.injEq, Prod.mk.injEq] at e
  obtain ⟨rfl, rfl, _⟩ := e
  obtain ⟨h0, hl, hg⟩ := idx_some hn
  have hfit : n.toNat * d.size + d.size ≤ cs.length := by
    rw [h5, ← Nat.succ_mul]; exact Nat.mul_le_mul_right _ (by omega)
  exact ev_store hp hi ho hx hy ht (d.len hd) hfit (d.one hd) (fun w' hp' hs => k _ w' hp' hs ((hO.stored hn hd).step hs))
/-- append's bound. -/
def app {α : Type} (xs ys : List α) : Option (List α) := if xs.length + ys.length ≤ 1099511627776 then some (xs ++ ys) else none
theorem app_some {α : Type} {xs ys zs : List α} (h : app xs ys = some zs) : xs.length + ys.length ≤ 1099511627776 ∧ zs = xs ++ ys := by
  unfold app at h
  split at h
  · rename_i hn; exact ⟨hn, (Option.some.inj h).symm⟩
  · cases h
theorem ev_append {α : Type} {d : Desc α} {K : Value → World → Prop} {x y : Operand} {t T : TypeId} {v u : Value} {e : Ent} {xs ys zs : List α} {bytes : Nat} {z : Value} {agg : Bool} {i : Nat}
    (hp : Hp c I m w) (hi : m[i]? = some e) (ho : o.op = .call { callee := .builtin .append, args := #[x, y], argTypes := #[t, t] }) (hx : evm fm x = some v) (hy : evm fm y = some u) (ht : P.underlying t = some (.slice T))
    (hT : TI P T d.size bytes z agg) (hd : Nat.blt 0 d.size = true) (hb : Nat.ble bytes 128 = true) (hv : OwnS d T w I v e xs) (hu : RepS d w I u ys) (ha : app xs ys = some zs)
    (k : ∀ v' e' w', Hp c I (m.set i e') w' → Stp I w I w' → OwnS d T w' I v' e' zs → K v' w') : Ev P fm w o K := by
  obtain ⟨h1, rfl⟩ := app_some ha
  have hb' := Nat.le_of_ble_eq_true hb
  have h2 : (xs.length + ys.length) * bytes ≤ (xs.length + ys.length) * 128 := Nat.mul_le_mul_left _ hb'
  exact ev_appendO (J := I) hp hi ho hx hy ht hT (by simpa [Nat.blt_eq] using hd) hv hu (by omega) (by omega) (fun _ h => h) k
/-- A new empty entry (a nil slice that will be appended to). -/
theorem Hp.none_ (h : Hp c I m w) : Hp c I (none :: m) w := by
  refine ⟨h.ch, h.imm, h.lim, h.st, ?_, ?_⟩
  · intro i g cs t hi
    cases i with
    | zero => simp at hi
    | succ i => exact h.own i g cs t (by simpa using hi)
  · intro i j g cs cs' t t' hi hj
    cases i <;> cases j
    · rfl
    · simp at hi
    · simp at hj
    · rename_i i j; rw [h.inj i j g cs cs' t t' (by simpa using hi) (by simpa using hj)]
theorem freeze_hp (h : Hp c I m w) {i : Nat} {e : Ent} (hi : m[i]? = some e) : Hp c (Ad I e) (m.set i none) w ∧ Stp I w (Ad I e) w := h.freeze hi
end
end Go.Proofs.Ytcdboppghnchpaa.Gw

namespace Go.Proofs.Ytcdboppghnchpaa.Gw
open Go Go.RowKit
def need (b : Bool) : Option Unit := if b then some () else none
theorem need_some {p : Prop} [Decidable p] {α : Type} {f : Unit → Option α} {r : α} (h : (need (decide p)).bind f = some r) : ∃ (_ : p) (_ : True), f () = some r := by
  unfold need at h
  by_cases hp : p
  · simp only [hp, decide_true, if_true, Option.bind_some] at h; exact ⟨hp, trivial, h⟩
  · simp only [hp, decide_false, Bool.false_eq_true, if_false, Option.bind_none] at h; cases h
theorem ones_nil : ∀ u ∈ ([] : List Value), u.oneCell' = true := fun _ h => by cases h
theorem ones_cons {v : Value} {l : List Value} (h : v.oneCell' = true) (k : ∀ u ∈ l, u.oneCell' = true) : ∀ u ∈ v :: l, u.oneCell' = true := fun u hu => by
  rcases List.mem_cons.1 hu with rfl | hu
  · exact h
  · exact k u hu
theorem ones_of {l : List Value} (h : l.all (fun v => v.oneCell') = true) : ∀ u ∈ l, u.oneCell' = true := fun u hu => List.all_eq_true.1 h u hu
def blk : Ent → List Nat
  | none => []
  | some e => [e.1]
theorem OwnS.blk {α β : Type} {d : Desc α} {d' : Desc β} {T T' : TypeId} {w w' : World} {I I' : Nat → Prop} {v : Value} {e e' : Ent} {xs : List α} {ys : List β} (h : OwnS d T w I v e xs) (k : OwnS d' T' w' I' v e' ys) : Gw.blk e' = Gw.blk e := by
  rcases h with ⟨rfl, rfl, _⟩ | ⟨g, cs, n, rfl, rfl, _⟩ <;> rcases k with ⟨hv, rfl, _⟩ | ⟨g', cs', n', hv, rfl, _⟩
  · rfl
  · cases hv
  · cases hv
  · simp only [Value.slice.injEq, Option.some.injEq, Addr.mk.injEq] at hv
    obtain ⟨⟨rfl, _⟩, _⟩ := hv
    rfl
section
variable {c : Cx} {I : Nat → Prop} {m : List Ent} {w : World}
theorem Hp.perm (h : Hp c I m w) (l : List Nat) (hl : l.Nodup) : Hp c I (pickE m l) w := by
  refine ⟨h.ch, h.imm, h.lim, h.st, ?_, ?_⟩
  · intro i g cs t hi
    obtain ⟨j, _, hj⟩ := pickE_get m l i _ hi
    exact h.own j g cs t hj
  · intro i j g cs cs' t t' hi hj
    obtain ⟨a, ha, hma⟩ := pickE_get m l i _ hi
    obtain ⟨b, hb, hmb⟩ := pickE_get m l j _ hj
    have := h.inj a b g cs cs' t t' hma hmb
    subst this
    obtain ⟨hil, hie⟩ := List.getElem?_eq_some_iff.1 ha
    obtain ⟨hjl, hje⟩ := List.getElem?_eq_some_iff.1 hb
    have hp := List.pairwise_iff_getElem.1 hl
    rcases Nat.lt_trichotomy i j with hlt | rfl | hgt
    · exact absurd (hie.trans hje.symm) (hp i j hil hjl hlt)
    · rfl
    · exact absurd (hje.trans hie.symm) (hp j i hjl hil hgt)
theorem Hp.backO (h : Hp c I m w) {i : Nat} {e e' : Ent} (hi : m[i]? = some e) {I' : Nat → Prop} {w' : World} (k : Hp ⟨w, I, blk e⟩ I' [e'] w') (hs : blk e' = blk e) : Hp c I' (m.set i e') w' := by
  have hch : Ch (blk e) w w' := k.ch
  have hblk : ∀ j g cs t, j ≠ i → m[j]? = some (some (g, cs, t)) → g ∉ blk e := by
    intro j g cs t hj hm hg
    cases e with
    | none => cases hg
    | some e =>
      obtain ⟨g', cs', t'⟩ := e
      simp only [blk, List.mem_singleton] at hg
      subst hg
      exact hj (h.inj j i g cs cs' t t' hm hi)
  have hsame : ∀ g cs t, e' = some (g, cs, t) → ∃ cs0 t0, e = some (g, cs0, t0) := by
    rintro g cs t rfl
    cases e with
    | none => cases hs
    | some e => obtain ⟨g', cs', t'⟩ := e; simp only [blk, List.cons.injEq, and_true] at hs; subst hs; exact ⟨_, _, rfl⟩
  have old : ∀ (j g : Nat) (cs : List Value) (t : TypeId), (m.set i e')[j]? = some (some (g, cs, t)) → (j = i ∧ e' = some (g, cs, t)) ∨ (j ≠ i ∧ m[j]? = some (some (g, cs, t))) := by
    intro j g cs t hj
    rw [List.getElem?_set] at hj
    split at hj
    · rename_i e0; subst e0
      split at hj <;> simp only [Option.some.injEq, reduceCtorEq] at hj
      exact .inl ⟨rfl, hj⟩
    · rename_i e0; exact .inr ⟨fun e1 => e0 e1.symm, hj⟩
  refine ⟨⟨Nat.le_trans h.ch.drawn hch.drawn, hch.os.trans h.ch.os, hch.tape.trans h.ch.tape, hch.output.trans h.ch.output, Nat.le_trans h.ch.size hch.size, fun g hg hn => ?_⟩, k.imm, fun g hg => ?_, h.st.trans k.st, ?_, ?_⟩
  · rw [hch.old g (Nat.lt_of_lt_of_le hg h.ch.size) (fun hb => by
      cases e with
      | none => cases hb
      | some e =>
        obtain ⟨g', cs', t'⟩ := e
        simp only [blk, List.mem_singleton] at hb
        subst hb
        rcases (h.own i g cs' t' hi).2.2 with h0 | h0
        · omega
        · exact hn h0)]
    exact h.ch.old g hg hn
  · rcases k.lim g hg with h0 | h0 | h0
    · exact h.lim g h0
    · exact .inr (.inl (Nat.le_trans h.ch.size h0))
    · cases e with
      | none => cases h0
      | some e =>
        obtain ⟨g', cs', t'⟩ := e
        simp only [blk, List.mem_singleton] at h0
        subst h0
        exact .inr (h.own i g cs' t' hi).2.2
  · intro j g cs t hj
    rcases old j g cs t hj with ⟨rfl, hj1⟩ | ⟨hne, hj1⟩
    · subst hj1
      obtain ⟨cs0, t0, rfl⟩ := hsame g cs t rfl
      have := k.own 0 g cs t (by simp)
      exact ⟨this.1, this.2.1, (h.own j g cs0 t0 hi).2.2⟩
    · have ho := h.own j g cs t hj1
      refine ⟨(hch.old g (h.lt hj1) (hblk j g cs t hne hj1)).trans ho.1, fun hI => ?_, ho.2.2⟩
      rcases k.lim g hI with h2 | h2 | h2
      · exact ho.2.1 h2
      · have h2 : w.heap.size ≤ g := h2
        have := h.lt hj1; omega
      · exact hblk j g cs t hne hj1 h2
  · intro a b g cs cs' t t' ha hb
    rcases old a g cs t ha with ⟨rfl, ha1⟩ | ⟨hna, ha1⟩ <;> rcases old b g cs' t' hb with ⟨rfl, hb1⟩ | ⟨hnb, hb1⟩
    · rfl
    · obtain ⟨cs0, t0, rfl⟩ := hsame g cs t ha1; exact h.inj _ _ g _ _ _ _ hi hb1
    · obtain ⟨cs0, t0, rfl⟩ := hsame g cs' t' hb1; exact h.inj _ _ g _ _ _ _ ha1 hi
    · exact h.inj a b g _ _ t t' ha1 hb1
theorem Hp.back (h : Hp c I m w) {i g : Nat} {cs cs' : List Value} {t : TypeId} (hi : m[i]? = some (some (g, cs, t))) {I' : Nat → Prop} {w' : World} (k : Hp ⟨w, I, [g]⟩ I' [some (g, cs', t)] w') : Hp c I' (m.set i (some (g, cs', t))) w' :=
  h.backO hi k rfl
end
end Go.Proofs.Ytcdboppghnchpaa.Gw

namespace Go.Proofs.Ytcdboppghnchpaa.Gw
open Go Go.RowKit
section
variable {P : Program} {c : Cx} {I : Nat → Prop} {m : List Ent} {w : World} {fm : FM} {o : Oper}
theorem ev_index {K : Value → World → Prop} {wz : World} {α : Type} {d : Desc α} {m : FM} {w : World} {o : Oper} {t e : TypeId} {x i : Operand} {v : Value} {k : IntKind} {n : Int} {bytes : Nat} {z : Value} {agg : Bool} {xs : List α} {y : α} {I : Nat → Prop}  
     (ho : o.op = .indexAddr t x i) (hx : evm m x = some v) (hi : evm m i = some (.int k n)) (ht : P.underlying t = some (.slice e)) (he : TI P e d.size bytes z agg) (hr : RepS d w I v xs) (hy : idx xs n = some y)
    (k : ∀ p cs, d.rep w I cs y → At w I p cs → K (.pointer (some p)) wz) : Ev P m wz o K :=
  x_index (K := fun v => K v wz) (fun h k => ev0 h k) ho hx hi ht he hr hy k
theorem evq_index {K : Value → Unit → Prop} {C : World → Prop} {α : Type} {d : Desc α} {m : FM} {w : World} {o : Oper} {t e : TypeId} {x i : Operand} {v : Value} {k : IntKind} {n : Int} {bytes : Nat} {z : Value} {agg : Bool} {xs : List α} {y : α} {I : Nat → Prop}  
     (ho : o.op = .indexAddr t x i) (hx : evm m x = some v) (hi : evm m i = some (.int k n)) (ht : P.underlying t = some (.slice e)) (he : TI P e d.size bytes z agg) (hr : RepS d w I v xs) (hy : idx xs n = some y)
    (k : ∀ p cs, d.rep w I cs y → At w I p cs → K (.pointer (some p)) ()) : EvQ P C m () o K :=
  x_index (K := fun v => K v ()) (fun h k => evq0 h k) ho hx hi ht he hr hy k
theorem ev_indexO {K : Value → World → Prop} {wz : World} {α : Type} {d : Desc α} {t T : TypeId} {x i : Operand} {v : Value} {k : IntKind} {n : Int} {bytes : Nat} {z : Value} {agg : Bool} {xs : List α} {y : α} {e : Ent}  
     (ho : o.op = .indexAddr t x i) (hx : evm fm x = some v) (hi : evm fm i = some (.int k n)) (ht : P.underlying t = some (.slice T)) (he : TI P T d.size bytes z agg) (h : OwnS d T w I v e xs) (hy : idx xs n = some y)
    (k : ∀ g cs, e = some (g, cs, T) → d.rep w I ((cs.drop (n.toNat * d.size)).take d.size) y → n.toNat * d.size + d.size ≤ cs.length → K (.pointer (some ⟨g, n.toNat * d.size, none⟩)) wz) : Ev P fm wz o K :=
  x_indexO (K := fun v => K v wz) (fun h k => ev0 h k) ho hx hi ht he h hy k
theorem evq_indexO {K : Value → Unit → Prop} {C : World → Prop} {α : Type} {d : Desc α} {t T : TypeId} {x i : Operand} {v : Value} {k : IntKind} {n : Int} {bytes : Nat} {z : Value} {agg : Bool} {xs : List α} {y : α} {e : Ent}  
     (ho : o.op = .indexAddr t x i) (hx : evm fm x = some v) (hi : evm fm i = some (.int k n)) (ht : P.underlying t = some (.slice T)) (he : TI P T d.size bytes z agg) (h : OwnS d T w I v e xs) (hy : idx xs n = some y)
    (k : ∀ g cs, e = some (g, cs, T) → d.rep w I ((cs.drop (n.toNat * d.size)).take d.size) y → n.toNat * d.size + d.size ≤ cs.length → K (.pointer (some ⟨g, n.toNat * d.size, none⟩)) ()) : EvQ P C fm () o K :=
  x_indexO (K := fun v => K v ()) (fun h k => evq0 h k) ho hx hi ht he h hy k
end
end Go.Proofs.Ytcdboppghnchpaa.Gw

namespace Go.Proofs.Ytcdboppghnchpaa.Gw
open Go Go.RowKit

/- ### Regions that draw their order and hold operations that make or turn memory: those that only read are taken first, the others come one by one -/
def EvH (P : Program) (S : World → Prop) (m : FM) (_ : Unit) (o : Oper) (K : Value → Unit → Prop) : Prop := ∃ v, (∀ w, S w → Rn P m w o v) ∧ K v ()
section
variable {P : Program}
theorem evh {S : World → Prop} {m : FM} {o : Oper} {K : Value → Unit → Prop} {v : Value} (h : ∀ w, S w → Rn P m w o v) (k : K v ()) : EvH P S m () o K := ⟨v, h, k⟩
theorem evh0 {S : World → Prop} {m : FM} {o : Oper} {K : Value → Unit → Prop} {v : Value} (h : Rn0 P m o v) (k : K v ()) : EvH P S m () o K := ⟨v, fun w _ => h w, k⟩
def nthO : List Oper → Nat → Option Oper
  | [], _ => none
  | o :: _, 0 => some o
  | _ :: l, i + 1 => nthO l i
theorem nthO_eq : ∀ (l : List Oper) (i : Nat), nthO l i = l[i]?
  | [], i => by simp [nthO]
  | o :: l, 0 => rfl
  | o :: l, i + 1 => by simpa [nthO] using nthO_eq l i
/-- A way through the region: number, does it only read. -/
def schB (ops : Array Oper) : List (Nat × Bool) → Array Bool → Bool
  | [], L => (Region.ready .any ops L).isEmpty
  | (i, true) :: r, L => Region.free .any ops L i && (Region.ready .any ops L).contains i && schB ops r (L.setIfInBounds i true)
  | (i, false) :: r, L => (Region.ready .any ops L == [i]) && schB ops r (L.setIfInBounds i true)
noncomputable def vch (P : Program) (N : Nat) (ops : List Oper) (l : List (Nat × Bool)) : (World → Prop) → FM → World → (FM → World → Prop) → Prop :=
  List.rec (motive := fun _ => (World → Prop) → FM → World → (FM → World → Prop) → Prop) (fun _ m w K => K m w) (fun p _ ih S m w K =>
    match nthO ops p.1 with
    | some o => match p.2 with
      | true => vcs (EvH P S) N ops [o] m () fun m' _ => ih S m' w K
      | false => vcs (Ev P) N ops [o] m w fun m' w' => ∃ S' : World → Prop, S' w' ∧ (∀ x, S' x → S x) ∧ ih S' m' w' K
    | none => False) l

theorem evh_one {S : World → Prop} {N : Nat} {ops : List Oper} {o : Oper} {m : FM} {K : FM → Prop} {a : Act} (hf : Fr a N m) (h : vcs (EvH P S) N ops [o] m () fun m' _ => K m') :
    ∃ v, YieldsIf P ops.toArray S o v a ∧ ∃ m', Fr (a.put o.dst v) N m' ∧ K m' := by
  have go : ∀ {m : FM}, Fr a N m → Region.wanted o (yielded ops.toArray a.tmps) = true → opv (EvH P S) m () o (fun v s' => putk N o.dst v m fun m' => vcs (EvH P S) N ops [] m' s' (fun m' _ => K m')) →
      ∃ v, YieldsIf P ops.toArray S o v a ∧ ∃ m', Fr (a.put o.dst v) N m' ∧ K m' := by
    intro m hf hw h
    rcases opv_run (P := P) h with ⟨v, hr, hp⟩ | ⟨v, he, hp⟩
    · obtain ⟨m', hf', hk⟩ := putk_elim hp hf
      exact ⟨v, .inl ⟨hw, fun w _ => hr w a N hf⟩, m', hf', hk⟩
    · obtain ⟨m', hf', hk⟩ := putk_elim hp hf
      exact ⟨v, .inl ⟨hw, fun w hS => he w hS a N hf⟩, m', hf', hk⟩
  have skip : ∀ {m : FM}, Fr a N m → Region.wanted o (yielded ops.toArray a.tmps) = false → putk N o.dst undef m (fun m' => vcs (EvH P S) N ops [] m' () (fun m' _ => K m')) →
      ∃ v, YieldsIf P ops.toArray S o v a ∧ ∃ m', Fr (a.put o.dst v) N m' ∧ K m' := by
    intro m hf hw hp
    obtain ⟨m', hf', hk⟩ := putk_elim hp hf
    exact ⟨_, .inr ⟨hw, rfl⟩, m', hf', hk⟩
  replace h : vstep (EvH P S) N ops o (vcs (EvH P S) N ops []) m () (fun m' _ => K m') := h
  unfold vstep at h
  split at h
  · rename_i hg
    exact go hf (by simp [Region.wanted, hg]) h
  · rename_i j want hg
    split at h
    · exact h.elim
    · rename_i oj hj
      split at h
      · exact h.elim
      · rename_i d hd
        split at h
        · rename_i t hl
          have hw := wanted_of hg hj hd hf hl
          have hfb := hf.bool hl
          rcases sel_cases h with ⟨rfl, h⟩ | ⟨rfl, h⟩
          · cases want
            · exact skip hfb (by simpa using hw) h
            · exact go hfb (by simpa using hw) h
          · cases want
            · exact go hfb (by simpa using hw) h
            · exact skip hfb (by simpa using hw) h
        · rename_i vs hl
          exact skip hf (unwanted_of hg hj hd hf hl) h
        · exact h.elim
theorem ev_one {N : Nat} {ops : List Oper} {i : Nat} {o : Oper} {m : FM} {w : World} {K : FM → World → Prop} {a : Act} {Q : Exit → Act → World → Prop} (hi : ops.toArray[i]? = some o) (hf : Fr a N m) (h : vcs (Ev P) N ops [o] m w K) :
    wpOp P ops.toArray Q i (fun a' w' => ∃ m', Fr a' N m' ∧ K m' w') a w := by
  have go : ∀ {m : FM}, Fr a N m → opv (Ev P) m w o (fun v s' => putk N o.dst v m fun m' => vcs (Ev P) N ops [] m' s' K) → o.wp P a w (fun a' w' => ∃ m', Fr a' N m' ∧ K m' w') Q := by
    intro m hf h
    rcases opv_run (P := P) h with ⟨v, hr, hp⟩ | he
    · unfold Oper.wp
      rw [hr w a N hf]
      exact putk_elim hp hf
    · exact he a N hf _ Q fun v w' hp => putk_elim hp hf
  have skip : ∀ {m : FM}, Fr a N m → putk N o.dst undef m (fun m' => vcs (Ev P) N ops [] m' w K) → ∃ m', Fr (a.put o.dst undef) N m' ∧ K m' w := fun hf hp => putk_elim hp hf
  unfold wpOp
  simp only [hi]
  replace h : vstep (Ev P) N ops o (vcs (Ev P) N ops []) m w K := h
  unfold vstep at h
  split at h
  · rename_i hg
    rw [if_pos (by simp [Region.wanted, hg])]
    exact .inl (go hf h)
  · rename_i j want hg
    split at h
    · exact h.elim
    · rename_i oj hj
      split at h
      · exact h.elim
      · rename_i d hd
        split at h
        · rename_i t hl
          rw [wanted_of hg hj hd hf hl]
          have hfb := hf.bool hl
          rcases sel_cases h with ⟨rfl, h⟩ | ⟨rfl, h⟩
          · cases want
            · simp only [Bool.true_beq, Bool.false_eq_true, if_false]; exact skip hfb h
            · simp only [beq_self_eq_true, if_true]; exact .inl (go hfb h)
          · cases want
            · simp only [beq_self_eq_true, if_true]; exact .inl (go hfb h)
            · simp only [Bool.false_beq, Bool.not_true, Bool.false_eq_true, if_false]; exact skip hfb h
        · rename_i vs hl
          rw [unwanted_of hg hj hd hf hl]
          simp only [Bool.false_eq_true, if_false]
          exact skip hf h
        · exact h.elim
theorem held_more {ops : Array Oper} {Q : Exit → Act → World → Prop} {md : Region.Mode} {S S' : World → Prop} (k : ∀ x, S' x → S x) : ∀ (fuel : Nat) (L : Array Bool) (a : Act) (w : World), wpAnyH P md ops Q S' fuel L a w → wpAnyH P md ops Q S fuel L a w
  | 0, _, _, _, h => h
  | fuel + 1, _, _, _, h => ⟨h.1, fun i hi => wpOp_mono (fun a' w' h' => ⟨k _ h'.1, held_more k fuel _ a' w' h'.2⟩) (h.2 i hi)⟩
theorem vch_sound {N : Nat} {ops : List Oper} {Q : Exit → Act → World → Prop} (hs : Region.noSelect ops.toArray = true) : ∀ (r : List (Nat × Bool)) (fuel : Nat) (L : Array Bool) (S : World → Prop) (m : FM) (w : World) (K : FM → World → Prop) (a : Act),
    r.length ≤ fuel → schB ops.toArray r L = true → Fr a N m → S w → (∀ m' w' a', Fr a' N m' → K m' w' → Q .normal a' w') → vch P N ops r S m w K → wpAnyH P .any ops.toArray (NoPanic Q) S fuel L a w
  | [], fuel, L, S, m, w, K, a, _, hB, hf, _, hk, h => by
    simp only [schB, List.isEmpty_iff] at hB
    exact wpAnyH_done (Q := NoPanic Q) hB (hk m w a hf h) fuel
  | (i, true) :: r, fuel, L, S, m, w, K, a, hl, hB, hf, hS, hk, h => by
    simp only [schB, Bool.and_eq_true] at hB
    replace h : (match nthO ops i with | some o => vcs (EvH P S) N ops [o] m () fun m' _ => vch P N ops r S m' w K | none => False) := h
    split at h
    · rename_i o ho
      obtain ⟨v, hy, m', hf', h'⟩ := evh_one hf h
      obtain ⟨fuel, rfl⟩ : ∃ k, fuel = k + 1 := ⟨fuel - 1, by simp at hl; omega⟩
      refine wpAnyH_take (i := i) (oi := o) (v := v) ?_ hs hB.1.1 hB.1.2 (fun c a w h => h) hy hS ?_
      · rw [List.getElem?_toArray, ← nthO_eq]; exact ho
      · exact vch_sound hs r fuel _ S m' w K _ (by simpa using hl) hB.2 hf' hS hk h'
    · exact h.elim
  | (i, false) :: r, fuel, L, S, m, w, K, a, hl, hB, hf, hS, hk, h => by
    simp only [schB, Bool.and_eq_true, beq_iff_eq] at hB
    replace h : (match nthO ops i with | some o => vcs (Ev P) N ops [o] m w fun m' w' => ∃ S' : World → Prop, S' w' ∧ (∀ x, S' x → S x) ∧ vch P N ops r S' m' w' K | none => False) := h
    split at h
    · rename_i o ho
      obtain ⟨fuel, rfl⟩ : ∃ k, fuel = k + 1 := ⟨fuel - 1, by simp at hl; omega⟩
      refine wpAnyH_all hB.1 (by simp) fun j hj => ?_
      obtain rfl : j = i := by simpa using hj
      refine wpOp_mono ?_ (ev_one (P := P) (Q := NoPanic Q) (by rw [List.getElem?_toArray, ← nthO_eq]; exact ho) hf h)
      rintro a' w' ⟨m', hf', S', hS', hle, h'⟩
      exact ⟨hle _ hS', held_more hle _ _ _ _ (vch_sound hs r fuel _ S' m' w' K _ (by simpa using hl) hB.2 hf' hS' hk h')⟩
    · exact h.elim
theorem W.held {N : Nat} {id : Nat} {l : List Oper} {m : FM} {w : World} {Q : Exit → FM → World → Prop} (r : List (Nat × Bool)) (S : World → Prop) (hm : P.follows .mixedOrders = true)
    (hB : (Region.noSelect l.toArray && Nat.ble r.length l.length && schB l.toArray r (Array.replicate l.length false)) = true) (hS : S w.drew) (h : vch P N l r S m w.drew fun m' w' => Q .normal m' w') : W P N (.region id l.toArray true) m w Q := by
  intro a hf
  simp only [Bool.and_eq_true] at hB
  refine wp_region_noPanic (wp_region_held (S := S) hm ?_)
  have := vch_sound (P := P) (Q := Lift N Q) hB.1.1 r l.length _ S m w.drew _ a (Nat.le_of_ble_eq_true hB.1.2) hB.2 hf hS (fun m' w' a' hf' q => ⟨m', hf', q⟩) h
  simpa using this
end

theorem Stp.held {I I' : Nat → Prop} {w w' x : World} (h : Stp I w I' w') (k : Stp I' w' I' x) : Stp I w I x := fun g hg => ⟨hg, ((h.trans k) g hg).2⟩
section
variable {P : Program} {c : Cx} {I : Nat → Prop} {m : List Ent} {w : World} {fm : FM} {o : Oper}
theorem evh_indexO {K : Value → Unit → Prop} {S : World → Prop} {α : Type} {d : Desc α} {t T : TypeId} {x i : Operand} {v : Value} {k : IntKind} {n : Int} {bytes : Nat} {z : Value} {agg : Bool} {xs : List α} {y : α} {e : Ent}  
     (ho : o.op = .indexAddr t x i) (hx : evm fm x = some v) (hi : evm fm i = some (.int k n)) (ht : P.underlying t = some (.slice T)) (he : TI P T d.size bytes z agg) (h : OwnS d T w I v e xs) (hy : idx xs n = some y)
    (k : ∀ g cs, e = some (g, cs, T) → d.rep w I ((cs.drop (n.toNat * d.size)).take d.size) y → n.toNat * d.size + d.size ≤ cs.length → K (.pointer (some ⟨g, n.toNat * d.size, none⟩)) ()) : EvH P S fm () o K :=
  x_indexO (K := fun v => K v ()) (fun h k => evh0 h k) ho hx hi ht he h hy k
end
end Go.Proofs.Ytcdboppghnchpaa.Gw

namespace Go.Proofs.Ytcdboppghnchpaa.Gw
open Go Go.RowKit
section
variable {P : Program} {c : Cx} {I : Nat → Prop} {m : List Ent} {w : World} {fm : FM} {o : Oper}
/-- The cells of a new row of zeros. -/
def zrow : Nat → List Value → List Value
  | 0, _ => []
  | n + 1, l => l ++ zrow n l
theorem zrow_length : ∀ (n : Nat) (l : List Value), (zrow n l).length = n * l.length
  | 0, l => by simp [zrow]
  | n + 1, l => by simp only [zrow, List.length_append, zrow_length n l, Nat.succ_mul]; omega
theorem zrow_get : ∀ (n : Nat) (l : List Value) (i : Nat), i < n * l.length → (zrow n l)[i]? = l[i % l.length]?
  | 0, l, i, h => by simp at h
  | n + 1, l, i, h => by
    simp only [zrow]
    rcases Nat.lt_or_ge i l.length with hi | hi
    · rw [List.getElem?_append_left hi, Nat.mod_eq_of_lt hi]
    · rw [List.getElem?_append_right hi, zrow_get n l (i - l.length) (by rw [Nat.succ_mul] at h; omega), ← Nat.mod_eq_sub_mod hi]
theorem zrow_eq (n : Nat) (z : Array Value) (k : Nat) (hk : z.size = k) : (if n * k = 0 then #[] else (Array.range (n * k)).map (z[· % z.size]!)) = (zrow n z.toList).toArray := by
  subst hk
  have hl : (zrow n z.toList).length = n * z.size := by rw [zrow_length]; simp
  split
  · rename_i h0
    rw [h0] at hl
    rw [List.length_eq_zero_iff.1 hl]
  · rename_i h0
    have hz : 0 < z.size := Nat.pos_of_ne_zero fun e => h0 (by rw [e]; rfl)
    apply Array.ext
    · simp [hl]
    · intro i h1 h2
      simp only [Array.size_map, Array.size_range] at h1
      have := zrow_get n z.toList i (by simpa using h1)
      have hm : i % z.size < z.size := Nat.mod_lt _ hz
      simp only [Array.getElem_map, Array.getElem_range, List.getElem_toArray]
      rw [List.getElem?_eq_getElem (by omega)] at this
      simp only [Array.length_toList] at this
      rw [List.getElem?_eq_getElem (by simpa using hm)] at this
      simp only [Option.some.injEq] at this
      rw [this, getElem!_pos z (i % z.size) hm]
      simp
theorem ev_litN {α : Type} {d : Desc α} {K : Value → World → Prop} {t T : TypeId} {n : Nat} {ps : List (Nat × Operand)} {vs : List (Nat × Value)} {xs : List α} {bytes : Nat} {z : Value} {agg : Bool} {cs : List Value} (hp : Hp c I m w) (ho : o.op = .buildSlice t n ps.toArray) (hx : evps fm ps = some vs)
    (hs : P.underlying t = some (.slice T)) (ht : TI P T d.size bytes z agg) (hn : n * d.size ≤ 1000)
    (hc : Instr.fill (fun i => some (i * d.size, d.size)) (zrow n z.cells.toList).toArray vs = some cs.toArray) (hl : n = xs.length) (hE : Elems d w I cs xs)
    (k : ∀ v' I' w', Hp c I' m w' → Stp I w I' w' → RepS d w' I' v' xs → K v' w') : Ev P fm w o K :=
  ev_lit hp ho hx hs ht hn ((zrow_eq n z.cells d.size ht.zs).symm ▸ hc) hl hE k
theorem ev_litON {α : Type} {d : Desc α} {K : Value → World → Prop} {t T : TypeId} {n : Nat} {ps : List (Nat × Operand)} {vs : List (Nat × Value)} {xs : List α} {bytes : Nat} {z : Value} {agg : Bool} {cs : List Value} (hp : Hp c I m w) (ho : o.op = .buildSlice t n ps.toArray) (hx : evps fm ps = some vs)
    (hs : P.underlying t = some (.slice T)) (ht : TI P T d.size bytes z agg) (hd : 0 < d.size) (hn : n * d.size ≤ 1000)
    (hc : Instr.fill (fun i => some (i * d.size, d.size)) (zrow n z.cells.toList).toArray vs = some cs.toArray) (hl : n = xs.length) (hE : Elems d w I cs xs)
    (k : ∀ v' e' w', Hp c I (e' :: m) w' → Stp I w I w' → OwnS d T w' I v' e' xs → K v' w') : Ev P fm w o K :=
  ev_litO hp ho hx hs ht hd hn ((zrow_eq n z.cells d.size ht.zs).symm ▸ hc) hl hE k
theorem Hp.cellE (hp : Hp c I m w) {i g : Nat} {cs l : List Value} {t : TypeId} {e : Ent} (hi : m[i]? = some e) (he : e = some (g, cs, t)) {a n j : Nat} {v : Value} (h : (cs.drop a).take n = l) (hj : l[j]? = some v) : w.cell? ⟨g, a + j, none⟩ = some v := by
  subst he; exact hp.cellD hi h hj
theorem ev_storeE {α : Type} {d : Desc α} {K : Value → World → Prop} {t : TypeId} {x y : Operand} {v u : Value} {bytes : Nat} {z : Value} {agg : Bool} {i g : Nat} {cs : List Value} {T : TypeId} {xs : List α} {n : Int} {y0 x0 : α} {e : Ent} (hp : Hp c I m w) (hi : m[i]? = some e) (he : e = some (g, cs, T))
    (ho : o.op = .store t x y) (hx : evm fm x = some (.pointer (some ⟨g, n.toNat * d.size, none⟩))) (hy : evm fm y = some v) (ht : TI P t d.size bytes z agg) (hO : OwnS d T w I u e xs) (hn : idx xs n = some y0) (hd : d.rep w I v.cells.toList x0)
    (k : ∀ e' w', Hp c I (m.set i e') w' → Stp I w I w' → OwnS d T w' I u e' (upd xs n x0) → K undef w') : Ev P fm w o K := by
  subst he; exact ev_storeO hp hi ho hx hy ht hO hn hd k
/-- Two structs of one type, compared: eq: what the comparison yields. -/
structure EQ (P : Program) (t : TypeId) (xs ys : List Value) (r : Bool) : Prop where
  st : P.underlying t = some (.struct (P.fieldsOf t))
  ok : P.stoodInHeld t = false
  gd : P.eqGuardType P.depth t = false
  run : ∀ w : World, (Op.eqFields 9999 xs.toArray ys.toArray (P.fieldsOf t).toList).run P w = .ok r w
theorem rn_eqA {m : FM} {o : Oper} {t u : TypeId} {x y : Operand} {xs ys : List Value} {r : Bool} (ho : o.op = .binOp .eql t x y u) (hx : evm m x = some (.agg xs.toArray)) (hy : evm m y = some (.agg ys.toArray)) (h : EQ P t xs ys r) : Rn0 P m o (.bool r) := by
  intro w a N hf
  simp only [execOp, ho, hf.ev hx, hf.ev hy]
  rw [Sem.run_bind, Sem.run_bind, run_eqGuard_agg w _ _ _ _ _ _ h.gd, Result.andThen_ok, run_eql_struct w, run_equalIn_struct w 9999 t _ _ h.st h.ok, h.run w]
  rfl
theorem rn_neA {m : FM} {o : Oper} {t u : TypeId} {x y : Operand} {xs ys : List Value} {r : Bool} (ho : o.op = .binOp .neq t x y u) (hx : evm m x = some (.agg xs.toArray)) (hy : evm m y = some (.agg ys.toArray)) (h : EQ P t xs ys r) : Rn0 P m o (.bool (!r)) := by
  intro w a N hf
  simp only [execOp, ho, hf.ev hx, hf.ev hy]
  rw [Sem.run_bind, Sem.run_bind, run_eqGuard_agg w _ _ _ _ _ _ h.gd, Result.andThen_ok, run_neq_struct w, run_equalIn_struct w 9999 t _ _ h.st h.ok, h.run w]
  rfl
def fldK (f : Field) : Bool × Nat × TypeId := (f.name != "_", f.offset, f.type)
def EqL (P : Program) (d : List (Bool × Nat × TypeId)) (xs ys : List Value) (r : Bool) : Prop := ∀ fs : List Field, fs.map fldK = d → ∀ w : World, (Op.eqFields 9999 xs.toArray ys.toArray fs).run P w = .ok r w
theorem EqL.nil {xs ys : List Value} : EqL P [] xs ys true := by
  intro fs h w
  obtain rfl : fs = [] := by simpa using h
  simp [Op.eqFields]
theorem EqL.cons {d : List (Bool × Nat × TypeId)} {xs ys : List Value} {off : Nat} {t : TypeId} {bytes : Nat} {z : Value} {a b : Value} {r0 r : Bool} (hi : TI P t 1 bytes z false) (hx : xs[off]? = some a) (hy : ys[off]? = some b)
    (h0 : ∀ w : World, (Op.equalIn 9999 t a b).run P w = .ok r0 w) (h : EqL P d xs ys r) : EqL P ((true, off, t) :: d) xs ys (r0 && r) := by
  intro fs he w
  cases fs with
  | nil => simp at he
  | cons f fs =>
    simp only [List.map_cons, List.cons.injEq, fldK, Prod.mk.injEq] at he
    obtain ⟨⟨hn, hoff, ht⟩, hr⟩ := he
    subst hoff; subst ht
    have hn' : f.name ≠ "_" := by simpa using hn
    have hpart : ∀ (zs : List Value) (v : Value), zs[f.offset]? = some v → (part f.type zs.toArray f.offset).run P w = .ok v w := by
      intro zs v hv
      unfold part
      rw [Sem.run_bind, run_isAgg hi]
      simp [hv]
    simp only [Op.eqFields, ne_eq, hn', not_false_eq_true, if_true, Sem.run_bind, hpart xs a hx, hpart ys b hy, Result.andThen_ok, h0 w]
    cases r0
    · simp
    · simpa using h fs hr w
theorem EqL.int {d : List (Bool × Nat × TypeId)} {xs ys : List Value} {off : Nat} {t : TypeId} {bytes : Nat} {z : Value} {k k' : IntKind} {a b : Int} {r : Bool} (hi : TI P t 1 bytes z false) (hu : P.underlying t = some (.int k')) (hx : xs[off]? = some (.int k a)) (hy : ys[off]? = some (.int k b)) (h : EqL P d xs ys r) : EqL P ((true, off, t) :: d) xs ys ((a == b) && r) :=
  EqL.cons hi hx hy (fun w => run_equalIn_int w 9998 t k k' a b hu) h
theorem EqL.bool {d : List (Bool × Nat × TypeId)} {xs ys : List Value} {off : Nat} {t : TypeId} {bytes : Nat} {z : Value} {a b : Bool} {r : Bool} (hi : TI P t 1 bytes z false) (hu : P.underlying t = some .bool) (hx : xs[off]? = some (.bool a)) (hy : ys[off]? = some (.bool b)) (h : EqL P d xs ys r) : EqL P ((true, off, t) :: d) xs ys ((a == b) && r) :=
  EqL.cons hi hx hy (fun w => run_equalIn_bool' w 9998 t a b hu) h
/-- A variable that is only read from here on. -/
theorem ev_boxI {K : Value → World → Prop} {t : TypeId} {x : Operand} {cs : List Value} (hp : Hp c I m w) (ho : o.op = .box t x) (hx : evm fm x = some (.agg cs.toArray))
    (k : ∀ p I' w', Hp c I' m w' → Stp I w I' w' → At w' I' p cs → K (.pointer (some p)) w') : Ev P fm w o K := by
  refine ev_box hp ho hx fun g w' hq hs => ?_
  obtain ⟨h1, h2⟩ := freeze_hp hq (i := 0) rfl
  have h3 := h1.pick (fun i => i + 1) m (fun i e h => by simpa using h) (fun i j _ _ h => by omega)
  refine k _ _ _ h3 (hs.trans h2) ⟨.inr ⟨_, _, rfl⟩, fun j v hv => ?_⟩
  have := hq.cell (i := 0) (off := j) (v := v) rfl (by simpa [Value.cells] using hv)
  rw [add_lit]
  simpa using this
end
end Go.Proofs.Ytcdboppghnchpaa.Gw

namespace Go.Proofs.Ytcdboppghnchpaa.Gw
open Go Go.RowKit
open ChangeShapes

/- ### Arguments that can be read are data -/
/-- The blocks that there are. -/
def Bl (w : World) (g : Nat) : Prop := g < w.heap.size
theorem cell_block {w : World} {a : Addr} {v : Value} (h : w.cell? a = some v) : Bl w a.block := by
  unfold World.cell? at h
  split at h
  · rename_i e; exact lt_of_heap e
  · cases h
/-- What can be read of a type is data of a kind; inv: what is known of the data. -/
structure Rd (P : Program) (t : TypeId) {α : Type} (d : Desc α) (inv : α → Prop) : Prop where
  out : ∀ {H : Type} (enc : TypeId × Value → H) (w : World) (base : Nat) (sp : Nat → Bool) (held : Bool) (fuel : Nat) (cs : List Value) (x : DataW H × List MemPlace),
    DataW.trod enc P w base sp held fuel t cs = some x → ∃ y, d.rep w (Bl w) cs y ∧ inv y
theorem Rd.mono {P : Program} {t : TypeId} {α : Type} {d : Desc α} {inv inv' : α → Prop} (h : Rd P t d inv) (k : ∀ y, inv y → inv' y) : Rd P t d inv' :=
  ⟨fun enc w base sp held fuel cs x hx => let ⟨y, hr, hi⟩ := h.out enc w base sp held fuel cs x hx; ⟨y, hr, k y hi⟩⟩
def inK (k : IntKind) (n : Int) : Prop := k.min ≤ n ∧ n ≤ k.max
theorem Rd.int {P : Program} {t : TypeId} {k : IntKind} (ht : P.underlying t = some (.int k)) : Rd P t (dI k) (inK k) := by
  constructor
  intro H enc w base sp held fuel cs x hx
  obtain ⟨n, rfl, _, hw⟩ := DataW.trod_int ht hx
  simp only [Lit.wf, Bool.and_eq_true, decide_eq_true_eq] at hw
  exact ⟨n, rfl, hw⟩
theorem Rd.bool {P : Program} {t : TypeId} (ht : P.underlying t = some .bool) : Rd P t dB (fun _ => True) := by
  constructor
  intro H enc w base sp held fuel cs x hx
  obtain ⟨n, rfl, _⟩ := DataW.trod_bool ht hx
  exact ⟨n, rfl, trivial⟩
theorem Rd.string {P : Program} {t : TypeId} (ht : P.underlying t = some .string) : Rd P t dS (fun s => s.size ≤ maxLen) := by
  constructor
  intro H enc w base sp held fuel cs x hx
  obtain ⟨n, rfl, _, h⟩ := DataW.trod_string ht hx
  exact ⟨n, rfl, h⟩
theorem choose_list {α : Type} {n : Nat} {p : Nat → α → Prop} (h : ∀ i, i < n → ∃ y, p i y) : ∃ ys : List α, ys.length = n ∧ ∀ i y, ys[i]? = some y → p i y := by
  induction n with
  | zero => exact ⟨[], rfl, fun i y h => by simp at h⟩
  | succ n ih =>
    obtain ⟨ys, hl, hy⟩ := ih fun i hi => h i (by omega)
    obtain ⟨y, hp⟩ := h n (by omega)
    refine ⟨ys ++ [y], by simp [hl], fun i z hz => ?_⟩
    rcases Nat.lt_or_ge i n with hi | hi
    · rw [List.getElem?_append_left (by omega)] at hz; exact hy i z hz
    · rw [List.getElem?_append_right (by omega)] at hz
      have : i - ys.length = 0 := by
        rcases Nat.eq_zero_or_pos (i - ys.length) with h0 | h0
        · exact h0
        · rw [List.getElem?_eq_none (by simp; omega)] at hz; cases hz
      rw [this] at hz
      simp at hz
      obtain rfl : i = n := by omega
      exact hz ▸ hp
theorem Rd.slice {P : Program} {t e : TypeId} {α : Type} {d : Desc α} {inv : α → Prop} (ht : P.underlying t = some (.slice e)) (he : P.cellsOf e = d.size) (h0 : 0 < d.size) (h : Rd P e d inv) :
    Rd P t (dSl d) (fun xs => xs.length ≤ maxLen ∧ ∀ x ∈ xs, inv x) := by
  constructor
  intro H enc w base sp held fuel cs x hx
  rcases DataW.trod_slice ht hx with ⟨rfl, _⟩ | ⟨a, len, cap, elems, rest, n, _, rfl, _, hb, hl, hc, hlen, hel, _⟩
  · exact ⟨[], ⟨_, rfl, RepS.nil _ _ _⟩, by simp, by simp⟩
  have key : ∀ i, i < len → ∃ y, (∃ cs', d.rep w (Bl w) cs' y ∧ At w (Bl w) (a.add (i * d.size)) cs') ∧ inv y := by
    intro i hi
    have h1 := hel i hi
    have hi' : i < elems.length := by omega
    rw [List.getElem?_eq_getElem hi'] at h1
    obtain ⟨cs', hcs, htr⟩ := Option.bind_eq_some_iff.1 h1
    obtain ⟨y, hr, hi⟩ := h.out enc w base sp held n cs' _ htr
    obtain ⟨_, hlc, hcell⟩ := World.cells?_some hcs
    rw [he] at hcell hlc
    refine ⟨y, ⟨cs', hr, ?_, fun j v hv => ?_⟩, hi⟩
    · have := hcell 0 h0
      rw [List.getElem?_eq_getElem (by omega)] at this
      have := cell_block this
      rwa [add_block] at this
    · have hj : j < cs'.length := (List.getElem?_eq_some_iff.1 hv).1
      rw [hcell j (by omega)]; exact hv
  obtain ⟨ys, hyl, hy⟩ := choose_list key
  refine ⟨ys, ⟨_, rfl, some a, cap, by rw [hyl], by omega, fun hpos => ⟨a, rfl, ?_, fun i x hx => (hy i x hx).1⟩⟩, by simp only [maxLen] at hc ⊢; omega, fun x hx => ?_⟩
  · obtain ⟨cs', hr, ha⟩ := (hy 0 ys[0] (List.getElem?_eq_getElem hpos)).1
    have := ha.1
    rwa [add_block] at this
  · obtain ⟨i, hi, rfl⟩ := List.getElem_of_mem hx
    exact (hy i _ (List.getElem?_eq_getElem hi)).2
/-- Fields, one behind the other. -/
structure RdF (P : Program) (fl : List Field) (off : Nat) {α : Type} (d : Desc α) (inv : α → Prop) : Prop where
  out : ∀ {H : Type} (enc : TypeId × Value → H) (w : World) (base : Nat) (sp : Nat → Bool) (held : Bool) (fuel : Nat) (cs : List Value), cs.length = off + d.size →
    (∀ f ∈ fl, ∃ x, DataW.trod enc P w base sp held fuel f.type ((cs.drop f.offset).take (P.cellsOf f.type)) = some x) → ∃ y, d.rep w (Bl w) (cs.drop off) y ∧ inv y
theorem RdF.one {P : Program} {f : Field} {off : Nat} {α : Type} {d : Desc α} {inv : α → Prop} (ho : f.offset = off) (hc : P.cellsOf f.type = d.size) (h : Rd P f.type d inv) : RdF P [f] off d inv := by
  constructor
  intro H enc w base sp held fuel cs hl hf
  obtain ⟨x, hx⟩ := hf f (by simp)
  rw [ho, hc, List.take_of_length_le (by simp; omega)] at hx
  exact h.out enc w base sp held fuel _ x hx
theorem RdF.cons {P : Program} {f : Field} {fl : List Field} {off : Nat} {α β : Type} {d : Desc α} {d' : Desc β} {inv : α → Prop} {inv' : β → Prop} (ho : f.offset = off) (hc : P.cellsOf f.type = d.size) (h : Rd P f.type d inv)
    (k : RdF P fl (off + d.size) d' inv') : RdF P (f :: fl) off (dP d d') (fun x => inv x.1 ∧ inv' x.2) := by
  constructor
  intro H enc w base sp held fuel cs hl hf
  have hl' : cs.length = off + (d.size + d'.size) := hl
  obtain ⟨x, hx⟩ := hf f (by simp)
  rw [ho, hc] at hx
  obtain ⟨y, hy, hi⟩ := h.out enc w base sp held fuel _ x hx
  obtain ⟨z, hz, hj⟩ := k.out enc w base sp held fuel cs (by omega) (fun g hg => hf g (by simp [hg]))
  exact ⟨(y, z), ⟨_, _, by rw [← List.drop_drop, List.take_append_drop], hy, hz⟩, hi, hj⟩
theorem Rd.struct {P : Program} {t : TypeId} {fs : Array Field} {α : Type} {d : Desc α} {inv : α → Prop} (ht : P.underlying t = some (.struct fs)) (hc : P.cellsOf t = d.size) (h : RdF P fs.toList 0 d inv) : Rd P t d inv := by
  constructor
  intro H enc w base sp held fuel cs x hx
  obtain ⟨xs, n, _, _, hl, hlen, hf⟩ := DataW.trod_struct ht hx
  have := h.out enc w base sp held n cs (by omega) (fun f hfm => by
    obtain ⟨i, hi, rfl⟩ := List.getElem_of_mem hfm
    have hi' : i < fs.size := by simpa using hi
    have := hf i fs[i] (Array.getElem?_eq_getElem hi')
    rw [List.getElem?_eq_getElem (by omega)] at this
    exact ⟨_, this⟩)
  simpa using this
theorem Rd.view {P : Program} {t : TypeId} {α β : Type} {d : Desc α} {inv : α → Prop} {f : β → α} (g : α → β) (hg : ∀ a, f (g a) = a) (h : Rd P t d inv) : Rd P t (dV f d) (fun y => inv (f y)) := by
  constructor
  intro H enc w base sp held fuel cs x hx
  obtain ⟨y, hy, hi⟩ := h.out enc w base sp held fuel cs x hx
  exact ⟨g y, by show d.rep _ _ _ (f (g y)); rw [hg]; exact hy, by show inv (f (g y)); rw [hg]; exact hi⟩
/-- A value of a scalar type, or of a struct. -/
theorem Rd.val {P : Program} {t : TypeId} {α : Type} {d : Desc α} {inv : α → Prop} (h : Rd P t d inv) {H : Type} {enc : TypeId × Value → H} {w : World} {base : Nat} {sp : Nat → Bool} {held : Bool} {v : Value} {x : DataW H} {ps : List MemPlace}
    (hx : DataW.Trod enc P w base sp held t v x ps) : ∃ y, d.rep w (Bl w) v.cells.toList y ∧ inv y := by
  obtain ⟨fuel, hx⟩ := hx
  exact h.out enc w base sp held fuel _ _ hx
/-- Arguments behind a call that leaves all that was there. -/
def RowedB (P : Program) (t : TypeId) : Bool := P.readableRec t && decide (t < P.types.size)
theorem trodAll_below {H : Type} {enc : TypeId × Value → H} {P : Program} (hl : laidOutB P = true) {W W' : World} (hb : Below W.heap.size W W') : ∀ {ts : List TypeId} {vs : List Value} {ds : List (DataW H)} {ps : List MemPlace},
    ts.all (RowedB P) = true → (∀ x ∈ ps, x.block < W.heap.size) → DataW.TrodAll enc P W 0 (fun _ => true) true ts vs ds ps → DataW.TrodAll enc P W' 0 (fun b => decide (b < W.heap.size)) true ts vs ds ps
  | [], vs, ds, ps, _, _, h => by cases vs <;> cases ds <;> simp_all [DataW.TrodAll]
  | t :: ts, vs, ds, ps, hr, hlt, h => by
    obtain ⟨v, vs', d, ds', p, q, rfl, rfl, rfl, h0, r0⟩ := trodAll_cons h
    simp only [List.all_cons, Bool.and_eq_true, RowedB, decide_eq_true_eq] at hr
    exact trodAll_cons_mk (Below.trod hl hr.1.1 hr.1.2 h0 hb (fun x hx => hlt x (by simp [hx]))) (trodAll_below hl hb hr.2 (fun x hx => hlt x (by simp [hx])) r0)
/-- What a law leaves: true, and the arguments as they were. -/
theorem post_law {H : Type} {enc : TypeId × Value → H} {P : Program} {f : Func} {s : ChangeSpec} {W W' : World} {args : Array Value} {ds gs : List (DataW H)} {before : List MemPlace} {tb : TypeId} (hl : laidOutB P = true) (hr : f.params.toList.all (RowedB P) = true)
    (hW : DataW.Whole enc P f.params.toList s.vars false W args.toList ds gs before) (hv : s.vars = []) (hR : f.resultTypes = #[tb]) (hB : P.underlying tb = some .bool) (hs : s.fn H ds = { results := [.lit (.bool true)], args := ds })
    (hb : Ch [] W W') : s.post enc P f false true false false W args (.bool true) W' := by
  have hlt : ∀ x ∈ before, x.block < W.heap.size := fun x hx => hW.lt x hx
  have hW0 := hW
  obtain ⟨p, q, hA, hV, rfl, _, _⟩ := hW
  rw [hv] at hV
  obtain ⟨rfl, rfl⟩ := trodVars_none hV
  have hbel := hb.below
  refine ⟨ds, [], p ++ [], [], p, [], hW0, ?_, ?_, ?_, hbel.frame _, fun h => by cases h⟩
  · rw [List.append_nil, hs, hR]
    exact trodAll_cons_mk (shut_bool hB true) trodAll_mk0
  · rw [List.append_nil, hs]
    exact trodAll_below hl hbel hr (fun x hx => hlt x (by simp [hx])) hA
  · rw [List.append_nil, hs, hv]
    rfl
/- ### One argument -/
section
open WideShapes
variable {P : Program} {w : World} {t : TypeId} {v : Value} {r : Reach} {b0 : Nat} {H : Type} {enc : TypeId × Value → H} {base : Nat} {sp : Nat → Bool} {held : Bool} {d : DataW H} {ps : List MemPlace}
theorem arg_struct {α : Type} {D : Desc α} {fs : Array Field} {inv : α → Prop} (hR : Rd P t D inv) (ht : P.underlying t = some (.struct fs)) (hv : Value.okWide P w r b0 t v) (hd : DataW.Trod enc P w base sp held t v d ps) : ∃ cs y, v = .agg cs ∧ D.rep w (Bl w) cs.toList y ∧ inv y := by
  obtain ⟨y, hy, hi⟩ := hR.val hd
  obtain ⟨cs, rfl, _⟩ := okWide_struct ht hv
  exact ⟨cs, y, rfl, hy, hi⟩
theorem args_of {l : List Value} {args : Array Value} (h : args.toList = l) : args = l.toArray := by subst h; rfl
theorem agg_of {l : List Value} {cs : Array Value} (h : cs.toList = l) : cs = l.toArray := by subst h; rfl
theorem ret_calls {P : Program} {f : FuncId} {args : Array Value} {w : World} {R : Value → World → Prop} {Q : Ending → World → Prop} (h : Ret P f args w R) (k : ∀ v w', R v w' → Q (.returned v) w') : Calls P f args w Q :=
  Calls.mono h fun _ _ ⟨v, e, hr⟩ => by subst e; exact k v _ hr
end
end Go.Proofs.Ytcdboppghnchpaa.Gw

namespace Go.Proofs.Ytcdboppghnchpaa.Gw
open Go

/- ### From some fuel on -/
def Evt {α : Type} (f : Nat → Option α) (r : α) : Prop := ∃ N, ∀ n, N ≤ n → f n = some r
theorem Evt.get {α : Type} {f : Nat → Option α} {r : α} (h : Evt f r) : ∃ n, f n = some r := let ⟨N, h⟩ := h; ⟨N, h N (Nat.le_refl _)⟩
theorem Evt.pure {α : Type} (r : α) : Evt (fun _ => some r) r := ⟨0, fun _ _ => rfl⟩
theorem Evt.of {α : Type} {f : Nat → Option α} {r : α} (N : Nat) (h : ∀ n, f (n + N) = some r) : Evt f r := ⟨N, fun n hn => by have := h (n - N); rwa [Nat.sub_add_cancel hn] at this⟩
theorem Evt.congr {α : Type} {f : Nat → Option α} {r : α} (h : ∀ n, f n = some r) : Evt f r := ⟨0, fun n _ => h n⟩
theorem Evt.bind {α β : Type} {f : Nat → Option α} {a : α} {g : Nat → α → Option β} {b : β} (h : Evt f a) (k : Evt (fun n => g n a) b) : Evt (fun n => (f n).bind (g n)) b := by
  obtain ⟨N, h⟩ := h; obtain ⟨M, k⟩ := k
  exact ⟨max N M, fun n hn => by simp only [h n (by omega), Option.bind_some]; exact k n (by omega)⟩
theorem Evt.bind0 {α β : Type} {x : Option α} {a : α} {g : Nat → α → Option β} {b : β} (h : x = .some a) (k : Evt (fun n => g n a) b) : Evt (fun n => x.bind (g n)) b :=
  Evt.bind (f := fun _ => x) (h ▸ Evt.pure a) k
theorem Evt.cond {α : Type} {c : Bool} {f g : Nat → Option α} {r : α} (h : c = true → Evt f r) (k : c = false → Evt g r) : Evt (fun n => cond c (f n) (g n)) r := by
  cases c
  · exact k rfl
  · exact h rfl
theorem Evt.eq {α : Type} {f : Nat → Option α} {r r' : α} (h : Evt f r) (e : r = r') : Evt f r' := e ▸ h
/-- A loop, by a measure. -/
theorem Evt.loop {σ ρ : Type} {body : Nat → σ → Option (Out σ ρ)} (J : σ → ρ → Prop) (μ : σ → Nat)
    (step : ∀ s r, J s r → (∃ s', Evt (fun n => body n s) (.go s') ∧ J s' r ∧ μ s' < μ s) ∨ Evt (fun n => body n s) (.done r)) (s : σ) (r : ρ) (hs : J s r) : Evt (fun n => loopN (body n) n s) r := by
  have key : ∀ (k : Nat) (s : σ), μ s ≤ k → J s r → ∃ N, ∀ n, N ≤ n → ∀ m, N ≤ m → loopN (body n) m s = .some r := by
    intro k
    induction k with
    | zero =>
      intro s hm hj
      rcases step s r hj with ⟨s', _, _, hlt⟩ | ⟨N, h⟩
      · omega
      · refine ⟨N + 1, fun n hn m hm => ?_⟩
        obtain ⟨m, rfl⟩ : ∃ k, m = k + 1 := ⟨m - 1, by omega⟩
        simp [loopN, h n (by omega)]
    | succ k ih =>
      intro s hm hj
      rcases step s r hj with ⟨s', ⟨N, h⟩, hj', hlt⟩ | ⟨N, h⟩
      · obtain ⟨M, h'⟩ := ih s' (by omega) hj'
        refine ⟨max N M + 1, fun n hn m hm => ?_⟩
        obtain ⟨m, rfl⟩ : ∃ k, m = k + 1 := ⟨m - 1, by omega⟩
        simp only [loopN, h n (by omega), Option.bind_some]
        exact h' n (by omega) m (by omega)
      · refine ⟨N + 1, fun n hn m hm => ?_⟩
        obtain ⟨m, rfl⟩ : ∃ k, m = k + 1 := ⟨m - 1, by omega⟩
        simp [loopN, h n (by omega)]
  obtain ⟨N, h⟩ := key (μ s) s (Nat.le_refl _) hs
  exact ⟨N, fun n hn => h n hn n hn⟩
/-- A loop, by a measure; R: what the result is to the state. -/
theorem Evt.loopR {σ ρ : Type} {body : Nat → σ → Option (Out σ ρ)} (J : σ → Prop) (R : σ → ρ → Prop) (μ : σ → Nat)
    (step : ∀ s, J s → (∃ s', Evt (fun n => body n s) (.go s') ∧ J s' ∧ μ s' < μ s ∧ ∀ r, R s' r → R s r) ∨ ∃ r, Evt (fun n => body n s) (.done r) ∧ R s r) (s : σ) (hs : J s) : ∃ r, Evt (fun n => loopN (body n) n s) r ∧ R s r := by
  have ex : ∀ (k : Nat) (s : σ), μ s ≤ k → J s → ∃ r, R s r ∧ ∃ N, ∀ n, N ≤ n → ∀ m, N ≤ m → loopN (body n) m s = .some r := by
    intro k
    induction k with
    | zero =>
      intro s hm hj
      rcases step s hj with ⟨s', _, _, hlt, _⟩ | ⟨r, ⟨N, h⟩, hR⟩
      · omega
      · refine ⟨r, hR, N + 1, fun n hn m hm => ?_⟩
        obtain ⟨m, rfl⟩ : ∃ k, m = k + 1 := ⟨m - 1, by omega⟩
        simp [loopN, h n (by omega)]
    | succ k ih =>
      intro s hm hj
      rcases step s hj with ⟨s', ⟨N, h⟩, hj', hlt, hR⟩ | ⟨r, ⟨N, h⟩, hR⟩
      · obtain ⟨r, hr, M, h'⟩ := ih s' (by omega) hj'
        refine ⟨r, hR r hr, max N M + 1, fun n hn m hm => ?_⟩
        obtain ⟨m, rfl⟩ : ∃ k, m = k + 1 := ⟨m - 1, by omega⟩
        simp only [loopN, h n (by omega), Option.bind_some]
        exact h' n (by omega) m (by omega)
      · refine ⟨r, hR, N + 1, fun n hn m hm => ?_⟩
        obtain ⟨m, rfl⟩ : ∃ k, m = k + 1 := ⟨m - 1, by omega⟩
        simp [loopN, h n (by omega)]
  obtain ⟨r, hr, N, h⟩ := ex (μ s) s (Nat.le_refl _) hs
  exact ⟨r, ⟨N, fun n hn => h n hn n hn⟩, hr⟩
theorem Evt.succ {α : Type} {f : Nat → Option α} {r : α} (h : Evt (fun n => f (n + 1)) r) : Evt f r := by
  obtain ⟨N, h⟩ := h
  refine ⟨N + 1, fun n hn => ?_⟩
  obtain ⟨n, rfl⟩ : ∃ k, n = k + 1 := ⟨n - 1, by omega⟩
  exact h n (by omega)
theorem need_t {c : Bool} (h : c = true) : need c = Option.some () := by subst h; rfl

/- ### A result, from some fuel on, of which something holds -/
def Tot {α : Type} (f : Nat → Option α) (Q : α → Prop) : Prop := ∃ r, Evt f r ∧ Q r
namespace Tot
variable {α β : Type} {f g : Nat → Option α} {Q : α → Prop}
theorem evt {r : α} (h : Evt f r) (k : Q r) : Tot f Q := ⟨r, h, k⟩
theorem ret {r : α} (h : Q r) : Tot (fun _ => some r) Q := ⟨r, Evt.pure r, h⟩
theorem val {x : Option α} {r : α} (e : x = some r) (h : Q r) : Tot (fun _ => x) Q := ⟨r, e ▸ Evt.pure r, h⟩
theorem at_ {r : α} (e : ∀ n, f n = some r) (h : Q r) : Tot f Q := ⟨r, Evt.congr e, h⟩
theorem mono {Q' : α → Prop} (h : Tot f Q') (k : ∀ r, Q' r → Q r) : Tot f Q := let ⟨r, e, q⟩ := h; ⟨r, e, k r q⟩
theorem bind {h : Nat → α → Option β} {Q : β → Prop} (k : Tot f fun a => Tot (fun n => h n a) Q) : Tot (fun n => (f n).bind (h n)) Q :=
  let ⟨_, e, r, e', q⟩ := k; ⟨r, e.bind e', q⟩
theorem cond {c : Bool} (h : c = true → Tot f Q) (k : c = false → Tot g Q) : Tot (fun n => cond c (f n) (g n)) Q := by
  cases c
  · exact k rfl
  · exact h rfl
theorem condD {p : Prop} [Decidable p] (h : p → Tot f Q) (k : ¬ p → Tot g Q) : Tot (fun n => _root_.cond (decide p) (f n) (g n)) Q :=
  cond (fun e => h (of_decide_eq_true e)) (fun e => k (of_decide_eq_false e))
theorem condE {a b : Int} (h : a = b → Tot f Q) (k : a ≠ b → Tot g Q) : Tot (fun n => _root_.cond (a == b) (f n) (g n)) Q :=
  cond (fun e => h (by simpa using e)) (fun e => k (by simpa using e))
theorem need {p : Prop} [Decidable p] {h : Nat → Unit → Option β} {Q : β → Prop} (hp : p) (k : Tot (fun n => h n ()) Q) : Tot (fun n => (Gw.need (decide p)).bind (h n)) Q :=
  let ⟨r, e, q⟩ := k; ⟨r, Evt.bind0 (need_t (by simp [hp])) e, q⟩
theorem idx {xs : List α} {i : Int} {h : Nat → α → Option β} {Q : β → Prop} (h0 : 0 ≤ i) (hl : i < xs.length) (k : ∀ x, xs[i.toNat]? = some x → Tot (fun n => h n x) Q) : Tot (fun n => (Gw.idx xs i).bind (h n)) Q := by
  have hl' : i.toNat < xs.length := by omega
  have e : Gw.idx xs i = some xs[i.toNat] := by unfold Gw.idx; rw [if_pos h0]; exact List.getElem?_eq_getElem hl'
  obtain ⟨r, e', q⟩ := k xs[i.toNat] (List.getElem?_eq_getElem hl')
  exact ⟨r, Evt.bind0 e e', q⟩
theorem idxv {xs : List α} {i : Int} {x : α} {h : Nat → α → Option β} {Q : β → Prop} (e : Gw.idx xs i = some x) (k : Tot (fun n => h n x) Q) : Tot (fun n => (Gw.idx xs i).bind (h n)) Q :=
  let ⟨r, e', q⟩ := k; ⟨r, Evt.bind0 e e', q⟩
theorem app {xs ys : List α} {h : Nat → List α → Option β} {Q : β → Prop} (hl : xs.length + ys.length ≤ 1099511627776) (k : Tot (fun n => h n (xs ++ ys)) Q) : Tot (fun n => (Gw.app xs ys).bind (h n)) Q :=
  let ⟨r, e, q⟩ := k; ⟨r, Evt.bind0 (by unfold Gw.app; rw [if_pos hl]) e, q⟩
theorem of_eq {r : α} (h : Tot f (· = r)) : Evt f r := by obtain ⟨_, e, rfl⟩ := h; exact e
theorem congr {f' : Nat → Option α} (h : Tot f' Q) (e : ∀ n, f n = f' n) : Tot f Q := let ⟨r, ⟨N, h⟩, q⟩ := h; ⟨r, ⟨N, fun n hn => (e n).trans (h n hn)⟩, q⟩
theorem succ (h : Tot (fun n => f (n + 1)) Q) : Tot f Q := let ⟨r, e, q⟩ := h; ⟨r, e.succ, q⟩
/-- A loop: J holds of each state, and the measure falls. -/
theorem loop {σ ρ : Type} {body : Nat → σ → Option (Out σ ρ)} {Q : ρ → Prop} (J : σ → Prop) (μ : σ → Nat) {s : σ} (hs : J s)
    (step : ∀ s, J s → Tot (fun n => body n s) fun o => match o with | .go s' => J s' ∧ μ s' < μ s | .done r => Q r) : Tot (fun n => loopN (body n) n s) Q := by
  obtain ⟨r, e, q⟩ := Evt.loopR (body := body) J (fun _ r => Q r) μ (fun s hj => by
    obtain ⟨o, e, q⟩ := step s hj
    cases o with
    | go s' => exact .inl ⟨s', e, q.1, q.2, fun _ h => h⟩
    | done r => exact .inr ⟨r, e, q⟩) s hs
  exact ⟨r, e, q⟩
/-- A loop without fuel in its body. -/
theorem loop0 {σ ρ : Type} {body : σ → Option (Out σ ρ)} {Q : ρ → Prop} (J : σ → Prop) (μ : σ → Nat) {s : σ} (hs : J s)
    (step : ∀ s, J s → Tot (fun _ => body s) fun o => match o with | .go s' => J s' ∧ μ s' < μ s | .done r => Q r) : Tot (fun n => loopN body n s) Q :=
  loop (body := fun _ => body) J μ hs step
/-- What follows a part that may leave. -/
theorem out {σ ρ : Type} {o : Out σ ρ} {h : Nat → σ → Option β} {d : Nat → ρ → Option β} {Q : β → Prop} (k : match o with | .go s => Tot (fun n => h n s) Q | .done r => Tot (fun n => d n r) Q) :
    Tot (fun n => match o with | .go s => h n s | .done r => d n r) Q := by cases o <;> exact k
end Tot

/- ### Words -/
theorem wrap64 {x : Int} (h : -9223372036854775808 ≤ x ∧ x < 9223372036854775808) : IntKind.i64.wrap x = x := by
  simp [IntKind.wrap, IntKind.signed, IntKind.bits]; omega
theorem w64 {x : Int} (h1 : -9223372036854775808 ≤ x) (h2 : x < 9223372036854775808) : IntKind.i64.wrap x = x := wrap64 ⟨h1, h2⟩
theorem wu64 {x : Int} (h1 : 0 ≤ x) (h2 : x < 18446744073709551616) : IntKind.u64.wrap x = x := by
  simp [IntKind.wrap, IntKind.signed, IntKind.bits]; omega
theorem idx_nat {α : Type} (xs : List α) (i : Nat) : idx xs (i : Int) = xs[i]? := by simp [idx]
end Go.Proofs.Ytcdboppghnchpaa.Gw

namespace Go.Proofs.Ytcdboppghnchpaa.Gw
open Go Go.RowKit
set_option linter.unusedVariables false

/- ### Arrays -/
theorem elems_one {α : Type} {d : Desc α} {w : World} {I : Nat → Prop} {cs : List Value} {xs : List α} (hl : cs.length = xs.length * d.size) (h : Elems d w I cs xs) : ∀ v ∈ cs, v.oneCell' = true := by
  intro v hv
  obtain ⟨j, hj, rfl⟩ := List.getElem_of_mem hv
  rcases Nat.eq_zero_or_pos d.size with h0 | h0
  · rw [h0, Nat.mul_zero] at hl; omega
  have hi : j / d.size < xs.length := Nat.div_lt_of_lt_mul (by rw [Nat.mul_comm]; omega)
  have hr := h (j / d.size) _ (List.getElem?_eq_getElem hi)
  refine d.one hr _ (List.mem_of_getElem? (i := j % d.size) ?_)
  rw [List.getElem?_take, if_pos (Nat.mod_lt _ h0), List.getElem?_drop]
  have : j / d.size * d.size + j % d.size = j := by rw [Nat.mul_comm]; exact Nat.div_add_mod _ _
  rw [this]; exact List.getElem?_eq_getElem hj
/-- n elements, one behind the other. -/
def dA {α : Type} (n : Nat) (d : Desc α) : Desc (List α) where
  size := n * d.size
  rep := fun w I cs xs => xs.length = n ∧ cs.length = n * d.size ∧ Elems d w I cs xs
  step := fun ⟨h1, h2, h3⟩ k => ⟨h1, h2, fun i x hx => d.step (h3 i x hx) k⟩
  len := fun h => h.2.1
  one := fun h => elems_one (h.1 ▸ h.2.1) h.2.2
/-- An array of zeros. -/
theorem rep_zero {α : Type} {d : Desc α} {w : World} {I : Nat → Prop} {l : List Value} {x : α} (n : Nat) (h : d.rep w I l x) : (dA n d).rep w I (zrow n l) (List.replicate n x) := by
  have hl := d.len h
  refine ⟨by simp, by rw [zrow_length, hl], ?_⟩
  induction n with
  | zero => intro i y hy; simp at hy
  | succ n ih => rw [List.replicate_succ]; exact Elems.cons h ih
theorem Desc.rep.step {α : Type} {d : Desc α} {w w' : World} {I I' : Nat → Prop} {cs : List Value} {x : α} (h : d.rep w I cs x) (k : Stp I w I' w') : d.rep w' I' cs x := d.step h k
/-- At off among cs lies x. -/
def SubA {α : Type} (d : Desc α) (w : World) (I : Nat → Prop) (cs : List Value) (off : Nat) (x : α) : Prop := off + d.size ≤ cs.length ∧ d.rep w I ((cs.drop off).take d.size) x
theorem SubA.step {α : Type} {d : Desc α} {w w' : World} {I I' : Nat → Prop} {cs : List Value} {off : Nat} {x : α} (h : SubA d w I cs off x) (k : Stp I w I' w') : SubA d w' I' cs off x := ⟨h.1, d.step h.2 k⟩
theorem SubA.top {α : Type} {d : Desc α} {w : World} {I : Nat → Prop} {cs : List Value} {x : α} (h : d.rep w I cs x) : SubA d w I cs 0 x := by
  have hl := d.len h
  exact ⟨by omega, by rw [List.drop_zero, List.take_of_length_le (by omega)]; exact h⟩
theorem SubA.el {α : Type} {d : Desc α} {w : World} {I : Nat → Prop} {cs : List Value} {off N : Nat} {xs : List α} {n : Int} {y : α} (h : SubA (dA N d) w I cs off xs) (hy : idx xs n = some y) : SubA d w I cs (off + n.toNat * d.size) y := by
  obtain ⟨h0, hl, hg⟩ := idx_some hy
  obtain ⟨h1, h2, h3, h4⟩ := h
  have h1 : off + N * d.size ≤ cs.length := h1
  have hle : (n.toNat + 1) * d.size ≤ N * d.size := Nat.mul_le_mul_right _ (by omega)
  rw [Nat.succ_mul] at hle
  refine ⟨by omega, ?_⟩
  have h5 : d.rep w I ((((cs.drop off).take (N * d.size)).drop (n.toNat * d.size)).take d.size) y := h4 _ _ hg
  rw [List.drop_take, List.take_take, List.drop_drop, Nat.min_eq_left (by omega)] at h5
  exact h5
theorem SubA.at_ {α : Type} {d : Desc α} {w : World} {I : Nat → Prop} {cs : List Value} {off : Nat} {x : α} (h : SubA d w I cs off x) {l : List Value} (e : (cs.drop off).take d.size = l) {j : Nat} {v : Value} (hj : l[j]? = some v) : cs[off + j]? = some v := drop_take_get (e ▸ hj)
theorem SubA.int {k : IntKind} {w : World} {I : Nat → Prop} {cs : List Value} {off : Nat} {x : Int} (h : SubA (dI k) w I cs off x) : cs[off]? = some (.int k x) := h.at_ (l := [.int k x]) h.2 (j := 0) rfl
theorem SubA.bool {w : World} {I : Nat → Prop} {cs : List Value} {off : Nat} {x : Bool} (h : SubA dB w I cs off x) : cs[off]? = some (.bool x) := h.at_ (l := [.bool x]) h.2 (j := 0) rfl
/-- The same but for a part. -/
def Same (cs cs' : List Value) (a b : Nat) : Prop := cs'.length = cs.length ∧ ∀ j, j < a ∨ b ≤ j → cs'[j]? = cs[j]?
/-- cs' is cs with y at off, and the same elsewhere. -/
def PutA {α : Type} (d : Desc α) (w : World) (I : Nat → Prop) (cs cs' : List Value) (off : Nat) (y : α) : Prop := SubA d w I cs' off y ∧ Same cs cs' off (off + d.size)
theorem PutA.rep {α : Type} {d : Desc α} {w : World} {I : Nat → Prop} {cs cs' : List Value} {y : α} (hl : cs.length = d.size) (p : PutA d w I cs cs' 0 y) : d.rep w I cs' y := by
  have := p.1.2
  rwa [List.drop_zero, List.take_of_length_le (by rw [p.2.1]; omega)] at this
section
variable {P : Program} {c : Cx} {I : Nat → Prop} {m : List Ent} {w : World} {fm : FM} {o : Oper}
/-- An element of one cell of an array that is a value. -/
theorem rn_indexV {α : Type} {d : Desc α} {t e N : Nat} {x i : Operand} {k : IntKind} {n : Int} {bytes : Nat} {z u : Value} {cs : List Value} {xs : List α} {y : α}
    (ho : o.op = .index t x i) (hx : evm fm x = some (.agg cs.toArray)) (hi : evm fm i = some (.int k n)) (ht : P.underlying t = some (.array N e)) (he : TI P e d.size bytes z false) (h : (dA N d).rep w I cs xs) (hy : idx xs n = some y)
    (h1 : d.size = 1) (hu : ∀ {l}, d.rep w I l y → l = [u]) : Rn0 P fm o u := by
  obtain ⟨h0, hl, hg⟩ := idx_some hy
  have hN : xs.length = N := h.1
  have hc : cs[n.toNat * 1]? = some u := by
    have hr := h.2.2 _ _ hg
    have := hu hr
    have h5 := drop_take_get (j := 0) (v := u) (by rw [this]; rfl)
    rwa [h1, Nat.add_zero] at h5
  intro w' a N' hf
  have hl' : n < (N : Int) := by omega
  simp only [Nat.mul_one] at hc
  rw [h1] at he
  have hc' : cs[n.toNat]? = some u := hc
  simp [execOp, ho, hf.ev hx, hf.ev hi, Instr.index, asIntOf, run_underlying ht, h0, hl', run_sizeOf he, part, run_isAgg he, hc']
/-- A new variable that holds zeros. -/
theorem ev_allocA {α : Type} {d : Desc α} {x0 : α} {K : Value → World → Prop} {t : TypeId} {size bytes : Nat} {cs0 : List Value} {agg : Bool} (hp : Hp c I m w) (ho : o.op = .alloc t) (ht : TI P t size bytes (.agg cs0.toArray) agg) (hz : ∀ w I, d.rep w I cs0 x0)
    (k : ∀ g cs w', Hp c I (some (g, cs, t) :: m) w' → Stp I w I w' → d.rep w' I cs x0 → K (.pointer (some ⟨g, 0, none⟩)) w') : Ev P fm w o K :=
  ev_alloc hp ho ht fun g w' hq hs => k g cs0 w' hq hs (hz _ _)
theorem setL_all (cs vs : List Value) (h : vs.length = cs.length) : setL cs 0 vs = vs := by
  apply List.ext_getElem?
  intro j
  rw [setL_get _ _ _ _ (by omega)]
  split
  · rfl
  · rw [List.getElem?_eq_none (by omega), List.getElem?_eq_none (by omega)]
/-- A store of a whole array. -/
theorem ev_storeW {α : Type} {d : Desc α} {x0 x1 : α} {K : Value → World → Prop} {t : TypeId} {x y : Operand} {size bytes : Nat} {z : Value} {agg : Bool} {i g : Nat} {cs vs : List Value} {T : TypeId} (hp : Hp c I m w) (hi : m[i]? = some (some (g, cs, T)))
    (ho : o.op = .store t x y) (hx : evm fm x = some (.pointer (some ⟨g, 0, none⟩))) (hy : evm fm y = some (.agg vs.toArray)) (ht : TI P t size bytes z agg) (hsz : d.size = size) (hr : d.rep w I cs x0) (hv : d.rep w I vs x1)
    (k : ∀ w', Hp c I (m.set i (some (g, vs, T))) w' → Stp I w I w' → d.rep w' I vs x1 → K undef w') : Ev P fm w o K := by
  have l0 := d.len hr
  have l1 := d.len hv
  refine ev_store hp hi ho hx hy ht (by simpa [Value.cells] using l1.trans hsz) (by omega) (by simpa [Value.cells] using d.one hv) (fun w' hq hs => k w' ?_ hs (d.step hv hs))
  simp only [Value.cells] at hq
  rw [setL_all cs vs (by omega)] at hq
  exact hq
end
/-- What can be read of an array. -/
theorem Rd.array {P : Program} {t e n : Nat} {α : Type} {d : Desc α} {inv : α → Prop} (ht : P.underlying t = some (.array n e)) (he : P.cellsOf e = d.size) (hc : P.cellsOf t = n * d.size) (h : Rd P e d inv) : Rd P t (dA n d) (fun xs => xs.length = n ∧ ∀ x ∈ xs, inv x) := by
  constructor
  intro H enc w base sp held fuel cs x hx
  obtain ⟨xs, m, _, _, hl, hlen, hf⟩ := DataW.trod_array ht hx
  have key : ∀ i, i < n → ∃ y, d.rep w (Bl w) ((cs.drop (i * d.size)).take d.size) y ∧ inv y := by
    intro i hi
    have h1 := hf i hi
    rw [List.getElem?_eq_getElem (by omega), he] at h1
    exact h.out enc w base sp held m _ _ h1
  obtain ⟨ys, hyl, hy⟩ := choose_list key
  exact ⟨ys, ⟨hyl, by rw [hl, hc], fun i x hx => (hy i x hx).1⟩, hyl, fun x hx => by
    obtain ⟨i, hi, rfl⟩ := List.getElem_of_mem hx
    exact (hy i _ (List.getElem?_eq_getElem hi)).2⟩
end Go.Proofs.Ytcdboppghnchpaa.Gw

namespace Go.Proofs.Ytcdboppghnchpaa.Gw
open Go Go.RowKit
section
variable {P : Program} {c : Cx} {I : Nat → Prop} {m : List Ent} {w : World} {fm : FM} {o : Oper}
/- ### Own slices that begin anywhere in their row -/
def OwnQ {α : Type} (d : Desc α) (T : TypeId) (w : World) (I : Nat → Prop) (v : Value) (e : Ent) (xs : List α) : Prop :=
  (v = .slice none 0 0 ∧ e = none ∧ xs = []) ∨
  ∃ g cs n s, v = .slice (some ⟨g, s * d.size, none⟩) xs.length n ∧ e = some (g, cs, T) ∧ xs.length ≤ n ∧ n ≤ maxLen ∧ (s + n) * d.size ≤ cs.length ∧ Elems d w I (cs.drop (s * d.size)) xs
theorem OwnQ.nil {α : Type} (d : Desc α) (T : TypeId) (w : World) (I : Nat → Prop) : OwnQ d T w I (.slice none 0 0) none [] := .inl ⟨rfl, rfl, rfl⟩
theorem OwnS.q {α : Type} {d : Desc α} {T : TypeId} {v : Value} {e : Ent} {xs : List α} (h : OwnS d T w I v e xs) : OwnQ d T w I v e xs := by
  rcases h with h | ⟨g, cs, n, h1, h2, h3, h4, h5, h7⟩
  · exact .inl h
  · exact .inr ⟨g, cs, n, 0, by rw [h1, Nat.zero_mul], h2, h3, h4, by rw [Nat.zero_add, h5]; exact Nat.le_refl _, by rw [Nat.zero_mul, List.drop_zero]; exact h7⟩
theorem OwnQ.step {α : Type} {d : Desc α} {T : TypeId} {w w' : World} {I I' : Nat → Prop} {v : Value} {e : Ent} {xs : List α} (h : OwnQ d T w I v e xs) (k : Stp I w I' w') : OwnQ d T w' I' v e xs := by
  rcases h with h | ⟨g, cs, n, s, h1, h2, h3, h4, h5, h7⟩
  · exact .inl h
  · exact .inr ⟨g, cs, n, s, h1, h2, h3, h4, h5, fun i x hx => d.step (h7 i x hx) k⟩
theorem OwnQ.reads {α : Type} {d : Desc α} {T : TypeId} {v : Value} {e : Ent} {xs : List α} {i : Nat} (h : OwnQ d T w I v e xs) (hp : Hp c I m w) (hi : m[i]? = some e) {J : Nat → Prop} (hJ : ∀ g, Ad I e g → J g) : RepS d w J v xs := by
  rcases h with ⟨rfl, rfl, rfl⟩ | ⟨g, cs, n, s, rfl, rfl, h3, h4, h5, h7⟩
  · exact RepS.nil d w J
  · refine ⟨some ⟨g, s * d.size, none⟩, n, rfl, h3, fun _ => ⟨_, rfl, hJ g (.inr ⟨cs, T, rfl⟩), fun j x hx => ⟨_, d.step (h7 j x hx) (fun k hk => ⟨hJ k (.inl hk), rfl⟩), ?_, fun k v hv => ?_⟩⟩⟩
    · rw [add_block]; exact hJ g (.inr ⟨cs, T, rfl⟩)
    · rw [add_add, add_lit]
      have := drop_take_get hv
      rw [List.getElem?_drop] at this
      rw [show s * d.size + (j * d.size + k) = s * d.size + (j * d.size + k) from rfl]
      exact hp.cell hi this
theorem OwnQ.frz {α : Type} {d : Desc α} {T : TypeId} {v : Value} {e : Ent} {xs : List α} {i : Nat} (h : OwnQ d T w I v e xs) (hp : Hp c I m w) (hi : m[i]? = some e) : RepS d w (Ad I e) v xs := h.reads hp hi fun _ h => h
theorem OwnQ.one {α : Type} {d : Desc α} {T : TypeId} {v : Value} {e : Ent} {xs : List α} (h : OwnQ d T w I v e xs) : v.oneCell' = true := by
  rcases h with ⟨rfl, _⟩ | ⟨g, cs, n, s, rfl, _⟩ <;> rfl
/-- What a slice expression computes. -/
theorem rn_sliceV {t T : TypeId} {x : Operand} {lo hi : Option Operand} {A : Option Addr} {len n size : Nat} {kl kh : IntKind} {l h : Int} {bytes : Nat} {z : Value} {agg : Bool}
    (ho : o.op = .slice t x lo hi none) (hx : evm fm x = some (.slice A len n)) (hn : len ≤ n) (hlo : evo fm lo (.int kl 0) = some (.int kl l)) (hhi : evo fm hi (.int kh len) = some (.int kh h)) (ht : P.underlying t = some (.slice T)) (he : TI P T size bytes z agg)
    (h0 : 0 ≤ l) (h1 : l ≤ h) (h2 : h ≤ len) : Rn0 P fm o (.slice (if n = l.toNat then A else A.map (·.add (l.toNat * size))) (h.toNat - l.toNat) (n - l.toNat)) := by
  intro w' a N hf
  have hB : (Instr.sliceBounds true len n (lo.map a.eval) (hi.map a.eval) none).run P w' = .ok (l.toNat, h.toNat, n) w' := by
    cases lo with
    | none =>
      simp only [evo, Option.some.injEq, Value.int.injEq] at hlo
      obtain ⟨_, rfl⟩ := hlo
      cases hi with
      | none =>
        simp only [evo, Option.some.injEq, Value.int.injEq] at hhi
        obtain ⟨_, rfl⟩ := hhi
        simp [Instr.sliceBounds]
      | some hi =>
        simp only [evo] at hhi
        simp only [Instr.sliceBounds, Option.map_some, Option.map_none, hf.ev hhi, Sem.run_bind, Sem.run_pure, Result.andThen_ok, if_true, run_sliceBound (show 0 ≤ h ∧ h ≤ (n : Int) by omega)]
        rfl
    | some lo =>
      simp only [evo] at hlo
      cases hi with
      | none =>
        simp only [evo, Option.some.injEq, Value.int.injEq] at hhi
        obtain ⟨_, rfl⟩ := hhi
        simp only [Instr.sliceBounds, Option.map_some, Option.map_none, hf.ev hlo, Sem.run_bind, Sem.run_pure, Result.andThen_ok, Option.isSome_none, Bool.false_eq_true, if_false, run_sliceBound (show 0 ≤ l ∧ l ≤ (len : Int) by omega)]
        simp
      | some hi =>
        simp only [evo] at hhi
        simp only [Instr.sliceBounds, Option.map_some, hf.ev hlo, hf.ev hhi, Sem.run_bind, Sem.run_pure, Result.andThen_ok, Option.isSome_none, Bool.false_eq_true, if_false, if_true, run_sliceBound (show 0 ≤ h ∧ h ≤ (n : Int) by omega), run_sliceBound (show 0 ≤ l ∧ l ≤ (h.toNat : Int) by omega)]
  have : (Instr.sliceAt t (.slice A len n) (lo.map a.eval) (hi.map a.eval) none).run P w' = .ok (.slice (if n = l.toNat then A else A.map (·.add (l.toNat * size))) (h.toNat - l.toNat) (n - l.toNat)) w' := by
    simp only [Instr.sliceAt, Sem.run_bind, run_underlying ht, Result.andThen_ok, Instr.slice, hB, run_sizeOf he, Sem.run_pure]
  simp [execOp, ho, hf.ev hx, this]
/- ### Rows that a region leaves alone -/
def OwnK (l : List (Nat × List Value × TypeId)) (w : World) : Prop := ∀ e ∈ l, w.heap[e.1]? = some (.cells e.2.1.toArray e.2.2 (0, 0))
theorem OwnK.nil {w : World} : OwnK [] w := fun e h => by cases h
theorem OwnK.cons {g : Nat} {cs : List Value} {t : TypeId} {l : List (Nat × List Value × TypeId)} (h : w.heap[g]? = some (.cells cs.toArray t (0, 0))) (k : OwnK l w) : OwnK ((g, cs, t) :: l) w := fun e he => by
  rcases List.mem_cons.1 he with rfl | he
  · exact h
  · exact k e he
theorem OwnK.cell {l : List (Nat × List Value × TypeId)} (h : OwnK l w) {i g : Nat} {cs : List Value} {t : TypeId} (hi : l[i]? = some (g, cs, t)) {off : Nat} {v : Value} (hv : cs[off]? = some v) : w.cell? ⟨g, off, none⟩ = some v := by
  rw [cell_of_row w g off cs.toArray t (0, 0) (h _ (List.mem_of_getElem? hi))]
  simpa using hv
theorem OwnK.at_ {l : List (Nat × List Value × TypeId)} (h : OwnK l w) {i g : Nat} {cs : List Value} {t : TypeId} (hi : l[i]? = some (g, cs, t)) : At w (fun k => k = g) ⟨g, 0, none⟩ cs :=
  ⟨rfl, fun j v hv => by rw [add_lit, Nat.zero_add]; exact h.cell hi hv⟩
end
end Go.Proofs.Ytcdboppghnchpaa.Gw

namespace Go.Proofs.Ytcdboppghnchpaa.Gw
open Go Go.RowKit

/- ### Regions that draw their order: what is known of the world may hang on what has come up -/
section
variable {P : Program} {ops : Array Oper} {Q : Exit → Act → World → Prop} {md : Region.Mode} {S : Array Bool → World → Prop}
def AnyG (P : Program) (md : Region.Mode) (ops : Array Oper) (Q : Exit → Act → World → Prop) (S : Array Bool → World → Prop) : Nat → Array Bool → Act → World → Prop
  | 0, L, a, w => Region.ready md ops L = [] ∧ Q .normal a w
  | fuel + 1, L, a, w => (Region.ready md ops L = [] → Q .normal a w) ∧
    ∀ i ∈ Region.ready md ops L, wpOp P ops Q i (fun a' w' => S (L.setIfInBounds i true) w' ∧ AnyG P md ops Q S fuel (L.setIfInBounds i true) a' w') a w
theorem any_of_G : ∀ (fuel : Nat) (L : Array Bool) (a : Act) (w : World), AnyG P md ops Q S fuel L a w → wpAny P md ops Q fuel L a w
  | 0, _, _, _, h => h
  | fuel + 1, _, _, _, h => ⟨h.1, fun i hi => wpOp_mono (fun a' w' h' => any_of_G fuel _ a' w' h'.2) (h.2 i hi)⟩
theorem AnyG.mono {S' : Array Bool → World → Prop} (k : ∀ L x, S' L x → S L x) : ∀ (fuel : Nat) (L : Array Bool) (a : Act) (w : World), AnyG P md ops Q S' fuel L a w → AnyG P md ops Q S fuel L a w
  | 0, _, _, _, h => h
  | fuel + 1, _, _, _, h => ⟨h.1, fun i hi => wpOp_mono (fun a' w' h' => ⟨k _ _ h'.1, AnyG.mono k fuel _ a' w' h'.2⟩) (h.2 i hi)⟩
/-- Nobody that waits for i has come up. -/
def DepU (md : Region.Mode) (ops : Array Oper) (L : Array Bool) (i : Nat) : Prop := ∀ k ok, ops[k]? = some ok → (∃ e ∈ ok.after, Region.binds md e = true ∧ e.on = i) → L.getD k true = false
def S0 (md : Region.Mode) (ops : Array Oper) (S : Array Bool → World → Prop) (i : Nat) (w : World) : Prop := ∃ L, DepU md ops L i ∧ S L w
theorem AnyG.first {i : Nat} {oi : Oper} {v : Value} (hi : ops[i]? = some oi) (hsel : ∀ (j : Nat) (o : Oper) cs b, ops[j]? = some o → o.op ≠ .select cs b)
    (hQ : ∀ c a w, Q (.panic c) (a.put oi.dst v) w → Q (.panic c) a w) (hq : ∀ L w, S (L.setIfInBounds i true) w ↔ S L w) :
    ∀ (fuel : Nat) (L : Array Bool) (a : Act) (w : World),
      (∀ j oj, ops[j]? = some oj → j ≠ i → L.getD j true = false → (∀ e ∈ oj.after, Region.binds md e = true → e.on ≠ i) → oi.apart ops oj = true) →
      DepU md ops L i → i ∈ Region.ready md ops L → YieldsIf P ops (S0 md ops S i) oi v a → S L w →
      AnyG P md ops Q S fuel (L.setIfInBounds i true) (a.put oi.dst v) w → AnyG P md ops Q S (fuel + 1) L a w := by
  intro fuel
  induction fuel with
  | zero =>
    intro L a w _ hdep hr hy hS H
    refine ⟨fun h => (by rw [h] at hr; cases hr), fun j hj => ?_⟩
    by_cases hji : j = i
    · subst hji; exact hy.wpOp hi ⟨L, hdep, hS⟩ ⟨(hq L w).2 hS, H⟩
    · have := ready_mono hj hji
      rw [H.1] at this
      cases this
  | succ fuel ih =>
    intro L a w hfree hdep hr hy hS H
    refine ⟨fun h => (by rw [h] at hr; cases hr), fun j hj => ?_⟩
    by_cases hji : j = i
    · subst hji; exact hy.wpOp hi ⟨L, hdep, hS⟩ ⟨(hq L w).2 hS, H⟩
    · have h1 := H.2 j (ready_mono hj hji)
      obtain ⟨hjun, oj, hoj, hall⟩ := mem_ready.1 hj
      have hnot : ∀ e ∈ oj.after, Region.binds md e = true → e.on ≠ i := fun e he hb heq => by
        have h1 := hall e he hb
        have h0 := (mem_ready.1 hr).1
        rw [heq] at h1
        rcases Nat.lt_or_ge i L.size with h' | h'
        · simp [h'] at h0 h1; rw [h0] at h1; cases h1
        · simp [Array.getElem?_eq_none h'] at h1
      have h2 := wpOp_putIf hoj (hfree j oj hoj hji hjun hnot) (fun cs b => hsel i oi cs b hi) (fun cs b => hsel j oj cs b hoj) hQ hy h1
      have hfree' : ∀ k ok, ops[k]? = some ok → k ≠ i → (L.setIfInBounds j true).getD k true = false →
          (∀ e ∈ ok.after, Region.binds md e = true → e.on ≠ i) → oi.apart ops ok = true := fun k ok hk hki hun hno => by
        refine hfree k ok hk hki ?_ hno
        by_cases hjk : j = k
        · subst hjk; exact hjun
        · rw [getD_set_ne true hjk] at hun; exact hun
      have hdep' : DepU md ops (L.setIfInBounds j true) i := fun k ok hk hd => by
        have hkj : j ≠ k := by
          rintro rfl
          rw [hoj] at hk; obtain rfl := Option.some.inj hk
          obtain ⟨e, he, hb, hon⟩ := hd
          exact hnot e he hb hon
        rw [getD_set_ne true hkj]; exact hdep k ok hk hd
      refine wpOp_mono (fun a' w' h3 => ?_) h2
      have h4 := h3.2.1
      have h5 := h3.2.2
      rw [Array.setIfInBounds_comm _ _ (Ne.symm hji)] at h5
      have h6 : S (L.setIfInBounds j true) w' := by
        rw [Array.setIfInBounds_comm _ _ (Ne.symm hji)] at h4
        exact (hq _ _).1 h4
      exact ⟨h6, ih (L.setIfInBounds j true) a' w' hfree' hdep' (ready_mono hr (Ne.symm hji)) h3.1 h6 h5⟩
end
/-- The ways through a region: i first (it only reads) · i, or one of the others, comes up. -/
inductive Sch
  | done
  | q (i : Nat) (r : Sch)
  | l (i : Nat) (r alt : Sch)
  | no
def Sch.heads : Sch → List Nat
  | .l i _ alt => i :: alt.heads
  | _ => []
def Sch.deep : Sch → Nat
  | .done => 0
  | .q _ r => r.deep + 1
  | .l _ r alt => max (r.deep + 1) alt.deep
  | .no => 0
def depB (ops : Array Oper) (L : Array Bool) (i : Nat) : Bool := (List.range ops.size).all fun k => match ops[k]? with
  | some ok => !(ok.after.any fun e => Region.binds .any e && e.on == i) || !L.getD k true
  | none => true
theorem depB_spec {ops : Array Oper} {L : Array Bool} {i : Nat} (h : depB ops L i = true) : DepU .any ops L i := by
  intro k ok hk ⟨e, he, hb, hon⟩
  have hkl : k < ops.size := by
    rcases Nat.lt_or_ge k ops.size with h1 | h1
    · exact h1
    · rw [Array.getElem?_eq_none h1] at hk; cases hk
  have := List.all_eq_true.1 h k (by simpa using hkl)
  simp only [hk, Bool.or_eq_true, Bool.not_eq_true'] at this
  rcases this with h1 | h1
  · have h2 : (ok.after.any fun e => Region.binds .any e && e.on == i) = true := by
      rw [Array.any_eq_true']
      exact ⟨e, he, by simp [hb, hon]⟩
    rw [h2] at h1; cases h1
  · exact h1
def Sch.ok (ops : Array Oper) : Bool → Sch → Array Bool → Bool
  | top, .done, L => top && (Region.ready .any ops L).isEmpty
  | top, .q i r, L => top && Region.free .any ops L i && (Region.ready .any ops L).contains i && depB ops L i && Sch.ok ops true r (L.setIfInBounds i true)
  | top, .l i r alt, L => (!top || (Region.ready .any ops L == i :: alt.heads)) && Sch.ok ops true r (L.setIfInBounds i true) && Sch.ok ops false alt L
  | top, .no, _ => !top
noncomputable def vcg (P : Program) (N : Nat) (ops : List Oper) (s : Sch) : Array Bool → (Array Bool → World → Prop) → FM → World → (FM → World → Prop) → Prop :=
  Sch.rec (motive := fun _ => Array Bool → (Array Bool → World → Prop) → FM → World → (FM → World → Prop) → Prop) (fun _ _ m w K => K m w)
    (fun i _ ih L S m w K => match nthO ops i with
      | some o => (∀ L w, S (L.setIfInBounds i true) w ↔ S L w) ∧ vcs (EvH P (S0 .any ops.toArray S i)) N ops [o] m () fun m' _ => ih (L.setIfInBounds i true) S m' w K
      | none => False)
    (fun i _ _ ihr iha L S m w K => (match nthO ops i with
      | some o => vcs (Ev P) N ops [o] m w fun m' w' => ∃ S' : Array Bool → World → Prop, S' (L.setIfInBounds i true) w' ∧ (∀ L x, S' L x → S L x) ∧ ihr (L.setIfInBounds i true) S' m' w' K
      | none => False) ∧ iha L S m w K)
    (fun _ _ _ _ _ => True) s
section
variable {P : Program}
theorem vcg_sound {N : Nat} {ops : List Oper} {Q : Exit → Act → World → Prop} (hs : Region.noSelect ops.toArray = true) : ∀ (s : Sch) (fuel : Nat) (L : Array Bool) (S : Array Bool → World → Prop) (m : FM) (w : World) (K : FM → World → Prop) (a : Act),
    s.deep ≤ fuel → Fr a N m → S L w → (∀ m' w' a', Fr a' N m' → K m' w' → Q .normal a' w') → vcg P N ops s L S m w K →
    (Sch.ok ops.toArray true s L = true → AnyG P .any ops.toArray (NoPanic Q) S fuel L a w) ∧
    (Sch.ok ops.toArray false s L = true → ∀ fuel', fuel = fuel' + 1 → ∀ i ∈ s.heads, wpOp P ops.toArray (NoPanic Q) i (fun a' w' => S (L.setIfInBounds i true) w' ∧ AnyG P .any ops.toArray (NoPanic Q) S fuel' (L.setIfInBounds i true) a' w') a w)
  | .done, fuel, L, S, m, w, K, a, _, hf, _, hk, h => by
    refine ⟨fun hB => ?_, fun _ _ _ i hi => by simp [Sch.heads] at hi⟩
    simp only [Sch.ok, Bool.true_and, List.isEmpty_iff] at hB
    have hq : NoPanic Q .normal a w := hk m w a hf h
    cases fuel with
    | zero => exact ⟨hB, hq⟩
    | succ fuel => exact ⟨fun _ => hq, by rw [hB]; simp⟩
  | .q i r, fuel, L, S, m, w, K, a, hl, hf, hS, hk, h => by
    refine ⟨fun hB => ?_, fun _ _ _ i hi => by simp [Sch.heads] at hi⟩
    simp only [Sch.ok, Bool.true_and, Bool.and_eq_true] at hB
    obtain ⟨⟨⟨b1, b2⟩, b3⟩, b4⟩ := hB
    replace h : (match nthO ops i with
      | some o => (∀ L w, S (L.setIfInBounds i true) w ↔ S L w) ∧ vcs (EvH P (S0 .any ops.toArray S i)) N ops [o] m () fun m' _ => vcg P N ops r (L.setIfInBounds i true) S m' w K
      | none => False) := h
    split at h
    · rename_i o ho
      have hoi : ops.toArray[i]? = some o := by rw [List.getElem?_toArray, ← nthO_eq]; exact ho
      obtain ⟨hq, h⟩ := h
      obtain ⟨v, hy, m', hf', h'⟩ := evh_one hf h
      obtain ⟨fuel, rfl⟩ : ∃ k, fuel = k + 1 := ⟨fuel - 1, by simp only [Sch.deep] at hl; omega⟩
      refine AnyG.first hoi (Region.noSelect_spec hs) (fun c a w h => h) hq fuel L a w (Region.free_spec hoi b1) (depB_spec b3) (by simpa using b2) hy hS ?_
      exact (vcg_sound hs r fuel _ S m' w K _ (by simp only [Sch.deep] at hl; omega) hf' ((hq L w).2 hS) hk h').1 b4
    · exact h.elim
  | .l i r alt, fuel, L, S, m, w, K, a, hl, hf, hS, hk, h => by
    replace h : (match nthO ops i with
      | some o => vcs (Ev P) N ops [o] m w fun m' w' => ∃ S' : Array Bool → World → Prop, S' (L.setIfInBounds i true) w' ∧ (∀ L x, S' L x → S L x) ∧ vcg P N ops r (L.setIfInBounds i true) S' m' w' K
      | none => False) ∧ vcg P N ops alt L S m w K := h
    obtain ⟨h, ha⟩ := h
    simp only [Sch.deep] at hl
    obtain ⟨fuel, rfl⟩ : ∃ k, fuel = k + 1 := ⟨fuel - 1, by omega⟩
    have key : Sch.ok ops.toArray true r (L.setIfInBounds i true) = true → Sch.ok ops.toArray false alt L = true → ∀ j ∈ i :: alt.heads, wpOp P ops.toArray (NoPanic Q) j (fun a' w' => S (L.setIfInBounds j true) w' ∧ AnyG P .any ops.toArray (NoPanic Q) S fuel (L.setIfInBounds j true) a' w') a w := by
      intro b1 b2 j hj
      rcases List.mem_cons.1 hj with e | hj
      · subst e
        split at h
        · rename_i o ho
          refine wpOp_mono ?_ (ev_one (P := P) (Q := NoPanic Q) (by rw [List.getElem?_toArray, ← nthO_eq]; exact ho) hf h)
          rintro a' w' ⟨m', hf', S', hS', hle, h'⟩
          exact ⟨hle _ _ hS', AnyG.mono hle _ _ _ _ ((vcg_sound hs r fuel _ S' m' w' K _ (by omega) hf' hS' hk h').1 b1)⟩
        · exact h.elim
      · exact (vcg_sound hs alt (fuel + 1) L S m w K a (by omega) hf hS hk ha).2 b2 fuel rfl j hj
    refine ⟨fun hB => ?_, fun hB fuel' hfu => ?_⟩
    · simp only [Sch.ok, Bool.not_true, Bool.false_or, Bool.and_eq_true, beq_iff_eq] at hB
      obtain ⟨⟨b1, b2⟩, b3⟩ := hB
      refine ⟨fun h0 => (by rw [b1] at h0; cases h0), fun j hj => ?_⟩
      rw [b1] at hj
      exact key b2 b3 j hj
    · simp only [Sch.ok, Bool.not_false, Bool.true_or, Bool.true_and, Bool.and_eq_true] at hB
      obtain rfl : fuel = fuel' := by omega
      exact key hB.1 hB.2
  | .no, fuel, L, S, m, w, K, a, _, _, _, _, _ => ⟨fun hB => by simp [Sch.ok] at hB, fun _ _ _ i hi => by simp [Sch.heads] at hi⟩
theorem W.heldG {N : Nat} {id : Nat} {l : List Oper} {m : FM} {w : World} {Q : Exit → FM → World → Prop} (s : Sch) (S : Array Bool → World → Prop) (hm : P.follows .mixedOrders = true)
    (hB : (Region.noSelect l.toArray && Nat.ble s.deep l.length && Sch.ok l.toArray true s (Array.replicate l.length false)) = true) (hS : S (Array.replicate l.length false) w.drew)
    (h : vcg P N l s (Array.replicate l.length false) S m w.drew fun m' w' => Q .normal m' w') : W P N (.region id l.toArray true) m w Q := by
  intro a hf
  simp only [Bool.and_eq_true] at hB
  refine wp_region_noPanic (wp_region_any hm (any_of_G (S := S) _ _ _ _ ?_))
  have := (vcg_sound (P := P) (Q := Lift N Q) hB.1.1 s l.length _ S m w.drew _ a (Nat.le_of_ble_eq_true hB.1.2) hf hS (fun m' w' a' hf' q => ⟨m', hf', q⟩) h).1 hB.2
  simpa using this
/- ### What is known: what may be read; and rows that stay as they are till one of some operations has come up -/
def SK (SI : World → Prop) (K : List (Nat × List Value × TypeId)) (J : List (List Nat)) (L : Array Bool) (w : World) : Prop :=
  SI w ∧ ∀ (p : Nat) (e : Nat × List Value × TypeId) (js : List Nat), K[p]? = some e → J[p]? = some js → (js.all fun j => !L.getD j true) = true → w.heap[e.1]? = some (.cells e.2.1.toArray e.2.2 (0, 0))
theorem SK.same {SI : World → Prop} {K : List (Nat × List Value × TypeId)} {J : List (List Nat)} {i : Nat} (h : (J.all fun js => !js.contains i) = true) (L : Array Bool) (w : World) : SK SI K J (L.setIfInBounds i true) w ↔ SK SI K J L w := by
  unfold SK
  refine and_congr Iff.rfl (forall_congr' fun p => forall_congr' fun e => forall_congr' fun js => ?_)
  refine imp_congr Iff.rfl ⟨fun k hj => ?_, fun k hj => ?_⟩
  all_goals
    have hn : js.contains i = false := by
      have := List.all_eq_true.1 h js (List.mem_of_getElem? hj)
      simpa using this
    have e : (js.all fun j => !(L.setIfInBounds i true).getD j true) = js.all fun j => !L.getD j true := by
      rw [Bool.eq_iff_iff, List.all_eq_true, List.all_eq_true]
      refine forall_congr' fun j => ⟨fun hh hm => ?_, fun hh hm => ?_⟩
      · have := hh hm
        have hne : i ≠ j := by rintro rfl; simp [hm] at hn
        rwa [getD_set_ne true hne] at this
      · have := hh hm
        have hne : i ≠ j := by rintro rfl; simp [hm] at hn
        rwa [getD_set_ne true hne]
    have := k hj
    rw [e] at *
    exact this
theorem S0.si {ops : Array Oper} {SI : World → Prop} {K : List (Nat × List Value × TypeId)} {J : List (List Nat)} {q : Nat} {w : World} (h : S0 .any ops (SK SI K J) q w) : SI w := by
  obtain ⟨L, _, h⟩ := h; exact h.1
theorem kp_nil {J : List (List Nat)} {L : Array Bool} {w : World} : ∀ (p : Nat) (e : Nat × List Value × TypeId) (js : List Nat), ([] : List (Nat × List Value × TypeId))[p]? = some e → J[p]? = some js → (js.all fun j => !L.getD j true) = true → w.heap[e.1]? = some (.cells e.2.1.toArray e.2.2 (0, 0)) :=
  fun p e js h => by simp at h
theorem kp_cons {e0 : Nat × List Value × TypeId} {K : List (Nat × List Value × TypeId)} {js0 : List Nat} {J : List (List Nat)} {L : Array Bool} {w : World}
    (h : (js0.all fun j => !L.getD j true) = true → w.heap[e0.1]? = some (.cells e0.2.1.toArray e0.2.2 (0, 0)))
    (t : ∀ (p : Nat) (e : Nat × List Value × TypeId) (js : List Nat), K[p]? = some e → J[p]? = some js → (js.all fun j => !L.getD j true) = true → w.heap[e.1]? = some (.cells e.2.1.toArray e.2.2 (0, 0))) :
    ∀ (p : Nat) (e : Nat × List Value × TypeId) (js : List Nat), (e0 :: K)[p]? = some e → (js0 :: J)[p]? = some js → (js.all fun j => !L.getD j true) = true → w.heap[e.1]? = some (.cells e.2.1.toArray e.2.2 (0, 0))
  | 0, e, js, h1, h2, h3 => by
    simp only [List.getElem?_cons_zero, Option.some.injEq] at h1 h2
    subst h1 h2; exact h h3
  | p + 1, e, js, h1, h2, h3 => t p e js (by simpa using h1) (by simpa using h2) h3
end
end Go.Proofs.Ytcdboppghnchpaa.Gw

namespace Go.Proofs.Ytcdboppghnchpaa.Gw
open Go Go.RowKit
section
variable {P : Program} {c : Cx} {I : Nat → Prop} {m : List Ent} {w : World} {fm : FM} {o : Oper}
/-- Field f of s has type t and lies at off. -/
def FT (P : Program) (s : TypeId) (f off : Nat) (t : TypeId) : Prop := (P.underlying s).bind (fun | .struct fs => (fs[f]?).map (fun fl => (fl.offset, fl.type)) | _ => none) = some (off, t)
theorem FT.open {s : TypeId} {f off : Nat} {t : TypeId} (h : FT P s f off t) : ∃ fs fl, P.underlying s = some (.struct fs) ∧ fs[f]? = some fl ∧ fl.offset = off ∧ fl.type = t := by
  unfold FT at h
  cases hs : P.underlying s with
  | none => rw [hs] at h; cases h
  | some d =>
    rw [hs] at h
    cases d <;> try (simp at h)
    rename_i fs
    exact ⟨fs, h.choose, rfl, h.choose_spec.1, h.choose_spec.2.1, h.choose_spec.2.2⟩
theorem OwnS.isSl {α : Type} {d : Desc α} {T : TypeId} {v : Value} {e : Ent} {xs : List α} (h : OwnS d T w I v e xs) : ∃ a n k, v = .slice a n k := by
  rcases h with ⟨rfl, _⟩ | ⟨g, cs, n, rfl, _⟩ <;> exact ⟨_, _, _, rfl⟩
end
end Go.Proofs.Ytcdboppghnchpaa.Gw

namespace Go.Proofs.Ytcdboppghnchpaa.Gw
open Go Go.RowKit
section
variable {P : Program} {c : Cx} {I : Nat → Prop} {m : List Ent} {w : World} {fm : FM} {o : Oper}
end
end Go.Proofs.Ytcdboppghnchpaa.Gw

namespace Go.Proofs.Ytcdboppghnchpaa.Gw
open Go Go.RowKit
/- ### Functions of Go's library, met by contracts -/
/-- A table that a variable of the program holds, whole. -/
structure Tb (w : World) (I : Nat → Prop) (g : Nat) (k : IntKind) (zs : List Int) : Prop where
  mem : I g
  is : ∃ t f, w.heap[g]? = some (.cells (zs.map fun z => Value.int k z).toArray t f)
theorem Tb.step {w w' : World} {I I' : Nat → Prop} {g : Nat} {k : IntKind} {zs : List Int} (h : Tb w I g k zs) (s : Stp I w I' w') : Tb w' I' g k zs :=
  ⟨(s g h.mem).1, by obtain ⟨t, f, e⟩ := h.is; exact ⟨t, f, (s g h.mem).2.trans e⟩⟩
theorem Tb.of {P : Program} {w : World} {g : Nat} {k : IntKind} {zs : List Int} {nm : String} (h : Lib.TabIs P w nm k zs) (hg : P.globalNamed nm = some g) : Tb w (Bl w) g k zs := by
  unfold Lib.TabIs World.var? at h
  rw [hg, Option.bind_some] at h
  split at h
  · rename_i cs t f e
    obtain rfl := Option.some.inj h
    exact ⟨lt_of_heap e, t, f, e⟩
  · cases h
end Go.Proofs.Ytcdboppghnchpaa.Gw
