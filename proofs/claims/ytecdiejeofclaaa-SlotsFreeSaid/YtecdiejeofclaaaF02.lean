/- Joined texts: InfE InfF InfG InfH InfI InfJ InfK InfL InfBw InfM InfN SysA SkA InfO FacA TrnB SysB SysC SysD TrnA SysE InfQ InfR. -/
import Derived.Test.YtecdiejeofclaaaF01
import Derived.Tactics
import Derived.Tactics2
import Derived.WalkKit
import Derived.WalkSpells
import Derived.Laws.Pointers
import Derived.Test.YtecdiejeofclaaaProg
import Derived.KernelRfl
import Derived.StillTactics
import Derived.OwnWalk
import Derived.BigRegion
import Derived.RegionTactic
import Derived.Deep.RegionHeld3
import Derived.Deep.AppendLies
import Derived.Deep.RegionLaw
import Derived.Orders
set_option linter.all false
/- Infrastructure E: execOp of the allowed operations is Tame; the allowed code. -/
namespace Go.Proofs.Ytecdiejeofclaaa
open Go Go.Conc
section
variable {P : Program}
theorem tame_anyFrozen {α : Type} {ok : α → Prop} (g : Nat → Addr) (f : Bool → Sem α) (h1 : ∀ w, ∃ x w', HaltOk x ∧ (f true).run P w = .halt x w') (h0 : Tame P ok (f false)) : ∀ l : List Nat, Tame P ok ((l.anyM fun i => frozen (g i)) >>= f)
  | [] => by simp only [List.anyM_nil]; exact h0
  | x :: l => by
    simp only [List.anyM_cons, bind_assoc]
    refine .frozen (g x) _ (fun w => ?_) ?_
    · obtain ⟨y, w', hk, hy⟩ := h1 w
      exact ⟨y, w', hk, hy⟩
    · exact tame_anyFrozen g f h1 h0 l
theorem tame_touches {α : Type} {ok : α → Prop} (a : Addr) (f : Bool → Sem α) (h1 : ∀ w, ∃ x w', HaltOk x ∧ (f true).run P w = .halt x w') (h0 : Tame P ok (f false)) : Tame P ok (Extern.Atomic.touchesFrozen a >>= f) := by
  unfold Extern.Atomic.touchesFrozen
  simp only [bind_assoc]
  refine Tame.bind' (tame_viewAt _) fun v _ => ?_
  split
  · exact .frozen a _ (fun w => h1 w) h0
  · simp only [bind_assoc]
    refine Tame.bind' (tame_typeInfo _) fun i _ => ?_
    split
    · exact .doomed _ fun w => ⟨.unsupported (.unsafePointer _), w, trivial, rfl⟩
    · exact tame_anyFrozen _ f h1 h0 _
theorem tame_read (k : IntKind) (a : Addr) : Tame P (fun _ => True) (Extern.Atomic.read (.int k) a) := by
  unfold Extern.Atomic.read
  refine Tame.bind' (tame_load _ _) fun v _ => ?_
  split
  · exact tame_ite (tame_pure _ trivial) (tame_unsup _)
  · exact tame_pure _ trivial
  · exact tame_pure _ trivial
  · exact tame_unsup _
/-- The atomic rows that are allowed. -/
inductive AtomRow : (Array Value → Sem Value) → Prop
  | load : AtomRow (Extern.Atomic.loadT (.int .i64))
  | store : AtomRow Extern.Atomic.storeT
  | swap : AtomRow (Extern.Atomic.swapT (.int .i64))
  | cas : AtomRow (Extern.Atomic.casT (.int .i64))
  | add : AtomRow (Extern.Atomic.update (Op.intArith .add) .i64 true)
theorem tame_atom {e : Array Value → Sem Value} (he : AtomRow e) (args : Array Value) : Tame P (fun _ => True) (e args) := by
  obtain ⟨l⟩ := args
  cases he with
  | load =>
    match l with
    | [x] => exact Tame.bind' (tame_asAddr _) fun _ _ => tame_read _ _
    | [] => exact tame_stuck _
    | _ :: _ :: _ => exact tame_stuck _
  | store =>
    match l with
    | [x, y] => exact Tame.bind' (tame_asAddr _) fun _ _ => Tame.bind' (tame_store _ _ _) fun _ _ => tame_pure _ trivial
    | [] => exact tame_stuck _
    | [_] => exact tame_stuck _
    | _ :: _ :: _ :: _ => exact tame_stuck _
  | swap =>
    match l with
    | [x, y] => exact Tame.bind' (tame_asAddr _) fun _ _ => Tame.bind' (tame_read _ _) fun _ _ => Tame.bind' (tame_store _ _ _) fun _ _ => tame_pure _ trivial
    | [] => exact tame_stuck _
    | [_] => exact tame_stuck _
    | _ :: _ :: _ :: _ => exact tame_stuck _
  | add =>
    match l with
    | [x, y] => exact Tame.bind' (tame_asAddr _) fun _ _ => Tame.bind' (tame_read _ _) fun _ _ => Tame.bind' (tame_asInt _) fun _ _ => Tame.bind' (tame_asInt _) fun _ _ => Tame.bind' (tame_intArith _ _ _ _) fun _ _ => Tame.bind' (tame_store _ _ _) fun _ _ => tame_pure _ trivial
    | [] => exact tame_stuck _
    | [_] => exact tame_stuck _
    | _ :: _ :: _ :: _ => exact tame_stuck _
  | cas =>
    match l with
    | [x, old, new] =>
      refine Tame.bind' (tame_asAddr x) fun ad _ => tame_touches ad _ (fun w => ⟨.unsupported (.unsafePointer _), w, trivial, rfl⟩) ?_
      simp only [Bool.false_eq_true, if_false]
      refine Tame.bind' (tame_read _ _) fun v _ => ?_
      have hk : ∀ eq : Bool, Tame P (fun _ => True) (do
          if eq = true then store ad new .atomic
          pure (Value.bool eq)) := fun eq => by
        cases eq
        · exact tame_pure _ trivial
        · exact Tame.bind' (tame_store _ _ _) fun _ _ => tame_pure _ trivial
      split <;> first
        | exact Tame.bind' (ok := fun _ => True) (tame_pure _ trivial) fun _ _ => hk _
        | exact Tame.bind' (ok := fun _ => True) (tame_unsup _) fun _ _ => hk _
        | exact Tame.bind' (ok := fun _ => True) (tame_stuck _) fun _ _ => hk _
        | exact absurd ‹Extern.Atomic.T.int IntKind.i64 = Extern.Atomic.T.ptr› (by simp)
        | (contradiction)
    | [] => exact tame_stuck _
    | [_] => exact tame_stuck _
    | [_, _] => exact tame_stuck _
    | _ :: _ :: _ :: _ :: _ => exact tame_stuck _
/-- The functions that a piece of code may come to: L: with a body (its code is allowed in turn); A: atomic rows. -/
structure Allow where
  L : List FuncId
  A : List FuncId
def AtomOk (P : Program) (f : FuncId) : Prop := ∃ fn e, P.funcs[f]? = some fn ∧ (fn.name == "runtime.NumGoroutine") = false ∧ fn.body.isNone = true ∧ Extern.findNext fn = none ∧ Extern.find fn = some e ∧ AtomRow e
def nextOk (L : Allow) : Next → Prop
  | .value _ | .skip => True
  | .enter f _ => f ∈ L.L
  | _ => False
def isNilConst : Operand → Bool
  | .const v => isNil v
  | _ => false
def intTy (P : Program) (t : TypeId) : Bool := match P.underlying t with
  | some (.int _) => true
  | _ => false
def opOk (P : Program) (L : Allow) (o : Op) : Bool :=
  match o with
  | .move _ | .assign _ | .pick .. | .alloc _ | .box .. | .build .. | .buildSlice .. | .load .. | .store .. | .nilCheck _ | .unOp .. | .makeFunc .. | .makeChan .. | .makeSlice .. | .slice .. | .fieldAddr .. | .field .. | .indexAddr .. | .index .. | .extract .. => true
  | .binOp op t _ y _ => (op matches .add | .sub | .mul | .quo | .rem | .and | .or | .xor | .andNot | .shl | .shr | .lss | .leq | .gtr | .geq) || eqTy P 8 t || isNilConst y
  | .convert s d _ => intTy P s && intTy P d
  | .call c => match c.callee with
    | .builtin b => (b matches .append | .len | .cap | .copy)
    | .value (.func f) => (f ∈ L.L && (match P.funcs[f]? with | some fn => fn.body.isSome && !(fn.name == "runtime.NumGoroutine") | none => false)) || f ∈ L.A
    | _ => false
  | _ => false
theorem tame_followBlind : ∀ (l : List FieldStep) (t : TypeId) (x : Option Value), Tame P (fun _ => True) (followBlind l t x)
  | [], t, x => tame_pure _ trivial
  | s :: l, t, x => by
    unfold followBlind
    refine Tame.bind' (tame_under _) fun d _ => ?_
    split
    · split
      · split
        · exact tame_pure _ trivial
        · exact tame_followBlind l _ _
        · exact tame_stuck _
        · exact tame_pure _ trivial
        · exact Tame.bind' (tame_part _ _ _) fun _ _ => tame_followBlind l _ _
        · exact tame_stuck _
        · exact tame_followBlind l _ _
      · exact tame_stuck _
    · exact tame_stuck _
theorem tame_nilAhead : ∀ (n : Nat) (t : TypeId) (v : Value) (s : String), Tame P (fun _ => True) (nilAhead n t v s)
  | 0, t, v, s => tame_pure _ trivial
  | n + 1, t, v, s => by
    unfold nilAhead
    refine Tame.bind' (tame_typeInfo _) fun i _ => ?_
    split
    · refine Tame.bind' (tame_followBlind _ _ _) fun r _ => ?_
      split
      · exact tame_pure _ trivial
      · split
        · exact tame_nilAhead n _ _ _
        · exact tame_pure _ trivial
        · exact tame_stuck _
        · exact tame_pure _ trivial
        · exact tame_pure _ trivial
        · refine Tame.bind' (tame_under _) fun d _ => ?_
          split <;> exact tame_pure _ trivial
    · exact tame_stuck _
theorem tame_convInt {s d : TypeId} (hs : intTy P s = true) (hd : intTy P d = true) (x : Value) : Tame P (fun _ => True) (convert s d x) := by
  unfold convert
  refine Tame.bind' (tame_under s) fun u hu => Tame.bind' (tame_under d) fun u' hu' => ?_
  unfold intTy at hs hd
  rw [hu] at hs
  rw [hu'] at hd
  split <;> first
    | exact tame_intToInt _ _
    | exact tame_unsup _
    | exact tame_stuck _
    | exact tame_pure _ trivial
    | (exact Bool.noConfusion hs)
    | (exact Bool.noConfusion hd)
    | skip
  all_goals (unfold Conv.floatToInt; extract_lets k1)
  all_goals (have hk1 : Tame P (fun _ => True) k1 := Tame.bind' (tame_choose _) fun _ _ => tame_pure _ trivial)
  all_goals (split <;> first | exact hk1 | exact tame_ite (tame_pure _ trivial) hk1)
theorem eqOk_tame {ρ : Operand → Value} (hc : ∀ x, ρ (.const x) = x) {op : BinOp} {t : TypeId} {x y : Operand} (h : ((op matches .add | .sub | .mul | .quo | .rem | .and | .or | .xor | .andNot | .shl | .shr | .lss | .leq | .gtr | .geq) || eqTy P 8 t || isNilConst y) = true) :
    (op ≠ .eql ∧ op ≠ .neq) ∨ ∀ d, Tame P (fun _ => True) (Op.equalIn d t (ρ x) (ρ y)) := by
  simp only [Bool.or_eq_true] at h
  rcases h with (h | h) | h
  · left
    constructor <;> (rintro rfl; exact Bool.noConfusion h)
  · exact .inr fun d => tame_equalIn 8 t h d _ _
  · right
    intro d
    cases y with
    | const c => rw [hc]; exact tame_equalNil d t _ _ h
    | _ => exact Bool.noConfusion h
theorem tame_callEnter {L : Allow} {f : FuncId} (hL : f ∈ L.L) (h : (match P.funcs[f]? with | some fn => fn.body.isSome && !(fn.name == "runtime.NumGoroutine") | none => false) = true) (args : Array Value) : Tame P (nextOk L) (callFunc f args) := by
  unfold callFunc
  refine Tame.bind' tame_program fun p hp => ?_
  subst hp
  cases hfn : p.funcs[f]? with
  | none => exact tame_stuck _
  | some fn =>
    rw [hfn] at h
    simp only [Bool.and_eq_true, Bool.not_eq_true', beq_eq_false_iff_ne, ne_eq] at h
    obtain ⟨h1, h2⟩ := h
    have h3 : fn.body.isNone = false := by cases hb : fn.body <;> simp_all
    simp only [beq_iff_eq, h2, if_false, h3, Bool.false_eq_true]
    exact tame_pure _ hL
theorem tame_callAtom {L : Allow} {f : FuncId} (h : AtomOk P f) (args : Array Value) : Tame P (nextOk L) (callFunc f args) := by
  obtain ⟨fn, e, h1, h2, h3, h4, h5, h6⟩ := h
  unfold callFunc
  refine Tame.bind' tame_program fun p hp => ?_
  subst hp
  rw [h1]
  simp only [h2, Bool.false_eq_true, if_false, h3, if_true, h4, h5]
  have key : Tame p (nextOk L) (do pure (Next.value (← e args))) := Tame.bind' (tame_atom h6 args) fun _ _ => tame_pure _ trivial
  exact .extern f _ key
theorem tame_builtin {L : Allow} {b : Builtin} (h : (b matches .append | .len | .cap | .copy) = true) (a : Array TypeId) (t : TypeId) (cs : Array Bool) (args : Array Value) : Tame P (nextOk L) (builtin b a t cs args) := by
  have v : ∀ {s : Sem Value}, Tame P (fun _ => True) s → Tame P (nextOk L) (do pure (Next.value (← s))) := fun hs => Tame.bind' hs fun _ _ => tame_pure _ trivial
  split at h <;> first | (exact Bool.noConfusion h) | skip
  · exact v (tame_append _ _ _)
  · exact v (tame_len _ _ _)
  · exact v (tame_cap _ _ _)
  · exact v (tame_copy _ _ _)
theorem tame_extract (x : Value) (n : Nat) : Tame P (fun _ => True) (Instr.extract x n) := by
  unfold Instr.extract
  split
  · split
    · exact tame_pure _ trivial
    · exact tame_stuck _
  · exact tame_stuck _
/-- WHAT AN ALLOWED OPERATION DOES IS TAME. -/
theorem execOp_tame {L : Allow} (hA : ∀ f ∈ L.A, AtomOk P f) (ρ : Operand → Value) (hc : ∀ x, ρ (.const x) = x) (hf : ∀ f, ρ (.func f) = .func (.func f) #[] #[]) (o : Oper) (h : opOk P L o.op = true) : Tame P (nextOk L) (execOp ρ o) := by
  have v : ∀ {s : Sem Value}, Tame P (fun _ => True) s → Tame P (nextOk L) (do pure (Next.value (← s))) := fun hs => Tame.bind' hs fun _ _ => tame_pure _ trivial
  have u : ∀ {s : Sem Unit}, Tame P (fun _ => True) s → Tame P (nextOk L) (do s; pure Next.skip) := fun hs => Tame.bind' hs fun _ _ => tame_pure _ trivial
  unfold execOp
  unfold opOk at h
  dsimp only
  split at h <;> first | (exact Bool.noConfusion h) | (rename_i he; rw [he]; dsimp only)
  all_goals (first
    | exact tame_pure _ trivial
    | exact v (tame_alloc _ _) | exact v (tame_box _ _) | exact v (tame_build _ _) | exact v (tame_buildSlice _ _ _) | exact v (tame_loadAt _ _) | exact u (tame_storeAt _ _ _)
    | exact v (tame_unary_int _ _) | exact v (tame_makeFunc _ _ _) | exact v (tame_makeChan _ _) | exact v (tame_makeSlice _ _ _) | exact v (tame_sliceAt _ _ _ _ _) | exact v (tame_fieldAt _ _ _) | exact v (tame_field _ _ _) | exact v (tame_indexAt _ _ _) | exact v (tame_index _ _ _) | exact v (tame_extract _ _)
    | exact Tame.bind' (tame_asBool _) (fun _ _ => tame_pure _ trivial)
    | skip)
  case h_10 =>
    split
    · exact tame_rtPanic _
    · exact tame_rtPanic _
    · exact tame_rtPanic _
    · split
      · exact tame_rtPanic _
      · refine Tame.bind' tame_program fun p _ => Tame.bind' (tame_nilAhead _ _ _ _) fun b _ => ?_
        split
        · exact Tame.bind' (ok := fun _ => True) (tame_unsup _) fun _ _ => tame_pure _ trivial
        · exact tame_pure _ trivial
      · exact tame_pure _ trivial
    · exact tame_pure _ trivial
  case h_21 => exact v (Tame.bind' (tame_eqGuard _ _ _ _ _ _) fun _ _ => tame_binOp _ _ _ _ (eqOk_tame hc h))
  case h_22 =>
    simp only [Bool.and_eq_true] at h
    exact v (tame_convInt h.1 h.2 _)
  case h_23 c =>
    unfold resolve
    split at h <;> first | (exact Bool.noConfusion h) | (rename_i hcal; rw [hcal]; dsimp only)
    · exact tame_builtin h _ _ _ _
    · rw [hf]
      simp only [Bool.or_eq_true, Bool.and_eq_true, decide_eq_true_eq] at h
      rcases h with ⟨h1, h2⟩ | h
      · exact tame_callEnter h1 h2 _
      · exact tame_callAtom (hA _ h) _
end
end Go.Proofs.Ytecdiejeofclaaa


/- Infrastructure F: a goroutine in allowed code takes the same step in two worlds that are alike, whatever stands below. -/
namespace Go.Proofs.Ytecdiejeofclaaa
open Go Go.Conc
section
variable {P : Program} {E : Bool} {S : Addr → Prop}
theorem tame_leaf {α : Type} {ok : α → Prop} {s : Sem α} (hT : Tame P ok s) : ∀ {w w' : World} {a : α}, s.run P w = .ok a w' → ok a := by
  induction hT with
  | pure a h => intro w w' a' hr; simp only [Sem.run, Result.ok.injEq] at hr; obtain ⟨rfl, rfl⟩ := hr; exact h
  | load m a k _ ih =>
    intro w w' a' hr
    simp only [Sem.run] at hr
    split at hr
    · exact ih _ hr
    · split at hr
      · exact ih _ hr
      · cases hr
  | store m a x k _ ih =>
    intro w w' a' hr
    cases x <;> simp only [Sem.run] at hr <;> first
      | (cases hr; done)
      | (split at hr
         · split at hr
           · cases hr
           · exact ih hr
         · split at hr
           · exact ih hr
           · cases hr)
  | new o k _ _ ih => intro w w' a' hr; exact ih _ hr
  | shape r k _ ih => intro w w' a' hr; exact ih _ hr
  | getObj r k _ _ ih =>
    intro w w' a' hr
    simp only [Sem.run] at hr
    split at hr
    · cases hr
    · exact ih _ hr
    · cases hr
  | choose q k _ ih =>
    intro w w' a' hr
    simp only [Sem.run] at hr
    split at hr <;> exact ih _ hr
  | program k _ ih => intro w w' a' hr; exact ih hr
  | noRoom k _ ih => intro w w' a' hr; exact ih hr
  | extern f k _ ih => intro w w' a' hr; exact ih hr
  | frozen a k h1 _ ih =>
    intro w w' a' hr
    simp only [Sem.run] at hr
    cases hf : w.frozen? a with
    | true => rw [hf] at hr; obtain ⟨x, w1, _, hx⟩ := h1 w; rw [hx] at hr; cases hr
    | false => rw [hf] at hr; exact ih hr
  | doomed s h => intro w w' a' hr; obtain ⟨x, w1, _, hx⟩ := h w; rw [hx] at hr; cases hr
/-- No block of the world waits for its initialiser. -/
def Ready0 (w : World) : Prop := ∀ (b : Nat) c e, w.heap[b]? ≠ some (.pending c e)
theorem ready_sim {w : World} (h : Ready0 w) : Sim true (fun _ => False) w w := Sim.refl (fun _ h => h.elim) h
theorem noCell_ok {w : World} (h : Ready0 w) (a : Addr) (s : String) : HaltOk (w.noCell a s) := by
  unfold World.noCell
  split
  · rename_i hp; exact absurd hp (h _ _ _)
  · trivial
  · trivial
theorem tame_halts {α : Type} {ok : α → Prop} {s : Sem α} (hT : Tame P ok s) : ∀ {w w' : World} {x : Halt}, Ready0 w → s.run P w = .halt x w' → HaltOk x := by
  induction hT with
  | pure a h => intro w w' x _ hr; cases hr
  | load m a k _ ih =>
    intro w w' x hw hr
    simp only [Sem.run] at hr
    split at hr
    · exact ih _ hw hr
    · split at hr
      · exact ih _ hw hr
      · rename_i he
        simp only [Result.halt.injEq] at hr
        obtain ⟨rfl, _⟩ := hr
        unfold World.farLoad at he
        split at he
        · split at he
          · cases he
          · simp only [Except.error.injEq] at he; subst he; trivial
        · simp only [Except.error.injEq] at he; subst he; exact noCell_ok hw _ _
  | store m a y k _ ih =>
    intro w w' x hw hr
    cases y <;> simp only [Sem.run] at hr <;> first
      | (simp only [Result.halt.injEq] at hr; obtain ⟨rfl, _⟩ := hr; trivial)
      | (split at hr
         · split at hr
           · simp only [Result.halt.injEq] at hr; obtain ⟨rfl, _⟩ := hr; trivial
           · exact ih ((ready_sim hw).setCell a _).ready hr
         · split at hr
           · rename_i hf
             obtain ⟨_, _, h2, _⟩ := (ready_sim hw).farStore hf
             exact ih h2.ready hr
           · rename_i he
             simp only [Result.halt.injEq] at hr
             obtain ⟨rfl, _⟩ := hr
             unfold World.farStore at he
             split at he
             · split at he
               · cases he
               · simp only [Except.error.injEq] at he; subst he; trivial
             · simp only [Except.error.injEq] at he; subst he; exact noCell_ok hw _ _)
  | new o k ho _ ih => intro w w' x hw hr; exact ih _ ((ready_sim hw).push o ho).ready hr
  | shape r k _ ih => intro w w' x hw hr; exact ih _ hw hr
  | getObj r k _ _ ih =>
    intro w w' x hw hr
    simp only [Sem.run] at hr
    split at hr
    · simp only [Result.halt.injEq] at hr; obtain ⟨rfl, _⟩ := hr; trivial
    · exact ih _ hw hr
    · simp only [Result.halt.injEq] at hr; obtain ⟨rfl, _⟩ := hr; trivial
  | choose q k _ ih =>
    intro w w' x hw hr
    simp only [Sem.run] at hr
    split at hr
    · exact ih _ hw hr
    · exact ih (w := { w with drawn := w.drawn + 1 }) _ hw hr
  | program k _ ih => intro w w' x hw hr; exact ih hw hr
  | noRoom k _ ih => intro w w' x hw hr; exact ih hw hr
  | extern f k _ ih => intro w w' x hw hr; exact ih hw hr
  | frozen a k h1 _ ih =>
    intro w w' x hw hr
    simp only [Sem.run] at hr
    cases hf : w.frozen? a with
    | true =>
      rw [hf] at hr
      obtain ⟨y, w1, hk, hy⟩ := h1 w
      rw [hy] at hr
      simp only [Result.halt.injEq] at hr
      obtain ⟨rfl, _⟩ := hr
      exact hk
    | false => rw [hf] at hr; exact ih hw hr
  | doomed s h =>
    intro w w' x hw hr
    obtain ⟨y, w1, hk, hy⟩ := h w
    rw [hy] at hr
    simp only [Result.halt.injEq] at hr
    obtain ⟨rfl, _⟩ := hr
    exact hk
def codeOk (P : Program) (L : Allow) : Code → Bool
  | .skip | .label _ | .exit _ | .ret => true
  | .region _ ops _ => ops.toList.all fun o => opOk P L o.op
  | .seq a b => codeOk P L a && codeOk P L b
  | .cond _ a b => codeOk P L a && codeOk P L b
  | .block _ c | .loop c | .scope c => codeOk P L c
  | .rangeFunc .. | .goto _ | .refuse _ => false
def itemOk (P : Program) (L : Allow) : Item → Bool
  | .code c | .inLoop c => codeOk P L c
  | .inBlock _ | .inScope _ => true
  | .inRegion ops _ => ops.toList.all fun o => opOk P L o.op
  | _ => false
def gworld : GStep → World
  | .go _ w _ | .comm _ _ _ _ w _ | .spawn _ _ w _ | .count _ w _ | .timer _ _ w _ | .alone _ _ w _ | .newcoro _ _ _ w _ | .coroswitch _ _ _ w _ | .collect _ w _ | .watch _ w _ | .ended _ w _ => w
theorem gworld_after (es : Array Event) (s : GStep) : gworld (GStep.after es s) = gworld s := by cases s <;> rfl
theorem exitTo_app {id : Nat} {pre kL kC k1 : List Item} (hk : exitTo id kL = none) (h : exitTo id (pre ++ kL) = some k1) : ∃ l pre', pre = l ++ pre' ∧ k1 = pre' ++ kL ∧ exitTo id (pre ++ kC) = some (pre' ++ kC) := by
  induction pre with
  | nil => rw [List.nil_append, hk] at h; cases h
  | cons x pre ih =>
    have step : ∀ {kk}, (∀ id', x ≠ .inBlock id') → exitTo id (x :: kk) = exitTo id kk := fun hx => by cases x <;> first | rfl | exact absurd rfl (hx _)
    by_cases hx : ∃ id', x = .inBlock id'
    · obtain ⟨id', rfl⟩ := hx
      simp only [List.cons_append, exitTo] at h ⊢
      by_cases he : (id' == id) = true
      · rw [if_pos he] at h ⊢
        exact ⟨[.inBlock id'], pre, rfl, (Option.some.inj h).symm, rfl⟩
      · rw [if_neg he] at h ⊢
        obtain ⟨l, pre', h1, h2, h3⟩ := ih h
        exact ⟨.inBlock id' :: l, pre', by rw [h1]; rfl, h2, h3⟩
    · have hx' : ∀ id', x ≠ .inBlock id' := fun id' e => hx ⟨id', e⟩
      rw [List.cons_append, step hx'] at h
      rw [List.cons_append, step hx']
      obtain ⟨l, pre', h1, h2, h3⟩ := ih h
      exact ⟨x :: l, pre', by rw [h1]; rfl, h2, h3⟩
end
end Go.Proofs.Ytecdiejeofclaaa


/- Infrastructure G: one step of a goroutine in allowed code. -/
namespace Go.Proofs.Ytecdiejeofclaaa
open Go Go.Conc
section
variable {P : Program} {S : Addr → Prop} {main : Bool}
/-- It takes this step in w, alike to one that came to u'. -/
def Does (P : Program) (main E : Bool) (S : Addr → Prop) (u u' w : World) (g g' : Goroutine) : Prop :=
  ∃ w' es, stepG P main g w = .go g' w' es ∧ Sim E S u' w' ∧ Kept S w w' ∧ u'.tape = u.tape ∧ u'.drawn + w.drawn = w'.drawn + u.drawn ∧ ∀ e ∈ es, EvHd (StillOf S) w'.heap.size e
/-- The tapes of the two worlds answer alike as far as this step asks. -/
def Heard (P : Program) (main : Bool) (u w : World) (g : Goroutine) : Prop := (Ready0 w ∧ Agree u w ((gworld (stepG P main g w)).drawn - w.drawn)) ∨ ∀ c, Agree u w c
/-- In whatever world that is alike. -/
def AllDoes (P : Program) (main : Bool) (S : Addr → Prop) (u u' : World) (g g' : Goroutine) : Prop := ∀ (E : Bool) (w : World), Sim E S u w → Heard P main u w g → Does P main E S u u' w g g'
theorem does_move {u : World} {g g' : Goroutine} (h : ∀ w, stepG P main g w = .go g' w) : AllDoes P main S u u g g' :=
  fun _ w hs _ => ⟨w, _, h w, hs, Kept.refl _ _, rfl, Nat.add_comm _ _, by simp⟩
/-- The ways of one step, of whoever stands in allowed code 'it :: pre', with kL | kC behind it and csL | csC below. -/
def One (P : Program) (L : Allow) (main : Bool) (S : Addr → Prop) (b : Frame) (a : Act) (it : Item) (pre kL kC : List Item) (csL csC : List Frame) (g : Goroutine) (u u' : World) : Prop :=
  (∃ a' pre', g = G (b.at a' (pre' ++ kL)) csL ∧ (∀ x ∈ pre', itemOk P L x = true) ∧ a'.defers = a.defers ∧ AllDoes P main S u u' (G (b.at a (it :: pre ++ kC)) csC) (G (b.at a' (pre' ++ kC)) csC)) ∨
  (g = G { b.at a (it :: pre ++ kL) with mode := .returning } csL ∧ AllDoes P main S u u' (G (b.at a (it :: pre ++ kC)) csC) (G { b.at a (it :: pre ++ kC) with mode := .returning } csC)) ∨
  (∃ f args, f ∈ L.L ∧ (∃ ops i rest, it = .inRegion ops (i :: rest)) ∧ g = G (Frame.enter P f args .normal) (b.at a (it :: pre ++ kL) :: csL) ∧
    AllDoes P main S u u' (G (b.at a (it :: pre ++ kC)) csC) (G (Frame.enter P f args .normal) (b.at a (it :: pre ++ kC) :: csC))) ∨
  (∃ c, g = G { b.at a (it :: pre ++ kL) with mode := .panicking c } csL)
theorem act_const (a : Act) (x : Value) : a.eval (.const x) = x := rfl
theorem act_func (a : Act) (f : FuncId) : a.eval (.func f) = .func (.func f) #[] #[] := rfl
theorem after_go {es es1 : Array Event} {s : GStep} {g : Goroutine} {w : World} (h : GStep.after es s = .go g w es1) : ∃ es0, s = .go g w es0 := by
  cases s with
  | go g0 w0 e0 =>
    change GStep.go g0 w0 (es ++ e0) = _ at h
    simp only [GStep.go.injEq] at h
    obtain ⟨rfl, rfl, _⟩ := h
    exact ⟨_, rfl⟩
  | _ => cases h
/-- An operation that is wanted, in both worlds. -/
theorem one_op {L : Allow} (hA : ∀ f ∈ L.A, AtomOk P f) {b : Frame} (hb : b.kind ≠ .early) {a : Act} {ops : Array Oper} {i : Nat} {rest : List Nat} {pre kL kC : List Item} {csL csC : List Frame} {o : Oper} {u u' : World} {g : Goroutine} {es0 : Array Event}
    (ho : ops[i]? = some o) (hw : Region.wanted o (yielded ops a.tmps) = true) (hok : opOk P L o.op = true) (hops : itemOk P L (.inRegion ops rest) = true) (hpre : ∀ x ∈ pre, itemOk P L x = true) (hu : Ready0 u)
    (hstep : stepG P true (G (b.at a (.inRegion ops (i :: rest) :: pre ++ kL)) csL) u = .go g u' es0) : One P L main S b a (.inRegion ops (i :: rest)) pre kL kC csL csC g u u' := by
  have hT : Tame P (nextOk L) (execOp a.eval o) := execOp_tame hA a.eval (act_const a) (act_func a) o hok
  have hbk : ∀ td, ((b.at a td).kind == CallKind.early) = false := fun td => by simpa [Frame.at] using hb
  rw [List.cons_append, stepG_oper ho hw] at hstep
  have hfin : ∀ v kk, (b.at a (.inRegion ops (i :: rest) :: kk)).finish v = b.at (a.put o.dst v) (.inRegion ops rest :: kk) := fun v kk => by rw [Frame.finish_at, ho]; rfl
  have hput : ∀ v, (a.put o.dst v).defers = a.defers := fun v => by unfold Act.put; split <;> rfl
  have hdrawn : ∀ w, Ready0 w → (gworld (stepG P main (G (b.at a (.inRegion ops (i :: rest) :: pre ++ kC)) csC) w)).drawn = (rworld ((execOp a.eval o).run P w)).drawn := fun w hR => by
    rw [List.cons_append, stepG_oper ho hw]
    unfold stepG.apply
    simp only [if_true, hbk, Bool.false_eq_true, if_false, gworld_after, Sem.runT_eq]
    cases hr : (execOp a.eval o).run P w with
    | ok n w1 =>
      have hl := tame_leaf hT hr
      cases n <;> first | rfl | exact hl.elim
    | halt x w1 =>
      have hh := tame_halts hT hR hr
      cases x with
      | unsupported q => cases q <;> first | rfl | exact hh.elim
      | _ => first | rfl | exact hh.elim
  have hAg' : ∀ w, Heard P main u w (G (b.at a (.inRegion ops (i :: rest) :: pre ++ kC)) csC) → Agree u w ((rworld ((execOp a.eval o).run P w)).drawn - w.drawn) := fun w hAg => by
    rcases hAg with ⟨hR, h⟩ | h
    · rw [← hdrawn w hR]; exact h
    · exact h _
  have hgen : ∀ {n : Next} {v' : World}, (execOp a.eval o).run P u = .ok n v' → ∀ {g' : Goroutine}, (∀ es w1, GStep.after es (match (Result.ok n w1 : Result Next) with
      | .ok (.value v) w => GStep.go (G ((b.at a (.inRegion ops (i :: rest) :: (pre ++ kC))).finish v) csC) w
      | .ok .skip w => GStep.go (G ((b.at a (.inRegion ops (i :: rest) :: (pre ++ kC))).finish undef) csC) w
      | .ok (.enter f args) w => GStep.go (G (Frame.enter P f args .normal) (b.at a (.inRegion ops (i :: rest) :: (pre ++ kC)) :: csC)) w
      | _ => GStep.ended (.stuck "" "") w1) = .go g' w1 es) → AllDoes P main S u v' (G (b.at a (.inRegion ops (i :: rest) :: pre ++ kC)) csC) g' := by
    intro n v' hr g' hg E w hs hAg
    obtain ⟨w1, new, A⟩ := tame_sim hT #[] hs hr (hAg' w hAg)
    refine ⟨w1, seen P b.fn (#[] ++ new), ?_, A.sim, A.kept, A.tape, A.drawn, fun e he => A.evs e (by simpa using mem_seen he)⟩
    rw [← hg (seen P b.fn (#[] ++ new)) w1, List.cons_append, stepG_oper ho hw]
    unfold stepG.apply
    simp only [if_true, A.run, hbk, Bool.false_eq_true, if_false]
    have hl := A.leaf
    cases n <;> first | rfl | exact hl.elim
  unfold stepG.apply at hstep
  simp only [if_true, hbk, Bool.false_eq_true, if_false, Sem.runT_eq] at hstep
  obtain ⟨es2, hstep⟩ := after_go hstep
  cases hr : (execOp a.eval o).run P u with
  | ok n v' =>
    have hl := tame_leaf hT hr
    rw [hr] at hstep
    cases n with
    | value v =>
      simp only [GStep.go.injEq] at hstep
      obtain ⟨rfl, rfl, _⟩ := hstep
      refine .inl ⟨a.put o.dst v, .inRegion ops rest :: pre, ?_, ?_, hput v, hgen hr (fun es w1 => ?_)⟩
      · rw [hfin]; rfl
      · intro x hx
        rcases List.mem_cons.1 hx with rfl | hx
        · exact hops
        · exact hpre x hx
      · simp only [hfin, GStep.after, Array.append_empty]; rfl
    | skip =>
      simp only [GStep.go.injEq] at hstep
      obtain ⟨rfl, rfl, _⟩ := hstep
      refine .inl ⟨a.put o.dst undef, .inRegion ops rest :: pre, ?_, ?_, hput undef, hgen hr (fun es w1 => ?_)⟩
      · rw [hfin]; rfl
      · intro x hx
        rcases List.mem_cons.1 hx with rfl | hx
        · exact hops
        · exact hpre x hx
      · simp only [hfin, GStep.after, Array.append_empty]; rfl
    | enter f args =>
      simp only [GStep.go.injEq] at hstep
      obtain ⟨rfl, rfl, _⟩ := hstep
      refine .inr (.inr (.inl ⟨f, args, hl, ⟨ops, i, rest, rfl⟩, rfl, hgen hr (fun es w1 => ?_)⟩))
      simp only [GStep.after, Array.append_empty]; rfl
    | _ => exact hl.elim
  | halt x v' =>
    have hh := tame_halts hT hu hr
    rw [hr] at hstep
    cases x with
    | panic v =>
      simp only [GStep.go.injEq] at hstep
      obtain ⟨rfl, rfl, _⟩ := hstep
      exact .inr (.inr (.inr ⟨_, rfl⟩))
    | unsupported q => cases q <;> first | (simp at hstep; done) | exact hh.elim
    | stuck q => simp at hstep
    | _ => exact hh.elim
theorem stepG_scope {b : Frame} {a : Act} {k : List Item} {cs : List Frame} {w : World} {c : Code} : stepG P main (G (b.at a (.code (.scope c) :: k)) cs) w = .go (G (b.at a (.code c :: .inScope c :: k)) cs) w := by simp [G, stepG, stepG.exec, Frame.at]
theorem stepG_inScope {b : Frame} {a : Act} {k : List Item} {cs : List Frame} {w : World} {c : Code} : stepG P main (G (b.at a (.inScope c :: k)) cs) w = .go (G (b.at a k) cs) w := by simp [G, stepG, stepG.exec, Frame.at]
theorem stepG_draw {b : Frame} {a : Act} {k : List Item} {cs : List Frame} {w : World} {id : Nat} {ops : Array Oper} : stepG P main (G (b.at a (.code (.region id ops true) :: k)) cs) w =
    .go (G (b.at a (.inRegion ops (Region.schedule (P.follows .mixedOrders) ops (w.tape w.drawn (.order b.fn id))) :: k)) cs) { w with drawn := w.drawn + 1 } := by
  simp [G, stepG, stepG.exec, Frame.at, choose, Sem.run, Question.forced, Question.cut]
theorem stepG_idle {b : Frame} {a : Act} {k : List Item} {cs : List Frame} {w : World} {ops : Array Oper} {i : Nat} {rest : List Nat} (h : ((ops[i]?).map (Region.wanted · (yielded ops a.tmps))).getD false = false) :
    stepG P main (G (b.at a (.inRegion ops (i :: rest) :: k)) cs) w = .go (G (b.at (a.put ((ops[i]?).bind (·.dst)) undef) (.inRegion ops rest :: k)) cs) w := by
  rw [← Frame.finish_at]
  have h' := h
  simp only [Frame.at] at *
  simp [G, stepG, stepG.exec, h']
theorem one_step {L : Allow} (hA : ∀ f ∈ L.A, AtomOk P f) {b : Frame} (hb : b.kind ≠ .early) {a : Act} {it : Item} {pre kL kC : List Item} {csL csC : List Frame} {u u' : World} {g : Goroutine} {es0 : Array Event}
    (hk : ∀ id, exitTo id kL = none) (hit : itemOk P L it = true) (hpre : ∀ x ∈ pre, itemOk P L x = true) (hu : Ready0 u)
    (hstep : stepG P true (G (b.at a (it :: pre ++ kL)) csL) u = .go g u' es0) : One P L main S b a it pre kL kC csL csC g u u' := by
  have cons_ok : ∀ {x : Item}, itemOk P L x = true → ∀ y ∈ x :: pre, itemOk P L y = true := fun hx y hy => by
    rcases List.mem_cons.1 hy with rfl | hy
    · exact hx
    · exact hpre y hy
  have cons2 : ∀ {x z : Item}, itemOk P L x = true → itemOk P L z = true → ∀ y ∈ x :: z :: pre, itemOk P L y = true := fun hx hz y hy => by
    rcases List.mem_cons.1 hy with rfl | hy
    · exact hx
    · exact cons_ok hz y hy
  cases it with
  | inBlock id =>
    rw [List.cons_append, stepG_inBlock] at hstep
    simp only [GStep.go.injEq] at hstep
    obtain ⟨rfl, rfl, _⟩ := hstep
    exact .inl ⟨a, pre, rfl, hpre, rfl, does_move (fun w => by rw [List.cons_append]; exact stepG_inBlock)⟩
  | inScope c =>
    rw [List.cons_append, stepG_inScope] at hstep
    simp only [GStep.go.injEq] at hstep
    obtain ⟨rfl, rfl, _⟩ := hstep
    exact .inl ⟨a, pre, rfl, hpre, rfl, does_move (fun w => by rw [List.cons_append]; exact stepG_inScope)⟩
  | inLoop c =>
    rw [List.cons_append, stepG_inLoop] at hstep
    simp only [GStep.go.injEq] at hstep
    obtain ⟨rfl, rfl, _⟩ := hstep
    exact .inl ⟨a, .code c :: .inLoop c :: pre, rfl, cons2 hit hit, rfl, does_move (fun w => by rw [List.cons_append]; exact stepG_inLoop)⟩
  | inRegion ops l =>
    cases l with
    | nil =>
      rw [List.cons_append, stepG_region_end] at hstep
      simp only [GStep.go.injEq] at hstep
      obtain ⟨rfl, rfl, _⟩ := hstep
      exact .inl ⟨a, pre, rfl, hpre, rfl, does_move (fun w => by rw [List.cons_append]; exact stepG_region_end)⟩
    | cons i rest =>
      cases hw : ((ops[i]?).map (Region.wanted · (yielded ops a.tmps))).getD false with
      | false =>
        rw [List.cons_append, stepG_idle hw] at hstep
        simp only [GStep.go.injEq] at hstep
        obtain ⟨rfl, rfl, _⟩ := hstep
        exact .inl ⟨_, .inRegion ops rest :: pre, rfl, cons_ok hit, by unfold Act.put; split <;> rfl, does_move (fun w => by rw [List.cons_append]; exact stepG_idle hw)⟩
      | true =>
        cases ho : ops[i]? with
        | none => rw [ho] at hw; cases hw
        | some o =>
          rw [ho] at hw
          simp only [Option.map_some, Option.getD_some] at hw
          have hok : opOk P L o.op = true := by
            have := List.all_eq_true.1 hit o (by simpa using Array.mem_of_getElem? ho)
            exact this
          exact one_op hA hb ho hw hok hit hpre hu hstep
  | code c =>
    cases c with
    | skip =>
      rw [List.cons_append, stepG_skip] at hstep
      simp only [GStep.go.injEq] at hstep
      obtain ⟨rfl, rfl, _⟩ := hstep
      exact .inl ⟨a, pre, rfl, hpre, rfl, does_move (fun w => by rw [List.cons_append]; exact stepG_skip)⟩
    | label l =>
      rw [List.cons_append, stepG_label] at hstep
      simp only [GStep.go.injEq] at hstep
      obtain ⟨rfl, rfl, _⟩ := hstep
      exact .inl ⟨a, pre, rfl, hpre, rfl, does_move (fun w => by rw [List.cons_append]; exact stepG_label)⟩
    | seq x y =>
      rw [List.cons_append, stepG_seq] at hstep
      simp only [GStep.go.injEq] at hstep
      obtain ⟨rfl, rfl, _⟩ := hstep
      simp only [itemOk, codeOk, Bool.and_eq_true] at hit
      exact .inl ⟨a, .code x :: .code y :: pre, rfl, cons2 hit.1 hit.2, rfl, does_move (fun w => by rw [List.cons_append]; exact stepG_seq)⟩
    | cond c x y =>
      simp only [itemOk, codeOk, Bool.and_eq_true] at hit
      cases hc : a.eval c with
      | bool t =>
        rw [List.cons_append, stepG_cond hc] at hstep
        simp only [GStep.go.injEq] at hstep
        obtain ⟨rfl, rfl, _⟩ := hstep
        exact .inl ⟨a, .code (if t then x else y) :: pre, rfl, cons_ok (by cases t <;> simp_all [itemOk]), rfl, does_move (fun w => by rw [List.cons_append]; exact stepG_cond hc)⟩
      | _ =>
        exfalso
        have he := Frame.eval_at b a (.code (.cond c x y) :: (pre ++ kL)) c
        simp only [Frame.at] at he
        rw [List.cons_append] at hstep
        simp [G, stepG, stepG.exec, Frame.at, he, hc] at hstep
    | block id c =>
      rw [List.cons_append, stepG_block] at hstep
      simp only [GStep.go.injEq] at hstep
      obtain ⟨rfl, rfl, _⟩ := hstep
      exact .inl ⟨a, .code c :: .inBlock id :: pre, rfl, cons2 hit rfl, rfl, does_move (fun w => by rw [List.cons_append]; exact stepG_block)⟩
    | loop c =>
      rw [List.cons_append, stepG_loop] at hstep
      simp only [GStep.go.injEq] at hstep
      obtain ⟨rfl, rfl, _⟩ := hstep
      exact .inl ⟨a, .code c :: .inLoop c :: pre, rfl, cons2 hit hit, rfl, does_move (fun w => by rw [List.cons_append]; exact stepG_loop)⟩
    | scope c =>
      rw [List.cons_append, stepG_scope] at hstep
      simp only [GStep.go.injEq] at hstep
      obtain ⟨rfl, rfl, _⟩ := hstep
      exact .inl ⟨a, .code c :: .inScope c :: pre, rfl, cons2 hit rfl, rfl, does_move (fun w => by rw [List.cons_append]; exact stepG_scope)⟩
    | exit id =>
      cases hx : exitTo id (pre ++ kL) with
      | some k1 =>
        obtain ⟨l, pre', h1, h2, h3⟩ := exitTo_app (kC := kC) (hk id) hx
        rw [List.cons_append, stepG_exit hx] at hstep
        simp only [GStep.go.injEq] at hstep
        obtain ⟨rfl, rfl, _⟩ := hstep
        exact .inl ⟨a, pre', by rw [h2], fun y hy => hpre y (by rw [h1]; exact List.mem_append_right _ hy), rfl, does_move (fun w => by rw [List.cons_append]; exact stepG_exit h3)⟩
      | none =>
        exfalso
        rw [List.cons_append] at hstep
        simp [G, stepG, stepG.exec, Frame.at, hx] at hstep
    | ret =>
      have h1 : ∀ {m : Bool} {kk : List Item} {cs : List Frame} {w : World}, stepG P m (G (b.at a (.code .ret :: kk)) cs) w = .go (G { b.at a (.code .ret :: kk) with mode := .returning } cs) w := by
        intro m kk cs w
        simp [G, stepG, stepG.exec, Frame.at]
      rw [List.cons_append, h1] at hstep
      simp only [GStep.go.injEq] at hstep
      obtain ⟨rfl, rfl, _⟩ := hstep
      exact .inr (.inl ⟨rfl, does_move (fun w => by rw [List.cons_append]; exact h1)⟩)
    | region id ops draw =>
      cases draw with
      | false =>
        rw [List.cons_append, stepG_region] at hstep
        simp only [GStep.go.injEq] at hstep
        obtain ⟨rfl, rfl, _⟩ := hstep
        exact .inl ⟨a, .inRegion ops (List.range ops.size) :: pre, rfl, cons_ok hit, rfl, does_move (fun w => by rw [List.cons_append]; exact stepG_region)⟩
      | true =>
        rw [List.cons_append, stepG_draw] at hstep
        simp only [GStep.go.injEq] at hstep
        obtain ⟨rfl, rfl, _⟩ := hstep
        refine .inl ⟨a, .inRegion ops (Region.schedule (P.follows .mixedOrders) ops (u.tape u.drawn (.order b.fn id))) :: pre, rfl, cons_ok hit, rfl, fun E w hs hAg => ?_⟩
        have h0 : u.tape u.drawn = w.tape w.drawn := by
          rcases hAg with ⟨_, h⟩ | h
          · rw [List.cons_append, stepG_draw] at h
            have := h 0 (by simp [gworld])
            simpa using this
          · simpa using h 1 0 (by omega)
        refine ⟨{ w with drawn := w.drawn + 1 }, #[], ?_, ⟨hs.os, hs.output, hs.size, hs.block, hs.still, hs.ready⟩, ⟨Nat.le_refl _, fun _ _ h _ => h, fun _ _ => rfl, rfl, Nat.le_succ _, ⟨fun b c e f h => ⟨c, h⟩, rfl, rfl, rfl, fun _ _ h _ _ => h⟩⟩, rfl, by simp only; omega, by simp⟩
        rw [List.cons_append, stepG_draw, h0]; rfl
    | _ => simp [itemOk, codeOk] at hit
  | _ => simp [itemOk] at hit
end
end Go.Proofs.Ytecdiejeofclaaa


/- Infrastructure H: stacks of frames in allowed code: one step of the whole. -/
namespace Go.Proofs.Ytecdiejeofclaaa
open Go Go.Conc
section
variable {P : Program} {S : Addr → Prop} {main : Bool}
def trap : List Item := [.code (.refuse "")]
/-- A caller below which nothing goes on: a return into it, or a panic, ends the run. -/
def trapF : Frame := { fn := 0, tmps := #[], todo := trap, defers := [{ target := .nil, args := #[] }], mode := .run, kind := .normal }
def LOk (P : Program) (L : Allow) : Prop := (∀ f ∈ L.L, ∃ fn c, P.funcs[f]? = some fn ∧ fn.body = some c ∧ codeOk P L c = true) ∧ ∀ f ∈ L.A, AtomOk P f
structure FrIn (P : Program) (L : Allow) (x : Frame) : Prop where
  round : x.roundOf = none
  kind : x.kind = .normal
  defers : x.defers = []
  fn : x.fn ∈ L.L
  todo : ∀ it ∈ x.todo, itemOk P L it = true
/-- A frame that waits at a call. -/
structure Sus (P : Program) (L : Allow) (x : Frame) : Prop where
  fr : FrIn P L x
  run : x.mode = .run
  at_ : ∃ ops i rest k, x.todo = .inRegion ops (i :: rest) :: k
inductive Stk (P : Program) (L : Allow) (b : Frame) (k : List Item) (cs : List Frame) : Goroutine → Goroutine → Prop
  | base (a : Act) (pre : List Item) (hd : a.defers = []) (hpre : ∀ it ∈ pre, itemOk P L it = true) : Stk P L b k cs (G (b.at a (pre ++ trap)) [trapF]) (G (b.at a (pre ++ k)) cs)
  | baseRet (a : Act) (pre : List Item) (hd : a.defers = []) : Stk P L b k cs (G { b.at a (pre ++ trap) with mode := .returning } [trapF]) (G { b.at a (pre ++ k) with mode := .returning } cs)
  | inner (x : Frame) (ms : List Frame) (a : Act) (ops : Array Oper) (i : Nat) (rest : List Nat) (pre : List Item) (hx : FrIn P L x) (hm : x.mode = .run ∨ x.mode = .returning) (hms : ∀ m ∈ ms, Sus P L m) (hd : a.defers = []) (hit : itemOk P L (.inRegion ops (i :: rest)) = true) (hpre : ∀ it ∈ pre, itemOk P L it = true) :
      Stk P L b k cs (G x (ms ++ [b.at a (.inRegion ops (i :: rest) :: pre ++ trap), trapF])) (G x (ms ++ b.at a (.inRegion ops (i :: rest) :: pre ++ k) :: cs))
inductive DoomL : Goroutine → Prop
  | mk (x : Frame) (ms : List Frame) (c : List PanicEntry) (hx : x.mode = .panicking c) (hd : x.defers = []) (hk : x.todo.head? = none ∨ ∀ d wr r s, x.todo.head? ≠ some (.call d wr r s)) (hms : ∀ m ∈ ms, m.defers = [] ∧ m.mode = .run ∧ ∀ d wr r s, m.todo.head? ≠ some (.call d wr r s)) : DoomL (G x (ms ++ [trapF]))
  | last (c : List PanicEntry) : DoomL (G { trapF with mode := .panicking c } [])
theorem exit_trap (id : Nat) : exitTo id trap = none := rfl
theorem exit_nil (id : Nat) : exitTo id [] = none := rfl
theorem frIn_at {L : Allow} {x : Frame} (hx : FrIn P L x) (hm : x.mode = .run) : x = x.at ⟨x.tmps, x.defers⟩ x.todo := by
  obtain ⟨fn, tmps, todo, defers, mode, kind, roundOf⟩ := x
  obtain ⟨h1, h2, h3, h4, h5⟩ := hx
  simp only at h1 hm
  subst h1 hm
  rfl
theorem frIn_enter {L : Allow} (hL : LOk P L) {f : FuncId} (hf : f ∈ L.L) (args : Array Value) : FrIn P L (Frame.enter P f args .normal) ∧ (Frame.enter P f args .normal).mode = .run := by
  obtain ⟨fn, c, h1, h2, h3⟩ := hL.1 f hf
  refine ⟨⟨rfl, rfl, rfl, hf, ?_⟩, rfl⟩
  intro it hit
  simp only [Frame.enter, h1, h2, Option.bind_some, Option.getD_some, List.mem_singleton] at hit
  subst hit
  exact h3
theorem tame_results (fn : Func) (tmps : Array Value) : Tame P (fun _ => True) (results fn tmps) := by
  unfold results
  refine Tame.bind' (tame_array_mapM _ (fun r => ?_) _) fun _ _ => ?_
  · cases r with
    | tmp t => exact tame_pure _ trivial
    | cell a t => exact Tame.bind' (tame_asAddr _) fun _ _ => tame_loadVar _ _
  · exact tame_pure _ trivial
theorem stepG_return {x c : Frame} {cs : List Frame} {w : World} {fn : Func} {m : Bool} (hm : x.mode = .returning) (hd : x.defers = []) (hk : x.kind = .normal) (hf : P.funcs[x.fn]? = some fn) :
    stepG P m (G x (c :: cs)) w = GStep.after (seen P x.fn ((results fn x.tmps).runT P w #[]).2) (match ((results fn x.tmps).runT P w #[]).1 with
      | .ok v w => .go (G (c.finish v) cs) w
      | .halt (.stuck s) w => .ended (.stuck s (x.pos P)) w
      | .halt _ w => .ended (.stuck "return: the result variables cannot be read" (x.pos P)) w) := by
  simp only [G, stepG, hm, unwind, hd, hf]
  congr 1
  generalize ((results fn x.tmps).runT P w #[]).1 = r
  cases r with
  | ok v w1 => simp only [doReturn, hk]
  | halt y w1 => cases y <;> rfl
/-- The return of an inner frame. -/
theorem ret_does {x c c' : Frame} {csL csC : List Frame} {u u' : World} {fn : Func} {g : Goroutine} {es0 : Array Event} (hm : x.mode = .returning) (hd : x.defers = []) (hk : x.kind = .normal) (hf : P.funcs[x.fn]? = some fn)
    (hstep : stepG P true (G x (c :: csL)) u = .go g u' es0) : ∃ v, g = G (c.finish v) csL ∧ AllDoes P main S u u' (G x (c' :: csC)) (G (c'.finish v) csC) := by
  have hT := tame_results (P := P) fn x.tmps
  rw [stepG_return hm hd hk hf, Sem.runT_eq] at hstep
  obtain ⟨es2, hstep⟩ := after_go hstep
  cases hr : (results fn x.tmps).run P u with
  | halt y w1 => rw [hr] at hstep; cases y <;> cases hstep
  | ok v u1 =>
    rw [hr] at hstep
    simp only [GStep.go.injEq] at hstep
    obtain ⟨rfl, rfl, _⟩ := hstep
    refine ⟨v, rfl, fun E w hs hAg => ?_⟩
    have hA' : Agree u w ((rworld ((results fn x.tmps).run P w)).drawn - w.drawn) := by
      rcases hAg with ⟨_, h⟩ | h
      · rw [stepG_return hm hd hk hf, gworld_after, runT_run] at h
        revert h
        cases (results fn x.tmps).run P w with
        | ok v w1 => exact id
        | halt y w1 => cases y <;> exact id
      · exact h _
    obtain ⟨w1, new, A⟩ := tame_sim hT #[] hs hr hA'
    refine ⟨w1, seen P x.fn (#[] ++ new), ?_, A.sim, A.kept, A.tape, A.drawn, fun e he => A.evs e (by simpa using mem_seen he)⟩
    rw [stepG_return hm hd hk hf, A.run]
    simp [GStep.after]
theorem sus_finish {L : Allow} {m : Frame} (h : Sus P L m) (v : Value) : FrIn P L (m.finish v) ∧ (m.finish v).mode = .run := by
  obtain ⟨⟨h1, h2, h3, h4, h5⟩, h6, ops, i, rest, k, h7⟩ := h
  have e : m.finish v = { m with tmps := match (ops[i]?).bind (·.dst) with
                | some d => m.tmps.setIfInBounds d v
                | none => m.tmps, todo := .inRegion ops rest :: k } := by
    unfold Frame.finish; rw [h7]; rfl
  rw [e]
  refine ⟨⟨h1, h2, h3, h4, fun it hit => ?_⟩, h6⟩
  rcases List.mem_cons.1 hit with rfl | hit
  · have := h5 (.inRegion ops (i :: rest)) (by rw [h7]; simp)
    exact this
  · exact h5 it (by rw [h7]; simp [hit])
theorem stk_step {L : Allow} (hL : LOk P L) {b : Frame} (hb : b.kind ≠ .early) {k : List Item} {cs : List Frame} {gL gC g : Goroutine} {u u' : World} {es0 : Array Event} (hst : Stk P L b k cs gL gC) (hu : Ready0 u)
    (hnf : ∀ a, gL ≠ G (b.at a trap) [trapF]) (hnr : ∀ a td, gL ≠ G { b.at a td with mode := .returning } [trapF]) (hstep : stepG P true gL u = .go g u' es0) :
    (∃ gC', Stk P L b k cs g gC' ∧ AllDoes P main S u u' gC gC') ∨ DoomL g := by
  cases hst with
  | base a pre hd hpre =>
    cases pre with
    | nil => exact absurd rfl (hnf a)
    | cons it pre =>
      rcases one_step (S := S) (main := main) (kC := k) (csC := cs) hL.2 hb exit_trap (hpre it (by simp)) (fun x hx => hpre x (by simp [hx])) hu hstep with ⟨a', pre', rfl, h2, h3, h4⟩ | ⟨rfl, h4⟩ | ⟨f, args, h1, ⟨ops, i, rest, rfl⟩, rfl, h4⟩ | ⟨c, rfl⟩
      · exact .inl ⟨_, .base a' pre' (h3.trans hd) h2, h4⟩
      · exact .inl ⟨_, .baseRet a (it :: pre) hd, h4⟩
      · obtain ⟨h5, h6⟩ := frIn_enter hL h1 args
        exact .inl ⟨_, .inner _ [] a ops i rest pre h5 (.inl h6) (by simp) hd (hpre _ (by simp)) (fun x hx => hpre x (by simp [hx])), h4⟩
      · refine .inr (.mk _ [] c rfl hd (.inr fun d wr r s => ?_) (by simp))
        have := hpre it (by simp)
        simp only [List.cons_append, Frame.at, List.head?_cons]
        rintro e
        simp only [Option.some.injEq] at e
        subst e
        simp [itemOk] at this
  | baseRet a pre hd => exact absurd rfl (hnr a _)
  | inner x ms a ops i rest pre hx hm hms hd hit hpre =>
    have hbot : ∀ d wr r s, (b.at a (.inRegion ops (i :: rest) :: pre ++ trap)).todo.head? ≠ some (.call d wr r s) := fun d wr r s => by simp [Frame.at]
    have hsus : ∀ {m : Frame}, Sus P L m → m.defers = [] ∧ m.mode = .run ∧ ∀ d wr r s, m.todo.head? ≠ some (.call d wr r s) := fun {m} h => by
      obtain ⟨h1, h2, ops, i, rest, k, h7⟩ := h
      exact ⟨h1.defers, h2, fun d wr r s => by rw [h7]; simp⟩
    rcases hm with hm | hm
    · have e := frIn_at hx hm
      cases htd : x.todo with
      | nil =>
        rw [htd] at e
        rw [e, stepG_end] at hstep
        simp only [GStep.go.injEq] at hstep
        obtain ⟨rfl, rfl, _⟩ := hstep
        refine .inl ⟨_, .inner { x.at ⟨x.tmps, x.defers⟩ [] with mode := .returning } ms a ops i rest pre ⟨rfl, hx.kind, hx.defers, hx.fn, by simp [Frame.at]⟩ (.inr rfl) hms hd hit hpre, does_move fun w => ?_⟩
        rw [e]
        exact stepG_end
      | cons it pr =>
        rw [htd] at e
        have hok := hx.todo
        rw [htd] at hok
        have e2 : ∀ cs0, G x cs0 = G (x.at ⟨x.tmps, x.defers⟩ (it :: pr ++ [])) cs0 := fun cs0 => by rw [List.append_nil, ← e]
        rw [e2] at hstep
        rcases one_step (S := S) (main := main) (kC := []) (csC := ms ++ b.at a (.inRegion ops (i :: rest) :: pre ++ k) :: cs) hL.2 (by rw [hx.kind]; simp) exit_nil (hok it (by simp)) (fun y hy => hok y (by simp [hy])) hu hstep with ⟨a', pre', rfl, h2, h3, h4⟩ | ⟨rfl, h4⟩ | ⟨f, args, h1, ⟨ops', i', rest', rfl⟩, rfl, h4⟩ | ⟨c, rfl⟩
        · rw [← e2] at h4
          exact .inl ⟨_, .inner _ ms a ops i rest pre ⟨rfl, hx.kind, h3.trans hx.defers, hx.fn, by simpa [Frame.at] using h2⟩ (.inl rfl) hms hd hit hpre, h4⟩
        · rw [← e2] at h4
          exact .inl ⟨_, .inner _ ms a ops i rest pre ⟨rfl, hx.kind, hx.defers, hx.fn, by simpa [Frame.at] using hok⟩ (.inr rfl) hms hd hit hpre, h4⟩
        · rw [← e2] at h4
          rw [List.append_nil, ← e] at h4 ⊢
          obtain ⟨h5, h6⟩ := frIn_enter hL h1 args
          refine .inl ⟨_, .inner _ (x :: ms) a ops i rest pre h5 (.inl h6) (fun m hm' => ?_) hd hit hpre, h4⟩
          rcases List.mem_cons.1 hm' with rfl | hm'
          · exact ⟨hx, hm, ops', i', rest', pr, htd⟩
          · exact hms m hm'
        · refine .inr ?_
          have h8 : ms ++ [b.at a (.inRegion ops (i :: rest) :: pre ++ trap), trapF] = (ms ++ [b.at a (.inRegion ops (i :: rest) :: pre ++ trap)]) ++ [trapF] := by simp
          rw [h8]
          refine .mk _ _ c rfl hx.defers (.inr fun d wr r s => ?_) fun m hm' => ?_
          · simp only [List.cons_append, Frame.at, List.head?_cons]
            rintro e
            simp only [Option.some.injEq] at e
            have := hok it (by simp)
            rw [e] at this
            simp [itemOk] at this
          · rcases List.mem_append.1 hm' with h | h
            · exact hsus (hms m h)
            · simp only [List.mem_singleton] at h
              subst h
              exact ⟨hd, rfl, hbot⟩
    · obtain ⟨fn, c, hf, _, _⟩ := hL.1 x.fn hx.fn
      cases ms with
      | nil =>
        obtain ⟨v, rfl, h4⟩ := ret_does (S := S) (main := main) (c' := b.at a (.inRegion ops (i :: rest) :: pre ++ k)) (csC := cs) hm hx.defers hx.kind hf hstep
        have hfin : ∀ kk, (b.at a (.inRegion ops (i :: rest) :: pre ++ kk)).finish v = b.at (a.put ((ops[i]?).bind (·.dst)) v) ((.inRegion ops rest :: pre) ++ kk) := fun kk => by rw [List.cons_append, Frame.finish_at]; rfl
        refine .inl ⟨G (b.at (a.put ((ops[i]?).bind (·.dst)) v) ((.inRegion ops rest :: pre) ++ k)) cs, ?_, ?_⟩
        · rw [hfin]
          refine .base _ _ (by unfold Act.put; split <;> exact hd) fun y hy => ?_
          rcases List.mem_cons.1 hy with rfl | hy
          · exact hit
          · exact hpre y hy
        · rw [← hfin]; exact h4
      | cons m ms =>
        obtain ⟨v, rfl, h4⟩ := ret_does (S := S) (main := main) (c' := m) (csC := ms ++ b.at a (.inRegion ops (i :: rest) :: pre ++ k) :: cs) hm hx.defers hx.kind hf hstep
        obtain ⟨h5, h6⟩ := sus_finish (hms m (by simp)) v
        exact .inl ⟨_, .inner _ ms a ops i rest pre h5 (.inl h6) (fun y hy => hms y (by simp [hy])) hd hit hpre, h4⟩
/-- Over the trap itself the two sides are one. -/
theorem stk_same {L : Allow} {b : Frame} {g g' : Goroutine} (h : Stk P L b trap [trapF] g g') : g = g' := by
  cases h <;> rfl
/-- In such a stack a step goes on, or ends the run. -/
theorem item_goes {L : Allow} (hA : ∀ f ∈ L.A, AtomOk P f) {b : Frame} (hb : b.kind ≠ .early) {a : Act} {it : Item} {kk : List Item} {cs : List Frame} {u : World} (hu : Ready0 u) (hit : itemOk P L it = true) :
    (∃ g u' es, stepG P main (G (b.at a (it :: kk)) cs) u = .go g u' es) ∨ ∃ o u' es, stepG P main (G (b.at a (it :: kk)) cs) u = .ended o u' es := by
  cases it with
  | inBlock id => exact .inl ⟨_, _, _, stepG_inBlock⟩
  | inScope c => exact .inl ⟨_, _, _, stepG_inScope⟩
  | inLoop c => exact .inl ⟨_, _, _, stepG_inLoop⟩
  | inRegion ops l =>
    cases l with
    | nil => exact .inl ⟨_, _, _, stepG_region_end⟩
    | cons i rest =>
      cases hw : ((ops[i]?).map (Region.wanted · (yielded ops a.tmps))).getD false with
      | false => exact .inl ⟨_, _, _, stepG_idle hw⟩
      | true =>
        cases ho : ops[i]? with
        | none => rw [ho] at hw; cases hw
        | some o =>
          rw [ho] at hw
          simp only [Option.map_some, Option.getD_some] at hw
          have hok : opOk P L o.op = true := List.all_eq_true.1 hit o (by simpa using Array.mem_of_getElem? ho)
          have hT : Tame P (nextOk L) (execOp a.eval o) := execOp_tame hA a.eval (act_const a) (act_func a) o hok
          have hbk : ∀ td, ((b.at a td).kind == CallKind.early) = false := fun td => by simpa [Frame.at] using hb
          rw [stepG_oper ho hw]
          unfold stepG.apply
          simp only [if_true, hbk, Bool.false_eq_true, if_false, Sem.runT_eq]
          cases hr : (execOp a.eval o).run P u with
          | ok n u' =>
            have hl := tame_leaf hT hr
            cases n <;> first | exact .inl ⟨_, _, _, rfl⟩ | exact hl.elim
          | halt x u' =>
            have hh := tame_halts hT hu hr
            cases x with
            | unsupported q => cases q <;> first | exact .inr ⟨_, _, _, rfl⟩ | exact hh.elim
            | panic v => exact .inl ⟨_, _, _, rfl⟩
            | stuck q => exact .inr ⟨_, _, _, rfl⟩
            | _ => exact hh.elim
  | code c =>
    cases c with
    | skip => exact .inl ⟨_, _, _, stepG_skip⟩
    | label l => exact .inl ⟨_, _, _, stepG_label⟩
    | seq x y => exact .inl ⟨_, _, _, stepG_seq⟩
    | block id c => exact .inl ⟨_, _, _, stepG_block⟩
    | loop c => exact .inl ⟨_, _, _, stepG_loop⟩
    | scope c => exact .inl ⟨_, _, _, stepG_scope⟩
    | cond c x y =>
      cases hc : a.eval c with
      | bool t => exact .inl ⟨_, _, _, stepG_cond hc⟩
      | _ =>
        have he := Frame.eval_at b a (.code (.cond c x y) :: kk) c
        simp only [Frame.at] at he
        exact .inr ⟨_, _, _, by simp [G, stepG, stepG.exec, Frame.at, he, hc]; exact ⟨rfl, rfl, rfl⟩⟩
    | exit id =>
      cases hx : exitTo id kk with
      | some k1 => exact .inl ⟨_, _, _, stepG_exit hx⟩
      | none => exact .inr ⟨_, _, _, by simp [G, stepG, stepG.exec, Frame.at, hx]; exact ⟨rfl, rfl, rfl⟩⟩
    | ret => exact .inl ⟨_, _, _, stepG_ret'⟩
    | region id ops draw =>
      cases draw with
      | false => exact .inl ⟨_, _, _, stepG_region⟩
      | true => exact .inl ⟨_, _, _, stepG_draw⟩
    | _ => simp [itemOk, codeOk] at hit
  | _ => simp [itemOk] at hit
theorem stepG_trap {b : Frame} {a : Act} {cs : List Frame} {u : World} : ∃ o u' es, stepG P main (G (b.at a trap) cs) u = .ended o u' es := by
  exact ⟨_, _, _, by simp [G, stepG, stepG.exec, Frame.at, trap]; exact ⟨rfl, rfl, rfl⟩⟩
theorem stk_goes {L : Allow} (hL : LOk P L) {b : Frame} (hb : b.kind ≠ .early) {k : List Item} {cs : List Frame} {gL gC : Goroutine} {u : World} (hst : Stk P L b k cs gL gC) (hu : Ready0 u) (hnr : ∀ a td, gL ≠ G { b.at a td with mode := .returning } [trapF]) :
    (∃ g u' es, stepG P true gL u = .go g u' es) ∨ ∃ o u' es, stepG P true gL u = .ended o u' es := by
  cases hst with
  | base a pre hd hpre =>
    cases pre with
    | nil => exact .inr stepG_trap
    | cons it pre => rw [List.cons_append]; exact item_goes hL.2 hb hu (hpre it (by simp))
  | baseRet a pre hd => exact absurd rfl (hnr a _)
  | inner x ms a ops i rest pre hx hm hms hd hit hpre =>
    rcases hm with hm | hm
    · have e := frIn_at hx hm
      cases htd : x.todo with
      | nil => rw [htd] at e; rw [e]; exact .inl ⟨_, _, _, stepG_end⟩
      | cons it pr =>
        rw [htd] at e
        rw [e]
        exact item_goes hL.2 (by rw [hx.kind]; simp) hu (hx.todo it (by rw [htd]; simp))
    · obtain ⟨fn, c, hf, _, _⟩ := hL.1 x.fn hx.fn
      have : ∃ c cs', ms ++ [b.at a (.inRegion ops (i :: rest) :: pre ++ trap), trapF] = c :: cs' := by cases ms <;> exact ⟨_, _, rfl⟩
      obtain ⟨c, cs', e⟩ := this
      rw [e, stepG_return hm hx.defers hx.kind hf]
      generalize ((results fn x.tmps).runT P u #[]).1 = r
      cases r with
      | ok v w1 => exact .inl ⟨_, _, _, rfl⟩
      | halt y w1 => cases y <;> exact .inr ⟨_, _, _, rfl⟩
end
end Go.Proofs.Ytecdiejeofclaaa


/- Infrastructure I: a goroutine's own walk, on whatever tapes ('Hold'), and THE LIFT: a lone contract on a piece of allowed code gives such a walk. -/
namespace Go.Proofs.Ytecdiejeofclaaa
open Go Go.Conc
def _root_.Go.World.re (w : World) (t : Nat → Question → Nat) (d : Nat) : World := { w with tape := t, drawn := d }
theorem re_re (w : World) (t t' : Nat → Question → Nat) (d d' : Nat) : (w.re t d).re t' d' = w.re t' d' := rfl
theorem re_self (w : World) : w.re w.tape w.drawn = w := rfl
section
variable {P : Program} {S : Addr → Prop} {main : Bool} {Stop : Goroutine → World → Prop}
/-- This step, in the ghost world v; and alike in each world that is v's but for the marks. -/
def StepSim (P : Program) (main : Bool) (S : Addr → Prop) (g : Goroutine) (v : World) (g' : Goroutine) (v' : World) : Prop :=
  ∀ wa, Sim false S v wa → wa.tape = v.tape → wa.drawn = v.drawn → Does P main false S v v' wa g g'
/-- IT COMES TO A STOP, whatever the tape answers, and however the count of draws is moved ahead of each step. -/
inductive Hold (P : Program) (main : Bool) (S : Addr → Prop) (Stop : Goroutine → World → Prop) : Goroutine → World → Prop
  | stop (g : Goroutine) (w : World) (h : ∀ t d, Stop g (w.re t d)) : Hold P main S Stop g w
  | step' (g : Goroutine) (w : World) (hr : g.status = .running) (gn : (Nat → Question → Nat) → Nat → Goroutine) (wn : (Nat → Question → Nat) → Nat → World) (h : ∀ t d, StepSim P main S g (w.re t d) (gn t d) (wn t d)) (hh : ∀ t d, Hold P main S Stop (gn t d) (wn t d)) : Hold P main S Stop g w
theorem Hold.step (g : Goroutine) (w : World) (hr : g.status = .running) (h : ∀ t d, ∃ g' w', StepSim P main S g (w.re t d) g' w' ∧ Hold P main S Stop g' w') : Hold P main S Stop g w :=
  .step' g w hr (fun t d => (h t d).choose) (fun t d => (h t d).choose_spec.choose) (fun t d => (h t d).choose_spec.choose_spec.1) (fun t d => (h t d).choose_spec.choose_spec.2)
theorem Hold.re {g : Goroutine} {w : World} (h : Hold P main S Stop g w) (t : Nat → Question → Nat) (d : Nat) : Hold P main S Stop g (w.re t d) := by
  cases h with
  | stop _ _ h => exact .stop _ _ h
  | step' _ _ hr gn wn h hh => exact .step' _ _ hr gn wn h hh
theorem Hold.of_re {g : Goroutine} {w : World} {t : Nat → Question → Nat} {d : Nat} (h : Hold P main S Stop g (w.re t d)) : Hold P main S Stop g w := by
  have := h.re w.tape w.drawn
  rwa [re_re, re_self] at this
theorem Hold.of_like {g : Goroutine} {w w' : World} (h : Hold P main S Stop g w) (h1 : w'.heap = w.heap) (h2 : w'.os = w.os) (h3 : w'.output = w.output) : Hold P main S Stop g w' := by
  have : w' = w.re w'.tape w'.drawn := by
    obtain ⟨a, b, c, d, e⟩ := w
    obtain ⟨a', b', c', d', e'⟩ := w'
    simp only at h1 h2 h3
    subst h1 h2 h3
    rfl
  rw [this]
  exact h.re _ _
theorem Hold.then {Stop' : Goroutine → World → Prop} {g : Goroutine} {w : World} (h : Hold P main S Stop' g w) (hs : ∀ g w, Stop' g w → Hold P main S Stop g w) : Hold P main S Stop g w := by
  induction h with
  | stop g w h => exact (hs _ _ (h w.tape w.drawn)).of_re
  | step' g w hr gn wn h _ ih => exact .step' _ _ hr gn wn h ih
theorem sim_like {u w : World} (h : Sim true S u w) : w = u.re w.tape w.drawn := by
  have hh : w.heap = u.heap := Array.ext_getElem? fun i => (bsim_eq (h.block i)).symm
  obtain ⟨a, b, c, d, e⟩ := w
  obtain ⟨a', b', c', d', e'⟩ := u
  have h1 := h.os
  have h2 := h.output
  simp only at hh h1 h2
  subst hh h1 h2
  rfl
theorem lone_go {x y : Frame} {xs ys : List Frame} {u u' : World} {es : Array Event} (h : stepG P true (G x xs) u = .go (G y ys) u' es) : step P (lone x xs u) = .next (lone y ys u') := step_lone_go (by
  show (stepG P true (G x xs) u).bare = _
  rw [h]; rfl)
theorem lone_end {x : Frame} {xs : List Frame} {u u' : World} {o : Outcome} {es : Array Event} (h : stepG P true (G x xs) u = .ended o u' es) : step P (lone x xs u) = .ended o u' := step_lone_ended (by
  show (stepG P true (G x xs) u).bare = _
  rw [h]; rfl)
theorem doom_step {x : Frame} {xs : List Frame} (h : DoomL (G x xs)) (u : World) : (∃ y ys es, stepG P true (G x xs) u = .go (G y ys) u es ∧ DoomL (G y ys)) ∨ ∃ o u' es, stepG P true (G x xs) u = .ended o u' es := by
  generalize hg : G x xs = g at h
  cases h with
  | mk x' ms c hx hd hk hms =>
    simp only [G, Goroutine.mk.injEq] at hg
    obtain ⟨rfl, rfl, _⟩ := hg
    have hcat : x.catches P = false := by
      unfold Frame.catches
      split
      · rename_i d wr r s k h1 h2
        rcases hk with hk | hk
        · rw [h2] at hk; cases hk
        · exact absurd (by rw [h2]; rfl) (hk d wr r s)
      · rfl
    have hs : ∀ y ys, ms ++ [trapF] = y :: ys → stepG P true (G x (ms ++ [trapF])) u = .go (G (y.raise c) ys) u := fun y ys e => by
      rw [e]
      simp [G, stepG, hx, unwind, hd, hcat]
    cases ms with
    | nil => exact .inl ⟨_, _, _, hs trapF [] rfl, .last c⟩
    | cons m ms =>
      obtain ⟨h1, h2, h3⟩ := hms m (by simp)
      refine .inl ⟨_, _, _, hs m (ms ++ [trapF]) rfl, ?_⟩
      have e : m.raise c = { m with mode := .panicking c } := by unfold Frame.raise; rw [h2]
      rw [e]
      exact .mk _ ms c rfl h1 (.inr h3) fun y hy => hms y (by simp [hy])
  | last c =>
    simp only [G, Goroutine.mk.injEq] at hg
    obtain ⟨rfl, rfl, _⟩ := hg
    exact .inr ⟨_, _, _, by simp [G, stepG, unwind, trapF, callDeferred]; exact ⟨rfl, rfl, rfl⟩⟩
theorem doom_run : ∀ (n : Nat) {x : Frame} {xs : List Frame} {u : World} {m : Machine}, DoomL (G x xs) → runN P n (lone x xs u) = .next m → ∃ y ys, m = lone y ys u ∧ DoomL (G y ys)
  | 0, x, xs, u, m, h, hr => by simp only [runN, Stepped.next.injEq] at hr; exact ⟨x, xs, hr.symm, h⟩
  | n + 1, x, xs, u, m, h, hr => by
    rcases doom_step (P := P) h u with ⟨y, ys, es, h1, h2⟩ | ⟨o, u', es, h1⟩
    · simp only [runN, lone_go h1] at hr
      exact doom_run n h2 hr
    · simp only [runN, lone_end h1] at hr
      cases hr
theorem doom_mode {x : Frame} {xs : List Frame} (h : DoomL (G x xs)) : ∃ c, x.mode = .panicking c := by
  generalize hg : G x xs = g at h
  cases h with
  | mk x' ms c hx hd hk hms =>
    simp only [G, Goroutine.mk.injEq] at hg
    obtain ⟨rfl, rfl, _⟩ := hg
    exact ⟨c, hx⟩
  | last c =>
    simp only [G, Goroutine.mk.injEq] at hg
    obtain ⟨rfl, rfl, _⟩ := hg
    exact ⟨c, rfl⟩
/-- Behind the end of the piece the lone run comes to its own end. -/
theorem ret_trap {x : Frame} (hx : x.mode = .returning) (hd : x.defers = []) (hk : x.kind ≠ .early) (u : World) : (∃ u' es, stepG P true (G x [trapF]) u = .go (G trapF []) u' es) ∨ ∃ o u' es, stepG P true (G x [trapF]) u = .ended o u' es := by
  have hdo : ∀ v w, doReturn P true x [trapF] none v w = .go (G trapF []) w := fun v w => by
    unfold doReturn
    cases hkk : x.kind <;> first | rfl | exact absurd hkk hk
  simp only [G, stepG, hx, unwind, hd]
  cases hf : P.funcs[x.fn]? with
  | none => simp only [hdo]; exact .inl ⟨_, _, rfl⟩
  | some fn =>
    simp only
    generalize ((results fn x.tmps).runT P u #[]) = r
    obtain ⟨r, es⟩ := r
    cases r with
    | ok v w1 => simp only [hdo]; exact .inl ⟨_, _, rfl⟩
    | halt y w1 => cases y <;> exact .inr ⟨_, _, _, rfl⟩
theorem trap_end (u : World) : ∃ o u' es, stepG P true (G trapF []) u = .ended o u' es := ⟨_, _, _, by simp [G, stepG, stepG.exec, trapF, trap]; exact ⟨rfl, rfl, rfl⟩⟩
theorem fin_run {x : Frame} {u : World} {n : Nat} {y : Frame} {ys : List Frame} {u' : World} (hx : (∃ b a, x = Frame.at b a trap) ∨ (x.mode = .returning ∧ x.defers = [] ∧ x.kind ≠ .early)) (hn : runN P (n + 1) (lone x [trapF] u) = .next (lone y (trapF :: ys) u')) : False := by
  rcases hx with ⟨b, a, rfl⟩ | ⟨h1, h2, h3⟩
  · obtain ⟨o, u1, es, h⟩ := stepG_trap (P := P) (main := true) (b := b) (a := a) (cs := [trapF]) (u := u)
    simp only [runN, lone_end h] at hn
    cases hn
  · rcases ret_trap (P := P) h1 h2 h3 u with ⟨u1, es, h⟩ | ⟨o, u1, es, h⟩
    · simp only [runN, lone_go h] at hn
      cases n with
      | zero =>
        simp only [runN, Stepped.next.injEq, lone, Machine.mk.injEq] at hn
        simp at hn
      | succ n =>
        obtain ⟨o, u2, es, h⟩ := trap_end (P := P) u1
        simp only [runN, lone_end h] at hn
        cases hn
    · simp only [runN, lone_end h] at hn
      cases hn
theorem runN_prefix {n k : Nat} {m fin : Machine} (h : runN P (k + n) m = .next fin) : ∃ m1, runN P k m = .next m1 ∧ runN P n m1 = .next fin := by
  rw [runN_add] at h
  cases hk : runN P k m with
  | next m1 => rw [hk] at h; exact ⟨m1, rfl, h⟩
  | ended o w => rw [hk] at h; cases h
theorem lone_inj {x y : Frame} {xs ys : List Frame} {u v : World} (h : lone x xs u = lone y ys v) : x = y ∧ xs = ys ∧ u = v := by
  simp only [lone, Machine.mk.injEq, Array.mk.injEq, List.cons.injEq, Goroutine.mk.injEq, and_true, true_and] at h
  exact ⟨h.2.1, h.2.2, h.1⟩
end
end Go.Proofs.Ytecdiejeofclaaa


/- Infrastructure J: THE LIFT: a lone contract on a piece of allowed code, whatever the tape, gives a walk in company. -/
namespace Go.Proofs.Ytecdiejeofclaaa
open Go Go.Conc
section
variable {P : Program} {S : Addr → Prop} {main : Bool} {Stop : Goroutine → World → Prop}
abbrev Tp := Nat → Question → Nat
/-- A state of the path: the lone stack, the stack in company, the world. -/
structure St where
  gL : Goroutine
  gC : Goroutine
  w : World
/-- The next state, if the lone run goes on under this tape. -/
def Goes1 (P : Program) (main : Bool) (S : Addr → Prop) (R : Goroutine → Goroutine → Prop) (s : St) (t : Tp) (d : Nat) (s' : St) : Prop :=
  (∃ es, stepG P true s.gL (s.w.re t d) = .go s'.gL s'.w es) ∧ R s'.gL s'.gC ∧ StepSim P main S s.gC (s.w.re t d) s'.gC s'.w
noncomputable section
open Classical
/-- The tape under which nothing good comes. -/
def pickT (P : Program) (main : Bool) (S : Addr → Prop) (Stop : Goroutine → World → Prop) (s : St) : Tp × Nat :=
  if h : ∃ x : Tp × Nat, ∀ g' w', StepSim P main S s.gC (s.w.re x.1 x.2) g' w' → ¬ Hold P main S Stop g' w' then h.choose else (s.w.tape, s.w.drawn)
def nextS (P : Program) (main : Bool) (S : Addr → Prop) (R : Goroutine → Goroutine → Prop) (Stop : Goroutine → World → Prop) (s : St) : St :=
  if h : ∃ s', Goes1 P main S R s (pickT P main S Stop s).1 (pickT P main S Stop s).2 s' then h.choose else s
/-- How many answers the step asks. -/
def asks (P : Program) (main : Bool) (S : Addr → Prop) (Stop : Goroutine → World → Prop) (s : St) : Nat :=
  (gworld (stepG P true s.gL (s.w.re (pickT P main S Stop s).1 (pickT P main S Stop s).2))).drawn - (pickT P main S Stop s).2
variable (P S main Stop)
def path (R : Goroutine → Goroutine → Prop) (s : St) : Nat → St
  | 0 => s
  | n + 1 => nextS P main S R Stop (path R s n)
def upto (R : Goroutine → Goroutine → Prop) (s : St) : Nat → Nat
  | 0 => 0
  | n + 1 => upto R s n + asks P main S Stop (path P S main Stop R s n)
def tapeOf (R : Goroutine → Goroutine → Prop) (s : St) : Tp := fun m =>
  if h : ∃ k, upto P S main Stop R s k ≤ m ∧ m < upto P S main Stop R s (k + 1) then (pickT P main S Stop (path P S main Stop R s h.choose)).1 ((pickT P main S Stop (path P S main Stop R s h.choose)).2 + (m - upto P S main Stop R s h.choose)) else fun _ => 0
variable {P S main Stop}
theorem upto_mono {R : Goroutine → Goroutine → Prop} {s : St} {k l : Nat} (h : k ≤ l) : upto P S main Stop R s k ≤ upto P S main Stop R s l := by
  induction h with
  | refl => exact Nat.le_refl _
  | step _ ih => exact Nat.le_trans ih (Nat.le_add_right _ _)
theorem tapeOf_at {R : Goroutine → Goroutine → Prop} {s : St} {k i : Nat} (hi : i < asks P main S Stop (path P S main Stop R s k)) :
    tapeOf P S main Stop R s (upto P S main Stop R s k + i) = (pickT P main S Stop (path P S main Stop R s k)).1 ((pickT P main S Stop (path P S main Stop R s k)).2 + i) := by
  have h : ∃ j, upto P S main Stop R s j ≤ upto P S main Stop R s k + i ∧ upto P S main Stop R s k + i < upto P S main Stop R s (j + 1) := ⟨k, Nat.le_add_right _ _, Nat.add_lt_add_left hi _⟩
  have hj : h.choose = k := by
    obtain ⟨h1, h2⟩ := h.choose_spec
    rcases Nat.lt_trichotomy h.choose k with hlt | he | hgt
    · have := upto_mono (P := P) (S := S) (main := main) (Stop := Stop) (R := R) (s := s) (show h.choose + 1 ≤ k from hlt)
      omega
    · exact he
    · have := upto_mono (P := P) (S := S) (main := main) (Stop := Stop) (R := R) (s := s) (show k + 1 ≤ h.choose from hgt)
      have h3 : upto P S main Stop R s (k + 1) = upto P S main Stop R s k + asks P main S Stop (path P S main Stop R s k) := rfl
      omega
  unfold tapeOf
  rw [dif_pos h, hj]
  rw [Nat.add_sub_cancel_left]
theorem ready_re {w : World} (h : Ready0 w) (t : Tp) (d : Nat) : Ready0 (w.re t d) := h
/-- A lone step on one tape is the same step on another that answers alike. -/
theorem lone_local {L : Allow} (hL : LOk P L) {b : Frame} (hb : b.kind ≠ .early) {g g' : Goroutine} {u u' w : World} {es : Array Event} (hst : Stk P L b trap [trapF] g g) (hu : Ready0 u) (hnf : ∀ a, g ≠ G (b.at a trap) [trapF]) (hnr : ∀ a td, g ≠ G { b.at a td with mode := .returning } [trapF])
    (hstep : stepG P true g u = .go g' u' es) (hnd : ¬ DoomL g') (hs : Sim true (fun _ => False) u w) (hA : Agree u w ((gworld (stepG P true g w)).drawn - w.drawn)) :
    ∃ w' es', stepG P true g w = .go g' w' es' ∧ Sim true (fun _ => False) u' w' ∧ u'.tape = u.tape ∧ u'.drawn + w.drawn = w'.drawn + u.drawn ∧ w.drawn ≤ w'.drawn := by
  rcases stk_step (S := fun _ => False) (main := true) hL hb hst hu hnf hnr hstep with ⟨gC', h1, h2⟩ | h
  · have e := stk_same h1
    subst e
    have hw : Ready0 w := by rw [sim_like hs]; exact hu
    obtain ⟨w', es', h3, h4, h5, h6, h7, _⟩ := h2 true w hs (.inl ⟨hw, hA⟩)
    exact ⟨w', es', h3, h4, h6, h7, h5.drawn⟩
  · exact absurd h hnd
/-- The lone side of a pair, over the trap itself. -/
theorem stk_lone {L : Allow} {b : Frame} {k : List Item} {cs : List Frame} {gL gC : Goroutine} (h : Stk P L b k cs gL gC) : Stk P L b trap [trapF] gL gL := by
  cases h with
  | base a pre hd hpre => exact .base a pre hd hpre
  | baseRet a pre hd => exact .baseRet a pre hd
  | inner x ms a ops i rest pre hx hm hms hd hit hpre => exact .inner x ms a ops i rest pre hx hm hms hd hit hpre
theorem stk_running {L : Allow} {b : Frame} {k : List Item} {cs : List Frame} {gL gC : Goroutine} (h : Stk P L b k cs gL gC) : (∃ x xs, gL = G x xs) ∧ gC.status = .running := by
  cases h <;> exact ⟨⟨_, _, rfl⟩, rfl⟩
theorem alldoes_sim {g g' : Goroutine} {v v' : World} (h : AllDoes P main S v v' g g') : StepSim P main S g v g' v' := fun wa hs ht hd => h false wa hs (.inr fun c i _ => by rw [ht, hd])
/-- Where a pair's lone side has come to the end of the piece, the other stands behind the piece. -/
theorem stk_fin {L : Allow} {b : Frame} {k : List Item} {cs : List Frame} {gL gC : Goroutine} (h : Stk P L b k cs gL gC) :
    (∀ a, gL = G (b.at a trap) [trapF] → a.defers = [] ∧ gC = G (b.at a k) cs) ∧ (∀ a td, gL = G { b.at a td with mode := .returning } [trapF] → a.defers = [] ∧ ∃ td', gC = G { b.at a td' with mode := .returning } cs) := by
  have inj : ∀ {a a' : Act}, a.tmps = a'.tmps → a.defers = a'.defers → a = a' := fun {a a'} h1 h2 => by cases a; cases a'; simp_all
  cases h with
  | base a pre hd hpre =>
    refine ⟨fun a' e => ?_, fun a' td e => ?_⟩
    · simp only [G, Goroutine.mk.injEq, Frame.at, Frame.mk.injEq] at e
      obtain rfl := inj e.1.2.1 e.1.2.2.2.1
      have : pre = [] := by
        have h2 := e.1.2.2.1
        cases pre with
        | nil => rfl
        | cons x pre => simp [trap] at h2
      subst this
      exact ⟨hd, rfl⟩
    · simp [G, Frame.at] at e
  | baseRet a pre hd =>
    refine ⟨fun a' e => ?_, fun a' td e => ?_⟩
    · simp [G, Frame.at] at e
    · simp only [G, Goroutine.mk.injEq, Frame.at, Frame.mk.injEq] at e
      obtain rfl := inj e.1.2.1 e.1.2.2.2.1
      exact ⟨hd, _, rfl⟩
  | inner x ms a ops i rest pre hx hm hms hd hit hpre =>
    refine ⟨fun a' e => ?_, fun a' td e => ?_⟩ <;>
    · simp only [G, Goroutine.mk.injEq] at e
      have := congrArg List.length e.2.1
      simp at this
/-- ████ THE LIFT. ████ -/
theorem lift_code {L : Allow} (hL : LOk P L) {b : Frame} (hb : b.kind ≠ .early) {c : Code} (hc : codeOk P L c = true) {a : Act} (hd : a.defers = []) {k : List Item} {cs : List Frame} {Q : Exit → Act → World → Prop} {v : World} (hv : Ready0 v)
    (h : ∀ t d, c.wp P Q a (v.re t d)) (hQ : ∀ e a' w, Q e a' w → e = .normal ∨ e = .ret)
    (hn : ∀ a' w, Q .normal a' w → a'.defers = [] → Ready0 w → Hold P main S Stop (G (b.at a' k) cs) w)
    (hr : ∀ a' w td, Q .ret a' w → a'.defers = [] → Ready0 w → Hold P main S Stop (G { b.at a' td with mode := .returning } cs) w) : Hold P main S Stop (G (b.at a (.code c :: k)) cs) v := by
  apply Classical.byContradiction
  intro hbad
  let R := Stk P L b k cs
  let s0 : St := ⟨G (b.at a (.code c :: trap)) [trapF], G (b.at a (.code c :: k)) cs, v⟩
  let τ := tapeOf P S main Stop R s0
  have hst0 : R s0.gL s0.gC := .base a [.code c] hd (by simpa [itemOk] using hc)
  have hrun : ∃ N x u, runN P N (lone (b.at a (.code c :: trap)) [trapF] (v.re τ 0)) = .next (lone x [trapF] u) ∧ ((∃ a', x = b.at a' trap ∧ Q .normal a' u) ∨ ∃ a' td, x = { b.at a' td with mode := .returning } ∧ Q .ret a' u) := by
    obtain ⟨e, a', u, hq, harr⟩ := h τ 0 b trap [trapF]
    rcases hQ e a' u hq with rfl | rfl
    · obtain ⟨N, hN⟩ := harr
      exact ⟨N, _, u, hN, .inl ⟨a', rfl, hq⟩⟩
    · obtain ⟨td, N, hN⟩ := harr
      exact ⟨N, _, u, hN, .inr ⟨a', td, rfl, hq⟩⟩
  obtain ⟨N, x, u, hN, hfin⟩ := hrun
  have key : ∀ k', k' ≤ N → ∃ y ys, (path P S main Stop R s0 k').gL = G y ys ∧ runN P k' (lone (b.at a (.code c :: trap)) [trapF] (v.re τ 0)) = .next (lone y ys ((path P S main Stop R s0 k').w.re τ (upto P S main Stop R s0 k'))) ∧
      R (path P S main Stop R s0 k').gL (path P S main Stop R s0 k').gC ∧ Ready0 (path P S main Stop R s0 k').w ∧ ¬ Hold P main S Stop (path P S main Stop R s0 k').gC (path P S main Stop R s0 k').w := by
    intro k'
    induction k' with
    | zero => exact fun _ => ⟨_, _, rfl, rfl, hst0, hv, hbad⟩
    | succ k' ih =>
      intro hle
      obtain ⟨y, ys, hy, hrk, hR, hrd, hnb⟩ := ih (by omega)
      have hnxt : path P S main Stop R s0 (k' + 1) = nextS P main S R Stop (path P S main Stop R s0 k') := rfl
      have hup : upto P S main Stop R s0 (k' + 1) = upto P S main Stop R s0 k' + asks P main S Stop (path P S main Stop R s0 k') := rfl
      have hlt : ∀ i, i < asks P main S Stop (path P S main Stop R s0 k') → _ := fun i hi => tapeOf_at (P := P) (S := S) (main := main) (Stop := Stop) (R := R) (s := s0) hi
      rw [hnxt, hup]
      generalize path P S main Stop R s0 k' = s at *
      generalize upto P S main Stop R s0 k' = n at *
      obtain ⟨gL, gC, w⟩ := s
      simp only at hy hR hrd hnb hrk
      subst hy
      obtain ⟨m1, hm1, hm2⟩ := runN_prefix (P := P) (k := k') (n := N - k') (by rw [show k' + (N - k') = N from by omega]; exact hN)
      rw [hrk] at hm1
      simp only [Stepped.next.injEq] at hm1
      subst hm1
      obtain ⟨j, hj⟩ : ∃ j, N - k' = j + 1 := ⟨N - k' - 1, by omega⟩
      rw [hj] at hm2
      have hnf : ∀ a', G y ys ≠ G (b.at a' trap) [trapF] := fun a' e => by
        simp only [G, Goroutine.mk.injEq] at e
        obtain ⟨rfl, rfl, _⟩ := e
        exact fin_run (.inl ⟨b, a', rfl⟩) hm2
      have hnr : ∀ a' td, G y ys ≠ G { b.at a' td with mode := .returning } [trapF] := fun a' td e => by
        have hd' := ((stk_fin hR).2 a' td e).1
        simp only [G, Goroutine.mk.injEq] at e
        obtain ⟨rfl, rfl, _⟩ := e
        exact fin_run (.inr (by exact ⟨rfl, hd', hb⟩)) hm2
      have hru : Ready0 (w.re τ n) := hrd
      rcases stk_goes hL hb hR hru hnr with ⟨g, u', es, hg⟩ | ⟨o, u', es, hg⟩
      rotate_left
      · exfalso
        simp only [runN, lone_end hg] at hm2
        cases hm2
      have hnd : ¬ DoomL g := fun hdm => by
        have : ∃ z zs, g = G z zs := by
          cases hdm with
          | mk z ms c _ _ _ _ => exact ⟨_, _, rfl⟩
          | last c => exact ⟨_, _, rfl⟩
        obtain ⟨z, zs, rfl⟩ := this
        simp only [runN, lone_go hg] at hm2
        obtain ⟨q, qs, hq1, hq2⟩ := doom_run j hdm hm2
        obtain ⟨c, hc'⟩ := doom_mode hq2
        obtain ⟨rfl, _, _⟩ := lone_inj hq1
        rcases hfin with ⟨a', rfl, _⟩ | ⟨a', td, rfl, _⟩ <;> cases hc'
      have hasks : asks P main S Stop ⟨G y ys, gC, w⟩ = (gworld (stepG P true (G y ys) (w.re (pickT P main S Stop ⟨G y ys, gC, w⟩).1 (pickT P main S Stop ⟨G y ys, gC, w⟩).2))).drawn - (pickT P main S Stop ⟨G y ys, gC, w⟩).2 := rfl
      obtain ⟨w', es', h1, h2, h3, h4, h5⟩ := lone_local hL hb (stk_lone hR) hru hnf hnr hg hnd (w := w.re (pickT P main S Stop ⟨G y ys, gC, w⟩).1 (pickT P main S Stop ⟨G y ys, gC, w⟩).2)
        ⟨rfl, rfl, rfl, fun _ => BSim.refl _ _, fun _ z => z.elim, hrd⟩ (fun i hi => hlt i (by rw [hasks]; exact hi))
      rcases stk_step (S := S) (main := main) hL hb hR (ready_re hrd (pickT P main S Stop ⟨G y ys, gC, w⟩).1 (pickT P main S Stop ⟨G y ys, gC, w⟩).2) hnf hnr h1 with ⟨gC', h6, h7⟩ | h6
      rotate_left
      · exact absurd h6 hnd
      have hex : ∃ s', Goes1 P main S R ⟨G y ys, gC, w⟩ (pickT P main S Stop ⟨G y ys, gC, w⟩).1 (pickT P main S Stop ⟨G y ys, gC, w⟩).2 s' := ⟨⟨g, gC', w'⟩, ⟨es', h1⟩, h6, alldoes_sim h7⟩
      have hnx : nextS P main S R Stop ⟨G y ys, gC, w⟩ = hex.choose := dif_pos hex
      rw [hnx]
      obtain ⟨⟨es2, c1⟩, c2, c3⟩ := hex.choose_spec
      generalize hex.choose = s' at c1 c2 c3 ⊢
      obtain ⟨gL2, gC2, w2⟩ := s'
      simp only at c1 c2 c3 ⊢
      rw [h1] at c1
      simp only [GStep.go.injEq] at c1
      obtain ⟨rfl, rfl, _⟩ := c1
      obtain ⟨⟨z, zs, rfl⟩, _⟩ := stk_running c2
      have hu' : u' = w'.re τ (n + asks P main S Stop ⟨G y ys, gC, w⟩) := by
        have e1 := sim_like h2
        have e2 : u' = w'.re u'.tape u'.drawn := by rw [e1]; rfl
        rw [e2, h3, hasks, h1]
        have : u'.drawn = n + (w'.drawn - (pickT P main S Stop ⟨G y ys, gC, w⟩).2) := by
          simp only [World.re] at h4 h5
          omega
        rw [this]
        rfl
      refine ⟨z, zs, rfl, ?_, c2, ?_, ?_⟩
      · rw [runN_add, hrk]
        simp only [runN, lone_go hg, hu']
      · have := sim_like h2
        rw [this]
        exact h2.ready
      · have hpk : ∃ x : Tp × Nat, ∀ g' w', StepSim P main S gC (w.re x.1 x.2) g' w' → ¬ Hold P main S Stop g' w' := by
          apply Classical.byContradiction
          intro hno
          refine hnb (.step gC w (stk_running hR).2 fun t d => ?_)
          apply Classical.byContradiction
          intro hno2
          exact hno ⟨(t, d), fun g' w' hs hh => hno2 ⟨g', w', hs, hh⟩⟩
        have hp : pickT P main S Stop ⟨G y ys, gC, w⟩ = hpk.choose := dif_pos hpk
        exact hpk.choose_spec gC2 w' (by rw [← hp]; exact c3)
  obtain ⟨y, ys, hy, hrk, hR, hrd, hnb⟩ := key N (Nat.le_refl _)
  rw [hrk] at hN
  simp only [Stepped.next.injEq] at hN
  obtain ⟨rfl, rfl, rfl⟩ := lone_inj hN
  rw [hy] at hR
  rcases hfin with ⟨a', rfl, hq⟩ | ⟨a', td, rfl, hq⟩
  · obtain ⟨h1, h2⟩ := (stk_fin hR).1 a' rfl
    rw [h2] at hnb
    exact hnb (hn a' _ hq h1 hrd).of_re
  · obtain ⟨h1, td', h2⟩ := (stk_fin hR).2 a' td rfl
    rw [h2] at hnb
    exact hnb (hr a' _ td' hq h1 hrd).of_re
end
end
end Go.Proofs.Ytecdiejeofclaaa


/- Infrastructure K: WHOLE RUNS: goroutines that hand a token over to each other, told by an inductive judgement on ghost worlds ('Run'); the machine carries it out ('Run.goes'). -/
namespace Go.Proofs.Ytecdiejeofclaaa
open Go Go.Conc
open Go.ConcN (upd upd_ne upd_same)
/-- What stands in the still cells. -/
def KS (S : Addr → Prop) (κ : Addr → Option Value) (w : World) : Prop := ∀ a, S a → w.cell? a = κ a
abbrev Inbs := Nat → Option Seat
/-- Behind its giving it comes to its seat, reading still cells alone; or it leaves. -/
def Rests (P : Program) (S : Addr → Prop) (v : World) (h : Nat) (g : Goroutine) : Option Seat → Prop
  | none => 0 < h ∧ ∃ n, QuitsD P n 0 g
  | some s => ∃ n, ∀ B, v.heap.size ≤ B → Sits P (h == 0) (KS S v.cell?) (StillOf S) B s n g
/-- What is asked of the seat that the giver says anew. -/
def SeatOk (I : Inbs) (v : World) (h : Nat) : Option Seat → Prop
  | none => True
  | some s => s.Wf ∧ (∀ c, s.has c → ∃ cap k, v.heap[c]? = some (.chan cap #[] false k k false)) ∧ ∀ i s' c, i ≠ h → I i = some s' → s'.has c → ¬ s.has c
inductive Run (P : Program) (Done : Goroutine → World → Prop) : (Addr → Prop) → Nat → Nat → Inbs → Goroutine → World → Prop
  | fin {S : Addr → Prop} {n : Nat} {I : Inbs} {g : Goroutine} {v : World} (hI : ∀ i, i ≠ 0 → I i = none) (h : ∀ t d, Done g (v.re t d)) : Run P Done S 0 n I g v
  | own {S : Addr → Prop} {h n : Nat} {I : Inbs} {g : Goroutine} {v : World} (hr : g.status = .running) (gn : (Nat → Question → Nat) → Nat → Goroutine) (wn : (Nat → Question → Nat) → Nat → World)
      (hs : ∀ t d, StepSim P (h == 0) S g (v.re t d) (gn t d) (wn t d)) (hh : ∀ t d, Run P Done S h n I (gn t d) (wn t d)) : Run P Done S h n I g v
  | grow {S : Addr → Prop} {h n : Nat} {I : Inbs} {g : Goroutine} {v : World} (hr : g.status = .running) (S' : Addr → Prop) (gn : (Nat → Question → Nat) → Nat → Goroutine) (wn : (Nat → Question → Nat) → Nat → World)
      (hsub : ∀ a, S a → S' a) (hnew : ∀ a, S' a → S a ∨ v.heap.size ≤ a.block)
      (hs : ∀ t d wa, Sim false S (v.re t d) wa → wa.tape = t → wa.drawn = d → ∃ w' es, stepG P (h == 0) g wa = .go (gn t d) w' es ∧ Sim false S' (wn t d) w' ∧ Kept S wa w' ∧ ∀ e ∈ es, EvHd (StillOf S) wa.heap.size e)
      (hh : ∀ t d, Run P Done S' h n I (gn t d) (wn t d)) : Run P Done S h n I g v
  | swap {S : Addr → Prop} {h n : Nat} {I : Inbs} {g : Goroutine} {v : World} (S' : Addr → Prop) (v' : World) (hI : ∀ i, i ≠ h → I i = none) (hs : ∀ wa, Sim false S v wa → Sim false S' v' wa) (hh : Run P Done S' h n I g v') : Run P Done S h n I g v
  | give {S : Addr → Prop} {h n : Nat} {I : Inbs} {g : Goroutine} {v : World} (hr : g.status = .running) (a₂ : Goroutine) (j c kk : Nat) (s : Seat) (x z z' : Value) (es : Array Event) (o : Option Seat)
      (hjh : j ≠ h) (hjn : j < n) (hj : I j = some s) (hk : s.cases[kk]? = some (rcase c z))
      (hsend : ∀ wa, Sim false S v wa → stepG P (h == 0) g wa = .comm a₂ #[scase c x z'] true .send wa es) (hes : ∀ e ∈ es, EvHd (StillOf S) v.heap.size e)
      (ho : SeatOk I v h o) (hrest : Rests P S v h (Conc.served a₂ undef) o)
      (hh : ∀ g₂ cap k, s.home g₂ → v.heap[c]? = some (.chan cap #[] false k k false) → Run P Done S j n (upd I h o) (Conc.served g₂ (commResult s.cases s.shape kk x true)) (v.setChan c cap #[] false (k + 1) (k + 1) false)) : Run P Done S h n I g v
  | hire {S : Addr → Prop} {h n : Nat} {I : Inbs} {g : Goroutine} {v : World} (hr : g.status = .running) (a' child : Goroutine) (es : Array Event) (o : Option Seat)
      (hgo : ∀ wa, Sim false S v wa → stepG P (h == 0) g wa = .spawn a' child wa es) (hes : ∀ e ∈ es, EvHd (StillOf S) v.heap.size e) (hnew : I n = none)
      (ho : SeatOk I v h o) (hrest : Rests P S v h a' o) (hh : Run P Done S n (n + 1) (upd I h o) child v) : Run P Done S h n I g v
section
variable {P : Program} {Done : Goroutine → World → Prop} {S : Addr → Prop} {h n : Nat} {I : Inbs} {g : Goroutine} {v : World}
theorem Run.of_hold' {Stop : Goroutine → World → Prop} {g : Goroutine} {v : World} (H : Hold P (h == 0) S Stop g v) : (∀ g w, Stop g w → Run P Done S h n I g w) → Run P Done S h n I g v := by
  induction H with
  | stop g w hs => exact fun k => k _ _ (hs w.tape w.drawn)
  | step' g w hr gn wn hs _ ih => exact fun k => .own hr gn wn hs fun t d => ih t d k
theorem Run.of_hold {g : Goroutine} {v : World} (H : Hold P (h == 0) S (fun g w => Run P Done S h n I g w) g v) : Run P Done S h n I g v := Run.of_hold' H fun _ _ x => x
theorem goes_weaken {K K' : World → Prop} {St St' : Loc → Prop} {B B' : Nat} {main : Bool} {Stop Stop' : Goroutine → World → Prop} (hK : ∀ w, K' w → K w) (hS : ∀ l, St l → St' l) (hB : B ≤ B') (hs : ∀ g w, Stop g w → Stop' g w) :
    ∀ (n : Nat) (g : Goroutine) (w : World), Goes P main (RK K) (DS St B) Stop n g w → Goes P main (RK K') (DS St' B') Stop' n g w
  | 0, g, w, x => fun w₁ r => hs _ _ (x w₁ (hK _ r))
  | n + 1, g, w, x => by
    rcases x with x | ⟨hr, x⟩
    · exact .inl fun w₁ r => hs _ _ (x w₁ (hK _ r))
    · refine .inr ⟨hr, fun w₁ r => ?_⟩
      have y := x w₁ (hK _ r)
      cases hg : stepG P main g w₁ with
      | go g' w' es =>
        rw [hg, goes_go] at y
        exact ⟨⟨y.1.1, fun e he => by obtain ⟨a, ha, hb, hc⟩ := y.1.2 e he; exact ⟨a, ha, hS _ hb, Nat.lt_of_lt_of_le hc hB⟩⟩, goes_weaken hK hS hB hs n g' w' y.2⟩
      | _ => rw [hg] at y; exact y.elim
theorem atIn_weaken {K K' : World → Prop} {St St' : Loc → Prop} {B B' : Nat} {main : Bool} (hK : ∀ w, K' w → K w) (hS : ∀ l, St l → St' l) (hB : B ≤ B') {s : Seat} {g g₂ : Goroutine} (x : AtIn P main K St B s g g₂) : AtIn P main K' St' B' s g g₂ := by
  obtain ⟨h1, h2, h3, h4, h5, es, h6, h7⟩ := x
  exact ⟨h1, h2, h3, h4, h5, es, fun e he => by obtain ⟨a, ha, hb, hc⟩ := h6 e he; exact ⟨a, ha, hS _ hb, Nat.lt_of_lt_of_le hc hB⟩, fun w hw => h7 w (hK w hw)⟩
theorem sits_weaken {K K' : World → Prop} {St St' : Loc → Prop} {B B' : Nat} {main : Bool} (hK : ∀ w, K' w → K w) (hS : ∀ l, St l → St' l) (hB : B ≤ B') {s : Seat} {m : Nat} {g : Goroutine} (x : Sits P main K St B s m g) : Sits P main K' St' B' s m g := by
  rcases x with ⟨k, w, e, x⟩ | ⟨e, g₀, g₂, e', x⟩
  · exact .inl ⟨k, w, e, goes_weaken hK hS hB (fun g w ⟨g₂, y⟩ => ⟨g₂, atIn_weaken hK hS hB y⟩) _ _ _ x⟩
  · exact .inr ⟨e, g₀, g₂, e', atIn_weaken hK hS hB x⟩
theorem ring_weaken {K K' : World → Prop} {St St' : Loc → Prop} {B B' : Nat} {Mem : Nat → Prop} {T : Trace} {gs : Array Goroutine} {w : World} {q : Nat → Nat} (hK : ∀ w, K' w → K w) (hS : ∀ l, St l → St' l) (hB : B ≤ B') (hw : K' w)
    (hT : ∀ i a, touchAt T i = some a → a.write = true → St' a.loc → ∀ g, Mem g → Knows T g i) (C : Ring P K St B Mem I h T gs w q) : Ring P K' St' B' Mem I h T gs w q :=
  ⟨fun i g hi hg => by
      have x := C.idle i g hi hg
      cases e : I i with
      | none => rw [e] at x; exact x
      | some s => rw [e] at x; exact sits_weaken hK hS hB x,
    C.chans, C.wf, C.live, C.inj, C.above, fun i s e => ⟨(C.mem i s e).1, fun c hc => Nat.lt_of_lt_of_le ((C.mem i s e).2 c hc) hB⟩, C.nomem, C.lo,
    ⟨C.past.clean, fun i a ha hm => (C.past.known i a ha hm).imp id fun ⟨x, y, z⟩ => ⟨x, hS _ y, z⟩, hT, C.past.hears, fun op hop => MemAct.low_mono hB (C.past.seen op hop)⟩, hw⟩
theorem ring_weaken' {K K' : World → Prop} {St : Loc → Prop} {B B' : Nat} {Mem : Nat → Prop} {T : Trace} {gs : Array Goroutine} {w : World} {q : Nat → Nat} (hK : ∀ w, K' w → K w) (hB : B ≤ B') (hw : K' w) (C : Ring P K St B Mem I h T gs w q) : Ring P K' St B' Mem I h T gs w q :=
  ring_weaken hK (fun _ x => x) hB hw C.past.wrote C
theorem ks_at {S : Addr → Prop} {κ : Addr → Option Value} (w : World) (d : Nat) (x : KS S κ w) : KS S κ (w.at d) := x
theorem ks_of_sim {S : Addr → Prop} {v w : World} (x : Sim false S v w) : KS S v.cell? w := fun a _ => (x.cell a).symm
theorem sim_at {S : Addr → Prop} {v w : World} (x : Sim false S v w) (d : Nat) : Sim false S v (w.at d) := ⟨x.os, x.output, x.size, x.block, x.still, x.ready⟩
theorem sim_rev {S : Addr → Prop} {v w : World} (x : Sim false S v w) (t : Nat → Question → Nat) (d : Nat) : Sim false S (v.re t d) w := ⟨x.os, x.output, x.size, x.block, x.still, x.ready⟩
theorem evHd_mono {St : Loc → Prop} {B B' : Nat} (hB : B ≤ B') {e : Event} (x : EvHd St B e) : EvHd St B' e := ⟨x.1, x.2.1, x.2.2.1, MemAct.low_mono hB x.2.2.2⟩
theorem ks_chan {S : Addr → Prop} {v w : World} (hs : Sim false S v w) {B : Nat} {Mem : Nat → Prop} {T : Trace} {gs : Array Goroutine} {q : Nat → Nat} {K : World → Prop} {St : Loc → Prop} (C : Ring P K St B Mem I h T gs w q) :
    ∀ (w1 : World) (i : Nat) (s : Seat) (c cap : Nat) (buf : Array Value) (cl : Bool) (a b : Nat) (tm : Bool), I i = some s → s.has c → KS S v.cell? w1 → KS S v.cell? (w1.setChan c cap buf cl a b tm) := by
  intro w1 i s c cap buf cl a b tm hi hc x y hy
  obtain ⟨cap', k, hk⟩ := C.chans i s c (fun z => z) hi hc
  have hne : y.block ≠ c := fun e => by
    obtain ⟨_, _, z, hz⟩ := hs.still y hy
    rw [hs.cell, World.cell?, e, hk] at hz
    cases hz
  rw [← x y hy]
  unfold World.cell?
  rw [heap_setChan_ne _ _ _ _ _ _ _ (fun e => hne e.symm)]
theorem sim_setChan {S : Addr → Prop} {v w : World} (hs : Sim false S v w) (d c cap k : Nat) (buf : Array Value) (cl : Bool) (a b : Nat) (tm : Bool) (hc : ∀ y, S y → y.block ≠ c) : Sim false S (v.setChan c cap buf cl a b tm) ((w.at d).setChan c cap buf cl a b tm) := by
  have hget : ∀ (u : World) (i : Nat), (u.setChan c cap buf cl a b tm).heap[i]? = if c = i ∧ c < u.heap.size then some (.chan cap buf cl a b tm) else u.heap[i]? := fun u i => by
    simp only [World.setChan, Array.getElem?_setIfInBounds]
    split
    · rename_i e; subst e
      by_cases hl : c < u.heap.size
      · simp [hl]
      · simp [hl]
    · rename_i e; simp [e]
  have hsz : (w.at d).heap.size = v.heap.size := hs.size.symm
  refine ⟨hs.os, hs.output, by simp [World.setChan]; exact hs.size, fun i => ?_, fun y hy => ?_, fun i x e => ?_⟩
  · rw [hget, hget, hsz]
    split
    · exact BSim.refl _ _
    · exact hs.block i
  · obtain ⟨h1, h2, z, hz⟩ := hs.still y hy
    have hne := hc y hy
    refine ⟨h1, ?_, z, ?_⟩
    · unfold World.frozen? at h2 ⊢
      rw [hget, if_neg (fun x => hne x.1.symm)]; exact h2
    · unfold World.cell? at hz ⊢
      rw [hget, if_neg (fun x => hne x.1.symm)]; exact hz
  · rw [hget]
    split
    · simp
    · exact hs.ready i x e
end
end Go.Proofs.Ytecdiejeofclaaa


/- Infrastructure L: the machine carries a 'Run' out. -/
namespace Go.Proofs.Ytecdiejeofclaaa
open Go Go.Conc
open Go.ConcN (upd upd_ne upd_same)
section
variable {P : Program} {Done : Goroutine → World → Prop}
theorem sim_chan {S : Addr → Prop} {v w : World} (hs : Sim false S v w) {c cap : Nat} {buf : Array Value} {cl : Bool} {a b : Nat} {tm : Bool} : w.heap[c]? = some (.chan cap buf cl a b tm) ↔ v.heap[c]? = some (.chan cap buf cl a b tm) := by
  rcases bsim_cases (hs.block c) with ⟨c1, e1, f, f', h1, h2, _⟩ | ⟨h1, _⟩ | ⟨_, h1, c1, e1, h2⟩
  · rw [h1, h2]; simp
  · rw [h1]
  · rw [h1, h2]; simp
theorem shape_at {w : World} {d : Nat} : Shape w (w.at d) := ⟨fun b c e f h => ⟨c, h⟩, rfl, rfl, rfl, fun _ _ h _ _ => h⟩
theorem shape_chan {w : World} {c cap : Nat} {buf : Array Value} {cl : Bool} {a b : Nat} {tm : Bool} {cap' : Nat} {buf' : Array Value} {cl' : Bool} {a' b' : Nat} {tm' : Bool} (h : w.heap[c]? = some (.chan cap' buf' cl' a' b' tm')) {d : Nat} : Shape (w.at d) ((w.at d).setChan c cap buf cl a b tm) := ⟨fun x c0 e f hx => by
  have hx' : w.heap[x]? = some (.cells c0 e f) := hx
  refine ⟨c0, ?_⟩
  rw [heap_setChan_ne _ _ _ _ _ _ _ (fun e => by rw [← e, h] at hx'; cases hx')]
  exact hx', rfl, rfl, rfl, fun x o hx _ ho => by
  have hx' : w.heap[x]? = some o := hx
  rw [heap_setChan_ne _ _ _ _ _ _ _ (fun e => by rw [← e, h] at hx'; exact ho _ _ _ _ _ _ (Option.some.inj hx').symm)]
  exact hx'⟩
/-- What the machine comes to. -/
def Comes (P : Program) (Done : Goroutine → World → Prop) (W0 : World) (m : Machine) (T : Trace) : Prop :=
  ∃ N gs' sl' T' q' S' g' v' w' Mem' B' I', runNT P N m T = (.next (crowd gs' w' sl'), T') ∧ gs'[0]? = some g' ∧ Done g' v' ∧ Sim false S' v' w' ∧ v'.tape = w'.tape ∧ v'.drawn = w'.drawn ∧ Mem' 0 ∧ (∀ i, i ≠ 0 → I' i = none) ∧
    Ring P (KS S' v'.cell?) (StillOf S') B' Mem' I' 0 T' gs' w' q' ∧ B' ≤ w'.heap.size ∧ Shape W0 w'
theorem Comes.after {W0 : World} {m m₁ : Machine} {T T₁ : Trace} {N : Nat} (h : runNT P N m T = (.next m₁, T₁)) (c : Comes P Done W0 m₁ T₁) : Comes P Done W0 m T := by
  obtain ⟨N', gs', sl', T', q', S', g', v', w', Mem', B', I', h1, h2⟩ := c
  exact ⟨N + N', gs', sl', T', q', S', g', v', w', Mem', B', I', runNT_then h h1, h2⟩
theorem own_step {S : Addr → Prop} {h : Nat} {I : Inbs} {g g' : Goroutine} {v w w' : World} {B : Nat} {Mem : Nat → Prop} {T : Trace} {gs : Array Goroutine} {q : Nat → Nat} {es : Array Event} {sl : Option (Nat × Nat)}
    (hs : Sim false S v w) (C : Ring P (KS S v.cell?) (StillOf S) B Mem I h T gs w q) (hB : B ≤ w.heap.size) (ha : gs[h]? = some g) (hst : stepG P (h == 0) g w = .go g' w' es) (hk : Kept S w w') (hes : ∀ e ∈ es, EvHd (StillOf S) w'.heap.size e) :
    runT P (crowd gs w sl) h = (.next (crowd ((gs.map (woken P g g' w')).setIfInBounds h g') w' sl), MemOp.ofEvents h g.frame.fn g.frame.place es) ∧ ((gs.map (woken P g g' w')).setIfInBounds h g')[h]? = some g' ∧
      Ring P (KS S v.cell?) (StillOf S) w'.heap.size Mem I h (T ++ MemOp.ofEvents h g.frame.fn g.frame.place es) ((gs.map (woken P g g' w')).setIfInBounds h g') w' q := by
  have C1 : Ring P (KS S v.cell?) (StillOf S) w'.heap.size Mem I h T gs w q := ring_weaken' (fun _ x => x) (Nat.le_trans hB hk.size) C.keep C
  have hd : DH (KS S v.cell?) (StillOf S) w'.heap.size I w w' es := ⟨fun x a ha => (hk.still a ha).trans (x a ha), fun i s c hi hc => by
    obtain ⟨cap, k, e⟩ := C.chans i s c (fun z => z) hi hc
    rw [e]
    exact hk.other c _ e (by simp), hes⟩
  obtain ⟨C2, ha2⟩ := C1.own (a' := g') ha hd
  exact ⟨runT_crowd_go ha hst, ha2, C2⟩
theorem low_of_seat {S : Addr → Prop} {h : Nat} {I : Inbs} {v w : World} {o : Option Seat} (hs : Sim false S v w) {B : Nat} (hB : w.heap.size ≤ B) {Mem : Nat → Prop} {T : Trace} {gs : Array Goroutine} {q : Nat → Nat} {K : World → Prop} {St : Loc → Prop}
    (C : Ring P K St B Mem I h T gs w q) (hM : Mem h) (ho : SeatOk I v h o) : ∃ I1, Ring P K St B Mem I1 h T gs w q ∧ (∀ x, x ≠ h → I1 x = I x) ∧ (∀ x, x ≠ h → upd I h o x = I1 x) ∧ (upd I h o h = I1 h ∨ upd I h o h = none) := by
  cases o with
  | none => exact ⟨I, C, fun _ _ => rfl, fun x hx => upd_ne I _ hx, .inr (upd_same _ _ _)⟩
  | some s =>
    obtain ⟨h1, h2, h3⟩ := ho
    have hc : ∀ c, s.has c → ∃ cap k, w.heap[c]? = some (.chan cap #[] false k k false) := fun c hc => by
      obtain ⟨cap, k, e⟩ := h2 c hc
      exact ⟨cap, k, (sim_chan hs).2 e⟩
    refine ⟨upd I h (some s), C.reseat hM s h1 h3 hc (fun c hc' => ?_), fun x hx => upd_ne I _ hx, fun x hx => rfl, .inl rfl⟩
    obtain ⟨cap, k, e⟩ := hc c hc'
    exact Nat.lt_of_lt_of_le (Array.getElem?_eq_some_iff.1 e).1 hB
theorem rests_idle {S : Addr → Prop} {h : Nat} {v : World} {g : Goroutine} {o : Option Seat} (x : Rests P S v h g o) {B : Nat} (hB : v.heap.size ≤ B) : ∃ m, ∀ T', Deaf T' h = 0 → Idle P (KS S v.cell?) (StillOf S) B T' h m g o := by
  cases o with
  | none =>
    obtain ⟨h0, m, hq⟩ := x
    exact ⟨m, fun T' e => ⟨h0, by rw [e]; exact hq⟩⟩
  | some s =>
    obtain ⟨m, hq⟩ := x
    exact ⟨m, fun T' e => hq B hB⟩
/-- ████ A RUN IS CARRIED OUT. ████ -/
theorem Run.goes {S : Addr → Prop} {h n : Nat} {I : Inbs} {g : Goroutine} {v : World} (H : Run P Done S h n I g v) (W0 : World) :
    ∀ (w : World) (gs : Array Goroutine) (sl : Option (Nat × Nat)) (T : Trace) (q : Nat → Nat) (Mem : Nat → Prop) (B : Nat), Sim false S v w → gs.size = n → gs[h]? = some g → Mem h → B ≤ w.heap.size →
      Ring P (KS S v.cell?) (StillOf S) B Mem I h T gs w q → Shape W0 w → Comes P Done W0 (crowd gs w sl) T := by
  induction H with
  | @fin S n I g v hI hd =>
    intro w gs sl T q Mem B hs hn ha hM hB C hW0
    exact ⟨0, gs, sl, T, q, S, g, v.re w.tape w.drawn, w, Mem, B, I, rfl, ha, hd _ _, sim_rev hs _ _, rfl, rfl, hM, hI, C, hB, hW0⟩
  | @own S h n I g v hr gn wn hst _ ih =>
    intro w gs sl T q Mem B hs hn ha hM hB C hW0
    obtain ⟨N, gs₁, d, d', sl₁, sl₂, T₁, q₁, hrun, hpick, hsz, ha₁, C₁⟩ := picked (P := P) (sl := sl) (fun w d x => ks_at w d x) ha hr C
    obtain ⟨w', es, h1, h2, h3, h4, h5, h6⟩ := hst w.tape d' (w.at d') (sim_rev (sim_at hs d') _ _) rfl rfl
    obtain ⟨r1, r2, r3⟩ := own_step (sl := sl₂) (sim_at hs d') C₁ hB ha₁ h1 h3 h6
    have hKS : ∀ x, KS S (wn w.tape d').cell? x ↔ KS S v.cell? x := fun x => forall_congr' fun a => ⟨fun y ha => (y ha).trans ((h2.cell a).trans ((h3.still a ha).trans (hs.cell a).symm)), fun y ha => (y ha).trans ((h2.cell a).trans ((h3.still a ha).trans (hs.cell a).symm)).symm⟩
    exact Comes.after (runNT_succ_of hrun (hpick.trans r1)) (ih w.tape d' w' _ _ _ q₁ Mem w'.heap.size h2 (by simpa using hsz.trans hn) r2 hM (Nat.le_refl _) (ring_weaken' (fun x y => (hKS x).1 y) (Nat.le_refl _) ((hKS _).2 r3.keep) r3) (hW0.trans (shape_at.trans h3.shape)))
  | @grow S h n I g v hr S' gn wn hsub hnew hst _ ih =>
    intro w gs sl T q Mem B hs hn ha hM hB C hW0
    obtain ⟨N, gs₁, d, d', sl₁, sl₂, T₁, q₁, hrun, hpick, hsz, ha₁, C₁⟩ := picked (P := P) (sl := sl) (fun w d x => ks_at w d x) ha hr C
    obtain ⟨w', es, h1, h2, h3, h6⟩ := hst w.tape d' (w.at d') (sim_rev (sim_at hs d') _ _) rfl rfl
    have C₂ : Ring P (KS S v.cell?) (StillOf S) w.heap.size Mem I h T₁ gs₁ (w.at d') q₁ := ring_weaken' (fun _ x => x) hB C₁.keep C₁
    have hd : DH (KS S v.cell?) (StillOf S) w.heap.size I (w.at d') w' es := ⟨fun x a ha => (h3.still a ha).trans (x a ha), fun i s c hi hc => by
      obtain ⟨cap, k, e⟩ := C₂.chans i s c (fun z => z) hi hc
      rw [e]
      exact h3.other c _ e (by simp), h6⟩
    obtain ⟨C3, ha3⟩ := C₂.own (a' := gn w.tape d') ha₁ hd
    have hK : ∀ x, KS S' (wn w.tape d').cell? x → KS S v.cell? x := fun x y a ha => (y a (hsub a ha)).trans ((h2.cell a).trans ((h3.still a ha).trans (hs.cell a).symm))
    have C4 : Ring P (KS S' (wn w.tape d').cell?) (StillOf S') w'.heap.size Mem I h (T₁ ++ MemOp.ofEvents h g.frame.fn g.frame.place es) ((gs₁.map (woken P g (gn w.tape d') w')).setIfInBounds h (gn w.tape d')) w' q₁ := by
      refine ring_weaken hK (fun l ⟨a, e, x⟩ => ⟨a, e, hsub a x⟩) h3.size (ks_of_sim h2) (fun i a hi hw hst' => ?_) C3
      obtain ⟨ad, e, x⟩ := hst'
      rcases hnew ad x with y | y
      · exact C3.past.wrote i a hi hw ⟨ad, e, y⟩
      · exfalso
        obtain ⟨op, hop, hoa⟩ := touch_of hi
        have hl := C3.past.seen op (Array.mem_of_getElem? hop)
        obtain ⟨og, ofn, opos, act⟩ := op
        have hb : ad.block < w.heap.size := by
          cases act with
          | access ev =>
            simp only [MemAct.touch?, Option.some.injEq] at hoa
            subst hoa
            rw [show (MemAct.access ev).low w.heap.size = ev.loc.low w.heap.size from rfl] at hl
            rw [show ev.loc = .cell ad from e] at hl
            exact hl
          | mark m =>
            cases m <;> simp only [MemAct.touch?, Option.some.injEq] at hoa <;> first | (subst hoa; simp only [] at e; cases e; exact hl) | cases hoa
          | _ => simp [MemAct.touch?] at hoa
        exact absurd hb (by rw [hs.size] at y; omega)
    exact Comes.after (runNT_succ_of hrun (hpick.trans (runT_crowd_go ha₁ h1))) (ih w.tape d' w' _ _ _ q₁ Mem w'.heap.size h2 (by simpa using hsz.trans hn) ha3 hM (Nat.le_refl _) C4 (hW0.trans (shape_at.trans h3.shape)))
  | @swap S h n I g v S' v' hI hsw _ ih =>
    intro w gs sl T q Mem B hs hn ha hM hB C hW0
    have h2 := hsw w hs
    have hMem : ∀ x, Mem x → x = h := fun x hx => (C.nomem x hx).elim (fun y => Classical.byContradiction fun z => y (hI x z)) id
    have C4 : Ring P (KS S' v'.cell?) (StillOf S') B Mem I h T gs w q :=
      ⟨fun i g hi hg => by
          have x := C.idle i g hi hg
          rw [hI i hi] at x ⊢
          exact x,
        C.chans, C.wf, C.live, C.inj, C.above, C.mem, C.nomem, C.lo,
        ⟨C.past.clean, fun i a ha hm => (C.past.known i a ha hm).imp id fun ⟨_, _, x, _, y, z⟩ => (by rw [hI x y] at z; cases z), fun i a ha hw hst' x hx => by
          rw [hMem x hx]
          obtain ⟨ad, e, _⟩ := hst'
          exact (C.past.known i a ha (by rw [e]; rfl)).elim id fun ⟨_, _, x, _, y, z⟩ => (by rw [hI x y] at z; cases z), C.past.hears, C.past.seen⟩, ks_of_sim h2⟩
    exact ih w gs sl T q Mem B h2 hn ha hM hB C4 hW0
  | @give S h n I g v hr a₂ j c kk s x z z' es o hjh hjn hj hk hsend hes ho hrest hh ih =>
    intro w gs sl T q Mem B hs hn ha hM hB C hW0
    have C₁ : Ring P (KS S v.cell?) (StillOf S) w.heap.size Mem I h T gs w q := ring_weaken' (fun _ x => x) hB C.keep C
    obtain ⟨I1, C₂, e1, e2, e3⟩ := low_of_seat hs (Nat.le_refl _) C₁ hM ho
    obtain ⟨m, hm⟩ := rests_idle hrest (B := w.heap.size) (by rw [hs.size]; exact Nat.le_refl _)
    obtain ⟨N, m', T', hrun, gs', g₂, d, k, cap, sl', q', rfl, hsz, hj', hhome, hch, C'⟩ := Conc.give (P := P) (sl := sl) (fun w d x => ks_at w d x) (ks_chan hs C₂) (nh := m) (Inb' := upd I h o) hjh (by rw [hn]; exact hjn) ((e1 j hjh).trans hj) hk hM ha hr
      (fun d => hsend _ (sim_at hs d)) (fun e he => evHd_mono (by rw [hs.size]; exact Nat.le_refl _) (hes e he)) C₂ e2 e3 (fun T' e => by
        have y := hm T' e
        rw [upd_same]; exact y)
    have hSc : ∀ y, S y → y.block ≠ c := fun y hy e => by
      obtain ⟨_, _, z, hz⟩ := hs.still y hy
      rw [hs.cell, World.cell?, e, hch] at hz
      cases hz
    have hs' := sim_setChan hs d c cap k #[] false (k + 1) (k + 1) false hSc
    have hKS : ∀ x, KS S (v.setChan c cap #[] false (k + 1) (k + 1) false).cell? x ↔ KS S v.cell? x := fun u => forall_congr' fun a => by
      have : S a → (v.setChan c cap #[] false (k + 1) (k + 1) false).cell? a = v.cell? a := fun ha => by
        unfold World.cell?
        rw [heap_setChan_ne _ _ _ _ _ _ _ (fun e => hSc a ha e.symm)]
      exact ⟨fun y ha => (y ha).trans (this ha), fun y ha => (y ha).trans (this ha).symm⟩
    refine Comes.after hrun (ih g₂ cap k hhome ((sim_chan hs).1 hch) _ gs' sl' T' q' _ w.heap.size hs' (hsz.trans hn) hj' ⟨(C.mem j s hj).1, .inr rfl⟩ (by simp [World.setChan]; exact Nat.le_refl _) (ring_weaken' (fun x y => (hKS x).1 y) (Nat.le_refl _) ((hKS _).2 C'.keep) C') (hW0.trans (shape_at.trans (shape_chan hch))))
  | @hire S h n I g v hr a' child es o hgo hes hnew ho hrest _ ih =>
    intro w gs sl T q Mem B hs hn ha hM hB C hW0
    have C₁ : Ring P (KS S v.cell?) (StillOf S) w.heap.size Mem I h T gs w q := ring_weaken' (fun _ x => x) hB C.keep C
    obtain ⟨I1, C₂, e1, e2, e3⟩ := low_of_seat hs (Nat.le_refl _) C₁ hM ho
    obtain ⟨m, hm⟩ := rests_idle hrest (B := w.heap.size) (by rw [hs.size]; exact Nat.le_refl _)
    have hhn : h < n := by rw [← hn]; exact (Array.getElem?_eq_some_iff.1 ha).1
    obtain ⟨N, gs', d, sl', T', q', hrun, hsz, hc, C'⟩ := Conc.hire_give (P := P) (sl := sl) (fun w d x => ks_at w d x) (nh := m) (Inb' := upd I h o) hM ha hr (fun d => hgo _ (sim_at hs d)) (fun e he => evHd_mono (by rw [hs.size]; exact Nat.le_refl _) (hes e he)) C₂
      (by rw [hn, e1 n (by omega)]; exact hnew) e2 e3 (fun T' e => by
        have y := hm T' e
        rw [upd_same]; exact y)
    rw [hn] at hsz hc C'
    exact Comes.after hrun (ih _ gs' sl' T' q' _ w.heap.size (sim_at hs d) hsz hc (.inr rfl) (Nat.le_refl _) C' (hW0.trans shape_at))
/-- Goroutine 0 stands at the step that ends the run, in whatever world is alike. -/
def AtDone (P : Program) (W0 : World) (Post : Value → World → Prop) (g : Goroutine) (v : World) : Prop :=
  g.status = .running ∧ ∃ x, ∀ S w, Sim false S v w → Shape W0 w → stepG P true g w = .ended (.done x) w #[] ∧ Post x w
/-- ████ FROM A WHOLE RUN TO THE ROW's WORD. ████ -/
theorem run_good {Post : Value → World → Prop} {g : Goroutine} {v w : World} (hs : Sim false (fun _ => False) v w) (H : Run P (AtDone P w Post) (fun _ => False) 0 1 (fun _ => none) g v) :
    ∃ N last o w' t', runNT P (N + 1) (crowd #[g] w none) #[] = (.ended o w', t') ∧ runN P N (crowd #[g] w none) = .next last ∧ step P last = .ended o w' ∧ Go.Conc.Good P Post last o w' t' := by
  have hL : Leavers P #[] #[g] (fun _ => 0) := ⟨fun i x hi hx => (by
    rw [show (#[g] : Array Goroutine)[i]? = none from by simp; omega] at hx; cases hx), fun j _ => rfl⟩
  have hP : Past (fun _ => False) w.heap.size (#[] : Trace) := Past.mono past_nil (Nat.zero_le _)
  have hC : Ring P (KS (fun _ => False) v.cell?) (StillOf fun _ => False) w.heap.size (fun g => g = 0) (fun _ => none) 0 #[] #[g] w (fun _ => 0) :=
    ring_begin (fun l x => by obtain ⟨a, e, y⟩ := x; exact y.elim) hL hP (fun a x => x.elim)
  obtain ⟨N, gs', sl', T', q', S', g', v', w', Mem', B', I', h1, h2, h3, h4, h5, h6, h7, h8, C, hB, hSh⟩ := Run.goes H w w #[g] none #[] (fun _ => 0) (fun g => g = 0) w.heap.size hs rfl rfl rfl (Nat.le_refl _) hC (Shape.refl w)
  obtain ⟨hl, hp⟩ := ring_end C h7 h8
  obtain ⟨hrun, x, hx⟩ := h3
  obtain ⟨N2, last, o, w2, t2, e1, e2, e3, e4⟩ := beside_ends (P := P) (Shun := fun _ => False) (B := B') (D := fun _ _ es => ∀ e ∈ es, EvL (fun _ => False) B' e) (Post := Post) (sl := sl') (n := 0) (fun _ _ _ h => h) h2 hl hp (fun w1 hw1 => by
    obtain ⟨d, rfl⟩ := hw1
    obtain ⟨y1, y2⟩ := hx S' _ (sim_at h4 d) (hSh.trans shape_at)
    exact ⟨hrun, x, #[], y1, by simp, y2⟩)
  have hN : runN P N (crowd #[g] w none) = .next (crowd gs' w' sl') := by
    have := congrArg Prod.fst h1
    rwa [runNT_fst] at this
  refine ⟨N + N2, last, o, w2, t2, ?_, ?_, e3, e4⟩
  · rw [Nat.add_assoc, runNT_add, h1]; exact e1
  · rw [runN_add, hN]; exact e2
end
end Go.Proofs.Ytecdiejeofclaaa


/- Lone contracts by the body. -/
namespace Go.Proofs.Ytecdiejeofclaaa
open Go
section
variable {P : Program}
/-- A contract of a lone call, by its body. -/
def BWp (P : Program) (f : FuncId) (args : Array Value) (w : World) (R : Value → World → Prop) : Prop :=
  ∃ fn c, P.funcs[f]? = some fn ∧ fn.body = some c ∧ c.wp P (bodyPost P fn fun e w' => ∃ x, e = .returned x ∧ R x w') { tmps := args ++ Array.replicate (fn.ntmps - args.size) undef, defers := [] } w
theorem BWp.mono {f : FuncId} {args : Array Value} {w : World} {R R' : Value → World → Prop} (h : BWp P f args w R) (hR : ∀ x w', R x w' → R' x w') : BWp P f args w R' := by
  obtain ⟨fn, c, h1, h2, h3⟩ := h
  refine ⟨fn, c, h1, h2, Code.wp_mono (fun e a w q => ?_) h3⟩
  cases e with
  | normal => obtain ⟨hd, v, hv, x, hx, hq⟩ := q; exact ⟨hd, v, hv, x, hx, hR _ _ hq⟩
  | ret => obtain ⟨hd, v, hv, x, hx, hq⟩ := q; exact ⟨hd, v, hv, x, hx, hR _ _ hq⟩
  | panic c => obtain ⟨hd, x, hx, hq⟩ := q; cases hx
  | outgrown => obtain ⟨x, hx, _⟩ := q; cases hx
  | _ => exact q
end
end Go.Proofs.Ytecdiejeofclaaa


/- Infrastructure M: rules of a holder's walk, operation by operation. -/
namespace Go.Proofs.Ytecdiejeofclaaa
open Go Go.Conc
section
variable {P : Program} {S : Addr → Prop} {main : Bool} {Stop : Goroutine → World → Prop}
theorem stepSim_move {g g' : Goroutine} {v : World} (h : ∀ w, stepG P main g w = .go g' w) : StepSim P main S g v g' v :=
  fun wa hs ht hd => does_move h false wa hs (.inr fun c i _ => by rw [ht, hd])
theorem hold_same {g g' : Goroutine} {v : World} (hr : g.status = .running) (h : ∀ w, stepG P main g w = .go g' w) (H : Hold P main S Stop g' v) : Hold P main S Stop g v :=
  .step g v hr fun t d => ⟨g', v.re t d, stepSim_move h, H.re t d⟩
variable {b : Frame} {a : Act} {k : List Item} {cs : List Frame} {v : World}
theorem hold_seq {x y : Code} (H : Hold P main S Stop (G (b.at a (.code x :: .code y :: k)) cs) v) : Hold P main S Stop (G (b.at a (.code (.seq x y) :: k)) cs) v :=
  hold_same rfl (fun w => by simp [G, stepG, stepG.exec, Frame.at]) H
theorem hold_skip (H : Hold P main S Stop (G (b.at a k) cs) v) : Hold P main S Stop (G (b.at a (.code .skip :: k)) cs) v :=
  hold_same rfl (fun w => by simp [G, stepG, stepG.exec, Frame.at]) H
theorem hold_label {l : Nat} (H : Hold P main S Stop (G (b.at a k) cs) v) : Hold P main S Stop (G (b.at a (.code (.label l) :: k)) cs) v :=
  hold_same rfl (fun w => by simp [G, stepG, stepG.exec, Frame.at]) H
theorem hold_inBlock {id : Nat} (H : Hold P main S Stop (G (b.at a k) cs) v) : Hold P main S Stop (G (b.at a (.inBlock id :: k)) cs) v :=
  hold_same rfl (fun w => by simp [G, stepG, stepG.exec, Frame.at]) H
theorem hold_scope {c : Code} (H : Hold P main S Stop (G (b.at a (.code c :: .inScope c :: k)) cs) v) : Hold P main S Stop (G (b.at a (.code (.scope c) :: k)) cs) v :=
  hold_same rfl (fun w => by simp [G, stepG, stepG.exec, Frame.at]) H
theorem hold_block {id : Nat} {c : Code} (H : Hold P main S Stop (G (b.at a (.code c :: .inBlock id :: k)) cs) v) : Hold P main S Stop (G (b.at a (.code (.block id c) :: k)) cs) v :=
  hold_same rfl (fun w => by simp [G, stepG, stepG.exec, Frame.at]) H
theorem hold_loop {c : Code} (H : Hold P main S Stop (G (b.at a (.code c :: .inLoop c :: k)) cs) v) : Hold P main S Stop (G (b.at a (.code (.loop c) :: k)) cs) v :=
  hold_same rfl (fun w => by simp [G, stepG, stepG.exec, Frame.at]) H
theorem hold_inLoop {c : Code} (H : Hold P main S Stop (G (b.at a (.code c :: .inLoop c :: k)) cs) v) : Hold P main S Stop (G (b.at a (.inLoop c :: k)) cs) v :=
  hold_same rfl (fun w => by simp [G, stepG, stepG.exec, Frame.at]) H
theorem hold_cond {c : Operand} {x y : Code} {t : Bool} (h : a.eval c = .bool t) (H : Hold P main S Stop (G (b.at a (.code (if t then x else y) :: k)) cs) v) : Hold P main S Stop (G (b.at a (.code (.cond c x y) :: k)) cs) v :=
  hold_same rfl (fun w => by
    have he := Frame.eval_at' b a (.code (.cond c x y) :: k)
    simp only [Frame.at] at he
    simp [G, stepG, stepG.exec, Frame.at, he, h]) H
theorem hold_exit {id : Nat} {k' : List Item} (h : exitTo id k = some k') (H : Hold P main S Stop (G (b.at a k') cs) v) : Hold P main S Stop (G (b.at a (.code (.exit id) :: k)) cs) v :=
  hold_same rfl (fun w => by simp [G, stepG, stepG.exec, Frame.at, h]) H
theorem hold_region {id : Nat} {ops : Array Oper} {l : List Nat} (h : List.range ops.size = l) (H : Hold P main S Stop (G (b.at a (.inRegion ops l :: k)) cs) v) : Hold P main S Stop (G (b.at a (.code (.region id ops false) :: k)) cs) v :=
  hold_same rfl (fun w => by subst h; simp [G, stepG, stepG.exec, Frame.at]) H
theorem hold_region_end {ops : Array Oper} (H : Hold P main S Stop (G (b.at a k) cs) v) : Hold P main S Stop (G (b.at a (.inRegion ops [] :: k)) cs) v :=
  hold_same rfl (fun w => by simp [G, stepG, stepG.exec, Frame.at]) H
theorem hold_ret (hb : b.kind = .normal ∨ b.kind = .deferred) (H : Hold P main S Stop (G { b.at a (.code .ret :: k) with mode := .returning } cs) v) : Hold P main S Stop (G (b.at a (.code .ret :: k)) cs) v :=
  hold_same rfl (fun w => by rcases hb with hb | hb <;> simp [G, stepG, stepG.exec, Frame.at, Frame.roundOf, hb]) H
theorem hold_end (hb : b.kind = .normal ∨ b.kind = .deferred) (H : Hold P main S Stop (G { b.at a [] with mode := .returning } cs) v) : Hold P main S Stop (G (b.at a []) cs) v :=
  hold_same rfl (fun w => by rcases hb with hb | hb <;> simp [G, stepG, stepG.exec, Frame.at, Frame.roundOf, hb]) H
/-! ### operations -/
theorem op_run {L : Allow} (hA : ∀ f ∈ L.A, AtomOk P f) {ops : Array Oper} {i : Nat} {rest : List Nat} {o : Oper} (hb : b.kind ≠ .early) (ho : ops[i]? = some o) (hw : Region.wanted o (yielded ops a.tmps) = true) (hok : opOk P L o.op = true) {n : Next} {v' : World} (hr : (execOp a.eval o).run P v = .ok n v')
    {g' : Goroutine} (hg' : ∀ es w1, GStep.after es (match (Result.ok n w1 : Result Next) with
      | .ok (.value x) w => GStep.go (G ((b.at a (.inRegion ops (i :: rest) :: k)).finish x) cs) w
      | .ok .skip w => GStep.go (G ((b.at a (.inRegion ops (i :: rest) :: k)).finish undef) cs) w
      | .ok (.enter f args) w => GStep.go (G (Frame.enter P f args .normal) (b.at a (.inRegion ops (i :: rest) :: k) :: cs)) w
      | _ => GStep.ended (.stuck "" "") w1) = .go g' w1 es) : StepSim P main S (G (b.at a (.inRegion ops (i :: rest) :: k)) cs) v g' v' := by
  intro w hs ht hd
  have hT : Tame P (nextOk L) (execOp a.eval o) := execOp_tame hA a.eval (act_const a) (act_func a) o hok
  obtain ⟨w1, new, A⟩ := tame_sim hT #[] hs hr (fun c _ => by rw [ht, hd])
  have hbk : ∀ td, ((b.at a td).kind == CallKind.early) = false := fun td => by simpa [Frame.at] using hb
  refine ⟨w1, seen P b.fn (#[] ++ new), ?_, A.sim, A.kept, A.tape, A.drawn, fun e he => A.evs e (by simpa using mem_seen he)⟩
  rw [← hg' (seen P b.fn (#[] ++ new)) w1, stepG_oper ho hw]
  unfold stepG.apply
  simp only [if_true, A.run, hbk, Bool.false_eq_true, if_false]
  have hl := A.leaf
  cases n <;> first | rfl | exact hl.elim
theorem wanted_of {o : Oper} (hg : o.guard = none) (y : Nat → Option Bool) : Region.wanted o y = true := by simp [Region.wanted, hg]
theorem fin_at {ops : Array Oper} {i : Nat} {rest : List Nat} {o : Oper} (ho : ops[i]? = some o) (x : Value) : (b.at a (.inRegion ops (i :: rest) :: k)).finish x = b.at (a.put o.dst x) (.inRegion ops rest :: k) := by
  rw [Frame.finish_at, ho]; rfl
/-- An operation that gives a value, whatever the tape answers. -/
theorem hold_value {L : Allow} (hA : ∀ f ∈ L.A, AtomOk P f) {ops : Array Oper} {i : Nat} {rest : List Nat} {o : Oper} (hb : b.kind ≠ .early) (ho : ops[i]? = some o) (hg : o.guard = none) (hok : opOk P L o.op = true)
    (h : ∀ t d, ∃ x v', (execOp a.eval o).run P (v.re t d) = .ok (.value x) v' ∧ Hold P main S Stop (G (b.at (a.put o.dst x) (.inRegion ops rest :: k)) cs) v') : Hold P main S Stop (G (b.at a (.inRegion ops (i :: rest) :: k)) cs) v :=
  .step _ v rfl fun t d => by
    obtain ⟨x, v', hr, H⟩ := h t d
    exact ⟨_, v', op_run hA hb ho (wanted_of hg _) hok hr fun es w1 => by simp [GStep.after, fin_at ho], H⟩
theorem hold_unit {L : Allow} (hA : ∀ f ∈ L.A, AtomOk P f) {ops : Array Oper} {i : Nat} {rest : List Nat} {o : Oper} (hb : b.kind ≠ .early) (ho : ops[i]? = some o) (hg : o.guard = none) (hok : opOk P L o.op = true) {v' : World}
    (h : ∀ t d, (execOp a.eval o).run P (v.re t d) = .ok .skip (v'.re t d)) (H : Hold P main S Stop (G (b.at (a.put o.dst undef) (.inRegion ops rest :: k)) cs) v') : Hold P main S Stop (G (b.at a (.inRegion ops (i :: rest) :: k)) cs) v :=
  .step _ v rfl fun t d => ⟨_, _, op_run hA hb ho (wanted_of hg _) hok (h t d) fun es w1 => by simp [GStep.after, fin_at ho], H.re t d⟩
/-- A call: into the callee. -/
theorem hold_enter {L : Allow} (hA : ∀ f ∈ L.A, AtomOk P f) {ops : Array Oper} {i : Nat} {rest : List Nat} {o : Oper} (hb : b.kind ≠ .early) (ho : ops[i]? = some o) (hg : o.guard = none) (hok : opOk P L o.op = true) {f : FuncId} {args : Array Value}
    (h : ∀ t d, (execOp a.eval o).run P (v.re t d) = .ok (.enter f args) (v.re t d)) (H : Hold P main S Stop (G (Frame.enter P f args .normal) (b.at a (.inRegion ops (i :: rest) :: k) :: cs)) v) : Hold P main S Stop (G (b.at a (.inRegion ops (i :: rest) :: k)) cs) v :=
  .step _ v rfl fun t d => ⟨_, _, op_run hA hb ho (wanted_of hg _) hok (h t d) fun es w1 => by simp [GStep.after], H.re t d⟩
/-- The same for an operation with a guard that is met. -/
theorem hold_pure' {L : Allow} (hA : ∀ f ∈ L.A, AtomOk P f) {ops : Array Oper} {i : Nat} {rest : List Nat} {o : Oper} (hb : b.kind ≠ .early) (ho : ops[i]? = some o) (hw : Region.wanted o (yielded ops a.tmps) = true) (hok : opOk P L o.op = true) {x : Value}
    (h : ∀ t d, (execOp a.eval o).run P (v.re t d) = .ok (.value x) (v.re t d)) (H : Hold P main S Stop (G (b.at (a.put o.dst x) (.inRegion ops rest :: k)) cs) v) : Hold P main S Stop (G (b.at a (.inRegion ops (i :: rest) :: k)) cs) v :=
  .step _ v rfl fun t d => ⟨_, _, op_run hA hb ho hw hok (h t d) fun es w1 => by simp [GStep.after, fin_at ho], H.re t d⟩
theorem hold_enter' {L : Allow} (hA : ∀ f ∈ L.A, AtomOk P f) {ops : Array Oper} {i : Nat} {rest : List Nat} {o : Oper} (hb : b.kind ≠ .early) (ho : ops[i]? = some o) (hw : Region.wanted o (yielded ops a.tmps) = true) (hok : opOk P L o.op = true) {f : FuncId} {args : Array Value}
    (h : ∀ t d, (execOp a.eval o).run P (v.re t d) = .ok (.enter f args) (v.re t d)) (H : Hold P main S Stop (G (Frame.enter P f args .normal) (b.at a (.inRegion ops (i :: rest) :: k) :: cs)) v) : Hold P main S Stop (G (b.at a (.inRegion ops (i :: rest) :: k)) cs) v :=
  .step _ v rfl fun t d => ⟨_, _, op_run hA hb ho hw hok (h t d) fun es w1 => by simp [GStep.after], H.re t d⟩
theorem opOk_fn {L : Allow} {f : FuncId} {fn : Func} {args : Array Operand} {ats : Array TypeId} (hf : P.funcs[f]? = some fn) (hb : fn.body.isSome = true) (hn : (fn.name == "runtime.NumGoroutine") = false) (hm : f ∈ L.L) : opOk P L (.call { callee := .value (.func f), args := args, argTypes := ats }) = true := by
  have hn' : ¬ fn.name = "runtime.NumGoroutine" := by simpa using hn
  simp [opOk, hf, hb, hn', hm]
/-- The results are slots. -/
def ResOk (fn : Func) : Prop := fn.results = #[] ∨ (∃ t, fn.results = #[.tmp t]) ∨ (∃ t u, fn.results = #[.tmp t, .tmp u]) ∨ ∃ t u x, fn.results = #[.tmp t, .tmp u, .tmp x]
theorem results_any {fn : Func} (h : ResOk fn) (tmps : Array Value) : ∃ x, ∀ w, (results fn tmps).run P w = .ok x w := by
  rcases h with h | ⟨t, h⟩ | ⟨t, u, h⟩ | ⟨t, u, x, h⟩ <;> exact ⟨_, fun w => by simp [results, h]; rfl⟩
theorem hold_return {c : Frame} {fn : Func} {td : List Item} {x : Value} (hb : b.kind = .normal) (hf : P.funcs[b.fn]? = some fn) (hd : a.defers = []) (hx : ∀ w, (results fn a.tmps).run P w = .ok x w) (H : Hold P main S Stop (G (c.finish x) cs) v) :
    Hold P main S Stop (G { b.at a td with mode := .returning } (c :: cs)) v :=
  .step _ v rfl fun t d => ⟨_, v.re t d, fun wa hs ht hd' => by
    have h := stepG_return (P := P) (m := main) (x := { b.at a td with mode := .returning }) (c := c) (cs := cs) (w := wa) rfl hd hb hf
    have hT := tame_results (P := P) fn a.tmps
    obtain ⟨w1, new, A⟩ := tame_sim hT #[] hs (hx (v.re t d)) (fun c _ => by rw [ht, hd'])
    refine ⟨w1, seen P b.fn (#[] ++ new), ?_, A.sim, A.kept, A.tape, A.drawn, fun e he => A.evs e (by simpa using mem_seen he)⟩
    rw [h]
    have e : (results fn ({ b.at a td with mode := .returning } : Frame).tmps).runT P wa #[] = (.ok x w1, #[] ++ new) := A.run
    rw [e]
    simp [GStep.after, Frame.at], H.re t d⟩
theorem enter_at {f : FuncId} {fn : Func} {c : Code} {args : Array Value} (hf : P.funcs[f]? = some fn) (hb : fn.body = some c) :
    Frame.enter P f args .normal = ({ (default : Frame) with fn := f, kind := .normal } : Frame).at { tmps := args ++ Array.replicate (fn.ntmps - args.size) undef, defers := [] } [.code c] := by
  simp [Frame.enter, Frame.at, hf, hb]
/-- ████ A CALL OF ALLOWED CODE: by its lone contract. ████ -/
theorem hold_callee {L : Allow} (hL : LOk P L) {f : FuncId} {fn : Func} (hf : P.funcs[f]? = some fn) (hres : ResOk fn) (hok : (fn.body.map (codeOk P L)).getD false = true) (hv : Ready0 v) {args : Array Value} {R : Value → World → Prop} {c : Frame}
    (h : ∀ t d, BWp P f args (v.re t d) R) (H : ∀ x w, R x w → Ready0 w → Hold P main S Stop (G (c.finish x) cs) w) : Hold P main S Stop (G (Frame.enter P f args .normal) (c :: cs)) v := by
  cases hbd : fn.body with
  | none => rw [hbd] at hok; cases hok
  | some body =>
    rw [hbd] at hok
    rw [enter_at hf hbd]
    refine lift_code hL (by simp) (c := body) hok rfl hv (Q := bodyPost P fn fun e w' => ∃ x, e = .returned x ∧ R x w') (fun t d => ?_) (fun e a' w q => ?_) (fun a' w q hd hrd => ?_) (fun a' w td q hd hrd => ?_)
    · obtain ⟨fn', c', h1, h2, h3⟩ := h t d
      rw [hf] at h1
      obtain rfl := Option.some.inj h1
      rw [hbd] at h2
      obtain rfl := Option.some.inj h2
      exact h3
    · cases e with
      | normal => exact .inl rfl
      | ret => exact .inr rfl
      | panic c => obtain ⟨_, x, hx, _⟩ := q; cases hx
      | outgrown => obtain ⟨x, hx, _⟩ := q; cases hx
      | _ => exact q.elim
    · obtain ⟨_, x, hx, y, hy, hq⟩ := q
      cases hy
      obtain ⟨z, hz⟩ := results_any (P := P) hres a'.tmps
      have : z = x := by have := (hz w).symm.trans hx; simp only [Result.ok.injEq, and_true] at this; exact this
      subst this
      exact hold_end (.inl rfl) (hold_return rfl hf hd hz (H _ _ hq hrd))
    · obtain ⟨_, x, hx, y, hy, hq⟩ := q
      cases hy
      obtain ⟨z, hz⟩ := results_any (P := P) hres a'.tmps
      have : z = x := by have := (hz w).symm.trans hx; simp only [Result.ok.injEq, and_true] at this; exact this
      subst this
      exact hold_return rfl hf hd hz (H _ _ hq hrd)
end
end Go.Proofs.Ytecdiejeofclaaa


/- Infrastructure N: the rules with a list of what stands in the slots. -/
namespace Go.Proofs.Ytecdiejeofclaaa
open Go Go.Conc
theorem cell_re (v : World) (t : Tp) (d : Nat) (a : Addr) : (v.re t d).cell? a = v.cell? a := rfl
theorem frozen_re (v : World) (t : Tp) (d : Nat) (a : Addr) : (v.re t d).frozen? a = v.frozen? a := rfl
abbrev Env := List (Nat × Value)
def look : Env → Nat → Option Value
  | [], _ => none
  | (k, x) :: l, t => bif Nat.beq k t then some x else look l t
def opv (e : Env) : Operand → Option Value
  | .tmp t => look e t
  | .const x => some x
  | .func f => some (.func (.func f) #[] #[])
  | _ => none
structure AtE (N : Nat) (D : List Deferred) (e : Env) (a : Act) : Prop where
  defers : a.defers = D
  size : a.tmps.size = N
  val : ∀ t x, look e t = some x → a.tmps[t]? = some x
section
variable {P : Program} {S : Addr → Prop} {main : Bool} {Stop : Goroutine → World → Prop} {N : Nat} {D : List Deferred} {e : Env}
variable {b : Frame} {a : Act} {k : List Item} {cs : List Frame} {v : World}
theorem AtE.eval (h : AtE N D e a) {q : Operand} {x : Value} (hx : opv e q = some x) : a.eval q = x := by
  cases q with
  | tmp t =>
    have := h.val t x hx
    show a.tmps.getD t undef = x
    rw [Array.getD_eq_getD_getElem?, this]; rfl
  | const y => cases hx; rfl
  | func f => cases hx; rfl
  | _ => cases hx
theorem AtE.put (h : AtE N D e a) {d : Nat} (hd : d < N) (x : Value) : AtE N D ((d, x) :: e) (a.put (some d) x) := by
  refine ⟨h.defers, by simp [Act.put, h.size], fun t y hy => ?_⟩
  unfold look at hy
  cases hb : Nat.beq d t with
  | true =>
    rw [hb] at hy
    obtain rfl := Nat.eq_of_beq_eq_true hb
    cases hy
    simp [Act.put, Array.getElem?_setIfInBounds, h.size, hd]
  | false =>
    rw [hb] at hy
    have hne : d ≠ t := fun e => by subst e; simp at hb
    have := h.val t y hy
    simp [Act.put, Array.getElem?_setIfInBounds_ne hne, this]
theorem AtE.sub {e' : Env} (h : AtE N D e a) (hs : ∀ t x, look e' t = some x → look e t = some x) : AtE N D e' a := ⟨h.defers, h.size, fun t x hx => h.val t x (hs t x hx)⟩
theorem AtE.cons {t : Nat} {x : Value} {e' : Env} (h : look e t = some x) (hs : ∀ t x, look e' t = some x → look e t = some x) : ∀ u y, look ((t, x) :: e') u = some y → look e u = some y := by
  intro u y hy
  unfold look at hy
  cases hb : Nat.beq t u with
  | true => rw [hb] at hy; obtain rfl := Nat.eq_of_beq_eq_true hb; cases hy; exact h
  | false => rw [hb] at hy; exact hs u y hy
theorem AtE.nil : ∀ t x, look [] t = some x → look e t = some x := fun _ _ h => by cases h
/-- At a call's start. -/
theorem AtE.start (args : Array Value) (n : Nat) : AtE (args.size + n) [] ((List.range args.size).map fun i => (i, args.getD i undef)) { tmps := args ++ Array.replicate n undef, defers := [] } := by
  refine ⟨rfl, by simp, fun t x hx => ?_⟩
  have key : ∀ (l : List Nat), look (l.map fun i => (i, args.getD i undef)) t = some x → t ∈ l ∧ x = args.getD t undef := by
    intro l
    induction l with
    | nil => intro h; cases h
    | cons i l ih =>
      intro h
      simp only [List.map_cons, look] at h
      cases hb : Nat.beq i t with
      | true => rw [hb] at h; obtain rfl := Nat.eq_of_beq_eq_true hb; cases h; exact ⟨by simp, rfl⟩
      | false => rw [hb] at h; obtain ⟨h1, h2⟩ := ih h; exact ⟨by simp [h1], h2⟩
  obtain ⟨h1, rfl⟩ := key _ hx
  have hlt : t < args.size := by simpa using h1
  simp [Array.getElem?_append_left hlt, hlt]
def view (o : Oper) : Option Nat × Op × Option (Nat × Bool) := (o.dst, o.op, o.guard)
theorem at_view {ops : Array Oper} {Lv : List (Option Nat × Op × Option (Nat × Bool))} (hl : ops.toList.map view = Lv) {i : Nat} {d : Option Nat} {op : Op} (hi : Lv[i]? = some (d, op, none)) : ∃ o, ops[i]? = some o ∧ o.dst = d ∧ o.op = op ∧ o.guard = none := by
  subst hl
  rw [List.getElem?_map, Array.getElem?_toList] at hi
  cases h : ops[i]? with
  | none => rw [h] at hi; cases hi
  | some o =>
    rw [h] at hi
    simp only [Option.map_some, Option.some.injEq, view, Prod.mk.injEq] at hi
    exact ⟨o, rfl, hi.1, hi.2.1, hi.2.2⟩
variable {L : Allow} {ops : Array Oper} {Lv : List (Option Nat × Op × Option (Nat × Bool))} {i : Nat} {rest : List Nat} {d : Nat} {op : Op}
/-- What an operation comes to, of the slots alone. -/
def RunsTo (P : Program) (e : Env) (op : Op) (v : World) (n : Next) (v' : World) : Prop :=
  ∀ (ρ : Operand → Value) (o : Oper), (∀ q z, opv e q = some z → ρ q = z) → o.op = op → ∀ t d, (execOp ρ o).run P (v.re t d) = .ok n (v'.re t d)
theorem h_val (hA : ∀ f ∈ L.A, AtomOk P f) (hb : b.kind ≠ .early) (hl : ops.toList.map view = Lv) (hi : Lv[i]? = some (some d, op, none)) (hok : opOk P L op = true) (hd : d < N) (hat : AtE N D e a) {y : Value} {v' : World} (hrun : RunsTo P e op v (.value y) v')
    (H : ∀ a', AtE N D ((d, y) :: e) a' → Hold P main S Stop (G (b.at a' (.inRegion ops rest :: k)) cs) v') : Hold P main S Stop (G (b.at a (.inRegion ops (i :: rest) :: k)) cs) v := by
  obtain ⟨o, ho, hdst, hop, hg⟩ := at_view hl hi
  refine hold_value hA hb ho hg (by rw [hop]; exact hok) fun t dd => ⟨y, v'.re t dd, hrun _ o (fun q z hz => hat.eval hz) hop t dd, ?_⟩
  rw [hdst]
  exact (H _ (hat.put hd y)).re t dd
theorem h_skip (hA : ∀ f ∈ L.A, AtomOk P f) (hb : b.kind ≠ .early) (hl : ops.toList.map view = Lv) (hi : Lv[i]? = some (none, op, none)) (hok : opOk P L op = true) (hat : AtE N D e a) {v' : World} (hrun : RunsTo P e op v .skip v')
    (H : ∀ a', AtE N D e a' → Hold P main S Stop (G (b.at a' (.inRegion ops rest :: k)) cs) v') : Hold P main S Stop (G (b.at a (.inRegion ops (i :: rest) :: k)) cs) v := by
  obtain ⟨o, ho, hdst, hop, hg⟩ := at_view hl hi
  refine hold_unit hA hb ho hg (by rw [hop]; exact hok) (fun t dd => hrun _ o (fun q z hz => hat.eval hz) hop t dd) ?_
  rw [hdst]
  exact H _ hat
/-- A call: the frame that waits, with what is known of its slots. -/
theorem h_enter (hA : ∀ f ∈ L.A, AtomOk P f) (hb : b.kind ≠ .early) (hl : ops.toList.map view = Lv) {dd : Option Nat} (hi : Lv[i]? = some (dd, op, none)) (hok : opOk P L op = true) (hat : AtE N D e a) {f : FuncId} {args : Array Value} (hrun : RunsTo P e op v (.enter f args) v)
    (H : Hold P main S Stop (G (Frame.enter P f args .normal) (b.at a (.inRegion ops (i :: rest) :: k) :: cs)) v) : Hold P main S Stop (G (b.at a (.inRegion ops (i :: rest) :: k)) cs) v := by
  obtain ⟨o, ho, hdst, hop, hg⟩ := at_view hl hi
  exact hold_enter hA hb ho hg (by rw [hop]; exact hok) (fun t dd => hrun _ o (fun q z hz => hat.eval hz) hop t dd) H
/-- The frame that waited goes on with the value. -/
theorem back_val (hl : ops.toList.map view = Lv) (hi : Lv[i]? = some (some d, op, none)) (hd : d < N) (hat : AtE N D e a) (x : Value) :
    ∃ a', AtE N D ((d, x) :: e) a' ∧ (b.at a (.inRegion ops (i :: rest) :: k)).finish x = b.at a' (.inRegion ops rest :: k) := by
  obtain ⟨o, ho, hdst, hop, hg⟩ := at_view hl hi
  exact ⟨_, hat.put hd x, by rw [fin_at ho, hdst]⟩
/-- A call of allowed code. -/
theorem h_call (hL : LOk P L) (hA : ∀ f ∈ L.A, AtomOk P f) (hb : b.kind ≠ .early) (hl : ops.toList.map view = Lv) (hi : Lv[i]? = some (some d, op, none)) (hok : opOk P L op = true) (hd : d < N) (hat : AtE N D e a) {f : FuncId} {args : Array Value} (hrun : RunsTo P e op v (.enter f args) v)
    {fn : Func} (hf : P.funcs[f]? = some fn) (hres : ResOk fn) (hbody : (fn.body.map (codeOk P L)).getD false = true) (hv : Ready0 v) {R : Value → World → Prop} (h : ∀ t d, BWp P f args (v.re t d) R)
    (H : ∀ x w, R x w → Ready0 w → ∀ a', AtE N D ((d, x) :: e) a' → Hold P main S Stop (G (b.at a' (.inRegion ops rest :: k)) cs) w) : Hold P main S Stop (G (b.at a (.inRegion ops (i :: rest) :: k)) cs) v := by
  refine h_enter hA hb hl hi hok hat hrun (hold_callee hL hf hres hbody hv h fun x w hR hrd => ?_)
  obtain ⟨a', h1, h2⟩ := back_val (b := b) (k := k) (rest := rest) hl hi hd hat x
  rw [h2]
  exact H x w hR hrd a' h1
theorem run_then {α β : Type} {s : Sem α} {f : α → Sem β} {w w1 : World} {x : α} {r : Result β} (h : s.run P w = .ok x w1) (h2 : (f x).run P w1 = r) : (s >>= f).run P w = r := by
  rw [Sem.run_bind, h]; exact h2
/-! ### operations that give a value and leave the world -/
theorem r_move {q : Operand} {y : Value} (h : opv e q = some y) : RunsTo P e (.move q) v (.value y) v := fun ρ o hρ ho t d => by simp only [execOp, ho, hρ _ _ h]; rfl
theorem r_assign {q : Operand} {y : Value} (h : opv e q = some y) : RunsTo P e (.assign q) v (.value y) v := fun ρ o hρ ho t d => by simp only [execOp, ho, hρ _ _ h]; rfl
theorem r_nil {q : Operand} {p : Addr} (h : opv e q = some (.pointer (some p))) : RunsTo P e (.nilCheck q) v (.value (.pointer (some p))) v := fun ρ o hρ ho t d => by simp only [execOp, ho, hρ _ _ h]; rfl
/-- The field's cells begin so far behind the struct's. -/
def FieldK (P : Program) (s : TypeId) (f k : Nat) : Prop := ∀ (w : World) (b o : Nat), (Instr.fieldAt s (.pointer (some ⟨b, o, none⟩)) f).run P w = .ok (.pointer (some ⟨b, o + k, none⟩)) w
theorem r_field {s : TypeId} {q : Operand} {f kk B O : Nat} (hk : FieldK P s f kk) (h : opv e q = some (.pointer (some ⟨B, O, none⟩))) : RunsTo P e (.fieldAddr s q f) v (.value (.pointer (some ⟨B, O + kk, none⟩))) v := fun ρ o hρ ho t d => by
  simp only [execOp, ho, hρ _ _ h]
  exact run_then (hk _ _ _) rfl
def Load1 (P : Program) (t : TypeId) : Prop := ∀ (w : World) (b o : Nat) (x : Value), w.cell? ⟨b, o, none⟩ = some x → (Instr.loadAt t (.pointer (some ⟨b, o, none⟩))).run P w = .ok x w
theorem r_load {ty : TypeId} {q : Operand} {B O : Nat} {y : Value} (hk : Load1 P ty) (h : opv e q = some (.pointer (some ⟨B, O, none⟩))) (hc : v.cell? ⟨B, O, none⟩ = some y) : RunsTo P e (.load ty q) v (.value y) v := fun ρ o hρ ho t d => by
  simp only [execOp, ho, hρ _ _ h]
  exact run_then (hk _ _ _ _ (show (v.re t d).cell? _ = _ from hc)) rfl
def oneK : Value → Bool
  | .int .. | .bool _ | .pointer _ | .slice .. | .chan _ => true
  | _ => false
def Store1 (P : Program) (t : TypeId) : Prop := ∀ (w : World) (b o : Nat) (x y : Value), w.cell? ⟨b, o, none⟩ = some x → w.frozen? ⟨b, o, none⟩ = false → oneK y = true → (Instr.storeAt t (.pointer (some ⟨b, o, none⟩)) y).run P w = .ok () (w.setCell ⟨b, o, none⟩ y)
theorem r_store {ty : TypeId} {q q' : Operand} {B O : Nat} {x y : Value} (hk : Store1 P ty) (h : opv e q = some (.pointer (some ⟨B, O, none⟩))) (hy : opv e q' = some y) (h1 : oneK y = true) (hc : v.cell? ⟨B, O, none⟩ = some x) (hf : v.frozen? ⟨B, O, none⟩ = false) :
    RunsTo P e (.store ty q q') v .skip (v.setCell ⟨B, O, none⟩ y) := fun ρ o hρ ho t d => by
  simp only [execOp, ho, hρ _ _ h, hρ _ _ hy]
  exact run_then (hk _ _ _ _ _ (show (v.re t d).cell? _ = _ from hc) (show (v.re t d).frozen? _ = _ from hf) h1) rfl
/-- A direct call: into the callee. -/
theorem r_call {f : FuncId} {fn : Func} {args : Array Operand} {ats : Array TypeId} {vals : Array Value} (hf : P.funcs[f]? = some fn) (hb : fn.body.isSome = true) (hn : (fn.name == "runtime.NumGoroutine") = false) (ha : args.toList.map (opv e) = vals.toList.map some) :
    RunsTo P e (.call { callee := .value (.func f), args := args, argTypes := ats }) v (.enter f vals) v := by
  intro ρ o hρ ho t d
  have hargs : args.map ρ = vals := by
    apply Array.ext'
    rw [Array.toList_map]
    have : ∀ (l : List Operand) (m : List Value), l.map (opv e) = m.map some → l.map ρ = m := by
      intro l
      induction l with
      | nil => intro m h; cases m with
        | nil => rfl
        | cons _ _ => cases h
      | cons x l ih => intro m h; cases m with
        | nil => cases h
        | cons y m =>
          simp only [List.map_cons, List.cons.injEq] at h ⊢
          exact ⟨hρ _ _ h.1, ih m h.2⟩
    exact this _ _ ha
  have hfun := hρ (.func f) _ rfl
  have hnone : fn.body.isNone = false := by cases h : fn.body <;> simp_all
  simp only [execOp, ho, resolve, hfun, hargs, Deferred.ofValue]
  have hn' : ¬ fn.name = "runtime.NumGoroutine" := by simpa using hn
  have hb' : ¬ fn.body = none := fun e => by rw [e] at hb; cases hb
  simp [invoke, callFunc, hf, hn', hb']
end
end Go.Proofs.Ytecdiejeofclaaa


/- The world of turns, in plain Lean: what a schedule makes of processes. -/
namespace Go.Proofs.Ytecdiejeofclaaa
open Go Go.Conc
/-- A thread's own words: its state, cell, op, seen. -/
structure TSt where
  st : Int
  cell : Int
  op : Int
  seen : Int
/-- A step of the trace. -/
structure TStep where
  th : Int
  cell : Int
  op : Int
  old : Int
  new : Int
deriving DecidableEq
structure Sys where
  sched : List Int
  used : Nat
  last : Int
  cnt : List Int
  vals : List Int
  trace : List TStep
  stuck : Bool
  ths : List TSt
/-- What a thread does, as far as the world of turns is told. -/
inductive Prog : Type
  | done (r : List (Int × Int))
  | out
  | wait (st op c : Int) (k : Prog)
  | rd (c : Nat) (k : Int → Prog)
  | wr (c : Nat) (x : Int) (k : Prog)
  | note (op c a b : Int) (k : Prog)
  | bump (c : Nat) (k : Prog)
  | stk (k : Bool → Prog)
def traceMax : Nat := 2 ^ 40
namespace Sys
/-- How often a cell was changed. -/
def changed (A : Sys) (c : Int) : Int := if c < 0 then 0 else (A.cnt[c.toNat]?).getD 0
def park (A : Sys) (i : Nat) (st op c : Int) : Sys := { A with ths := A.ths.set i ⟨st, c, op, A.changed c⟩ }
def setSt (A : Sys) (i : Nat) (st : Int) : Sys := { A with ths := A.ths.modify i fun t => { t with st := st } }
def put (A : Sys) (c : Nat) (x : Int) : Sys := { A with vals := A.vals.set c x }
def get (A : Sys) (c : Nat) : Int := (A.vals[c]?).getD 0
def note (A : Sys) (i : Int) (op c a b : Int) : Sys := { A with trace := A.trace ++ [⟨i, c, op, a, b⟩] }
def bump (A : Sys) (c : Nat) : Sys := { A with cnt := A.cnt.modify c (· + 1) }
end Sys
/-- A thread goes till it waits ('inl': what is left), or ends ('inr': with that); 'none': more steps than are told. -/
def Prog.go (i : Nat) : Prog → Sys → Option (Sys × (Prog ⊕ List (Int × Int)))
  | .done r, A => some (A.setSt i 3, .inr r)
  | .out, _ => none
  | .wait st op c k, A => some (A.park i st op c, .inl k)
  | .rd c k, A => (k (A.get c)).go i A
  | .wr c x k, A => k.go i (A.put c x)
  | .note op c a b k, A => if A.trace.length < traceMax then k.go i (A.note i op c a b) else none
  | .bump c k, A => if A.changed c < 2 ^ 40 then k.go i (A.bump c) else none
  | .stk k, A => (k A.stuck).go i A
/-- Whose block it is. -/
inductive Own
  | none
  | sys
  | main
  | thr (i : Nat)
  | const
  | mixed
deriving DecidableEq
/-- Where everything stands. -/
structure Gho where
  W : Nat
  back : Nat
  n0 : Nat
  tb : Nat → Nat
  goes : Nat → Nat
  cb : Nat → Nat
  nc : Nat
  own : Nat → Own
/-- The still cells, of so many threads. -/
def SS (Γ : Gho) (n : Nat) : Addr → Prop := fun a => a = ⟨Γ.W, 8, none⟩ ∨ ∃ j, j < n ∧ a = ⟨Γ.tb j, 2, none⟩
def flat (l : List TStep) : List Value := l.flatMap fun s => [.int .i64 s.th, .int .i64 s.cell, .int .i64 s.op, .int .i64 s.old, .int .i64 s.new]
def ints (l : List Int) : List Value := l.map (.int .i64 ·)
def isys (Γ : Gho) (v : Value) : Prop := ∀ b, v.ownBlock = some b → Γ.own b = .sys
def fresh (v : World) (c : Nat) : Prop := ∃ k, v.heap[c]? = some (.chan 0 #[] false k k false)
/-- ████ WHAT STANDS IN THE WORLD. ████ -/
structure WI (Γ : Gho) (A : Sys) (v : World) : Prop where
  ready : Ready0 v
  world : ∃ sv cv tv rv, v.heap[Γ.W]? = some (.cells #[sv, .int .i64 A.used, .int .i64 A.last, cv, tv, rv, .bool A.stuck, .bool true, .chan (some Γ.back)] 74 (8, 9)) ∧
    v.ownsRow 0 3 1 sv A.sched.length (ints A.sched) ∧ v.ownsRow 0 3 1 cv A.cnt.length (ints A.cnt) ∧
    v.ownsRow 0 41 1 tv A.ths.length ((List.range A.ths.length).map fun j => .pointer (some ⟨Γ.tb j, 0, none⟩)) ∧
    v.ownsRow 0 55 5 rv A.trace.length (flat A.trace) ∧ isys Γ sv ∧ isys Γ cv ∧ isys Γ tv ∧ isys Γ rv ∧ (sv.ownBlock = none ∨ sv.ownBlock ≠ cv.ownBlock)
  th : ∀ (j : Nat) (t : TSt), A.ths[j]? = some t → v.heap[Γ.tb j]? = some (.cells #[.pointer (some ⟨Γ.W, 0, none⟩), .int .i64 j, .chan (some (Γ.goes j)), .int .i64 t.st, .int .i64 t.cell, .int .i64 t.op, .int .i64 t.seen] 76 (2, 3)) ∧
    fresh v (Γ.goes j) ∧ Γ.own (Γ.tb j) = .sys ∧ Γ.own (Γ.goes j) = .sys
  back : fresh v Γ.back ∧ Γ.own Γ.back = .sys ∧ Γ.own Γ.W = .sys
  cells : ∀ (c : Nat) (x : Int), A.vals[c]? = some x → v.heap[Γ.cb c]? = some (.cells #[.int .i64 c, .int .i64 x] 100 (0, 0)) ∧ Γ.own (Γ.cb c) = .sys
  used : A.used ≤ A.sched.length
  ints64 : ∀ x ∈ A.cnt, 0 ≤ x ∧ x ≤ 2 ^ 40
  chansApart : ∀ i j, i < A.ths.length → j < A.ths.length → Γ.goes i = Γ.goes j → i = j
  backApart : ∀ i, i < A.ths.length → Γ.goes i ≠ Γ.back
  nc : A.vals.length = Γ.nc ∧ A.cnt.length = Γ.nc
  vals64 : ∀ x ∈ A.vals, -9223372036854775808 ≤ x ∧ x ≤ 9223372036854775807
/-- What thread i may count on while others go. -/
structure Rely (i : Nat) (Γ : Gho) (v : World) (Γ' : Gho) (v' : World) : Prop where
  size : v.heap.size ≤ v'.heap.size
  same : Γ'.W = Γ.W ∧ Γ'.back = Γ.back ∧ Γ'.n0 = Γ.n0 ∧ Γ'.tb i = Γ.tb i ∧ Γ'.goes i = Γ.goes i
  cb : ∀ c : Nat, Γ.cb c < v.heap.size → Γ'.cb c = Γ.cb c
  own : ∀ b, b < v.heap.size → Γ'.own b = Γ.own b
  keep : ∀ b, b < v.heap.size → Γ.own b = .thr i ∨ Γ.own b = .const → v'.heap[b]? = v.heap[b]?
  mixed : ∀ b, b < v.heap.size → Γ.own b = .mixed → v'.cell? ⟨b, i, none⟩ = v.cell? ⟨b, i, none⟩
  nc : Γ.nc ≤ Γ'.nc
  mf : ∀ b j, b < v.heap.size → Γ.own b = .mixed → v'.frozen? ⟨b, j, none⟩ = v.frozen? ⟨b, j, none⟩
/-- What thread i keeps while it goes. -/
structure Guar (i : Nat) (n : Nat) (Γ : Gho) (v : World) (Γ' : Gho) (v' : World) : Prop where
  size : v.heap.size ≤ v'.heap.size
  same : Γ'.W = Γ.W ∧ Γ'.back = Γ.back ∧ Γ'.n0 = Γ.n0 ∧ ∀ j, j < n → Γ'.tb j = Γ.tb j ∧ Γ'.goes j = Γ.goes j
  cb : ∀ c : Nat, Γ.cb c < v.heap.size → Γ'.cb c = Γ.cb c
  own : ∀ b, b < v.heap.size → Γ'.own b = Γ.own b
  keep : ∀ b, b < v.heap.size → Γ.own b ≠ .sys → Γ.own b ≠ .thr i → Γ.own b ≠ .mixed → v'.heap[b]? = v.heap[b]?
  mixed : ∀ b j, b < v.heap.size → Γ.own b = .mixed → j ≠ i → v'.cell? ⟨b, j, none⟩ = v.cell? ⟨b, j, none⟩
  newown : ∀ b, v.heap.size ≤ b → b < v'.heap.size → Γ'.own b = .sys ∨ Γ'.own b = .thr i ∨ Γ'.own b = .const
  nc : Γ.nc ≤ Γ'.nc
  mf : ∀ b j, b < v.heap.size → Γ.own b = .mixed → v'.frozen? ⟨b, j, none⟩ = v.frozen? ⟨b, j, none⟩
theorem Rely.refl (i : Nat) (Γ : Gho) (v : World) : Rely i Γ v Γ v := ⟨Nat.le_refl _, ⟨rfl, rfl, rfl, rfl, rfl⟩, fun _ _ => rfl, fun _ _ => rfl, fun _ _ _ => rfl, fun _ _ _ => rfl, Nat.le_refl _, fun _ _ _ _ => rfl⟩
theorem Rely.trans {i : Nat} {Γ Γ' Γ'' : Gho} {v v' v'' : World} (h : Rely i Γ v Γ' v') (g : Rely i Γ' v' Γ'' v'') : Rely i Γ v Γ'' v'' := by
  obtain ⟨a1, a2, a3, a4, a5⟩ := h.same
  obtain ⟨b1, b2, b3, b4, b5⟩ := g.same
  refine ⟨Nat.le_trans h.size g.size, ⟨b1.trans a1, b2.trans a2, b3.trans a3, b4.trans a4, b5.trans a5⟩, fun c hc => ?_, fun b hb => (g.own b (Nat.lt_of_lt_of_le hb h.size)).trans (h.own b hb), fun b hb ho => ?_, fun b hb ho => ?_, Nat.le_trans h.nc g.nc, fun b j hb ho => (g.mf b j (Nat.lt_of_lt_of_le hb h.size) (by rw [h.own b hb]; exact ho)).trans (h.mf b j hb ho)⟩
  · have e := h.cb c hc
    exact (g.cb c (by rw [e]; exact Nat.lt_of_lt_of_le hc h.size)).trans e
  · exact (g.keep b (Nat.lt_of_lt_of_le hb h.size) (by rw [h.own b hb]; exact ho)).trans (h.keep b hb ho)
  · exact (g.mixed b (Nat.lt_of_lt_of_le hb h.size) (by rw [h.own b hb]; exact ho)).trans (h.mixed b hb ho)
theorem Guar.refl (i n : Nat) (Γ : Gho) (v : World) : Guar i n Γ v Γ v := ⟨Nat.le_refl _, ⟨rfl, rfl, rfl, fun _ _ => ⟨rfl, rfl⟩⟩, fun _ _ => rfl, fun _ _ => rfl, fun _ _ _ _ _ => rfl, fun _ _ _ _ _ => rfl, fun b h1 h2 => by omega, Nat.le_refl _, fun _ _ _ _ => rfl⟩
theorem Guar.trans {i n : Nat} {Γ Γ' Γ'' : Gho} {v v' v'' : World} (h : Guar i n Γ v Γ' v') (g : Guar i n Γ' v' Γ'' v'') : Guar i n Γ v Γ'' v'' := by
  obtain ⟨a1, a2, a3, a4⟩ := h.same
  obtain ⟨b1, b2, b3, b4⟩ := g.same
  refine ⟨Nat.le_trans h.size g.size, ⟨b1.trans a1, b2.trans a2, b3.trans a3, fun j hj => ⟨(b4 j hj).1.trans (a4 j hj).1, (b4 j hj).2.trans (a4 j hj).2⟩⟩, fun c hc => ?_, fun b hb => (g.own b (Nat.lt_of_lt_of_le hb h.size)).trans (h.own b hb), fun b hb h1 h2 h3 => ?_, fun b j hb ho hj => ?_, fun b h1 h2 => ?_, Nat.le_trans h.nc g.nc, fun b j hb ho => (g.mf b j (Nat.lt_of_lt_of_le hb h.size) (by rw [h.own b hb]; exact ho)).trans (h.mf b j hb ho)⟩
  · have e := h.cb c hc
    exact (g.cb c (by rw [e]; exact Nat.lt_of_lt_of_le hc h.size)).trans e
  · have e := h.own b hb
    exact (g.keep b (Nat.lt_of_lt_of_le hb h.size) (by rw [e]; exact h1) (by rw [e]; exact h2) (by rw [e]; exact h3)).trans (h.keep b hb h1 h2 h3)
  · exact (g.mixed b j (Nat.lt_of_lt_of_le hb h.size) (by rw [h.own b hb]; exact ho) hj).trans (h.mixed b j hb ho hj)
  · by_cases hb : b < v'.heap.size
    · rw [g.own b hb]; exact h.newown b h1 hb
    · exact g.newown b (by omega) h2
/-- What one keeps, the other counts on. -/
theorem Guar.rely {i j n : Nat} {Γ Γ' : Gho} {v v' : World} (h : Guar i n Γ v Γ' v') (hj : j < n) (hne : j ≠ i) : Rely j Γ v Γ' v' := by
  obtain ⟨a1, a2, a3, a4⟩ := h.same
  refine ⟨h.size, ⟨a1, a2, a3, (a4 j hj).1, (a4 j hj).2⟩, h.cb, h.own, fun b hb ho => h.keep b hb ?_ ?_ ?_, fun b hb ho => h.mixed b j hb ho hne, h.nc, h.mf⟩
  · rcases ho with ho | ho <;> rw [ho] <;> simp
  · rcases ho with ho | ho <;> rw [ho] <;> simp [hne]
  · rcases ho with ho | ho <;> rw [ho] <;> simp
end Go.Proofs.Ytecdiejeofclaaa


/- The code's skeleton, printed by skel.py. -/
namespace Go.Proofs.Ytecdiejeofclaaa
open Go Go.Conc
/-- A code's regions, from left to right. -/
def regsOf : Code → List (Array Oper)
  | .region _ ops _ => [ops]
  | .seq a b => regsOf a ++ regsOf b
  | .cond _ a b => regsOf a ++ regsOf b
  | .block _ c | .loop c | .scope c => regsOf c
  | _ => []
def Rg (c : Option Code) (i : Nat) : Array Oper := ((regsOf (c.getD .skip))[i]?).getD #[]
set_option maxRecDepth 100000
noncomputable def wait_code : Code := (.seq (.region 0 (Rg Try.f59.body 0) false) (.seq (.region 1 (Rg Try.f59.body 1) false) (.region 2 (Rg Try.f59.body 2) false)))
theorem wait_body : Try.f59.body = some wait_code := by kernel_rfl
theorem wait_fn : Try.prog.funcs[59]? = some Try.f59 := Try.func59
theorem wait_call {L : Allow} (hm : 59 ∈ L.L) {args : Array Operand} {ats : Array TypeId} : opOk Try.prog L (.call { callee := .value (.func 59), args := args, argTypes := ats }) = true := opOk_fn wait_fn (by rw [wait_body]; rfl) (by kernel_rfl) hm
theorem wait_tmps : Try.f59.ntmps = 42 := by kernel_rfl
theorem wait_res : Try.f59.results = #[] := by kernel_rfl
theorem wait_0 : (Rg Try.f59.body 0).toList.map view = [(some 8, Op.move (.tmp 0), none), (some 9, Op.move (.tmp 0), none), (some 10, Op.move (.tmp 0), none), (some 11, Op.move (.tmp 0), none), (some 12, Op.move (.tmp 1), none), (some 13, Op.move (.tmp 2), none), (some 14, Op.move (.tmp 3), none), (some 15, Op.move (.tmp 0), none), (some 16, Op.nilCheck (.tmp 15), none), (some 17, Op.fieldAddr 76 (.tmp 16) 0, none), (some 18, Op.load 32 (.tmp 17), none), (some 19, Op.move (.tmp 3), none), (some 20, Op.call { callee := .value (.func 85), args := #[.tmp 18, .tmp 19], argTypes := #[32, 3] }, none), (some 21, Op.nilCheck (.tmp 8), none), (some 22, Op.fieldAddr 76 (.tmp 21) 3, none), (none, Op.store 3 (.tmp 22) (.tmp 12), none), (some 23, Op.nilCheck (.tmp 9), none), (some 24, Op.fieldAddr 76 (.tmp 23) 5, none), (none, Op.store 3 (.tmp 24) (.tmp 13), none), (some 25, Op.nilCheck (.tmp 10), none), (some 26, Op.fieldAddr 76 (.tmp 25) 4, none), (none, Op.store 3 (.tmp 26) (.tmp 14), none), (some 27, Op.nilCheck (.tmp 11), none), (some 28, Op.fieldAddr 76 (.tmp 27) 6, none), (none, Op.store 3 (.tmp 28) (.tmp 20), none)] := by kernel_rfl
theorem wait_1 : (Rg Try.f59.body 1).toList.map view = [(some 29, Op.move (.tmp 0), none), (some 30, Op.nilCheck (.tmp 29), none), (some 31, Op.fieldAddr 76 (.tmp 30) 0, none), (some 32, Op.load 32 (.tmp 31), none), (some 33, Op.nilCheck (.tmp 32), none), (some 34, Op.fieldAddr 74 (.tmp 33) 8, none), (some 35, Op.load 71 (.tmp 34), none), (some 36, Op.build 94 #[], none), (none, Op.send (.tmp 35) (.tmp 36), none)] := by kernel_rfl
theorem wait_2 : (Rg Try.f59.body 2).toList.map view = [(some 37, Op.move (.tmp 0), none), (some 38, Op.nilCheck (.tmp 37), none), (some 39, Op.fieldAddr 76 (.tmp 38) 2, none), (some 40, Op.load 71 (.tmp 39), none), (some 41, Op.recv 71 (.tmp 40) false, none)] := by kernel_rfl
noncomputable def Turn_code : Code := (.seq (.region 0 (Rg Try.f42.body 0) false) (.cond (.tmp 10) (.region 1 (Rg Try.f42.body 1) false) .skip))
theorem Turn_body : Try.f42.body = some Turn_code := by kernel_rfl
theorem Turn_fn : Try.prog.funcs[42]? = some Try.f42 := Try.func42
theorem Turn_call {L : Allow} (hm : 42 ∈ L.L) {args : Array Operand} {ats : Array TypeId} : opOk Try.prog L (.call { callee := .value (.func 42), args := args, argTypes := ats }) = true := opOk_fn Turn_fn (by rw [Turn_body]; rfl) (by kernel_rfl) hm
theorem Turn_run {e : Env} {v : World} {args : Array Operand} {ats : Array TypeId} {vals : Array Value} (ha : args.toList.map (opv e) = vals.toList.map some) : RunsTo Try.prog e (.call { callee := .value (.func 42), args := args, argTypes := ats }) v (.enter 42 vals) v := r_call Turn_fn (by rw [Turn_body]; rfl) (by kernel_rfl) ha
theorem Turn_tmps : Try.f42.ntmps = 15 := by kernel_rfl
theorem Turn_res : Try.f42.results = #[] := by kernel_rfl
theorem Turn_0 : (Rg Try.f42.body 0).toList.map view = [(some 6, Op.move (.tmp 0), none), (some 7, Op.nilCheck (.tmp 6), none), (some 8, Op.fieldAddr 76 (.tmp 7) 0, none), (some 9, Op.load 32 (.tmp 8), none), (some 10, Op.binOp .neq 32 (.tmp 9) (.const (.pointer none)) 32, none)] := by kernel_rfl
theorem Turn_1 : (Rg Try.f42.body 1).toList.map view = [(some 11, Op.move (.tmp 0), none), (some 12, Op.move (.tmp 2), none), (some 13, Op.move (.tmp 1), none), (some 14, Op.call { callee := .value (.func 59), args := #[.tmp 11, .const (.int .i64 1), .tmp 12, .tmp 13], argTypes := #[41, 3, 3, 3] }, none)] := by kernel_rfl
noncomputable def Did_code : Code := (.seq (.seq (.region 0 (Rg Try.f44.body 0) false) (.cond (.tmp 10) .ret .skip)) (.seq (.region 1 (Rg Try.f44.body 1) true) (.seq (.region 2 (Rg Try.f44.body 2) true) (.cond (.tmp 47) (.region 3 (Rg Try.f44.body 3) true) .skip))))
theorem Did_body : Try.f44.body = some Did_code := by kernel_rfl
theorem Did_fn : Try.prog.funcs[44]? = some Try.f44 := Try.func44
theorem Did_call {L : Allow} (hm : 44 ∈ L.L) {args : Array Operand} {ats : Array TypeId} : opOk Try.prog L (.call { callee := .value (.func 44), args := args, argTypes := ats }) = true := opOk_fn Did_fn (by rw [Did_body]; rfl) (by kernel_rfl) hm
theorem Did_run {e : Env} {v : World} {args : Array Operand} {ats : Array TypeId} {vals : Array Value} (ha : args.toList.map (opv e) = vals.toList.map some) : RunsTo Try.prog e (.call { callee := .value (.func 44), args := args, argTypes := ats }) v (.enter 44 vals) v := r_call Did_fn (by rw [Did_body]; rfl) (by kernel_rfl) ha
theorem Did_tmps : Try.f44.ntmps = 63 := by kernel_rfl
theorem Did_res : Try.f44.results = #[] := by kernel_rfl
theorem Did_0 : (Rg Try.f44.body 0).toList.map view = [(some 6, Op.move (.tmp 0), none), (some 7, Op.nilCheck (.tmp 6), none), (some 8, Op.fieldAddr 76 (.tmp 7) 0, none), (some 9, Op.load 32 (.tmp 8), none), (some 10, Op.binOp .eql 32 (.tmp 9) (.const (.pointer none)) 32, none)] := by kernel_rfl
theorem Did_1 : (Rg Try.f44.body 1).toList.map view = [(some 11, Op.move (.tmp 0), none), (some 12, Op.move (.tmp 0), none), (some 13, Op.nilCheck (.tmp 12), none), (some 14, Op.fieldAddr 76 (.tmp 13) 5, none), (some 15, Op.load 3 (.tmp 14), none), (some 16, Op.move (.tmp 0), none), (some 17, Op.nilCheck (.tmp 16), none), (some 18, Op.fieldAddr 76 (.tmp 17) 4, none), (some 19, Op.load 3 (.tmp 18), none), (some 20, Op.move (.tmp 1), none), (some 21, Op.move (.tmp 2), none), (some 22, Op.call { callee := .value (.func 61), args := #[.tmp 11, .tmp 15, .tmp 19, .tmp 20, .tmp 21], argTypes := #[41, 3, 3, 3, 3] }, none)] := by kernel_rfl
theorem Did_2 : (Rg Try.f44.body 2).toList.map view = [(some 23, Op.move (.tmp 1), none), (some 24, Op.move (.tmp 2), none), (some 25, Op.binOp .neq 3 (.tmp 23) (.tmp 24) 3, none), (some 26, Op.move (.tmp 25), none), (some 27, Op.move (.tmp 0), some (3, true)), (some 28, Op.nilCheck (.tmp 27), some (3, true)), (some 29, Op.fieldAddr 76 (.tmp 28) 4, some (3, true)), (some 30, Op.load 3 (.tmp 29), some (3, true)), (some 31, Op.binOp .geq 3 (.tmp 30) (.const (.int .i64 0)) 3, some (3, true)), (some 32, Op.pick (.tmp 26) (.tmp 31) (.const (.bool false)), none), (some 33, Op.move (.tmp 32), none), (some 34, Op.move (.tmp 0), some (10, true)), (some 35, Op.nilCheck (.tmp 34), some (10, true)), (some 36, Op.fieldAddr 76 (.tmp 35) 4, some (10, true)), (some 37, Op.load 3 (.tmp 36), some (10, true)), (some 38, Op.move (.tmp 0), some (10, true)), (some 39, Op.nilCheck (.tmp 38), some (10, true)), (some 40, Op.fieldAddr 76 (.tmp 39) 0, some (10, true)), (some 41, Op.load 32 (.tmp 40), some (10, true)), (some 42, Op.nilCheck (.tmp 41), some (10, true)), (some 43, Op.fieldAddr 74 (.tmp 42) 3, some (10, true)), (some 44, Op.load 35 (.tmp 43), some (10, true)), (some 45, Op.call { callee := .builtin .len, args := #[.tmp 44], argTypes := #[35] }, some (10, true)), (some 46, Op.binOp .lss 3 (.tmp 37) (.tmp 45) 3, some (10, true)), (some 47, Op.pick (.tmp 33) (.tmp 46) (.const (.bool false)), none)] := by kernel_rfl
theorem Did_3 : (Rg Try.f44.body 3).toList.map view = [(some 48, Op.move (.tmp 0), none), (some 49, Op.nilCheck (.tmp 48), none), (some 50, Op.fieldAddr 76 (.tmp 49) 0, none), (some 51, Op.load 32 (.tmp 50), none), (some 52, Op.nilCheck (.tmp 51), none), (some 53, Op.fieldAddr 74 (.tmp 52) 3, none), (some 54, Op.load 35 (.tmp 53), none), (some 55, Op.move (.tmp 0), none), (some 56, Op.nilCheck (.tmp 55), none), (some 57, Op.fieldAddr 76 (.tmp 56) 4, none), (some 58, Op.load 3 (.tmp 57), none), (some 59, Op.indexAddr 35 (.tmp 54) (.tmp 58), none), (some 60, Op.load 3 (.tmp 59), none), (some 61, Op.binOp .add 3 (.tmp 60) (.const (.int .i64 1)) 3, none), (some 62, Op.indexAddr 35 (.tmp 54) (.tmp 58), none), (none, Op.store 3 (.tmp 62) (.tmp 61), none)] := by kernel_rfl
noncomputable def changed_code : Code := (.seq (.region 0 (Rg Try.f85.body 0) false) (.seq (.seq (.region 1 (Rg Try.f85.body 1) false) (.cond (.tmp 15) (.seq (.region 2 (Rg Try.f85.body 2) false) .ret) .skip)) (.seq (.region 3 (Rg Try.f85.body 3) false) .ret)))
theorem changed_body : Try.f85.body = some changed_code := by kernel_rfl
theorem changed_fn : Try.prog.funcs[85]? = some Try.f85 := Try.func85
theorem changed_res : Try.f85.results = #[Go.ResultVar.tmp 4] := by kernel_rfl
noncomputable def note_code : Code := (.region 0 (Rg Try.f61.body 0) true)
theorem note_body : Try.f61.body = some note_code := by kernel_rfl
theorem note_fn : Try.prog.funcs[61]? = some Try.f61 := Try.func61
theorem note_call {L : Allow} (hm : 61 ∈ L.L) {args : Array Operand} {ats : Array TypeId} : opOk Try.prog L (.call { callee := .value (.func 61), args := args, argTypes := ats }) = true := opOk_fn note_fn (by rw [note_body]; rfl) (by kernel_rfl) hm
theorem note_run {e : Env} {v : World} {args : Array Operand} {ats : Array TypeId} {vals : Array Value} (ha : args.toList.map (opv e) = vals.toList.map some) : RunsTo Try.prog e (.call { callee := .value (.func 61), args := args, argTypes := ats }) v (.enter 61 vals) v := r_call note_fn (by rw [note_body]; rfl) (by kernel_rfl) ha
theorem note_res : Try.f61.results = #[] := by kernel_rfl
noncomputable def Note_code : Code := (.seq (.region 0 (Rg Try.f50.body 0) false) (.cond (.tmp 12) (.region 1 (Rg Try.f50.body 1) false) .skip))
theorem Note_body : Try.f50.body = some Note_code := by kernel_rfl
theorem Note_fn : Try.prog.funcs[50]? = some Try.f50 := Try.func50
theorem Note_call {L : Allow} (hm : 50 ∈ L.L) {args : Array Operand} {ats : Array TypeId} : opOk Try.prog L (.call { callee := .value (.func 50), args := args, argTypes := ats }) = true := opOk_fn Note_fn (by rw [Note_body]; rfl) (by kernel_rfl) hm
theorem Note_run {e : Env} {v : World} {args : Array Operand} {ats : Array TypeId} {vals : Array Value} (ha : args.toList.map (opv e) = vals.toList.map some) : RunsTo Try.prog e (.call { callee := .value (.func 50), args := args, argTypes := ats }) v (.enter 50 vals) v := r_call Note_fn (by rw [Note_body]; rfl) (by kernel_rfl) ha
theorem Note_tmps : Try.f50.ntmps = 18 := by kernel_rfl
theorem Note_res : Try.f50.results = #[] := by kernel_rfl
theorem Note_0 : (Rg Try.f50.body 0).toList.map view = [(some 8, Op.move (.tmp 0), none), (some 9, Op.nilCheck (.tmp 8), none), (some 10, Op.fieldAddr 76 (.tmp 9) 0, none), (some 11, Op.load 32 (.tmp 10), none), (some 12, Op.binOp .neq 32 (.tmp 11) (.const (.pointer none)) 32, none)] := by kernel_rfl
theorem Note_1 : (Rg Try.f50.body 1).toList.map view = [(some 13, Op.move (.tmp 0), none), (some 14, Op.move (.tmp 1), none), (some 15, Op.move (.tmp 2), none), (some 16, Op.move (.tmp 3), none), (some 17, Op.call { callee := .value (.func 61), args := #[.tmp 13, .tmp 14, .const (.int .i64 (-1)), .tmp 15, .tmp 16], argTypes := #[41, 3, 3, 3, 3] }, none)] := by kernel_rfl
noncomputable def ALoad_code : Code := (.seq (.region 0 (Rg Try.f43.body 0) false) (.seq (.region 1 (Rg Try.f43.body 1) false) .ret))
theorem ALoad_body : Try.f43.body = some ALoad_code := by kernel_rfl
theorem ALoad_fn : Try.prog.funcs[43]? = some Try.f43 := Try.func43
theorem ALoad_call {L : Allow} (hm : 43 ∈ L.L) {args : Array Operand} {ats : Array TypeId} : opOk Try.prog L (.call { callee := .value (.func 43), args := args, argTypes := ats }) = true := opOk_fn ALoad_fn (by rw [ALoad_body]; rfl) (by kernel_rfl) hm
theorem ALoad_run {e : Env} {v : World} {args : Array Operand} {ats : Array TypeId} {vals : Array Value} (ha : args.toList.map (opv e) = vals.toList.map some) : RunsTo Try.prog e (.call { callee := .value (.func 43), args := args, argTypes := ats }) v (.enter 43 vals) v := r_call ALoad_fn (by rw [ALoad_body]; rfl) (by kernel_rfl) ha
theorem ALoad_tmps : Try.f43.ntmps = 7 := by kernel_rfl
theorem ALoad_res : Try.f43.results = #[Go.ResultVar.tmp 2] := by kernel_rfl
theorem ALoad_0 : (Rg Try.f43.body 0).toList.map view = [(some 2, Op.assign (.const (.int .i64 0)), none)] := by kernel_rfl
theorem ALoad_1 : (Rg Try.f43.body 1).toList.map view = [(some 3, Op.move (.tmp 0), none), (some 4, Op.nilCheck (.tmp 3), none), (some 5, Op.fieldAddr 98 (.tmp 4) 2, none), (some 6, Op.call { callee := .value (.func 60), args := #[.tmp 5], argTypes := #[120] }, none), (some 2, Op.assign (.tmp 6), none)] := by kernel_rfl
noncomputable def ACas_code : Code := (.seq (.region 0 (Rg Try.f46.body 0) false) (.seq (.region 1 (Rg Try.f46.body 1) false) .ret))
theorem ACas_body : Try.f46.body = some ACas_code := by kernel_rfl
theorem ACas_fn : Try.prog.funcs[46]? = some Try.f46 := Try.func46
theorem ACas_call {L : Allow} (hm : 46 ∈ L.L) {args : Array Operand} {ats : Array TypeId} : opOk Try.prog L (.call { callee := .value (.func 46), args := args, argTypes := ats }) = true := opOk_fn ACas_fn (by rw [ACas_body]; rfl) (by kernel_rfl) hm
theorem ACas_run {e : Env} {v : World} {args : Array Operand} {ats : Array TypeId} {vals : Array Value} (ha : args.toList.map (opv e) = vals.toList.map some) : RunsTo Try.prog e (.call { callee := .value (.func 46), args := args, argTypes := ats }) v (.enter 46 vals) v := r_call ACas_fn (by rw [ACas_body]; rfl) (by kernel_rfl) ha
theorem ACas_tmps : Try.f46.ntmps = 13 := by kernel_rfl
theorem ACas_res : Try.f46.results = #[Go.ResultVar.tmp 6] := by kernel_rfl
theorem ACas_0 : (Rg Try.f46.body 0).toList.map view = [(some 6, Op.assign (.const (.bool false)), none)] := by kernel_rfl
theorem ACas_1 : (Rg Try.f46.body 1).toList.map view = [(some 7, Op.move (.tmp 0), none), (some 8, Op.nilCheck (.tmp 7), none), (some 9, Op.fieldAddr 98 (.tmp 8) 2, none), (some 10, Op.move (.tmp 1), none), (some 11, Op.move (.tmp 2), none), (some 12, Op.call { callee := .value (.func 62), args := #[.tmp 9, .tmp 10, .tmp 11], argTypes := #[120, 2, 2] }, none), (some 6, Op.assign (.tmp 12), none)] := by kernel_rfl
noncomputable def AStore_code : Code := (.region 0 (Rg Try.f41.body 0) false)
theorem AStore_body : Try.f41.body = some AStore_code := by kernel_rfl
theorem AStore_fn : Try.prog.funcs[41]? = some Try.f41 := Try.func41
theorem AStore_tmps : Try.f41.ntmps = 9 := by kernel_rfl
theorem AStore_res : Try.f41.results = #[] := by kernel_rfl
theorem AStore_0 : (Rg Try.f41.body 0).toList.map view = [(some 4, Op.move (.tmp 0), none), (some 5, Op.nilCheck (.tmp 4), none), (some 6, Op.fieldAddr 98 (.tmp 5) 2, none), (some 7, Op.move (.tmp 1), none), (some 8, Op.call { callee := .value (.func 58), args := #[.tmp 6, .tmp 7], argTypes := #[120, 2] }, none)] := by kernel_rfl
noncomputable def Load_code : Code := (.seq (.region 0 (Rg Try.f30.body 0) false) (.seq (.region 1 (Rg Try.f30.body 1) false) (.seq (.region 2 (Rg Try.f30.body 2) false) (.seq (.region 3 (Rg Try.f30.body 3) false) (.seq (.region 4 (Rg Try.f30.body 4) false) .ret)))))
theorem Load_body : Try.f30.body = some Load_code := by kernel_rfl
theorem Load_fn : Try.prog.funcs[30]? = some Try.f30 := Try.func30
theorem Load_tmps : Try.f30.ntmps = 21 := by kernel_rfl
theorem Load_res : Try.f30.results = #[Go.ResultVar.tmp 4] := by kernel_rfl
theorem Load_0 : (Rg Try.f30.body 0).toList.map view = [(some 4, Op.assign (.const (.int .i64 0)), none)] := by kernel_rfl
theorem Load_1 : (Rg Try.f30.body 1).toList.map view = [(some 6, Op.move (.tmp 1), none), (some 7, Op.move (.tmp 0), none), (some 8, Op.nilCheck (.tmp 7), none), (some 9, Op.fieldAddr 100 (.tmp 8) 0, none), (some 10, Op.load 3 (.tmp 9), none), (some 11, Op.call { callee := .value (.func 42), args := #[.tmp 6, .tmp 10, .const (.int .i64 1)], argTypes := #[41, 3, 3] }, none)] := by kernel_rfl
theorem Load_2 : (Rg Try.f30.body 2).toList.map view = [(some 12, Op.move (.tmp 0), none), (some 13, Op.nilCheck (.tmp 12), none), (some 14, Op.fieldAddr 100 (.tmp 13) 1, none), (some 15, Op.call { callee := .value (.func 43), args := #[.tmp 14], argTypes := #[98] }, none), (some 5, Op.assign (.tmp 15), none)] := by kernel_rfl
theorem Load_3 : (Rg Try.f30.body 3).toList.map view = [(some 16, Op.move (.tmp 1), none), (some 17, Op.move (.tmp 5), none), (some 18, Op.move (.tmp 5), none), (some 19, Op.call { callee := .value (.func 44), args := #[.tmp 16, .tmp 17, .tmp 18], argTypes := #[41, 3, 3] }, none)] := by kernel_rfl
theorem Load_4 : (Rg Try.f30.body 4).toList.map view = [(some 20, Op.move (.tmp 5), none), (some 4, Op.assign (.tmp 20), none)] := by kernel_rfl
noncomputable def Cas_code : Code := (.seq (.region 0 (Rg Try.f33.body 0) false) (.seq (.region 1 (Rg Try.f33.body 1) false) (.seq (.seq (.region 2 (Rg Try.f33.body 2) false) (.cond (.tmp 21) (.seq (.region 3 (Rg Try.f33.body 3) false) (.seq (.region 4 (Rg Try.f33.body 4) false) .ret)) .skip)) (.seq (.region 5 (Rg Try.f33.body 5) false) (.seq (.region 6 (Rg Try.f33.body 6) false) (.seq (.region 7 (Rg Try.f33.body 7) false) .ret))))))
theorem Cas_body : Try.f33.body = some Cas_code := by kernel_rfl
theorem Cas_fn : Try.prog.funcs[33]? = some Try.f33 := Try.func33
theorem Cas_tmps : Try.f33.ntmps = 34 := by kernel_rfl
theorem Cas_res : Try.f33.results = #[Go.ResultVar.tmp 8] := by kernel_rfl
theorem Cas_0 : (Rg Try.f33.body 0).toList.map view = [(some 8, Op.assign (.const (.bool false)), none)] := by kernel_rfl
theorem Cas_1 : (Rg Try.f33.body 1).toList.map view = [(some 10, Op.move (.tmp 1), none), (some 11, Op.move (.tmp 0), none), (some 12, Op.nilCheck (.tmp 11), none), (some 13, Op.fieldAddr 100 (.tmp 12) 0, none), (some 14, Op.load 3 (.tmp 13), none), (some 15, Op.call { callee := .value (.func 42), args := #[.tmp 10, .tmp 14, .const (.int .i64 4)], argTypes := #[41, 3, 3] }, none)] := by kernel_rfl
theorem Cas_2 : (Rg Try.f33.body 2).toList.map view = [(some 16, Op.move (.tmp 0), none), (some 17, Op.nilCheck (.tmp 16), none), (some 18, Op.fieldAddr 100 (.tmp 17) 1, none), (some 19, Op.move (.tmp 2), none), (some 20, Op.move (.tmp 3), none), (some 21, Op.call { callee := .value (.func 46), args := #[.tmp 18, .tmp 19, .tmp 20], argTypes := #[98, 2, 2] }, none)] := by kernel_rfl
theorem Cas_3 : (Rg Try.f33.body 3).toList.map view = [(some 22, Op.move (.tmp 1), none), (some 23, Op.move (.tmp 2), none), (some 24, Op.move (.tmp 3), none), (some 25, Op.call { callee := .value (.func 44), args := #[.tmp 22, .tmp 23, .tmp 24], argTypes := #[41, 3, 3] }, none)] := by kernel_rfl
theorem Cas_4 : (Rg Try.f33.body 4).toList.map view = [(some 8, Op.assign (.const (.bool true)), none)] := by kernel_rfl
theorem Cas_5 : (Rg Try.f33.body 5).toList.map view = [(some 26, Op.move (.tmp 0), none), (some 27, Op.nilCheck (.tmp 26), none), (some 28, Op.fieldAddr 100 (.tmp 27) 1, none), (some 29, Op.call { callee := .value (.func 43), args := #[.tmp 28], argTypes := #[98] }, none), (some 9, Op.assign (.tmp 29), none)] := by kernel_rfl
theorem Cas_6 : (Rg Try.f33.body 6).toList.map view = [(some 30, Op.move (.tmp 1), none), (some 31, Op.move (.tmp 9), none), (some 32, Op.move (.tmp 9), none), (some 33, Op.call { callee := .value (.func 44), args := #[.tmp 30, .tmp 31, .tmp 32], argTypes := #[41, 3, 3] }, none)] := by kernel_rfl
theorem Cas_7 : (Rg Try.f33.body 7).toList.map view = [(some 8, Op.assign (.const (.bool false)), none)] := by kernel_rfl
noncomputable def one_code : Code := (.seq (.region 0 (Rg Try.f38.body 0) false) (.seq (.region 1 (Rg Try.f38.body 1) false) (.seq (.region 2 (Rg Try.f38.body 2) false) (.seq (.seq (.region 3 (Rg Try.f38.body 3) false) (.block 0 (.loop (.seq (.region 4 (Rg Try.f38.body 4) false) (.seq (.cond (.tmp 18) .skip (.exit 0)) (.seq (.block 1 (.seq (.region 5 (Rg Try.f38.body 5) false) (.seq (.seq (.region 6 (Rg Try.f38.body 6) false) (.cond (.tmp 22) (.seq (.region 7 (Rg Try.f38.body 7) false) (.exit 1)) .skip)) (.seq (.region 8 (Rg Try.f38.body 8) false) (.seq (.region 9 (Rg Try.f38.body 9) false) (.seq (.region 10 (Rg Try.f38.body 10) false) (.seq (.region 11 (Rg Try.f38.body 11) false) (.region 12 (Rg Try.f38.body 12) false)))))))) (.region 13 (Rg Try.f38.body 13) false))))))) (.seq (.region 14 (Rg Try.f38.body 14) false) .ret)))))
theorem one_body : Try.f38.body = some one_code := by kernel_rfl
theorem one_fn : Try.prog.funcs[38]? = some Try.f38 := Try.func38
theorem one_tmps : Try.f38.ntmps = 48 := by kernel_rfl
theorem one_res : Try.f38.results = #[Go.ResultVar.tmp 6] := by kernel_rfl
theorem one_0 : (Rg Try.f38.body 0).toList.map view = [(some 6, Op.assign (.const (.slice none 0 0)), none)] := by kernel_rfl
theorem one_1 : (Rg Try.f38.body 1).toList.map view = [(some 12, Op.move (.tmp 1), none), (some 13, Op.call { callee := .builtin .len, args := #[.tmp 12], argTypes := #[25] }, none), (some 14, Op.makeSlice 34 (.const (.int .i64 0)) (.tmp 13), none), (some 7, Op.assign (.tmp 14), none)] := by kernel_rfl
theorem one_2 : (Rg Try.f38.body 2).toList.map view = [(some 8, Op.assign (.const (.bool false)), none)] := by kernel_rfl
theorem one_3 : (Rg Try.f38.body 3).toList.map view = [(some 15, Op.move (.tmp 1), none), (some 16, Op.call { callee := .builtin .len, args := #[.tmp 15], argTypes := #[25] }, none), (some 17, Op.move (.const (.int .i64 0)), none)] := by kernel_rfl
theorem one_4 : (Rg Try.f38.body 4).toList.map view = [(some 18, Op.binOp .lss 3 (.tmp 17) (.tmp 16) 3, none)] := by kernel_rfl
theorem one_5 : (Rg Try.f38.body 5).toList.map view = [(some 19, Op.move (.tmp 17), none), (some 20, Op.indexAddr 25 (.tmp 15) (.tmp 17), none), (some 21, Op.load 39 (.tmp 20), none), (some 10, Op.alloc 39, none), (some 9, Op.assign (.tmp 19), none), (none, Op.store 39 (.tmp 10) (.tmp 21), none)] := by kernel_rfl
theorem one_6 : (Rg Try.f38.body 6).toList.map view = [(some 22, Op.move (.tmp 8), none)] := by kernel_rfl
theorem one_7 : (Rg Try.f38.body 7).toList.map view = [(some 23, Op.move (.tmp 7), none), (some 24, Op.build 37 #[(0, .const (.int .i64 4))], none), (some 25, Op.buildSlice 34 1 #[(0, .tmp 24)], none), (some 26, Op.call { callee := .builtin .append, args := #[.tmp 23, .tmp 25], argTypes := #[34, 34] }, none), (some 7, Op.assign (.tmp 26), none)] := by kernel_rfl
theorem one_8 : (Rg Try.f38.body 8).toList.map view = [(some 27, Op.move (.tmp 0), none), (some 28, Op.move (.tmp 9), none), (some 29, Op.call { callee := .value (.func 50), args := #[.tmp 27, .const (.int .i64 9), .tmp 28, .const (.int .i64 0)], argTypes := #[41, 3, 3, 3] }, none)] := by kernel_rfl
theorem one_9 : (Rg Try.f38.body 9).toList.map view = [(some 30, Op.move (.tmp 2), none), (some 31, Op.move (.tmp 0), none), (some 32, Op.load 39 (.tmp 10), none), (some 33, Op.call { callee := .value (.tmp 30), args := #[.tmp 31, .tmp 32], argTypes := #[41, 39] }, none), (some 11, Op.alloc 37, none), (none, Op.store 37 (.tmp 11) (.tmp 33), none)] := by kernel_rfl
theorem one_10 : (Rg Try.f38.body 10).toList.map view = [(some 34, Op.move (.tmp 0), none), (some 35, Op.move (.tmp 9), none), (some 36, Op.fieldAddr 37 (.tmp 11) 0, none), (some 37, Op.load 24 (.tmp 36), none), (some 38, Op.call { callee := .value (.func 50), args := #[.tmp 34, .const (.int .i64 10), .tmp 35, .tmp 37], argTypes := #[41, 3, 3, 3] }, none)] := by kernel_rfl
theorem one_11 : (Rg Try.f38.body 11).toList.map view = [(some 39, Op.move (.tmp 7), none), (some 40, Op.load 37 (.tmp 11), none), (some 41, Op.buildSlice 34 1 #[(0, .tmp 40)], none), (some 42, Op.call { callee := .builtin .append, args := #[.tmp 39, .tmp 41], argTypes := #[34, 34] }, none), (some 7, Op.assign (.tmp 42), none)] := by kernel_rfl
theorem one_12 : (Rg Try.f38.body 12).toList.map view = [(some 43, Op.fieldAddr 37 (.tmp 11) 0, none), (some 44, Op.load 24 (.tmp 43), none), (some 45, Op.binOp .eql 24 (.tmp 44) (.const (.int .i64 4)) 24, none), (some 8, Op.assign (.tmp 45), none)] := by kernel_rfl
theorem one_13 : (Rg Try.f38.body 13).toList.map view = [(some 46, Op.binOp .add 3 (.tmp 17) (.const (.int .i64 1)) 3, none), (some 17, Op.move (.tmp 46), none)] := by kernel_rfl
theorem one_14 : (Rg Try.f38.body 14).toList.map view = [(some 47, Op.move (.tmp 7), none), (some 6, Op.assign (.tmp 47), none)] := by kernel_rfl
noncomputable def RunF_code : Code := (.region 0 (Rg Try.f37.body 0) true)
theorem RunF_body : Try.f37.body = some RunF_code := by kernel_rfl
theorem RunF_fn : Try.prog.funcs[37]? = some Try.f37 := Try.func37
theorem RunF_tmps : Try.f37.ntmps = 13 := by kernel_rfl
theorem RunF_res : Try.f37.results = #[] := by kernel_rfl
theorem RunF_0 : (Rg Try.f37.body 0).toList.map view = [(some 6, Op.load 29 (.tmp 3), none), (some 7, Op.load 3 (.tmp 4), none), (some 8, Op.move (.tmp 0), none), (some 9, Op.load 25 (.tmp 1), none), (some 10, Op.load 70 (.tmp 2), none), (some 11, Op.call { callee := .value (.func 38), args := #[.tmp 8, .tmp 9, .tmp 10], argTypes := #[41, 25, 70] }, none), (some 12, Op.indexAddr 29 (.tmp 6) (.tmp 7), none), (none, Op.store 34 (.tmp 12) (.tmp 11), none)] := by kernel_rfl
end Go.Proofs.Ytecdiejeofclaaa


/- Infrastructure O: sends; the walk to a seat. -/
namespace Go.Proofs.Ytecdiejeofclaaa
open Go Go.Conc
section
variable {P : Program} {S : Addr → Prop} {main : Bool} {Stop : Goroutine → World → Prop} {N : Nat} {D : List Deferred} {e : Env}
variable {b : Frame} {a : Act} {k : List Item} {cs : List Frame} {v : World}
variable {ops : Array Oper} {Lv : List (Option Nat × Op × Option (Nat × Bool))} {i : Nat} {rest : List Nat}
/-- At a send. -/
theorem at_send (hb : b.kind ≠ .early) (hl : ops.toList.map view = Lv) {q q' : Operand} (hi : Lv[i]? = some (none, .send q q', none)) (hat : AtE N D e a) {c : Nat} {x : Value} (hc : opv e q = some (.chan (some c))) (hx : opv e q' = some x) (w : World) :
    stepG P main (G (b.at a (.inRegion ops (i :: rest) :: k)) cs) w = .comm (G (b.at a (.inRegion ops (i :: rest) :: k)) cs) #[scase c x (.tuple #[])] true .send w #[] := by
  obtain ⟨o, ho, hdst, hop, hg⟩ := at_view hl hi
  have hw : Region.wanted o (yielded ops a.tmps) = true := by simp [Region.wanted, hg]
  have hbk : ∀ td, ((b.at a td).kind == CallKind.early) = false := fun td => by simpa [Frame.at] using hb
  rw [stepG_oper ho hw]
  unfold stepG.apply
  have hr : (execOp a.eval o).runT P w #[] = (.ok (.comm #[scase c x (.tuple #[])] true .send) w, #[]) := by
    simp only [execOp, hop, hat.eval hc, hat.eval hx]; rfl
  simp only [if_true, hr, hbk, Bool.false_eq_true, if_false]
  have hs : seen P b.fn (#[] : Array Event) = #[] := by simp [seen]
  show GStep.after (seen P b.fn #[]) _ = _
  rw [hs]; rfl
theorem sent_is (hl : ops.toList.map view = Lv) {op : Op} (hi : Lv[i]? = some (none, op, none)) (x : Value) : Conc.served (G (b.at a (.inRegion ops (i :: rest) :: k)) cs) x = G (b.at a (.inRegion ops rest :: k)) cs := by
  obtain ⟨o, ho, hdst, hop, hg⟩ := at_view hl hi
  have := fin_at (b := b) (a := a) (k := k) (rest := rest) ho x
  rw [hdst] at this
  simp only [Conc.served, G, this]; rfl
/-- The walk to the seat: so many steps, reading still cells alone. -/
def IW (P : Program) (main : Bool) (S : Addr → Prop) (κ : Addr → Option Value) (s : Seat) : Nat → Goroutine → Prop
  | 0, g => ∃ g₂, g.status = .running ∧ g.frame = g₂.frame ∧ g.callers = g₂.callers ∧ g.dying = g₂.dying ∧ s.home g₂ ∧ ∀ w, KS S κ w → stepG P main g w = .comm g₂ s.cases true s.shape w #[]
  | n + 1, g => g.status = .running ∧ ∃ g', IW P main S κ s n g' ∧ ∀ w, KS S κ w → ∃ es, stepG P main g w = .go g' w es ∧ ∀ ev ∈ es, ∃ y, ev = ⟨.cell y, false, false⟩ ∧ S y
theorem iw_goes {κ : Addr → Option Value} {s : Seat} {B : Nat} (hB : ∀ y, S y → y.block < B) : ∀ (n : Nat) (g : Goroutine) (w : World), IW P main S κ s n g → Goes P main (RK (KS S κ)) (DS (StillOf S) B) (fun g _ => ∃ g₂, AtIn P main (KS S κ) (StillOf S) B s g g₂) n g w
  | 0, g, w, h => fun w₁ hw => by
    obtain ⟨g₂, h1, h2, h3, h4, h5, h6⟩ := h
    exact ⟨g₂, h1, h2, h3, h4, h5, #[], by simp, h6⟩
  | n + 1, g, w, h => by
    obtain ⟨h1, g', h2, h3⟩ := h
    refine .inr ⟨h1, fun w₁ hw => ?_⟩
    obtain ⟨es, h4, h5⟩ := h3 w₁ hw
    rw [h4, goes_go]
    exact ⟨⟨rfl, fun ev hev => by obtain ⟨y, hy, hS⟩ := h5 ev hev; exact ⟨y, hy, ⟨y, rfl, hS⟩, hB y hS⟩⟩, iw_goes hB n g' w₁ h2⟩
theorem iw_rests {s : Seat} {n h : Nat} {g : Goroutine} (hS : ∀ y, S y → y.block < v.heap.size) (H : IW P (h == 0) S v.cell? s n g) : Rests P S v h g (some s) :=
  ⟨n + 1, fun B hB => .inl ⟨n, v, rfl, iw_goes (fun y hy => Nat.lt_of_lt_of_le (hS y hy) hB) n g v H⟩⟩
variable {κ : Addr → Option Value} {s : Seat} {n : Nat}
theorem iw_same {g g' : Goroutine} (hr : g.status = .running) (h : ∀ w, stepG P main g w = .go g' w) (H : IW P main S κ s n g') : IW P main S κ s (n + 1) g := ⟨hr, g', H, fun w _ => ⟨#[], h w, by simp⟩⟩
theorem iw_region_end (H : IW P main S κ s n (G (b.at a k) cs)) : IW P main S κ s (n + 1) (G (b.at a (.inRegion ops [] :: k)) cs) :=
  iw_same rfl (fun w => by simp [G, stepG, stepG.exec, Frame.at]) H
theorem iw_region {id : Nat} {l : List Nat} (h : List.range ops.size = l) (H : IW P main S κ s n (G (b.at a (.inRegion ops l :: k)) cs)) : IW P main S κ s (n + 1) (G (b.at a (.code (.region id ops false) :: k)) cs) :=
  iw_same rfl (fun w => by subst h; simp [G, stepG, stepG.exec, Frame.at]) H
/-- What an operation comes to, events and all, in whatever world in which the still cells stand. -/
def RunsStill (P : Program) (S : Addr → Prop) (κ : Addr → Option Value) (e : Env) (op : Op) (y : Value) : Prop :=
  ∀ (ρ : Operand → Value) (o : Oper), (∀ q z, opv e q = some z → ρ q = z) → o.op = op → ∀ w, KS S κ w → ∃ es, (execOp ρ o).runT P w #[] = (.ok (.value y) w, es) ∧ ∀ ev ∈ es, ∃ y, ev = ⟨.cell y, false, false⟩ ∧ S y
theorem mem_seen' {P : Program} {f : FuncId} {es : Array Event} {ev : Event} (h : ev ∈ seen P f es) : ev ∈ es := mem_seen h
theorem iw_val (hb : b.kind ≠ .early) (hl : ops.toList.map view = Lv) {d : Nat} {op : Op} (hi : Lv[i]? = some (some d, op, none)) (hd : d < N) (hat : AtE N D e a) {y : Value} (hrun : RunsStill P S κ e op y)
    (H : ∀ a', AtE N D ((d, y) :: e) a' → IW P main S κ s n (G (b.at a' (.inRegion ops rest :: k)) cs)) : IW P main S κ s (n + 1) (G (b.at a (.inRegion ops (i :: rest) :: k)) cs) := by
  obtain ⟨o, ho, hdst, hop, hg⟩ := at_view hl hi
  have hw : Region.wanted o (yielded ops a.tmps) = true := by simp [Region.wanted, hg]
  have hbk : ∀ td, ((b.at a td).kind == CallKind.early) = false := fun td => by simpa [Frame.at] using hb
  refine ⟨rfl, _, H _ (hat.put hd y), fun w hK => ?_⟩
  obtain ⟨es, hr, hes⟩ := hrun _ o (fun q z hz => hat.eval hz) hop w hK
  refine ⟨seen P b.fn es, ?_, fun ev hev => hes ev (mem_seen' hev)⟩
  rw [stepG_oper ho hw]
  unfold stepG.apply
  simp only [if_true, hr, hbk, Bool.false_eq_true, if_false]
  have hf := fin_at (b := b) (a := a) (k := k) (rest := rest) ho y
  rw [hdst] at hf
  show GStep.after (seen P b.fn es) (.go (G ((b.at a (.inRegion ops (i :: rest) :: k)).finish y) cs) w) = _
  rw [hf]
  simp [GStep.after]
theorem iw_recv (hb : b.kind ≠ .early) (hl : ops.toList.map view = Lv) {d : Option Nat} {ty el : TypeId} {q : Operand} (hi : Lv[i]? = some (d, .recv ty q false, none)) (hat : AtE N D e a) {c : Nat} {z : Value} (hc : opv e q = some (.chan (some c)))
    (hz : ∀ ρ : Operand → Value, ρ q = .chan (some c) → ∀ w, (execOp ρ { dst := d, op := .recv ty q false, type := el, pos := "", after := #[], guard := none }).runT P w #[] = (.ok (.comm #[rcase c z] true (.recv false)) w, #[]))
    {home : Goroutine → Prop} (hh : home (G (b.at a (.inRegion ops (i :: rest) :: k)) cs)) : IW P main S κ (Seat.one c z false home) 0 (G (b.at a (.inRegion ops (i :: rest) :: k)) cs) := by
  obtain ⟨o, ho, hdst, hop, hg⟩ := at_view hl hi
  have hw : Region.wanted o (yielded ops a.tmps) = true := by simp [Region.wanted, hg]
  have hbk : ∀ td, ((b.at a td).kind == CallKind.early) = false := fun td => by simpa [Frame.at] using hb
  refine ⟨_, rfl, rfl, rfl, rfl, hh, fun w _ => ?_⟩
  rw [stepG_oper ho hw]
  unfold stepG.apply
  have hr : (execOp a.eval o).runT P w #[] = (.ok (.comm #[rcase c z] true (.recv false)) w, #[]) := by
    have := hz a.eval (hat.eval hc) w
    simp only [execOp, hop] at this ⊢
    exact this
  simp only [if_true, hr, hbk, Bool.false_eq_true, if_false]
  have hs : seen P b.fn (#[] : Array Event) = #[] := by simp [seen]
  show GStep.after (seen P b.fn #[]) _ = _
  rw [hs]; rfl
theorem s_move {q : Operand} {y : Value} (h : opv e q = some y) : RunsStill P S κ e (.move q) y := fun ρ o hρ ho w _ => ⟨#[], by simp only [execOp, ho, hρ _ _ h]; rfl, by simp⟩
theorem s_nil {q : Operand} {p : Addr} (h : opv e q = some (.pointer (some p))) : RunsStill P S κ e (.nilCheck q) (.pointer (some p)) := fun ρ o hρ ho w _ => ⟨#[], by simp only [execOp, ho, hρ _ _ h]; rfl, by simp⟩
def FieldT (P : Program) (s : TypeId) (f k : Nat) : Prop := ∀ (w : World) (b o : Nat), (Instr.fieldAt s (.pointer (some ⟨b, o, none⟩)) f).runT P w #[] = (.ok (.pointer (some ⟨b, o + k, none⟩)) w, #[])
def LoadT (P : Program) (t : TypeId) : Prop := ∀ (w : World) (b o : Nat) (x : Value), w.cell? ⟨b, o, none⟩ = some x → (Instr.loadAt t (.pointer (some ⟨b, o, none⟩))).runT P w #[] = (.ok x w, #[⟨.cell ⟨b, o, none⟩, false, false⟩])
theorem runT_then {α β : Type} {s : Sem α} {f : α → Sem β} {w w1 : World} {x : α} {es : Array Event} {r : Result β × Array Event} (h : s.runT P w #[] = (.ok x w1, es)) (h2 : (f x).runT P w1 es = r) : (s >>= f).runT P w #[] = r := by
  have := Sem.runT_bind' P s f w #[]
  rw [h] at this
  exact this.trans h2
theorem s_field {st : TypeId} {q : Operand} {f kk B O : Nat} (hk : FieldT P st f kk) (h : opv e q = some (.pointer (some ⟨B, O, none⟩))) : RunsStill P S κ e (.fieldAddr st q f) (.pointer (some ⟨B, O + kk, none⟩)) := fun ρ o hρ ho w _ => ⟨#[], by
  simp only [execOp, ho, hρ _ _ h]
  exact runT_then (hk _ _ _) rfl, by simp⟩
theorem s_load {ty : TypeId} {q : Operand} {B O : Nat} {y : Value} (hk : LoadT P ty) (h : opv e q = some (.pointer (some ⟨B, O, none⟩))) (hS : S ⟨B, O, none⟩) (hc : κ ⟨B, O, none⟩ = some y) : RunsStill P S κ e (.load ty q) y := fun ρ o hρ ho w hK => ⟨#[⟨.cell ⟨B, O, none⟩, false, false⟩], by
  simp only [execOp, ho, hρ _ _ h]
  exact runT_then (hk _ _ _ _ ((hK _ hS).trans hc)) rfl, fun ev hev => ⟨⟨B, O, none⟩, by simpa using hev, hS⟩⟩
end
end Go.Proofs.Ytecdiejeofclaaa


/- The fields, loads and stores of the types in use (printed). -/
namespace Go.Proofs.Ytecdiejeofclaaa
open Go Go.Conc
theorem fk_th_0 : FieldK Try.prog 76 0 0 := fun w b o => by simp [go_sem]
theorem fk_th_3 : FieldK Try.prog 76 3 3 := fun w b o => by simp [go_sem]
theorem fk_th_4 : FieldK Try.prog 76 4 4 := fun w b o => by simp [go_sem]
theorem fk_th_5 : FieldK Try.prog 76 5 5 := fun w b o => by simp [go_sem]
theorem fk_th_6 : FieldK Try.prog 76 6 6 := fun w b o => by simp [go_sem]
theorem fk_w_3 : FieldK Try.prog 74 3 3 := fun w b o => by simp [go_sem]
theorem fk_w_8 : FieldK Try.prog 74 8 8 := fun w b o => by simp [go_sem]
theorem fk_cell_0 : FieldK Try.prog 100 0 0 := fun w b o => by simp [go_sem]
theorem fk_cell_1 : FieldK Try.prog 100 1 1 := fun w b o => by simp [go_sem]
theorem fk_ans_0 : FieldK Try.prog 37 0 0 := fun w b o => by simp [go_sem]
theorem ft_th_2 : FieldT Try.prog 76 2 2 := fun w b o => by simp [go_sem]
theorem ft_w_8 : FieldT Try.prog 74 8 8 := fun w b o => by simp [go_sem]
theorem ld_pw : Load1 Try.prog 32 := fun w b o x h => by simp [go_sem, h]
theorem ld_chan : Load1 Try.prog 71 := fun w b o x h => by simp [go_sem, h]
theorem ld_int : Load1 Try.prog 3 := fun w b o x h => by simp [go_sem, h]
theorem st_int : Store1 Try.prog 3 := fun w b o x y h hf h1 => by cases y <;> first | (simp [go_sem, h, hf]; done) | (cases h1; done)
theorem ld_ints : Load1 Try.prog 35 := fun w b o x h => by simp [go_sem, h]
theorem ld_errno : Load1 Try.prog 24 := fun w b o x h => by simp [go_sem, h]
theorem ld_ans2 : Load1 Try.prog 29 := fun w b o x h => by simp [go_sem, h]
theorem ld_calls : Load1 Try.prog 25 := fun w b o x h => by simp [go_sem, h]
theorem st_anss : Store1 Try.prog 34 := fun w b o x y h hf h1 => by cases y <;> first | (simp [go_sem, h, hf]; done) | (cases h1; done)
theorem ld_fdo : Load1 Try.prog 70 := fun w b o x h => by simp [go_sem, h]
theorem lt_chan : LoadT Try.prog 71 := fun w b o x h => by simp [go_sem, h]
theorem opOk_nil {P : Program} {L : Allow} {op : BinOp} {t t' : TypeId} {x : Operand} : opOk P L (.binOp op t x (.const (.pointer none)) t') = true := by cases op <;> simp [opOk, isNilConst, isNil]
theorem opOk_eq {P : Program} {L : Allow} {op : BinOp} {t t' : TypeId} {x y : Operand} (h : eqTy P 8 t = true) : opOk P L (.binOp op t x y t') = true := by cases op <;> simp [opOk, h]
theorem eqt_int : eqTy Try.prog 8 3 = true := by kernel_rfl
theorem eqt_errno : eqTy Try.prog 8 24 = true := by kernel_rfl
end Go.Proofs.Ytecdiejeofclaaa


/- Package turn: changed, ready, pick: lone contracts. -/
namespace Go.Proofs.Ytecdiejeofclaaa
open Go
set_option maxRecDepth 100000 in
set_option maxHeartbeats 3200000 in
theorem changed_bwp (W : Nat) (c y : Int) (n : Nat) (cv : Value) (w : World)
    (h3 : w.cell? ⟨W, 3, none⟩ = some cv) (hcv : ∃ a cap, cv = .slice a n cap)
    (hy : (c < 0 ∨ (n : Int) ≤ c) ∧ y = 0 ∨ 0 ≤ c ∧ c < n ∧ ∃ g cap, cv = .slice (some ⟨g, 0, none⟩) n cap ∧ w.cell? ⟨g, c.toNat, none⟩ = some (.int .i64 y)) :
    BWp Try.prog 85 #[.pointer (some ⟨W, 0, none⟩), .int .i64 c] w fun x w' => w' = w ∧ x = .int .i64 y := by
  refine ⟨_, _, Try.func85, rfl, ?_⟩
  simp only [Try.ntmps85, List.size_toArray, List.length_cons, List.length_nil, Nat.reduceAdd, Nat.reduceSub, Array.replicate_succ, Array.replicate_zero, List.push_toArray, List.append_toArray, List.nil_append, List.cons_append]
  rcases hy with ⟨hr, rfl⟩ | ⟨h0, hlt, g, cap, rfl, hcell⟩
  · obtain ⟨sa, cap, rfl⟩ := hcv
    by_cases hneg : c < 0
    · go_wp2_with fail
      all_goals (first | exact bodyPost_ret (results_tmp (by rfl) _ _ _) rfl ⟨_, rfl, rfl, by rfl⟩ | exact bodyPost_ret (results_tmp (by rfl) _ _ _) rfl ⟨rfl, rfl⟩)
    · go_wp2_with fail
      all_goals (first | exact bodyPost_ret (results_tmp (by rfl) _ _ _) rfl ⟨_, rfl, rfl, by rfl⟩ | exact bodyPost_ret (results_tmp (by rfl) _ _ _) rfl ⟨rfl, rfl⟩)
  · go_wp2_with fail
    all_goals (first | exact bodyPost_ret (results_tmp (by rfl) _ _ _) rfl ⟨_, rfl, rfl, by rfl⟩ | exact bodyPost_ret (results_tmp (by rfl) _ _ _) rfl ⟨rfl, rfl⟩)
end Go.Proofs.Ytecdiejeofclaaa


/- What a thread does is a process: 'HP'; and its first piece: wait. -/
namespace Go.Proofs.Ytecdiejeofclaaa
open Go Go.Conc
/-- The allowed code of the program: what is entered by 'op_run' alone, and what is lifted. -/
abbrev LA : Allow := ⟨[], []⟩
/-- Behind the stop the thread only leaves. -/
def EndStop (Γ : Gho) (i : Nat) (n : Nat) (g : Goroutine) (v : World) : Prop :=
  g.status = .running ∧ ∃ a₂ x z', (∀ wa, Sim false (SS Γ n) v wa → stepG Try.prog false g wa = .comm a₂ #[scase Γ.back x z'] true .send wa #[]) ∧ ∃ m, QuitsD Try.prog m 0 (Conc.served a₂ undef)
/-- ████ THREAD i, FROM HERE, DOES THAT. ████ 'Fin': what is known at its end. -/
def HP (i : Nat) (Fin : List (Int × Int) → Gho → World → Prop) : Prog → Gho → World → Sys → Goroutine → World → Prop
  | .done r, Γ0, v0, A, g, v => Hold Try.prog false (SS Γ0 A.ths.length) (fun g' v' => ∃ Γ', WI Γ' (A.setSt i 3) v' ∧ Guar i A.ths.length Γ0 v0 Γ' v' ∧ Fin r Γ' v' ∧ EndStop Γ' i A.ths.length g' v') g v
  | .out, _, _, _, _, _ => True
  | .wait st op c k, Γ0, v0, A, g, v => Hold Try.prog false (SS Γ0 A.ths.length) (fun g' v' => ∃ Γ' a₂ home x z z', WI Γ' (A.park i st op c) v' ∧ Guar i A.ths.length Γ0 v0 Γ' v' ∧ g'.status = .running ∧
      (∀ wa, Sim false (SS Γ' A.ths.length) v' wa → stepG Try.prog false g' wa = .comm a₂ #[scase Γ'.back x z'] true .send wa #[]) ∧
      Rests Try.prog (SS Γ' A.ths.length) v' (Γ'.n0 + i) (Conc.served a₂ undef) (some (Seat.one (Γ'.goes i) z false home)) ∧
      ∀ g₂ Γ'' v'' A'' y s, home g₂ → Rely i Γ' v' Γ'' v'' → WI Γ'' A'' v'' → A''.ths[i]? = some ⟨0, c, op, s⟩ → HP i Fin k Γ'' v'' A'' (Conc.served g₂ y) v'') g v
  | .rd c k, Γ0, v0, A, g, v => HP i Fin (k (A.get c)) Γ0 v0 A g v
  | .wr c x k, Γ0, v0, A, g, v => HP i Fin k Γ0 v0 (A.put c x) g v
  | .note op c a b k, Γ0, v0, A, g, v => A.trace.length < traceMax → HP i Fin k Γ0 v0 (A.note i op c a b) g v
  | .bump c k, Γ0, v0, A, g, v => A.changed c < 2 ^ 40 → HP i Fin k Γ0 v0 (A.bump c) g v
  | .stk k, Γ0, v0, A, g, v => HP i Fin (k A.stuck) Γ0 v0 A g v
theorem HP.re {i : Nat} {Fin : List (Int × Int) → Gho → World → Prop} : ∀ {p : Prog} {Γ0 : Gho} {v0 : World} {A : Sys} {g : Goroutine} {v : World} (t : Tp) (d : Nat), HP i Fin p Γ0 v0 A g v → HP i Fin p Γ0 v0 A g (v.re t d)
  | .done _, _, _, _, _, _, t, d, H => Hold.re H t d
  | .out, _, _, _, _, _, _, _, _ => trivial
  | .wait .., _, _, _, _, _, t, d, H => Hold.re H t d
  | .rd c k, _, _, _, _, _, t, d, H => HP.re (p := k _) t d H
  | .wr c x k, _, _, _, _, _, t, d, H => HP.re (p := k) t d H
  | .note op c a b k, _, _, _, _, _, t, d, H => fun hl => HP.re (p := k) t d (H hl)
  | .bump c k, _, _, _, _, _, t, d, H => fun hl => HP.re (p := k) t d (H hl)
  | .stk k, _, _, _, _, _, t, d, H => HP.re (p := k _) t d H
/-- One may walk ahead of it. -/
theorem HP.walk {i : Nat} {Fin : List (Int × Int) → Gho → World → Prop} : ∀ {p : Prog} {Γ0 : Gho} {v0 : World} {A : Sys} {g : Goroutine} {v : World}, Hold Try.prog false (SS Γ0 A.ths.length) (fun g' v' => HP i Fin p Γ0 v0 A g' v') g v → HP i Fin p Γ0 v0 A g v
  | .done _, _, _, _, _, _, H => H.then fun _ _ h => h
  | .out, _, _, _, _, _, _ => trivial
  | .wait .., _, _, _, _, _, H => H.then fun _ _ h => h
  | .rd c k, _, _, _, _, _, H => HP.walk (p := k _) H
  | .wr c x k, _, _, _, _, _, H => HP.walk (p := k) H
  | .note op c a b k, _, _, _, _, _, H => fun hl => HP.walk (p := k) (H.then fun _ _ h => .stop _ _ fun t d => (HP.re (p := k) t d (h hl)))
  | .bump c k, _, _, _, _, _, H => fun hl => HP.walk (p := k) (H.then fun _ _ h => .stop _ _ fun t d => (HP.re (p := k) t d (h hl)))
  | .stk k, _, _, _, _, _, H => HP.walk (p := k _) H
theorem HP.stop {i : Nat} {Fin : List (Int × Int) → Gho → World → Prop} {p : Prog} {Γ0 : Gho} {v0 : World} {A : Sys} {g : Goroutine} {v : World} {S : Addr → Prop} (h : HP i Fin p Γ0 v0 A g v) : Hold Try.prog false S (fun g' v' => HP i Fin p Γ0 v0 A g' v') g v := .stop _ _ fun t d => h.re t d
end Go.Proofs.Ytecdiejeofclaaa


/- The world of turns: small changes of the heap keep what is known of it. -/
namespace Go.Proofs.Ytecdiejeofclaaa
open Go Go.Conc
section
variable {w w' v v' : World} {b b' o : Nat} {x : Value} {arr : Array Value} {t : TypeId} {fr : Nat × Nat}
theorem set_self (h : w.heap[b]? = some (.cells arr t fr)) : (w.setCell ⟨b, o, none⟩ x).heap[b]? = some (.cells (arr.setIfInBounds o x) t fr) := by
  have hlt := (Array.getElem?_eq_some_iff.1 h).1
  simp [World.setCell, Array.getElem?_modify, h]
theorem set_other (h : b' ≠ b) : (w.setCell ⟨b, o, none⟩ x).heap[b']? = w.heap[b']? := heap_setCell_other w ⟨b, o, none⟩ b' x h
theorem cell_of (h : w.heap[b]? = some (.cells arr t fr)) : w.cell? ⟨b, o, none⟩ = arr[o]? := by simp [World.cell?, h]
theorem frozen_of (h : w.heap[b]? = some (.cells arr t fr)) : w.frozen? ⟨b, o, none⟩ = (decide (fr.1 ≤ o) && decide (o < fr.2)) := by simp [World.frozen?, h]
theorem size_set : (w.setCell ⟨b, o, none⟩ x).heap.size = w.heap.size := World.size_setCell _ _ _
theorem ready_set (h : Ready0 w) : Ready0 (w.setCell ⟨b, o, none⟩ x) := by
  intro r c e hr
  by_cases hb : r = b
  · subst hb
    simp only [World.setCell, Array.getElem?_modify, if_true] at hr
    cases hh : w.heap[r]? with
    | none => rw [hh] at hr; cases hr
    | some y => rw [hh] at hr; cases y <;> first | (simp at hr; done) | (exact h r c e (by rw [hh]; simpa using hr))
  · rw [set_other hb] at hr; exact h r c e hr
theorem lt_of_heap {y : Obj} (h : w.heap[b]? = some y) : b < w.heap.size := (Array.getElem?_eq_some_iff.1 h).1
theorem ownsRow_keep {base : Nat} {e : TypeId} {sz n : Nat} {ov : Value} {xs : List Value} (h : w.ownsRow base e sz ov n xs) (hs : ∀ b c, ov.ownBlock = some b → w.heap[b]? = some (.cells c e (0, 0)) → w'.heap[b]? = w.heap[b]?) : w'.ownsRow base e sz ov n xs := by
  refine ⟨h.1, h.2.imp id ?_⟩
  rintro ⟨g, cap, cur, rfl, h1, h2, h3⟩
  exact ⟨g, cap, cur, rfl, h1, by rw [hs g cur rfl h2]; exact h2, h3⟩
theorem ownsRow_slice {base : Nat} {e : TypeId} {sz n : Nat} {ov : Value} {xs : List Value} (h : w.ownsRow base e sz ov n xs) : ∃ a cap, ov = .slice a n cap := by
  rcases h.2 with ⟨rfl, rfl⟩ | ⟨g, cap, cur, rfl, _⟩
  · exact ⟨_, _, rfl⟩
  · exact ⟨_, _, rfl⟩
theorem ownsRow_at1 {base : Nat} {e : TypeId} {n i : Nat} {ov : Value} {xs : List Value} {y : Value} (h : w.ownsRow base e 1 ov n xs) (hy : xs[i]? = some y) : ∃ g cap, ov = .slice (some ⟨g, 0, none⟩) n cap ∧ w.cell? ⟨g, i, none⟩ = some y ∧ i < n ∧ ∃ cur, w.heap[g]? = some (.cells cur e (0, 0)) := by
  have hlt := (List.getElem?_eq_some_iff.1 hy).1
  have hl := h.1
  rcases h.2 with ⟨rfl, rfl⟩ | ⟨g, cap, cur, rfl, _, hg, _, _, h3, h4⟩
  · omega
  · refine ⟨g, cap, rfl, ?_, by omega, cur, hg⟩
    rw [cell_of hg]
    have : (cur.toList.take (n * 1))[i]? = some y := by rw [h4]; exact hy
    rw [List.getElem?_take] at this
    split at this
    · simpa using this
    · cases this
end
theorem tys : (74 : Nat) ≠ 76 ∧ (74 : Nat) ≠ 3 ∧ (74 : Nat) ≠ 41 ∧ (74 : Nat) ≠ 55 ∧ (74 : Nat) ≠ 100 ∧
    (76 : Nat) ≠ 3 ∧ (76 : Nat) ≠ 41 ∧ (76 : Nat) ≠ 55 ∧ (76 : Nat) ≠ 100 ∧
    (3 : Nat) ≠ 41 ∧ (3 : Nat) ≠ 55 ∧ (3 : Nat) ≠ 100 ∧ (41 : Nat) ≠ 55 ∧ (41 : Nat) ≠ 100 ∧ (55 : Nat) ≠ 100 := by decide
theorem ne_of_types {w : World} {b b' : Nat} {c c' : Array Value} {e e' : TypeId} {f f' : Nat × Nat} (h : w.heap[b]? = some (.cells c e f)) (h' : w.heap[b']? = some (.cells c' e' f')) (hne : e ≠ e') : b ≠ b' := by
  rintro rfl
  rw [h] at h'
  simp only [Option.some.injEq, Obj.cells.injEq] at h'
  exact hne h'.2.1
theorem ne_of_chan {w : World} {b b' : Nat} {c : Array Value} {e : TypeId} {f : Nat × Nat} (h : w.heap[b]? = some (.cells c e f)) (h' : fresh w b') : b' ≠ b := by
  rintro rfl
  obtain ⟨k, hk⟩ := h'
  rw [h] at hk; cases hk
theorem fresh_keep {w w' : World} {c : Nat} (h : fresh w c) (hs : w'.heap[c]? = w.heap[c]?) : fresh w' c := by
  obtain ⟨k, hk⟩ := h
  exact ⟨k, by rw [hs]; exact hk⟩
/-- One thread's words are changed. -/
theorem WI.setTh {Γ : Gho} {A : Sys} {v v' : World} (h : WI Γ A v) {i : Nat} (t' : TSt) {t : TSt} (ht : A.ths[i]? = some t) (hsame : ∀ b, b ≠ Γ.tb i → v'.heap[b]? = v.heap[b]?)
    (hth : v'.heap[Γ.tb i]? = some (.cells #[.pointer (some ⟨Γ.W, 0, none⟩), .int .i64 i, .chan (some (Γ.goes i)), .int .i64 t'.st, .int .i64 t'.cell, .int .i64 t'.op, .int .i64 t'.seen] 76 (2, 3))) (hr : Ready0 v') :
    WI Γ { A with ths := A.ths.set i t' } v' := by
  obtain ⟨y1, y2, y3, y4, y5, y6, y7, y8, y9, y10, y11, y12, y13, y14, y15⟩ := tys
  obtain ⟨hti, hgi, hoi, hogi⟩ := h.th i t ht
  obtain ⟨sv, cv, tv, rv, hw, r1, r2, r3, r4, o1, o2, o3, o4, o5⟩ := h.world
  have hch : ∀ c, fresh v c → fresh v' c := fun c hc => fresh_keep hc (hsame c (ne_of_chan hti hc))
  refine ⟨hr, ⟨sv, cv, tv, rv, ?_, ?_, ?_, ?_, ?_, o1, o2, o3, o4, o5⟩, fun j tj hj => ?_, ⟨hch _ h.back.1, h.back.2⟩, fun c x hc => ?_, h.used, h.ints64, fun a b ha hb => h.chansApart a b (by simpa using ha) (by simpa using hb), fun a ha => h.backApart a (by simpa using ha), h.nc, h.vals64⟩
  · rw [hsame _ (ne_of_types hw hti y1)]; exact hw
  · exact ownsRow_keep r1 fun b c _ hb => hsame b (ne_of_types hb hti y6.symm)
  · exact ownsRow_keep r2 fun b c _ hb => hsame b (ne_of_types hb hti y6.symm)
  · simp only [List.length_set]
    exact ownsRow_keep r3 fun b c _ hb => hsame b (ne_of_types hb hti y7.symm)
  · exact ownsRow_keep r4 fun b c _ hb => hsame b (ne_of_types hb hti y8.symm)
  · by_cases e : i = j
    · subst e
      simp only [List.getElem?_set_self (List.getElem?_eq_some_iff.1 ht).1, Option.some.injEq] at hj
      subst hj
      exact ⟨hth, hch _ hgi, hoi, hogi⟩
    · simp only [List.getElem?_set_ne e] at hj
      obtain ⟨h1, h2, h3, h4⟩ := h.th j tj hj
      have hne : Γ.tb j ≠ Γ.tb i := by
        intro e'
        rw [e', hti] at h1
        simp at h1
        omega
      exact ⟨by rw [hsame _ hne]; exact h1, hch _ h2, h3, h4⟩
  · obtain ⟨h1, h2⟩ := h.cells c x hc
    exact ⟨by rw [hsame _ (ne_of_types h1 hti y9.symm)]; exact h1, h2⟩
end Go.Proofs.Ytecdiejeofclaaa


/- wait. -/
namespace Go.Proofs.Ytecdiejeofclaaa
open Go Go.Conc
/-- What is lifted, and what is entered. -/
abbrev Lf : Allow := ⟨[85], []⟩
theorem changed_ok : (Try.f85.body.map (codeOk Try.prog Lf)).getD false = true := by kernel_rfl
theorem lf_of {P : Program} {L : Allow} {f : FuncId} {fn : Func} (hf : P.funcs[f]? = some fn) (h : (fn.body.map (codeOk P L)).getD false = true) : ∃ fn c, P.funcs[f]? = some fn ∧ fn.body = some c ∧ codeOk P L c = true := by
  cases hb : fn.body with
  | none => rw [hb] at h; cases h
  | some c => rw [hb] at h; exact ⟨fn, c, hf, hb, h⟩
theorem lf_ok : LOk Try.prog Lf := by
  refine ⟨fun f hf => ?_, fun f hf => by cases hf⟩
  simp only [List.mem_singleton] at hf
  subst hf
  exact lf_of changed_fn changed_ok
theorem changed_resok : ResOk Try.f85 := .inr (.inl ⟨_, changed_res⟩)
/-- 'changed' in a world that is known. -/
theorem changed_wi {Γ : Gho} {A : Sys} {v : World} (hW : WI Γ A v) (cell : Int) (t : Tp) (d : Nat) :
    BWp Try.prog 85 #[.pointer (some ⟨Γ.W, 0, none⟩), .int .i64 cell] (v.re t d) fun x w' => w' = v.re t d ∧ x = .int .i64 (A.changed cell) := by
  obtain ⟨sv, cv, tv, rv, hw, r1, r2, r3, r4, o1, o2, o3, o4, o5⟩ := hW.world
  refine changed_bwp Γ.W cell (A.changed cell) A.cnt.length cv (v.re t d) (cell_of (w := v) hw) (ownsRow_slice r2) ?_
  by_cases h0 : cell < 0
  · exact .inl ⟨.inl h0, by simp [Sys.changed, h0]⟩
  · by_cases h1 : (A.cnt.length : Int) ≤ cell
    · refine .inl ⟨.inr h1, ?_⟩
      have : A.cnt.length ≤ cell.toNat := by omega
      simp [Sys.changed, h0, this]
    · have hlt : cell.toNat < A.cnt.length := by omega
      have hx : (ints A.cnt)[cell.toNat]? = some (.int .i64 (A.changed cell)) := by
        simp [ints, Sys.changed, h0, hlt]
      obtain ⟨g, cap, rfl, hc, _, _⟩ := ownsRow_at1 r2 hx
      exact .inr ⟨by omega, by omega, g, cap, rfl, hc⟩
theorem noA : ∀ f ∈ Lf.A, AtomOk Try.prog f := by intro f hf; cases hf
theorem SS_still {Γ : Gho} {A : Sys} {v : World} (h : WI Γ A v) : ∀ y, SS Γ A.ths.length y → y.block < v.heap.size := by
  rintro y (rfl | ⟨j, hj, rfl⟩)
  · obtain ⟨sv, cv, tv, rv, hw, _⟩ := h.world
    exact lt_of_heap hw
  · obtain ⟨t, ht⟩ : ∃ t, A.ths[j]? = some t := ⟨A.ths[j], by simp [hj]⟩
    exact lt_of_heap (h.th j t ht).1
theorem WI.re {Γ : Gho} {A : Sys} {v : World} (h : WI Γ A v) (t : Tp) (d : Nat) : WI Γ A (v.re t d) := ⟨h.ready, h.world, h.th, h.back, h.cells, h.used, h.ints64, h.chansApart, h.backApart, h.nc, h.vals64⟩
theorem WI.of_re {Γ : Gho} {A : Sys} {v : World} {t : Tp} {d : Nat} (h : WI Γ A (v.re t d)) : WI Γ A v := ⟨h.ready, h.world, h.th, h.back, h.cells, h.used, h.ints64, h.chansApart, h.backApart, h.nc, h.vals64⟩
theorem Guar.re {i n : Nat} {Γ0 Γ : Gho} {v0 v : World} (h : Guar i n Γ0 v0 Γ v) (t : Tp) (d : Nat) : Guar i n Γ0 v0 Γ (v.re t d) := ⟨h.size, h.same, h.cb, h.own, h.keep, h.mixed, h.newown, h.nc, h.mf⟩
theorem Rely.re {i : Nat} {Γ0 Γ : Gho} {v0 v : World} (h : Rely i Γ0 v0 Γ v) (t : Tp) (d : Nat) : Rely i Γ0 v0 Γ (v.re t d) := ⟨h.size, h.same, h.cb, h.own, h.keep, h.mixed, h.nc, h.mf⟩
theorem Rely.from_re {i : Nat} {Γ0 Γ : Gho} {v0 v : World} {t : Tp} {d : Nat} (h : Rely i Γ0 (v0.re t d) Γ v) : Rely i Γ0 v0 Γ v := ⟨h.size, h.same, h.cb, h.own, h.keep, h.mixed, h.nc, h.mf⟩
theorem frozen_same {v v' : World} {b j : Nat} (h : v'.heap[b]? = v.heap[b]?) : v'.frozen? ⟨b, j, none⟩ = v.frozen? ⟨b, j, none⟩ := by simp [World.frozen?, h]
theorem cell_same {v v' : World} {b j : Nat} (h : v'.heap[b]? = v.heap[b]?) : v'.cell? ⟨b, j, none⟩ = v.cell? ⟨b, j, none⟩ := by simp [World.cell?, h]
/-- Only blocks of the system are changed; none is made. -/
theorem guar_sys {i n : Nat} {Γ : Gho} {v v' : World} (hsz : v'.heap.size = v.heap.size) (h : ∀ b, Γ.own b ≠ .sys → v'.heap[b]? = v.heap[b]?) : Guar i n Γ v Γ v' :=
  ⟨by omega, ⟨rfl, rfl, rfl, fun _ _ => ⟨rfl, rfl⟩⟩, fun _ _ => rfl, fun _ _ => rfl, fun b _ h1 _ _ => h b h1, fun b j _ h1 _ => cell_same (h b (by rw [h1]; simp)), fun b h1 h2 => by omega, Nat.le_refl _, fun b j _ h1 => frozen_same (h b (by rw [h1]; simp))⟩
theorem rely_sys {i : Nat} {Γ : Gho} {v v' : World} (hsz : v'.heap.size = v.heap.size) (h : ∀ b, Γ.own b ≠ .sys → v'.heap[b]? = v.heap[b]?) : Rely i Γ v Γ v' :=
  ⟨by omega, ⟨rfl, rfl, rfl, rfl, rfl⟩, fun _ _ => rfl, fun _ _ => rfl, fun b _ h1 => h b (by rcases h1 with h1 | h1 <;> rw [h1] <;> simp), fun b _ h1 => cell_same (h b (by rw [h1]; simp)), Nat.le_refl _, fun b j _ h1 => frozen_same (h b (by rw [h1]; simp))⟩
theorem ret_none {fn : Func} (h : fn.results = #[]) {P : Program} (tmps : Array Value) (w : World) : (results fn tmps).run P w = .ok (.tuple #[]) w := results_none h tmps P w
theorem wait_hp {i : Nat} {Fin : List (Int × Int) → Gho → World → Prop} {k : Prog} {Γ0 Γ : Gho} {v0 v : World} {A : Sys} (hW : WI Γ A v) (hG : Guar i A.ths.length Γ0 v0 Γ v) (hi : i < A.ths.length) (st op cell : Int) (c : Frame) (cs : List Frame)
    (K : ∀ Γ'' v'' A'' s, Rely i Γ v Γ'' v'' → WI Γ'' A'' v'' → A''.ths[i]? = some ⟨0, cell, op, s⟩ → HP i Fin k Γ'' v'' A'' (G (c.finish (.tuple #[])) cs) v'') :
    HP i Fin (.wait st op cell k) Γ0 v0 A (G (Frame.enter Try.prog 59 #[.pointer (some ⟨Γ.tb i, 0, none⟩), .int .i64 st, .int .i64 op, .int .i64 cell] .normal) (c :: cs)) v := by
  obtain ⟨t, ht⟩ : ∃ t, A.ths[i]? = some t := ⟨A.ths[i], by simp [hi]⟩
  obtain ⟨hti, hgi, hoi, hogi⟩ := hW.th i t ht
  obtain ⟨sv, cv, tv, rv, hw, r1, r2, r3, r4, o1, o2, o3, o4, o5⟩ := hW.world
  have hSS : SS Γ0 A.ths.length = SS Γ A.ths.length := by
    obtain ⟨e1, e2, e3, e4⟩ := hG.same
    funext y
    simp only [SS, e1, eq_iff_iff]
    constructor
    · rintro (rfl | ⟨j, hj, rfl⟩)
      · exact .inl rfl
      · exact .inr ⟨j, hj, by rw [(e4 j hj).1]⟩
    · rintro (rfl | ⟨j, hj, rfl⟩)
      · exact .inl rfl
      · exact .inr ⟨j, hj, by rw [(e4 j hj).1]⟩
  rw [enter_at wait_fn wait_body]
  generalize hb0 : ({ (default : Frame) with fn := 59, kind := .normal } : Frame) = b
  have hbk : b.kind ≠ .early := by subst hb0; simp
  show Hold Try.prog false (SS Γ0 A.ths.length) _ _ _
  rw [hSS]
  unfold wait_code
  have c0 : v.cell? ⟨Γ.tb i, 0, none⟩ = some (.pointer (some ⟨Γ.W, 0, none⟩)) := cell_of hti
  have hat : AtE 42 [] [(0, .pointer (some ⟨Γ.tb i, 0, none⟩)), (1, .int .i64 st), (2, .int .i64 op), (3, .int .i64 cell)] { tmps := #[.pointer (some ⟨Γ.tb i, 0, none⟩), .int .i64 st, .int .i64 op, .int .i64 cell] ++ Array.replicate (Try.f59.ntmps - 4) undef, defers := [] } := by
    rw [wait_tmps]; exact AtE.start #[.pointer (some ⟨Γ.tb i, 0, none⟩), .int .i64 st, .int .i64 op, .int .i64 cell] 38
  generalize ({ tmps := #[.pointer (some ⟨Γ.tb i, 0, none⟩), .int .i64 st, .int .i64 op, .int .i64 cell] ++ Array.replicate (Try.f59.ntmps - #[Value.pointer (some ⟨Γ.tb i, 0, none⟩), .int .i64 st, .int .i64 op, .int .i64 cell].size) undef, defers := [] } : Act) = a at hat ⊢
  refine hold_seq (hold_region (l := [0,1,2,3,4,5,6,7,8,9,10,11,12,13,14,15,16,17,18,19,20,21,22,23,24]) rfl ?_)
  iterate 8 (refine h_val noA hbk wait_0 rfl rfl (by decide) hat (r_move rfl) fun a hat => ?_)
  refine h_val noA hbk wait_0 rfl rfl (by decide) hat (r_nil rfl) fun a hat => h_val noA hbk wait_0 rfl rfl (by decide) hat (r_field fk_th_0 rfl) fun a hat => h_val noA hbk wait_0 rfl rfl (by decide) hat (r_load ld_pw rfl c0) fun a hat => h_val noA hbk wait_0 rfl rfl (by decide) hat (r_move rfl) fun a hat => ?_
  refine h_call lf_ok noA hbk wait_0 rfl rfl (by decide) hat (f := 85) (args := #[.pointer (some ⟨Γ.W, 0, none⟩), .int .i64 cell]) (fun ρ o hρ ho t d => by
    have h1 := hρ (.tmp 18) _ rfl
    have h2 := hρ (.tmp 19) _ rfl
    have h3 := hρ (.func 85) _ rfl
    simp only [execOp, ho]
    simp [go_sem, h1, h2, h3]) changed_fn changed_resok changed_ok hW.ready (R := fun x w' => (∃ t d, w' = v.re t d) ∧ x = .int .i64 (A.changed cell)) (fun t d => (changed_wi hW cell t d).mono fun x w' h => ⟨⟨t, d, h.1⟩, h.2⟩) ?_
  rintro _ _ ⟨⟨t', d', rfl⟩, rfl⟩ - a hat
  refine Hold.re ?_ t' d'
  refine h_val noA hbk wait_0 rfl rfl (by decide) hat (r_nil rfl) fun a hat => h_val noA hbk wait_0 rfl rfl (by decide) hat (r_field fk_th_3 rfl) fun a hat => h_skip noA hbk wait_0 rfl rfl hat (r_store st_int rfl rfl rfl (cell_of hti) (frozen_of hti)) fun a hat => ?_
  have hti1 := set_self (o := 0 + 3) (x := .int .i64 st) hti
  refine h_val noA hbk wait_0 rfl rfl (by decide) hat (r_nil rfl) fun a hat => h_val noA hbk wait_0 rfl rfl (by decide) hat (r_field fk_th_5 rfl) fun a hat => h_skip noA hbk wait_0 rfl rfl hat (r_store st_int rfl rfl rfl (cell_of hti1) (frozen_of hti1)) fun a hat => ?_
  have hti2 := set_self (o := 0 + 5) (x := .int .i64 op) hti1
  refine h_val noA hbk wait_0 rfl rfl (by decide) hat (r_nil rfl) fun a hat => h_val noA hbk wait_0 rfl rfl (by decide) hat (r_field fk_th_4 rfl) fun a hat => h_skip noA hbk wait_0 rfl rfl hat (r_store st_int rfl rfl rfl (cell_of hti2) (frozen_of hti2)) fun a hat => ?_
  have hti3 := set_self (o := 0 + 4) (x := .int .i64 cell) hti2
  refine h_val noA hbk wait_0 rfl rfl (by decide) hat (r_nil rfl) fun a hat => h_val noA hbk wait_0 rfl rfl (by decide) hat (r_field fk_th_6 rfl) fun a hat => h_skip noA hbk wait_0 rfl rfl hat (r_store st_int rfl rfl rfl (cell_of hti3) (frozen_of hti3)) fun a hat => ?_
  have hti4 := set_self (o := 0 + 6) (x := .int .i64 (A.changed cell)) hti3
  refine hold_region_end (hold_seq (hold_region (l := [0,1,2,3,4,5,6,7,8]) rfl ?_))
  have hne : Γ.W ≠ Γ.tb i := ne_of_types hw hti tys.1
  have hti4' := hti4
  simp at hti4'
  generalize hv4 : World.setCell _ _ _ = v4 at hti4 hti4' ⊢
  have hoth : ∀ b, b ≠ Γ.tb i → v4.heap[b]? = v.heap[b]? := fun b hb => by
    rw [← hv4, set_other hb, set_other hb, set_other hb, set_other hb]
  have hrd : Ready0 v4 := by rw [← hv4]; exact ready_set (ready_set (ready_set (ready_set hW.ready)))
  have hsz : v4.heap.size = v.heap.size := by rw [← hv4, size_set, size_set, size_set, size_set]
  have hw4 : v4.heap[Γ.W]? = _ := (hoth _ hne).trans hw
  refine h_val noA hbk wait_1 rfl rfl (by decide) hat (r_move rfl) fun a hat => h_val noA hbk wait_1 rfl rfl (by decide) hat (r_nil rfl) fun a hat => h_val noA hbk wait_1 rfl rfl (by decide) hat (r_field fk_th_0 rfl) fun a hat => h_val noA hbk wait_1 rfl rfl (by decide) hat (r_load ld_pw rfl (cell_of hti4')) fun a hat => h_val noA hbk wait_1 rfl rfl (by decide) hat (r_nil rfl) fun a hat => h_val noA hbk wait_1 rfl rfl (by decide) hat (r_field fk_w_8 rfl) fun a hat => h_val noA hbk wait_1 rfl rfl (by decide) hat (r_load ld_chan rfl (cell_of hw4)) fun a hat => ?_
  refine h_val noA hbk wait_1 rfl rfl (by decide) hat (y := .agg #[]) (v' := v4) (fun ρ o hρ ho t d => by
    simp only [execOp, ho]
    simp [go_sem]) fun a hat => ?_
  refine .stop _ _ fun t d => ?_
  have hs : ∀ b, Γ.own b ≠ .sys → v4.heap[b]? = v.heap[b]? := fun b hb => hoth b fun e => hb (by rw [e]; exact hoi)
  have hcw : v4.cell? ⟨Γ.tb i, 0 + 2, none⟩ = some (.chan (some (Γ.goes i))) := cell_of hti4'
  refine ⟨Γ, _, fun g => ∃ a e, AtE 42 [] e a ∧ g = G (b.at a [.inRegion (Rg Try.f59.body 2) [4]]) (c :: cs), _, .agg #[], _, (hW.setTh ⟨st, cell, op, A.changed cell⟩ ht hoth hti4' hrd).re t d, (hG.trans (guar_sys hsz hs)).re t d, rfl, fun wa _ => at_send hbk wait_1 rfl hat rfl rfl wa, ?_, ?_⟩
  · rw [sent_is wait_1 rfl]
    refine iw_rests (n := 6) (v := v4.re t d) (fun y hy => by show y.block < v4.heap.size; rw [hsz]; exact SS_still hW y hy) ?_
    refine iw_region_end (iw_region (l := [0,1,2,3,4]) rfl ?_)
    refine iw_val hbk wait_2 rfl (by decide) hat (s_move rfl) fun a hat => iw_val hbk wait_2 rfl (by decide) hat (s_nil rfl) fun a hat => iw_val hbk wait_2 rfl (by decide) hat (s_field ft_th_2 rfl) fun a hat => iw_val hbk wait_2 rfl (by decide) hat (s_load lt_chan rfl (.inr ⟨i, hi, rfl⟩) hcw) fun a hat => ?_
    exact iw_recv (el := 0) hbk wait_2 rfl hat rfl (fun ρ h w => by simp [go_sem, h]; rfl) ⟨_, _, hat, rfl⟩
  · rintro g₂ Γ'' v'' A'' y s ⟨a, e, hat, rfl⟩ hR hW' hi'
    refine HP.walk ?_
    obtain ⟨a', hat', hfin⟩ := back_val (b := b) (a := a) (k := []) (i := 4) (d := 41) (rest := []) wait_2 rfl (by decide) hat y
    have : Conc.served (G (b.at a [.inRegion (Rg Try.f59.body 2) [4]]) (c :: cs)) y = G (b.at a' [.inRegion (Rg Try.f59.body 2) []]) (c :: cs) := by
      simp only [Conc.served, G, hfin]
    rw [this]
    refine hold_region_end (hold_end (.inl (by subst hb0; rfl)) (hold_return (by subst hb0; rfl) (by subst hb0; exact wait_fn) hat'.defers (ret_none wait_res _) ?_))
    exact HP.stop (K Γ'' v'' A'' s ((rely_sys hsz hs).trans hR.from_re) hW' hi')
end Go.Proofs.Ytecdiejeofclaaa


/- Package turn, alone: note, Did, changed, ready, pick: contracts of a lone walk. -/
namespace Go.Proofs.Ytecdiejeofclaaa
open Go
theorem infoStep : (Try.prog.info? 55).map (fun i => (i.zero, i.size, i.bytes)) = some (some (.agg #[.int .i64 0, .int .i64 0, .int .i64 0, .int .i64 0, .int .i64 0]), 5, 40) := by kernel_rfl
set_option maxRecDepth 100000 in
set_option maxHeartbeats 3200000 in
theorem note_bwp (W tb : Nat) (id op cell a c : Int) (ov : Value) (n : Nat) (xs : List Value) (w : World)
    (h0 : w.cell? ⟨tb, 0, none⟩ = some (.pointer (some ⟨W, 0, none⟩))) (h1 : w.cell? ⟨tb, 1, none⟩ = some (.int .i64 id)) (h5 : w.cell? ⟨W, 5, none⟩ = some ov) (f5 : w.frozen? ⟨W, 5, none⟩ = false)
    (hown : w.ownsRow 0 55 5 ov n xs) (hn : n + 1 ≤ maxLen) (hb : (n + 1) * 40 ≤ 140737488355328)
    (aw : ov.ownBlock ≠ some W) (at_ : ov.ownBlock ≠ some tb) :
    BWp Try.prog 61 #[.pointer (some ⟨tb, 0, none⟩), .int .i64 op, .int .i64 cell, .int .i64 a, .int .i64 c] w fun x w' => ∃ gg cap w1, x = .tuple #[] ∧
      World.ownsRow w1 0 55 5 (.slice (some ⟨gg, 0, none⟩) (n + 1) cap) (n + 1) (xs ++ [.int .i64 id, .int .i64 cell, .int .i64 op, .int .i64 a, .int .i64 c]) ∧ (ov.ownBlock = some gg ∨ w.heap.size ≤ gg) ∧
      (∀ k, k < w.heap.size → some k ≠ ov.ownBlock → w1.heap[k]? = w.heap[k]?) ∧ w.heap.size ≤ w1.heap.size ∧ w' = w1.setCell ⟨W, 5, none⟩ (.slice (some ⟨gg, 0, none⟩) (n + 1) cap) := by
  obtain ⟨i0, hi0, hz0, hz1, hz2⟩ := info_parts infoStep
  have lW := World.block_lt_of_cell? w _ h5
  have lt := World.block_lt_of_cell? w _ h0
  refine ⟨_, _, Try.func61, rfl, ?_⟩
  simp only [Try.ntmps61, List.size_toArray, List.length_cons, List.length_nil, Nat.reduceAdd, Nat.reduceSub, Array.replicate_succ, Array.replicate_zero, List.push_toArray, List.append_toArray, List.nil_append, List.cons_append]
  go_wp2_with fail
  obtain ⟨w0, rfl⟩ : ∃ w0 : World, w0 = w := ⟨_, rfl⟩
  go_region_law
    ((refine step_append_lies _ (by rfl) _ _ _ (by rfl) 0 55 i0 _ 5 40 Try.underlying51 hi0 hz0 hz1 hz2 rfl (by omega) ov n xs (by rfl) ((hown.alloc _).drew)
        ⟨w0.heap.size, 0, none⟩ 1 1 [.int .i64 id, .int .i64 cell, .int .i64 op, .int .i64 a, .int .i64 c] (by rfl) (by rfl) (World.news_of_block (cs := #[.int .i64 id, .int .i64 cell, .int .i64 op, .int .i64 a, .int .i64 c]) (t := 55) (fr := (0, 0)) (heap_alloc_new w0 _)) (by simp [Value.oneCell'])
        (by omega) hn hb (by simp) (w0.heap.size + 1) (by simp) ?_; intro gg cap w1 hown1 hgrow hat hlt; have e5 : w1.frozen? ⟨W, 5, none⟩ = false := (hgrow.frozen_far _ (by simp; omega) (Ne.symm aw)).trans ((World.frozen?_alloc_past _ _ _ lW).trans f5); have c5 : w1.cell? ⟨W, 5, none⟩ = some ov := (hgrow.cell_far _ (by simp; omega) (Ne.symm aw)).trans ((World.cell?_alloc_past _ _ _ lW).trans h5); have c0 : w1.cell? ⟨tb, 0, none⟩ = some (.pointer (some ⟨W, 0, none⟩)) := (hgrow.cell_far _ (by simp; omega) (Ne.symm at_)).trans ((World.cell?_alloc_past _ _ _ lt).trans h0); have c1 : w1.cell? ⟨tb, 1, none⟩ = some (.int .i64 id) := (hgrow.cell_far _ (by simp; omega) (Ne.symm at_)).trans ((World.cell?_alloc_past _ _ _ lt).trans h1)))
  all_goals (go_end0)
  all_goals (refine ⟨_, rfl, gg, cap, w1, rfl, hown1, hat.imp (fun h => h) (fun h => by omega), fun k hk hne => ?_, ?_, rfl⟩)
  all_goals (first
    | (have h := hgrow.size; simp at h; omega)
    | exact (hgrow.block k (by simp; omega) hne).trans (heap_alloc_old w0 _ hk))
end Go.Proofs.Ytecdiejeofclaaa


/- note, Turn. -/
namespace Go.Proofs.Ytecdiejeofclaaa
open Go Go.Conc
/-- The ghost that counts all new blocks as so-and-so's. -/
def Gho.ext (Γ : Gho) (v : World) (o : Own) : Gho := { Γ with own := fun b => if b < v.heap.size then Γ.own b else o }
theorem ext_sys {Γ : Gho} {v : World} {b : Nat} (h : Γ.own b = .sys) : (Γ.ext v .sys).own b = .sys := by simp [Gho.ext, h]
theorem ext_isys {Γ : Gho} {v : World} {x : Value} (h : isys Γ x) : isys (Γ.ext v .sys) x := fun b hb => ext_sys (h b hb)
abbrev Ln : Allow := ⟨[61], []⟩
theorem note_ok : (Try.f61.body.map (codeOk Try.prog Ln)).getD false = true := by kernel_rfl
theorem ln_ok : LOk Try.prog Ln := by
  refine ⟨fun f hf => ?_, fun f hf => by cases hf⟩
  simp only [List.mem_singleton] at hf
  subst hf
  exact lf_of note_fn note_ok
theorem note_resok : ResOk Try.f61 := .inl note_res
/-- A step behind the trace. -/
theorem WI.noted {Γ : Gho} {A : Sys} {v w1 v' : World} (hW : WI Γ A v) (s : TStep) {rv : Value} {gg cap : Nat} {arr : Array Value} (hw : v.heap[Γ.W]? = some (.cells arr 74 (8, 9))) (hrv : arr[5]? = some rv)
    (hown : w1.ownsRow 0 55 5 (.slice (some ⟨gg, 0, none⟩) (A.trace.length + 1) cap) (A.trace.length + 1) (flat A.trace ++ [.int .i64 s.th, .int .i64 s.cell, .int .i64 s.op, .int .i64 s.old, .int .i64 s.new]))
    (hgg : rv.ownBlock = some gg ∨ v.heap.size ≤ gg) (hold : ∀ k, k < v.heap.size → some k ≠ rv.ownBlock → w1.heap[k]? = v.heap[k]?) (hsz : v.heap.size ≤ w1.heap.size) (hv' : v' = w1.setCell ⟨Γ.W, 5, none⟩ (.slice (some ⟨gg, 0, none⟩) (A.trace.length + 1) cap)) (hr : Ready0 v') :
    WI (Γ.ext v .sys) { A with trace := A.trace ++ [s] } v' ∧ (∀ i n, Guar i n Γ v (Γ.ext v .sys) v') ∧ ∀ i, Rely i Γ v (Γ.ext v .sys) v' := by
  obtain ⟨y1, y2, y3, y4, y5, y6, y7, y8, y9, y10, y11, y12, y13, y14, y15⟩ := tys
  obtain ⟨sv, cv, tv, rv', hw0, r1, r2, r3, r4, o1, o2, o3, o4, o5⟩ := hW.world
  rw [hw] at hw0
  simp only [Option.some.injEq, Obj.cells.injEq, and_true, true_and] at hw0
  subst hw0
  simp at hrv
  subst hrv
  have hlt : ∀ {b : Nat} {o : Obj}, v.heap[b]? = some o → b < v.heap.size := fun h => (Array.getElem?_eq_some_iff.1 h).1
  have htr : ∀ {b : Nat}, rv'.ownBlock = some b → ∃ cur, v.heap[b]? = some (.cells cur 55 (0, 0)) := by
    intro b hb
    rcases r4.2 with ⟨rfl, _⟩ | ⟨g, cap', cur, rfl, _, hg, _⟩
    · cases hb
    · cases hb; exact ⟨cur, hg⟩
  have keep1 : ∀ {b : Nat} {c : Array Value} {e : TypeId} {f : Nat × Nat}, v.heap[b]? = some (.cells c e f) → e ≠ 55 → w1.heap[b]? = v.heap[b]? := fun {b c e f} hb hne => hold b (hlt hb) fun x => by
    obtain ⟨cur, hc⟩ := htr x.symm
    exact ne_of_types hb hc hne rfl
  have hW1 : w1.heap[Γ.W]? = v.heap[Γ.W]? := keep1 hw y4
  have hWw1 := hW1.trans hw
  have keep2 : ∀ {b : Nat} {c : Array Value} {e : TypeId} {f : Nat × Nat}, v.heap[b]? = some (.cells c e f) → e ≠ 55 → e ≠ 74 → v'.heap[b]? = v.heap[b]? := fun {b c e f} hb h1 h2 => by
    rw [hv', set_other (ne_of_types hb hw h2)]; exact keep1 hb h1
  have hch : ∀ c, fresh v c → fresh v' c := fun c hc => by
    have h0 := hc
    obtain ⟨k, hk⟩ := h0
    refine fresh_keep hc ?_
    rw [hv', set_other (ne_of_chan hw hc)]
    refine hold c (hlt hk) fun x => ?_
    obtain ⟨cur, hcu⟩ := htr x.symm
    rw [hk] at hcu; cases hcu
  have hsz' : v'.heap.size = w1.heap.size := by rw [hv', size_set]
  have hsysk : ∀ b, b < v.heap.size → Γ.own b ≠ .sys → v'.heap[b]? = v.heap[b]? := fun b hb hne => by
    rw [hv', set_other (fun e => hne (by rw [e]; exact hW.back.2.2))]
    exact hold b hb fun x => hne (o4 b x.symm)
  refine ⟨⟨hr, ⟨sv, cv, tv, .slice (some ⟨gg, 0, none⟩) (A.trace.length + 1) cap, ?_, ?_, ?_, ?_, ?_, ext_isys o1, ext_isys o2, ext_isys o3, ?_, o5⟩, fun j tj hj => ?_, ⟨hch _ hW.back.1, ext_sys hW.back.2.1, ext_sys hW.back.2.2⟩, fun c x hc => ?_, hW.used, hW.ints64, hW.chansApart, hW.backApart, hW.nc, hW.vals64⟩, fun i n => ?_, fun i => ?_⟩
  · rw [hv']; exact set_self hWw1
  · exact ownsRow_keep r1 fun b c _ hb => keep2 hb y11 y2.symm
  · exact ownsRow_keep r2 fun b c _ hb => keep2 hb y11 y2.symm
  · exact ownsRow_keep r3 fun b c _ hb => keep2 hb y13 y3.symm
  · have : (A.trace ++ [s]).length = A.trace.length + 1 := by simp
    simp only [this]
    have hf : flat (A.trace ++ [s]) = flat A.trace ++ [.int .i64 s.th, .int .i64 s.cell, .int .i64 s.op, .int .i64 s.old, .int .i64 s.new] := by simp [flat]
    rw [hf, hv']
    exact ownsRow_keep hown fun b c _ hb => set_other (ne_of_types hb hWw1 y4.symm)
  · intro b hb
    cases hb
    rcases hgg with h | h
    · exact ext_sys (o4 gg h)
    · simp [Gho.ext, show ¬ gg < v.heap.size from by omega]
  · obtain ⟨h1, h2, h3, h4⟩ := hW.th j tj hj
    exact ⟨(keep2 h1 y8 y1.symm).trans h1, hch _ h2, ext_sys h3, ext_sys h4⟩
  · obtain ⟨h1, h2⟩ := hW.cells c x hc
    exact ⟨(keep2 h1 y15.symm y5.symm).trans h1, ext_sys h2⟩
  · exact ⟨by omega, ⟨rfl, rfl, rfl, fun _ _ => ⟨rfl, rfl⟩⟩, fun _ _ => rfl, fun b hb => by simp [Gho.ext, hb], fun b hb h1 _ _ => hsysk b hb h1, fun b j hb h1 _ => cell_same (hsysk b hb (by rw [h1]; simp)), fun b h1 h2 => .inl (by simp [Gho.ext, show ¬ b < v.heap.size from by omega]), Nat.le_refl _, fun b j hb h1 => frozen_same (hsysk b hb (by rw [h1]; simp))⟩
  · exact ⟨by omega, ⟨rfl, rfl, rfl, rfl, rfl⟩, fun _ _ => rfl, fun b hb => by simp [Gho.ext, hb], fun b hb h1 => hsysk b hb (by rcases h1 with h1 | h1 <;> rw [h1] <;> simp), fun b hb h1 => cell_same (hsysk b hb (by rw [h1]; simp)), Nat.le_refl _, fun b j hb h1 => frozen_same (hsysk b hb (by rw [h1]; simp))⟩
theorem note_hold {P : Program} (hP : P = Try.prog) {main : Bool} {S : Addr → Prop} {Stop : Goroutine → World → Prop} {i : Nat} {Γ : Gho} {A : Sys} {v : World} (hW : WI Γ A v) (hi : i < A.ths.length) (hlen : A.trace.length < traceMax) (op cell x y : Int) (c : Frame) (cs : List Frame)
    (K : ∀ v', WI (Γ.ext v .sys) (A.note i op cell x y) v' → (∀ i n, Guar i n Γ v (Γ.ext v .sys) v') → (∀ i, Rely i Γ v (Γ.ext v .sys) v') → Hold P main S Stop (G (c.finish (.tuple #[])) cs) v') :
    Hold P main S Stop (G (Frame.enter P 61 #[.pointer (some ⟨Γ.tb i, 0, none⟩), .int .i64 op, .int .i64 cell, .int .i64 x, .int .i64 y] .normal) (c :: cs)) v := by
  subst hP
  obtain ⟨t, ht⟩ : ∃ t, A.ths[i]? = some t := ⟨A.ths[i], by simp [hi]⟩
  obtain ⟨hti, hgi, hoi, hogi⟩ := hW.th i t ht
  obtain ⟨sv, cv, tv, rv, hw, r1, r2, r3, r4, o1, o2, o3, o4, o5⟩ := hW.world
  have hb1 : rv.ownBlock ≠ some Γ.W := fun h => by
    rcases r4.2 with ⟨rfl, _⟩ | ⟨g, cap', cur, rfl, _, hg, _⟩
    · cases h
    · cases h; exact ne_of_types hg hw tys.2.2.2.1.symm rfl
  have hb2 : rv.ownBlock ≠ some (Γ.tb i) := fun h => by
    rcases r4.2 with ⟨rfl, _⟩ | ⟨g, cap', cur, rfl, _, hg, _⟩
    · cases h
    · cases h; exact ne_of_types hg hti tys.2.2.2.2.2.2.2.1.symm rfl
  refine hold_callee ln_ok note_fn note_resok note_ok hW.ready (R := fun z w' => ∃ gg cap w1, z = .tuple #[] ∧
      World.ownsRow w1 0 55 5 (.slice (some ⟨gg, 0, none⟩) (A.trace.length + 1) cap) (A.trace.length + 1) (flat A.trace ++ [.int .i64 i, .int .i64 cell, .int .i64 op, .int .i64 x, .int .i64 y]) ∧ (rv.ownBlock = some gg ∨ v.heap.size ≤ gg) ∧
      (∀ k, k < v.heap.size → some k ≠ rv.ownBlock → w1.heap[k]? = v.heap[k]?) ∧ v.heap.size ≤ w1.heap.size ∧ w' = w1.setCell ⟨Γ.W, 5, none⟩ (.slice (some ⟨gg, 0, none⟩) (A.trace.length + 1) cap)) (fun t d => note_bwp Γ.W (Γ.tb i) i op cell x y rv A.trace.length (flat A.trace) (v.re t d) (cell_of (w := v) hti) (cell_of (w := v) hti) (cell_of (w := v) hw) (frozen_of (w := v) hw) r4 (Nat.le_trans hlen (by decide)) ?_ hb1 hb2) ?_
  · have : traceMax * 40 ≤ 140737488355328 := by decide
    have : A.trace.length + 1 ≤ traceMax := hlen
    omega
  · rintro _ w ⟨gg, cap, w1, rfl, h1, h2, h3, h4, h5⟩ hrd
    obtain ⟨g1, g2, g3⟩ := hW.noted ⟨i, cell, op, x, y⟩ hw rfl h1 h2 h3 h4 h5 hrd
    exact K w g1 g2 g3
theorem turn_hp {i : Nat} {Fin : List (Int × Int) → Gho → World → Prop} {k : Prog} {Γ0 Γ : Gho} {v0 v : World} {A : Sys} (hW : WI Γ A v) (hG : Guar i A.ths.length Γ0 v0 Γ v) (hi : i < A.ths.length) (cell op : Int) (c : Frame) (cs : List Frame)
    (K : ∀ Γ'' v'' A'' s, Rely i Γ v Γ'' v'' → WI Γ'' A'' v'' → A''.ths[i]? = some ⟨0, cell, op, s⟩ → HP i Fin k Γ'' v'' A'' (G (c.finish (.tuple #[])) cs) v'') :
    HP i Fin (.wait 1 op cell k) Γ0 v0 A (G (Frame.enter Try.prog 42 #[.pointer (some ⟨Γ.tb i, 0, none⟩), .int .i64 cell, .int .i64 op] .normal) (c :: cs)) v := by
  obtain ⟨t, ht⟩ : ∃ t, A.ths[i]? = some t := ⟨A.ths[i], by simp [hi]⟩
  obtain ⟨hti, hgi, hoi, hogi⟩ := hW.th i t ht
  rw [enter_at Turn_fn Turn_body]
  generalize hb0 : ({ (default : Frame) with fn := 42, kind := .normal } : Frame) = b
  have hbk : b.kind ≠ .early := by subst hb0; simp
  have c0 : v.cell? ⟨Γ.tb i, 0, none⟩ = some (.pointer (some ⟨Γ.W, 0, none⟩)) := cell_of hti
  have hat : AtE 15 [] [(0, .pointer (some ⟨Γ.tb i, 0, none⟩)), (1, .int .i64 cell), (2, .int .i64 op)] { tmps := #[.pointer (some ⟨Γ.tb i, 0, none⟩), .int .i64 cell, .int .i64 op] ++ Array.replicate (Try.f42.ntmps - 3) undef, defers := [] } := by
    rw [Turn_tmps]; exact AtE.start #[.pointer (some ⟨Γ.tb i, 0, none⟩), .int .i64 cell, .int .i64 op] 12
  generalize ({ tmps := #[.pointer (some ⟨Γ.tb i, 0, none⟩), .int .i64 cell, .int .i64 op] ++ Array.replicate (Try.f42.ntmps - #[Value.pointer (some ⟨Γ.tb i, 0, none⟩), .int .i64 cell, .int .i64 op].size) undef, defers := [] } : Act) = a at hat ⊢
  refine HP.walk ?_
  unfold Turn_code
  refine hold_seq (hold_region (l := [0,1,2,3,4]) rfl ?_)
  refine h_val noA hbk Turn_0 rfl rfl (by decide) hat (r_move rfl) fun a hat => h_val noA hbk Turn_0 rfl rfl (by decide) hat (r_nil rfl) fun a hat => h_val noA hbk Turn_0 rfl rfl (by decide) hat (r_field fk_th_0 rfl) fun a hat => h_val noA hbk Turn_0 rfl rfl (by decide) hat (r_load ld_pw rfl c0) fun a hat => ?_
  refine h_val noA hbk Turn_0 rfl opOk_nil (by decide) hat (y := .bool true) (v' := v) (fun ρ o hρ ho t d => by
    have h1 := hρ (.tmp 9) _ rfl
    have h2 := hρ (.const (.pointer none)) _ rfl
    simp only [execOp, ho]
    simp [go_sem, h1, h2]) fun a hat => ?_
  refine hold_region_end (hold_cond (hat.eval rfl) (hold_region (l := [0,1,2,3]) rfl ?_))
  iterate 3 (refine h_val noA hbk Turn_1 rfl rfl (by decide) hat (r_move rfl) fun a hat => ?_)
  refine h_enter (L := ⟨[59], []⟩) (fun f hf => by cases hf) hbk Turn_1 rfl (wait_call (by simp)) hat (f := 59) (args := #[.pointer (some ⟨Γ.tb i, 0, none⟩), .int .i64 1, .int .i64 op, .int .i64 cell]) (fun ρ o hρ ho t d => by
    have h1 := hρ (.tmp 11) _ rfl
    have h2 := hρ (.tmp 12) _ rfl
    have h3 := hρ (.tmp 13) _ rfl
    have h4 := hρ (.func 59) _ rfl
    have h5 := hρ (.const (.int .i64 1)) _ rfl
    simp only [execOp, ho]
    simp [go_sem, h1, h2, h3, h4, h5]) ?_
  refine HP.stop (wait_hp hW hG hi 1 op cell _ _ fun Γ'' v'' A'' s hR hW' hi' => ?_)
  obtain ⟨a', hat', hfin⟩ := back_val (b := b) (a := a) (k := []) (rest := []) Turn_1 (i := 3) (d := 14) rfl (by decide) hat (.tuple #[])
  rw [hfin]
  refine HP.walk (hold_region_end (hold_end (.inl (by subst hb0; rfl)) (hold_return (by subst hb0; rfl) (by subst hb0; exact Turn_fn) hat'.defers (ret_none Turn_res _) ?_)))
  exact HP.stop (K Γ'' v'' A'' s hR hW' hi')
end Go.Proofs.Ytecdiejeofclaaa


/- Infrastructure Q: regions whose order is drawn, of operations that leave the world (but for the last). -/
namespace Go.Proofs.Ytecdiejeofclaaa
open Go Go.Conc
def bdeps (ops : Array Oper) (i : Nat) : List Nat := ((ops[i]?).map fun o => o.after.toList.filterMap fun e => if Region.binds .any e then some e.on else none).getD []
def opTmps (op : Op) : List Nat := op.operands.toList.filterMap fun | .tmp t => some t | _ => none
def restr (e : Env) (op : Op) : Env := e.filter fun p => (opTmps op).contains p.1
def dsts (ops : Array Oper) (m : Nat) : List Nat := (List.range m).filterMap fun i => (ops[i]?).bind (·.dst)
def closure (ops : Array Oper) : Nat → List Nat → List Nat
  | 0, s => s
  | i + 1, s => closure ops i (if s.contains i then bdeps ops i ++ s else s)
def drawOk (ops : Array Oper) (m : Nat) : Bool :=
  ((List.range ops.size).all fun i => (bdeps ops i).all (· < i)) &&
  ((List.range m).all fun i => match ops[i]? with
    | none => false
    | some o => (match o.dst with
        | none => false
        | some d => (List.range m).all fun j => j == i || (ops[j]?).bind (·.dst) != some d) &&
      ((opTmps o.op).all fun t => (bdeps ops i).any (fun j => decide (j < m) && (ops[j]?).bind (·.dst) == some t) || !(dsts ops m).contains t) &&
      (match o.guard with
        | none => true
        | some (g, _) => (bdeps ops i).contains g && decide (g < m))) &&
  (m == ops.size || (m + 1 == ops.size && (List.range m).all fun i => (closure ops ops.size [m]).contains i))
theorem look_filter (p : Nat → Bool) : ∀ (e : Env) (t : Nat) (x : Value), look (e.filter fun q => p q.1) t = some x → p t = true ∧ look e t = some x
  | [], t, x, h => by cases h
  | (k, y) :: e, t, x, h => by
    simp only [List.filter_cons] at h
    by_cases hp : p k = true
    · rw [if_pos hp] at h
      unfold look at h ⊢
      cases hb : Nat.beq k t with
      | true => rw [hb] at h; obtain rfl := Nat.eq_of_beq_eq_true hb; exact ⟨hp, h⟩
      | false => rw [hb] at h; exact look_filter p e t x h
    · rw [if_neg hp] at h
      obtain ⟨h1, h2⟩ := look_filter p e t x h
      refine ⟨h1, ?_⟩
      unfold look
      cases hb : Nat.beq k t with
      | true => obtain rfl := Nat.eq_of_beq_eq_true hb; exact absurd h1 hp
      | false => exact h2
section
variable {P : Program} {S : Addr → Prop} {main : Bool} {Stop : Goroutine → World → Prop} {N : Nat} {D : List Deferred} {e : Env}
variable {b : Frame} {a : Act} {k : List Item} {cs : List Frame} {v : World} {L : Allow}
def LikeW (v w : World) : Prop := w.heap = v.heap ∧ w.os = v.os ∧ w.output = v.output
/-- One operation, of the slots alone: its value; the world stands. -/
inductive Does1 (P : Program) (L : Allow) (e : Env) (op : Op) (v : World) (y : Value) : Prop
  | run (hok : opOk P L op = true) (h : RunsTo P e op v (.value y) v)
  | call (hok : opOk P L op = true) (f : FuncId) (args : Array Value) (h : RunsTo P e op v (.enter f args) v) (fn : Func) (hf : P.funcs[f]? = some fn) (hres : ResOk fn) (hbody : (fn.body.map (codeOk P L)).getD false = true)
      (hb : ∀ t d, BWp P f args (v.re t d) fun x w' => x = y ∧ LikeW v w')
def Chain (P : Program) (L : Allow) (v : World) (V : List (Option Nat × Op × Option (Nat × Bool))) : List (Option Nat × Op × Option (Nat × Bool)) → Env → (Env → Prop) → Prop
  | [], e, K => K e
  | (some d, op, none) :: l, e, K => ∃ y, Does1 P L (restr e op) op v y ∧ Chain P L v V l ((d, y) :: e) K
  | (some d, op, some (g, w)) :: l, e, K => ∃ dg bv, (V[g]?).bind (·.1) = some dg ∧ look e dg = some (.bool bv) ∧ ((bv = w ∧ ∃ y, Does1 P L (restr e op) op v y ∧ Chain P L v V l ((d, y) :: e) K) ∨ (bv = !w ∧ Chain P L v V l ((d, undef) :: e) K))
  | _, _, _ => False
/-- What is known of operation i. -/
structure ChainAt (P : Program) (L : Allow) (v : World) (V : List (Option Nat × Op × Option (Nat × Bool))) (ys : Nat → Value) (ei : Nat → Env) (i : Nat) (d : Nat) (op : Op) (gd : Option (Nat × Bool)) : Prop where
  next : ei (i + 1) = (d, ys i) :: ei i
  go : (∀ g w, gd = some (g, w) → ∃ dg bv, (V[g]?).bind (·.1) = some dg ∧ look (ei i) dg = some (.bool bv) ∧ (bv = w → Does1 P L (restr (ei i) op) op v (ys i)) ∧ (bv = !w → ys i = undef)) ∧ (gd = none → Does1 P L (restr (ei i) op) op v (ys i))
theorem chain_at {V : List (Option Nat × Op × Option (Nat × Bool))} {K : Env → Prop} : ∀ (l : List (Option Nat × Op × Option (Nat × Bool))) (n : Nat) (e : Env), Chain P L v V l e K →
    ∃ (ys : Nat → Value) (ei : Nat → Env), ei n = e ∧ K (ei (n + l.length)) ∧ ∀ j, j < l.length → ∃ d op gd, l[j]? = some (some d, op, gd) ∧ ChainAt P L v V ys ei (n + j) d op gd
  | [], n, e, h => ⟨fun _ => undef, fun _ => e, rfl, h, fun j hj => by cases hj⟩
  | (none, op, gd) :: l, n, e, h => by cases gd <;> exact h.elim
  | (some d, op, gd) :: l, n, e, h => by
    have key : ∃ y, Chain P L v V l ((d, y) :: e) K ∧ (∀ g w, gd = some (g, w) → ∃ dg bv, (V[g]?).bind (·.1) = some dg ∧ look e dg = some (.bool bv) ∧ (bv = w → Does1 P L (restr e op) op v y) ∧ (bv = !w → y = undef)) ∧ (gd = none → Does1 P L (restr e op) op v y) := by
      cases gd with
      | none => obtain ⟨y, h1, h2⟩ := h; exact ⟨y, h2, fun g w e => (by cases e), fun _ => h1⟩
      | some gw =>
        obtain ⟨g, w⟩ := gw
        obtain ⟨dg, bv, h1, h2, h3⟩ := h
        rcases h3 with ⟨rfl, y, h4, h5⟩ | ⟨rfl, h5⟩
        · exact ⟨y, h5, fun g' w' e => by cases e; exact ⟨dg, bv, h1, h2, fun _ => h4, fun e => (by cases bv <;> cases e)⟩, fun e => (by cases e)⟩
        · exact ⟨undef, h5, fun g' w' e => by cases e; exact ⟨dg, _, h1, h2, fun e => (by cases w <;> cases e), fun _ => rfl⟩, fun e => (by cases e)⟩
    obtain ⟨y, h1, h2, h3⟩ := key
    obtain ⟨ys, ei, g1, g2, g3⟩ := chain_at l (n + 1) _ h1
    refine ⟨fun i => if i = n then y else ys i, fun i => if i = n then e else ei i, by simp, ?_, fun j hj => ?_⟩
    · simp only [List.length_cons]
      rw [if_neg (by omega), show n + (l.length + 1) = n + 1 + l.length from by omega]; exact g2
    · cases j with
      | zero =>
        refine ⟨d, op, gd, rfl, ?_, ?_⟩
        · simp [g1]
        · simp only [Nat.add_zero, if_true]; exact ⟨h2, h3⟩
      | succ j =>
        obtain ⟨d', op', gd', q1, q2⟩ := g3 j (by simpa using hj)
        refine ⟨d', op', gd', by simpa using q1, ?_⟩
        have e1 : n + (j + 1) = n + 1 + j := by omega
        rw [e1]
        refine ⟨?_, ?_⟩
        · simp only [if_neg (show n + 1 + j ≠ n from by omega), if_neg (show n + 1 + j + 1 ≠ n from by omega)]; exact q2.next
        · simp only [if_neg (show n + 1 + j ≠ n from by omega)]; exact q2.go
theorem countP_lt {p p' : Nat → Bool} : ∀ (l : List Nat) (i : Nat), (∀ x, p' x = true → p x = true) → i ∈ l → p i = true → p' i = false → l.countP p' < l.countP p
  | x :: l, i, h, hi, h1, h2 => by
    have hle : l.countP p' ≤ l.countP p := List.countP_mono_left fun x _ => h x
    simp only [List.countP_cons]
    rcases List.mem_cons.1 hi with rfl | hi
    · rw [h1, h2]; simp; omega
    · have := countP_lt l i h hi h1 h2
      by_cases e : p' x = true
      · rw [if_pos e, if_pos (h x e)]; omega
      · rw [if_neg e]; split <;> omega
def unl (n : Nat) (listed : Array Bool) : Nat := (List.range n).countP fun i => !listed.getD i false
theorem getD_set {A : Array Bool} {i j : Nat} (hi : i < A.size) : (A.setIfInBounds i true).getD j false = if j = i then true else A.getD j false := by
  simp only [Array.getD_eq_getD_getElem?, Array.getElem?_setIfInBounds]
  by_cases e : i = j
  · subst e; simp [hi]
  · rw [if_neg e, if_neg (fun x => e x.symm)]
theorem ready_iff {ops : Array Oper} {listed : Array Bool} (hsz : listed.size = ops.size) {i : Nat} : i ∈ Region.ready .any ops listed ↔ i < ops.size ∧ listed.getD i false = false ∧ ∀ j ∈ bdeps ops i, listed.getD j false = true := by
  unfold Region.ready
  simp only [List.mem_filter, List.mem_range, Bool.and_eq_true, Bool.not_eq_true']
  constructor
  · rintro ⟨h1, h2, h3⟩
    refine ⟨h1, by rw [← h2]; simp [Array.getD, hsz, h1], fun j hj => ?_⟩
    unfold bdeps at hj
    cases ho : ops[i]? with
    | none => rw [ho] at hj; cases hj
    | some o =>
      rw [ho] at hj h3
      simp only [Option.map_some, Option.getD_some, List.mem_filterMap] at hj
      obtain ⟨ed, hed, hj⟩ := hj
      split at hj
      · rename_i hb
        cases hj
        simp only [Option.map_some, Option.getD_some, Array.all_eq_true_iff_forall_mem] at h3
        have := h3 ed (by simpa using hed)
        rw [hb] at this
        simpa using this
      · cases hj
  · rintro ⟨h1, h2, h3⟩
    refine ⟨h1, by rw [← h2]; simp [Array.getD, hsz, h1], ?_⟩
    have ho : ops[i]? = some ops[i] := by simp [h1]
    rw [ho]
    simp only [Option.map_some, Option.getD_some, Array.all_eq_true_iff_forall_mem]
    intro ed hed
    by_cases hb : Region.binds .any ed = true
    · have := h3 ed.on (by
        unfold bdeps
        rw [ho]
        simp only [Option.map_some, Option.getD_some, List.mem_filterMap]
        exact ⟨ed, by simpa using hed, by rw [if_pos hb]⟩)
      simp [this]
    · simp [hb]
theorem go_next {ops : Array Oper} {fuel t : Nat} {listed : Array Bool} : (Region.ready .any ops listed = [] ∧ Region.linearise.go .any ops (fuel + 1) t listed [] = []) ∨
    ∃ i t', i ∈ Region.ready .any ops listed ∧ Region.linearise.go .any ops (fuel + 1) t listed [] = i :: Region.linearise.go .any ops fuel t' (listed.setIfInBounds i true) [] := by
  simp only [Region.linearise.go]
  change (_ ∧ (match (Region.ready .any ops listed)[t % (Region.ready .any ops listed).length]? with
      | some i => Region.linearise.go .any ops fuel (t / (Region.ready .any ops listed).length) (listed.setIfInBounds i true) [i]
      | none => [].reverse) = []) ∨ ∃ i t', _ ∧ (match (Region.ready .any ops listed)[t % (Region.ready .any ops listed).length]? with
      | some i => Region.linearise.go .any ops fuel (t / (Region.ready .any ops listed).length) (listed.setIfInBounds i true) [i]
      | none => [].reverse) = i :: _
  cases hi : (Region.ready .any ops listed)[t % (Region.ready .any ops listed).length]? with
  | none =>
    refine .inl ⟨?_, rfl⟩
    cases hr : Region.ready .any ops listed with
    | nil => rfl
    | cons x xs =>
      rw [hr] at hi
      have hlt : t % (x :: xs).length < (x :: xs).length := Nat.mod_lt _ (by simp)
      simp at hi
      simp at hlt
      omega
  | some i => exact .inr ⟨i, _, List.mem_of_getElem? hi, by simp only []; rw [linearise_go_acc]; rfl⟩
end
end Go.Proofs.Ytecdiejeofclaaa


/- Infrastructure R: the walk through a region whose order is drawn. -/
namespace Go.Proofs.Ytecdiejeofclaaa
open Go Go.Conc
section
variable {P : Program} {S : Addr → Prop} {main : Bool} {Stop : Goroutine → World → Prop} {N : Nat} {D : List Deferred} {e : Env}
variable {b : Frame} {a : Act} {k : List Item} {cs : List Frame} {v : World} {L : Allow}
theorem hold_region_draw {id : Nat} {ops : Array Oper} (hm : P.follows .mixedOrders = true) (H : ∀ t, Hold P main S Stop (G (b.at a (.inRegion ops (Region.linearise.go .any ops ops.size t (Array.replicate ops.size false) []) :: k)) cs) v) :
    Hold P main S Stop (G (b.at a (.code (.region id ops true) :: k)) cs) v :=
  .step _ v rfl fun t d => ⟨G (b.at a (.inRegion ops (Region.schedule (P.follows .mixedOrders) ops (t d (.order b.fn id))) :: k)) cs, v.re t (d + 1), fun wa hs ht hd => by
    subst ht hd
    refine ⟨{ wa with drawn := wa.drawn + 1 }, #[], stepG_draw, ⟨hs.os, hs.output, hs.size, hs.block, hs.still, hs.ready⟩, ⟨Nat.le_refl _, fun _ _ h _ => h, fun _ _ => rfl, rfl, Nat.le_succ _, ⟨fun b c e f h => ⟨c, h⟩, rfl, rfl, rfl, fun _ _ h _ _ => h⟩⟩, rfl, ?_, by simp⟩
    show wa.drawn + 1 + wa.drawn = wa.drawn + 1 + wa.drawn
    omega, by
    have := (H (t d (.order b.fn id))).re t (d + 1)
    simp only [Region.schedule, hm, Bool.true_or, if_true]
    exact this⟩
theorem look_ei {V : List (Option Nat × Op × Option (Nat × Bool))} {ys : Nat → Value} {ei : Nat → Env} {dd : Nat → Nat} {m : Nat} (h : ∀ i, i < m → ei (i + 1) = (dd i, ys i) :: ei i) : ∀ (i : Nat), i ≤ m → ∀ t x, look (ei i) t = some x →
    (∃ j, j < i ∧ dd j = t ∧ x = ys j) ∨ (look (ei 0) t = some x ∧ ∀ j, j < i → dd j ≠ t)
  | 0, _, t, x, hx => .inr ⟨hx, fun j hj => by omega⟩
  | i + 1, hi, t, x, hx => by
    rw [h i (by omega)] at hx
    unfold look at hx
    cases hb : Nat.beq (dd i) t with
    | true =>
      rw [hb] at hx
      cases hx
      exact .inl ⟨i, by omega, Nat.eq_of_beq_eq_true hb, rfl⟩
    | false =>
      rw [hb] at hx
      have hne : dd i ≠ t := fun e => by subst e; simp at hb
      rcases look_ei (V := V) h i (by omega) t x hx with ⟨j, hj, h1, h2⟩ | ⟨h1, h2⟩
      · exact .inl ⟨j, by omega, h1, h2⟩
      · refine .inr ⟨h1, fun j hj => ?_⟩
        rcases Nat.lt_succ_iff_lt_or_eq.1 hj with hj | rfl
        · exact h2 j hj
        · exact hne
theorem closure_listed {ops : Array Oper} {A : Array Bool} {m : Nat} (hdown : ∀ i, A.getD i false = true ∨ i = m → ∀ j ∈ bdeps ops i, A.getD j false = true) : ∀ (n : Nat) (s : List Nat), (∀ x ∈ s, A.getD x false = true ∨ x = m) → ∀ x ∈ closure ops n s, A.getD x false = true ∨ x = m
  | 0, s, hs, x, hx => hs x hx
  | n + 1, s, hs, x, hx => by
    unfold closure at hx
    refine closure_listed hdown n _ (fun y hy => ?_) x hx
    split at hy
    · rename_i hc
      rcases List.mem_append.1 hy with hy | hy
      · exact .inl (hdown n (hs n (by simpa using hc)) y hy)
      · exact hs y hy
    · exact hs y hy
set_option maxHeartbeats 4000000 in
/-- ████ A REGION WHOSE ORDER IS DRAWN. ████ m operations that leave the world; behind them at most one more. -/
theorem hold_draw {id m : Nat} {ops : Array Oper} (hm : P.follows .mixedOrders = true) (hL : LOk P L) (hb : b.kind ≠ .early) {V : List (Option Nat × Op × Option (Nat × Bool))} (hl : ops.toList.map view = V) (hd : drawOk ops m = true)
    (hN : (dsts ops m).all (· < N) = true) (hv : Ready0 v) (hat : AtE N D e a) {K : Env → Prop} (hc : Chain P L v V (V.take m) e K)
    (H : ∀ e' a', K e' → AtE N D e' a' → Hold P main S Stop (G (b.at a' (.inRegion ops (if m = ops.size then [] else [m]) :: k)) cs) v) :
    Hold P main S Stop (G (b.at a (.code (.region id ops true) :: k)) cs) v := by
  refine hold_region_draw hm fun t => ?_
  simp only [drawOk, Bool.and_eq_true, List.all_eq_true, List.mem_range, decide_eq_true_eq] at hd
  obtain ⟨⟨hdep, hops⟩, hlast⟩ := hd
  have hVlen : V.length = ops.size := by rw [← hl]; simp
  have hmn : m ≤ ops.size := by
    simp only [Bool.or_eq_true, beq_iff_eq, Bool.and_eq_true] at hlast
    rcases hlast with h | ⟨h, _⟩ <;> omega
  obtain ⟨ys, ei, hei0, hK, hat0⟩ := chain_at (V.take m) 0 e hc
  have hlen : (V.take m).length = m := by simp; omega
  rw [hlen] at hat0 hK
  simp only [Nat.zero_add] at hK hat0
  have hop : ∀ i, i < m → ∃ o d, ops[i]? = some o ∧ o.dst = some d ∧ ChainAt P L v V ys ei i d o.op o.guard := by
    intro i hi
    obtain ⟨d, op, gd, h1, h2⟩ := hat0 i hi
    have h3 : V[i]? = some (some d, op, gd) := by rw [List.getElem?_take] at h1; rw [if_pos hi] at h1; exact h1
    rw [← hl, List.getElem?_map, Array.getElem?_toList] at h3
    cases ho : ops[i]? with
    | none => rw [ho] at h3; cases h3
    | some o =>
      rw [ho] at h3
      simp only [Option.map_some, view, Option.some.injEq, Prod.mk.injEq] at h3
      exact ⟨o, d, rfl, h3.1, by rw [h3.2.1, h3.2.2]; exact h2⟩
  let dd : Nat → Nat := fun i => (((ops[i]?).bind (·.dst)).getD 0)
  have hdd : ∀ i, i < m → (ops[i]?).bind (·.dst) = some (dd i) := fun i hi => by
    obtain ⟨o, d, h1, h2, _⟩ := hop i hi
    simp [dd, h1, h2]
  have hnext : ∀ i, i < m → ei (i + 1) = (dd i, ys i) :: ei i := fun i hi => by
    obtain ⟨o, d, h1, h2, h3⟩ := hop i hi
    rw [h3.next]; simp [dd, h1, h2]
  have hinj : ∀ i j, i < m → j < m → dd i = dd j → i = j := by
    intro i j hi hj hij
    obtain ⟨o, d, h1, h2, _⟩ := hop i hi
    have := hops i hi
    rw [h1] at this
    simp only [h2, Bool.and_eq_true, List.all_eq_true, List.mem_range] at this
    have h4 := this.1.1 j hj
    simp only [Bool.or_eq_true, beq_iff_eq, bne_iff_ne] at h4
    rcases h4 with h4 | h4
    · exact h4.symm
    · refine absurd ?_ h4
      rw [hdd j hj, ← hij]; simp [dd, h1, h2]
  have hdN : ∀ i, i < m → dd i < N := fun i hi => by
    have := hN
    simp only [List.all_eq_true, decide_eq_true_eq] at this
    exact this _ (by simp only [dsts, List.mem_filterMap, List.mem_range]; exact ⟨i, hi, hdd i hi⟩)
  let Inv : Array Bool → Act → Prop := fun A a => a.defers = D ∧ a.tmps.size = N ∧ (∀ t x, look e t = some x → (∀ j, j < m → dd j ≠ t) → a.tmps[t]? = some x) ∧ ∀ i, i < m → A.getD i false = true → a.tmps[dd i]? = some (ys i)
  have hput : ∀ (A : Array Bool) (a : Act) (i : Nat), Inv A a → i < m → i < A.size → Inv (A.setIfInBounds i true) (a.put (some (dd i)) (ys i)) := by
    intro A a i hI hi hiA
    obtain ⟨h1, h2, h3, h4⟩ := hI
    refine ⟨h1, by simp [Act.put, h2], fun t x hx hne => ?_, fun j hj hA => ?_⟩
    · simp [Act.put, Array.getElem?_setIfInBounds_ne (hne i hi), h3 t x hx hne]
    · rw [getD_set hiA] at hA
      by_cases e : j = i
      · subst e; simp [Act.put, Array.getElem?_setIfInBounds, h2, hdN j hi]
      · rw [if_neg e] at hA
        have hne : dd i ≠ dd j := fun x => e (hinj i j hi hj x).symm
        simp [Act.put, Array.getElem?_setIfInBounds_ne hne, h4 j hj hA]
  have hrestr : ∀ (A : Array Bool) (a : Act) (i : Nat) (o : Oper), Inv A a → i < m → ops[i]? = some o → (∀ j ∈ bdeps ops i, A.getD j false = true) → AtE N D (restr (ei i) o.op) a := by
    intro A a i o hI hi ho hdeps
    obtain ⟨h1, h2, h3, h4⟩ := hI
    refine ⟨h1, h2, fun t x hx => ?_⟩
    obtain ⟨hx1, hx2⟩ := look_filter (fun u => (opTmps o.op).contains u) (ei i) t x hx
    have hs := hops i hi
    rw [ho] at hs
    simp only [Bool.and_eq_true, List.all_eq_true] at hs
    have hs2 := hs.1.2 t (by simpa using hx1)
    simp only [Bool.or_eq_true, List.any_eq_true, Bool.and_eq_true, decide_eq_true_eq, beq_iff_eq, Bool.not_eq_true'] at hs2
    rcases look_ei (V := V) hnext i (by omega) t x hx2 with ⟨j, hj, hjt, rfl⟩ | ⟨hx3, hne⟩
    · rcases hs2 with ⟨j', hj', hj'm, hj't⟩ | hs2
      · have : dd j' = t := by simp [dd, hj't]
        have e : j' = j := hinj j' j hj'm (by omega) (this.trans hjt.symm)
        subst e
        rw [← hjt]
        exact h4 j' hj'm (hdeps j' hj')
      · exfalso
        have : t ∈ dsts ops m := by simp only [dsts, List.mem_filterMap, List.mem_range]; exact ⟨j, by omega, by rw [hdd j (by omega), hjt]⟩
        rw [List.contains_iff_mem.2 this] at hs2; cases hs2
    · rw [hei0] at hx3
      rcases hs2 with ⟨j', hj', hj'm, hj't⟩ | hs2
      · exfalso
        have h5 : j' < i := hdep i (by omega) j' hj'
        exact hne j' h5 (by simp [dd, hj't])
      · refine h3 t x hx3 fun j hj e => ?_
        have : t ∈ dsts ops m := by simp only [dsts, List.mem_filterMap, List.mem_range]; exact ⟨j, hj, by rw [hdd j hj, e]⟩
        rw [List.contains_iff_mem.2 this] at hs2; cases hs2
  have hend : ∀ (A : Array Bool) (a : Act), Inv A a → (∀ i, i < m → A.getD i false = true) → AtE N D (ei m) a := by
    intro A a hI hall
    obtain ⟨h1, h2, h3, h4⟩ := hI
    refine ⟨h1, h2, fun t x hx => ?_⟩
    rcases look_ei (V := V) hnext m (Nat.le_refl _) t x hx with ⟨j, hj, rfl, rfl⟩ | ⟨hx3, hne⟩
    · exact h4 j hj (hall j hj)
    · rw [hei0] at hx3; exact h3 t x hx3 hne
  have hfin : ∀ (A : Array Bool), A.size = ops.size → (∀ i, i < ops.size → A.getD i false = true) → ∀ fuel t, Region.linearise.go .any ops fuel t A [] = [] := by
    intro A hA hall fuel t
    cases fuel with
    | zero => rfl
    | succ fuel =>
      rcases go_next (ops := ops) (fuel := fuel) (t := t) (listed := A) with ⟨_, h⟩ | ⟨i, t', h, _⟩
      · exact h
      · obtain ⟨h1, h2, _⟩ := (ready_iff hA).1 h
        rw [hall i h1] at h2; cases h2
  have main' : ∀ (fuel t : Nat) (A : Array Bool) (a : Act) (w : World), A.size = ops.size → unl ops.size A ≤ fuel → (∀ i, A.getD i false = true → ∀ j ∈ bdeps ops i, A.getD j false = true) → (m ≠ ops.size → A.getD m false = false) → Inv A a → LikeW v w →
      Hold P main S Stop (G (b.at a (.inRegion ops (Region.linearise.go .any ops fuel t A []) :: k)) cs) w := by
    intro fuel
    induction fuel with
    | zero =>
      intro t A a w hA hu hdn hmm hI hw
      have hall : ∀ i, i < ops.size → A.getD i false = true := by
        intro i hi
        have h0 : unl ops.size A = 0 := by omega
        unfold unl at h0
        rw [List.countP_eq_zero] at h0
        simpa using h0 i (by simpa using hi)
      have hmz : m = ops.size := by
        apply Classical.byContradiction
        intro hne
        have := hmm hne
        rw [hall m (by omega)] at this; cases this
      have := H _ a hK (hend A a hI fun i hi => hall i (by omega))
      rw [if_pos hmz] at this
      exact this.of_like hw.1 hw.2.1 hw.2.2
    | succ fuel ih =>
      intro t A a w hA hu hdn hmm hI hw
      rcases go_next (ops := ops) (fuel := fuel) (t := t) (listed := A) with ⟨hr, h⟩ | ⟨i, t', hr, h⟩
      · rw [h]
        have hall : ∀ n i, i ≤ n → i < ops.size → A.getD i false = true := by
          intro n
          induction n with
          | zero =>
            intro i hi hlt
            obtain rfl : i = 0 := by omega
            apply Classical.byContradiction
            intro hne
            have : 0 ∈ Region.ready .any ops A := (ready_iff hA).2 ⟨hlt, by simpa using hne, fun j hj => by have := hdep 0 hlt j hj; omega⟩
            rw [hr] at this; cases this
          | succ n ihn =>
            intro i hi hlt
            apply Classical.byContradiction
            intro hne
            have : i ∈ Region.ready .any ops A := (ready_iff hA).2 ⟨hlt, by simpa using hne, fun j hj => by
              have := hdep i hlt j hj
              exact ihn j (by omega) (by omega)⟩
            rw [hr] at this; cases this
        have hall' : ∀ i, i < ops.size → A.getD i false = true := fun i hi => hall i i (Nat.le_refl _) hi
        have hmz : m = ops.size := by
          apply Classical.byContradiction
          intro hne
          have := hmm hne
          rw [hall' m (by omega)] at this; cases this
        have := H _ a hK (hend A a hI fun i hi => hall' i (by omega))
        rw [if_pos hmz] at this
        exact this.of_like hw.1 hw.2.1 hw.2.2
      · obtain ⟨hi, hni, hdeps⟩ := (ready_iff hA).1 hr
        rw [h]
        by_cases him : i < m
        · obtain ⟨o, d, ho, hod, hch⟩ := hop i him
          have hdi : dd i = d := by simp [dd, ho, hod]
          have hunl : unl ops.size (A.setIfInBounds i true) ≤ fuel := by
            have : unl ops.size (A.setIfInBounds i true) < unl ops.size A := by
              unfold unl
              refine countP_lt _ i (fun x hx => ?_) (by simpa using hi) (by simp [hni]) (by simp [getD_set (show i < A.size by omega)])
              rw [getD_set (by omega)] at hx
              by_cases e : x = i
              · subst e; simp [hni]
              · rw [if_neg e] at hx; exact hx
            omega
          have hdn' : ∀ j, (A.setIfInBounds i true).getD j false = true → ∀ l ∈ bdeps ops j, (A.setIfInBounds i true).getD l false = true := by
            intro j hj l hl'
            rw [getD_set (by omega)] at hj ⊢
            split
            · rfl
            · split at hj
              · rename_i e; subst e; exact hdeps l hl'
              · exact hdn j hj l hl'
          have hmm' : m ≠ ops.size → (A.setIfInBounds i true).getD m false = false := fun hne => by
            rw [getD_set (by omega), if_neg (by omega)]; exact hmm hne
          have go1 : ∀ w', LikeW v w' → Hold P main S Stop (G (b.at (a.put o.dst (ys i)) (.inRegion ops (Region.linearise.go .any ops fuel t' (A.setIfInBounds i true) []) :: k)) cs) w' := fun w' hw' => by
            rw [hod, ← hdi]
            exact ih t' _ _ w' (by simpa using hA) hunl hdn' hmm' (hput A a i hI him (by omega)) hw'
          have hre := hrestr A a i o hI him ho hdeps
          have doit : Region.wanted o (yielded ops a.tmps) = true → Does1 P L (restr (ei i) o.op) o.op v (ys i) → Hold P main S Stop (G (b.at a (.inRegion ops (i :: Region.linearise.go .any ops fuel t' (A.setIfInBounds i true) []) :: k)) cs) w := by
            intro hwant hdo
            have : Hold P main S Stop (G (b.at a (.inRegion ops (i :: Region.linearise.go .any ops fuel t' (A.setIfInBounds i true) []) :: k)) cs) v := by
              cases hdo with
              | run hok hrun => exact hold_pure' hL.2 hb ho hwant hok (fun t d => hrun _ o (fun q z hz => hre.eval hz) rfl t d) (go1 v ⟨rfl, rfl, rfl⟩)
              | call hok f args hrun fn hf hres hbody hbw =>
                refine hold_enter' hL.2 hb ho hwant hok (fun t d => hrun _ o (fun q z hz => hre.eval hz) rfl t d) (hold_callee hL hf hres hbody hv hbw fun x w' hx _ => ?_)
                obtain ⟨rfl, hw'⟩ := hx
                rw [fin_at ho]
                exact go1 w' hw'
            exact this.of_like hw.1 hw.2.1 hw.2.2
          cases hgd : o.guard with
          | none => exact doit (wanted_of hgd _) (hch.go.2 hgd)
          | some gw =>
            obtain ⟨g, w0⟩ := gw
            obtain ⟨dg, bv, g1, g2, g3, g4⟩ := hch.go.1 g w0 hgd
            have hs := hops i him
            rw [ho] at hs
            simp only [hgd, Bool.and_eq_true, decide_eq_true_eq] at hs
            have hgm := hs.2.2
            have hgl : A.getD g false = true := hdeps g (by simpa using hs.2.1)
            have hgd' : dd g = dg := by
              have := hdd g hgm
              rw [← hl, List.getElem?_map, Array.getElem?_toList] at g1
              cases hog : ops[g]? with
              | none => rw [hog] at g1; cases g1
              | some og => rw [hog] at g1 this; simp only [Option.map_some, Option.bind_some, view] at g1 this; rw [g1] at this; exact (Option.some.inj this).symm
            have hyg : ys g = .bool bv := by
              have hgi : g < i := hdep i (by omega) g (by simpa using hs.2.1)
              rcases look_ei (V := V) hnext i (by omega) dg _ g2 with ⟨j, hj, hjt, hx⟩ | ⟨_, hne⟩
              · have : j = g := hinj j g (by omega) hgm (hjt.trans hgd'.symm)
                subst this; exact hx.symm
              · exact absurd hgd' (hne g hgi)
            have hyl : yielded ops a.tmps g = some bv := by
              unfold yielded
              rw [hdd g hgm]
              simp only [Option.bind_some]
              rw [hI.2.2.2 g hgm hgl, hyg]
            by_cases hbw : bv = w0
            · exact doit (by simp [Region.wanted, hgd, hyl, hbw]) (g3 hbw)
            · have hy : ys i = undef := g4 (by cases bv <;> cases w0 <;> simp_all)
              refine hold_same rfl (fun w1 => stepG_idle (by simp [ho, Region.wanted, hgd, hyl, hbw])) ?_
              have := go1 w hw
              rw [hy] at this
              rw [ho]
              exact this
        · -- the last one
          have hlst : m + 1 = ops.size ∧ ∀ x, x < m → x ∈ closure ops ops.size [m] := by
            simp only [Bool.or_eq_true, beq_iff_eq, Bool.and_eq_true, List.all_eq_true, List.mem_range] at hlast
            rcases hlast with h | ⟨h1, h2⟩
            · omega
            · exact ⟨h1, fun x hx => by simpa using h2 x hx⟩
          obtain rfl : i = m := by omega
          have hall : ∀ x, x < i → A.getD x false = true := fun x hx => by
            rcases closure_listed (ops := ops) (A := A) (m := i) (fun y hy j hj => by
              rcases hy with hy | rfl
              · exact hdn y hy j hj
              · exact hdeps j hj) ops.size [i] (fun y hy => .inr (by simpa using hy)) x (hlst.2 x hx) with h | h
            · exact h
            · omega
          have := H _ a hK (hend A a hI hall)
          rw [if_neg (by omega)] at this
          rw [hfin _ (by simpa using hA) (fun x hx => by
            rw [getD_set (by omega)]
            split
            · rfl
            · exact hall x (by omega))]
          exact this.of_like hw.1 hw.2.1 hw.2.2
  have h0 : ∀ i, (Array.replicate ops.size false).getD i false = false := fun i => by
    simp only [Array.getD_eq_getD_getElem?]
    by_cases h : i < ops.size <;> simp [h]
  exact main' ops.size t _ a v (by simp) (by unfold unl; exact Nat.le_trans List.countP_le_length (by simp)) (fun i hi => by rw [h0] at hi; cases hi) (fun _ => h0 m) ⟨hat.defers, hat.size, fun t x hx _ => hat.val t x hx, fun i _ hi => by rw [h0] at hi; cases hi⟩ ⟨rfl, rfl, rfl⟩
end
end Go.Proofs.Ytecdiejeofclaaa

