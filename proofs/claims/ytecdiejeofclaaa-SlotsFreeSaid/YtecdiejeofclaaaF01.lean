/- Joined texts: InfA InfB InfC InfD. -/
import Derived.Conc.Token
import Derived.Conc.TokenWalk
set_option linter.all false
/- Infrastructure A: a Sem that is 'Tame' (it touches rows of cells alone, draws, makes memory; no marks but two) goes alike in two worlds whose heaps agree but for frozen marks, whose tapes agree where they are asked. -/
namespace Go.Proofs.Ytecdiejeofclaaa
open Go Go.Conc
def rworld {α : Type} : Result α → World
  | .ok _ w => w
  | .halt _ w => w
/-- The still places, as locations. -/
def StillOf (S : Addr → Prop) : Loc → Prop := fun l => ∃ a, l = .cell a ∧ S a
/-- Two blocks: alike but for the frozen range (E: to the letter). -/
def BSim (E : Bool) : Option Obj → Option Obj → Prop
  | some (.cells c e f), some (.cells c' e' f') => c = c' ∧ e = e' ∧ (if E = true then f = f' else ∀ i, f'.1 ≤ i → i < f'.2 → f.1 ≤ i ∧ i < f.2)
  | some (.deferred none), some (.pending _ _) => E = false
  | x, y => x = y
structure Sim (E : Bool) (S : Addr → Prop) (v w : World) : Prop where
  os : v.os = w.os
  output : v.output = w.output
  size : v.heap.size = w.heap.size
  block : ∀ b : Nat, BSim E v.heap[b]? w.heap[b]?
  still : ∀ a, S a → a.spot = none ∧ v.frozen? a = true ∧ ∃ x, v.cell? a = some x
  ready : ∀ (b : Nat) c e, v.heap[b]? ≠ some (.pending c e)
theorem BSim.refl (E : Bool) : ∀ x, BSim E x x := by
  intro x
  cases x with
  | none => rfl
  | some o => cases o with
    | cells c e f =>
      refine ⟨rfl, rfl, ?_⟩
      cases E with
      | true => simp
      | false => simp only [Bool.false_eq_true, if_false]; exact fun i h1 h2 => ⟨h1, h2⟩
    | deferred d => cases d <;> rfl
    | _ => rfl
theorem bsim_cases {E : Bool} {x y : Option Obj} (h : BSim E x y) :
    (∃ c e f f', x = some (.cells c e f) ∧ y = some (.cells c e f') ∧ (if E = true then f = f' else ∀ i, f'.1 ≤ i → i < f'.2 → f.1 ≤ i ∧ i < f.2)) ∨ (x = y ∧ ∀ c e f, x ≠ some (.cells c e f)) ∨
      (E = false ∧ x = some (.deferred none) ∧ ∃ c e, y = some (.pending c e)) := by
  cases x with
  | none => exact .inr (.inl ⟨h, by simp⟩)
  | some o => cases y with
    | none =>
      cases o with
      | deferred d => cases d <;> cases h
      | _ => cases h
    | some o' =>
      cases o with
      | cells c e f => cases o' with
        | cells c' e' f' => obtain ⟨rfl, rfl, h3⟩ := h; exact .inl ⟨c, e, f, f', rfl, rfl, h3⟩
        | _ => cases h
      | deferred d => cases d with
        | none => cases o' with
          | pending c e => exact .inr (.inr ⟨h, rfl, c, e, rfl⟩)
          | _ => first | exact .inr (.inl ⟨h, by simp⟩) | cases h
        | some d => cases o' <;> first | exact .inr (.inl ⟨h, by simp⟩) | cases h
      | _ => cases o' <;> first | exact .inr (.inl ⟨h, by simp⟩) | cases h
theorem bsim_eq {x y : Option Obj} (h : BSim true x y) : x = y := by
  rcases bsim_cases h with ⟨c, e, f, f', rfl, rfl, h3⟩ | ⟨rfl, _⟩ | ⟨h, _⟩
  · simp at h3; rw [h3]
  · rfl
  · cases h
section
variable {E : Bool} {S : Addr → Prop} {v w : World} {P : Program}
theorem Sim.cell (h : Sim E S v w) (a : Addr) : v.cell? a = w.cell? a := by
  unfold World.cell?
  rcases bsim_cases (h.block a.block) with ⟨c, e, f, f', h1, h2, _⟩ | ⟨h1, _⟩ | h1
  · rw [h1, h2]
  · rw [h1]
  · obtain ⟨_, h1, c, e, h2⟩ := h1; rw [h1, h2]
theorem Sim.shape (h : Sim E S v w) (r : Nat) : v.shape? r = w.shape? r := by
  unfold World.shape?
  rcases bsim_cases (h.block r) with ⟨c, e, f, f', h1, h2, _⟩ | ⟨h1, _⟩ | ⟨_, h1, c, e, h2⟩
  · rw [h1, h2]
  · rw [h1]
  · rw [h1, h2]
theorem Sim.frozen (h : Sim E S v w) {a : Addr} (hf : v.frozen? a = false) : w.frozen? a = false := by
  unfold World.frozen? at hf ⊢
  rcases bsim_cases (h.block a.block) with ⟨c, e, f, f', h1, h2, h3⟩ | ⟨h1, _⟩ | ⟨_, h1, c, e, h2⟩
  · rw [h1] at hf
    rw [h2]
    cases E with
    | true => simp only [if_true] at h3; subst h3; exact hf
    | false =>
      simp only [Bool.false_eq_true, if_false] at h3
      have h4 := h3 a.off
      simp only [Bool.and_eq_false_iff, decide_eq_false_iff_not] at hf ⊢
      omega
  · rw [← h1]; exact hf
  · rw [h2]
theorem cell_low {a : Addr} {x : Value} (h : w.cell? a = some x) : a.block < w.heap.size := by
  unfold World.cell? at h
  cases hb : w.heap[a.block]? with
  | none => rw [hb] at h; cases h
  | some o => exact (Array.getElem?_eq_some_iff.1 hb).1
/-- What the still places ask, in one world. -/
theorem Sim.refl (hS : ∀ a, S a → a.spot = none ∧ v.frozen? a = true ∧ ∃ x, v.cell? a = some x) (hR : ∀ (b : Nat) c e, v.heap[b]? ≠ some (.pending c e)) : Sim E S v v := ⟨rfl, rfl, rfl, fun _ => BSim.refl _ _, hS, hR⟩
end
/-- A block of cells keeps its type, and what of it is still; the outside stands. -/
structure Shape (w w' : World) : Prop where
  block : ∀ (b : Nat) (c : Array Value) (e : TypeId) (f : Nat × Nat), w.heap[b]? = some (.cells c e f) → ∃ c', w'.heap[b]? = some (.cells c' e f)
  os : w'.os = w.os
  output : w'.output = w.output
  tape : w'.tape = w.tape
  pend : ∀ (b : Nat) (o : Obj), w.heap[b]? = some o → (∀ c e f, o ≠ .cells c e f) → (∀ cap buf cl x y tm, o ≠ .chan cap buf cl x y tm) → w'.heap[b]? = some o
theorem Shape.refl (w : World) : Shape w w := ⟨fun _ c _ _ h => ⟨c, h⟩, rfl, rfl, rfl, fun _ _ h _ _ => h⟩
theorem Shape.trans {a b c : World} (h : Shape a b) (k : Shape b c) : Shape a c := ⟨fun x c0 e f hx => by
  obtain ⟨c1, h1⟩ := h.block x c0 e f hx
  exact k.block x c1 e f h1, k.os.trans h.os, k.output.trans h.output, k.tape.trans h.tape, fun b o hb h1 h2 => k.pend b o (h.pend b o hb h1 h2) h1 h2⟩
/-- Ahead of it and behind it: what is kept. -/
structure Kept (S : Addr → Prop) (w w' : World) : Prop where
  size : w.heap.size ≤ w'.heap.size
  other : ∀ (b : Nat) (o : Obj), w.heap[b]? = some o → (∀ c e f, o ≠ .cells c e f) → w'.heap[b]? = some o
  still : ∀ a, S a → w'.cell? a = w.cell? a
  tape : w'.tape = w.tape
  drawn : w.drawn ≤ w'.drawn
  shape : Shape w w'
theorem Kept.refl (S : Addr → Prop) (w : World) : Kept S w w := ⟨Nat.le_refl _, fun _ _ h _ => h, fun _ _ => rfl, rfl, Nat.le_refl _, Shape.refl _⟩
theorem Kept.trans {S : Addr → Prop} {a b c : World} (h : Kept S a b) (k : Kept S b c) : Kept S a c :=
  ⟨Nat.le_trans h.size k.size, fun x o hx ho => k.other x o (h.other x o hx ho) ho, fun x hx => (k.still x hx).trans (h.still x hx), k.tape.trans h.tape, Nat.le_trans h.drawn k.drawn, h.shape.trans k.shape⟩
/-- The ways in which a Tame run may stop. -/
def HaltOk : Halt → Prop
  | .panic _ | .stuck _ => True
  | .unsupported (.initOrder _) => False
  | .unsupported _ => True
  | _ => False
inductive Tame (P : Program) {α : Type} (ok : α → Prop) : Sem α → Prop
  | pure (a : α) (h : ok a) : Tame P ok (.pure a)
  | load (m : Mode) (a : Addr) (k : Value → Sem α) (h : ∀ x, Tame P ok (k x)) : Tame P ok (.load m a k)
  | store (m : Mode) (a : Addr) (x : Value) (k : Sem α) (h : Tame P ok k) : Tame P ok (.store m a x k)
  | new (o : Obj) (k : Nat → Sem α) (ho : ∀ c e, o ≠ .pending c e) (h : ∀ r, Tame P ok (k r)) : Tame P ok (.new o k)
  | shape (r : Nat) (k : Option (TypeId × Nat) → Sem α) (h : ∀ r, Tame P ok (k r)) : Tame P ok (.shape r k)
  | getObj (r : Nat) (k : Obj → Sem α) (hp : ∀ c e, k (.pending c e) = k (.deferred none)) (h : ∀ o, Tame P ok (k o)) : Tame P ok (.getObj r k)
  | choose (q : Question) (k : Nat → Sem α) (h : ∀ n, Tame P ok (k n)) : Tame P ok (.choose q k)
  | program (k : Program → Sem α) (h : Tame P ok (k P)) : Tame P ok (.program k)
  | noRoom (k : Sem α) (h : Tame P ok k) : Tame P ok (.mark .noRoom k)
  | extern (f : FuncId) (k : Sem α) (h : Tame P ok k) : Tame P ok (.mark (.extern f) k)
  | frozen (a : Addr) (k : Bool → Sem α) (h1 : ∀ w, ∃ x w', HaltOk x ∧ (k true).run P w = .halt x w') (h0 : Tame P ok (k false)) : Tame P ok (.frozen a k)
  | doomed (s : Sem α) (h : ∀ w, ∃ x w', HaltOk x ∧ s.run P w = .halt x w') : Tame P ok s
theorem Tame.mono {P : Program} {α : Type} {ok ok' : α → Prop} (hok : ∀ a, ok a → ok' a) {s : Sem α} (h : Tame P ok s) : Tame P ok' s := by
  induction h with
  | pure a h => exact .pure a (hok a h)
  | load m a k _ ih => exact .load m a k ih
  | store m a x k _ ih => exact .store m a x k ih
  | new o k ho _ ih => exact .new o k ho ih
  | shape r k _ ih => exact .shape r k ih
  | getObj r k hp _ ih => exact .getObj r k hp ih
  | choose q k _ ih => exact .choose q k ih
  | program k _ ih => exact .program k ih
  | noRoom k _ ih => exact .noRoom k ih
  | extern f k _ ih => exact .extern f k ih
  | frozen a k h1 _ ih => exact .frozen a k h1 ih
  | doomed s h => exact .doomed s h
theorem Tame.bind {P : Program} {α β : Type} {ok : α → Prop} {ok' : β → Prop} {s : Sem α} {f : α → Sem β} (h : Tame P ok s) (hf : ∀ a, ok a → Tame P ok' (f a)) : Tame P ok' (s.bind f) := by
  induction h with
  | pure a h => exact hf a h
  | load m a k _ ih => exact .load m a _ ih
  | store m a x k _ ih => exact .store m a x _ ih
  | new o k ho _ ih => exact .new o _ ho ih
  | shape r k _ ih => exact .shape r _ ih
  | getObj r k hp _ ih => exact .getObj r _ (fun c e => by rw [hp]) ih
  | choose q k _ ih => exact .choose q _ ih
  | program k _ ih => exact .program _ ih
  | noRoom k _ ih => exact .noRoom _ ih
  | extern f k _ ih => exact .extern f _ ih
  | frozen a k h1 _ ih =>
    refine .frozen a _ (fun w => ?_) ih
    obtain ⟨x, w', hk, hx⟩ := h1 w
    exact ⟨x, w', hk, by rw [Sem.run_bind', hx]; rfl⟩
  | doomed s h =>
    refine .doomed _ fun w => ?_
    obtain ⟨x, w', hk, hx⟩ := h w
    exact ⟨x, w', hk, by rw [Sem.run_bind', hx]; rfl⟩
def setF (a : Addr) (x : Value) : Obj → Obj
  | .cells c elem frozen => .cells (if a.spot.isSome then c else c.setIfInBounds a.off x) elem frozen
  | o => o
theorem setCell_get (w : World) (a : Addr) (x : Value) (b : Nat) : (w.setCell a x).heap[b]? = if b = a.block then (w.heap[b]?).map (setF a x) else w.heap[b]? := by
  have h1 : (w.setCell a x).heap = w.heap.modify a.block (setF a x) := by
    have key : ∀ f g : Obj → Obj, (∀ o, f o = g o) → w.heap.modify a.block f = w.heap.modify a.block g := fun f g h => by rw [funext h]
    unfold World.setCell
    dsimp only
    refine key _ _ fun o => ?_
    cases o <;> rfl
  rw [h1, Array.getElem?_modify]
  by_cases h : a.block = b
  · subst h; simp
  · simp [h, Ne.symm h]
section
variable {E : Bool} {S : Addr → Prop} {P : Program}
theorem Sim.setCell {v w : World} (h : Sim E S v w) (a : Addr) (x : Value) : Sim E S (v.setCell a x) (w.setCell a x) := by
  refine ⟨h.os, h.output, by simp [World.setCell, h.size], fun b => ?_, fun s hs => ?_, fun b c e => ?_⟩
  · rw [setCell_get, setCell_get]
    by_cases hb : b = a.block
    · simp only [hb, if_true]
      rcases bsim_cases (h.block a.block) with ⟨c, e, f, f', h1, h2, h3⟩ | ⟨h1, h2⟩ | ⟨h3, h1, c, e, h2⟩
      · rw [h1, h2]; exact ⟨rfl, rfl, h3⟩
      · rw [h1]; exact BSim.refl _ _
      · rw [h1, h2]; exact h3
    · simp only [hb, if_false]; exact h.block b
  · obtain ⟨h0, h1, y, h2⟩ := h.still s hs
    refine ⟨h0, ?_, ?_⟩
    · unfold World.frozen? at h1 ⊢
      rw [setCell_get]
      by_cases hb : s.block = a.block
      · simp only [hb, if_true]
        rw [hb] at h1
        cases ho : v.heap[a.block]? with
        | none => rw [ho] at h1; cases h1
        | some o => rw [ho] at h1; cases o <;> first | exact h1 | cases h1
      · simp only [hb, if_false]; exact h1
    · unfold World.cell? at h2 ⊢
      rw [setCell_get]
      by_cases hb : s.block = a.block
      · simp only [hb, if_true]
        rw [hb] at h2
        cases ho : v.heap[a.block]? with
        | none => rw [ho] at h2; cases h2
        | some o =>
          rw [ho] at h2
          cases o with
          | cells c e f =>
            simp only [h0, Option.isSome_none, Bool.false_eq_true, if_false, Option.map_some, setF] at h2 ⊢
            obtain ⟨hlt, _⟩ := Array.getElem?_eq_some_iff.1 h2
            by_cases hsp : a.spot.isSome = true
            · simp only [hsp, if_true]; exact ⟨y, h2⟩
            · simp only [hsp, if_false, Bool.false_eq_true]
              exact ⟨_, Array.getElem?_eq_getElem (by simpa using hlt)⟩
          | _ => cases h2
      · simp only [hb, if_false]; exact ⟨y, h2⟩
  · rw [setCell_get]
    by_cases hb : b = a.block
    · simp only [hb, if_true]
      have := h.ready a.block
      cases ho : v.heap[a.block]? with
      | none => simp
      | some o => rw [ho] at this; cases o <;> simp_all [setF]
    · simp only [hb, if_false]; exact h.ready b c e
theorem setCell_cell_ne {w : World} {a s : Addr} {x : Value} (hne : ¬ (s.block = a.block ∧ s.off = a.off)) : (w.setCell a x).cell? s = w.cell? s := by
  unfold World.cell?
  rw [setCell_get]
  by_cases hb : s.block = a.block
  · simp only [hb, if_true]
    cases ho : w.heap[a.block]? with
    | none => rfl
    | some o =>
      cases o with
      | cells c e f =>
        simp only [Option.map_some, setF]
        by_cases hs : s.spot.isSome = true
        · simp [hs]
        · simp only [hs, if_false, Bool.false_eq_true]
          by_cases hsp : a.spot.isSome = true
          · simp [hsp]
          · simp only [hsp, if_false, Bool.false_eq_true]
            exact Array.getElem?_setIfInBounds_ne (fun e => hne ⟨hb, e.symm⟩)
      | _ => rfl
  · simp only [hb, if_false]
theorem Kept.setCell {w : World} {a : Addr} (x : Value) (ha : ∀ s, S s → ¬ (s.block = a.block ∧ s.off = a.off)) : Kept S w (w.setCell a x) := by
  refine ⟨by simp [World.setCell], fun b o hb ho => ?_, fun s hs => setCell_cell_ne (ha s hs), rfl, Nat.le_refl _, ⟨fun b c e f hb => ?_, rfl, rfl, rfl, fun b o hb ho _ => ?_⟩⟩
  · rw [setCell_get]
    by_cases h : b = a.block
    · subst h
      simp only [if_true, hb, Option.map_some]
      cases o with
      | cells c e f => exact absurd rfl (ho c e f)
      | _ => rfl
    · simp only [h, if_false]; exact hb
  · rw [setCell_get]
    by_cases h : b = a.block
    · subst h
      simp only [if_true, hb, Option.map_some, setF]
      exact ⟨_, rfl⟩
    · simp only [h, if_false]; exact ⟨c, hb⟩
  · rw [setCell_get]
    by_cases h : b = a.block
    · subst h
      simp only [if_true, hb, Option.map_some]
      cases o with
      | cells c e f => exact absurd rfl (ho c e f)
      | _ => rfl
    · simp only [h, if_false]; exact hb
theorem still_ne {v : World} {a : Addr} (hS : ∀ s, S s → s.spot = none ∧ v.frozen? s = true ∧ ∃ x, v.cell? s = some x) (hf : v.frozen? a = false) : ∀ s, S s → ¬ (s.block = a.block ∧ s.off = a.off) := by
  intro s hs ⟨h1, h2⟩
  obtain ⟨_, h3, _⟩ := hS s hs
  unfold World.frozen? at h3 hf
  rw [h1, h2] at h3
  rw [h3] at hf
  cases hf
theorem push_get (w : World) (o : Obj) (b : Nat) : ({ w with heap := w.heap.push o } : World).heap[b]? = if b = w.heap.size then some o else w.heap[b]? := by
  simp only [Array.getElem?_push]
theorem Sim.push {v w : World} (h : Sim E S v w) (o : Obj) (hp : ∀ c e, o ≠ .pending c e) : Sim E S { v with heap := v.heap.push o } { w with heap := w.heap.push o } := by
  refine ⟨h.os, h.output, by simp [h.size], fun b => ?_, fun s hs => ?_, fun b c e => ?_⟩
  · rw [push_get, push_get, h.size]
    by_cases hb : b = w.heap.size
    · simp only [hb, if_true]; exact BSim.refl _ _
    · simp only [hb, if_false]; exact h.block b
  · obtain ⟨h0, h1, y, h2⟩ := h.still s hs
    have hlt := cell_low h2
    refine ⟨h0, ?_, y, ?_⟩
    · unfold World.frozen? at h1 ⊢; rw [push_get, if_neg (by omega)]; exact h1
    · unfold World.cell? at h2 ⊢; rw [push_get, if_neg (by omega)]; exact h2
  · rw [push_get]
    split
    · simpa using hp c e
    · exact h.ready b c e
theorem Kept.push {v w : World} (h : Sim E S v w) (o : Obj) : Kept S w { w with heap := w.heap.push o } := by
  refine ⟨by simp, fun b x hb _ => ?_, fun s hs => ?_, rfl, Nat.le_refl _, ⟨fun b c e f hb => ⟨c, ?_⟩, rfl, rfl, rfl, fun b o hb _ _ => ?_⟩⟩
  rotate_left 2
  · rw [push_get, if_neg (by have := (Array.getElem?_eq_some_iff.1 hb).1; omega)]; exact hb
  · rw [push_get, if_neg (by have := (Array.getElem?_eq_some_iff.1 hb).1; omega)]; exact hb
  · rw [push_get, if_neg (by have := (Array.getElem?_eq_some_iff.1 hb).1; omega)]; exact hb
  · obtain ⟨h0, h1, y, h2⟩ := h.still s hs
    rw [h.cell] at h2
    have hlt := cell_low h2
    unfold World.cell?; rw [push_get, if_neg (by omega)]
end
end Go.Proofs.Ytecdiejeofclaaa


/- Infrastructure B: the law of Tame runs ('tame_sim'): what runs in the one world runs alike in the other. -/
namespace Go.Proofs.Ytecdiejeofclaaa
open Go Go.Conc
section
variable {E : Bool} {S : Addr → Prop} {P : Program}
/-- 'seen' looks at one block alone. -/
theorem seen_block {v w : World} {at_ : Addr} {u : TypeId} {k : Addr} {m : Bool} {c c0 : Array Value} {e e0 : TypeId} {f f' fr : Nat × Nat} {first : Nat} {like : Value} {cells : List (Nat × Nat × List UInt8)}
    (h1 : v.heap[at_.block]? = some (.cells c e f)) (h2 : w.heap[at_.block]? = some (.cells c e f')) (h : v.seen P at_ u k m = .ok (c0, e0, fr, first, like, cells)) :
    c0 = c ∧ e0 = e ∧ fr = f ∧ w.seen P at_ u k m = .ok (c, e, f', first, like, cells) := by
  unfold World.seen at h ⊢
  rw [h1] at h
  rw [h2]
  simp only [bind, Except.bind, pure, Except.pure] at h ⊢
  repeat' (split at h <;> first | (cases h; done) | skip)
  all_goals (first | (simp only [Except.ok.injEq, Prod.mk.injEq] at h; obtain ⟨rfl, rfl, rfl, rfl, rfl, rfl⟩ := h; simp_all) | simp_all)
theorem seen_touch {w : World} {at_ : Addr} {u : TypeId} {k : Addr} {m : Bool} {c0 : Array Value} {e0 : TypeId} {fr : Nat × Nat} {first : Nat} {like : Value} {cells : List (Nat × Nat × List UInt8)}
    (h : w.seen P at_ u k m = .ok (c0, e0, fr, first, like, cells)) : ∃ c e f, w.heap[at_.block]? = some (.cells c e f) := by
  unfold World.seen at h
  simp only [bind, Except.bind, pure, Except.pure] at h
  repeat' (split at h <;> first | (cases h; done) | skip)
  all_goals exact ⟨_, _, _, ‹_›⟩
theorem Sim.seen {v w : World} (hs : Sim E S v w) {at_ : Addr} {u : TypeId} {k : Addr} {m : Bool} {c0 : Array Value} {e0 : TypeId} {fr : Nat × Nat} {first : Nat} {like : Value} {cells : List (Nat × Nat × List UInt8)}
    (h : v.seen P at_ u k m = .ok (c0, e0, fr, first, like, cells)) :
    ∃ f', v.heap[at_.block]? = some (.cells c0 e0 fr) ∧ w.heap[at_.block]? = some (.cells c0 e0 f') ∧ (if E = true then fr = f' else ∀ i, f'.1 ≤ i → i < f'.2 → fr.1 ≤ i ∧ i < fr.2) ∧ w.seen P at_ u k m = .ok (c0, e0, f', first, like, cells) := by
  obtain ⟨c, e, f, hb⟩ := seen_touch h
  rcases bsim_cases (hs.block at_.block) with ⟨c1, e1, f1, f', h1, h2, h3⟩ | ⟨_, h2⟩ | ⟨_, h2, _⟩
  · obtain ⟨rfl, rfl, rfl, h4⟩ := seen_block h1 h2 h
    exact ⟨f', h1, h2, h3, h4⟩
  · exact absurd hb (h2 _ _ _)
  · rw [h2] at hb; cases hb
theorem Sim.viewLoad {v w : World} (hs : Sim E S v w) {at_ : Addr} {u : TypeId} {k : Addr} {m : Bool} {x : Value} {l : List Addr} (h : v.viewLoad P at_ u k m = .ok (x, l)) :
    w.viewLoad P at_ u k m = .ok (x, l) ∧ ∀ t ∈ l, t.block < w.heap.size := by
  unfold World.viewLoad at h ⊢
  simp only [bind, Except.bind, pure, Except.pure] at h ⊢
  cases hv : v.seen P at_ u k m with
  | error y => rw [hv] at h; cases h
  | ok y =>
    obtain ⟨c0, e0, fr, first, like, cells⟩ := y
    obtain ⟨f', h1, h2, h3, h4⟩ := hs.seen hv
    rw [hv] at h
    rw [h4]
    simp only at h ⊢
    split at h
    · simp only [Except.ok.injEq, Prod.mk.injEq] at h
      obtain ⟨rfl, rfl⟩ := h
      refine ⟨by simp_all, fun t ht => ?_⟩
      simp only [List.mem_map] at ht
      obtain ⟨y, _, rfl⟩ := ht
      exact (Array.getElem?_eq_some_iff.1 h2).1
    · cases h
/-- Two rounds of a fold that go alike: so do the folds; 'I' is what each round keeps. -/
theorem foldlM_alike {γ δ : Type} (F F' : γ → δ → Except String γ) (I : γ → γ → Prop) (J : δ → Prop) (hr : ∀ c, I c c) (ht : ∀ a b c, I a b → I b c → I a c)
    (hF : ∀ c x c', F c x = .ok c' → F' c x = .ok c' ∧ I c c' ∧ J x) : ∀ (l : List δ) (c c' : γ), l.foldlM (m := Except String) F c = .ok c' → l.foldlM (m := Except String) F' c = .ok c' ∧ I c c' ∧ ∀ x ∈ l, J x
  | [], c, c', h => by
    simp only [List.foldlM_nil, pure, Except.pure, Except.ok.injEq] at h ⊢
    subst h
    exact ⟨rfl, hr _, by simp⟩
  | x :: l, c, c', h => by
    simp only [List.foldlM_cons, bind, Except.bind] at h ⊢
    cases hx : F c x with
    | error y => rw [hx] at h; cases h
    | ok c1 =>
      obtain ⟨g1, g2, g3⟩ := hF c x c1 hx
      rw [hx] at h
      rw [g1]
      obtain ⟨k1, k2, k3⟩ := foldlM_alike F F' I J hr ht hF l c1 c' h
      exact ⟨k1, ht _ _ _ g2 k2, by simpa using ⟨g3, k3⟩⟩
/-- One cell of a store through a view. -/
def vst (fr : Nat × Nat) (first : Nat) (bytes : List UInt8) (c : Array Value) (x : Nat × Nat × List UInt8) : Except String (Array Value) :=
  if (decide (x.2.1 < first) || decide (x.2.1 + x.2.2.length > first + bytes.length)) = true then .error "memory seen as another type: a part of a cell written"
  else if (decide (fr.1 ≤ x.1) && decide (x.1 < fr.2)) = true then .error "a write to bytes that a string shares"
  else match c[x.1]? with
    | some old => match old.ofBytes (List.take x.2.2.length (List.drop (x.2.1 - first) bytes)) with
      | some new => .ok (c.setIfInBounds x.1 new)
      | _ => .error "memory seen as another type: a bool from a byte other than 0 or 1"
    | _ => .error "memory seen as another type: no such cell"
theorem vst_alike {fr f' : Nat × Nat} (hf : ∀ i, f'.1 ≤ i → i < f'.2 → fr.1 ≤ i ∧ i < fr.2) {first : Nat} {bytes : List UInt8} {c c' : Array Value} {x : Nat × Nat × List UInt8} (h : vst fr first bytes c x = .ok c') :
    vst f' first bytes c x = .ok c' ∧ (c'.size = c.size ∧ ∀ i, fr.1 ≤ i → i < fr.2 → c'[i]? = c[i]?) ∧ ¬ (fr.1 ≤ x.1 ∧ x.1 < fr.2) := by
  unfold vst at h ⊢
  by_cases h1 : (decide (x.2.1 < first) || decide (x.2.1 + x.2.2.length > first + bytes.length)) = true
  · rw [if_pos h1] at h; cases h
  rw [if_neg h1] at h ⊢
  by_cases h2 : (decide (fr.1 ≤ x.1) && decide (x.1 < fr.2)) = true
  · rw [if_pos h2] at h; cases h
  rw [if_neg h2] at h
  simp only [Bool.and_eq_true, decide_eq_true_eq] at h2
  have h3 : ¬ (decide (f'.1 ≤ x.1) && decide (x.1 < f'.2)) = true := by
    simp only [Bool.and_eq_true, decide_eq_true_eq]
    exact fun ⟨a, b⟩ => h2 (hf _ a b)
  rw [if_neg h3]
  cases ho : c[x.1]? with
  | none => rw [ho] at h; cases h
  | some old =>
    rw [ho] at h
    simp only at h ⊢
    cases hn : old.ofBytes (List.take x.2.2.length (List.drop (x.2.1 - first) bytes)) with
    | none => rw [hn] at h; cases h
    | some new =>
      rw [hn] at h
      simp only [Except.ok.injEq] at h ⊢
      subst h
      refine ⟨rfl, ⟨by simp, fun i hi hj => Array.getElem?_setIfInBounds_ne (fun e => h2 (by rw [e]; exact ⟨hi, hj⟩))⟩, h2⟩
theorem setIf_get (w : World) (b : Nat) (o : Obj) (x : Nat) (hb : b < w.heap.size) : ({ w with heap := w.heap.setIfInBounds b o } : World).heap[x]? = if x = b then some o else w.heap[x]? := by
  show (w.heap.setIfInBounds b o)[x]? = _
  by_cases h : b = x
  · subst h; simp [hb]
  · rw [Array.getElem?_setIfInBounds_ne h, if_neg (fun e => h e.symm)]
theorem throw_error {γ : Type} (s : String) : (MonadExcept.throw s : Except String γ) = .error s := rfl
theorem Sim.viewStore {v w : World} (hs : Sim E S v w) {at_ : Addr} {u : TypeId} {k : Addr} {x : Value} {m : Bool} {v' : World} {l : List Addr} (h : v.viewStore P at_ u k x m = .ok (v', l)) :
    ∃ w', w.viewStore P at_ u k x m = .ok (w', l) ∧ Sim E S v' w' ∧ Kept S w w' ∧ v'.tape = v.tape ∧ v'.drawn = v.drawn ∧ w'.drawn = w.drawn ∧ (∀ t ∈ l, t.block < w'.heap.size ∧ ¬ S t) := by
  unfold World.viewStore at h ⊢
  simp only [bind, Except.bind, pure, Except.pure, throw_error] at h ⊢
  by_cases ht : tight P P.depth u = true
  case neg => simp [ht] at h
  simp only [ht, Bool.not_true, Bool.false_eq_true, if_false] at h ⊢
  cases hv : v.seen P at_ u k m with
  | error y => rw [hv] at h; cases h
  | ok y =>
    obtain ⟨c0, e0, fr, first, like, cells⟩ := y
    obtain ⟨f', h1, h2, h3, h4⟩ := hs.seen hv
    have h3' : ∀ i, f'.1 ≤ i → i < f'.2 → fr.1 ≤ i ∧ i < fr.2 := by
      cases E with
      | true => simp only [if_true] at h3; subst h3; exact fun i a b => ⟨a, b⟩
      | false => simpa using h3
    rw [hv] at h
    rw [h4]
    simp only at h ⊢
    cases hb : x.bytes? with
    | none => rw [hb] at h; cases h
    | some bytes =>
      rw [hb] at h
      simp only at h ⊢
      by_cases hz : some bytes.length ≠ Option.map (fun x => x.length) like.bytes?
      · simp [hz] at h
      simp only [hz, if_false] at h ⊢
      split at h
      · cases h
      rename_i c' heq
      simp only [Except.ok.injEq, Prod.mk.injEq] at h
      obtain ⟨rfl, rfl⟩ := h
      change List.foldlM (vst fr first bytes) c0 cells = .ok c' at heq
      obtain ⟨k1, ⟨k2, k3⟩, k4⟩ := foldlM_alike (vst fr first bytes) (vst f' first bytes) (fun a b : Array Value => b.size = a.size ∧ ∀ i, fr.1 ≤ i → i < fr.2 → b[i]? = a[i]?) (fun x : Nat × Nat × List UInt8 => ¬ (fr.1 ≤ x.1 ∧ x.1 < fr.2)) (fun _ => ⟨rfl, fun _ _ _ => rfl⟩)
        (fun a b c h1 h2 => ⟨h2.1.trans h1.1, fun i hi hj => (h2.2 i hi hj).trans (h1.2 i hi hj)⟩) (fun c x c' hx => vst_alike h3' hx) cells c0 c' heq
      have lv : at_.block < v.heap.size := (Array.getElem?_eq_some_iff.1 h1).1
      have lw : at_.block < w.heap.size := (Array.getElem?_eq_some_iff.1 h2).1
      refine ⟨{ w with heap := w.heap.setIfInBounds at_.block (.cells c' e0 f') }, ?_, ⟨hs.os, hs.output, by simp [hs.size], fun b => ?_, fun s hS => ?_, fun b c e => ?_⟩, ⟨by simp, fun b o hb ho => ?_, fun s hS => ?_, rfl, Nat.le_refl _, ⟨fun b c e f hb => ?_, rfl, rfl, rfl, fun b o hb ho _ => ?_⟩⟩, rfl, rfl, rfl, fun t ht => ?_⟩
      · split
        · rename_i he
          change List.foldlM (vst f' first bytes) c0 cells = _ at he
          rw [k1] at he; cases he
        · rename_i he
          change List.foldlM (vst f' first bytes) c0 cells = _ at he
          rw [k1] at he
          simp only [Except.ok.injEq] at he
          subst he; rfl
      · rw [setIf_get _ _ _ _ lv, setIf_get _ _ _ _ lw]
        by_cases hbb : b = at_.block
        · simp only [hbb, if_true]; exact ⟨rfl, rfl, h3⟩
        · simp only [hbb, if_false]; exact hs.block b
      · obtain ⟨s0, s1, y, s2⟩ := hs.still s hS
        unfold World.frozen? at s1 ⊢
        unfold World.cell? at s2 ⊢
        rw [setIf_get _ _ _ _ lv]
        by_cases hbb : s.block = at_.block
        · rw [hbb, h1] at s1 s2
          simp only [hbb, if_true]
          simp only [s0, Option.isSome_none, Bool.false_eq_true, if_false] at s2 ⊢
          exact ⟨trivial, s1, _, Array.getElem?_eq_getElem (by rw [k2]; exact (Array.getElem?_eq_some_iff.1 s2).1)⟩
        · simp only [hbb, if_false]; exact ⟨s0, s1, y, s2⟩
      · rw [setIf_get _ _ _ _ lv]
        split
        · simp
        · exact hs.ready b c e
      · rw [setIf_get _ _ _ _ lw, if_neg]
        · exact hb
        · rintro rfl; rw [h2] at hb; exact ho _ _ _ (Option.some.inj hb).symm
      · obtain ⟨s0, s1, y, s2⟩ := hs.still s hS
        unfold World.cell?
        rw [setIf_get _ _ _ _ lw]
        by_cases hbb : s.block = at_.block
        · unfold World.frozen? at s1
          rw [hbb, h1] at s1
          simp only [Bool.and_eq_true, decide_eq_true_eq] at s1
          simp only [hbb, if_true, h2, s0, Option.isSome_none, Bool.false_eq_true, if_false]
          exact k3 _ s1.1 s1.2
        · simp only [hbb, if_false]
      · rw [setIf_get _ _ _ _ lw]
        by_cases hbb : b = at_.block
        · rw [hbb, h2] at hb
          cases hb
          rw [if_pos hbb]
          exact ⟨_, rfl⟩
        · rw [if_neg hbb]; exact ⟨c, hb⟩
      · rw [setIf_get _ _ _ _ lw, if_neg]
        · exact hb
        · rintro rfl; rw [h2] at hb; exact ho _ _ _ (Option.some.inj hb).symm
      · simp only [List.mem_map] at ht
        obtain ⟨y, hy, rfl⟩ := ht
        refine ⟨by simpa using lw, fun hS => ?_⟩
        obtain ⟨s0, s1, _⟩ := hs.still _ hS
        unfold World.frozen? at s1
        simp only [h1, Bool.and_eq_true, decide_eq_true_eq] at s1
        exact k4 y hy s1
theorem Sim.farLoad {v w : World} (hs : Sim E S v w) {a : Addr} {m : Bool} {r : Value × List Addr} (h : v.farLoad P a m = .ok r) : w.farLoad P a m = .ok r ∧ ∀ t ∈ r.2, t.block < w.heap.size := by
  unfold World.farLoad at h ⊢
  rcases bsim_cases (hs.block a.block) with ⟨c, e, f, f', h1, h2, _⟩ | ⟨h1, _⟩ | ⟨_, h1, _⟩
  · rw [h1] at h; cases h
  · rw [← h1]
    cases hb : v.heap[a.block]? with
    | none => rw [hb] at h; cases h
    | some o =>
      rw [hb] at h
      cases o with
      | view at_ u =>
        simp only at h ⊢
        cases hv : v.viewLoad P at_ u a m with
        | error y => rw [hv] at h; cases h
        | ok y =>
          rw [hv] at h
          simp only [Except.ok.injEq] at h
          subst h
          obtain ⟨x, l⟩ := y
          obtain ⟨k1, k2⟩ := hs.viewLoad hv
          rw [k1]
          exact ⟨rfl, k2⟩
      | _ => cases h
  · rw [h1] at h; cases h
theorem Sim.farStore {v w : World} (hs : Sim E S v w) {a : Addr} {x : Value} {m : Bool} {v' : World} {l : List Addr} (h : v.farStore P a x m = .ok (v', l)) :
    ∃ w', w.farStore P a x m = .ok (w', l) ∧ Sim E S v' w' ∧ Kept S w w' ∧ v'.tape = v.tape ∧ v'.drawn = v.drawn ∧ w'.drawn = w.drawn ∧ (∀ t ∈ l, t.block < w'.heap.size ∧ ¬ S t) := by
  unfold World.farStore at h ⊢
  rcases bsim_cases (hs.block a.block) with ⟨c, e, f, f', h1, h2, _⟩ | ⟨h1, _⟩ | ⟨_, h1, _⟩
  · rw [h1] at h; cases h
  · rw [← h1]
    cases hb : v.heap[a.block]? with
    | none => rw [hb] at h; cases h
    | some o =>
      rw [hb] at h
      cases o with
      | view at_ u =>
        simp only at h ⊢
        cases hv : v.viewStore P at_ u a x m with
        | error y => rw [hv] at h; cases h
        | ok y =>
          rw [hv] at h
          simp only [Except.ok.injEq] at h
          subst h
          obtain ⟨w', k1, k2⟩ := hs.viewStore hv
          exact ⟨w', by rw [k1], k2⟩
      | _ => cases h
  · rw [h1] at h; cases h
theorem ask_drawn {α : Type} (a : Ask α) : ∀ w : World, w.drawn ≤ (w.ask a).2.drawn := by
  induction a with
  | done a => exact fun w => Nat.le_refl _
  | ask what range k ih =>
    intro w
    unfold World.ask
    simp only
    split
    · exact ih _ w
    · exact Nat.le_trans (Nat.le_succ _) (ih _ { w with drawn := w.drawn + 1 })
theorem sys_drawn (w : World) (c : Sys) : w.drawn ≤ (w.sys c).2.drawn := by
  unfold World.sys
  have := ask_drawn (Kernel.perform c w.os) w
  split
  · exact Nat.le_refl _
  · rename_i h; rw [h] at this; exact this
theorem viewStore_drawn {w w' : World} {at_ : Addr} {u : TypeId} {a : Addr} {x : Value} {m : Bool} {l : List Addr} (h : w.viewStore P at_ u a x m = .ok (w', l)) : w'.drawn = w.drawn := by
  unfold World.viewStore at h
  simp only [bind, Except.bind, pure, Except.pure, throw_error] at h
  repeat' (split at h <;> first | (cases h; done) | skip)
  all_goals (simp only [Except.ok.injEq, Prod.mk.injEq] at h; rw [← h.1])
theorem farStore_drawn {w w' : World} {a : Addr} {x : Value} {m : Bool} {l : List Addr} (h : w.farStore P a x m = .ok (w', l)) : w'.drawn = w.drawn := by
  unfold World.farStore at h
  split at h
  · split at h
    · rename_i hv; simp only [Except.ok.injEq] at h; subst h; exact viewStore_drawn hv
    · cases h
  · cases h
theorem run_drawn {α : Type} (s : Sem α) : ∀ w : World, w.drawn ≤ (rworld (s.run P w)).drawn := by
  induction s with
  | pure a => exact fun w => Nat.le_refl _
  | load m a k ih =>
    intro w
    simp only [Sem.run]
    cases w.cell? a with
    | some x => exact ih _ _
    | none =>
      simp only
      cases w.farLoad P a (m == .atomic) with
      | ok r => obtain ⟨x, l⟩ := r; exact ih _ _
      | error h => exact Nat.le_refl _
  | store m a x k ih =>
    intro w
    cases x <;> simp only [Sem.run] <;> first
      | exact Nat.le_refl _
      | (cases w.cell? a with
          | some y =>
            simp only
            split
            · exact Nat.le_refl _
            · exact ih (w.setCell a _)
          | none =>
            simp only
            cases hf : w.farStore P a _ (m == .atomic) with
            | ok r => obtain ⟨w', l⟩ := r; rw [← farStore_drawn hf]; exact ih _
            | error h => exact Nat.le_refl _)
  | new o k ih => intro w; exact ih _ { w with heap := w.heap.push o }
  | shape r k ih => exact fun w => ih _ w
  | freeze a n k ih =>
    intro w
    refine Nat.le_trans (Nat.le_of_eq ?_) (ih (w.freeze a n))
    unfold World.freeze; split <;> rfl
  | frozen a k ih => exact fun w => ih _ w
  | getObj r k ih =>
    intro w
    simp only [Sem.run]
    split
    · exact Nat.le_refl _
    · exact ih _ w
    · exact Nat.le_refl _
  | setObj r o k ih =>
    intro w
    simp only [Sem.run]
    split
    · exact Nat.le_refl _
    · exact ih { w with heap := w.heap.setIfInBounds r o }
    · exact Nat.le_refl _
  | choose q k ih =>
    intro w
    simp only [Sem.run]
    split
    · exact ih _ w
    · exact Nat.le_trans (Nat.le_succ _) (ih _ { w with drawn := w.drawn + 1 })
  | sys c k ih => exact fun w => Nat.le_trans (sys_drawn w c) (ih _ _)
  | program k ih => exact fun w => ih _ w
  | mark m k ih => exact fun w => ih w
  | halt h => exact fun w => Nat.le_refl _
/-- The two tapes answer alike, as far as c answers. -/
def Agree (v w : World) (c : Nat) : Prop := ∀ i, i < c → v.tape (v.drawn + i) = w.tape (w.drawn + i)
theorem evHd_cell {B : Nat} {a : Addr} {wr m : Bool} (hB : a.block < B) (hS : wr = true → ¬ S a) : EvHd (StillOf S) B ⟨.cell a, wr, m⟩ := by
  refine ⟨fun x hx hs => ?_, by simp, by simp, (by rw [show MemAct.ofEvent ⟨.cell a, wr, m⟩ = .access ⟨.cell a, wr, m⟩ from rfl]; exact hB)⟩
  rw [show MemAct.ofEvent ⟨.cell a, wr, m⟩ = .access ⟨.cell a, wr, m⟩ from rfl] at hx
  simp only [MemAct.touch?, Option.some.injEq] at hx
  subst hx
  obtain ⟨b, hb, hSb⟩ := hs
  simp only [Loc.cell.injEq] at hb
  subst hb
  cases wr with
  | false => rfl
  | true => exact absurd hSb (hS rfl)
theorem evHd_objRead {B r : Nat} {m : Bool} (hB : r < B) : EvHd (StillOf S) B ⟨.obj r, false, m⟩ :=
  ⟨fun x hx hs => (by
    obtain ⟨b, hb, _⟩ := hs
    cases m <;> simp only [MemAct.ofEvent, MemAct.touch?, Option.some.injEq] at hx <;> (subst hx; cases hb)), by simp, by simp, by cases m <;> exact hB⟩
theorem evHd_noRoom {B : Nat} : EvHd (StillOf S) B ⟨.mark .noRoom, false, true⟩ := ⟨fun x hx => by simp [MemAct.ofEvent, MemAct.touch?] at hx, by simp, by simp, trivial⟩
theorem evHd_extern {B : Nat} {f : FuncId} : EvHd (StillOf S) B ⟨.mark (.extern f), false, true⟩ := ⟨fun x hx => by simp [MemAct.ofEvent, MemAct.touch?] at hx, by simp, by simp, trivial⟩
theorem evHd_more {B B' : Nat} (h : B ≤ B') {e : Event} (he : EvHd (StillOf S) B e) : EvHd (StillOf S) B' e := ⟨he.1, he.2.1, he.2.2.1, MemAct.low_mono h he.2.2.2⟩
/-- What a Tame run does in the other world. -/
structure Alike {α : Type} (P : Program) (E : Bool) (S : Addr → Prop) (ok : α → Prop) (s : Sem α) (v w : World) (es : Array Event) (a : α) (v' : World) (w' : World) (new : Array Event) : Prop where
  run : s.runT P w es = (.ok a w', es ++ new)
  leaf : ok a
  sim : Sim E S v' w'
  kept : Kept S w w'
  tape : v'.tape = v.tape
  drawn : v'.drawn + w.drawn = w'.drawn + v.drawn
  evs : ∀ e ∈ new, EvHd (StillOf S) w'.heap.size e
theorem Alike.cons {α : Type} {ok : α → Prop} {s k : Sem α} {v v1 w w1 : World} {es es1 : Array Event} {a : α} {v' w' : World} {new : Array Event} (h : Alike P E S ok k v1 w1 (es ++ es1) a v' w' new) (hrun : s.runT P w es = k.runT P w1 (es ++ es1))
    (hk : Kept S w w1) (ht : v1.tape = v.tape) (hd : v1.drawn + w.drawn = w1.drawn + v.drawn) (he : ∀ e ∈ es1, EvHd (StillOf S) w1.heap.size e) : Alike P E S ok s v w es a v' w' (es1 ++ new) := by
  refine ⟨?_, h.leaf, h.sim, hk.trans h.kept, h.tape.trans ht, ?_, fun e hm => ?_⟩
  · rw [hrun, h.run, Array.append_assoc]
  · have := h.drawn; omega
  · rcases Array.mem_append.1 hm with hm | hm
    · exact evHd_more h.kept.size (he e hm)
    · exact h.evs e hm
theorem runT_run {α : Type} {s : Sem α} {w : World} {es : Array Event} : (s.runT P w es).1 = s.run P w := by rw [Sem.runT_fst]
theorem tame_sim {α : Type} {ok : α → Prop} {s : Sem α} (hT : Tame P ok s) : ∀ {v w : World} (es : Array Event) {a : α} {v' : World}, Sim E S v w → s.run P v = .ok a v' → Agree v w ((rworld (s.run P w)).drawn - w.drawn) → ∃ w' new, Alike P E S ok s v w es a v' w' new := by
  induction hT with
  | pure a h =>
    intro v w es a' v' hs hr _
    simp only [Sem.run, Result.ok.injEq] at hr
    obtain ⟨rfl, rfl⟩ := hr
    exact ⟨w, #[], by simp [Sem.runT], h, hs, Kept.refl _ _, rfl, by omega, by simp⟩
  | load m a k _ ih =>
    intro v w es a' v' hs hr hA
    simp only [Sem.run] at hr hA
    rw [hs.cell] at hr
    cases hc : w.cell? a with
    | some x =>
      rw [hc] at hr hA
      obtain ⟨w', new, h⟩ := ih x (es ++ #[⟨.cell a, false, m == .atomic⟩]) hs hr hA
      exact ⟨w', _, h.cons (by simp only [Sem.runT, hc, Array.append_singleton]) (Kept.refl _ _) rfl (Nat.add_comm _ _) (by simpa using evHd_cell (cell_low hc) (by simp))⟩
    | none =>
      rw [hc] at hr hA
      simp only at hr hA
      cases hf : v.farLoad P a (m == .atomic) with
      | error y => rw [hf] at hr; cases hr
      | ok r =>
        obtain ⟨h1, h2⟩ := hs.farLoad hf
        obtain ⟨x, l⟩ := r
        rw [hf] at hr
        rw [h1] at hA
        simp only at hr hA
        obtain ⟨w', new, h⟩ := ih x (es ++ l.toArray.map (⟨.cell ·, false, m == .atomic⟩)) hs hr hA
        refine ⟨w', _, h.cons (by simp only [Sem.runT, hc, h1]) (Kept.refl _ _) rfl (Nat.add_comm _ _) ?_⟩
        intro e he
        simp only [List.map_toArray, List.mem_toArray, List.mem_map] at he
        obtain ⟨t, ht, rfl⟩ := he
        exact evHd_cell (h2 t ht) (by simp)
  | store m a x k _ ih =>
    intro v w es a' v' hs hr hA
    have one : x.oneCell' = true := by
      cases x <;> first | rfl | (simp [Sem.run] at hr)
    have hr' : (match v.cell? a with
        | some _ => if v.frozen? a then Result.halt (.unsupported (.unsafePointer "a write to bytes that a string shares")) v else k.run P (v.setCell a x)
        | none => match v.farStore P a x (m == Mode.atomic) with
          | .ok (v1, _) => k.run P v1
          | .error h => .halt h v) = .ok a' v' := by
      cases x <;> first | (simp [Value.oneCell'] at one; done) | exact hr
    have hw : ((Sem.store m a x k).run P w) = (match w.cell? a with
        | some _ => if w.frozen? a then Result.halt (.unsupported (.unsafePointer "a write to bytes that a string shares")) w else k.run P (w.setCell a x)
        | none => match w.farStore P a x (m == Mode.atomic) with
          | .ok (w1, _) => k.run P w1
          | .error h => .halt h w) := by
      cases x <;> first | (simp [Value.oneCell'] at one; done) | rfl
    have hwT : ((Sem.store m a x k).runT P w es) = (match w.cell? a with
        | some _ => if w.frozen? a then (Result.halt (.unsupported (.unsafePointer "a write to bytes that a string shares")) w, es) else k.runT P (w.setCell a x) (es.push ⟨.cell a, true, m == Mode.atomic⟩)
        | none => match w.farStore P a x (m == Mode.atomic) with
          | .ok (w1, touched) => k.runT P w1 (es ++ touched.toArray.map (⟨.cell ·, true, m == Mode.atomic⟩))
          | .error h => (.halt h w, es)) := by
      cases x <;> first | (simp [Value.oneCell'] at one; done) | rfl
    rw [hw] at hA
    rw [hs.cell] at hr'
    cases hc : w.cell? a with
    | some y =>
      rw [hc] at hr' hA hwT
      simp only at hr' hA hwT
      by_cases hf : v.frozen? a = true
      · rw [if_pos hf] at hr'; cases hr'
      · have hf' : v.frozen? a = false := by simpa using hf
        have hfw := hs.frozen hf'
        rw [if_neg hf] at hr'
        rw [if_neg (by simp [hfw])] at hA hwT
        have hne := still_ne hs.still hf'
        obtain ⟨w', new, h⟩ := ih (es ++ #[⟨.cell a, true, m == .atomic⟩]) (hs.setCell a x) hr' hA
        refine ⟨w', _, h.cons (by rw [hwT, Array.append_singleton]) (Kept.setCell x hne) rfl (Nat.add_comm _ _) ?_⟩
        simp only [List.mem_toArray, List.mem_singleton, forall_eq]
        exact evHd_cell (by simpa [World.setCell] using cell_low hc) (fun _ hS => hne a hS ⟨rfl, rfl⟩)
    | none =>
      rw [hc] at hr' hA hwT
      simp only at hr' hA hwT
      cases hf : v.farStore P a x (m == .atomic) with
      | error y => rw [hf] at hr'; cases hr'
      | ok r =>
        obtain ⟨v1, l⟩ := r
        obtain ⟨w1, g1, g2, g3, g4, g5, g6, g7⟩ := hs.farStore hf
        rw [hf] at hr'
        rw [g1] at hA hwT
        simp only at hr' hA hwT
        obtain ⟨w', new, h⟩ := ih (es ++ l.toArray.map (⟨.cell ·, true, m == .atomic⟩)) g2 hr' (by unfold Agree at hA ⊢; rw [g4, g5, g6, g3.tape]; exact hA)
        refine ⟨w', _, h.cons (by rw [hwT]) g3 g4 (by omega) ?_⟩
        intro e he
        simp only [List.map_toArray, List.mem_toArray, List.mem_map] at he
        obtain ⟨t, ht, rfl⟩ := he
        exact evHd_cell (g7 t ht).1 (fun _ => (g7 t ht).2)
  | new o k ho _ ih =>
    intro v w es a' v' hs hr hA
    simp only [Sem.run] at hr hA
    rw [hs.size] at hr
    obtain ⟨w', new, h⟩ := ih w.heap.size (es ++ #[]) (hs.push o ho) hr hA
    exact ⟨w', _, h.cons (by simp only [Sem.runT, Array.append_empty]) (Kept.push hs o) rfl (Nat.add_comm _ _) (by simp)⟩
  | shape r k _ ih =>
    intro v w es a' v' hs hr hA
    simp only [Sem.run] at hr hA
    rw [hs.shape] at hr
    obtain ⟨w', new, h⟩ := ih _ (es ++ #[]) hs hr hA
    exact ⟨w', _, h.cons (by simp only [Sem.runT, Array.append_empty]) (Kept.refl _ _) rfl (Nat.add_comm _ _) (by simp)⟩
  | getObj r k hp _ ih =>
    intro v w es a' v' hs hr hA
    simp only [Sem.run] at hr hA
    rcases bsim_cases (hs.block r) with ⟨c, e, f, f', h1, h2, _⟩ | ⟨h1, h2⟩ | ⟨_, h1, c, e, h2⟩
    · rw [h1] at hr; cases hr
    · rw [← h1] at hA
      cases hb : v.heap[r]? with
      | none => rw [hb] at hr; cases hr
      | some o =>
        have hbw : w.heap[r]? = some o := by rw [← h1]; exact hb
        have hlt : r < w.heap.size := (Array.getElem?_eq_some_iff.1 hbw).1
        rw [hb] at hr hA
        cases o with
        | cells c e f => cases hr
        | _ =>
          simp only at hr hA
          obtain ⟨w', new, h⟩ := ih _ (es ++ #[⟨.obj r, false, _⟩]) hs hr hA
          exact ⟨w', _, h.cons (by simp only [Sem.runT, hbw, Array.append_singleton]; rfl) (Kept.refl _ _) rfl (Nat.add_comm _ _) (by simpa using evHd_objRead hlt)⟩
    · have hlt : r < w.heap.size := (Array.getElem?_eq_some_iff.1 h2).1
      rw [h1] at hr
      rw [h2] at hA
      simp only at hr hA
      rw [← hp c e] at hr
      obtain ⟨w', new, h⟩ := ih _ (es ++ #[⟨.obj r, false, _⟩]) hs hr hA
      exact ⟨w', _, h.cons (by simp only [Sem.runT, h2, Array.append_singleton]; rfl) (Kept.refl _ _) rfl (Nat.add_comm _ _) (by simpa using evHd_objRead hlt)⟩
  | choose q k _ ih =>
    intro v w es a' v' hs hr hA
    simp only [Sem.run] at hr hA
    by_cases hq : q.forced = true
    · rw [if_pos hq] at hr hA
      obtain ⟨w', new, h⟩ := ih 0 (es ++ #[]) hs hr hA
      exact ⟨w', _, h.cons (by simp only [Sem.runT, hq, if_true, Array.append_empty]) (Kept.refl _ _) rfl (Nat.add_comm _ _) (by simp)⟩
    · rw [if_neg hq] at hr hA
      have hm := run_drawn (P := P) (k (q.cut (w.tape w.drawn q))) { w with drawn := w.drawn + 1 }
      simp only at hm
      have h0 : v.tape v.drawn = w.tape w.drawn := by have := hA 0 (by omega); simpa using this
      rw [h0] at hr
      have hs' : Sim E S { v with drawn := v.drawn + 1 } { w with drawn := w.drawn + 1 } := ⟨hs.os, hs.output, hs.size, hs.block, hs.still, hs.ready⟩
      obtain ⟨w', new, h⟩ := ih _ (es ++ #[]) hs' hr (by
        intro i hi
        have := hA (i + 1) (by simp only at hi; omega)
        simp only [Nat.add_assoc, Nat.add_comm 1 i]
        exact this)
      refine ⟨w', _, h.cons (by simp only [Sem.runT, hq, if_false, Bool.false_eq_true, Array.append_empty]) ⟨Nat.le_refl _, fun _ _ h _ => h, fun _ _ => rfl, rfl, Nat.le_succ _, ⟨fun b c e f h => ⟨c, h⟩, rfl, rfl, rfl, fun _ _ h _ _ => h⟩⟩ rfl (by simp only; omega) (by simp)⟩
  | program k _ ih =>
    intro v w es a' v' hs hr hA
    simp only [Sem.run] at hr hA
    obtain ⟨w', new, h⟩ := ih (es ++ #[]) hs hr hA
    exact ⟨w', _, h.cons (by simp only [Sem.runT, Array.append_empty]) (Kept.refl _ _) rfl (Nat.add_comm _ _) (by simp)⟩
  | noRoom k _ ih =>
    intro v w es a' v' hs hr hA
    simp only [Sem.run] at hr hA
    obtain ⟨w', new, h⟩ := ih (es ++ #[⟨.mark .noRoom, false, true⟩]) hs hr hA
    exact ⟨w', _, h.cons (by simp only [Sem.runT, Array.append_singleton]) (Kept.refl _ _) rfl (Nat.add_comm _ _) (by simpa using evHd_noRoom)⟩
  | extern f k _ ih =>
    intro v w es a' v' hs hr hA
    simp only [Sem.run] at hr hA
    obtain ⟨w', new, h⟩ := ih (es ++ #[⟨.mark (.extern f), false, true⟩]) hs hr hA
    exact ⟨w', _, h.cons (by simp only [Sem.runT, Array.append_singleton]) (Kept.refl _ _) rfl (Nat.add_comm _ _) (by simpa using evHd_extern)⟩
  | frozen a k h1 _ ih =>
    intro v w es a' v' hs hr hA
    simp only [Sem.run] at hr hA
    cases hf : v.frozen? a with
    | true => rw [hf] at hr; obtain ⟨x, w', _, hx⟩ := h1 v; rw [hx] at hr; cases hr
    | false =>
      have hw := hs.frozen hf
      rw [hf] at hr
      rw [hw] at hA
      obtain ⟨w', new, h⟩ := ih (es ++ #[]) hs hr hA
      exact ⟨w', _, h.cons (by simp only [Sem.runT, hw, Array.append_empty]) (Kept.refl _ _) rfl (Nat.add_comm _ _) (by simp)⟩
  | doomed s h =>
    intro v w es a' v' hs hr hA
    obtain ⟨x, w', _, hx⟩ := h v
    rw [hx] at hr
    cases hr
end
end Go.Proofs.Ytecdiejeofclaaa


/- Infrastructure C: which operations are Tame. -/
namespace Go.Proofs.Ytecdiejeofclaaa
open Go Go.Conc
section
variable {P : Program} {α β : Type} {ok : α → Prop}
theorem Tame.bind' {ok' : β → Prop} {s : Sem α} {f : α → Sem β} (h : Tame P ok s) (hf : ∀ a, ok a → Tame P ok' (f a)) : Tame P ok' (s >>= f) := Tame.bind h hf
theorem tame_pure (a : α) (h : ok a) : Tame P ok (pure a) := .pure a h
theorem tame_halt (h : Halt) (hk : HaltOk h) : Tame P ok (.halt h) := .doomed _ fun _ => ⟨_, _, hk, rfl⟩
theorem tame_stuck (s : String) : Tame P ok (stuck s) := tame_halt _ trivial
theorem tame_unsup (u : Unsupported) (hk : HaltOk (.unsupported u) := by (with_unfolding_all exact True.intro)) : Tame P ok (unsupported u) := tame_halt _ hk
theorem tame_goPanic (v : Value) : Tame P ok (goPanic v) := tame_halt _ trivial
theorem tame_ite {c : Prop} [Decidable c] {x y : Sem α} (h : Tame P ok x) (h' : Tame P ok y) : Tame P ok (if c then x else y) := by split <;> assumption
theorem tame_program : Tame P (fun p => p = P) program := .program _ (.pure _ rfl)
theorem tame_load (a : Addr) (m : Mode) : Tame P (fun _ => True) (load a m) := .load _ _ _ fun _ => .pure _ trivial
theorem tame_store (a : Addr) (v : Value) (m : Mode) : Tame P (fun _ => True) (store a v m) := .store _ _ _ _ (.pure _ trivial)
theorem tame_newObj (o : Obj) (hp : ∀ c e, o ≠ .pending c e := by (with_unfolding_all (intro _ _ h; cases h))) : Tame P (fun _ => True) (newObj o) := .new _ _ hp fun _ => .pure _ trivial
theorem tame_shape (r : Nat) : Tame P (fun _ => True) (shape r) := .shape _ _ fun _ => .pure _ trivial
theorem tame_getObj' {ok' : β → Prop} (r : Nat) {f : Obj → Sem β} (hp : ∀ c e, f (.pending c e) = f (.deferred none)) (h : ∀ o, Tame P ok' (f o)) : Tame P ok' (getObj r >>= f) := .getObj _ _ hp h
theorem tame_choose (q : Question) : Tame P (fun _ => True) (choose q) := .choose _ _ fun _ => .pure _ trivial
theorem tame_askRoom (n : Nat) : Tame P (fun _ => True) (askRoom n) := by
  unfold askRoom
  split
  · exact .noRoom _ (.pure _ trivial)
  · exact .pure _ trivial
theorem tame_typeInfo (t : TypeId) : Tame P (fun i => P.info? t = some i) (typeInfo t) := by
  refine Tame.bind' tame_program fun p hp => ?_
  subst hp
  split
  · exact .pure _ (by assumption)
  · exact tame_stuck _
theorem tame_under (t : TypeId) : Tame P (fun d => P.underlying t = some d) (underlying t) := by
  refine Tame.bind' tame_program fun p hp => ?_
  subst hp
  split
  · exact .pure _ (by assumption)
  · exact tame_stuck _
theorem tame_zero (t : TypeId) : Tame P (fun _ => True) (zeroValue t) := by
  refine Tame.bind' (tame_typeInfo t) fun i _ => ?_
  split
  · exact .pure _ trivial
  · exact tame_unsup _
theorem tame_sizeOf (t : TypeId) : Tame P (fun _ => True) (sizeOf t) := Tame.bind' (tame_typeInfo t) fun _ _ => .pure _ trivial
theorem tame_isAgg (t : TypeId) : Tame P (fun _ => True) (isAgg t) := by
  refine Tame.bind' (tame_under t) fun d _ => ?_
  split <;> exact .pure _ trivial
theorem tame_newRow (t : TypeId) (c : Array Value) : Tame P (fun _ => True) (newRow t c) := Tame.bind' (tame_newObj _) fun _ _ => .pure _ trivial
theorem tame_newVar (t : TypeId) (v : Value) : Tame P (fun _ => True) (newVar t v) := tame_newRow _ _
theorem tame_elemOf (t : TypeId) : Tame P (fun _ => True) (elemOf t) := by
  refine Tame.bind' (tame_under t) fun d _ => ?_
  split
  · exact .pure _ trivial
  · exact tame_stuck _
theorem tame_rtPanic (e : RuntimeError) : Tame P ok (runtimePanic e) := by
  refine Tame.bind' tame_program fun p hp => ?_
  split <;> first
    | exact tame_goPanic _
    | exact Tame.bind' (tame_elemOf _) fun _ _ => Tame.bind' (tame_newVar _ _) fun _ _ => tame_goPanic _
theorem tame_bounds (k : IntKind) (x y : Int) (c : BoundsCode) : Tame P ok (boundsPanic k x y c) := by
  unfold boundsPanic
  dsimp only
  split
  · exact Tame.bind' (Tame.bind' (ok' := fun _ => True) (tame_choose _) fun _ _ => .pure _ trivial) fun _ _ => tame_rtPanic _
  · exact Tame.bind' (ok := fun _ => True) (tame_pure _ trivial) fun _ _ => tame_rtPanic _
theorem tame_asIntOf (v : Value) : Tame P (fun _ => True) (asIntOf v) := by
  unfold asIntOf
  split
  · exact .pure _ trivial
  · exact tame_unsup _
  · exact tame_stuck _
theorem tame_asInt (v : Value) : Tame P (fun _ => True) (asInt v) := Tame.bind' (tame_asIntOf v) fun _ _ => .pure _ trivial
theorem tame_asBool (v : Value) : Tame P (fun _ => True) (asBool v) := by
  unfold asBool
  split
  · exact .pure _ trivial
  · exact tame_stuck _
theorem tame_asAgg (v : Value) : Tame P (fun _ => True) (asAgg v) := by
  unfold asAgg
  split
  · exact .pure _ trivial
  · exact tame_stuck _
theorem tame_asAddr (v : Value) : Tame P (fun _ => True) (asAddr v) := by
  unfold asAddr
  split
  · exact .pure _ trivial
  · exact tame_rtPanic _
  · exact tame_stuck _
theorem tame_sureAddr (v : Value) : Tame P (fun _ => True) (Instr.sureAddr v) := by
  unfold Instr.sureAddr
  split
  · exact .pure _ trivial
  · exact tame_stuck _
theorem tame_loadCellsFrom (a : Addr) : ∀ (n i : Nat) (acc : Array Value), Tame P (fun _ => True) (loadCellsFrom a i n acc)
  | 0, _, _ => .pure _ trivial
  | n + 1, i, acc => Tame.bind' (tame_load _ _) fun _ _ => tame_loadCellsFrom a n _ _
theorem tame_loadCells (a : Addr) (n : Nat) : Tame P (fun _ => True) (loadCells a n) := tame_loadCellsFrom _ _ _ _
theorem tame_storeCells (a : Addr) : ∀ (l : List Value) (i : Nat), Tame P (fun _ => True) (storeCells a l i)
  | [], _ => .pure _ trivial
  | _ :: l, i => Tame.bind' (tame_store _ _ _) fun _ _ => tame_storeCells a l _
theorem tame_loadVar (t : TypeId) (a : Addr) : Tame P (fun _ => True) (loadVar t a) := by
  refine Tame.bind' (tame_isAgg t) fun b _ => ?_
  split
  · exact Tame.bind' (tame_sizeOf _) fun _ _ => Tame.bind' (tame_loadCells _ _) fun _ _ => .pure _ trivial
  · exact tame_load _ _
theorem tame_storeVar (t : TypeId) (a : Addr) (v : Value) : Tame P (fun _ => True) (storeVar t a v) := by
  refine Tame.bind' (tame_sizeOf t) fun n _ => ?_
  split
  · exact Tame.bind' (ok := fun _ => True) (tame_stuck _) fun _ _ => tame_storeCells _ _ _
  · exact tame_storeCells _ _ _
theorem tame_part (t : TypeId) (cs : Array Value) (off : Nat) : Tame P (fun _ => True) (part t cs off) := by
  refine Tame.bind' (tame_isAgg t) fun b _ => ?_
  split
  · exact Tame.bind' (tame_sizeOf _) fun _ _ => .pure _ trivial
  · split
    · exact .pure _ trivial
    · exact tame_stuck _
theorem tame_numberAt (r : Nat) : Tame P (fun _ => True) (numberAt r) := by
  refine Tame.bind' (tame_shape r) fun b _ => ?_
  split
  · exact .pure _ trivial
  · refine tame_getObj' r (fun _ _ => rfl) fun o => ?_
    split <;> exact .pure _ trivial
theorem tame_viewAt (r : Nat) : Tame P (fun _ => True) (viewAt r) := by
  refine Tame.bind' (tame_shape r) fun b _ => ?_
  split
  · exact .pure _ trivial
  · refine tame_getObj' r (fun _ _ => rfl) fun o => ?_
    split <;> exact .pure _ trivial
theorem tame_noView (a : Addr) : Tame P (fun _ => True) (noView a) := by
  refine Tame.bind' (tame_viewAt _) fun b _ => ?_
  split
  · exact tame_unsup _
  · exact .pure _ trivial
theorem tame_behind (a : Addr) : Tame P (fun _ => True) (behindNumber a) := Tame.bind' (tame_numberAt _) fun _ _ => .pure _ trivial
theorem tame_byteOf (a : Addr) : Tame P (fun _ => True) (byteOf a) := by
  unfold byteOf
  split
  · exact .pure _ trivial
  · refine Tame.bind' tame_program fun p hp => Tame.bind' (tame_noView _) fun _ _ => Tame.bind' (tame_shape _) fun s _ => ?_
    split
    · dsimp only
      split
      · exact .pure _ trivial
      · split
        · exact .pure _ trivial
        · exact tame_stuck _
    · exact tame_stuck _
theorem tame_partAt (a : Addr) (c b : Nat) : Tame P (fun _ => True) (partAt a c b) :=
  Tame.bind' (tame_byteOf _) fun _ _ => Tame.bind' (tame_byteOf _) fun _ _ => .pure _ trivial
theorem tame_fieldPlace (a : Addr) (f : Field) : Tame P (fun _ => True) (fieldPlace a f) := by
  refine Tame.bind' (tame_sizeOf _) fun n _ => ?_
  split
  · exact tame_partAt _ _ _
  · exact .pure _ trivial
theorem tame_alloc (t : TypeId) (v : Value) : Tame P (fun _ => True) (Instr.alloc t true v) := by
  refine Tame.bind' (tame_zero _) fun z _ => ?_
  exact Tame.bind' (tame_newVar _ _) fun _ _ => .pure _ trivial
theorem tame_box (t : TypeId) (v : Value) : Tame P (fun _ => True) (Instr.box t v) := Tame.bind' (tame_newVar _ _) fun _ _ => .pure _ trivial
theorem tame_loadAt (t : TypeId) (v : Value) : Tame P (fun _ => True) (Instr.loadAt t v) := Tame.bind' (tame_sureAddr _) fun _ _ => tame_loadVar _ _
theorem tame_storeAt (t : TypeId) (v x : Value) : Tame P (fun _ => True) (Instr.storeAt t v x) := Tame.bind' (tame_sureAddr _) fun _ _ => tame_storeVar _ _ _
theorem tame_fieldAt (t : TypeId) (v : Value) (i : Nat) : Tame P (fun _ => True) (Instr.fieldAt t v i) := by
  refine Tame.bind' (tame_under _) fun d _ => ?_
  split
  · split
    · exact Tame.bind' (tame_sureAddr _) fun _ _ => Tame.bind' (tame_fieldPlace _ _) fun _ _ => .pure _ trivial
    · exact tame_stuck _
  · exact tame_stuck _
theorem tame_list_mapM {γ δ : Type} (f : γ → Sem δ) (h : ∀ x, Tame P (fun _ => True) (f x)) : ∀ l : List γ, Tame P (fun _ => True) (l.mapM f)
  | [] => by simp only [List.mapM_nil]; exact .pure _ trivial
  | x :: l => by
    simp only [List.mapM_cons]
    exact Tame.bind' (h x) fun _ _ => Tame.bind' (tame_list_mapM f h l) fun _ _ => .pure _ trivial
theorem tame_array_mapM {γ δ : Type} (f : γ → Sem δ) (h : ∀ x, Tame P (fun _ => True) (f x)) (a : Array γ) : Tame P (fun _ => True) (a.mapM f) := by
  rw [Array.mapM_eq_mapM_toList]
  exact Tame.bind' (tame_list_mapM f h _) fun _ _ => .pure _ trivial
theorem tame_build (t : TypeId) (l : Array (Nat × Value)) : Tame P (fun _ => True) (Instr.build t l) := by
  refine Tame.bind' (tame_zero _) fun z _ => Tame.bind' (tame_under _) fun d _ => ?_
  split
  · refine Tame.bind' (tame_array_mapM _ (fun x => Tame.bind' (tame_sizeOf _) fun _ _ => .pure _ trivial) _) fun pl _ => ?_
    split
    · exact .pure _ trivial
    · exact tame_stuck _
  · refine Tame.bind' (tame_sizeOf _) fun n _ => ?_
    split
    · exact .pure _ trivial
    · exact tame_stuck _
  · exact tame_stuck _
theorem tame_indexAt (t : TypeId) (x i : Value) : Tame P (fun _ => True) (Instr.indexAt t x i) := by
  unfold Instr.indexAt
  repeat' (with_reducible first
    | exact tame_stuck _
    | exact tame_unsup _
    | exact tame_rtPanic _
    | exact tame_bounds _ _ _ _
    | exact tame_goPanic _
    | exact tame_pure _ trivial
    | exact tame_under _
    | exact tame_typeInfo _
    | exact tame_zero _
    | exact tame_sizeOf _
    | exact tame_isAgg _
    | exact tame_sureAddr _
    | exact tame_asIntOf _
    | exact tame_asInt _
    | exact tame_asBool _
    | exact tame_asAgg _
    | exact tame_asAddr _
    | exact tame_newRow _ _
    | exact tame_newVar _ _
    | exact tame_newObj _
    | exact tame_shape _
    | exact tame_choose _
    | exact tame_askRoom _
    | exact tame_load _ _
    | exact tame_store _ _ _
    | exact tame_loadVar _ _
    | exact tame_storeVar _ _ _
    | exact tame_loadCells _ _
    | exact tame_storeCells _ _ _
    | exact tame_part _ _ _
    | exact tame_behind _
    | exact tame_numberAt _
    | exact tame_byteOf _
    | exact tame_fieldPlace _ _
    | exact tame_program
    | refine Tame.bind' (tame_under _) (fun _ _ => ?_)
    | refine Tame.bind' (tame_typeInfo _) (fun _ _ => ?_)
    | refine Tame.bind' (tame_zero _) (fun _ _ => ?_)
    | refine Tame.bind' (tame_sizeOf _) (fun _ _ => ?_)
    | refine Tame.bind' (tame_isAgg _) (fun _ _ => ?_)
    | refine Tame.bind' (tame_sureAddr _) (fun _ _ => ?_)
    | refine Tame.bind' (tame_asIntOf _) (fun _ _ => ?_)
    | refine Tame.bind' (tame_asInt _) (fun _ _ => ?_)
    | refine Tame.bind' (tame_asBool _) (fun _ _ => ?_)
    | refine Tame.bind' (tame_asAgg _) (fun _ _ => ?_)
    | refine Tame.bind' (tame_asAddr _) (fun _ _ => ?_)
    | refine Tame.bind' (tame_newRow _ _) (fun _ _ => ?_)
    | refine Tame.bind' (tame_newVar _ _) (fun _ _ => ?_)
    | refine Tame.bind' (tame_newObj _) (fun _ _ => ?_)
    | refine Tame.bind' (tame_shape _) (fun _ _ => ?_)
    | refine Tame.bind' (tame_choose _) (fun _ _ => ?_)
    | refine Tame.bind' (tame_askRoom _) (fun _ _ => ?_)
    | refine Tame.bind' (tame_load _ _) (fun _ _ => ?_)
    | refine Tame.bind' (tame_store _ _ _) (fun _ _ => ?_)
    | refine Tame.bind' (tame_loadVar _ _) (fun _ _ => ?_)
    | refine Tame.bind' (tame_storeVar _ _ _) (fun _ _ => ?_)
    | refine Tame.bind' (tame_loadCells _ _) (fun _ _ => ?_)
    | refine Tame.bind' (tame_storeCells _ _ _) (fun _ _ => ?_)
    | refine Tame.bind' (tame_part _ _ _) (fun _ _ => ?_)
    | refine Tame.bind' (tame_behind _) (fun _ _ => ?_)
    | refine Tame.bind' (tame_numberAt _) (fun _ _ => ?_)
    | refine Tame.bind' (tame_byteOf _) (fun _ _ => ?_)
    | refine Tame.bind' (tame_fieldPlace _ _) (fun _ _ => ?_)
    | refine Tame.bind' (tame_program) (fun _ _ => ?_)
    | refine tame_getObj' _ (fun _ _ => rfl) (fun _ => ?_)
    | (refine Tame.bind' (ok := fun _ => True) (tame_pure _ trivial) (fun _ _ => ?_))
    | (refine Tame.bind' (ok := fun _ => True) (tame_stuck _) (fun _ _ => ?_))
    | (refine Tame.bind' (ok := fun _ => True) (tame_unsup _) (fun _ _ => ?_))
    | (refine Tame.bind' (ok := fun _ => True) (tame_rtPanic _) (fun _ _ => ?_))
    | split
    | dsimp only)
theorem tame_buildSlice (t : TypeId) (n : Nat) (l : Array (Nat × Value)) : Tame P (fun _ => True) (Instr.buildSlice t n l) := by
  unfold Instr.buildSlice
  repeat' (with_reducible first
    | exact tame_stuck _
    | exact tame_unsup _
    | exact tame_rtPanic _
    | exact tame_bounds _ _ _ _
    | exact tame_goPanic _
    | exact tame_pure _ trivial
    | exact tame_under _
    | exact tame_typeInfo _
    | exact tame_zero _
    | exact tame_sizeOf _
    | exact tame_isAgg _
    | exact tame_sureAddr _
    | exact tame_asIntOf _
    | exact tame_asInt _
    | exact tame_asBool _
    | exact tame_asAgg _
    | exact tame_asAddr _
    | exact tame_newRow _ _
    | exact tame_newVar _ _
    | exact tame_newObj _
    | exact tame_shape _
    | exact tame_choose _
    | exact tame_askRoom _
    | exact tame_load _ _
    | exact tame_store _ _ _
    | exact tame_loadVar _ _
    | exact tame_storeVar _ _ _
    | exact tame_loadCells _ _
    | exact tame_storeCells _ _ _
    | exact tame_part _ _ _
    | exact tame_behind _
    | exact tame_numberAt _
    | exact tame_byteOf _
    | exact tame_fieldPlace _ _
    | exact tame_program
    | refine Tame.bind' (tame_under _) (fun _ _ => ?_)
    | refine Tame.bind' (tame_typeInfo _) (fun _ _ => ?_)
    | refine Tame.bind' (tame_zero _) (fun _ _ => ?_)
    | refine Tame.bind' (tame_sizeOf _) (fun _ _ => ?_)
    | refine Tame.bind' (tame_isAgg _) (fun _ _ => ?_)
    | refine Tame.bind' (tame_sureAddr _) (fun _ _ => ?_)
    | refine Tame.bind' (tame_asIntOf _) (fun _ _ => ?_)
    | refine Tame.bind' (tame_asInt _) (fun _ _ => ?_)
    | refine Tame.bind' (tame_asBool _) (fun _ _ => ?_)
    | refine Tame.bind' (tame_asAgg _) (fun _ _ => ?_)
    | refine Tame.bind' (tame_asAddr _) (fun _ _ => ?_)
    | refine Tame.bind' (tame_newRow _ _) (fun _ _ => ?_)
    | refine Tame.bind' (tame_newVar _ _) (fun _ _ => ?_)
    | refine Tame.bind' (tame_newObj _) (fun _ _ => ?_)
    | refine Tame.bind' (tame_shape _) (fun _ _ => ?_)
    | refine Tame.bind' (tame_choose _) (fun _ _ => ?_)
    | refine Tame.bind' (tame_askRoom _) (fun _ _ => ?_)
    | refine Tame.bind' (tame_load _ _) (fun _ _ => ?_)
    | refine Tame.bind' (tame_store _ _ _) (fun _ _ => ?_)
    | refine Tame.bind' (tame_loadVar _ _) (fun _ _ => ?_)
    | refine Tame.bind' (tame_storeVar _ _ _) (fun _ _ => ?_)
    | refine Tame.bind' (tame_loadCells _ _) (fun _ _ => ?_)
    | refine Tame.bind' (tame_storeCells _ _ _) (fun _ _ => ?_)
    | refine Tame.bind' (tame_part _ _ _) (fun _ _ => ?_)
    | refine Tame.bind' (tame_behind _) (fun _ _ => ?_)
    | refine Tame.bind' (tame_numberAt _) (fun _ _ => ?_)
    | refine Tame.bind' (tame_byteOf _) (fun _ _ => ?_)
    | refine Tame.bind' (tame_fieldPlace _ _) (fun _ _ => ?_)
    | refine Tame.bind' (tame_program) (fun _ _ => ?_)
    | refine tame_getObj' _ (fun _ _ => rfl) (fun _ => ?_)
    | (refine Tame.bind' (ok := fun _ => True) (tame_pure _ trivial) (fun _ _ => ?_))
    | (refine Tame.bind' (ok := fun _ => True) (tame_stuck _) (fun _ _ => ?_))
    | (refine Tame.bind' (ok := fun _ => True) (tame_unsup _) (fun _ _ => ?_))
    | (refine Tame.bind' (ok := fun _ => True) (tame_rtPanic _) (fun _ _ => ?_))
    | split
    | dsimp only)
theorem tame_sliceBound (x : Value) (y : Nat) (c : BoundsCode) : Tame P (fun _ => True) (Instr.sliceBound x y c) := by
  unfold Instr.sliceBound
  repeat' (with_reducible first
    | exact tame_stuck _
    | exact tame_unsup _
    | exact tame_rtPanic _
    | exact tame_bounds _ _ _ _
    | exact tame_goPanic _
    | exact tame_pure _ trivial
    | exact tame_under _
    | exact tame_typeInfo _
    | exact tame_zero _
    | exact tame_sizeOf _
    | exact tame_isAgg _
    | exact tame_sureAddr _
    | exact tame_asIntOf _
    | exact tame_asInt _
    | exact tame_asBool _
    | exact tame_asAgg _
    | exact tame_asAddr _
    | exact tame_newRow _ _
    | exact tame_newVar _ _
    | exact tame_newObj _
    | exact tame_shape _
    | exact tame_choose _
    | exact tame_askRoom _
    | exact tame_load _ _
    | exact tame_store _ _ _
    | exact tame_loadVar _ _
    | exact tame_storeVar _ _ _
    | exact tame_loadCells _ _
    | exact tame_storeCells _ _ _
    | exact tame_part _ _ _
    | exact tame_behind _
    | exact tame_numberAt _
    | exact tame_byteOf _
    | exact tame_fieldPlace _ _
    | exact tame_program
    | refine Tame.bind' (tame_under _) (fun _ _ => ?_)
    | refine Tame.bind' (tame_typeInfo _) (fun _ _ => ?_)
    | refine Tame.bind' (tame_zero _) (fun _ _ => ?_)
    | refine Tame.bind' (tame_sizeOf _) (fun _ _ => ?_)
    | refine Tame.bind' (tame_isAgg _) (fun _ _ => ?_)
    | refine Tame.bind' (tame_sureAddr _) (fun _ _ => ?_)
    | refine Tame.bind' (tame_asIntOf _) (fun _ _ => ?_)
    | refine Tame.bind' (tame_asInt _) (fun _ _ => ?_)
    | refine Tame.bind' (tame_asBool _) (fun _ _ => ?_)
    | refine Tame.bind' (tame_asAgg _) (fun _ _ => ?_)
    | refine Tame.bind' (tame_asAddr _) (fun _ _ => ?_)
    | refine Tame.bind' (tame_newRow _ _) (fun _ _ => ?_)
    | refine Tame.bind' (tame_newVar _ _) (fun _ _ => ?_)
    | refine Tame.bind' (tame_newObj _) (fun _ _ => ?_)
    | refine Tame.bind' (tame_shape _) (fun _ _ => ?_)
    | refine Tame.bind' (tame_choose _) (fun _ _ => ?_)
    | refine Tame.bind' (tame_askRoom _) (fun _ _ => ?_)
    | refine Tame.bind' (tame_load _ _) (fun _ _ => ?_)
    | refine Tame.bind' (tame_store _ _ _) (fun _ _ => ?_)
    | refine Tame.bind' (tame_loadVar _ _) (fun _ _ => ?_)
    | refine Tame.bind' (tame_storeVar _ _ _) (fun _ _ => ?_)
    | refine Tame.bind' (tame_loadCells _ _) (fun _ _ => ?_)
    | refine Tame.bind' (tame_storeCells _ _ _) (fun _ _ => ?_)
    | refine Tame.bind' (tame_part _ _ _) (fun _ _ => ?_)
    | refine Tame.bind' (tame_behind _) (fun _ _ => ?_)
    | refine Tame.bind' (tame_numberAt _) (fun _ _ => ?_)
    | refine Tame.bind' (tame_byteOf _) (fun _ _ => ?_)
    | refine Tame.bind' (tame_fieldPlace _ _) (fun _ _ => ?_)
    | refine Tame.bind' (tame_program) (fun _ _ => ?_)
    | refine tame_getObj' _ (fun _ _ => rfl) (fun _ => ?_)
    | (refine Tame.bind' (ok := fun _ => True) (tame_pure _ trivial) (fun _ _ => ?_))
    | (refine Tame.bind' (ok := fun _ => True) (tame_stuck _) (fun _ _ => ?_))
    | (refine Tame.bind' (ok := fun _ => True) (tame_unsup _) (fun _ _ => ?_))
    | (refine Tame.bind' (ok := fun _ => True) (tame_rtPanic _) (fun _ _ => ?_))
    | split
    | dsimp only)
theorem tame_sliceBounds (b : Bool) (l c : Nat) (x y z : Option Value) : Tame P (fun _ => True) (Instr.sliceBounds b l c x y z) := by
  unfold Instr.sliceBounds
  repeat' (with_reducible first
    | exact tame_stuck _
    | exact tame_unsup _
    | exact tame_rtPanic _
    | exact tame_bounds _ _ _ _
    | exact tame_goPanic _
    | exact tame_pure _ trivial
    | exact tame_under _
    | exact tame_typeInfo _
    | exact tame_zero _
    | exact tame_sizeOf _
    | exact tame_isAgg _
    | exact tame_sureAddr _
    | exact tame_asIntOf _
    | exact tame_asInt _
    | exact tame_asBool _
    | exact tame_asAgg _
    | exact tame_asAddr _
    | exact tame_newRow _ _
    | exact tame_newVar _ _
    | exact tame_newObj _
    | exact tame_shape _
    | exact tame_choose _
    | exact tame_askRoom _
    | exact tame_load _ _
    | exact tame_store _ _ _
    | exact tame_loadVar _ _
    | exact tame_storeVar _ _ _
    | exact tame_loadCells _ _
    | exact tame_storeCells _ _ _
    | exact tame_part _ _ _
    | exact tame_behind _
    | exact tame_numberAt _
    | exact tame_byteOf _
    | exact tame_fieldPlace _ _
    | exact tame_program
    | exact tame_sliceBound _ _ _
    | refine Tame.bind' (tame_under _) (fun _ _ => ?_)
    | refine Tame.bind' (tame_typeInfo _) (fun _ _ => ?_)
    | refine Tame.bind' (tame_zero _) (fun _ _ => ?_)
    | refine Tame.bind' (tame_sizeOf _) (fun _ _ => ?_)
    | refine Tame.bind' (tame_isAgg _) (fun _ _ => ?_)
    | refine Tame.bind' (tame_sureAddr _) (fun _ _ => ?_)
    | refine Tame.bind' (tame_asIntOf _) (fun _ _ => ?_)
    | refine Tame.bind' (tame_asInt _) (fun _ _ => ?_)
    | refine Tame.bind' (tame_asBool _) (fun _ _ => ?_)
    | refine Tame.bind' (tame_asAgg _) (fun _ _ => ?_)
    | refine Tame.bind' (tame_asAddr _) (fun _ _ => ?_)
    | refine Tame.bind' (tame_newRow _ _) (fun _ _ => ?_)
    | refine Tame.bind' (tame_newVar _ _) (fun _ _ => ?_)
    | refine Tame.bind' (tame_newObj _) (fun _ _ => ?_)
    | refine Tame.bind' (tame_shape _) (fun _ _ => ?_)
    | refine Tame.bind' (tame_choose _) (fun _ _ => ?_)
    | refine Tame.bind' (tame_askRoom _) (fun _ _ => ?_)
    | refine Tame.bind' (tame_load _ _) (fun _ _ => ?_)
    | refine Tame.bind' (tame_store _ _ _) (fun _ _ => ?_)
    | refine Tame.bind' (tame_loadVar _ _) (fun _ _ => ?_)
    | refine Tame.bind' (tame_storeVar _ _ _) (fun _ _ => ?_)
    | refine Tame.bind' (tame_loadCells _ _) (fun _ _ => ?_)
    | refine Tame.bind' (tame_storeCells _ _ _) (fun _ _ => ?_)
    | refine Tame.bind' (tame_part _ _ _) (fun _ _ => ?_)
    | refine Tame.bind' (tame_behind _) (fun _ _ => ?_)
    | refine Tame.bind' (tame_numberAt _) (fun _ _ => ?_)
    | refine Tame.bind' (tame_byteOf _) (fun _ _ => ?_)
    | refine Tame.bind' (tame_fieldPlace _ _) (fun _ _ => ?_)
    | refine Tame.bind' (tame_program) (fun _ _ => ?_)
    | refine Tame.bind' (tame_sliceBound _ _ _) (fun _ _ => ?_)
    | refine tame_getObj' _ (fun _ _ => rfl) (fun _ => ?_)
    | (refine Tame.bind' (ok := fun _ => True) (tame_pure _ trivial) (fun _ _ => ?_))
    | (refine Tame.bind' (ok := fun _ => True) (tame_stuck _) (fun _ _ => ?_))
    | (refine Tame.bind' (ok := fun _ => True) (tame_unsup _) (fun _ _ => ?_))
    | (refine Tame.bind' (ok := fun _ => True) (tame_rtPanic _) (fun _ _ => ?_))
    | split
    | dsimp only)
theorem tame_slice (t : TypeId) (v : Value) (x y z : Option Value) : Tame P (fun _ => True) (Instr.slice t v x y z) := by
  unfold Instr.slice
  repeat' (with_reducible first
    | exact tame_stuck _
    | exact tame_unsup _
    | exact tame_rtPanic _
    | exact tame_bounds _ _ _ _
    | exact tame_goPanic _
    | exact tame_pure _ trivial
    | exact tame_under _
    | exact tame_typeInfo _
    | exact tame_zero _
    | exact tame_sizeOf _
    | exact tame_isAgg _
    | exact tame_sureAddr _
    | exact tame_asIntOf _
    | exact tame_asInt _
    | exact tame_asBool _
    | exact tame_asAgg _
    | exact tame_asAddr _
    | exact tame_newRow _ _
    | exact tame_newVar _ _
    | exact tame_newObj _
    | exact tame_shape _
    | exact tame_choose _
    | exact tame_askRoom _
    | exact tame_load _ _
    | exact tame_store _ _ _
    | exact tame_loadVar _ _
    | exact tame_storeVar _ _ _
    | exact tame_loadCells _ _
    | exact tame_storeCells _ _ _
    | exact tame_part _ _ _
    | exact tame_behind _
    | exact tame_numberAt _
    | exact tame_byteOf _
    | exact tame_fieldPlace _ _
    | exact tame_program
    | exact tame_sliceBound _ _ _
    | exact tame_sliceBounds _ _ _ _ _ _
    | refine Tame.bind' (tame_under _) (fun _ _ => ?_)
    | refine Tame.bind' (tame_typeInfo _) (fun _ _ => ?_)
    | refine Tame.bind' (tame_zero _) (fun _ _ => ?_)
    | refine Tame.bind' (tame_sizeOf _) (fun _ _ => ?_)
    | refine Tame.bind' (tame_isAgg _) (fun _ _ => ?_)
    | refine Tame.bind' (tame_sureAddr _) (fun _ _ => ?_)
    | refine Tame.bind' (tame_asIntOf _) (fun _ _ => ?_)
    | refine Tame.bind' (tame_asInt _) (fun _ _ => ?_)
    | refine Tame.bind' (tame_asBool _) (fun _ _ => ?_)
    | refine Tame.bind' (tame_asAgg _) (fun _ _ => ?_)
    | refine Tame.bind' (tame_asAddr _) (fun _ _ => ?_)
    | refine Tame.bind' (tame_newRow _ _) (fun _ _ => ?_)
    | refine Tame.bind' (tame_newVar _ _) (fun _ _ => ?_)
    | refine Tame.bind' (tame_newObj _) (fun _ _ => ?_)
    | refine Tame.bind' (tame_shape _) (fun _ _ => ?_)
    | refine Tame.bind' (tame_choose _) (fun _ _ => ?_)
    | refine Tame.bind' (tame_askRoom _) (fun _ _ => ?_)
    | refine Tame.bind' (tame_load _ _) (fun _ _ => ?_)
    | refine Tame.bind' (tame_store _ _ _) (fun _ _ => ?_)
    | refine Tame.bind' (tame_loadVar _ _) (fun _ _ => ?_)
    | refine Tame.bind' (tame_storeVar _ _ _) (fun _ _ => ?_)
    | refine Tame.bind' (tame_loadCells _ _) (fun _ _ => ?_)
    | refine Tame.bind' (tame_storeCells _ _ _) (fun _ _ => ?_)
    | refine Tame.bind' (tame_part _ _ _) (fun _ _ => ?_)
    | refine Tame.bind' (tame_behind _) (fun _ _ => ?_)
    | refine Tame.bind' (tame_numberAt _) (fun _ _ => ?_)
    | refine Tame.bind' (tame_byteOf _) (fun _ _ => ?_)
    | refine Tame.bind' (tame_fieldPlace _ _) (fun _ _ => ?_)
    | refine Tame.bind' (tame_program) (fun _ _ => ?_)
    | refine Tame.bind' (tame_sliceBound _ _ _) (fun _ _ => ?_)
    | refine Tame.bind' (tame_sliceBounds _ _ _ _ _ _) (fun _ _ => ?_)
    | refine tame_getObj' _ (fun _ _ => rfl) (fun _ => ?_)
    | (refine Tame.bind' (ok := fun _ => True) (tame_pure _ trivial) (fun _ _ => ?_))
    | (refine Tame.bind' (ok := fun _ => True) (tame_stuck _) (fun _ _ => ?_))
    | (refine Tame.bind' (ok := fun _ => True) (tame_unsup _) (fun _ _ => ?_))
    | (refine Tame.bind' (ok := fun _ => True) (tame_rtPanic _) (fun _ _ => ?_))
    | split
    | dsimp only)
theorem tame_sliceAt (t : TypeId) (v : Value) (x y z : Option Value) : Tame P (fun _ => True) (Instr.sliceAt t v x y z) := by
  unfold Instr.sliceAt
  repeat' (with_reducible first
    | exact tame_stuck _
    | exact tame_unsup _
    | exact tame_rtPanic _
    | exact tame_bounds _ _ _ _
    | exact tame_goPanic _
    | exact tame_pure _ trivial
    | exact tame_under _
    | exact tame_typeInfo _
    | exact tame_zero _
    | exact tame_sizeOf _
    | exact tame_isAgg _
    | exact tame_sureAddr _
    | exact tame_asIntOf _
    | exact tame_asInt _
    | exact tame_asBool _
    | exact tame_asAgg _
    | exact tame_asAddr _
    | exact tame_newRow _ _
    | exact tame_newVar _ _
    | exact tame_newObj _
    | exact tame_shape _
    | exact tame_choose _
    | exact tame_askRoom _
    | exact tame_load _ _
    | exact tame_store _ _ _
    | exact tame_loadVar _ _
    | exact tame_storeVar _ _ _
    | exact tame_loadCells _ _
    | exact tame_storeCells _ _ _
    | exact tame_part _ _ _
    | exact tame_behind _
    | exact tame_numberAt _
    | exact tame_byteOf _
    | exact tame_fieldPlace _ _
    | exact tame_program
    | exact tame_sliceBound _ _ _
    | exact tame_sliceBounds _ _ _ _ _ _
    | exact tame_slice _ _ _ _ _
    | refine Tame.bind' (tame_under _) (fun _ _ => ?_)
    | refine Tame.bind' (tame_typeInfo _) (fun _ _ => ?_)
    | refine Tame.bind' (tame_zero _) (fun _ _ => ?_)
    | refine Tame.bind' (tame_sizeOf _) (fun _ _ => ?_)
    | refine Tame.bind' (tame_isAgg _) (fun _ _ => ?_)
    | refine Tame.bind' (tame_sureAddr _) (fun _ _ => ?_)
    | refine Tame.bind' (tame_asIntOf _) (fun _ _ => ?_)
    | refine Tame.bind' (tame_asInt _) (fun _ _ => ?_)
    | refine Tame.bind' (tame_asBool _) (fun _ _ => ?_)
    | refine Tame.bind' (tame_asAgg _) (fun _ _ => ?_)
    | refine Tame.bind' (tame_asAddr _) (fun _ _ => ?_)
    | refine Tame.bind' (tame_newRow _ _) (fun _ _ => ?_)
    | refine Tame.bind' (tame_newVar _ _) (fun _ _ => ?_)
    | refine Tame.bind' (tame_newObj _) (fun _ _ => ?_)
    | refine Tame.bind' (tame_shape _) (fun _ _ => ?_)
    | refine Tame.bind' (tame_choose _) (fun _ _ => ?_)
    | refine Tame.bind' (tame_askRoom _) (fun _ _ => ?_)
    | refine Tame.bind' (tame_load _ _) (fun _ _ => ?_)
    | refine Tame.bind' (tame_store _ _ _) (fun _ _ => ?_)
    | refine Tame.bind' (tame_loadVar _ _) (fun _ _ => ?_)
    | refine Tame.bind' (tame_storeVar _ _ _) (fun _ _ => ?_)
    | refine Tame.bind' (tame_loadCells _ _) (fun _ _ => ?_)
    | refine Tame.bind' (tame_storeCells _ _ _) (fun _ _ => ?_)
    | refine Tame.bind' (tame_part _ _ _) (fun _ _ => ?_)
    | refine Tame.bind' (tame_behind _) (fun _ _ => ?_)
    | refine Tame.bind' (tame_numberAt _) (fun _ _ => ?_)
    | refine Tame.bind' (tame_byteOf _) (fun _ _ => ?_)
    | refine Tame.bind' (tame_fieldPlace _ _) (fun _ _ => ?_)
    | refine Tame.bind' (tame_program) (fun _ _ => ?_)
    | refine Tame.bind' (tame_sliceBound _ _ _) (fun _ _ => ?_)
    | refine Tame.bind' (tame_sliceBounds _ _ _ _ _ _) (fun _ _ => ?_)
    | refine Tame.bind' (tame_slice _ _ _ _ _) (fun _ _ => ?_)
    | refine tame_getObj' _ (fun _ _ => rfl) (fun _ => ?_)
    | (refine Tame.bind' (ok := fun _ => True) (tame_pure _ trivial) (fun _ _ => ?_))
    | (refine Tame.bind' (ok := fun _ => True) (tame_stuck _) (fun _ _ => ?_))
    | (refine Tame.bind' (ok := fun _ => True) (tame_unsup _) (fun _ _ => ?_))
    | (refine Tame.bind' (ok := fun _ => True) (tame_rtPanic _) (fun _ _ => ?_))
    | split
    | dsimp only)
theorem tame_index (t : TypeId) (x i : Value) : Tame P (fun _ => True) (Instr.index t x i) := by
  unfold Instr.index
  repeat' (with_reducible first
    | exact tame_stuck _
    | exact tame_unsup _
    | exact tame_rtPanic _
    | exact tame_bounds _ _ _ _
    | exact tame_goPanic _
    | exact tame_pure _ trivial
    | exact tame_under _
    | exact tame_typeInfo _
    | exact tame_zero _
    | exact tame_sizeOf _
    | exact tame_isAgg _
    | exact tame_sureAddr _
    | exact tame_asIntOf _
    | exact tame_asInt _
    | exact tame_asBool _
    | exact tame_asAgg _
    | exact tame_asAddr _
    | exact tame_newRow _ _
    | exact tame_newVar _ _
    | exact tame_newObj _
    | exact tame_shape _
    | exact tame_choose _
    | exact tame_askRoom _
    | exact tame_load _ _
    | exact tame_store _ _ _
    | exact tame_loadVar _ _
    | exact tame_storeVar _ _ _
    | exact tame_loadCells _ _
    | exact tame_storeCells _ _ _
    | exact tame_part _ _ _
    | exact tame_behind _
    | exact tame_numberAt _
    | exact tame_byteOf _
    | exact tame_fieldPlace _ _
    | exact tame_program
    | exact tame_sliceBound _ _ _
    | exact tame_sliceBounds _ _ _ _ _ _
    | refine Tame.bind' (tame_under _) (fun _ _ => ?_)
    | refine Tame.bind' (tame_typeInfo _) (fun _ _ => ?_)
    | refine Tame.bind' (tame_zero _) (fun _ _ => ?_)
    | refine Tame.bind' (tame_sizeOf _) (fun _ _ => ?_)
    | refine Tame.bind' (tame_isAgg _) (fun _ _ => ?_)
    | refine Tame.bind' (tame_sureAddr _) (fun _ _ => ?_)
    | refine Tame.bind' (tame_asIntOf _) (fun _ _ => ?_)
    | refine Tame.bind' (tame_asInt _) (fun _ _ => ?_)
    | refine Tame.bind' (tame_asBool _) (fun _ _ => ?_)
    | refine Tame.bind' (tame_asAgg _) (fun _ _ => ?_)
    | refine Tame.bind' (tame_asAddr _) (fun _ _ => ?_)
    | refine Tame.bind' (tame_newRow _ _) (fun _ _ => ?_)
    | refine Tame.bind' (tame_newVar _ _) (fun _ _ => ?_)
    | refine Tame.bind' (tame_newObj _) (fun _ _ => ?_)
    | refine Tame.bind' (tame_shape _) (fun _ _ => ?_)
    | refine Tame.bind' (tame_choose _) (fun _ _ => ?_)
    | refine Tame.bind' (tame_askRoom _) (fun _ _ => ?_)
    | refine Tame.bind' (tame_load _ _) (fun _ _ => ?_)
    | refine Tame.bind' (tame_store _ _ _) (fun _ _ => ?_)
    | refine Tame.bind' (tame_loadVar _ _) (fun _ _ => ?_)
    | refine Tame.bind' (tame_storeVar _ _ _) (fun _ _ => ?_)
    | refine Tame.bind' (tame_loadCells _ _) (fun _ _ => ?_)
    | refine Tame.bind' (tame_storeCells _ _ _) (fun _ _ => ?_)
    | refine Tame.bind' (tame_part _ _ _) (fun _ _ => ?_)
    | refine Tame.bind' (tame_behind _) (fun _ _ => ?_)
    | refine Tame.bind' (tame_numberAt _) (fun _ _ => ?_)
    | refine Tame.bind' (tame_byteOf _) (fun _ _ => ?_)
    | refine Tame.bind' (tame_fieldPlace _ _) (fun _ _ => ?_)
    | refine Tame.bind' (tame_program) (fun _ _ => ?_)
    | refine Tame.bind' (tame_sliceBound _ _ _) (fun _ _ => ?_)
    | refine Tame.bind' (tame_sliceBounds _ _ _ _ _ _) (fun _ _ => ?_)
    | refine tame_getObj' _ (fun _ _ => rfl) (fun _ => ?_)
    | (refine Tame.bind' (ok := fun _ => True) (tame_pure _ trivial) (fun _ _ => ?_))
    | (refine Tame.bind' (ok := fun _ => True) (tame_stuck _) (fun _ _ => ?_))
    | (refine Tame.bind' (ok := fun _ => True) (tame_unsup _) (fun _ _ => ?_))
    | (refine Tame.bind' (ok := fun _ => True) (tame_rtPanic _) (fun _ _ => ?_))
    | split
    | dsimp only)
theorem tame_field (t : TypeId) (x : Value) (i : Nat) : Tame P (fun _ => True) (Instr.field t x i) := by
  unfold Instr.field
  repeat' (with_reducible first
    | exact tame_stuck _
    | exact tame_unsup _
    | exact tame_rtPanic _
    | exact tame_bounds _ _ _ _
    | exact tame_goPanic _
    | exact tame_pure _ trivial
    | exact tame_under _
    | exact tame_typeInfo _
    | exact tame_zero _
    | exact tame_sizeOf _
    | exact tame_isAgg _
    | exact tame_sureAddr _
    | exact tame_asIntOf _
    | exact tame_asInt _
    | exact tame_asBool _
    | exact tame_asAgg _
    | exact tame_asAddr _
    | exact tame_newRow _ _
    | exact tame_newVar _ _
    | exact tame_newObj _
    | exact tame_shape _
    | exact tame_choose _
    | exact tame_askRoom _
    | exact tame_load _ _
    | exact tame_store _ _ _
    | exact tame_loadVar _ _
    | exact tame_storeVar _ _ _
    | exact tame_loadCells _ _
    | exact tame_storeCells _ _ _
    | exact tame_part _ _ _
    | exact tame_behind _
    | exact tame_numberAt _
    | exact tame_byteOf _
    | exact tame_fieldPlace _ _
    | exact tame_program
    | exact tame_sliceBound _ _ _
    | exact tame_sliceBounds _ _ _ _ _ _
    | refine Tame.bind' (tame_under _) (fun _ _ => ?_)
    | refine Tame.bind' (tame_typeInfo _) (fun _ _ => ?_)
    | refine Tame.bind' (tame_zero _) (fun _ _ => ?_)
    | refine Tame.bind' (tame_sizeOf _) (fun _ _ => ?_)
    | refine Tame.bind' (tame_isAgg _) (fun _ _ => ?_)
    | refine Tame.bind' (tame_sureAddr _) (fun _ _ => ?_)
    | refine Tame.bind' (tame_asIntOf _) (fun _ _ => ?_)
    | refine Tame.bind' (tame_asInt _) (fun _ _ => ?_)
    | refine Tame.bind' (tame_asBool _) (fun _ _ => ?_)
    | refine Tame.bind' (tame_asAgg _) (fun _ _ => ?_)
    | refine Tame.bind' (tame_asAddr _) (fun _ _ => ?_)
    | refine Tame.bind' (tame_newRow _ _) (fun _ _ => ?_)
    | refine Tame.bind' (tame_newVar _ _) (fun _ _ => ?_)
    | refine Tame.bind' (tame_newObj _) (fun _ _ => ?_)
    | refine Tame.bind' (tame_shape _) (fun _ _ => ?_)
    | refine Tame.bind' (tame_choose _) (fun _ _ => ?_)
    | refine Tame.bind' (tame_askRoom _) (fun _ _ => ?_)
    | refine Tame.bind' (tame_load _ _) (fun _ _ => ?_)
    | refine Tame.bind' (tame_store _ _ _) (fun _ _ => ?_)
    | refine Tame.bind' (tame_loadVar _ _) (fun _ _ => ?_)
    | refine Tame.bind' (tame_storeVar _ _ _) (fun _ _ => ?_)
    | refine Tame.bind' (tame_loadCells _ _) (fun _ _ => ?_)
    | refine Tame.bind' (tame_storeCells _ _ _) (fun _ _ => ?_)
    | refine Tame.bind' (tame_part _ _ _) (fun _ _ => ?_)
    | refine Tame.bind' (tame_behind _) (fun _ _ => ?_)
    | refine Tame.bind' (tame_numberAt _) (fun _ _ => ?_)
    | refine Tame.bind' (tame_byteOf _) (fun _ _ => ?_)
    | refine Tame.bind' (tame_fieldPlace _ _) (fun _ _ => ?_)
    | refine Tame.bind' (tame_program) (fun _ _ => ?_)
    | refine Tame.bind' (tame_sliceBound _ _ _) (fun _ _ => ?_)
    | refine Tame.bind' (tame_sliceBounds _ _ _ _ _ _) (fun _ _ => ?_)
    | refine tame_getObj' _ (fun _ _ => rfl) (fun _ => ?_)
    | (refine Tame.bind' (ok := fun _ => True) (tame_pure _ trivial) (fun _ _ => ?_))
    | (refine Tame.bind' (ok := fun _ => True) (tame_stuck _) (fun _ _ => ?_))
    | (refine Tame.bind' (ok := fun _ => True) (tame_unsup _) (fun _ _ => ?_))
    | (refine Tame.bind' (ok := fun _ => True) (tame_rtPanic _) (fun _ _ => ?_))
    | split
    | dsimp only)
theorem tame_makeFunc (f : Fn) (x y : Array Value) : Tame P (fun _ => True) (Instr.makeFunc f x y) := by
  unfold Instr.makeFunc
  repeat' (with_reducible first
    | exact tame_stuck _
    | exact tame_unsup _
    | exact tame_rtPanic _
    | exact tame_bounds _ _ _ _
    | exact tame_goPanic _
    | exact tame_pure _ trivial
    | exact tame_under _
    | exact tame_typeInfo _
    | exact tame_zero _
    | exact tame_sizeOf _
    | exact tame_isAgg _
    | exact tame_sureAddr _
    | exact tame_asIntOf _
    | exact tame_asInt _
    | exact tame_asBool _
    | exact tame_asAgg _
    | exact tame_asAddr _
    | exact tame_newRow _ _
    | exact tame_newVar _ _
    | exact tame_newObj _
    | exact tame_shape _
    | exact tame_choose _
    | exact tame_askRoom _
    | exact tame_load _ _
    | exact tame_store _ _ _
    | exact tame_loadVar _ _
    | exact tame_storeVar _ _ _
    | exact tame_loadCells _ _
    | exact tame_storeCells _ _ _
    | exact tame_part _ _ _
    | exact tame_behind _
    | exact tame_numberAt _
    | exact tame_byteOf _
    | exact tame_fieldPlace _ _
    | exact tame_program
    | exact tame_sliceBound _ _ _
    | exact tame_sliceBounds _ _ _ _ _ _
    | refine Tame.bind' (tame_under _) (fun _ _ => ?_)
    | refine Tame.bind' (tame_typeInfo _) (fun _ _ => ?_)
    | refine Tame.bind' (tame_zero _) (fun _ _ => ?_)
    | refine Tame.bind' (tame_sizeOf _) (fun _ _ => ?_)
    | refine Tame.bind' (tame_isAgg _) (fun _ _ => ?_)
    | refine Tame.bind' (tame_sureAddr _) (fun _ _ => ?_)
    | refine Tame.bind' (tame_asIntOf _) (fun _ _ => ?_)
    | refine Tame.bind' (tame_asInt _) (fun _ _ => ?_)
    | refine Tame.bind' (tame_asBool _) (fun _ _ => ?_)
    | refine Tame.bind' (tame_asAgg _) (fun _ _ => ?_)
    | refine Tame.bind' (tame_asAddr _) (fun _ _ => ?_)
    | refine Tame.bind' (tame_newRow _ _) (fun _ _ => ?_)
    | refine Tame.bind' (tame_newVar _ _) (fun _ _ => ?_)
    | refine Tame.bind' (tame_newObj _) (fun _ _ => ?_)
    | refine Tame.bind' (tame_shape _) (fun _ _ => ?_)
    | refine Tame.bind' (tame_choose _) (fun _ _ => ?_)
    | refine Tame.bind' (tame_askRoom _) (fun _ _ => ?_)
    | refine Tame.bind' (tame_load _ _) (fun _ _ => ?_)
    | refine Tame.bind' (tame_store _ _ _) (fun _ _ => ?_)
    | refine Tame.bind' (tame_loadVar _ _) (fun _ _ => ?_)
    | refine Tame.bind' (tame_storeVar _ _ _) (fun _ _ => ?_)
    | refine Tame.bind' (tame_loadCells _ _) (fun _ _ => ?_)
    | refine Tame.bind' (tame_storeCells _ _ _) (fun _ _ => ?_)
    | refine Tame.bind' (tame_part _ _ _) (fun _ _ => ?_)
    | refine Tame.bind' (tame_behind _) (fun _ _ => ?_)
    | refine Tame.bind' (tame_numberAt _) (fun _ _ => ?_)
    | refine Tame.bind' (tame_byteOf _) (fun _ _ => ?_)
    | refine Tame.bind' (tame_fieldPlace _ _) (fun _ _ => ?_)
    | refine Tame.bind' (tame_program) (fun _ _ => ?_)
    | refine Tame.bind' (tame_sliceBound _ _ _) (fun _ _ => ?_)
    | refine Tame.bind' (tame_sliceBounds _ _ _ _ _ _) (fun _ _ => ?_)
    | refine tame_getObj' _ (fun _ _ => rfl) (fun _ => ?_)
    | (refine Tame.bind' (ok := fun _ => True) (tame_pure _ trivial) (fun _ _ => ?_))
    | (refine Tame.bind' (ok := fun _ => True) (tame_stuck _) (fun _ _ => ?_))
    | (refine Tame.bind' (ok := fun _ => True) (tame_unsup _) (fun _ _ => ?_))
    | (refine Tame.bind' (ok := fun _ => True) (tame_rtPanic _) (fun _ _ => ?_))
    | split
    | dsimp only)
theorem tame_makeChan (t : TypeId) (x : Value) : Tame P (fun _ => True) (Instr.makeChan t x) := by
  unfold Instr.makeChan
  repeat' (with_reducible first
    | exact tame_stuck _
    | exact tame_unsup _
    | exact tame_rtPanic _
    | exact tame_bounds _ _ _ _
    | exact tame_goPanic _
    | exact tame_pure _ trivial
    | exact tame_under _
    | exact tame_typeInfo _
    | exact tame_zero _
    | exact tame_sizeOf _
    | exact tame_isAgg _
    | exact tame_sureAddr _
    | exact tame_asIntOf _
    | exact tame_asInt _
    | exact tame_asBool _
    | exact tame_asAgg _
    | exact tame_asAddr _
    | exact tame_newRow _ _
    | exact tame_newVar _ _
    | exact tame_newObj _
    | exact tame_shape _
    | exact tame_choose _
    | exact tame_askRoom _
    | exact tame_load _ _
    | exact tame_store _ _ _
    | exact tame_loadVar _ _
    | exact tame_storeVar _ _ _
    | exact tame_loadCells _ _
    | exact tame_storeCells _ _ _
    | exact tame_part _ _ _
    | exact tame_behind _
    | exact tame_numberAt _
    | exact tame_byteOf _
    | exact tame_fieldPlace _ _
    | exact tame_program
    | exact tame_sliceBound _ _ _
    | exact tame_sliceBounds _ _ _ _ _ _
    | refine Tame.bind' (tame_under _) (fun _ _ => ?_)
    | refine Tame.bind' (tame_typeInfo _) (fun _ _ => ?_)
    | refine Tame.bind' (tame_zero _) (fun _ _ => ?_)
    | refine Tame.bind' (tame_sizeOf _) (fun _ _ => ?_)
    | refine Tame.bind' (tame_isAgg _) (fun _ _ => ?_)
    | refine Tame.bind' (tame_sureAddr _) (fun _ _ => ?_)
    | refine Tame.bind' (tame_asIntOf _) (fun _ _ => ?_)
    | refine Tame.bind' (tame_asInt _) (fun _ _ => ?_)
    | refine Tame.bind' (tame_asBool _) (fun _ _ => ?_)
    | refine Tame.bind' (tame_asAgg _) (fun _ _ => ?_)
    | refine Tame.bind' (tame_asAddr _) (fun _ _ => ?_)
    | refine Tame.bind' (tame_newRow _ _) (fun _ _ => ?_)
    | refine Tame.bind' (tame_newVar _ _) (fun _ _ => ?_)
    | refine Tame.bind' (tame_newObj _) (fun _ _ => ?_)
    | refine Tame.bind' (tame_shape _) (fun _ _ => ?_)
    | refine Tame.bind' (tame_choose _) (fun _ _ => ?_)
    | refine Tame.bind' (tame_askRoom _) (fun _ _ => ?_)
    | refine Tame.bind' (tame_load _ _) (fun _ _ => ?_)
    | refine Tame.bind' (tame_store _ _ _) (fun _ _ => ?_)
    | refine Tame.bind' (tame_loadVar _ _) (fun _ _ => ?_)
    | refine Tame.bind' (tame_storeVar _ _ _) (fun _ _ => ?_)
    | refine Tame.bind' (tame_loadCells _ _) (fun _ _ => ?_)
    | refine Tame.bind' (tame_storeCells _ _ _) (fun _ _ => ?_)
    | refine Tame.bind' (tame_part _ _ _) (fun _ _ => ?_)
    | refine Tame.bind' (tame_behind _) (fun _ _ => ?_)
    | refine Tame.bind' (tame_numberAt _) (fun _ _ => ?_)
    | refine Tame.bind' (tame_byteOf _) (fun _ _ => ?_)
    | refine Tame.bind' (tame_fieldPlace _ _) (fun _ _ => ?_)
    | refine Tame.bind' (tame_program) (fun _ _ => ?_)
    | refine Tame.bind' (tame_sliceBound _ _ _) (fun _ _ => ?_)
    | refine Tame.bind' (tame_sliceBounds _ _ _ _ _ _) (fun _ _ => ?_)
    | refine tame_getObj' _ (fun _ _ => rfl) (fun _ => ?_)
    | (refine Tame.bind' (ok := fun _ => True) (tame_pure _ trivial) (fun _ _ => ?_))
    | (refine Tame.bind' (ok := fun _ => True) (tame_stuck _) (fun _ _ => ?_))
    | (refine Tame.bind' (ok := fun _ => True) (tame_unsup _) (fun _ _ => ?_))
    | (refine Tame.bind' (ok := fun _ => True) (tame_rtPanic _) (fun _ _ => ?_))
    | split
    | dsimp only)
theorem tame_makeSlice (t : TypeId) (x y : Value) : Tame P (fun _ => True) (Instr.makeSlice t x y) := by
  unfold Instr.makeSlice
  repeat' (with_reducible first
    | exact tame_stuck _
    | exact tame_unsup _
    | exact tame_rtPanic _
    | exact tame_bounds _ _ _ _
    | exact tame_goPanic _
    | exact tame_pure _ trivial
    | exact tame_under _
    | exact tame_typeInfo _
    | exact tame_zero _
    | exact tame_sizeOf _
    | exact tame_isAgg _
    | exact tame_sureAddr _
    | exact tame_asIntOf _
    | exact tame_asInt _
    | exact tame_asBool _
    | exact tame_asAgg _
    | exact tame_asAddr _
    | exact tame_newRow _ _
    | exact tame_newVar _ _
    | exact tame_newObj _
    | exact tame_shape _
    | exact tame_choose _
    | exact tame_askRoom _
    | exact tame_load _ _
    | exact tame_store _ _ _
    | exact tame_loadVar _ _
    | exact tame_storeVar _ _ _
    | exact tame_loadCells _ _
    | exact tame_storeCells _ _ _
    | exact tame_part _ _ _
    | exact tame_behind _
    | exact tame_numberAt _
    | exact tame_byteOf _
    | exact tame_fieldPlace _ _
    | exact tame_program
    | exact tame_sliceBound _ _ _
    | exact tame_sliceBounds _ _ _ _ _ _
    | refine Tame.bind' (tame_under _) (fun _ _ => ?_)
    | refine Tame.bind' (tame_typeInfo _) (fun _ _ => ?_)
    | refine Tame.bind' (tame_zero _) (fun _ _ => ?_)
    | refine Tame.bind' (tame_sizeOf _) (fun _ _ => ?_)
    | refine Tame.bind' (tame_isAgg _) (fun _ _ => ?_)
    | refine Tame.bind' (tame_sureAddr _) (fun _ _ => ?_)
    | refine Tame.bind' (tame_asIntOf _) (fun _ _ => ?_)
    | refine Tame.bind' (tame_asInt _) (fun _ _ => ?_)
    | refine Tame.bind' (tame_asBool _) (fun _ _ => ?_)
    | refine Tame.bind' (tame_asAgg _) (fun _ _ => ?_)
    | refine Tame.bind' (tame_asAddr _) (fun _ _ => ?_)
    | refine Tame.bind' (tame_newRow _ _) (fun _ _ => ?_)
    | refine Tame.bind' (tame_newVar _ _) (fun _ _ => ?_)
    | refine Tame.bind' (tame_newObj _) (fun _ _ => ?_)
    | refine Tame.bind' (tame_shape _) (fun _ _ => ?_)
    | refine Tame.bind' (tame_choose _) (fun _ _ => ?_)
    | refine Tame.bind' (tame_askRoom _) (fun _ _ => ?_)
    | refine Tame.bind' (tame_load _ _) (fun _ _ => ?_)
    | refine Tame.bind' (tame_store _ _ _) (fun _ _ => ?_)
    | refine Tame.bind' (tame_loadVar _ _) (fun _ _ => ?_)
    | refine Tame.bind' (tame_storeVar _ _ _) (fun _ _ => ?_)
    | refine Tame.bind' (tame_loadCells _ _) (fun _ _ => ?_)
    | refine Tame.bind' (tame_storeCells _ _ _) (fun _ _ => ?_)
    | refine Tame.bind' (tame_part _ _ _) (fun _ _ => ?_)
    | refine Tame.bind' (tame_behind _) (fun _ _ => ?_)
    | refine Tame.bind' (tame_numberAt _) (fun _ _ => ?_)
    | refine Tame.bind' (tame_byteOf _) (fun _ _ => ?_)
    | refine Tame.bind' (tame_fieldPlace _ _) (fun _ _ => ?_)
    | refine Tame.bind' (tame_program) (fun _ _ => ?_)
    | refine Tame.bind' (tame_sliceBound _ _ _) (fun _ _ => ?_)
    | refine Tame.bind' (tame_sliceBounds _ _ _ _ _ _) (fun _ _ => ?_)
    | refine tame_getObj' _ (fun _ _ => rfl) (fun _ => ?_)
    | (refine Tame.bind' (ok := fun _ => True) (tame_pure _ trivial) (fun _ _ => ?_))
    | (refine Tame.bind' (ok := fun _ => True) (tame_stuck _) (fun _ _ => ?_))
    | (refine Tame.bind' (ok := fun _ => True) (tame_unsup _) (fun _ _ => ?_))
    | (refine Tame.bind' (ok := fun _ => True) (tame_rtPanic _) (fun _ _ => ?_))
    | split
    | dsimp only)
theorem tame_lenOf (x : Value) : Tame P (fun _ => True) (Builtin.lenOf x) := by
  unfold Builtin.lenOf
  repeat' (with_reducible first
    | exact tame_stuck _
    | exact tame_unsup _
    | exact tame_rtPanic _
    | exact tame_bounds _ _ _ _
    | exact tame_goPanic _
    | exact tame_pure _ trivial
    | exact tame_under _
    | exact tame_typeInfo _
    | exact tame_zero _
    | exact tame_sizeOf _
    | exact tame_isAgg _
    | exact tame_sureAddr _
    | exact tame_asIntOf _
    | exact tame_asInt _
    | exact tame_asBool _
    | exact tame_asAgg _
    | exact tame_asAddr _
    | exact tame_newRow _ _
    | exact tame_newVar _ _
    | exact tame_newObj _
    | exact tame_shape _
    | exact tame_choose _
    | exact tame_askRoom _
    | exact tame_load _ _
    | exact tame_store _ _ _
    | exact tame_loadVar _ _
    | exact tame_storeVar _ _ _
    | exact tame_loadCells _ _
    | exact tame_storeCells _ _ _
    | exact tame_part _ _ _
    | exact tame_behind _
    | exact tame_numberAt _
    | exact tame_byteOf _
    | exact tame_fieldPlace _ _
    | exact tame_program
    | exact tame_sliceBound _ _ _
    | exact tame_sliceBounds _ _ _ _ _ _
    | refine Tame.bind' (tame_under _) (fun _ _ => ?_)
    | refine Tame.bind' (tame_typeInfo _) (fun _ _ => ?_)
    | refine Tame.bind' (tame_zero _) (fun _ _ => ?_)
    | refine Tame.bind' (tame_sizeOf _) (fun _ _ => ?_)
    | refine Tame.bind' (tame_isAgg _) (fun _ _ => ?_)
    | refine Tame.bind' (tame_sureAddr _) (fun _ _ => ?_)
    | refine Tame.bind' (tame_asIntOf _) (fun _ _ => ?_)
    | refine Tame.bind' (tame_asInt _) (fun _ _ => ?_)
    | refine Tame.bind' (tame_asBool _) (fun _ _ => ?_)
    | refine Tame.bind' (tame_asAgg _) (fun _ _ => ?_)
    | refine Tame.bind' (tame_asAddr _) (fun _ _ => ?_)
    | refine Tame.bind' (tame_newRow _ _) (fun _ _ => ?_)
    | refine Tame.bind' (tame_newVar _ _) (fun _ _ => ?_)
    | refine Tame.bind' (tame_newObj _) (fun _ _ => ?_)
    | refine Tame.bind' (tame_shape _) (fun _ _ => ?_)
    | refine Tame.bind' (tame_choose _) (fun _ _ => ?_)
    | refine Tame.bind' (tame_askRoom _) (fun _ _ => ?_)
    | refine Tame.bind' (tame_load _ _) (fun _ _ => ?_)
    | refine Tame.bind' (tame_store _ _ _) (fun _ _ => ?_)
    | refine Tame.bind' (tame_loadVar _ _) (fun _ _ => ?_)
    | refine Tame.bind' (tame_storeVar _ _ _) (fun _ _ => ?_)
    | refine Tame.bind' (tame_loadCells _ _) (fun _ _ => ?_)
    | refine Tame.bind' (tame_storeCells _ _ _) (fun _ _ => ?_)
    | refine Tame.bind' (tame_part _ _ _) (fun _ _ => ?_)
    | refine Tame.bind' (tame_behind _) (fun _ _ => ?_)
    | refine Tame.bind' (tame_numberAt _) (fun _ _ => ?_)
    | refine Tame.bind' (tame_byteOf _) (fun _ _ => ?_)
    | refine Tame.bind' (tame_fieldPlace _ _) (fun _ _ => ?_)
    | refine Tame.bind' (tame_program) (fun _ _ => ?_)
    | refine Tame.bind' (tame_sliceBound _ _ _) (fun _ _ => ?_)
    | refine Tame.bind' (tame_sliceBounds _ _ _ _ _ _) (fun _ _ => ?_)
    | refine tame_getObj' _ (fun _ _ => rfl) (fun _ => ?_)
    | (refine Tame.bind' (ok := fun _ => True) (tame_pure _ trivial) (fun _ _ => ?_))
    | (refine Tame.bind' (ok := fun _ => True) (tame_stuck _) (fun _ _ => ?_))
    | (refine Tame.bind' (ok := fun _ => True) (tame_unsup _) (fun _ _ => ?_))
    | (refine Tame.bind' (ok := fun _ => True) (tame_rtPanic _) (fun _ _ => ?_))
    | split
    | dsimp only)
theorem tame_firstCells (a b : Nat) (x : Value) : Tame P (fun _ => True) (Builtin.firstCells a b x) := by
  unfold Builtin.firstCells
  repeat' (with_reducible first
    | exact tame_stuck _
    | exact tame_unsup _
    | exact tame_rtPanic _
    | exact tame_bounds _ _ _ _
    | exact tame_goPanic _
    | exact tame_pure _ trivial
    | exact tame_under _
    | exact tame_typeInfo _
    | exact tame_zero _
    | exact tame_sizeOf _
    | exact tame_isAgg _
    | exact tame_sureAddr _
    | exact tame_asIntOf _
    | exact tame_asInt _
    | exact tame_asBool _
    | exact tame_asAgg _
    | exact tame_asAddr _
    | exact tame_newRow _ _
    | exact tame_newVar _ _
    | exact tame_newObj _
    | exact tame_shape _
    | exact tame_choose _
    | exact tame_askRoom _
    | exact tame_load _ _
    | exact tame_store _ _ _
    | exact tame_loadVar _ _
    | exact tame_storeVar _ _ _
    | exact tame_loadCells _ _
    | exact tame_storeCells _ _ _
    | exact tame_part _ _ _
    | exact tame_behind _
    | exact tame_numberAt _
    | exact tame_byteOf _
    | exact tame_fieldPlace _ _
    | exact tame_program
    | exact tame_lenOf _
    | exact tame_sliceBound _ _ _
    | exact tame_sliceBounds _ _ _ _ _ _
    | refine Tame.bind' (tame_under _) (fun _ _ => ?_)
    | refine Tame.bind' (tame_typeInfo _) (fun _ _ => ?_)
    | refine Tame.bind' (tame_zero _) (fun _ _ => ?_)
    | refine Tame.bind' (tame_sizeOf _) (fun _ _ => ?_)
    | refine Tame.bind' (tame_isAgg _) (fun _ _ => ?_)
    | refine Tame.bind' (tame_sureAddr _) (fun _ _ => ?_)
    | refine Tame.bind' (tame_asIntOf _) (fun _ _ => ?_)
    | refine Tame.bind' (tame_asInt _) (fun _ _ => ?_)
    | refine Tame.bind' (tame_asBool _) (fun _ _ => ?_)
    | refine Tame.bind' (tame_asAgg _) (fun _ _ => ?_)
    | refine Tame.bind' (tame_asAddr _) (fun _ _ => ?_)
    | refine Tame.bind' (tame_newRow _ _) (fun _ _ => ?_)
    | refine Tame.bind' (tame_newVar _ _) (fun _ _ => ?_)
    | refine Tame.bind' (tame_newObj _) (fun _ _ => ?_)
    | refine Tame.bind' (tame_shape _) (fun _ _ => ?_)
    | refine Tame.bind' (tame_choose _) (fun _ _ => ?_)
    | refine Tame.bind' (tame_askRoom _) (fun _ _ => ?_)
    | refine Tame.bind' (tame_load _ _) (fun _ _ => ?_)
    | refine Tame.bind' (tame_store _ _ _) (fun _ _ => ?_)
    | refine Tame.bind' (tame_loadVar _ _) (fun _ _ => ?_)
    | refine Tame.bind' (tame_storeVar _ _ _) (fun _ _ => ?_)
    | refine Tame.bind' (tame_loadCells _ _) (fun _ _ => ?_)
    | refine Tame.bind' (tame_storeCells _ _ _) (fun _ _ => ?_)
    | refine Tame.bind' (tame_part _ _ _) (fun _ _ => ?_)
    | refine Tame.bind' (tame_behind _) (fun _ _ => ?_)
    | refine Tame.bind' (tame_numberAt _) (fun _ _ => ?_)
    | refine Tame.bind' (tame_byteOf _) (fun _ _ => ?_)
    | refine Tame.bind' (tame_fieldPlace _ _) (fun _ _ => ?_)
    | refine Tame.bind' (tame_program) (fun _ _ => ?_)
    | refine Tame.bind' (tame_lenOf _) (fun _ _ => ?_)
    | refine Tame.bind' (tame_sliceBound _ _ _) (fun _ _ => ?_)
    | refine Tame.bind' (tame_sliceBounds _ _ _ _ _ _) (fun _ _ => ?_)
    | refine tame_getObj' _ (fun _ _ => rfl) (fun _ => ?_)
    | (refine Tame.bind' (ok := fun _ => True) (tame_pure _ trivial) (fun _ _ => ?_))
    | (refine Tame.bind' (ok := fun _ => True) (tame_stuck _) (fun _ _ => ?_))
    | (refine Tame.bind' (ok := fun _ => True) (tame_unsup _) (fun _ _ => ?_))
    | (refine Tame.bind' (ok := fun _ => True) (tame_rtPanic _) (fun _ _ => ?_))
    | split
    | dsimp only)
theorem tame_len (a : Array TypeId) (t : TypeId) (x : Array Value) : Tame P (fun _ => True) (Builtin.len_ a t x) := by
  unfold Builtin.len_
  repeat' (with_reducible first
    | exact tame_stuck _
    | exact tame_unsup _
    | exact tame_rtPanic _
    | exact tame_bounds _ _ _ _
    | exact tame_goPanic _
    | exact tame_pure _ trivial
    | exact tame_under _
    | exact tame_typeInfo _
    | exact tame_zero _
    | exact tame_sizeOf _
    | exact tame_isAgg _
    | exact tame_sureAddr _
    | exact tame_asIntOf _
    | exact tame_asInt _
    | exact tame_asBool _
    | exact tame_asAgg _
    | exact tame_asAddr _
    | exact tame_newRow _ _
    | exact tame_newVar _ _
    | exact tame_newObj _
    | exact tame_shape _
    | exact tame_choose _
    | exact tame_askRoom _
    | exact tame_load _ _
    | exact tame_store _ _ _
    | exact tame_loadVar _ _
    | exact tame_storeVar _ _ _
    | exact tame_loadCells _ _
    | exact tame_storeCells _ _ _
    | exact tame_part _ _ _
    | exact tame_behind _
    | exact tame_numberAt _
    | exact tame_byteOf _
    | exact tame_fieldPlace _ _
    | exact tame_program
    | exact tame_lenOf _
    | exact tame_firstCells _ _ _
    | exact tame_sliceBound _ _ _
    | exact tame_sliceBounds _ _ _ _ _ _
    | refine Tame.bind' (tame_under _) (fun _ _ => ?_)
    | refine Tame.bind' (tame_typeInfo _) (fun _ _ => ?_)
    | refine Tame.bind' (tame_zero _) (fun _ _ => ?_)
    | refine Tame.bind' (tame_sizeOf _) (fun _ _ => ?_)
    | refine Tame.bind' (tame_isAgg _) (fun _ _ => ?_)
    | refine Tame.bind' (tame_sureAddr _) (fun _ _ => ?_)
    | refine Tame.bind' (tame_asIntOf _) (fun _ _ => ?_)
    | refine Tame.bind' (tame_asInt _) (fun _ _ => ?_)
    | refine Tame.bind' (tame_asBool _) (fun _ _ => ?_)
    | refine Tame.bind' (tame_asAgg _) (fun _ _ => ?_)
    | refine Tame.bind' (tame_asAddr _) (fun _ _ => ?_)
    | refine Tame.bind' (tame_newRow _ _) (fun _ _ => ?_)
    | refine Tame.bind' (tame_newVar _ _) (fun _ _ => ?_)
    | refine Tame.bind' (tame_newObj _) (fun _ _ => ?_)
    | refine Tame.bind' (tame_shape _) (fun _ _ => ?_)
    | refine Tame.bind' (tame_choose _) (fun _ _ => ?_)
    | refine Tame.bind' (tame_askRoom _) (fun _ _ => ?_)
    | refine Tame.bind' (tame_load _ _) (fun _ _ => ?_)
    | refine Tame.bind' (tame_store _ _ _) (fun _ _ => ?_)
    | refine Tame.bind' (tame_loadVar _ _) (fun _ _ => ?_)
    | refine Tame.bind' (tame_storeVar _ _ _) (fun _ _ => ?_)
    | refine Tame.bind' (tame_loadCells _ _) (fun _ _ => ?_)
    | refine Tame.bind' (tame_storeCells _ _ _) (fun _ _ => ?_)
    | refine Tame.bind' (tame_part _ _ _) (fun _ _ => ?_)
    | refine Tame.bind' (tame_behind _) (fun _ _ => ?_)
    | refine Tame.bind' (tame_numberAt _) (fun _ _ => ?_)
    | refine Tame.bind' (tame_byteOf _) (fun _ _ => ?_)
    | refine Tame.bind' (tame_fieldPlace _ _) (fun _ _ => ?_)
    | refine Tame.bind' (tame_program) (fun _ _ => ?_)
    | refine Tame.bind' (tame_lenOf _) (fun _ _ => ?_)
    | refine Tame.bind' (tame_firstCells _ _ _) (fun _ _ => ?_)
    | refine Tame.bind' (tame_sliceBound _ _ _) (fun _ _ => ?_)
    | refine Tame.bind' (tame_sliceBounds _ _ _ _ _ _) (fun _ _ => ?_)
    | refine tame_getObj' _ (fun _ _ => rfl) (fun _ => ?_)
    | (refine Tame.bind' (ok := fun _ => True) (tame_pure _ trivial) (fun _ _ => ?_))
    | (refine Tame.bind' (ok := fun _ => True) (tame_stuck _) (fun _ _ => ?_))
    | (refine Tame.bind' (ok := fun _ => True) (tame_unsup _) (fun _ _ => ?_))
    | (refine Tame.bind' (ok := fun _ => True) (tame_rtPanic _) (fun _ _ => ?_))
    | split
    | dsimp only)
theorem tame_cap (a : Array TypeId) (t : TypeId) (x : Array Value) : Tame P (fun _ => True) (Builtin.cap_ a t x) := by
  unfold Builtin.cap_
  repeat' (with_reducible first
    | exact tame_stuck _
    | exact tame_unsup _
    | exact tame_rtPanic _
    | exact tame_bounds _ _ _ _
    | exact tame_goPanic _
    | exact tame_pure _ trivial
    | exact tame_under _
    | exact tame_typeInfo _
    | exact tame_zero _
    | exact tame_sizeOf _
    | exact tame_isAgg _
    | exact tame_sureAddr _
    | exact tame_asIntOf _
    | exact tame_asInt _
    | exact tame_asBool _
    | exact tame_asAgg _
    | exact tame_asAddr _
    | exact tame_newRow _ _
    | exact tame_newVar _ _
    | exact tame_newObj _
    | exact tame_shape _
    | exact tame_choose _
    | exact tame_askRoom _
    | exact tame_load _ _
    | exact tame_store _ _ _
    | exact tame_loadVar _ _
    | exact tame_storeVar _ _ _
    | exact tame_loadCells _ _
    | exact tame_storeCells _ _ _
    | exact tame_part _ _ _
    | exact tame_behind _
    | exact tame_numberAt _
    | exact tame_byteOf _
    | exact tame_fieldPlace _ _
    | exact tame_program
    | exact tame_lenOf _
    | exact tame_firstCells _ _ _
    | exact tame_sliceBound _ _ _
    | exact tame_sliceBounds _ _ _ _ _ _
    | refine Tame.bind' (tame_under _) (fun _ _ => ?_)
    | refine Tame.bind' (tame_typeInfo _) (fun _ _ => ?_)
    | refine Tame.bind' (tame_zero _) (fun _ _ => ?_)
    | refine Tame.bind' (tame_sizeOf _) (fun _ _ => ?_)
    | refine Tame.bind' (tame_isAgg _) (fun _ _ => ?_)
    | refine Tame.bind' (tame_sureAddr _) (fun _ _ => ?_)
    | refine Tame.bind' (tame_asIntOf _) (fun _ _ => ?_)
    | refine Tame.bind' (tame_asInt _) (fun _ _ => ?_)
    | refine Tame.bind' (tame_asBool _) (fun _ _ => ?_)
    | refine Tame.bind' (tame_asAgg _) (fun _ _ => ?_)
    | refine Tame.bind' (tame_asAddr _) (fun _ _ => ?_)
    | refine Tame.bind' (tame_newRow _ _) (fun _ _ => ?_)
    | refine Tame.bind' (tame_newVar _ _) (fun _ _ => ?_)
    | refine Tame.bind' (tame_newObj _) (fun _ _ => ?_)
    | refine Tame.bind' (tame_shape _) (fun _ _ => ?_)
    | refine Tame.bind' (tame_choose _) (fun _ _ => ?_)
    | refine Tame.bind' (tame_askRoom _) (fun _ _ => ?_)
    | refine Tame.bind' (tame_load _ _) (fun _ _ => ?_)
    | refine Tame.bind' (tame_store _ _ _) (fun _ _ => ?_)
    | refine Tame.bind' (tame_loadVar _ _) (fun _ _ => ?_)
    | refine Tame.bind' (tame_storeVar _ _ _) (fun _ _ => ?_)
    | refine Tame.bind' (tame_loadCells _ _) (fun _ _ => ?_)
    | refine Tame.bind' (tame_storeCells _ _ _) (fun _ _ => ?_)
    | refine Tame.bind' (tame_part _ _ _) (fun _ _ => ?_)
    | refine Tame.bind' (tame_behind _) (fun _ _ => ?_)
    | refine Tame.bind' (tame_numberAt _) (fun _ _ => ?_)
    | refine Tame.bind' (tame_byteOf _) (fun _ _ => ?_)
    | refine Tame.bind' (tame_fieldPlace _ _) (fun _ _ => ?_)
    | refine Tame.bind' (tame_program) (fun _ _ => ?_)
    | refine Tame.bind' (tame_lenOf _) (fun _ _ => ?_)
    | refine Tame.bind' (tame_firstCells _ _ _) (fun _ _ => ?_)
    | refine Tame.bind' (tame_sliceBound _ _ _) (fun _ _ => ?_)
    | refine Tame.bind' (tame_sliceBounds _ _ _ _ _ _) (fun _ _ => ?_)
    | refine tame_getObj' _ (fun _ _ => rfl) (fun _ => ?_)
    | (refine Tame.bind' (ok := fun _ => True) (tame_pure _ trivial) (fun _ _ => ?_))
    | (refine Tame.bind' (ok := fun _ => True) (tame_stuck _) (fun _ _ => ?_))
    | (refine Tame.bind' (ok := fun _ => True) (tame_unsup _) (fun _ _ => ?_))
    | (refine Tame.bind' (ok := fun _ => True) (tame_rtPanic _) (fun _ _ => ?_))
    | split
    | dsimp only)
theorem tame_copy (a : Array TypeId) (t : TypeId) (x : Array Value) : Tame P (fun _ => True) (Builtin.copy_ a t x) := by
  unfold Builtin.copy_
  repeat' (with_reducible first
    | exact tame_stuck _
    | exact tame_unsup _
    | exact tame_rtPanic _
    | exact tame_bounds _ _ _ _
    | exact tame_goPanic _
    | exact tame_pure _ trivial
    | exact tame_under _
    | exact tame_typeInfo _
    | exact tame_zero _
    | exact tame_sizeOf _
    | exact tame_isAgg _
    | exact tame_sureAddr _
    | exact tame_asIntOf _
    | exact tame_asInt _
    | exact tame_asBool _
    | exact tame_asAgg _
    | exact tame_asAddr _
    | exact tame_newRow _ _
    | exact tame_newVar _ _
    | exact tame_newObj _
    | exact tame_shape _
    | exact tame_choose _
    | exact tame_askRoom _
    | exact tame_load _ _
    | exact tame_store _ _ _
    | exact tame_loadVar _ _
    | exact tame_storeVar _ _ _
    | exact tame_loadCells _ _
    | exact tame_storeCells _ _ _
    | exact tame_part _ _ _
    | exact tame_behind _
    | exact tame_numberAt _
    | exact tame_byteOf _
    | exact tame_fieldPlace _ _
    | exact tame_program
    | exact tame_lenOf _
    | exact tame_firstCells _ _ _
    | exact tame_sliceBound _ _ _
    | exact tame_sliceBounds _ _ _ _ _ _
    | refine Tame.bind' (tame_under _) (fun _ _ => ?_)
    | refine Tame.bind' (tame_typeInfo _) (fun _ _ => ?_)
    | refine Tame.bind' (tame_zero _) (fun _ _ => ?_)
    | refine Tame.bind' (tame_sizeOf _) (fun _ _ => ?_)
    | refine Tame.bind' (tame_isAgg _) (fun _ _ => ?_)
    | refine Tame.bind' (tame_sureAddr _) (fun _ _ => ?_)
    | refine Tame.bind' (tame_asIntOf _) (fun _ _ => ?_)
    | refine Tame.bind' (tame_asInt _) (fun _ _ => ?_)
    | refine Tame.bind' (tame_asBool _) (fun _ _ => ?_)
    | refine Tame.bind' (tame_asAgg _) (fun _ _ => ?_)
    | refine Tame.bind' (tame_asAddr _) (fun _ _ => ?_)
    | refine Tame.bind' (tame_newRow _ _) (fun _ _ => ?_)
    | refine Tame.bind' (tame_newVar _ _) (fun _ _ => ?_)
    | refine Tame.bind' (tame_newObj _) (fun _ _ => ?_)
    | refine Tame.bind' (tame_shape _) (fun _ _ => ?_)
    | refine Tame.bind' (tame_choose _) (fun _ _ => ?_)
    | refine Tame.bind' (tame_askRoom _) (fun _ _ => ?_)
    | refine Tame.bind' (tame_load _ _) (fun _ _ => ?_)
    | refine Tame.bind' (tame_store _ _ _) (fun _ _ => ?_)
    | refine Tame.bind' (tame_loadVar _ _) (fun _ _ => ?_)
    | refine Tame.bind' (tame_storeVar _ _ _) (fun _ _ => ?_)
    | refine Tame.bind' (tame_loadCells _ _) (fun _ _ => ?_)
    | refine Tame.bind' (tame_storeCells _ _ _) (fun _ _ => ?_)
    | refine Tame.bind' (tame_part _ _ _) (fun _ _ => ?_)
    | refine Tame.bind' (tame_behind _) (fun _ _ => ?_)
    | refine Tame.bind' (tame_numberAt _) (fun _ _ => ?_)
    | refine Tame.bind' (tame_byteOf _) (fun _ _ => ?_)
    | refine Tame.bind' (tame_fieldPlace _ _) (fun _ _ => ?_)
    | refine Tame.bind' (tame_program) (fun _ _ => ?_)
    | refine Tame.bind' (tame_lenOf _) (fun _ _ => ?_)
    | refine Tame.bind' (tame_firstCells _ _ _) (fun _ _ => ?_)
    | refine Tame.bind' (tame_sliceBound _ _ _) (fun _ _ => ?_)
    | refine Tame.bind' (tame_sliceBounds _ _ _ _ _ _) (fun _ _ => ?_)
    | refine tame_getObj' _ (fun _ _ => rfl) (fun _ => ?_)
    | (refine Tame.bind' (ok := fun _ => True) (tame_pure _ trivial) (fun _ _ => ?_))
    | (refine Tame.bind' (ok := fun _ => True) (tame_stuck _) (fun _ _ => ?_))
    | (refine Tame.bind' (ok := fun _ => True) (tame_unsup _) (fun _ _ => ?_))
    | (refine Tame.bind' (ok := fun _ => True) (tame_rtPanic _) (fun _ _ => ?_))
    | split
    | dsimp only)
theorem tame_intArith (o : BinOp) (k : IntKind) (x y : Int) : Tame P (fun _ => True) (Op.intArith o k x y) := by
  unfold Op.intArith
  repeat' (with_reducible first
    | exact tame_stuck _
    | exact tame_unsup _
    | exact tame_rtPanic _
    | exact tame_bounds _ _ _ _
    | exact tame_goPanic _
    | exact tame_pure _ trivial
    | exact tame_under _
    | exact tame_typeInfo _
    | exact tame_zero _
    | exact tame_sizeOf _
    | exact tame_isAgg _
    | exact tame_sureAddr _
    | exact tame_asIntOf _
    | exact tame_asInt _
    | exact tame_asBool _
    | exact tame_asAgg _
    | exact tame_asAddr _
    | exact tame_newRow _ _
    | exact tame_newVar _ _
    | exact tame_newObj _
    | exact tame_shape _
    | exact tame_choose _
    | exact tame_askRoom _
    | exact tame_load _ _
    | exact tame_store _ _ _
    | exact tame_loadVar _ _
    | exact tame_storeVar _ _ _
    | exact tame_loadCells _ _
    | exact tame_storeCells _ _ _
    | exact tame_part _ _ _
    | exact tame_behind _
    | exact tame_numberAt _
    | exact tame_byteOf _
    | exact tame_fieldPlace _ _
    | exact tame_program
    | exact tame_lenOf _
    | exact tame_firstCells _ _ _
    | exact tame_sliceBound _ _ _
    | exact tame_sliceBounds _ _ _ _ _ _
    | refine Tame.bind' (tame_under _) (fun _ _ => ?_)
    | refine Tame.bind' (tame_typeInfo _) (fun _ _ => ?_)
    | refine Tame.bind' (tame_zero _) (fun _ _ => ?_)
    | refine Tame.bind' (tame_sizeOf _) (fun _ _ => ?_)
    | refine Tame.bind' (tame_isAgg _) (fun _ _ => ?_)
    | refine Tame.bind' (tame_sureAddr _) (fun _ _ => ?_)
    | refine Tame.bind' (tame_asIntOf _) (fun _ _ => ?_)
    | refine Tame.bind' (tame_asInt _) (fun _ _ => ?_)
    | refine Tame.bind' (tame_asBool _) (fun _ _ => ?_)
    | refine Tame.bind' (tame_asAgg _) (fun _ _ => ?_)
    | refine Tame.bind' (tame_asAddr _) (fun _ _ => ?_)
    | refine Tame.bind' (tame_newRow _ _) (fun _ _ => ?_)
    | refine Tame.bind' (tame_newVar _ _) (fun _ _ => ?_)
    | refine Tame.bind' (tame_newObj _) (fun _ _ => ?_)
    | refine Tame.bind' (tame_shape _) (fun _ _ => ?_)
    | refine Tame.bind' (tame_choose _) (fun _ _ => ?_)
    | refine Tame.bind' (tame_askRoom _) (fun _ _ => ?_)
    | refine Tame.bind' (tame_load _ _) (fun _ _ => ?_)
    | refine Tame.bind' (tame_store _ _ _) (fun _ _ => ?_)
    | refine Tame.bind' (tame_loadVar _ _) (fun _ _ => ?_)
    | refine Tame.bind' (tame_storeVar _ _ _) (fun _ _ => ?_)
    | refine Tame.bind' (tame_loadCells _ _) (fun _ _ => ?_)
    | refine Tame.bind' (tame_storeCells _ _ _) (fun _ _ => ?_)
    | refine Tame.bind' (tame_part _ _ _) (fun _ _ => ?_)
    | refine Tame.bind' (tame_behind _) (fun _ _ => ?_)
    | refine Tame.bind' (tame_numberAt _) (fun _ _ => ?_)
    | refine Tame.bind' (tame_byteOf _) (fun _ _ => ?_)
    | refine Tame.bind' (tame_fieldPlace _ _) (fun _ _ => ?_)
    | refine Tame.bind' (tame_program) (fun _ _ => ?_)
    | refine Tame.bind' (tame_lenOf _) (fun _ _ => ?_)
    | refine Tame.bind' (tame_firstCells _ _ _) (fun _ _ => ?_)
    | refine Tame.bind' (tame_sliceBound _ _ _) (fun _ _ => ?_)
    | refine Tame.bind' (tame_sliceBounds _ _ _ _ _ _) (fun _ _ => ?_)
    | refine tame_getObj' _ (fun _ _ => rfl) (fun _ => ?_)
    | (refine Tame.bind' (ok := fun _ => True) (tame_pure _ trivial) (fun _ _ => ?_))
    | (refine Tame.bind' (ok := fun _ => True) (tame_stuck _) (fun _ _ => ?_))
    | (refine Tame.bind' (ok := fun _ => True) (tame_unsup _) (fun _ _ => ?_))
    | (refine Tame.bind' (ok := fun _ => True) (tame_rtPanic _) (fun _ _ => ?_))
    | split
    | dsimp only)
theorem tame_intDiv (o : BinOp) (k : IntKind) (x y : Int) : Tame P (fun _ => True) (Op.intDiv o k x y) := by
  unfold Op.intDiv
  repeat' (with_reducible first
    | exact tame_stuck _
    | exact tame_unsup _
    | exact tame_rtPanic _
    | exact tame_bounds _ _ _ _
    | exact tame_goPanic _
    | exact tame_pure _ trivial
    | exact tame_under _
    | exact tame_typeInfo _
    | exact tame_zero _
    | exact tame_sizeOf _
    | exact tame_isAgg _
    | exact tame_sureAddr _
    | exact tame_asIntOf _
    | exact tame_asInt _
    | exact tame_asBool _
    | exact tame_asAgg _
    | exact tame_asAddr _
    | exact tame_newRow _ _
    | exact tame_newVar _ _
    | exact tame_newObj _
    | exact tame_shape _
    | exact tame_choose _
    | exact tame_askRoom _
    | exact tame_load _ _
    | exact tame_store _ _ _
    | exact tame_loadVar _ _
    | exact tame_storeVar _ _ _
    | exact tame_loadCells _ _
    | exact tame_storeCells _ _ _
    | exact tame_part _ _ _
    | exact tame_behind _
    | exact tame_numberAt _
    | exact tame_byteOf _
    | exact tame_fieldPlace _ _
    | exact tame_program
    | exact tame_lenOf _
    | exact tame_firstCells _ _ _
    | exact tame_sliceBound _ _ _
    | exact tame_sliceBounds _ _ _ _ _ _
    | refine Tame.bind' (tame_under _) (fun _ _ => ?_)
    | refine Tame.bind' (tame_typeInfo _) (fun _ _ => ?_)
    | refine Tame.bind' (tame_zero _) (fun _ _ => ?_)
    | refine Tame.bind' (tame_sizeOf _) (fun _ _ => ?_)
    | refine Tame.bind' (tame_isAgg _) (fun _ _ => ?_)
    | refine Tame.bind' (tame_sureAddr _) (fun _ _ => ?_)
    | refine Tame.bind' (tame_asIntOf _) (fun _ _ => ?_)
    | refine Tame.bind' (tame_asInt _) (fun _ _ => ?_)
    | refine Tame.bind' (tame_asBool _) (fun _ _ => ?_)
    | refine Tame.bind' (tame_asAgg _) (fun _ _ => ?_)
    | refine Tame.bind' (tame_asAddr _) (fun _ _ => ?_)
    | refine Tame.bind' (tame_newRow _ _) (fun _ _ => ?_)
    | refine Tame.bind' (tame_newVar _ _) (fun _ _ => ?_)
    | refine Tame.bind' (tame_newObj _) (fun _ _ => ?_)
    | refine Tame.bind' (tame_shape _) (fun _ _ => ?_)
    | refine Tame.bind' (tame_choose _) (fun _ _ => ?_)
    | refine Tame.bind' (tame_askRoom _) (fun _ _ => ?_)
    | refine Tame.bind' (tame_load _ _) (fun _ _ => ?_)
    | refine Tame.bind' (tame_store _ _ _) (fun _ _ => ?_)
    | refine Tame.bind' (tame_loadVar _ _) (fun _ _ => ?_)
    | refine Tame.bind' (tame_storeVar _ _ _) (fun _ _ => ?_)
    | refine Tame.bind' (tame_loadCells _ _) (fun _ _ => ?_)
    | refine Tame.bind' (tame_storeCells _ _ _) (fun _ _ => ?_)
    | refine Tame.bind' (tame_part _ _ _) (fun _ _ => ?_)
    | refine Tame.bind' (tame_behind _) (fun _ _ => ?_)
    | refine Tame.bind' (tame_numberAt _) (fun _ _ => ?_)
    | refine Tame.bind' (tame_byteOf _) (fun _ _ => ?_)
    | refine Tame.bind' (tame_fieldPlace _ _) (fun _ _ => ?_)
    | refine Tame.bind' (tame_program) (fun _ _ => ?_)
    | refine Tame.bind' (tame_lenOf _) (fun _ _ => ?_)
    | refine Tame.bind' (tame_firstCells _ _ _) (fun _ _ => ?_)
    | refine Tame.bind' (tame_sliceBound _ _ _) (fun _ _ => ?_)
    | refine Tame.bind' (tame_sliceBounds _ _ _ _ _ _) (fun _ _ => ?_)
    | refine tame_getObj' _ (fun _ _ => rfl) (fun _ => ?_)
    | (refine Tame.bind' (ok := fun _ => True) (tame_pure _ trivial) (fun _ _ => ?_))
    | (refine Tame.bind' (ok := fun _ => True) (tame_stuck _) (fun _ _ => ?_))
    | (refine Tame.bind' (ok := fun _ => True) (tame_unsup _) (fun _ _ => ?_))
    | (refine Tame.bind' (ok := fun _ => True) (tame_rtPanic _) (fun _ _ => ?_))
    | split
    | dsimp only)
theorem tame_intBits (o : BinOp) (k : IntKind) (x y : Int) : Tame P (fun _ => True) (Op.intBits o k x y) := by
  unfold Op.intBits
  repeat' (with_reducible first
    | exact tame_stuck _
    | exact tame_unsup _
    | exact tame_rtPanic _
    | exact tame_bounds _ _ _ _
    | exact tame_goPanic _
    | exact tame_pure _ trivial
    | exact tame_under _
    | exact tame_typeInfo _
    | exact tame_zero _
    | exact tame_sizeOf _
    | exact tame_isAgg _
    | exact tame_sureAddr _
    | exact tame_asIntOf _
    | exact tame_asInt _
    | exact tame_asBool _
    | exact tame_asAgg _
    | exact tame_asAddr _
    | exact tame_newRow _ _
    | exact tame_newVar _ _
    | exact tame_newObj _
    | exact tame_shape _
    | exact tame_choose _
    | exact tame_askRoom _
    | exact tame_load _ _
    | exact tame_store _ _ _
    | exact tame_loadVar _ _
    | exact tame_storeVar _ _ _
    | exact tame_loadCells _ _
    | exact tame_storeCells _ _ _
    | exact tame_part _ _ _
    | exact tame_behind _
    | exact tame_numberAt _
    | exact tame_byteOf _
    | exact tame_fieldPlace _ _
    | exact tame_program
    | exact tame_lenOf _
    | exact tame_firstCells _ _ _
    | exact tame_sliceBound _ _ _
    | exact tame_sliceBounds _ _ _ _ _ _
    | refine Tame.bind' (tame_under _) (fun _ _ => ?_)
    | refine Tame.bind' (tame_typeInfo _) (fun _ _ => ?_)
    | refine Tame.bind' (tame_zero _) (fun _ _ => ?_)
    | refine Tame.bind' (tame_sizeOf _) (fun _ _ => ?_)
    | refine Tame.bind' (tame_isAgg _) (fun _ _ => ?_)
    | refine Tame.bind' (tame_sureAddr _) (fun _ _ => ?_)
    | refine Tame.bind' (tame_asIntOf _) (fun _ _ => ?_)
    | refine Tame.bind' (tame_asInt _) (fun _ _ => ?_)
    | refine Tame.bind' (tame_asBool _) (fun _ _ => ?_)
    | refine Tame.bind' (tame_asAgg _) (fun _ _ => ?_)
    | refine Tame.bind' (tame_asAddr _) (fun _ _ => ?_)
    | refine Tame.bind' (tame_newRow _ _) (fun _ _ => ?_)
    | refine Tame.bind' (tame_newVar _ _) (fun _ _ => ?_)
    | refine Tame.bind' (tame_newObj _) (fun _ _ => ?_)
    | refine Tame.bind' (tame_shape _) (fun _ _ => ?_)
    | refine Tame.bind' (tame_choose _) (fun _ _ => ?_)
    | refine Tame.bind' (tame_askRoom _) (fun _ _ => ?_)
    | refine Tame.bind' (tame_load _ _) (fun _ _ => ?_)
    | refine Tame.bind' (tame_store _ _ _) (fun _ _ => ?_)
    | refine Tame.bind' (tame_loadVar _ _) (fun _ _ => ?_)
    | refine Tame.bind' (tame_storeVar _ _ _) (fun _ _ => ?_)
    | refine Tame.bind' (tame_loadCells _ _) (fun _ _ => ?_)
    | refine Tame.bind' (tame_storeCells _ _ _) (fun _ _ => ?_)
    | refine Tame.bind' (tame_part _ _ _) (fun _ _ => ?_)
    | refine Tame.bind' (tame_behind _) (fun _ _ => ?_)
    | refine Tame.bind' (tame_numberAt _) (fun _ _ => ?_)
    | refine Tame.bind' (tame_byteOf _) (fun _ _ => ?_)
    | refine Tame.bind' (tame_fieldPlace _ _) (fun _ _ => ?_)
    | refine Tame.bind' (tame_program) (fun _ _ => ?_)
    | refine Tame.bind' (tame_lenOf _) (fun _ _ => ?_)
    | refine Tame.bind' (tame_firstCells _ _ _) (fun _ _ => ?_)
    | refine Tame.bind' (tame_sliceBound _ _ _) (fun _ _ => ?_)
    | refine Tame.bind' (tame_sliceBounds _ _ _ _ _ _) (fun _ _ => ?_)
    | refine tame_getObj' _ (fun _ _ => rfl) (fun _ => ?_)
    | (refine Tame.bind' (ok := fun _ => True) (tame_pure _ trivial) (fun _ _ => ?_))
    | (refine Tame.bind' (ok := fun _ => True) (tame_stuck _) (fun _ _ => ?_))
    | (refine Tame.bind' (ok := fun _ => True) (tame_unsup _) (fun _ _ => ?_))
    | (refine Tame.bind' (ok := fun _ => True) (tame_rtPanic _) (fun _ _ => ?_))
    | split
    | dsimp only)
theorem tame_intCmp (o : BinOp) (k y : Int) : Tame P (fun _ => True) (Op.intCmp o k y) := by
  unfold Op.intCmp
  repeat' (with_reducible first
    | exact tame_stuck _
    | exact tame_unsup _
    | exact tame_rtPanic _
    | exact tame_bounds _ _ _ _
    | exact tame_goPanic _
    | exact tame_pure _ trivial
    | exact tame_under _
    | exact tame_typeInfo _
    | exact tame_zero _
    | exact tame_sizeOf _
    | exact tame_isAgg _
    | exact tame_sureAddr _
    | exact tame_asIntOf _
    | exact tame_asInt _
    | exact tame_asBool _
    | exact tame_asAgg _
    | exact tame_asAddr _
    | exact tame_newRow _ _
    | exact tame_newVar _ _
    | exact tame_newObj _
    | exact tame_shape _
    | exact tame_choose _
    | exact tame_askRoom _
    | exact tame_load _ _
    | exact tame_store _ _ _
    | exact tame_loadVar _ _
    | exact tame_storeVar _ _ _
    | exact tame_loadCells _ _
    | exact tame_storeCells _ _ _
    | exact tame_part _ _ _
    | exact tame_behind _
    | exact tame_numberAt _
    | exact tame_byteOf _
    | exact tame_fieldPlace _ _
    | exact tame_program
    | exact tame_lenOf _
    | exact tame_firstCells _ _ _
    | exact tame_sliceBound _ _ _
    | exact tame_sliceBounds _ _ _ _ _ _
    | refine Tame.bind' (tame_under _) (fun _ _ => ?_)
    | refine Tame.bind' (tame_typeInfo _) (fun _ _ => ?_)
    | refine Tame.bind' (tame_zero _) (fun _ _ => ?_)
    | refine Tame.bind' (tame_sizeOf _) (fun _ _ => ?_)
    | refine Tame.bind' (tame_isAgg _) (fun _ _ => ?_)
    | refine Tame.bind' (tame_sureAddr _) (fun _ _ => ?_)
    | refine Tame.bind' (tame_asIntOf _) (fun _ _ => ?_)
    | refine Tame.bind' (tame_asInt _) (fun _ _ => ?_)
    | refine Tame.bind' (tame_asBool _) (fun _ _ => ?_)
    | refine Tame.bind' (tame_asAgg _) (fun _ _ => ?_)
    | refine Tame.bind' (tame_asAddr _) (fun _ _ => ?_)
    | refine Tame.bind' (tame_newRow _ _) (fun _ _ => ?_)
    | refine Tame.bind' (tame_newVar _ _) (fun _ _ => ?_)
    | refine Tame.bind' (tame_newObj _) (fun _ _ => ?_)
    | refine Tame.bind' (tame_shape _) (fun _ _ => ?_)
    | refine Tame.bind' (tame_choose _) (fun _ _ => ?_)
    | refine Tame.bind' (tame_askRoom _) (fun _ _ => ?_)
    | refine Tame.bind' (tame_load _ _) (fun _ _ => ?_)
    | refine Tame.bind' (tame_store _ _ _) (fun _ _ => ?_)
    | refine Tame.bind' (tame_loadVar _ _) (fun _ _ => ?_)
    | refine Tame.bind' (tame_storeVar _ _ _) (fun _ _ => ?_)
    | refine Tame.bind' (tame_loadCells _ _) (fun _ _ => ?_)
    | refine Tame.bind' (tame_storeCells _ _ _) (fun _ _ => ?_)
    | refine Tame.bind' (tame_part _ _ _) (fun _ _ => ?_)
    | refine Tame.bind' (tame_behind _) (fun _ _ => ?_)
    | refine Tame.bind' (tame_numberAt _) (fun _ _ => ?_)
    | refine Tame.bind' (tame_byteOf _) (fun _ _ => ?_)
    | refine Tame.bind' (tame_fieldPlace _ _) (fun _ _ => ?_)
    | refine Tame.bind' (tame_program) (fun _ _ => ?_)
    | refine Tame.bind' (tame_lenOf _) (fun _ _ => ?_)
    | refine Tame.bind' (tame_firstCells _ _ _) (fun _ _ => ?_)
    | refine Tame.bind' (tame_sliceBound _ _ _) (fun _ _ => ?_)
    | refine Tame.bind' (tame_sliceBounds _ _ _ _ _ _) (fun _ _ => ?_)
    | refine tame_getObj' _ (fun _ _ => rfl) (fun _ => ?_)
    | (refine Tame.bind' (ok := fun _ => True) (tame_pure _ trivial) (fun _ _ => ?_))
    | (refine Tame.bind' (ok := fun _ => True) (tame_stuck _) (fun _ _ => ?_))
    | (refine Tame.bind' (ok := fun _ => True) (tame_unsup _) (fun _ _ => ?_))
    | (refine Tame.bind' (ok := fun _ => True) (tame_rtPanic _) (fun _ _ => ?_))
    | split
    | dsimp only)
theorem tame_shift (o : BinOp) (k : IntKind) (x : Int) (j : IntKind) (y : Int) : Tame P (fun _ => True) (Op.shift o k x j y) := by
  unfold Op.shift
  repeat' (with_reducible first
    | exact tame_stuck _
    | exact tame_unsup _
    | exact tame_rtPanic _
    | exact tame_bounds _ _ _ _
    | exact tame_goPanic _
    | exact tame_pure _ trivial
    | exact tame_under _
    | exact tame_typeInfo _
    | exact tame_zero _
    | exact tame_sizeOf _
    | exact tame_isAgg _
    | exact tame_sureAddr _
    | exact tame_asIntOf _
    | exact tame_asInt _
    | exact tame_asBool _
    | exact tame_asAgg _
    | exact tame_asAddr _
    | exact tame_newRow _ _
    | exact tame_newVar _ _
    | exact tame_newObj _
    | exact tame_shape _
    | exact tame_choose _
    | exact tame_askRoom _
    | exact tame_load _ _
    | exact tame_store _ _ _
    | exact tame_loadVar _ _
    | exact tame_storeVar _ _ _
    | exact tame_loadCells _ _
    | exact tame_storeCells _ _ _
    | exact tame_part _ _ _
    | exact tame_behind _
    | exact tame_numberAt _
    | exact tame_byteOf _
    | exact tame_fieldPlace _ _
    | exact tame_program
    | exact tame_lenOf _
    | exact tame_firstCells _ _ _
    | exact tame_sliceBound _ _ _
    | exact tame_sliceBounds _ _ _ _ _ _
    | exact tame_intArith _ _ _ _
    | exact tame_intDiv _ _ _ _
    | exact tame_intBits _ _ _ _
    | exact tame_intCmp _ _ _
    | refine Tame.bind' (tame_under _) (fun _ _ => ?_)
    | refine Tame.bind' (tame_typeInfo _) (fun _ _ => ?_)
    | refine Tame.bind' (tame_zero _) (fun _ _ => ?_)
    | refine Tame.bind' (tame_sizeOf _) (fun _ _ => ?_)
    | refine Tame.bind' (tame_isAgg _) (fun _ _ => ?_)
    | refine Tame.bind' (tame_sureAddr _) (fun _ _ => ?_)
    | refine Tame.bind' (tame_asIntOf _) (fun _ _ => ?_)
    | refine Tame.bind' (tame_asInt _) (fun _ _ => ?_)
    | refine Tame.bind' (tame_asBool _) (fun _ _ => ?_)
    | refine Tame.bind' (tame_asAgg _) (fun _ _ => ?_)
    | refine Tame.bind' (tame_asAddr _) (fun _ _ => ?_)
    | refine Tame.bind' (tame_newRow _ _) (fun _ _ => ?_)
    | refine Tame.bind' (tame_newVar _ _) (fun _ _ => ?_)
    | refine Tame.bind' (tame_newObj _) (fun _ _ => ?_)
    | refine Tame.bind' (tame_shape _) (fun _ _ => ?_)
    | refine Tame.bind' (tame_choose _) (fun _ _ => ?_)
    | refine Tame.bind' (tame_askRoom _) (fun _ _ => ?_)
    | refine Tame.bind' (tame_load _ _) (fun _ _ => ?_)
    | refine Tame.bind' (tame_store _ _ _) (fun _ _ => ?_)
    | refine Tame.bind' (tame_loadVar _ _) (fun _ _ => ?_)
    | refine Tame.bind' (tame_storeVar _ _ _) (fun _ _ => ?_)
    | refine Tame.bind' (tame_loadCells _ _) (fun _ _ => ?_)
    | refine Tame.bind' (tame_storeCells _ _ _) (fun _ _ => ?_)
    | refine Tame.bind' (tame_part _ _ _) (fun _ _ => ?_)
    | refine Tame.bind' (tame_behind _) (fun _ _ => ?_)
    | refine Tame.bind' (tame_numberAt _) (fun _ _ => ?_)
    | refine Tame.bind' (tame_byteOf _) (fun _ _ => ?_)
    | refine Tame.bind' (tame_fieldPlace _ _) (fun _ _ => ?_)
    | refine Tame.bind' (tame_program) (fun _ _ => ?_)
    | refine Tame.bind' (tame_lenOf _) (fun _ _ => ?_)
    | refine Tame.bind' (tame_firstCells _ _ _) (fun _ _ => ?_)
    | refine Tame.bind' (tame_sliceBound _ _ _) (fun _ _ => ?_)
    | refine Tame.bind' (tame_sliceBounds _ _ _ _ _ _) (fun _ _ => ?_)
    | refine Tame.bind' (tame_intArith _ _ _ _) (fun _ _ => ?_)
    | refine Tame.bind' (tame_intDiv _ _ _ _) (fun _ _ => ?_)
    | refine Tame.bind' (tame_intBits _ _ _ _) (fun _ _ => ?_)
    | refine Tame.bind' (tame_intCmp _ _ _) (fun _ _ => ?_)
    | refine tame_getObj' _ (fun _ _ => rfl) (fun _ => ?_)
    | (refine Tame.bind' (ok := fun _ => True) (tame_pure _ trivial) (fun _ _ => ?_))
    | (refine Tame.bind' (ok := fun _ => True) (tame_stuck _) (fun _ _ => ?_))
    | (refine Tame.bind' (ok := fun _ => True) (tame_unsup _) (fun _ _ => ?_))
    | (refine Tame.bind' (ok := fun _ => True) (tame_rtPanic _) (fun _ _ => ?_))
    | split
    | dsimp only)
theorem tame_unary_int (o : UnOp) (x : Value) : Tame P (fun _ => True) (Op.unary o x) := by
  unfold Op.unary
  repeat' (with_reducible first
    | exact tame_stuck _
    | exact tame_unsup _
    | exact tame_rtPanic _
    | exact tame_bounds _ _ _ _
    | exact tame_goPanic _
    | exact tame_pure _ trivial
    | exact tame_under _
    | exact tame_typeInfo _
    | exact tame_zero _
    | exact tame_sizeOf _
    | exact tame_isAgg _
    | exact tame_sureAddr _
    | exact tame_asIntOf _
    | exact tame_asInt _
    | exact tame_asBool _
    | exact tame_asAgg _
    | exact tame_asAddr _
    | exact tame_newRow _ _
    | exact tame_newVar _ _
    | exact tame_newObj _
    | exact tame_shape _
    | exact tame_choose _
    | exact tame_askRoom _
    | exact tame_load _ _
    | exact tame_store _ _ _
    | exact tame_loadVar _ _
    | exact tame_storeVar _ _ _
    | exact tame_loadCells _ _
    | exact tame_storeCells _ _ _
    | exact tame_part _ _ _
    | exact tame_behind _
    | exact tame_numberAt _
    | exact tame_byteOf _
    | exact tame_fieldPlace _ _
    | exact tame_program
    | exact tame_lenOf _
    | exact tame_firstCells _ _ _
    | exact tame_sliceBound _ _ _
    | exact tame_sliceBounds _ _ _ _ _ _
    | exact tame_intArith _ _ _ _
    | exact tame_intDiv _ _ _ _
    | exact tame_intBits _ _ _ _
    | exact tame_intCmp _ _ _
    | refine Tame.bind' (tame_under _) (fun _ _ => ?_)
    | refine Tame.bind' (tame_typeInfo _) (fun _ _ => ?_)
    | refine Tame.bind' (tame_zero _) (fun _ _ => ?_)
    | refine Tame.bind' (tame_sizeOf _) (fun _ _ => ?_)
    | refine Tame.bind' (tame_isAgg _) (fun _ _ => ?_)
    | refine Tame.bind' (tame_sureAddr _) (fun _ _ => ?_)
    | refine Tame.bind' (tame_asIntOf _) (fun _ _ => ?_)
    | refine Tame.bind' (tame_asInt _) (fun _ _ => ?_)
    | refine Tame.bind' (tame_asBool _) (fun _ _ => ?_)
    | refine Tame.bind' (tame_asAgg _) (fun _ _ => ?_)
    | refine Tame.bind' (tame_asAddr _) (fun _ _ => ?_)
    | refine Tame.bind' (tame_newRow _ _) (fun _ _ => ?_)
    | refine Tame.bind' (tame_newVar _ _) (fun _ _ => ?_)
    | refine Tame.bind' (tame_newObj _) (fun _ _ => ?_)
    | refine Tame.bind' (tame_shape _) (fun _ _ => ?_)
    | refine Tame.bind' (tame_choose _) (fun _ _ => ?_)
    | refine Tame.bind' (tame_askRoom _) (fun _ _ => ?_)
    | refine Tame.bind' (tame_load _ _) (fun _ _ => ?_)
    | refine Tame.bind' (tame_store _ _ _) (fun _ _ => ?_)
    | refine Tame.bind' (tame_loadVar _ _) (fun _ _ => ?_)
    | refine Tame.bind' (tame_storeVar _ _ _) (fun _ _ => ?_)
    | refine Tame.bind' (tame_loadCells _ _) (fun _ _ => ?_)
    | refine Tame.bind' (tame_storeCells _ _ _) (fun _ _ => ?_)
    | refine Tame.bind' (tame_part _ _ _) (fun _ _ => ?_)
    | refine Tame.bind' (tame_behind _) (fun _ _ => ?_)
    | refine Tame.bind' (tame_numberAt _) (fun _ _ => ?_)
    | refine Tame.bind' (tame_byteOf _) (fun _ _ => ?_)
    | refine Tame.bind' (tame_fieldPlace _ _) (fun _ _ => ?_)
    | refine Tame.bind' (tame_program) (fun _ _ => ?_)
    | refine Tame.bind' (tame_lenOf _) (fun _ _ => ?_)
    | refine Tame.bind' (tame_firstCells _ _ _) (fun _ _ => ?_)
    | refine Tame.bind' (tame_sliceBound _ _ _) (fun _ _ => ?_)
    | refine Tame.bind' (tame_sliceBounds _ _ _ _ _ _) (fun _ _ => ?_)
    | refine Tame.bind' (tame_intArith _ _ _ _) (fun _ _ => ?_)
    | refine Tame.bind' (tame_intDiv _ _ _ _) (fun _ _ => ?_)
    | refine Tame.bind' (tame_intBits _ _ _ _) (fun _ _ => ?_)
    | refine Tame.bind' (tame_intCmp _ _ _) (fun _ _ => ?_)
    | refine tame_getObj' _ (fun _ _ => rfl) (fun _ => ?_)
    | (refine Tame.bind' (ok := fun _ => True) (tame_pure _ trivial) (fun _ _ => ?_))
    | (refine Tame.bind' (ok := fun _ => True) (tame_stuck _) (fun _ _ => ?_))
    | (refine Tame.bind' (ok := fun _ => True) (tame_unsup _) (fun _ _ => ?_))
    | (refine Tame.bind' (ok := fun _ => True) (tame_rtPanic _) (fun _ _ => ?_))
    | split
    | dsimp only)
theorem tame_intToInt (k : IntKind) (x : Int) : Tame P (fun _ => True) (Conv.intToInt k x) := by
  unfold Conv.intToInt
  repeat' (with_reducible first
    | exact tame_stuck _
    | exact tame_unsup _
    | exact tame_rtPanic _
    | exact tame_bounds _ _ _ _
    | exact tame_goPanic _
    | exact tame_pure _ trivial
    | exact tame_under _
    | exact tame_typeInfo _
    | exact tame_zero _
    | exact tame_sizeOf _
    | exact tame_isAgg _
    | exact tame_sureAddr _
    | exact tame_asIntOf _
    | exact tame_asInt _
    | exact tame_asBool _
    | exact tame_asAgg _
    | exact tame_asAddr _
    | exact tame_newRow _ _
    | exact tame_newVar _ _
    | exact tame_newObj _
    | exact tame_shape _
    | exact tame_choose _
    | exact tame_askRoom _
    | exact tame_load _ _
    | exact tame_store _ _ _
    | exact tame_loadVar _ _
    | exact tame_storeVar _ _ _
    | exact tame_loadCells _ _
    | exact tame_storeCells _ _ _
    | exact tame_part _ _ _
    | exact tame_behind _
    | exact tame_numberAt _
    | exact tame_byteOf _
    | exact tame_fieldPlace _ _
    | exact tame_program
    | exact tame_lenOf _
    | exact tame_firstCells _ _ _
    | exact tame_sliceBound _ _ _
    | exact tame_sliceBounds _ _ _ _ _ _
    | exact tame_intArith _ _ _ _
    | exact tame_intDiv _ _ _ _
    | exact tame_intBits _ _ _ _
    | exact tame_intCmp _ _ _
    | refine Tame.bind' (tame_under _) (fun _ _ => ?_)
    | refine Tame.bind' (tame_typeInfo _) (fun _ _ => ?_)
    | refine Tame.bind' (tame_zero _) (fun _ _ => ?_)
    | refine Tame.bind' (tame_sizeOf _) (fun _ _ => ?_)
    | refine Tame.bind' (tame_isAgg _) (fun _ _ => ?_)
    | refine Tame.bind' (tame_sureAddr _) (fun _ _ => ?_)
    | refine Tame.bind' (tame_asIntOf _) (fun _ _ => ?_)
    | refine Tame.bind' (tame_asInt _) (fun _ _ => ?_)
    | refine Tame.bind' (tame_asBool _) (fun _ _ => ?_)
    | refine Tame.bind' (tame_asAgg _) (fun _ _ => ?_)
    | refine Tame.bind' (tame_asAddr _) (fun _ _ => ?_)
    | refine Tame.bind' (tame_newRow _ _) (fun _ _ => ?_)
    | refine Tame.bind' (tame_newVar _ _) (fun _ _ => ?_)
    | refine Tame.bind' (tame_newObj _) (fun _ _ => ?_)
    | refine Tame.bind' (tame_shape _) (fun _ _ => ?_)
    | refine Tame.bind' (tame_choose _) (fun _ _ => ?_)
    | refine Tame.bind' (tame_askRoom _) (fun _ _ => ?_)
    | refine Tame.bind' (tame_load _ _) (fun _ _ => ?_)
    | refine Tame.bind' (tame_store _ _ _) (fun _ _ => ?_)
    | refine Tame.bind' (tame_loadVar _ _) (fun _ _ => ?_)
    | refine Tame.bind' (tame_storeVar _ _ _) (fun _ _ => ?_)
    | refine Tame.bind' (tame_loadCells _ _) (fun _ _ => ?_)
    | refine Tame.bind' (tame_storeCells _ _ _) (fun _ _ => ?_)
    | refine Tame.bind' (tame_part _ _ _) (fun _ _ => ?_)
    | refine Tame.bind' (tame_behind _) (fun _ _ => ?_)
    | refine Tame.bind' (tame_numberAt _) (fun _ _ => ?_)
    | refine Tame.bind' (tame_byteOf _) (fun _ _ => ?_)
    | refine Tame.bind' (tame_fieldPlace _ _) (fun _ _ => ?_)
    | refine Tame.bind' (tame_program) (fun _ _ => ?_)
    | refine Tame.bind' (tame_lenOf _) (fun _ _ => ?_)
    | refine Tame.bind' (tame_firstCells _ _ _) (fun _ _ => ?_)
    | refine Tame.bind' (tame_sliceBound _ _ _) (fun _ _ => ?_)
    | refine Tame.bind' (tame_sliceBounds _ _ _ _ _ _) (fun _ _ => ?_)
    | refine Tame.bind' (tame_intArith _ _ _ _) (fun _ _ => ?_)
    | refine Tame.bind' (tame_intDiv _ _ _ _) (fun _ _ => ?_)
    | refine Tame.bind' (tame_intBits _ _ _ _) (fun _ _ => ?_)
    | refine Tame.bind' (tame_intCmp _ _ _) (fun _ _ => ?_)
    | refine tame_getObj' _ (fun _ _ => rfl) (fun _ => ?_)
    | (refine Tame.bind' (ok := fun _ => True) (tame_pure _ trivial) (fun _ _ => ?_))
    | (refine Tame.bind' (ok := fun _ => True) (tame_stuck _) (fun _ _ => ?_))
    | (refine Tame.bind' (ok := fun _ => True) (tame_unsup _) (fun _ _ => ?_))
    | (refine Tame.bind' (ok := fun _ => True) (tame_rtPanic _) (fun _ _ => ?_))
    | split
    | dsimp only)
theorem Tame.all {α : Type} {ok : α → Prop} {P : Program} {s : Sem α} (h : Tame P ok s) : Tame P (fun _ => True) s := h.mono fun _ _ => trivial
end
end Go.Proofs.Ytecdiejeofclaaa


/- Infrastructure D: append, ==, the binary operators: Tame. -/
namespace Go.Proofs.Ytecdiejeofclaaa
open Go Go.Conc
section
variable {P : Program} {α β : Type} {ok : α → Prop}
theorem share_ok (a b c : Nat) (d : Option Addr) (e : Value) (w : World) : ∃ t, (Builtin.mayShare a b c d e).run P w = .ok t w := by
  have hh : ∀ (x : Addr) (n : Nat), ∃ t, (Builtin.holdsCells x n).run P w = .ok t w := fun x n => by
    unfold Builtin.holdsCells
    rw [Sem.run_bind, run_shape, Result.andThen_ok]
    split <;> exact ⟨_, rfl⟩
  unfold Builtin.mayShare
  have tail : ∀ there : Bool, ∃ t, Sem.run P (do
      if !there then return true
      match e with
      | .slice (some b) _ _ => do pure (!(← Builtin.holdsCells b (c * a)) || d.any (·.block == b.block))
      | _ => pure false) w = .ok t w := fun there => by
    cases there
    · exact ⟨true, rfl⟩
    · simp only [Bool.not_true, Bool.false_eq_true, if_false]
      split
      · rename_i b _ _
        obtain ⟨t, ht⟩ := hh b (c * a)
        rw [Sem.run_bind, ht]
        exact ⟨_, rfl⟩
      · exact ⟨_, rfl⟩
  cases d with
  | none => exact tail true
  | some x =>
    obtain ⟨t, ht⟩ := hh x (b * a)
    dsimp only
    cases t with
    | false =>
      simp only [Sem.run_bind, ht, Result.andThen_ok, Sem.run_pure, Bool.false_eq_true, if_false]
      exact tail false
    | true =>
      simp only [Sem.run_bind, ht, Result.andThen_ok, run_frozen, Sem.run_pure, if_true]
      exact tail _
theorem tame_noroom (a b c : Nat) (d : Option Addr) (e : Value) (u : Unsupported) (hk : HaltOk (.unsupported u) := by (with_unfolding_all exact True.intro)) : Tame P ok (do
    if !(← Builtin.mayShare a b c d e) then mark .noRoom
    unsupported u) := by
  refine .doomed _ fun w => ?_
  obtain ⟨t, ht⟩ := share_ok (P := P) a b c d e w
  rw [Sem.run_bind, ht]
  cases t <;> exact ⟨_, _, hk, rfl⟩
theorem tame_append (a : Array TypeId) (t : TypeId) (x : Array Value) : Tame P (fun _ => True) (Builtin.append_ a t x) := by
  unfold Builtin.append_
  split
  case h_2 => exact tame_stuck _
  refine Tame.bind' (tame_under _) fun d _ => ?_
  split
  case h_2 => exact tame_stuck _
  split
  case h_2 => exact tame_stuck _
  refine Tame.bind' (tame_sizeOf _) fun size _ => ?_
  extract_lets jp0 jz
  have h0 : ∀ z, Tame P (fun _ => True) (jp0 z) := fun _ => tame_unsup _
  have hz : ∀ z, Tame P (fun _ => True) (jz z) := by
    intro zeros
    dsimp -zeta only [jz]
    extract_lets jn
    have hn : ∀ z, Tame P (fun _ => True) (jn z) := by
      intro n
      dsimp -zeta only [jn]
      extract_lets appended need k1 k2 k3
      have ha : Tame P (fun _ => True) appended := by
        unfold appended
        split
        · exact tame_firstCells _ _ _
        · split
          · exact tame_pure _ trivial
          · exact Tame.bind' (tame_zero _) fun _ _ => tame_pure _ trivial
      have hk1 : ∀ z, Tame P (fun _ => True) (k1 z) := fun _ => tame_pure _ trivial
      have hk2 : ∀ z, Tame P (fun _ => True) (k2 z) := fun _ =>
        Tame.bind' (tame_choose _) fun _ _ => Tame.bind' (tame_typeInfo _) fun _ _ => Tame.bind' (tame_askRoom _) fun _ _ => Tame.bind' (tame_firstCells _ _ _) fun _ _ => Tame.bind' ha fun _ _ => Tame.bind' (tame_zero _) fun _ _ => Tame.bind' (tame_newRow _ _) fun _ _ => tame_pure _ trivial
      have hk3 : ∀ z, Tame P (fun _ => True) (k3 z) := fun _ => by
        dsimp -zeta only [k3]
        refine Tame.bind' (tame_typeInfo _) fun i _ => ?_
        split
        · refine Tame.bind' (ok := fun _ => True) ?_ fun _ _ => hk2 ()
          split
          · exact tame_rtPanic _
          · exact tame_noroom _ _ _ _ _ _
        · exact hk2 ()
      split
      · refine Tame.bind' ha fun new _ => ?_
        split
        · exact Tame.bind' (tame_storeCells _ _ _) fun _ _ => hk1 ()
        · exact hk1 ()
      · refine Tame.bind' (tame_typeInfo _) fun i _ => ?_
        split
        · exact Tame.bind' (ok := fun _ => True) (tame_rtPanic _) fun _ _ => hk3 ()
        · exact hk3 ()
    split
    · refine Tame.bind' (tame_asInt _) fun l0 _ => ?_
      extract_lets l k1 k2
      have hk1 : ∀ z, Tame P (fun _ => True) (k1 z) := fun _ => Tame.bind' (ok := fun _ => True) (tame_pure _ trivial) fun _ _ => hn _
      have hk2 : ∀ z, Tame P (fun _ => True) (k2 z) := fun _ => by
        dsimp -zeta only [k2]
        refine Tame.bind' (tame_typeInfo _) fun i _ => ?_
        split
        · exact Tame.bind' (tame_choose _) fun _ _ => Tame.bind' (ok := fun _ => True) (tame_rtPanic _) fun _ _ => hk1 ()
        · exact hk1 ()
      split
      · exact Tame.bind' (ok := fun _ => True) (tame_rtPanic _) fun _ _ => hk2 ()
      · exact hk2 ()
    · exact Tame.bind' (tame_lenOf _) fun _ _ => hn _
  split
  · exact Tame.bind' (tame_under _) fun _ _ => Tame.bind' (ok := fun _ => True) (tame_pure _ trivial) fun _ _ => hz _
  · exact Tame.bind' (ok := fun _ => True) (tame_pure _ trivial) fun _ _ => hz _
theorem tame_stringOp (op : BinOp) (x y : ByteArray) : Tame P (fun _ => True) (Op.stringOp op x y) := by
  unfold Op.stringOp
  repeat' (with_reducible first
    | exact tame_stuck _
    | exact tame_unsup _
    | exact tame_rtPanic _
    | exact tame_bounds _ _ _ _
    | exact tame_goPanic _
    | exact tame_pure _ trivial
    | exact tame_under _
    | exact tame_typeInfo _
    | exact tame_zero _
    | exact tame_sizeOf _
    | exact tame_isAgg _
    | exact tame_sureAddr _
    | exact tame_asIntOf _
    | exact tame_asInt _
    | exact tame_asBool _
    | exact tame_asAgg _
    | exact tame_asAddr _
    | exact tame_newRow _ _
    | exact tame_newVar _ _
    | exact tame_newObj _
    | exact tame_shape _
    | exact tame_choose _
    | exact tame_askRoom _
    | exact tame_load _ _
    | exact tame_store _ _ _
    | exact tame_loadVar _ _
    | exact tame_storeVar _ _ _
    | exact tame_loadCells _ _
    | exact tame_storeCells _ _ _
    | exact tame_part _ _ _
    | exact tame_behind _
    | exact tame_numberAt _
    | exact tame_byteOf _
    | exact tame_fieldPlace _ _
    | exact tame_program
    | exact tame_lenOf _
    | exact tame_firstCells _ _ _
    | exact tame_sliceBound _ _ _
    | exact tame_sliceBounds _ _ _ _ _ _
    | exact tame_intArith _ _ _ _
    | exact tame_intDiv _ _ _ _
    | exact tame_intBits _ _ _ _
    | exact tame_intCmp _ _ _
    | refine Tame.bind' (tame_under _) (fun _ _ => ?_)
    | refine Tame.bind' (tame_typeInfo _) (fun _ _ => ?_)
    | refine Tame.bind' (tame_zero _) (fun _ _ => ?_)
    | refine Tame.bind' (tame_sizeOf _) (fun _ _ => ?_)
    | refine Tame.bind' (tame_isAgg _) (fun _ _ => ?_)
    | refine Tame.bind' (tame_sureAddr _) (fun _ _ => ?_)
    | refine Tame.bind' (tame_asIntOf _) (fun _ _ => ?_)
    | refine Tame.bind' (tame_asInt _) (fun _ _ => ?_)
    | refine Tame.bind' (tame_asBool _) (fun _ _ => ?_)
    | refine Tame.bind' (tame_asAgg _) (fun _ _ => ?_)
    | refine Tame.bind' (tame_asAddr _) (fun _ _ => ?_)
    | refine Tame.bind' (tame_newRow _ _) (fun _ _ => ?_)
    | refine Tame.bind' (tame_newVar _ _) (fun _ _ => ?_)
    | refine Tame.bind' (tame_newObj _) (fun _ _ => ?_)
    | refine Tame.bind' (tame_shape _) (fun _ _ => ?_)
    | refine Tame.bind' (tame_choose _) (fun _ _ => ?_)
    | refine Tame.bind' (tame_askRoom _) (fun _ _ => ?_)
    | refine Tame.bind' (tame_load _ _) (fun _ _ => ?_)
    | refine Tame.bind' (tame_store _ _ _) (fun _ _ => ?_)
    | refine Tame.bind' (tame_loadVar _ _) (fun _ _ => ?_)
    | refine Tame.bind' (tame_storeVar _ _ _) (fun _ _ => ?_)
    | refine Tame.bind' (tame_loadCells _ _) (fun _ _ => ?_)
    | refine Tame.bind' (tame_storeCells _ _ _) (fun _ _ => ?_)
    | refine Tame.bind' (tame_part _ _ _) (fun _ _ => ?_)
    | refine Tame.bind' (tame_behind _) (fun _ _ => ?_)
    | refine Tame.bind' (tame_numberAt _) (fun _ _ => ?_)
    | refine Tame.bind' (tame_byteOf _) (fun _ _ => ?_)
    | refine Tame.bind' (tame_fieldPlace _ _) (fun _ _ => ?_)
    | refine Tame.bind' (tame_program) (fun _ _ => ?_)
    | refine Tame.bind' (tame_lenOf _) (fun _ _ => ?_)
    | refine Tame.bind' (tame_firstCells _ _ _) (fun _ _ => ?_)
    | refine Tame.bind' (tame_sliceBound _ _ _) (fun _ _ => ?_)
    | refine Tame.bind' (tame_sliceBounds _ _ _ _ _ _) (fun _ _ => ?_)
    | refine Tame.bind' (tame_intArith _ _ _ _) (fun _ _ => ?_)
    | refine Tame.bind' (tame_intDiv _ _ _ _) (fun _ _ => ?_)
    | refine Tame.bind' (tame_intBits _ _ _ _) (fun _ _ => ?_)
    | refine Tame.bind' (tame_intCmp _ _ _) (fun _ _ => ?_)
    | refine tame_getObj' _ (fun _ _ => rfl) (fun _ => ?_)
    | (refine Tame.bind' (ok := fun _ => True) (tame_pure _ trivial) (fun _ _ => ?_))
    | (refine Tame.bind' (ok := fun _ => True) (tame_stuck _) (fun _ _ => ?_))
    | (refine Tame.bind' (ok := fun _ => True) (tame_unsup _) (fun _ _ => ?_))
    | (refine Tame.bind' (ok := fun _ => True) (tame_rtPanic _) (fun _ _ => ?_))
    | split
    | dsimp only)
theorem tame_floatArith (op : BinOp) (k : FloatKind) (x y : Nat) : Tame P (fun _ => True) (Op.floatArith op k x y) := by
  unfold Op.floatArith
  repeat' (with_reducible first
    | exact tame_stuck _
    | exact tame_unsup _
    | exact tame_rtPanic _
    | exact tame_bounds _ _ _ _
    | exact tame_goPanic _
    | exact tame_pure _ trivial
    | exact tame_under _
    | exact tame_typeInfo _
    | exact tame_zero _
    | exact tame_sizeOf _
    | exact tame_isAgg _
    | exact tame_sureAddr _
    | exact tame_asIntOf _
    | exact tame_asInt _
    | exact tame_asBool _
    | exact tame_asAgg _
    | exact tame_asAddr _
    | exact tame_newRow _ _
    | exact tame_newVar _ _
    | exact tame_newObj _
    | exact tame_shape _
    | exact tame_choose _
    | exact tame_askRoom _
    | exact tame_load _ _
    | exact tame_store _ _ _
    | exact tame_loadVar _ _
    | exact tame_storeVar _ _ _
    | exact tame_loadCells _ _
    | exact tame_storeCells _ _ _
    | exact tame_part _ _ _
    | exact tame_behind _
    | exact tame_numberAt _
    | exact tame_byteOf _
    | exact tame_fieldPlace _ _
    | exact tame_program
    | exact tame_lenOf _
    | exact tame_firstCells _ _ _
    | exact tame_sliceBound _ _ _
    | exact tame_sliceBounds _ _ _ _ _ _
    | exact tame_intArith _ _ _ _
    | exact tame_intDiv _ _ _ _
    | exact tame_intBits _ _ _ _
    | exact tame_intCmp _ _ _
    | refine Tame.bind' (tame_under _) (fun _ _ => ?_)
    | refine Tame.bind' (tame_typeInfo _) (fun _ _ => ?_)
    | refine Tame.bind' (tame_zero _) (fun _ _ => ?_)
    | refine Tame.bind' (tame_sizeOf _) (fun _ _ => ?_)
    | refine Tame.bind' (tame_isAgg _) (fun _ _ => ?_)
    | refine Tame.bind' (tame_sureAddr _) (fun _ _ => ?_)
    | refine Tame.bind' (tame_asIntOf _) (fun _ _ => ?_)
    | refine Tame.bind' (tame_asInt _) (fun _ _ => ?_)
    | refine Tame.bind' (tame_asBool _) (fun _ _ => ?_)
    | refine Tame.bind' (tame_asAgg _) (fun _ _ => ?_)
    | refine Tame.bind' (tame_asAddr _) (fun _ _ => ?_)
    | refine Tame.bind' (tame_newRow _ _) (fun _ _ => ?_)
    | refine Tame.bind' (tame_newVar _ _) (fun _ _ => ?_)
    | refine Tame.bind' (tame_newObj _) (fun _ _ => ?_)
    | refine Tame.bind' (tame_shape _) (fun _ _ => ?_)
    | refine Tame.bind' (tame_choose _) (fun _ _ => ?_)
    | refine Tame.bind' (tame_askRoom _) (fun _ _ => ?_)
    | refine Tame.bind' (tame_load _ _) (fun _ _ => ?_)
    | refine Tame.bind' (tame_store _ _ _) (fun _ _ => ?_)
    | refine Tame.bind' (tame_loadVar _ _) (fun _ _ => ?_)
    | refine Tame.bind' (tame_storeVar _ _ _) (fun _ _ => ?_)
    | refine Tame.bind' (tame_loadCells _ _) (fun _ _ => ?_)
    | refine Tame.bind' (tame_storeCells _ _ _) (fun _ _ => ?_)
    | refine Tame.bind' (tame_part _ _ _) (fun _ _ => ?_)
    | refine Tame.bind' (tame_behind _) (fun _ _ => ?_)
    | refine Tame.bind' (tame_numberAt _) (fun _ _ => ?_)
    | refine Tame.bind' (tame_byteOf _) (fun _ _ => ?_)
    | refine Tame.bind' (tame_fieldPlace _ _) (fun _ _ => ?_)
    | refine Tame.bind' (tame_program) (fun _ _ => ?_)
    | refine Tame.bind' (tame_lenOf _) (fun _ _ => ?_)
    | refine Tame.bind' (tame_firstCells _ _ _) (fun _ _ => ?_)
    | refine Tame.bind' (tame_sliceBound _ _ _) (fun _ _ => ?_)
    | refine Tame.bind' (tame_sliceBounds _ _ _ _ _ _) (fun _ _ => ?_)
    | refine Tame.bind' (tame_intArith _ _ _ _) (fun _ _ => ?_)
    | refine Tame.bind' (tame_intDiv _ _ _ _) (fun _ _ => ?_)
    | refine Tame.bind' (tame_intBits _ _ _ _) (fun _ _ => ?_)
    | refine Tame.bind' (tame_intCmp _ _ _) (fun _ _ => ?_)
    | refine tame_getObj' _ (fun _ _ => rfl) (fun _ => ?_)
    | (refine Tame.bind' (ok := fun _ => True) (tame_pure _ trivial) (fun _ _ => ?_))
    | (refine Tame.bind' (ok := fun _ => True) (tame_stuck _) (fun _ _ => ?_))
    | (refine Tame.bind' (ok := fun _ => True) (tame_unsup _) (fun _ _ => ?_))
    | (refine Tame.bind' (ok := fun _ => True) (tame_rtPanic _) (fun _ _ => ?_))
    | split
    | dsimp only)
theorem tame_floatCmp (op : BinOp) (k : FloatKind) (x y : Nat) : Tame P (fun _ => True) (Op.floatCmp op k x y) := by
  unfold Op.floatCmp
  repeat' (with_reducible first
    | exact tame_stuck _
    | exact tame_unsup _
    | exact tame_rtPanic _
    | exact tame_bounds _ _ _ _
    | exact tame_goPanic _
    | exact tame_pure _ trivial
    | exact tame_under _
    | exact tame_typeInfo _
    | exact tame_zero _
    | exact tame_sizeOf _
    | exact tame_isAgg _
    | exact tame_sureAddr _
    | exact tame_asIntOf _
    | exact tame_asInt _
    | exact tame_asBool _
    | exact tame_asAgg _
    | exact tame_asAddr _
    | exact tame_newRow _ _
    | exact tame_newVar _ _
    | exact tame_newObj _
    | exact tame_shape _
    | exact tame_choose _
    | exact tame_askRoom _
    | exact tame_load _ _
    | exact tame_store _ _ _
    | exact tame_loadVar _ _
    | exact tame_storeVar _ _ _
    | exact tame_loadCells _ _
    | exact tame_storeCells _ _ _
    | exact tame_part _ _ _
    | exact tame_behind _
    | exact tame_numberAt _
    | exact tame_byteOf _
    | exact tame_fieldPlace _ _
    | exact tame_program
    | exact tame_lenOf _
    | exact tame_firstCells _ _ _
    | exact tame_sliceBound _ _ _
    | exact tame_sliceBounds _ _ _ _ _ _
    | exact tame_intArith _ _ _ _
    | exact tame_intDiv _ _ _ _
    | exact tame_intBits _ _ _ _
    | exact tame_intCmp _ _ _
    | refine Tame.bind' (tame_under _) (fun _ _ => ?_)
    | refine Tame.bind' (tame_typeInfo _) (fun _ _ => ?_)
    | refine Tame.bind' (tame_zero _) (fun _ _ => ?_)
    | refine Tame.bind' (tame_sizeOf _) (fun _ _ => ?_)
    | refine Tame.bind' (tame_isAgg _) (fun _ _ => ?_)
    | refine Tame.bind' (tame_sureAddr _) (fun _ _ => ?_)
    | refine Tame.bind' (tame_asIntOf _) (fun _ _ => ?_)
    | refine Tame.bind' (tame_asInt _) (fun _ _ => ?_)
    | refine Tame.bind' (tame_asBool _) (fun _ _ => ?_)
    | refine Tame.bind' (tame_asAgg _) (fun _ _ => ?_)
    | refine Tame.bind' (tame_asAddr _) (fun _ _ => ?_)
    | refine Tame.bind' (tame_newRow _ _) (fun _ _ => ?_)
    | refine Tame.bind' (tame_newVar _ _) (fun _ _ => ?_)
    | refine Tame.bind' (tame_newObj _) (fun _ _ => ?_)
    | refine Tame.bind' (tame_shape _) (fun _ _ => ?_)
    | refine Tame.bind' (tame_choose _) (fun _ _ => ?_)
    | refine Tame.bind' (tame_askRoom _) (fun _ _ => ?_)
    | refine Tame.bind' (tame_load _ _) (fun _ _ => ?_)
    | refine Tame.bind' (tame_store _ _ _) (fun _ _ => ?_)
    | refine Tame.bind' (tame_loadVar _ _) (fun _ _ => ?_)
    | refine Tame.bind' (tame_storeVar _ _ _) (fun _ _ => ?_)
    | refine Tame.bind' (tame_loadCells _ _) (fun _ _ => ?_)
    | refine Tame.bind' (tame_storeCells _ _ _) (fun _ _ => ?_)
    | refine Tame.bind' (tame_part _ _ _) (fun _ _ => ?_)
    | refine Tame.bind' (tame_behind _) (fun _ _ => ?_)
    | refine Tame.bind' (tame_numberAt _) (fun _ _ => ?_)
    | refine Tame.bind' (tame_byteOf _) (fun _ _ => ?_)
    | refine Tame.bind' (tame_fieldPlace _ _) (fun _ _ => ?_)
    | refine Tame.bind' (tame_program) (fun _ _ => ?_)
    | refine Tame.bind' (tame_lenOf _) (fun _ _ => ?_)
    | refine Tame.bind' (tame_firstCells _ _ _) (fun _ _ => ?_)
    | refine Tame.bind' (tame_sliceBound _ _ _) (fun _ _ => ?_)
    | refine Tame.bind' (tame_sliceBounds _ _ _ _ _ _) (fun _ _ => ?_)
    | refine Tame.bind' (tame_intArith _ _ _ _) (fun _ _ => ?_)
    | refine Tame.bind' (tame_intDiv _ _ _ _) (fun _ _ => ?_)
    | refine Tame.bind' (tame_intBits _ _ _ _) (fun _ _ => ?_)
    | refine Tame.bind' (tame_intCmp _ _ _) (fun _ _ => ?_)
    | refine tame_getObj' _ (fun _ _ => rfl) (fun _ => ?_)
    | (refine Tame.bind' (ok := fun _ => True) (tame_pure _ trivial) (fun _ _ => ?_))
    | (refine Tame.bind' (ok := fun _ => True) (tame_stuck _) (fun _ _ => ?_))
    | (refine Tame.bind' (ok := fun _ => True) (tame_unsup _) (fun _ _ => ?_))
    | (refine Tame.bind' (ok := fun _ => True) (tame_rtPanic _) (fun _ _ => ?_))
    | split
    | dsimp only)
theorem tame_unsafeAdd (a : Array TypeId) (t : TypeId) (x y : Value) : Tame P (fun _ => True) (Builtin.unsafeAdd_ a t #[x, y]) := by
  cases x with
  | pointer ptr =>
    refine Tame.bind' (tame_asInt y) fun n _ => ?_
    repeat' (with_reducible first
      | exact tame_stuck _
      | exact tame_unsup _
      | exact tame_rtPanic _
      | exact tame_bounds _ _ _ _
      | exact tame_goPanic _
      | exact tame_pure _ trivial
      | exact tame_under _
      | exact tame_typeInfo _
      | exact tame_zero _
      | exact tame_sizeOf _
      | exact tame_isAgg _
      | exact tame_sureAddr _
      | exact tame_asIntOf _
      | exact tame_asInt _
      | exact tame_asBool _
      | exact tame_asAgg _
      | exact tame_asAddr _
      | exact tame_newRow _ _
      | exact tame_newVar _ _
      | exact tame_newObj _
      | exact tame_shape _
      | exact tame_choose _
      | exact tame_askRoom _
      | exact tame_load _ _
      | exact tame_store _ _ _
      | exact tame_loadVar _ _
      | exact tame_storeVar _ _ _
      | exact tame_loadCells _ _
      | exact tame_storeCells _ _ _
      | exact tame_part _ _ _
      | exact tame_behind _
      | exact tame_numberAt _
      | exact tame_byteOf _
      | exact tame_fieldPlace _ _
      | exact tame_program
      | exact tame_lenOf _
      | exact tame_firstCells _ _ _
      | exact tame_sliceBound _ _ _
      | exact tame_sliceBounds _ _ _ _ _ _
      | exact tame_intArith _ _ _ _
      | exact tame_intDiv _ _ _ _
      | exact tame_intBits _ _ _ _
      | exact tame_intCmp _ _ _
      | exact tame_viewAt _
      | refine Tame.bind' (tame_under _) (fun _ _ => ?_)
      | refine Tame.bind' (tame_typeInfo _) (fun _ _ => ?_)
      | refine Tame.bind' (tame_zero _) (fun _ _ => ?_)
      | refine Tame.bind' (tame_sizeOf _) (fun _ _ => ?_)
      | refine Tame.bind' (tame_isAgg _) (fun _ _ => ?_)
      | refine Tame.bind' (tame_sureAddr _) (fun _ _ => ?_)
      | refine Tame.bind' (tame_asIntOf _) (fun _ _ => ?_)
      | refine Tame.bind' (tame_asInt _) (fun _ _ => ?_)
      | refine Tame.bind' (tame_asBool _) (fun _ _ => ?_)
      | refine Tame.bind' (tame_asAgg _) (fun _ _ => ?_)
      | refine Tame.bind' (tame_asAddr _) (fun _ _ => ?_)
      | refine Tame.bind' (tame_newRow _ _) (fun _ _ => ?_)
      | refine Tame.bind' (tame_newVar _ _) (fun _ _ => ?_)
      | refine Tame.bind' (tame_newObj _) (fun _ _ => ?_)
      | refine Tame.bind' (tame_shape _) (fun _ _ => ?_)
      | refine Tame.bind' (tame_choose _) (fun _ _ => ?_)
      | refine Tame.bind' (tame_askRoom _) (fun _ _ => ?_)
      | refine Tame.bind' (tame_load _ _) (fun _ _ => ?_)
      | refine Tame.bind' (tame_store _ _ _) (fun _ _ => ?_)
      | refine Tame.bind' (tame_loadVar _ _) (fun _ _ => ?_)
      | refine Tame.bind' (tame_storeVar _ _ _) (fun _ _ => ?_)
      | refine Tame.bind' (tame_loadCells _ _) (fun _ _ => ?_)
      | refine Tame.bind' (tame_storeCells _ _ _) (fun _ _ => ?_)
      | refine Tame.bind' (tame_part _ _ _) (fun _ _ => ?_)
      | refine Tame.bind' (tame_behind _) (fun _ _ => ?_)
      | refine Tame.bind' (tame_numberAt _) (fun _ _ => ?_)
      | refine Tame.bind' (tame_byteOf _) (fun _ _ => ?_)
      | refine Tame.bind' (tame_fieldPlace _ _) (fun _ _ => ?_)
      | refine Tame.bind' (tame_program) (fun _ _ => ?_)
      | refine Tame.bind' (tame_lenOf _) (fun _ _ => ?_)
      | refine Tame.bind' (tame_firstCells _ _ _) (fun _ _ => ?_)
      | refine Tame.bind' (tame_sliceBound _ _ _) (fun _ _ => ?_)
      | refine Tame.bind' (tame_sliceBounds _ _ _ _ _ _) (fun _ _ => ?_)
      | refine Tame.bind' (tame_intArith _ _ _ _) (fun _ _ => ?_)
      | refine Tame.bind' (tame_intDiv _ _ _ _) (fun _ _ => ?_)
      | refine Tame.bind' (tame_intBits _ _ _ _) (fun _ _ => ?_)
      | refine Tame.bind' (tame_intCmp _ _ _) (fun _ _ => ?_)
      | refine Tame.bind' (tame_viewAt _) (fun _ _ => ?_)
      | refine tame_getObj' _ (fun _ _ => rfl) (fun _ => ?_)
      | (refine Tame.bind' (ok := fun _ => True) (tame_pure _ trivial) (fun _ _ => ?_))
      | (refine Tame.bind' (ok := fun _ => True) (tame_stuck _) (fun _ _ => ?_))
      | (refine Tame.bind' (ok := fun _ => True) (tame_unsup _) (fun _ _ => ?_))
      | (refine Tame.bind' (ok := fun _ => True) (tame_rtPanic _) (fun _ _ => ?_))
      | split
      | dsimp only)
  | _ => exact tame_stuck _
theorem tame_asNumber (a : Addr) (b : Bool) : Tame P (fun _ => True) (asNumber a b) := by
  unfold asNumber
  repeat' (with_reducible first
    | exact tame_stuck _
    | exact tame_unsup _
    | exact tame_rtPanic _
    | exact tame_bounds _ _ _ _
    | exact tame_goPanic _
    | exact tame_pure _ trivial
    | exact tame_under _
    | exact tame_typeInfo _
    | exact tame_zero _
    | exact tame_sizeOf _
    | exact tame_isAgg _
    | exact tame_sureAddr _
    | exact tame_asIntOf _
    | exact tame_asInt _
    | exact tame_asBool _
    | exact tame_asAgg _
    | exact tame_asAddr _
    | exact tame_newRow _ _
    | exact tame_newVar _ _
    | exact tame_newObj _
    | exact tame_shape _
    | exact tame_choose _
    | exact tame_askRoom _
    | exact tame_load _ _
    | exact tame_store _ _ _
    | exact tame_loadVar _ _
    | exact tame_storeVar _ _ _
    | exact tame_loadCells _ _
    | exact tame_storeCells _ _ _
    | exact tame_part _ _ _
    | exact tame_behind _
    | exact tame_numberAt _
    | exact tame_byteOf _
    | exact tame_fieldPlace _ _
    | exact tame_program
    | exact tame_lenOf _
    | exact tame_firstCells _ _ _
    | exact tame_sliceBound _ _ _
    | exact tame_sliceBounds _ _ _ _ _ _
    | exact tame_intArith _ _ _ _
    | exact tame_intDiv _ _ _ _
    | exact tame_intBits _ _ _ _
    | exact tame_intCmp _ _ _
    | refine Tame.bind' (tame_under _) (fun _ _ => ?_)
    | refine Tame.bind' (tame_typeInfo _) (fun _ _ => ?_)
    | refine Tame.bind' (tame_zero _) (fun _ _ => ?_)
    | refine Tame.bind' (tame_sizeOf _) (fun _ _ => ?_)
    | refine Tame.bind' (tame_isAgg _) (fun _ _ => ?_)
    | refine Tame.bind' (tame_sureAddr _) (fun _ _ => ?_)
    | refine Tame.bind' (tame_asIntOf _) (fun _ _ => ?_)
    | refine Tame.bind' (tame_asInt _) (fun _ _ => ?_)
    | refine Tame.bind' (tame_asBool _) (fun _ _ => ?_)
    | refine Tame.bind' (tame_asAgg _) (fun _ _ => ?_)
    | refine Tame.bind' (tame_asAddr _) (fun _ _ => ?_)
    | refine Tame.bind' (tame_newRow _ _) (fun _ _ => ?_)
    | refine Tame.bind' (tame_newVar _ _) (fun _ _ => ?_)
    | refine Tame.bind' (tame_newObj _) (fun _ _ => ?_)
    | refine Tame.bind' (tame_shape _) (fun _ _ => ?_)
    | refine Tame.bind' (tame_choose _) (fun _ _ => ?_)
    | refine Tame.bind' (tame_askRoom _) (fun _ _ => ?_)
    | refine Tame.bind' (tame_load _ _) (fun _ _ => ?_)
    | refine Tame.bind' (tame_store _ _ _) (fun _ _ => ?_)
    | refine Tame.bind' (tame_loadVar _ _) (fun _ _ => ?_)
    | refine Tame.bind' (tame_storeVar _ _ _) (fun _ _ => ?_)
    | refine Tame.bind' (tame_loadCells _ _) (fun _ _ => ?_)
    | refine Tame.bind' (tame_storeCells _ _ _) (fun _ _ => ?_)
    | refine Tame.bind' (tame_part _ _ _) (fun _ _ => ?_)
    | refine Tame.bind' (tame_behind _) (fun _ _ => ?_)
    | refine Tame.bind' (tame_numberAt _) (fun _ _ => ?_)
    | refine Tame.bind' (tame_byteOf _) (fun _ _ => ?_)
    | refine Tame.bind' (tame_fieldPlace _ _) (fun _ _ => ?_)
    | refine Tame.bind' (tame_program) (fun _ _ => ?_)
    | refine Tame.bind' (tame_lenOf _) (fun _ _ => ?_)
    | refine Tame.bind' (tame_firstCells _ _ _) (fun _ _ => ?_)
    | refine Tame.bind' (tame_sliceBound _ _ _) (fun _ _ => ?_)
    | refine Tame.bind' (tame_sliceBounds _ _ _ _ _ _) (fun _ _ => ?_)
    | refine Tame.bind' (tame_intArith _ _ _ _) (fun _ _ => ?_)
    | refine Tame.bind' (tame_intDiv _ _ _ _) (fun _ _ => ?_)
    | refine Tame.bind' (tame_intBits _ _ _ _) (fun _ _ => ?_)
    | refine Tame.bind' (tame_intCmp _ _ _) (fun _ _ => ?_)
    | refine tame_getObj' _ (fun _ _ => rfl) (fun _ => ?_)
    | (refine Tame.bind' (ok := fun _ => True) (tame_pure _ trivial) (fun _ _ => ?_))
    | (refine Tame.bind' (ok := fun _ => True) (tame_stuck _) (fun _ _ => ?_))
    | (refine Tame.bind' (ok := fun _ => True) (tame_unsup _) (fun _ _ => ?_))
    | (refine Tame.bind' (ok := fun _ => True) (tame_rtPanic _) (fun _ _ => ?_))
    | split
    | dsimp only)
theorem tame_movedNumber (t : TypeId) (x y : Value) : Tame P (fun _ => True) (movedNumber t x y) := by
  unfold movedNumber
  repeat' (with_reducible first
    | exact tame_stuck _
    | exact tame_unsup _
    | exact tame_rtPanic _
    | exact tame_bounds _ _ _ _
    | exact tame_goPanic _
    | exact tame_pure _ trivial
    | exact tame_under _
    | exact tame_typeInfo _
    | exact tame_zero _
    | exact tame_sizeOf _
    | exact tame_isAgg _
    | exact tame_sureAddr _
    | exact tame_asIntOf _
    | exact tame_asInt _
    | exact tame_asBool _
    | exact tame_asAgg _
    | exact tame_asAddr _
    | exact tame_newRow _ _
    | exact tame_newVar _ _
    | exact tame_newObj _
    | exact tame_shape _
    | exact tame_choose _
    | exact tame_askRoom _
    | exact tame_load _ _
    | exact tame_store _ _ _
    | exact tame_loadVar _ _
    | exact tame_storeVar _ _ _
    | exact tame_loadCells _ _
    | exact tame_storeCells _ _ _
    | exact tame_part _ _ _
    | exact tame_behind _
    | exact tame_numberAt _
    | exact tame_byteOf _
    | exact tame_fieldPlace _ _
    | exact tame_program
    | exact tame_lenOf _
    | exact tame_firstCells _ _ _
    | exact tame_sliceBound _ _ _
    | exact tame_sliceBounds _ _ _ _ _ _
    | exact tame_intArith _ _ _ _
    | exact tame_intDiv _ _ _ _
    | exact tame_intBits _ _ _ _
    | exact tame_intCmp _ _ _
    | exact tame_unsafeAdd _ _ _ _
    | exact tame_asNumber _ _
    | refine Tame.bind' (tame_under _) (fun _ _ => ?_)
    | refine Tame.bind' (tame_typeInfo _) (fun _ _ => ?_)
    | refine Tame.bind' (tame_zero _) (fun _ _ => ?_)
    | refine Tame.bind' (tame_sizeOf _) (fun _ _ => ?_)
    | refine Tame.bind' (tame_isAgg _) (fun _ _ => ?_)
    | refine Tame.bind' (tame_sureAddr _) (fun _ _ => ?_)
    | refine Tame.bind' (tame_asIntOf _) (fun _ _ => ?_)
    | refine Tame.bind' (tame_asInt _) (fun _ _ => ?_)
    | refine Tame.bind' (tame_asBool _) (fun _ _ => ?_)
    | refine Tame.bind' (tame_asAgg _) (fun _ _ => ?_)
    | refine Tame.bind' (tame_asAddr _) (fun _ _ => ?_)
    | refine Tame.bind' (tame_newRow _ _) (fun _ _ => ?_)
    | refine Tame.bind' (tame_newVar _ _) (fun _ _ => ?_)
    | refine Tame.bind' (tame_newObj _) (fun _ _ => ?_)
    | refine Tame.bind' (tame_shape _) (fun _ _ => ?_)
    | refine Tame.bind' (tame_choose _) (fun _ _ => ?_)
    | refine Tame.bind' (tame_askRoom _) (fun _ _ => ?_)
    | refine Tame.bind' (tame_load _ _) (fun _ _ => ?_)
    | refine Tame.bind' (tame_store _ _ _) (fun _ _ => ?_)
    | refine Tame.bind' (tame_loadVar _ _) (fun _ _ => ?_)
    | refine Tame.bind' (tame_storeVar _ _ _) (fun _ _ => ?_)
    | refine Tame.bind' (tame_loadCells _ _) (fun _ _ => ?_)
    | refine Tame.bind' (tame_storeCells _ _ _) (fun _ _ => ?_)
    | refine Tame.bind' (tame_part _ _ _) (fun _ _ => ?_)
    | refine Tame.bind' (tame_behind _) (fun _ _ => ?_)
    | refine Tame.bind' (tame_numberAt _) (fun _ _ => ?_)
    | refine Tame.bind' (tame_byteOf _) (fun _ _ => ?_)
    | refine Tame.bind' (tame_fieldPlace _ _) (fun _ _ => ?_)
    | refine Tame.bind' (tame_program) (fun _ _ => ?_)
    | refine Tame.bind' (tame_lenOf _) (fun _ _ => ?_)
    | refine Tame.bind' (tame_firstCells _ _ _) (fun _ _ => ?_)
    | refine Tame.bind' (tame_sliceBound _ _ _) (fun _ _ => ?_)
    | refine Tame.bind' (tame_sliceBounds _ _ _ _ _ _) (fun _ _ => ?_)
    | refine Tame.bind' (tame_intArith _ _ _ _) (fun _ _ => ?_)
    | refine Tame.bind' (tame_intDiv _ _ _ _) (fun _ _ => ?_)
    | refine Tame.bind' (tame_intBits _ _ _ _) (fun _ _ => ?_)
    | refine Tame.bind' (tame_intCmp _ _ _) (fun _ _ => ?_)
    | refine Tame.bind' (tame_unsafeAdd _ _ _ _) (fun _ _ => ?_)
    | refine Tame.bind' (tame_asNumber _ _) (fun _ _ => ?_)
    | refine tame_getObj' _ (fun _ _ => rfl) (fun _ => ?_)
    | (refine Tame.bind' (ok := fun _ => True) (tame_pure _ trivial) (fun _ _ => ?_))
    | (refine Tame.bind' (ok := fun _ => True) (tame_stuck _) (fun _ _ => ?_))
    | (refine Tame.bind' (ok := fun _ => True) (tame_unsup _) (fun _ _ => ?_))
    | (refine Tame.bind' (ok := fun _ => True) (tame_rtPanic _) (fun _ _ => ?_))
    | split
    | dsimp only)
theorem tame_movedPointer (t : TypeId) (x y : Value) : Tame P (fun _ => True) (movedPointer t x y) := by
  unfold movedPointer
  repeat' (with_reducible first
    | exact tame_stuck _
    | exact tame_unsup _
    | exact tame_rtPanic _
    | exact tame_bounds _ _ _ _
    | exact tame_goPanic _
    | exact tame_pure _ trivial
    | exact tame_under _
    | exact tame_typeInfo _
    | exact tame_zero _
    | exact tame_sizeOf _
    | exact tame_isAgg _
    | exact tame_sureAddr _
    | exact tame_asIntOf _
    | exact tame_asInt _
    | exact tame_asBool _
    | exact tame_asAgg _
    | exact tame_asAddr _
    | exact tame_newRow _ _
    | exact tame_newVar _ _
    | exact tame_newObj _
    | exact tame_shape _
    | exact tame_choose _
    | exact tame_askRoom _
    | exact tame_load _ _
    | exact tame_store _ _ _
    | exact tame_loadVar _ _
    | exact tame_storeVar _ _ _
    | exact tame_loadCells _ _
    | exact tame_storeCells _ _ _
    | exact tame_part _ _ _
    | exact tame_behind _
    | exact tame_numberAt _
    | exact tame_byteOf _
    | exact tame_fieldPlace _ _
    | exact tame_program
    | exact tame_lenOf _
    | exact tame_firstCells _ _ _
    | exact tame_sliceBound _ _ _
    | exact tame_sliceBounds _ _ _ _ _ _
    | exact tame_intArith _ _ _ _
    | exact tame_intDiv _ _ _ _
    | exact tame_intBits _ _ _ _
    | exact tame_intCmp _ _ _
    | exact tame_unsafeAdd _ _ _ _
    | refine Tame.bind' (tame_under _) (fun _ _ => ?_)
    | refine Tame.bind' (tame_typeInfo _) (fun _ _ => ?_)
    | refine Tame.bind' (tame_zero _) (fun _ _ => ?_)
    | refine Tame.bind' (tame_sizeOf _) (fun _ _ => ?_)
    | refine Tame.bind' (tame_isAgg _) (fun _ _ => ?_)
    | refine Tame.bind' (tame_sureAddr _) (fun _ _ => ?_)
    | refine Tame.bind' (tame_asIntOf _) (fun _ _ => ?_)
    | refine Tame.bind' (tame_asInt _) (fun _ _ => ?_)
    | refine Tame.bind' (tame_asBool _) (fun _ _ => ?_)
    | refine Tame.bind' (tame_asAgg _) (fun _ _ => ?_)
    | refine Tame.bind' (tame_asAddr _) (fun _ _ => ?_)
    | refine Tame.bind' (tame_newRow _ _) (fun _ _ => ?_)
    | refine Tame.bind' (tame_newVar _ _) (fun _ _ => ?_)
    | refine Tame.bind' (tame_newObj _) (fun _ _ => ?_)
    | refine Tame.bind' (tame_shape _) (fun _ _ => ?_)
    | refine Tame.bind' (tame_choose _) (fun _ _ => ?_)
    | refine Tame.bind' (tame_askRoom _) (fun _ _ => ?_)
    | refine Tame.bind' (tame_load _ _) (fun _ _ => ?_)
    | refine Tame.bind' (tame_store _ _ _) (fun _ _ => ?_)
    | refine Tame.bind' (tame_loadVar _ _) (fun _ _ => ?_)
    | refine Tame.bind' (tame_storeVar _ _ _) (fun _ _ => ?_)
    | refine Tame.bind' (tame_loadCells _ _) (fun _ _ => ?_)
    | refine Tame.bind' (tame_storeCells _ _ _) (fun _ _ => ?_)
    | refine Tame.bind' (tame_part _ _ _) (fun _ _ => ?_)
    | refine Tame.bind' (tame_behind _) (fun _ _ => ?_)
    | refine Tame.bind' (tame_numberAt _) (fun _ _ => ?_)
    | refine Tame.bind' (tame_byteOf _) (fun _ _ => ?_)
    | refine Tame.bind' (tame_fieldPlace _ _) (fun _ _ => ?_)
    | refine Tame.bind' (tame_program) (fun _ _ => ?_)
    | refine Tame.bind' (tame_lenOf _) (fun _ _ => ?_)
    | refine Tame.bind' (tame_firstCells _ _ _) (fun _ _ => ?_)
    | refine Tame.bind' (tame_sliceBound _ _ _) (fun _ _ => ?_)
    | refine Tame.bind' (tame_sliceBounds _ _ _ _ _ _) (fun _ _ => ?_)
    | refine Tame.bind' (tame_intArith _ _ _ _) (fun _ _ => ?_)
    | refine Tame.bind' (tame_intDiv _ _ _ _) (fun _ _ => ?_)
    | refine Tame.bind' (tame_intBits _ _ _ _) (fun _ _ => ?_)
    | refine Tame.bind' (tame_intCmp _ _ _) (fun _ _ => ?_)
    | refine Tame.bind' (tame_unsafeAdd _ _ _ _) (fun _ _ => ?_)
    | refine tame_getObj' _ (fun _ _ => rfl) (fun _ => ?_)
    | (refine Tame.bind' (ok := fun _ => True) (tame_pure _ trivial) (fun _ _ => ?_))
    | (refine Tame.bind' (ok := fun _ => True) (tame_stuck _) (fun _ _ => ?_))
    | (refine Tame.bind' (ok := fun _ => True) (tame_unsup _) (fun _ _ => ?_))
    | (refine Tame.bind' (ok := fun _ => True) (tame_rtPanic _) (fun _ _ => ?_))
    | split
    | dsimp only)
theorem tame_twoPlaces (a b : Addr) : Tame P (fun _ => True) (Op.twoPlaces a b) := by
  unfold Op.twoPlaces
  repeat' (with_reducible first
    | exact tame_stuck _
    | exact tame_unsup _
    | exact tame_rtPanic _
    | exact tame_bounds _ _ _ _
    | exact tame_goPanic _
    | exact tame_pure _ trivial
    | exact tame_under _
    | exact tame_typeInfo _
    | exact tame_zero _
    | exact tame_sizeOf _
    | exact tame_isAgg _
    | exact tame_sureAddr _
    | exact tame_asIntOf _
    | exact tame_asInt _
    | exact tame_asBool _
    | exact tame_asAgg _
    | exact tame_asAddr _
    | exact tame_newRow _ _
    | exact tame_newVar _ _
    | exact tame_newObj _
    | exact tame_shape _
    | exact tame_choose _
    | exact tame_askRoom _
    | exact tame_load _ _
    | exact tame_store _ _ _
    | exact tame_loadVar _ _
    | exact tame_storeVar _ _ _
    | exact tame_loadCells _ _
    | exact tame_storeCells _ _ _
    | exact tame_part _ _ _
    | exact tame_behind _
    | exact tame_numberAt _
    | exact tame_byteOf _
    | exact tame_fieldPlace _ _
    | exact tame_program
    | exact tame_lenOf _
    | exact tame_firstCells _ _ _
    | exact tame_sliceBound _ _ _
    | exact tame_sliceBounds _ _ _ _ _ _
    | exact tame_intArith _ _ _ _
    | exact tame_intDiv _ _ _ _
    | exact tame_intBits _ _ _ _
    | exact tame_intCmp _ _ _
    | refine Tame.bind' (tame_under _) (fun _ _ => ?_)
    | refine Tame.bind' (tame_typeInfo _) (fun _ _ => ?_)
    | refine Tame.bind' (tame_zero _) (fun _ _ => ?_)
    | refine Tame.bind' (tame_sizeOf _) (fun _ _ => ?_)
    | refine Tame.bind' (tame_isAgg _) (fun _ _ => ?_)
    | refine Tame.bind' (tame_sureAddr _) (fun _ _ => ?_)
    | refine Tame.bind' (tame_asIntOf _) (fun _ _ => ?_)
    | refine Tame.bind' (tame_asInt _) (fun _ _ => ?_)
    | refine Tame.bind' (tame_asBool _) (fun _ _ => ?_)
    | refine Tame.bind' (tame_asAgg _) (fun _ _ => ?_)
    | refine Tame.bind' (tame_asAddr _) (fun _ _ => ?_)
    | refine Tame.bind' (tame_newRow _ _) (fun _ _ => ?_)
    | refine Tame.bind' (tame_newVar _ _) (fun _ _ => ?_)
    | refine Tame.bind' (tame_newObj _) (fun _ _ => ?_)
    | refine Tame.bind' (tame_shape _) (fun _ _ => ?_)
    | refine Tame.bind' (tame_choose _) (fun _ _ => ?_)
    | refine Tame.bind' (tame_askRoom _) (fun _ _ => ?_)
    | refine Tame.bind' (tame_load _ _) (fun _ _ => ?_)
    | refine Tame.bind' (tame_store _ _ _) (fun _ _ => ?_)
    | refine Tame.bind' (tame_loadVar _ _) (fun _ _ => ?_)
    | refine Tame.bind' (tame_storeVar _ _ _) (fun _ _ => ?_)
    | refine Tame.bind' (tame_loadCells _ _) (fun _ _ => ?_)
    | refine Tame.bind' (tame_storeCells _ _ _) (fun _ _ => ?_)
    | refine Tame.bind' (tame_part _ _ _) (fun _ _ => ?_)
    | refine Tame.bind' (tame_behind _) (fun _ _ => ?_)
    | refine Tame.bind' (tame_numberAt _) (fun _ _ => ?_)
    | refine Tame.bind' (tame_byteOf _) (fun _ _ => ?_)
    | refine Tame.bind' (tame_fieldPlace _ _) (fun _ _ => ?_)
    | refine Tame.bind' (tame_program) (fun _ _ => ?_)
    | refine Tame.bind' (tame_lenOf _) (fun _ _ => ?_)
    | refine Tame.bind' (tame_firstCells _ _ _) (fun _ _ => ?_)
    | refine Tame.bind' (tame_sliceBound _ _ _) (fun _ _ => ?_)
    | refine Tame.bind' (tame_sliceBounds _ _ _ _ _ _) (fun _ _ => ?_)
    | refine Tame.bind' (tame_intArith _ _ _ _) (fun _ _ => ?_)
    | refine Tame.bind' (tame_intDiv _ _ _ _) (fun _ _ => ?_)
    | refine Tame.bind' (tame_intBits _ _ _ _) (fun _ _ => ?_)
    | refine Tame.bind' (tame_intCmp _ _ _) (fun _ _ => ?_)
    | refine tame_getObj' _ (fun _ _ => rfl) (fun _ => ?_)
    | (refine Tame.bind' (ok := fun _ => True) (tame_pure _ trivial) (fun _ _ => ?_))
    | (refine Tame.bind' (ok := fun _ => True) (tame_stuck _) (fun _ _ => ?_))
    | (refine Tame.bind' (ok := fun _ => True) (tame_unsup _) (fun _ _ => ?_))
    | (refine Tame.bind' (ok := fun _ => True) (tame_rtPanic _) (fun _ _ => ?_))
    | split
    | dsimp only)
theorem tame_addrSub (k : IntKind) (a b : Addr) : Tame P (fun _ => True) (Op.addrSub k a b) := by
  unfold Op.addrSub
  repeat' (with_reducible first
    | exact tame_stuck _
    | exact tame_unsup _
    | exact tame_rtPanic _
    | exact tame_bounds _ _ _ _
    | exact tame_goPanic _
    | exact tame_pure _ trivial
    | exact tame_under _
    | exact tame_typeInfo _
    | exact tame_zero _
    | exact tame_sizeOf _
    | exact tame_isAgg _
    | exact tame_sureAddr _
    | exact tame_asIntOf _
    | exact tame_asInt _
    | exact tame_asBool _
    | exact tame_asAgg _
    | exact tame_asAddr _
    | exact tame_newRow _ _
    | exact tame_newVar _ _
    | exact tame_newObj _
    | exact tame_shape _
    | exact tame_choose _
    | exact tame_askRoom _
    | exact tame_load _ _
    | exact tame_store _ _ _
    | exact tame_loadVar _ _
    | exact tame_storeVar _ _ _
    | exact tame_loadCells _ _
    | exact tame_storeCells _ _ _
    | exact tame_part _ _ _
    | exact tame_behind _
    | exact tame_numberAt _
    | exact tame_byteOf _
    | exact tame_fieldPlace _ _
    | exact tame_program
    | exact tame_lenOf _
    | exact tame_firstCells _ _ _
    | exact tame_sliceBound _ _ _
    | exact tame_sliceBounds _ _ _ _ _ _
    | exact tame_intArith _ _ _ _
    | exact tame_intDiv _ _ _ _
    | exact tame_intBits _ _ _ _
    | exact tame_intCmp _ _ _
    | exact tame_twoPlaces _ _
    | refine Tame.bind' (tame_under _) (fun _ _ => ?_)
    | refine Tame.bind' (tame_typeInfo _) (fun _ _ => ?_)
    | refine Tame.bind' (tame_zero _) (fun _ _ => ?_)
    | refine Tame.bind' (tame_sizeOf _) (fun _ _ => ?_)
    | refine Tame.bind' (tame_isAgg _) (fun _ _ => ?_)
    | refine Tame.bind' (tame_sureAddr _) (fun _ _ => ?_)
    | refine Tame.bind' (tame_asIntOf _) (fun _ _ => ?_)
    | refine Tame.bind' (tame_asInt _) (fun _ _ => ?_)
    | refine Tame.bind' (tame_asBool _) (fun _ _ => ?_)
    | refine Tame.bind' (tame_asAgg _) (fun _ _ => ?_)
    | refine Tame.bind' (tame_asAddr _) (fun _ _ => ?_)
    | refine Tame.bind' (tame_newRow _ _) (fun _ _ => ?_)
    | refine Tame.bind' (tame_newVar _ _) (fun _ _ => ?_)
    | refine Tame.bind' (tame_newObj _) (fun _ _ => ?_)
    | refine Tame.bind' (tame_shape _) (fun _ _ => ?_)
    | refine Tame.bind' (tame_choose _) (fun _ _ => ?_)
    | refine Tame.bind' (tame_askRoom _) (fun _ _ => ?_)
    | refine Tame.bind' (tame_load _ _) (fun _ _ => ?_)
    | refine Tame.bind' (tame_store _ _ _) (fun _ _ => ?_)
    | refine Tame.bind' (tame_loadVar _ _) (fun _ _ => ?_)
    | refine Tame.bind' (tame_storeVar _ _ _) (fun _ _ => ?_)
    | refine Tame.bind' (tame_loadCells _ _) (fun _ _ => ?_)
    | refine Tame.bind' (tame_storeCells _ _ _) (fun _ _ => ?_)
    | refine Tame.bind' (tame_part _ _ _) (fun _ _ => ?_)
    | refine Tame.bind' (tame_behind _) (fun _ _ => ?_)
    | refine Tame.bind' (tame_numberAt _) (fun _ _ => ?_)
    | refine Tame.bind' (tame_byteOf _) (fun _ _ => ?_)
    | refine Tame.bind' (tame_fieldPlace _ _) (fun _ _ => ?_)
    | refine Tame.bind' (tame_program) (fun _ _ => ?_)
    | refine Tame.bind' (tame_lenOf _) (fun _ _ => ?_)
    | refine Tame.bind' (tame_firstCells _ _ _) (fun _ _ => ?_)
    | refine Tame.bind' (tame_sliceBound _ _ _) (fun _ _ => ?_)
    | refine Tame.bind' (tame_sliceBounds _ _ _ _ _ _) (fun _ _ => ?_)
    | refine Tame.bind' (tame_intArith _ _ _ _) (fun _ _ => ?_)
    | refine Tame.bind' (tame_intDiv _ _ _ _) (fun _ _ => ?_)
    | refine Tame.bind' (tame_intBits _ _ _ _) (fun _ _ => ?_)
    | refine Tame.bind' (tame_intCmp _ _ _) (fun _ _ => ?_)
    | refine Tame.bind' (tame_twoPlaces _ _) (fun _ _ => ?_)
    | refine tame_getObj' _ (fun _ _ => rfl) (fun _ => ?_)
    | (refine Tame.bind' (ok := fun _ => True) (tame_pure _ trivial) (fun _ _ => ?_))
    | (refine Tame.bind' (ok := fun _ => True) (tame_stuck _) (fun _ _ => ?_))
    | (refine Tame.bind' (ok := fun _ => True) (tame_unsup _) (fun _ _ => ?_))
    | (refine Tame.bind' (ok := fun _ => True) (tame_rtPanic _) (fun _ _ => ?_))
    | split
    | dsimp only)
theorem tame_addrCmp (op : BinOp) (a b : Addr) : Tame P (fun _ => True) (Op.addrCmp op a b) := by
  unfold Op.addrCmp
  repeat' (with_reducible first
    | exact tame_stuck _
    | exact tame_unsup _
    | exact tame_rtPanic _
    | exact tame_bounds _ _ _ _
    | exact tame_goPanic _
    | exact tame_pure _ trivial
    | exact tame_under _
    | exact tame_typeInfo _
    | exact tame_zero _
    | exact tame_sizeOf _
    | exact tame_isAgg _
    | exact tame_sureAddr _
    | exact tame_asIntOf _
    | exact tame_asInt _
    | exact tame_asBool _
    | exact tame_asAgg _
    | exact tame_asAddr _
    | exact tame_newRow _ _
    | exact tame_newVar _ _
    | exact tame_newObj _
    | exact tame_shape _
    | exact tame_choose _
    | exact tame_askRoom _
    | exact tame_load _ _
    | exact tame_store _ _ _
    | exact tame_loadVar _ _
    | exact tame_storeVar _ _ _
    | exact tame_loadCells _ _
    | exact tame_storeCells _ _ _
    | exact tame_part _ _ _
    | exact tame_behind _
    | exact tame_numberAt _
    | exact tame_byteOf _
    | exact tame_fieldPlace _ _
    | exact tame_program
    | exact tame_lenOf _
    | exact tame_firstCells _ _ _
    | exact tame_sliceBound _ _ _
    | exact tame_sliceBounds _ _ _ _ _ _
    | exact tame_intArith _ _ _ _
    | exact tame_intDiv _ _ _ _
    | exact tame_intBits _ _ _ _
    | exact tame_intCmp _ _ _
    | exact tame_twoPlaces _ _
    | refine Tame.bind' (tame_under _) (fun _ _ => ?_)
    | refine Tame.bind' (tame_typeInfo _) (fun _ _ => ?_)
    | refine Tame.bind' (tame_zero _) (fun _ _ => ?_)
    | refine Tame.bind' (tame_sizeOf _) (fun _ _ => ?_)
    | refine Tame.bind' (tame_isAgg _) (fun _ _ => ?_)
    | refine Tame.bind' (tame_sureAddr _) (fun _ _ => ?_)
    | refine Tame.bind' (tame_asIntOf _) (fun _ _ => ?_)
    | refine Tame.bind' (tame_asInt _) (fun _ _ => ?_)
    | refine Tame.bind' (tame_asBool _) (fun _ _ => ?_)
    | refine Tame.bind' (tame_asAgg _) (fun _ _ => ?_)
    | refine Tame.bind' (tame_asAddr _) (fun _ _ => ?_)
    | refine Tame.bind' (tame_newRow _ _) (fun _ _ => ?_)
    | refine Tame.bind' (tame_newVar _ _) (fun _ _ => ?_)
    | refine Tame.bind' (tame_newObj _) (fun _ _ => ?_)
    | refine Tame.bind' (tame_shape _) (fun _ _ => ?_)
    | refine Tame.bind' (tame_choose _) (fun _ _ => ?_)
    | refine Tame.bind' (tame_askRoom _) (fun _ _ => ?_)
    | refine Tame.bind' (tame_load _ _) (fun _ _ => ?_)
    | refine Tame.bind' (tame_store _ _ _) (fun _ _ => ?_)
    | refine Tame.bind' (tame_loadVar _ _) (fun _ _ => ?_)
    | refine Tame.bind' (tame_storeVar _ _ _) (fun _ _ => ?_)
    | refine Tame.bind' (tame_loadCells _ _) (fun _ _ => ?_)
    | refine Tame.bind' (tame_storeCells _ _ _) (fun _ _ => ?_)
    | refine Tame.bind' (tame_part _ _ _) (fun _ _ => ?_)
    | refine Tame.bind' (tame_behind _) (fun _ _ => ?_)
    | refine Tame.bind' (tame_numberAt _) (fun _ _ => ?_)
    | refine Tame.bind' (tame_byteOf _) (fun _ _ => ?_)
    | refine Tame.bind' (tame_fieldPlace _ _) (fun _ _ => ?_)
    | refine Tame.bind' (tame_program) (fun _ _ => ?_)
    | refine Tame.bind' (tame_lenOf _) (fun _ _ => ?_)
    | refine Tame.bind' (tame_firstCells _ _ _) (fun _ _ => ?_)
    | refine Tame.bind' (tame_sliceBound _ _ _) (fun _ _ => ?_)
    | refine Tame.bind' (tame_sliceBounds _ _ _ _ _ _) (fun _ _ => ?_)
    | refine Tame.bind' (tame_intArith _ _ _ _) (fun _ _ => ?_)
    | refine Tame.bind' (tame_intDiv _ _ _ _) (fun _ _ => ?_)
    | refine Tame.bind' (tame_intBits _ _ _ _) (fun _ _ => ?_)
    | refine Tame.bind' (tame_intCmp _ _ _) (fun _ _ => ?_)
    | refine Tame.bind' (tame_twoPlaces _ _) (fun _ _ => ?_)
    | refine tame_getObj' _ (fun _ _ => rfl) (fun _ => ?_)
    | (refine Tame.bind' (ok := fun _ => True) (tame_pure _ trivial) (fun _ _ => ?_))
    | (refine Tame.bind' (ok := fun _ => True) (tame_stuck _) (fun _ _ => ?_))
    | (refine Tame.bind' (ok := fun _ => True) (tame_unsup _) (fun _ _ => ?_))
    | (refine Tame.bind' (ok := fun _ => True) (tame_rtPanic _) (fun _ _ => ?_))
    | split
    | dsimp only)
theorem tame_addrMod (k : IntKind) (a : Addr) (n : Int) : Tame P (fun _ => True) (Op.addrMod k a n) := by
  unfold Op.addrMod
  repeat' (with_reducible first
    | exact tame_stuck _
    | exact tame_unsup _
    | exact tame_rtPanic _
    | exact tame_bounds _ _ _ _
    | exact tame_goPanic _
    | exact tame_pure _ trivial
    | exact tame_under _
    | exact tame_typeInfo _
    | exact tame_zero _
    | exact tame_sizeOf _
    | exact tame_isAgg _
    | exact tame_sureAddr _
    | exact tame_asIntOf _
    | exact tame_asInt _
    | exact tame_asBool _
    | exact tame_asAgg _
    | exact tame_asAddr _
    | exact tame_newRow _ _
    | exact tame_newVar _ _
    | exact tame_newObj _
    | exact tame_shape _
    | exact tame_choose _
    | exact tame_askRoom _
    | exact tame_load _ _
    | exact tame_store _ _ _
    | exact tame_loadVar _ _
    | exact tame_storeVar _ _ _
    | exact tame_loadCells _ _
    | exact tame_storeCells _ _ _
    | exact tame_part _ _ _
    | exact tame_behind _
    | exact tame_numberAt _
    | exact tame_byteOf _
    | exact tame_fieldPlace _ _
    | exact tame_program
    | exact tame_lenOf _
    | exact tame_firstCells _ _ _
    | exact tame_sliceBound _ _ _
    | exact tame_sliceBounds _ _ _ _ _ _
    | exact tame_intArith _ _ _ _
    | exact tame_intDiv _ _ _ _
    | exact tame_intBits _ _ _ _
    | exact tame_intCmp _ _ _
    | refine Tame.bind' (tame_under _) (fun _ _ => ?_)
    | refine Tame.bind' (tame_typeInfo _) (fun _ _ => ?_)
    | refine Tame.bind' (tame_zero _) (fun _ _ => ?_)
    | refine Tame.bind' (tame_sizeOf _) (fun _ _ => ?_)
    | refine Tame.bind' (tame_isAgg _) (fun _ _ => ?_)
    | refine Tame.bind' (tame_sureAddr _) (fun _ _ => ?_)
    | refine Tame.bind' (tame_asIntOf _) (fun _ _ => ?_)
    | refine Tame.bind' (tame_asInt _) (fun _ _ => ?_)
    | refine Tame.bind' (tame_asBool _) (fun _ _ => ?_)
    | refine Tame.bind' (tame_asAgg _) (fun _ _ => ?_)
    | refine Tame.bind' (tame_asAddr _) (fun _ _ => ?_)
    | refine Tame.bind' (tame_newRow _ _) (fun _ _ => ?_)
    | refine Tame.bind' (tame_newVar _ _) (fun _ _ => ?_)
    | refine Tame.bind' (tame_newObj _) (fun _ _ => ?_)
    | refine Tame.bind' (tame_shape _) (fun _ _ => ?_)
    | refine Tame.bind' (tame_choose _) (fun _ _ => ?_)
    | refine Tame.bind' (tame_askRoom _) (fun _ _ => ?_)
    | refine Tame.bind' (tame_load _ _) (fun _ _ => ?_)
    | refine Tame.bind' (tame_store _ _ _) (fun _ _ => ?_)
    | refine Tame.bind' (tame_loadVar _ _) (fun _ _ => ?_)
    | refine Tame.bind' (tame_storeVar _ _ _) (fun _ _ => ?_)
    | refine Tame.bind' (tame_loadCells _ _) (fun _ _ => ?_)
    | refine Tame.bind' (tame_storeCells _ _ _) (fun _ _ => ?_)
    | refine Tame.bind' (tame_part _ _ _) (fun _ _ => ?_)
    | refine Tame.bind' (tame_behind _) (fun _ _ => ?_)
    | refine Tame.bind' (tame_numberAt _) (fun _ _ => ?_)
    | refine Tame.bind' (tame_byteOf _) (fun _ _ => ?_)
    | refine Tame.bind' (tame_fieldPlace _ _) (fun _ _ => ?_)
    | refine Tame.bind' (tame_program) (fun _ _ => ?_)
    | refine Tame.bind' (tame_lenOf _) (fun _ _ => ?_)
    | refine Tame.bind' (tame_firstCells _ _ _) (fun _ _ => ?_)
    | refine Tame.bind' (tame_sliceBound _ _ _) (fun _ _ => ?_)
    | refine Tame.bind' (tame_sliceBounds _ _ _ _ _ _) (fun _ _ => ?_)
    | refine Tame.bind' (tame_intArith _ _ _ _) (fun _ _ => ?_)
    | refine Tame.bind' (tame_intDiv _ _ _ _) (fun _ _ => ?_)
    | refine Tame.bind' (tame_intBits _ _ _ _) (fun _ _ => ?_)
    | refine Tame.bind' (tame_intCmp _ _ _) (fun _ _ => ?_)
    | refine tame_getObj' _ (fun _ _ => rfl) (fun _ => ?_)
    | (refine Tame.bind' (ok := fun _ => True) (tame_pure _ trivial) (fun _ _ => ?_))
    | (refine Tame.bind' (ok := fun _ => True) (tame_stuck _) (fun _ _ => ?_))
    | (refine Tame.bind' (ok := fun _ => True) (tame_unsup _) (fun _ _ => ?_))
    | (refine Tame.bind' (ok := fun _ => True) (tame_rtPanic _) (fun _ _ => ?_))
    | split
    | dsimp only)
theorem tame_list_forIn {γ σ : Type} (f : γ → σ → Sem (ForInStep σ)) : ∀ (l : List γ) (b : σ), (∀ x ∈ l, ∀ s, Tame P (fun _ => True) (f x s)) → Tame P (fun _ => True) (forIn l b f)
  | [], b, _ => by simp only [List.forIn_nil]; exact .pure _ trivial
  | x :: l, b, h => by
    simp only [List.forIn_cons]
    refine Tame.bind' (h x (by simp) b) fun r _ => ?_
    cases r with
    | done b => exact .pure _ trivial
    | yield b => exact tame_list_forIn f l b fun y hy => h y (by simp [hy])
theorem tame_array_forIn {γ σ : Type} (f : γ → σ → Sem (ForInStep σ)) (a : Array γ) (b : σ) (h : ∀ x ∈ a, ∀ s, Tame P (fun _ => True) (f x s)) : Tame P (fun _ => True) (forIn a b f) := by
  rw [← Array.forIn_toList]
  exact tame_list_forIn f _ _ fun x hx => h x (by simpa using hx)
theorem tame_range_forIn {σ : Type} (f : Nat → σ → Sem (ForInStep σ)) (a : Std.Legacy.Range) (b : σ) (h : ∀ x s, Tame P (fun _ => True) (f x s)) : Tame P (fun _ => True) (forIn a b f) := by
  rw [Std.Legacy.Range.forIn_eq_forIn_range']
  exact tame_list_forIn f _ _ fun x _ => h x
/-- Types whose values are compared without a look at memory's marks. -/
def eqTy (P : Program) : Nat → TypeId → Bool
  | 0, _ => false
  | n + 1, t => match P.underlying t with
    | some .bool | some (.int _) | some .string => true
    | some (.struct fs) => fs.all fun f => f.name == "_" || eqTy P n f.type
    | _ => false
theorem tame_equalIn : ∀ (n : Nat) (t : TypeId), eqTy P n t = true → ∀ (d : Nat) (x y : Value), Tame P (fun _ => True) (Op.equalIn d t x y)
  | 0, t, h, _, _, _ => by simp [eqTy] at h
  | n + 1, t, h, 0, x, y => tame_unsup _
  | n + 1, t, h, d + 1, x, y => by
    unfold Op.equalIn
    unfold eqTy at h
    refine Tame.bind' (tame_under t) fun u hu => ?_
    rw [hu] at h
    split
    all_goals (first | (simp at h; done) | skip)
    all_goals (first | (with_reducible exact tame_pure _ trivial) | (with_reducible exact tame_stuck _) | (with_reducible exact tame_unsup _) | (split <;> first | (with_reducible exact tame_pure _ trivial) | (with_reducible exact tame_stuck _)) | skip)
    case h_5 =>
      repeat' (with_reducible first
        | exact tame_stuck _
        | exact tame_unsup _
        | exact tame_rtPanic _
        | exact tame_bounds _ _ _ _
        | exact tame_goPanic _
        | exact tame_pure _ trivial
        | exact tame_under _
        | exact tame_typeInfo _
        | exact tame_zero _
        | exact tame_sizeOf _
        | exact tame_isAgg _
        | exact tame_sureAddr _
        | exact tame_asIntOf _
        | exact tame_asInt _
        | exact tame_asBool _
        | exact tame_asAgg _
        | exact tame_asAddr _
        | exact tame_newRow _ _
        | exact tame_newVar _ _
        | exact tame_newObj _
        | exact tame_shape _
        | exact tame_choose _
        | exact tame_askRoom _
        | exact tame_load _ _
        | exact tame_store _ _ _
        | exact tame_loadVar _ _
        | exact tame_storeVar _ _ _
        | exact tame_loadCells _ _
        | exact tame_storeCells _ _ _
        | exact tame_part _ _ _
        | exact tame_behind _
        | exact tame_numberAt _
        | exact tame_byteOf _
        | exact tame_fieldPlace _ _
        | exact tame_program
        | exact tame_lenOf _
        | exact tame_firstCells _ _ _
        | exact tame_sliceBound _ _ _
        | exact tame_sliceBounds _ _ _ _ _ _
        | exact tame_intArith _ _ _ _
        | exact tame_intDiv _ _ _ _
        | exact tame_intBits _ _ _ _
        | exact tame_intCmp _ _ _
        | refine Tame.bind' (tame_under _) (fun _ _ => ?_)
        | refine Tame.bind' (tame_typeInfo _) (fun _ _ => ?_)
        | refine Tame.bind' (tame_zero _) (fun _ _ => ?_)
        | refine Tame.bind' (tame_sizeOf _) (fun _ _ => ?_)
        | refine Tame.bind' (tame_isAgg _) (fun _ _ => ?_)
        | refine Tame.bind' (tame_sureAddr _) (fun _ _ => ?_)
        | refine Tame.bind' (tame_asIntOf _) (fun _ _ => ?_)
        | refine Tame.bind' (tame_asInt _) (fun _ _ => ?_)
        | refine Tame.bind' (tame_asBool _) (fun _ _ => ?_)
        | refine Tame.bind' (tame_asAgg _) (fun _ _ => ?_)
        | refine Tame.bind' (tame_asAddr _) (fun _ _ => ?_)
        | refine Tame.bind' (tame_newRow _ _) (fun _ _ => ?_)
        | refine Tame.bind' (tame_newVar _ _) (fun _ _ => ?_)
        | refine Tame.bind' (tame_newObj _) (fun _ _ => ?_)
        | refine Tame.bind' (tame_shape _) (fun _ _ => ?_)
        | refine Tame.bind' (tame_choose _) (fun _ _ => ?_)
        | refine Tame.bind' (tame_askRoom _) (fun _ _ => ?_)
        | refine Tame.bind' (tame_load _ _) (fun _ _ => ?_)
        | refine Tame.bind' (tame_store _ _ _) (fun _ _ => ?_)
        | refine Tame.bind' (tame_loadVar _ _) (fun _ _ => ?_)
        | refine Tame.bind' (tame_storeVar _ _ _) (fun _ _ => ?_)
        | refine Tame.bind' (tame_loadCells _ _) (fun _ _ => ?_)
        | refine Tame.bind' (tame_storeCells _ _ _) (fun _ _ => ?_)
        | refine Tame.bind' (tame_part _ _ _) (fun _ _ => ?_)
        | refine Tame.bind' (tame_behind _) (fun _ _ => ?_)
        | refine Tame.bind' (tame_numberAt _) (fun _ _ => ?_)
        | refine Tame.bind' (tame_byteOf _) (fun _ _ => ?_)
        | refine Tame.bind' (tame_fieldPlace _ _) (fun _ _ => ?_)
        | refine Tame.bind' (tame_program) (fun _ _ => ?_)
        | refine Tame.bind' (tame_lenOf _) (fun _ _ => ?_)
        | refine Tame.bind' (tame_firstCells _ _ _) (fun _ _ => ?_)
        | refine Tame.bind' (tame_sliceBound _ _ _) (fun _ _ => ?_)
        | refine Tame.bind' (tame_sliceBounds _ _ _ _ _ _) (fun _ _ => ?_)
        | refine Tame.bind' (tame_intArith _ _ _ _) (fun _ _ => ?_)
        | refine Tame.bind' (tame_intDiv _ _ _ _) (fun _ _ => ?_)
        | refine Tame.bind' (tame_intBits _ _ _ _) (fun _ _ => ?_)
        | refine Tame.bind' (tame_intCmp _ _ _) (fun _ _ => ?_)
        | refine tame_getObj' _ (fun _ _ => rfl) (fun _ => ?_)
        | (refine Tame.bind' (ok := fun _ => True) (tame_pure _ trivial) (fun _ _ => ?_))
        | (refine Tame.bind' (ok := fun _ => True) (tame_stuck _) (fun _ _ => ?_))
        | (refine Tame.bind' (ok := fun _ => True) (tame_unsup _) (fun _ _ => ?_))
        | (refine Tame.bind' (ok := fun _ => True) (tame_rtPanic _) (fun _ _ => ?_))
        | split
        | dsimp only)
    case h_20 =>
      refine Tame.bind' tame_program fun p _ => ?_
      extract_lets k1
      have hk1 : ∀ z, Tame P (fun _ => True) (k1 z) := fun _ => by
        dsimp -zeta only [k1]
        refine Tame.bind' (tame_array_forIn _ _ _ fun f hf s => ?_) fun r _ => ?_
        · split
          · rename_i hne
            have hq : eqTy P n f.type = true := by
              have := Array.all_eq_true_iff_forall_mem.1 h f hf
              simp only [Bool.or_eq_true, beq_iff_eq] at this
              exact this.resolve_left hne
            refine Tame.bind' (tame_part _ _ _) fun a _ => Tame.bind' (tame_part _ _ _) fun b _ => Tame.bind' (tame_equalIn n f.type hq d a b) fun e _ => ?_
            split <;> exact tame_pure _ trivial
          · exact tame_pure _ trivial
        · dsimp only
          split <;> exact tame_pure _ trivial
      split
      · exact Tame.bind' (ok := fun _ => True) (tame_unsup _) fun _ _ => hk1 ()
      · exact hk1 ()
/-- Values that are nil, as a constant operand spells them. -/
def isNil : Value → Bool
  | .pointer none | .nilIface | .nilFunc => true
  | .slice none _ _ => true
  | .map none => true
  | _ => false
theorem tame_equalNil (d : Nat) (t : TypeId) (x y : Value) (hy : isNil y = true) : Tame P (fun _ => True) (Op.equalIn d t x y) := by
  cases d with
  | zero => exact tame_unsup _
  | succ d =>
    unfold Op.equalIn
    refine Tame.bind' (tame_under t) fun u hu => ?_
    split
    all_goals (first | (simp [isNil] at hy; done) | (with_reducible exact tame_pure _ trivial) | (with_reducible exact tame_stuck _) | (with_reducible exact tame_unsup _) | skip)
    rename_i a b
    cases b with
    | none => cases a <;> exact tame_pure _ trivial
    | some b => simp [isNil] at hy
theorem tame_eqGuardIn : ∀ (d : Nat) (t : TypeId) (x y : Value), Tame P (fun _ => True) (Op.eqGuardIn d t x y)
  | 0, t, x, y => tame_unsup _
  | d + 1, t, x, y => by
    unfold Op.eqGuardIn
    refine Tame.bind' (tame_under t) fun u hu => ?_
    split
    · exact tame_pure _ trivial
    · refine Tame.bind' (tame_array_forIn _ _ _ fun f hf s => ?_) fun r _ => ?_
      · split
        · refine Tame.bind' (tame_part _ _ _) fun a _ => Tame.bind' (tame_part _ _ _) fun b _ => Tame.bind' (tame_eqGuardIn d f.type a b) fun e _ => ?_
          split <;> exact tame_pure _ trivial
        · exact tame_pure _ trivial
      · dsimp only
        split <;> exact tame_pure _ trivial
    · refine Tame.bind' (tame_sizeOf _) fun n _ => Tame.bind' (tame_range_forIn _ _ _ fun f s => ?_) fun r _ => ?_
      · refine Tame.bind' (tame_part _ _ _) fun a _ => Tame.bind' (tame_part _ _ _) fun b _ => Tame.bind' (tame_eqGuardIn d _ a b) fun e _ => ?_
        split <;> exact tame_pure _ trivial
      · dsimp only
        split <;> exact tame_pure _ trivial
    · exact tame_pure _ trivial
theorem tame_eqGuard (op : BinOp) (t : TypeId) (x y : Operand) (a b : Value) : Tame P (fun _ => True) (eqGuard op t x y a b) := by
  unfold eqGuard
  repeat' (with_reducible first
    | exact tame_stuck _
    | exact tame_unsup _
    | exact tame_rtPanic _
    | exact tame_bounds _ _ _ _
    | exact tame_goPanic _
    | exact tame_pure _ trivial
    | exact tame_under _
    | exact tame_typeInfo _
    | exact tame_zero _
    | exact tame_sizeOf _
    | exact tame_isAgg _
    | exact tame_sureAddr _
    | exact tame_asIntOf _
    | exact tame_asInt _
    | exact tame_asBool _
    | exact tame_asAgg _
    | exact tame_asAddr _
    | exact tame_newRow _ _
    | exact tame_newVar _ _
    | exact tame_newObj _
    | exact tame_shape _
    | exact tame_choose _
    | exact tame_askRoom _
    | exact tame_load _ _
    | exact tame_store _ _ _
    | exact tame_loadVar _ _
    | exact tame_storeVar _ _ _
    | exact tame_loadCells _ _
    | exact tame_storeCells _ _ _
    | exact tame_part _ _ _
    | exact tame_behind _
    | exact tame_numberAt _
    | exact tame_byteOf _
    | exact tame_fieldPlace _ _
    | exact tame_program
    | exact tame_lenOf _
    | exact tame_firstCells _ _ _
    | exact tame_sliceBound _ _ _
    | exact tame_sliceBounds _ _ _ _ _ _
    | exact tame_intArith _ _ _ _
    | exact tame_intDiv _ _ _ _
    | exact tame_intBits _ _ _ _
    | exact tame_intCmp _ _ _
    | exact tame_eqGuardIn _ _ _ _
    | refine Tame.bind' (tame_under _) (fun _ _ => ?_)
    | refine Tame.bind' (tame_typeInfo _) (fun _ _ => ?_)
    | refine Tame.bind' (tame_zero _) (fun _ _ => ?_)
    | refine Tame.bind' (tame_sizeOf _) (fun _ _ => ?_)
    | refine Tame.bind' (tame_isAgg _) (fun _ _ => ?_)
    | refine Tame.bind' (tame_sureAddr _) (fun _ _ => ?_)
    | refine Tame.bind' (tame_asIntOf _) (fun _ _ => ?_)
    | refine Tame.bind' (tame_asInt _) (fun _ _ => ?_)
    | refine Tame.bind' (tame_asBool _) (fun _ _ => ?_)
    | refine Tame.bind' (tame_asAgg _) (fun _ _ => ?_)
    | refine Tame.bind' (tame_asAddr _) (fun _ _ => ?_)
    | refine Tame.bind' (tame_newRow _ _) (fun _ _ => ?_)
    | refine Tame.bind' (tame_newVar _ _) (fun _ _ => ?_)
    | refine Tame.bind' (tame_newObj _) (fun _ _ => ?_)
    | refine Tame.bind' (tame_shape _) (fun _ _ => ?_)
    | refine Tame.bind' (tame_choose _) (fun _ _ => ?_)
    | refine Tame.bind' (tame_askRoom _) (fun _ _ => ?_)
    | refine Tame.bind' (tame_load _ _) (fun _ _ => ?_)
    | refine Tame.bind' (tame_store _ _ _) (fun _ _ => ?_)
    | refine Tame.bind' (tame_loadVar _ _) (fun _ _ => ?_)
    | refine Tame.bind' (tame_storeVar _ _ _) (fun _ _ => ?_)
    | refine Tame.bind' (tame_loadCells _ _) (fun _ _ => ?_)
    | refine Tame.bind' (tame_storeCells _ _ _) (fun _ _ => ?_)
    | refine Tame.bind' (tame_part _ _ _) (fun _ _ => ?_)
    | refine Tame.bind' (tame_behind _) (fun _ _ => ?_)
    | refine Tame.bind' (tame_numberAt _) (fun _ _ => ?_)
    | refine Tame.bind' (tame_byteOf _) (fun _ _ => ?_)
    | refine Tame.bind' (tame_fieldPlace _ _) (fun _ _ => ?_)
    | refine Tame.bind' (tame_program) (fun _ _ => ?_)
    | refine Tame.bind' (tame_lenOf _) (fun _ _ => ?_)
    | refine Tame.bind' (tame_firstCells _ _ _) (fun _ _ => ?_)
    | refine Tame.bind' (tame_sliceBound _ _ _) (fun _ _ => ?_)
    | refine Tame.bind' (tame_sliceBounds _ _ _ _ _ _) (fun _ _ => ?_)
    | refine Tame.bind' (tame_intArith _ _ _ _) (fun _ _ => ?_)
    | refine Tame.bind' (tame_intDiv _ _ _ _) (fun _ _ => ?_)
    | refine Tame.bind' (tame_intBits _ _ _ _) (fun _ _ => ?_)
    | refine Tame.bind' (tame_intCmp _ _ _) (fun _ _ => ?_)
    | refine Tame.bind' (tame_eqGuardIn _ _ _ _) (fun _ _ => ?_)
    | refine tame_getObj' _ (fun _ _ => rfl) (fun _ => ?_)
    | (refine Tame.bind' (ok := fun _ => True) (tame_pure _ trivial) (fun _ _ => ?_))
    | (refine Tame.bind' (ok := fun _ => True) (tame_stuck _) (fun _ _ => ?_))
    | (refine Tame.bind' (ok := fun _ => True) (tame_unsup _) (fun _ _ => ?_))
    | (refine Tame.bind' (ok := fun _ => True) (tame_rtPanic _) (fun _ _ => ?_))
    | split
    | dsimp only)
theorem tame_convFF (s : FloatKind) (x : Nat) (k : FloatKind) : Tame P (fun _ => True) (Conv.floatToFloat s x k) := by
  unfold Conv.floatToFloat
  repeat' (with_reducible first
    | exact tame_stuck _
    | exact tame_unsup _
    | exact tame_rtPanic _
    | exact tame_bounds _ _ _ _
    | exact tame_goPanic _
    | exact tame_pure _ trivial
    | exact tame_under _
    | exact tame_typeInfo _
    | exact tame_zero _
    | exact tame_sizeOf _
    | exact tame_isAgg _
    | exact tame_sureAddr _
    | exact tame_asIntOf _
    | exact tame_asInt _
    | exact tame_asBool _
    | exact tame_asAgg _
    | exact tame_asAddr _
    | exact tame_newRow _ _
    | exact tame_newVar _ _
    | exact tame_newObj _
    | exact tame_shape _
    | exact tame_choose _
    | exact tame_askRoom _
    | exact tame_load _ _
    | exact tame_store _ _ _
    | exact tame_loadVar _ _
    | exact tame_storeVar _ _ _
    | exact tame_loadCells _ _
    | exact tame_storeCells _ _ _
    | exact tame_part _ _ _
    | exact tame_behind _
    | exact tame_numberAt _
    | exact tame_byteOf _
    | exact tame_fieldPlace _ _
    | exact tame_program
    | exact tame_lenOf _
    | exact tame_firstCells _ _ _
    | exact tame_sliceBound _ _ _
    | exact tame_sliceBounds _ _ _ _ _ _
    | exact tame_intArith _ _ _ _
    | exact tame_intDiv _ _ _ _
    | exact tame_intBits _ _ _ _
    | exact tame_intCmp _ _ _
    | refine Tame.bind' (tame_under _) (fun _ _ => ?_)
    | refine Tame.bind' (tame_typeInfo _) (fun _ _ => ?_)
    | refine Tame.bind' (tame_zero _) (fun _ _ => ?_)
    | refine Tame.bind' (tame_sizeOf _) (fun _ _ => ?_)
    | refine Tame.bind' (tame_isAgg _) (fun _ _ => ?_)
    | refine Tame.bind' (tame_sureAddr _) (fun _ _ => ?_)
    | refine Tame.bind' (tame_asIntOf _) (fun _ _ => ?_)
    | refine Tame.bind' (tame_asInt _) (fun _ _ => ?_)
    | refine Tame.bind' (tame_asBool _) (fun _ _ => ?_)
    | refine Tame.bind' (tame_asAgg _) (fun _ _ => ?_)
    | refine Tame.bind' (tame_asAddr _) (fun _ _ => ?_)
    | refine Tame.bind' (tame_newRow _ _) (fun _ _ => ?_)
    | refine Tame.bind' (tame_newVar _ _) (fun _ _ => ?_)
    | refine Tame.bind' (tame_newObj _) (fun _ _ => ?_)
    | refine Tame.bind' (tame_shape _) (fun _ _ => ?_)
    | refine Tame.bind' (tame_choose _) (fun _ _ => ?_)
    | refine Tame.bind' (tame_askRoom _) (fun _ _ => ?_)
    | refine Tame.bind' (tame_load _ _) (fun _ _ => ?_)
    | refine Tame.bind' (tame_store _ _ _) (fun _ _ => ?_)
    | refine Tame.bind' (tame_loadVar _ _) (fun _ _ => ?_)
    | refine Tame.bind' (tame_storeVar _ _ _) (fun _ _ => ?_)
    | refine Tame.bind' (tame_loadCells _ _) (fun _ _ => ?_)
    | refine Tame.bind' (tame_storeCells _ _ _) (fun _ _ => ?_)
    | refine Tame.bind' (tame_part _ _ _) (fun _ _ => ?_)
    | refine Tame.bind' (tame_behind _) (fun _ _ => ?_)
    | refine Tame.bind' (tame_numberAt _) (fun _ _ => ?_)
    | refine Tame.bind' (tame_byteOf _) (fun _ _ => ?_)
    | refine Tame.bind' (tame_fieldPlace _ _) (fun _ _ => ?_)
    | refine Tame.bind' (tame_program) (fun _ _ => ?_)
    | refine Tame.bind' (tame_lenOf _) (fun _ _ => ?_)
    | refine Tame.bind' (tame_firstCells _ _ _) (fun _ _ => ?_)
    | refine Tame.bind' (tame_sliceBound _ _ _) (fun _ _ => ?_)
    | refine Tame.bind' (tame_sliceBounds _ _ _ _ _ _) (fun _ _ => ?_)
    | refine Tame.bind' (tame_intArith _ _ _ _) (fun _ _ => ?_)
    | refine Tame.bind' (tame_intDiv _ _ _ _) (fun _ _ => ?_)
    | refine Tame.bind' (tame_intBits _ _ _ _) (fun _ _ => ?_)
    | refine Tame.bind' (tame_intCmp _ _ _) (fun _ _ => ?_)
    | refine tame_getObj' _ (fun _ _ => rfl) (fun _ => ?_)
    | (refine Tame.bind' (ok := fun _ => True) (tame_pure _ trivial) (fun _ _ => ?_))
    | (refine Tame.bind' (ok := fun _ => True) (tame_stuck _) (fun _ _ => ?_))
    | (refine Tame.bind' (ok := fun _ => True) (tame_unsup _) (fun _ _ => ?_))
    | (refine Tame.bind' (ok := fun _ => True) (tame_rtPanic _) (fun _ _ => ?_))
    | split
    | dsimp only)
theorem tame_cArith (op : BinOp) (k : FloatKind) (x y : Nat) : Tame P (fun _ => True) (Op.Complex.arith op k x y) := by
  unfold Op.Complex.arith
  repeat' (with_reducible first
    | exact tame_stuck _
    | exact tame_unsup _
    | exact tame_rtPanic _
    | exact tame_bounds _ _ _ _
    | exact tame_goPanic _
    | exact tame_pure _ trivial
    | exact tame_under _
    | exact tame_typeInfo _
    | exact tame_zero _
    | exact tame_sizeOf _
    | exact tame_isAgg _
    | exact tame_sureAddr _
    | exact tame_asIntOf _
    | exact tame_asInt _
    | exact tame_asBool _
    | exact tame_asAgg _
    | exact tame_asAddr _
    | exact tame_newRow _ _
    | exact tame_newVar _ _
    | exact tame_newObj _
    | exact tame_shape _
    | exact tame_choose _
    | exact tame_askRoom _
    | exact tame_load _ _
    | exact tame_store _ _ _
    | exact tame_loadVar _ _
    | exact tame_storeVar _ _ _
    | exact tame_loadCells _ _
    | exact tame_storeCells _ _ _
    | exact tame_part _ _ _
    | exact tame_behind _
    | exact tame_numberAt _
    | exact tame_byteOf _
    | exact tame_fieldPlace _ _
    | exact tame_program
    | exact tame_lenOf _
    | exact tame_firstCells _ _ _
    | exact tame_sliceBound _ _ _
    | exact tame_sliceBounds _ _ _ _ _ _
    | exact tame_intArith _ _ _ _
    | exact tame_intDiv _ _ _ _
    | exact tame_intBits _ _ _ _
    | exact tame_intCmp _ _ _
    | exact tame_floatArith _ _ _ _
    | refine Tame.bind' (tame_under _) (fun _ _ => ?_)
    | refine Tame.bind' (tame_typeInfo _) (fun _ _ => ?_)
    | refine Tame.bind' (tame_zero _) (fun _ _ => ?_)
    | refine Tame.bind' (tame_sizeOf _) (fun _ _ => ?_)
    | refine Tame.bind' (tame_isAgg _) (fun _ _ => ?_)
    | refine Tame.bind' (tame_sureAddr _) (fun _ _ => ?_)
    | refine Tame.bind' (tame_asIntOf _) (fun _ _ => ?_)
    | refine Tame.bind' (tame_asInt _) (fun _ _ => ?_)
    | refine Tame.bind' (tame_asBool _) (fun _ _ => ?_)
    | refine Tame.bind' (tame_asAgg _) (fun _ _ => ?_)
    | refine Tame.bind' (tame_asAddr _) (fun _ _ => ?_)
    | refine Tame.bind' (tame_newRow _ _) (fun _ _ => ?_)
    | refine Tame.bind' (tame_newVar _ _) (fun _ _ => ?_)
    | refine Tame.bind' (tame_newObj _) (fun _ _ => ?_)
    | refine Tame.bind' (tame_shape _) (fun _ _ => ?_)
    | refine Tame.bind' (tame_choose _) (fun _ _ => ?_)
    | refine Tame.bind' (tame_askRoom _) (fun _ _ => ?_)
    | refine Tame.bind' (tame_load _ _) (fun _ _ => ?_)
    | refine Tame.bind' (tame_store _ _ _) (fun _ _ => ?_)
    | refine Tame.bind' (tame_loadVar _ _) (fun _ _ => ?_)
    | refine Tame.bind' (tame_storeVar _ _ _) (fun _ _ => ?_)
    | refine Tame.bind' (tame_loadCells _ _) (fun _ _ => ?_)
    | refine Tame.bind' (tame_storeCells _ _ _) (fun _ _ => ?_)
    | refine Tame.bind' (tame_part _ _ _) (fun _ _ => ?_)
    | refine Tame.bind' (tame_behind _) (fun _ _ => ?_)
    | refine Tame.bind' (tame_numberAt _) (fun _ _ => ?_)
    | refine Tame.bind' (tame_byteOf _) (fun _ _ => ?_)
    | refine Tame.bind' (tame_fieldPlace _ _) (fun _ _ => ?_)
    | refine Tame.bind' (tame_program) (fun _ _ => ?_)
    | refine Tame.bind' (tame_lenOf _) (fun _ _ => ?_)
    | refine Tame.bind' (tame_firstCells _ _ _) (fun _ _ => ?_)
    | refine Tame.bind' (tame_sliceBound _ _ _) (fun _ _ => ?_)
    | refine Tame.bind' (tame_sliceBounds _ _ _ _ _ _) (fun _ _ => ?_)
    | refine Tame.bind' (tame_intArith _ _ _ _) (fun _ _ => ?_)
    | refine Tame.bind' (tame_intDiv _ _ _ _) (fun _ _ => ?_)
    | refine Tame.bind' (tame_intBits _ _ _ _) (fun _ _ => ?_)
    | refine Tame.bind' (tame_intCmp _ _ _) (fun _ _ => ?_)
    | refine Tame.bind' (tame_floatArith _ _ _ _) (fun _ _ => ?_)
    | refine tame_getObj' _ (fun _ _ => rfl) (fun _ => ?_)
    | (refine Tame.bind' (ok := fun _ => True) (tame_pure _ trivial) (fun _ _ => ?_))
    | (refine Tame.bind' (ok := fun _ => True) (tame_stuck _) (fun _ _ => ?_))
    | (refine Tame.bind' (ok := fun _ => True) (tame_unsup _) (fun _ _ => ?_))
    | (refine Tame.bind' (ok := fun _ => True) (tame_rtPanic _) (fun _ _ => ?_))
    | split
    | dsimp only)
theorem tame_cCmp (op : BinOp) (k : FloatKind) (x y : Nat) : Tame P (fun _ => True) (Op.Complex.cmp op k x y) := by
  unfold Op.Complex.cmp
  repeat' (with_reducible first
    | exact tame_stuck _
    | exact tame_unsup _
    | exact tame_rtPanic _
    | exact tame_bounds _ _ _ _
    | exact tame_goPanic _
    | exact tame_pure _ trivial
    | exact tame_under _
    | exact tame_typeInfo _
    | exact tame_zero _
    | exact tame_sizeOf _
    | exact tame_isAgg _
    | exact tame_sureAddr _
    | exact tame_asIntOf _
    | exact tame_asInt _
    | exact tame_asBool _
    | exact tame_asAgg _
    | exact tame_asAddr _
    | exact tame_newRow _ _
    | exact tame_newVar _ _
    | exact tame_newObj _
    | exact tame_shape _
    | exact tame_choose _
    | exact tame_askRoom _
    | exact tame_load _ _
    | exact tame_store _ _ _
    | exact tame_loadVar _ _
    | exact tame_storeVar _ _ _
    | exact tame_loadCells _ _
    | exact tame_storeCells _ _ _
    | exact tame_part _ _ _
    | exact tame_behind _
    | exact tame_numberAt _
    | exact tame_byteOf _
    | exact tame_fieldPlace _ _
    | exact tame_program
    | exact tame_lenOf _
    | exact tame_firstCells _ _ _
    | exact tame_sliceBound _ _ _
    | exact tame_sliceBounds _ _ _ _ _ _
    | exact tame_intArith _ _ _ _
    | exact tame_intDiv _ _ _ _
    | exact tame_intBits _ _ _ _
    | exact tame_intCmp _ _ _
    | exact tame_floatCmp _ _ _ _
    | refine Tame.bind' (tame_under _) (fun _ _ => ?_)
    | refine Tame.bind' (tame_typeInfo _) (fun _ _ => ?_)
    | refine Tame.bind' (tame_zero _) (fun _ _ => ?_)
    | refine Tame.bind' (tame_sizeOf _) (fun _ _ => ?_)
    | refine Tame.bind' (tame_isAgg _) (fun _ _ => ?_)
    | refine Tame.bind' (tame_sureAddr _) (fun _ _ => ?_)
    | refine Tame.bind' (tame_asIntOf _) (fun _ _ => ?_)
    | refine Tame.bind' (tame_asInt _) (fun _ _ => ?_)
    | refine Tame.bind' (tame_asBool _) (fun _ _ => ?_)
    | refine Tame.bind' (tame_asAgg _) (fun _ _ => ?_)
    | refine Tame.bind' (tame_asAddr _) (fun _ _ => ?_)
    | refine Tame.bind' (tame_newRow _ _) (fun _ _ => ?_)
    | refine Tame.bind' (tame_newVar _ _) (fun _ _ => ?_)
    | refine Tame.bind' (tame_newObj _) (fun _ _ => ?_)
    | refine Tame.bind' (tame_shape _) (fun _ _ => ?_)
    | refine Tame.bind' (tame_choose _) (fun _ _ => ?_)
    | refine Tame.bind' (tame_askRoom _) (fun _ _ => ?_)
    | refine Tame.bind' (tame_load _ _) (fun _ _ => ?_)
    | refine Tame.bind' (tame_store _ _ _) (fun _ _ => ?_)
    | refine Tame.bind' (tame_loadVar _ _) (fun _ _ => ?_)
    | refine Tame.bind' (tame_storeVar _ _ _) (fun _ _ => ?_)
    | refine Tame.bind' (tame_loadCells _ _) (fun _ _ => ?_)
    | refine Tame.bind' (tame_storeCells _ _ _) (fun _ _ => ?_)
    | refine Tame.bind' (tame_part _ _ _) (fun _ _ => ?_)
    | refine Tame.bind' (tame_behind _) (fun _ _ => ?_)
    | refine Tame.bind' (tame_numberAt _) (fun _ _ => ?_)
    | refine Tame.bind' (tame_byteOf _) (fun _ _ => ?_)
    | refine Tame.bind' (tame_fieldPlace _ _) (fun _ _ => ?_)
    | refine Tame.bind' (tame_program) (fun _ _ => ?_)
    | refine Tame.bind' (tame_lenOf _) (fun _ _ => ?_)
    | refine Tame.bind' (tame_firstCells _ _ _) (fun _ _ => ?_)
    | refine Tame.bind' (tame_sliceBound _ _ _) (fun _ _ => ?_)
    | refine Tame.bind' (tame_sliceBounds _ _ _ _ _ _) (fun _ _ => ?_)
    | refine Tame.bind' (tame_intArith _ _ _ _) (fun _ _ => ?_)
    | refine Tame.bind' (tame_intDiv _ _ _ _) (fun _ _ => ?_)
    | refine Tame.bind' (tame_intBits _ _ _ _) (fun _ _ => ?_)
    | refine Tame.bind' (tame_intCmp _ _ _) (fun _ _ => ?_)
    | refine Tame.bind' (tame_floatCmp _ _ _ _) (fun _ _ => ?_)
    | refine tame_getObj' _ (fun _ _ => rfl) (fun _ => ?_)
    | (refine Tame.bind' (ok := fun _ => True) (tame_pure _ trivial) (fun _ _ => ?_))
    | (refine Tame.bind' (ok := fun _ => True) (tame_stuck _) (fun _ _ => ?_))
    | (refine Tame.bind' (ok := fun _ => True) (tame_unsup _) (fun _ _ => ?_))
    | (refine Tame.bind' (ok := fun _ => True) (tame_rtPanic _) (fun _ _ => ?_))
    | split
    | dsimp only)
theorem tame_cConv (s : FloatKind) (x : Nat) (k : FloatKind) : Tame P (fun _ => True) (Op.Complex.conv s x k) := by
  unfold Op.Complex.conv
  repeat' (with_reducible first
    | exact tame_stuck _
    | exact tame_unsup _
    | exact tame_rtPanic _
    | exact tame_bounds _ _ _ _
    | exact tame_goPanic _
    | exact tame_pure _ trivial
    | exact tame_under _
    | exact tame_typeInfo _
    | exact tame_zero _
    | exact tame_sizeOf _
    | exact tame_isAgg _
    | exact tame_sureAddr _
    | exact tame_asIntOf _
    | exact tame_asInt _
    | exact tame_asBool _
    | exact tame_asAgg _
    | exact tame_asAddr _
    | exact tame_newRow _ _
    | exact tame_newVar _ _
    | exact tame_newObj _
    | exact tame_shape _
    | exact tame_choose _
    | exact tame_askRoom _
    | exact tame_load _ _
    | exact tame_store _ _ _
    | exact tame_loadVar _ _
    | exact tame_storeVar _ _ _
    | exact tame_loadCells _ _
    | exact tame_storeCells _ _ _
    | exact tame_part _ _ _
    | exact tame_behind _
    | exact tame_numberAt _
    | exact tame_byteOf _
    | exact tame_fieldPlace _ _
    | exact tame_program
    | exact tame_lenOf _
    | exact tame_firstCells _ _ _
    | exact tame_sliceBound _ _ _
    | exact tame_sliceBounds _ _ _ _ _ _
    | exact tame_intArith _ _ _ _
    | exact tame_intDiv _ _ _ _
    | exact tame_intBits _ _ _ _
    | exact tame_intCmp _ _ _
    | exact tame_convFF _ _ _
    | refine Tame.bind' (tame_under _) (fun _ _ => ?_)
    | refine Tame.bind' (tame_typeInfo _) (fun _ _ => ?_)
    | refine Tame.bind' (tame_zero _) (fun _ _ => ?_)
    | refine Tame.bind' (tame_sizeOf _) (fun _ _ => ?_)
    | refine Tame.bind' (tame_isAgg _) (fun _ _ => ?_)
    | refine Tame.bind' (tame_sureAddr _) (fun _ _ => ?_)
    | refine Tame.bind' (tame_asIntOf _) (fun _ _ => ?_)
    | refine Tame.bind' (tame_asInt _) (fun _ _ => ?_)
    | refine Tame.bind' (tame_asBool _) (fun _ _ => ?_)
    | refine Tame.bind' (tame_asAgg _) (fun _ _ => ?_)
    | refine Tame.bind' (tame_asAddr _) (fun _ _ => ?_)
    | refine Tame.bind' (tame_newRow _ _) (fun _ _ => ?_)
    | refine Tame.bind' (tame_newVar _ _) (fun _ _ => ?_)
    | refine Tame.bind' (tame_newObj _) (fun _ _ => ?_)
    | refine Tame.bind' (tame_shape _) (fun _ _ => ?_)
    | refine Tame.bind' (tame_choose _) (fun _ _ => ?_)
    | refine Tame.bind' (tame_askRoom _) (fun _ _ => ?_)
    | refine Tame.bind' (tame_load _ _) (fun _ _ => ?_)
    | refine Tame.bind' (tame_store _ _ _) (fun _ _ => ?_)
    | refine Tame.bind' (tame_loadVar _ _) (fun _ _ => ?_)
    | refine Tame.bind' (tame_storeVar _ _ _) (fun _ _ => ?_)
    | refine Tame.bind' (tame_loadCells _ _) (fun _ _ => ?_)
    | refine Tame.bind' (tame_storeCells _ _ _) (fun _ _ => ?_)
    | refine Tame.bind' (tame_part _ _ _) (fun _ _ => ?_)
    | refine Tame.bind' (tame_behind _) (fun _ _ => ?_)
    | refine Tame.bind' (tame_numberAt _) (fun _ _ => ?_)
    | refine Tame.bind' (tame_byteOf _) (fun _ _ => ?_)
    | refine Tame.bind' (tame_fieldPlace _ _) (fun _ _ => ?_)
    | refine Tame.bind' (tame_program) (fun _ _ => ?_)
    | refine Tame.bind' (tame_lenOf _) (fun _ _ => ?_)
    | refine Tame.bind' (tame_firstCells _ _ _) (fun _ _ => ?_)
    | refine Tame.bind' (tame_sliceBound _ _ _) (fun _ _ => ?_)
    | refine Tame.bind' (tame_sliceBounds _ _ _ _ _ _) (fun _ _ => ?_)
    | refine Tame.bind' (tame_intArith _ _ _ _) (fun _ _ => ?_)
    | refine Tame.bind' (tame_intDiv _ _ _ _) (fun _ _ => ?_)
    | refine Tame.bind' (tame_intBits _ _ _ _) (fun _ _ => ?_)
    | refine Tame.bind' (tame_intCmp _ _ _) (fun _ _ => ?_)
    | refine Tame.bind' (tame_convFF _ _ _) (fun _ _ => ?_)
    | refine tame_getObj' _ (fun _ _ => rfl) (fun _ => ?_)
    | (refine Tame.bind' (ok := fun _ => True) (tame_pure _ trivial) (fun _ _ => ?_))
    | (refine Tame.bind' (ok := fun _ => True) (tame_stuck _) (fun _ _ => ?_))
    | (refine Tame.bind' (ok := fun _ => True) (tame_unsup _) (fun _ _ => ?_))
    | (refine Tame.bind' (ok := fun _ => True) (tame_rtPanic _) (fun _ _ => ?_))
    | split
    | dsimp only)
theorem tame_cProduct (a b c d : Nat) : Tame P (fun _ => True) (Op.Complex.product a b c d) := by
  unfold Op.Complex.product Op.Complex.sub Op.Complex.mul Op.Complex.add
  repeat' (with_reducible first
    | exact tame_stuck _
    | exact tame_unsup _
    | exact tame_rtPanic _
    | exact tame_bounds _ _ _ _
    | exact tame_goPanic _
    | exact tame_pure _ trivial
    | exact tame_under _
    | exact tame_typeInfo _
    | exact tame_zero _
    | exact tame_sizeOf _
    | exact tame_isAgg _
    | exact tame_sureAddr _
    | exact tame_asIntOf _
    | exact tame_asInt _
    | exact tame_asBool _
    | exact tame_asAgg _
    | exact tame_asAddr _
    | exact tame_newRow _ _
    | exact tame_newVar _ _
    | exact tame_newObj _
    | exact tame_shape _
    | exact tame_choose _
    | exact tame_askRoom _
    | exact tame_load _ _
    | exact tame_store _ _ _
    | exact tame_loadVar _ _
    | exact tame_storeVar _ _ _
    | exact tame_loadCells _ _
    | exact tame_storeCells _ _ _
    | exact tame_part _ _ _
    | exact tame_behind _
    | exact tame_numberAt _
    | exact tame_byteOf _
    | exact tame_fieldPlace _ _
    | exact tame_program
    | exact tame_lenOf _
    | exact tame_firstCells _ _ _
    | exact tame_sliceBound _ _ _
    | exact tame_sliceBounds _ _ _ _ _ _
    | exact tame_intArith _ _ _ _
    | exact tame_intDiv _ _ _ _
    | exact tame_intBits _ _ _ _
    | exact tame_intCmp _ _ _
    | exact tame_cArith _ _ _ _
    | refine Tame.bind' (tame_under _) (fun _ _ => ?_)
    | refine Tame.bind' (tame_typeInfo _) (fun _ _ => ?_)
    | refine Tame.bind' (tame_zero _) (fun _ _ => ?_)
    | refine Tame.bind' (tame_sizeOf _) (fun _ _ => ?_)
    | refine Tame.bind' (tame_isAgg _) (fun _ _ => ?_)
    | refine Tame.bind' (tame_sureAddr _) (fun _ _ => ?_)
    | refine Tame.bind' (tame_asIntOf _) (fun _ _ => ?_)
    | refine Tame.bind' (tame_asInt _) (fun _ _ => ?_)
    | refine Tame.bind' (tame_asBool _) (fun _ _ => ?_)
    | refine Tame.bind' (tame_asAgg _) (fun _ _ => ?_)
    | refine Tame.bind' (tame_asAddr _) (fun _ _ => ?_)
    | refine Tame.bind' (tame_newRow _ _) (fun _ _ => ?_)
    | refine Tame.bind' (tame_newVar _ _) (fun _ _ => ?_)
    | refine Tame.bind' (tame_newObj _) (fun _ _ => ?_)
    | refine Tame.bind' (tame_shape _) (fun _ _ => ?_)
    | refine Tame.bind' (tame_choose _) (fun _ _ => ?_)
    | refine Tame.bind' (tame_askRoom _) (fun _ _ => ?_)
    | refine Tame.bind' (tame_load _ _) (fun _ _ => ?_)
    | refine Tame.bind' (tame_store _ _ _) (fun _ _ => ?_)
    | refine Tame.bind' (tame_loadVar _ _) (fun _ _ => ?_)
    | refine Tame.bind' (tame_storeVar _ _ _) (fun _ _ => ?_)
    | refine Tame.bind' (tame_loadCells _ _) (fun _ _ => ?_)
    | refine Tame.bind' (tame_storeCells _ _ _) (fun _ _ => ?_)
    | refine Tame.bind' (tame_part _ _ _) (fun _ _ => ?_)
    | refine Tame.bind' (tame_behind _) (fun _ _ => ?_)
    | refine Tame.bind' (tame_numberAt _) (fun _ _ => ?_)
    | refine Tame.bind' (tame_byteOf _) (fun _ _ => ?_)
    | refine Tame.bind' (tame_fieldPlace _ _) (fun _ _ => ?_)
    | refine Tame.bind' (tame_program) (fun _ _ => ?_)
    | refine Tame.bind' (tame_lenOf _) (fun _ _ => ?_)
    | refine Tame.bind' (tame_firstCells _ _ _) (fun _ _ => ?_)
    | refine Tame.bind' (tame_sliceBound _ _ _) (fun _ _ => ?_)
    | refine Tame.bind' (tame_sliceBounds _ _ _ _ _ _) (fun _ _ => ?_)
    | refine Tame.bind' (tame_intArith _ _ _ _) (fun _ _ => ?_)
    | refine Tame.bind' (tame_intDiv _ _ _ _) (fun _ _ => ?_)
    | refine Tame.bind' (tame_intBits _ _ _ _) (fun _ _ => ?_)
    | refine Tame.bind' (tame_intCmp _ _ _) (fun _ _ => ?_)
    | refine Tame.bind' (tame_cArith _ _ _ _) (fun _ _ => ?_)
    | refine tame_getObj' _ (fun _ _ => rfl) (fun _ => ?_)
    | (refine Tame.bind' (ok := fun _ => True) (tame_pure _ trivial) (fun _ _ => ?_))
    | (refine Tame.bind' (ok := fun _ => True) (tame_stuck _) (fun _ _ => ?_))
    | (refine Tame.bind' (ok := fun _ => True) (tame_unsup _) (fun _ _ => ?_))
    | (refine Tame.bind' (ok := fun _ => True) (tame_rtPanic _) (fun _ _ => ?_))
    | split
    | dsimp only)
theorem tame_cCorrected (s a b c d : Nat) : Tame P (fun _ => True) (Op.Complex.corrected s a b c d) := by
  unfold Op.Complex.corrected Op.Complex.sub Op.Complex.mul Op.Complex.add
  repeat' (with_reducible first
    | exact tame_stuck _
    | exact tame_unsup _
    | exact tame_rtPanic _
    | exact tame_bounds _ _ _ _
    | exact tame_goPanic _
    | exact tame_pure _ trivial
    | exact tame_under _
    | exact tame_typeInfo _
    | exact tame_zero _
    | exact tame_sizeOf _
    | exact tame_isAgg _
    | exact tame_sureAddr _
    | exact tame_asIntOf _
    | exact tame_asInt _
    | exact tame_asBool _
    | exact tame_asAgg _
    | exact tame_asAddr _
    | exact tame_newRow _ _
    | exact tame_newVar _ _
    | exact tame_newObj _
    | exact tame_shape _
    | exact tame_choose _
    | exact tame_askRoom _
    | exact tame_load _ _
    | exact tame_store _ _ _
    | exact tame_loadVar _ _
    | exact tame_storeVar _ _ _
    | exact tame_loadCells _ _
    | exact tame_storeCells _ _ _
    | exact tame_part _ _ _
    | exact tame_behind _
    | exact tame_numberAt _
    | exact tame_byteOf _
    | exact tame_fieldPlace _ _
    | exact tame_program
    | exact tame_lenOf _
    | exact tame_firstCells _ _ _
    | exact tame_sliceBound _ _ _
    | exact tame_sliceBounds _ _ _ _ _ _
    | exact tame_intArith _ _ _ _
    | exact tame_intDiv _ _ _ _
    | exact tame_intBits _ _ _ _
    | exact tame_intCmp _ _ _
    | exact tame_cArith _ _ _ _
    | refine Tame.bind' (tame_under _) (fun _ _ => ?_)
    | refine Tame.bind' (tame_typeInfo _) (fun _ _ => ?_)
    | refine Tame.bind' (tame_zero _) (fun _ _ => ?_)
    | refine Tame.bind' (tame_sizeOf _) (fun _ _ => ?_)
    | refine Tame.bind' (tame_isAgg _) (fun _ _ => ?_)
    | refine Tame.bind' (tame_sureAddr _) (fun _ _ => ?_)
    | refine Tame.bind' (tame_asIntOf _) (fun _ _ => ?_)
    | refine Tame.bind' (tame_asInt _) (fun _ _ => ?_)
    | refine Tame.bind' (tame_asBool _) (fun _ _ => ?_)
    | refine Tame.bind' (tame_asAgg _) (fun _ _ => ?_)
    | refine Tame.bind' (tame_asAddr _) (fun _ _ => ?_)
    | refine Tame.bind' (tame_newRow _ _) (fun _ _ => ?_)
    | refine Tame.bind' (tame_newVar _ _) (fun _ _ => ?_)
    | refine Tame.bind' (tame_newObj _) (fun _ _ => ?_)
    | refine Tame.bind' (tame_shape _) (fun _ _ => ?_)
    | refine Tame.bind' (tame_choose _) (fun _ _ => ?_)
    | refine Tame.bind' (tame_askRoom _) (fun _ _ => ?_)
    | refine Tame.bind' (tame_load _ _) (fun _ _ => ?_)
    | refine Tame.bind' (tame_store _ _ _) (fun _ _ => ?_)
    | refine Tame.bind' (tame_loadVar _ _) (fun _ _ => ?_)
    | refine Tame.bind' (tame_storeVar _ _ _) (fun _ _ => ?_)
    | refine Tame.bind' (tame_loadCells _ _) (fun _ _ => ?_)
    | refine Tame.bind' (tame_storeCells _ _ _) (fun _ _ => ?_)
    | refine Tame.bind' (tame_part _ _ _) (fun _ _ => ?_)
    | refine Tame.bind' (tame_behind _) (fun _ _ => ?_)
    | refine Tame.bind' (tame_numberAt _) (fun _ _ => ?_)
    | refine Tame.bind' (tame_byteOf _) (fun _ _ => ?_)
    | refine Tame.bind' (tame_fieldPlace _ _) (fun _ _ => ?_)
    | refine Tame.bind' (tame_program) (fun _ _ => ?_)
    | refine Tame.bind' (tame_lenOf _) (fun _ _ => ?_)
    | refine Tame.bind' (tame_firstCells _ _ _) (fun _ _ => ?_)
    | refine Tame.bind' (tame_sliceBound _ _ _) (fun _ _ => ?_)
    | refine Tame.bind' (tame_sliceBounds _ _ _ _ _ _) (fun _ _ => ?_)
    | refine Tame.bind' (tame_intArith _ _ _ _) (fun _ _ => ?_)
    | refine Tame.bind' (tame_intDiv _ _ _ _) (fun _ _ => ?_)
    | refine Tame.bind' (tame_intBits _ _ _ _) (fun _ _ => ?_)
    | refine Tame.bind' (tame_intCmp _ _ _) (fun _ _ => ?_)
    | refine Tame.bind' (tame_cArith _ _ _ _) (fun _ _ => ?_)
    | refine tame_getObj' _ (fun _ _ => rfl) (fun _ => ?_)
    | (refine Tame.bind' (ok := fun _ => True) (tame_pure _ trivial) (fun _ _ => ?_))
    | (refine Tame.bind' (ok := fun _ => True) (tame_stuck _) (fun _ _ => ?_))
    | (refine Tame.bind' (ok := fun _ => True) (tame_unsup _) (fun _ _ => ?_))
    | (refine Tame.bind' (ok := fun _ => True) (tame_rtPanic _) (fun _ _ => ?_))
    | split
    | dsimp only)
theorem tame_cQuotient (a b c d : Nat) : Tame P (fun _ => True) (Op.Complex.quotient a b c d) := by
  unfold Op.Complex.quotient Op.Complex.sub Op.Complex.mul Op.Complex.add Op.Complex.quo
  repeat' (with_reducible first
    | exact tame_stuck _
    | exact tame_unsup _
    | exact tame_rtPanic _
    | exact tame_bounds _ _ _ _
    | exact tame_goPanic _
    | exact tame_pure _ trivial
    | exact tame_under _
    | exact tame_typeInfo _
    | exact tame_zero _
    | exact tame_sizeOf _
    | exact tame_isAgg _
    | exact tame_sureAddr _
    | exact tame_asIntOf _
    | exact tame_asInt _
    | exact tame_asBool _
    | exact tame_asAgg _
    | exact tame_asAddr _
    | exact tame_newRow _ _
    | exact tame_newVar _ _
    | exact tame_newObj _
    | exact tame_shape _
    | exact tame_choose _
    | exact tame_askRoom _
    | exact tame_load _ _
    | exact tame_store _ _ _
    | exact tame_loadVar _ _
    | exact tame_storeVar _ _ _
    | exact tame_loadCells _ _
    | exact tame_storeCells _ _ _
    | exact tame_part _ _ _
    | exact tame_behind _
    | exact tame_numberAt _
    | exact tame_byteOf _
    | exact tame_fieldPlace _ _
    | exact tame_program
    | exact tame_lenOf _
    | exact tame_firstCells _ _ _
    | exact tame_sliceBound _ _ _
    | exact tame_sliceBounds _ _ _ _ _ _
    | exact tame_intArith _ _ _ _
    | exact tame_intDiv _ _ _ _
    | exact tame_intBits _ _ _ _
    | exact tame_intCmp _ _ _
    | exact tame_cArith _ _ _ _
    | exact tame_cCmp _ _ _ _
    | exact tame_cCorrected _ _ _ _ _
    | refine Tame.bind' (tame_under _) (fun _ _ => ?_)
    | refine Tame.bind' (tame_typeInfo _) (fun _ _ => ?_)
    | refine Tame.bind' (tame_zero _) (fun _ _ => ?_)
    | refine Tame.bind' (tame_sizeOf _) (fun _ _ => ?_)
    | refine Tame.bind' (tame_isAgg _) (fun _ _ => ?_)
    | refine Tame.bind' (tame_sureAddr _) (fun _ _ => ?_)
    | refine Tame.bind' (tame_asIntOf _) (fun _ _ => ?_)
    | refine Tame.bind' (tame_asInt _) (fun _ _ => ?_)
    | refine Tame.bind' (tame_asBool _) (fun _ _ => ?_)
    | refine Tame.bind' (tame_asAgg _) (fun _ _ => ?_)
    | refine Tame.bind' (tame_asAddr _) (fun _ _ => ?_)
    | refine Tame.bind' (tame_newRow _ _) (fun _ _ => ?_)
    | refine Tame.bind' (tame_newVar _ _) (fun _ _ => ?_)
    | refine Tame.bind' (tame_newObj _) (fun _ _ => ?_)
    | refine Tame.bind' (tame_shape _) (fun _ _ => ?_)
    | refine Tame.bind' (tame_choose _) (fun _ _ => ?_)
    | refine Tame.bind' (tame_askRoom _) (fun _ _ => ?_)
    | refine Tame.bind' (tame_load _ _) (fun _ _ => ?_)
    | refine Tame.bind' (tame_store _ _ _) (fun _ _ => ?_)
    | refine Tame.bind' (tame_loadVar _ _) (fun _ _ => ?_)
    | refine Tame.bind' (tame_storeVar _ _ _) (fun _ _ => ?_)
    | refine Tame.bind' (tame_loadCells _ _) (fun _ _ => ?_)
    | refine Tame.bind' (tame_storeCells _ _ _) (fun _ _ => ?_)
    | refine Tame.bind' (tame_part _ _ _) (fun _ _ => ?_)
    | refine Tame.bind' (tame_behind _) (fun _ _ => ?_)
    | refine Tame.bind' (tame_numberAt _) (fun _ _ => ?_)
    | refine Tame.bind' (tame_byteOf _) (fun _ _ => ?_)
    | refine Tame.bind' (tame_fieldPlace _ _) (fun _ _ => ?_)
    | refine Tame.bind' (tame_program) (fun _ _ => ?_)
    | refine Tame.bind' (tame_lenOf _) (fun _ _ => ?_)
    | refine Tame.bind' (tame_firstCells _ _ _) (fun _ _ => ?_)
    | refine Tame.bind' (tame_sliceBound _ _ _) (fun _ _ => ?_)
    | refine Tame.bind' (tame_sliceBounds _ _ _ _ _ _) (fun _ _ => ?_)
    | refine Tame.bind' (tame_intArith _ _ _ _) (fun _ _ => ?_)
    | refine Tame.bind' (tame_intDiv _ _ _ _) (fun _ _ => ?_)
    | refine Tame.bind' (tame_intBits _ _ _ _) (fun _ _ => ?_)
    | refine Tame.bind' (tame_intCmp _ _ _) (fun _ _ => ?_)
    | refine Tame.bind' (tame_cArith _ _ _ _) (fun _ _ => ?_)
    | refine Tame.bind' (tame_cCmp _ _ _ _) (fun _ _ => ?_)
    | refine Tame.bind' (tame_cCorrected _ _ _ _ _) (fun _ _ => ?_)
    | refine tame_getObj' _ (fun _ _ => rfl) (fun _ => ?_)
    | (refine Tame.bind' (ok := fun _ => True) (tame_pure _ trivial) (fun _ _ => ?_))
    | (refine Tame.bind' (ok := fun _ => True) (tame_stuck _) (fun _ _ => ?_))
    | (refine Tame.bind' (ok := fun _ => True) (tame_unsup _) (fun _ _ => ?_))
    | (refine Tame.bind' (ok := fun _ => True) (tame_rtPanic _) (fun _ _ => ?_))
    | split
    | dsimp only)
theorem tame_complexOp (op : BinOp) (k : FloatKind) (a b c d : Nat) : Tame P (fun _ => True) (Op.complexOp op k a b c d) := by
  unfold Op.complexOp
  repeat' (with_reducible first
    | exact tame_stuck _
    | exact tame_unsup _
    | exact tame_rtPanic _
    | exact tame_bounds _ _ _ _
    | exact tame_goPanic _
    | exact tame_pure _ trivial
    | exact tame_under _
    | exact tame_typeInfo _
    | exact tame_zero _
    | exact tame_sizeOf _
    | exact tame_isAgg _
    | exact tame_sureAddr _
    | exact tame_asIntOf _
    | exact tame_asInt _
    | exact tame_asBool _
    | exact tame_asAgg _
    | exact tame_asAddr _
    | exact tame_newRow _ _
    | exact tame_newVar _ _
    | exact tame_newObj _
    | exact tame_shape _
    | exact tame_choose _
    | exact tame_askRoom _
    | exact tame_load _ _
    | exact tame_store _ _ _
    | exact tame_loadVar _ _
    | exact tame_storeVar _ _ _
    | exact tame_loadCells _ _
    | exact tame_storeCells _ _ _
    | exact tame_part _ _ _
    | exact tame_behind _
    | exact tame_numberAt _
    | exact tame_byteOf _
    | exact tame_fieldPlace _ _
    | exact tame_program
    | exact tame_lenOf _
    | exact tame_firstCells _ _ _
    | exact tame_sliceBound _ _ _
    | exact tame_sliceBounds _ _ _ _ _ _
    | exact tame_intArith _ _ _ _
    | exact tame_intDiv _ _ _ _
    | exact tame_intBits _ _ _ _
    | exact tame_intCmp _ _ _
    | exact tame_cArith _ _ _ _
    | exact tame_cCmp _ _ _ _
    | exact tame_cConv _ _ _
    | exact tame_cProduct _ _ _ _
    | exact tame_cQuotient _ _ _ _
    | refine Tame.bind' (tame_under _) (fun _ _ => ?_)
    | refine Tame.bind' (tame_typeInfo _) (fun _ _ => ?_)
    | refine Tame.bind' (tame_zero _) (fun _ _ => ?_)
    | refine Tame.bind' (tame_sizeOf _) (fun _ _ => ?_)
    | refine Tame.bind' (tame_isAgg _) (fun _ _ => ?_)
    | refine Tame.bind' (tame_sureAddr _) (fun _ _ => ?_)
    | refine Tame.bind' (tame_asIntOf _) (fun _ _ => ?_)
    | refine Tame.bind' (tame_asInt _) (fun _ _ => ?_)
    | refine Tame.bind' (tame_asBool _) (fun _ _ => ?_)
    | refine Tame.bind' (tame_asAgg _) (fun _ _ => ?_)
    | refine Tame.bind' (tame_asAddr _) (fun _ _ => ?_)
    | refine Tame.bind' (tame_newRow _ _) (fun _ _ => ?_)
    | refine Tame.bind' (tame_newVar _ _) (fun _ _ => ?_)
    | refine Tame.bind' (tame_newObj _) (fun _ _ => ?_)
    | refine Tame.bind' (tame_shape _) (fun _ _ => ?_)
    | refine Tame.bind' (tame_choose _) (fun _ _ => ?_)
    | refine Tame.bind' (tame_askRoom _) (fun _ _ => ?_)
    | refine Tame.bind' (tame_load _ _) (fun _ _ => ?_)
    | refine Tame.bind' (tame_store _ _ _) (fun _ _ => ?_)
    | refine Tame.bind' (tame_loadVar _ _) (fun _ _ => ?_)
    | refine Tame.bind' (tame_storeVar _ _ _) (fun _ _ => ?_)
    | refine Tame.bind' (tame_loadCells _ _) (fun _ _ => ?_)
    | refine Tame.bind' (tame_storeCells _ _ _) (fun _ _ => ?_)
    | refine Tame.bind' (tame_part _ _ _) (fun _ _ => ?_)
    | refine Tame.bind' (tame_behind _) (fun _ _ => ?_)
    | refine Tame.bind' (tame_numberAt _) (fun _ _ => ?_)
    | refine Tame.bind' (tame_byteOf _) (fun _ _ => ?_)
    | refine Tame.bind' (tame_fieldPlace _ _) (fun _ _ => ?_)
    | refine Tame.bind' (tame_program) (fun _ _ => ?_)
    | refine Tame.bind' (tame_lenOf _) (fun _ _ => ?_)
    | refine Tame.bind' (tame_firstCells _ _ _) (fun _ _ => ?_)
    | refine Tame.bind' (tame_sliceBound _ _ _) (fun _ _ => ?_)
    | refine Tame.bind' (tame_sliceBounds _ _ _ _ _ _) (fun _ _ => ?_)
    | refine Tame.bind' (tame_intArith _ _ _ _) (fun _ _ => ?_)
    | refine Tame.bind' (tame_intDiv _ _ _ _) (fun _ _ => ?_)
    | refine Tame.bind' (tame_intBits _ _ _ _) (fun _ _ => ?_)
    | refine Tame.bind' (tame_intCmp _ _ _) (fun _ _ => ?_)
    | refine Tame.bind' (tame_cArith _ _ _ _) (fun _ _ => ?_)
    | refine Tame.bind' (tame_cCmp _ _ _ _) (fun _ _ => ?_)
    | refine Tame.bind' (tame_cConv _ _ _) (fun _ _ => ?_)
    | refine Tame.bind' (tame_cProduct _ _ _ _) (fun _ _ => ?_)
    | refine Tame.bind' (tame_cQuotient _ _ _ _) (fun _ _ => ?_)
    | refine tame_getObj' _ (fun _ _ => rfl) (fun _ => ?_)
    | (refine Tame.bind' (ok := fun _ => True) (tame_pure _ trivial) (fun _ _ => ?_))
    | (refine Tame.bind' (ok := fun _ => True) (tame_stuck _) (fun _ _ => ?_))
    | (refine Tame.bind' (ok := fun _ => True) (tame_unsup _) (fun _ _ => ?_))
    | (refine Tame.bind' (ok := fun _ => True) (tame_rtPanic _) (fun _ _ => ?_))
    | split
    | dsimp only)
theorem tame_binOp (op : BinOp) (t : TypeId) (x y : Value) (h : (op ≠ .eql ∧ op ≠ .neq) ∨ ∀ d, Tame P (fun _ => True) (Op.equalIn d t x y)) : Tame P (fun _ => True) (binOp op t x y) := by
  unfold binOp
  split
  case h_7 =>
    rcases h with ⟨h, _⟩ | h
    · exact absurd rfl h
    · exact Tame.bind' (h _) fun _ _ => tame_pure _ trivial
  case h_8 =>
    rcases h with ⟨_, h⟩ | h
    · exact absurd rfl h
    · exact Tame.bind' (h _) fun _ _ => tame_pure _ trivial
  all_goals clear h
  repeat' (with_reducible first
    | exact tame_stuck _
    | exact tame_unsup _
    | exact tame_rtPanic _
    | exact tame_bounds _ _ _ _
    | exact tame_goPanic _
    | exact tame_pure _ trivial
    | exact tame_under _
    | exact tame_typeInfo _
    | exact tame_zero _
    | exact tame_sizeOf _
    | exact tame_isAgg _
    | exact tame_sureAddr _
    | exact tame_asIntOf _
    | exact tame_asInt _
    | exact tame_asBool _
    | exact tame_asAgg _
    | exact tame_asAddr _
    | exact tame_newRow _ _
    | exact tame_newVar _ _
    | exact tame_newObj _
    | exact tame_shape _
    | exact tame_choose _
    | exact tame_askRoom _
    | exact tame_load _ _
    | exact tame_store _ _ _
    | exact tame_loadVar _ _
    | exact tame_storeVar _ _ _
    | exact tame_loadCells _ _
    | exact tame_storeCells _ _ _
    | exact tame_part _ _ _
    | exact tame_behind _
    | exact tame_numberAt _
    | exact tame_byteOf _
    | exact tame_fieldPlace _ _
    | exact tame_program
    | exact tame_lenOf _
    | exact tame_firstCells _ _ _
    | exact tame_sliceBound _ _ _
    | exact tame_sliceBounds _ _ _ _ _ _
    | exact tame_intArith _ _ _ _
    | exact tame_intDiv _ _ _ _
    | exact tame_intBits _ _ _ _
    | exact tame_intCmp _ _ _
    | exact tame_shift _ _ _ _ _
    | exact tame_floatArith _ _ _ _
    | exact tame_floatCmp _ _ _ _
    | exact tame_complexOp _ _ _ _ _ _
    | exact tame_stringOp _ _ _
    | exact tame_movedPointer _ _ _
    | exact tame_movedNumber _ _ _
    | exact tame_addrSub _ _ _
    | exact tame_addrCmp _ _ _
    | exact tame_addrMod _ _ _
    | refine Tame.bind' (tame_under _) (fun _ _ => ?_)
    | refine Tame.bind' (tame_typeInfo _) (fun _ _ => ?_)
    | refine Tame.bind' (tame_zero _) (fun _ _ => ?_)
    | refine Tame.bind' (tame_sizeOf _) (fun _ _ => ?_)
    | refine Tame.bind' (tame_isAgg _) (fun _ _ => ?_)
    | refine Tame.bind' (tame_sureAddr _) (fun _ _ => ?_)
    | refine Tame.bind' (tame_asIntOf _) (fun _ _ => ?_)
    | refine Tame.bind' (tame_asInt _) (fun _ _ => ?_)
    | refine Tame.bind' (tame_asBool _) (fun _ _ => ?_)
    | refine Tame.bind' (tame_asAgg _) (fun _ _ => ?_)
    | refine Tame.bind' (tame_asAddr _) (fun _ _ => ?_)
    | refine Tame.bind' (tame_newRow _ _) (fun _ _ => ?_)
    | refine Tame.bind' (tame_newVar _ _) (fun _ _ => ?_)
    | refine Tame.bind' (tame_newObj _) (fun _ _ => ?_)
    | refine Tame.bind' (tame_shape _) (fun _ _ => ?_)
    | refine Tame.bind' (tame_choose _) (fun _ _ => ?_)
    | refine Tame.bind' (tame_askRoom _) (fun _ _ => ?_)
    | refine Tame.bind' (tame_load _ _) (fun _ _ => ?_)
    | refine Tame.bind' (tame_store _ _ _) (fun _ _ => ?_)
    | refine Tame.bind' (tame_loadVar _ _) (fun _ _ => ?_)
    | refine Tame.bind' (tame_storeVar _ _ _) (fun _ _ => ?_)
    | refine Tame.bind' (tame_loadCells _ _) (fun _ _ => ?_)
    | refine Tame.bind' (tame_storeCells _ _ _) (fun _ _ => ?_)
    | refine Tame.bind' (tame_part _ _ _) (fun _ _ => ?_)
    | refine Tame.bind' (tame_behind _) (fun _ _ => ?_)
    | refine Tame.bind' (tame_numberAt _) (fun _ _ => ?_)
    | refine Tame.bind' (tame_byteOf _) (fun _ _ => ?_)
    | refine Tame.bind' (tame_fieldPlace _ _) (fun _ _ => ?_)
    | refine Tame.bind' (tame_program) (fun _ _ => ?_)
    | refine Tame.bind' (tame_lenOf _) (fun _ _ => ?_)
    | refine Tame.bind' (tame_firstCells _ _ _) (fun _ _ => ?_)
    | refine Tame.bind' (tame_sliceBound _ _ _) (fun _ _ => ?_)
    | refine Tame.bind' (tame_sliceBounds _ _ _ _ _ _) (fun _ _ => ?_)
    | refine Tame.bind' (tame_intArith _ _ _ _) (fun _ _ => ?_)
    | refine Tame.bind' (tame_intDiv _ _ _ _) (fun _ _ => ?_)
    | refine Tame.bind' (tame_intBits _ _ _ _) (fun _ _ => ?_)
    | refine Tame.bind' (tame_intCmp _ _ _) (fun _ _ => ?_)
    | refine Tame.bind' (tame_shift _ _ _ _ _) (fun _ _ => ?_)
    | refine Tame.bind' (tame_floatArith _ _ _ _) (fun _ _ => ?_)
    | refine Tame.bind' (tame_floatCmp _ _ _ _) (fun _ _ => ?_)
    | refine Tame.bind' (tame_complexOp _ _ _ _ _ _) (fun _ _ => ?_)
    | refine Tame.bind' (tame_stringOp _ _ _) (fun _ _ => ?_)
    | refine Tame.bind' (tame_movedPointer _ _ _) (fun _ _ => ?_)
    | refine Tame.bind' (tame_movedNumber _ _ _) (fun _ _ => ?_)
    | refine Tame.bind' (tame_addrSub _ _ _) (fun _ _ => ?_)
    | refine Tame.bind' (tame_addrCmp _ _ _) (fun _ _ => ?_)
    | refine Tame.bind' (tame_addrMod _ _ _) (fun _ _ => ?_)
    | refine tame_getObj' _ (fun _ _ => rfl) (fun _ => ?_)
    | (refine Tame.bind' (ok := fun _ => True) (tame_pure _ trivial) (fun _ _ => ?_))
    | (refine Tame.bind' (ok := fun _ => True) (tame_stuck _) (fun _ _ => ?_))
    | (refine Tame.bind' (ok := fun _ => True) (tame_unsup _) (fun _ _ => ?_))
    | (refine Tame.bind' (ok := fun _ => True) (tame_rtPanic _) (fun _ _ => ?_))
    | split
    | dsimp only)
end
end Go.Proofs.Ytecdiejeofclaaa

