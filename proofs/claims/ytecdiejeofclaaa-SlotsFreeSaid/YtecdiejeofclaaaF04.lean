/- Joined texts: InfW InfX InfY TyA SysO SysQ SysR SysS SysT SysU SysV SysW SysX SysY SysZ. -/
import Derived.Test.YtecdiejeofclaaaF03
import Derived.Deep.AppendLies
import Derived.Test.YtecdiejeofclaaaProg
import Derived.KernelRfl
import Derived.Laws.Pointers
import Derived.Conc.DeferLaws
import Derived.Conc.SmallLaws
set_option linter.all false
/- Infrastructure W: a region whose order is drawn: small operations (their values stand, whenever they are done) and great ones (in their order). -/
namespace Go.Proofs.Ytecdiejeofclaaa
open Go Go.Conc
def atL (l : List Nat) (t : Nat) : Nat := l.getD t 0
theorem atL_of {l : List Nat} {t : Nat} (h : t < l.length) : atL l t = l[t] := by simp [atL, List.getD, h]
/-- Is it that bool? -/
def isB : Value → Bool → Bool
  | .bool b, w => b == w
  | _, _ => false
def dstOf (ops : Array Oper) (i : Nat) : Option Nat := (ops[i]?).bind (·.dst)
def extE (d : Option Nat) (y : Value) (e : Env) : Env := match d with
  | some d => (d, y) :: e
  | none => e
/-- Does an operation come behind all that stand ahead of it? -/
def fullB (ops : Array Oper) (ord : List Nat) (i : Nat) : Bool := (ord.takeWhile (· != i)).all fun j => (closure ops ops.size [i]).contains j
def draw3Ok (ops : Array Oper) (ord bigs : List Nat) : Bool :=
  ((List.range ops.size).all fun i => (bdeps ops i).all (· < i)) && (ord.length == ops.size) && (ord.all (· < ops.size)) &&
  ((List.range ops.size).all fun i => ord.contains i) && ((List.range ops.size).all fun t => (List.range t).all fun t' => atL ord t' != atL ord t) &&
  ((List.range ops.size).all fun t => (bdeps ops (atL ord t)).all fun j => (ord.take t).contains j) &&
  ((List.range ops.size).all fun i => match dstOf ops i with
    | none => bigs.contains i
    | some d => (List.range ops.size).all fun j => j == i || dstOf ops j != some d) &&
  ((List.range ops.size).all fun i => match ops[i]? with
    | none => false
    | some o => ((opTmps o.op).all fun t => (List.range ops.size).all fun j => dstOf ops j != some t || (bdeps ops i).contains j || (closure ops ops.size [j]).contains i) &&
      (match o.guard with
        | none => true
        | some (g, _) => (bdeps ops i).contains g)) &&
  ((List.range ops.size).all fun t => (List.range t).all fun t' => !bigs.contains (atL ord t') || (closure ops ops.size [atL ord t]).contains (atL ord t'))
section
variable {P : Program} {main : Bool} {τ : Type} (X : τ → Goroutine → Prop) (R Rs : τ → τ → Prop) (N : Nat) (D : List Deferred) (b : Frame) (k : List Item) (cs : List Frame) (ops : Array Oper)
/-- One operation, in whatever later state: its value. -/
def OpS (i : Nat) (o : Oper) (d : Nat) (e : Env) (y : Value) (s0 : τ) : Prop :=
  ∀ s a rest, R s0 s → AtE N D e a → Region.wanted o (yielded ops a.tmps) = true → (∀ s', Rs s s' → X s' (G (b.at (a.put (some d) y) (.inRegion ops rest :: k)) cs)) → X s (G (b.at a (.inRegion ops (i :: rest) :: k)) cs)
def SmallAt (i : Nat) (e : Env) (y : Value) (s : τ) : Prop :=
  ∃ o d, ops[i]? = some o ∧ o.dst = some d ∧ (o.guard = none → OpS X R Rs N D b k cs ops i o d (restr e o.op) y s) ∧
    ∀ g w, o.guard = some (g, w) → ∃ dg x, dstOf ops g = some dg ∧ look e dg = some x ∧ (isB x w = true → OpS X R Rs N D b k cs ops i o d (restr e o.op) y s) ∧ (isB x w = false → y = undef)
/-- All goes well from here on, in the order 'ord'. -/
def Tx (ord bigs : List Nat) : List Nat → Env → τ → Prop
  | [], e, s => ∀ s' a, Rs s s' → AtE N D e a → X s' (G (b.at a (.inRegion ops [] :: k)) cs)
  | i :: l, e, s => if bigs.contains i = true then
      ∃ o, ops[i]? = some o ∧ o.guard = none ∧ ∀ s1 a rest, Rs s s1 → AtE N D (restr e o.op) a →
        (∀ s2 y, (fullB ops ord i = true ∨ R s1 s2) → Tx ord bigs l (extE o.dst y e) s2 → X s2 (G (b.at (a.put o.dst y) (.inRegion ops rest :: k)) cs)) → X s1 (G (b.at a (.inRegion ops (i :: rest) :: k)) cs)
    else ∃ y, SmallAt X R Rs N D b k cs ops i e y s ∧ Tx ord bigs l (extE (dstOf ops i) y e) s
variable {X R Rs N D b k cs ops}
theorem OpS.mono (htr : ∀ a b c, R a b → R b c → R a c) {i : Nat} {o : Oper} {d : Nat} {e : Env} {y : Value} {s s' : τ} (h : OpS X R Rs N D b k cs ops i o d e y s) (hR : R s s') : OpS X R Rs N D b k cs ops i o d e y s' :=
  fun s1 a rest h1 => h s1 a rest (htr _ _ _ hR h1)
theorem SmallAt.mono (htr : ∀ a b c, R a b → R b c → R a c) {i : Nat} {e : Env} {y : Value} {s s' : τ} (h : SmallAt X R Rs N D b k cs ops i e y s) (hR : R s s') : SmallAt X R Rs N D b k cs ops i e y s' := by
  obtain ⟨o, d, h1, h2, h3, h4⟩ := h
  refine ⟨o, d, h1, h2, fun hg => (h3 hg).mono htr hR, fun g w hg => ?_⟩
  obtain ⟨dg, bv, g1, g2, g3, g4⟩ := h4 g w hg
  exact ⟨dg, bv, g1, g2, fun e => (g3 e).mono htr hR, g4⟩
theorem Tx.mono (htr : ∀ a b c, R a b → R b c → R a c) (htrs : ∀ a b c, Rs a b → Rs b c → Rs a c) (hsub : ∀ a b, Rs a b → R a b) {ord bigs : List Nat} : ∀ {l : List Nat} {e : Env} {s s' : τ}, Tx X R Rs N D b k cs ops ord bigs l e s → Rs s s' → Tx X R Rs N D b k cs ops ord bigs l e s'
  | [], e, s, s', h, hR => fun s1 a h1 => h s1 a (htrs _ _ _ hR h1)
  | i :: l, e, s, s', h, hR => by
    unfold Tx at h ⊢
    split at h
    · obtain ⟨o, h1, h2, h3⟩ := h
      rename_i hb
      rw [if_pos hb]
      exact ⟨o, h1, h2, fun s1 a rest g1 g2 g3 => h3 s1 a rest (htrs _ _ _ hR g1) g2 g3⟩
    · obtain ⟨y, h1, h2⟩ := h
      rename_i hb
      rw [if_neg hb]
      exact ⟨y, h1.mono htr (hsub _ _ hR), Tx.mono htr htrs hsub h2 hR⟩
/-- Up to the next great one. -/
theorem Tx.seg {ord bigs : List Nat} : ∀ (m p : Nat) (e : Env) (s : τ), p + m = ord.length → Tx X R Rs N D b k cs ops ord bigs (ord.drop p) e s →
    ∃ (nb : Nat) (yp : Nat → Value) (ei : Nat → Env), p ≤ nb ∧ nb ≤ ord.length ∧ ei p = e ∧ (∀ t, p ≤ t → t < nb → ei (t + 1) = extE (dstOf ops (atL ord t)) (yp t) (ei t)) ∧ (∀ t, p ≤ t → t < nb → bigs.contains (atL ord t) = false ∧ SmallAt X R Rs N D b k cs ops (atL ord t) (ei t) (yp t) s) ∧
      Tx X R Rs N D b k cs ops ord bigs (ord.drop nb) (ei nb) s ∧ (nb = ord.length ∨ bigs.contains (atL ord nb) = true)
  | 0, p, e, s, hp, h => ⟨p, fun _ => undef, fun _ => e, Nat.le_refl _, by omega, rfl, fun t h1 h2 => by omega, fun t h1 h2 => by omega, h, .inl (by omega)⟩
  | m + 1, p, e, s, hp, h => by
    have hlt : p < ord.length := by omega
    have hd : ord.drop p = atL ord p :: ord.drop (p + 1) := by rw [List.drop_eq_getElem_cons hlt, atL_of hlt]
    by_cases hb : bigs.contains (atL ord p) = true
    · exact ⟨p, fun _ => undef, fun _ => e, Nat.le_refl _, by omega, rfl, fun t h1 h2 => by omega, fun t h1 h2 => by omega, h, .inr hb⟩
    · have h0 := h
      rw [hd] at h
      unfold Tx at h
      rw [if_neg hb] at h
      obtain ⟨y, h1, h2⟩ := h
      obtain ⟨nb, yp, ei, g1, g2, g3, g4, g5, g6, g7⟩ := Tx.seg m (p + 1) _ s (by omega) h2
      refine ⟨nb, fun t => if t = p then y else yp t, fun t => if t = p then e else ei t, by omega, g2, by simp, fun t h3 h4 => ?_, fun t h3 h4 => ?_, ?_, g7⟩
      · by_cases ht : t = p
        · subst ht; simp [g3]
        · simp only []; rw [if_neg (by omega), if_neg ht, if_neg ht]; exact g4 t (by omega) h4
      · by_cases ht : t = p
        · subst ht; simp only [if_true]; exact ⟨by simpa using hb, h1⟩
        · simp only []; rw [if_neg ht, if_neg ht]; exact g5 t (by omega) h4
      · simp only []; rw [if_neg (by omega)]; exact g6
/-- What is found in a slot's list: by whom it was written. -/
theorem look_pos {ops : Array Oper} {ord : List Nat} {ei : Nat → Env} {yp : Nat → Value} {nb : Nat} (hn : ∀ t, t < nb → ei (t + 1) = extE (dstOf ops (atL ord t)) (yp t) (ei t)) : ∀ (t : Nat), t ≤ nb → ∀ u x, look (ei t) u = some x →
    (∃ t', t' < t ∧ dstOf ops (atL ord t') = some u ∧ x = yp t') ∨ (look (ei 0) u = some x ∧ ∀ t', t' < t → dstOf ops (atL ord t') ≠ some u)
  | 0, _, u, x, hx => .inr ⟨hx, fun _ h => by omega⟩
  | t + 1, ht, u, x, hx => by
    rw [hn t (by omega)] at hx
    have ih := look_pos hn t (by omega) u x
    cases hd : dstOf ops (atL ord t) with
    | none =>
      rw [hd] at hx
      rcases ih hx with ⟨t', h1, h2, h3⟩ | ⟨h1, h2⟩
      · exact .inl ⟨t', by omega, h2, h3⟩
      · refine .inr ⟨h1, fun t' h3 => ?_⟩
        rcases Nat.lt_succ_iff_lt_or_eq.1 h3 with h3 | rfl
        · exact h2 t' h3
        · rw [hd]; simp
    | some d =>
      rw [hd] at hx
      simp only [extE] at hx
      unfold look at hx
      cases hb : Nat.beq d u with
      | true =>
        rw [hb] at hx
        obtain rfl := Nat.eq_of_beq_eq_true hb
        cases hx
        exact .inl ⟨t, by omega, hd, rfl⟩
      | false =>
        rw [hb] at hx
        have hne : d ≠ u := fun e => by subst e; simp at hb
        rcases ih hx with ⟨t', h1, h2, h3⟩ | ⟨h1, h2⟩
        · exact .inl ⟨t', by omega, h2, h3⟩
        · refine .inr ⟨h1, fun t' h3 => ?_⟩
          rcases Nat.lt_succ_iff_lt_or_eq.1 h3 with h3 | rfl
          · exact h2 t' h3
          · rw [hd]; intro e; cases e; exact hne rfl
theorem closure_done {ops : Array Oper} {done : Nat → Bool} (hcl : ∀ j, done j = true → ∀ j' ∈ bdeps ops j, done j' = true) : ∀ (n : Nat) (s : List Nat), (∀ x ∈ s, done x = true) → ∀ x ∈ closure ops n s, done x = true
  | 0, s, hs, x, hx => hs x hx
  | n + 1, s, hs, x, hx => by
    unfold closure at hx
    refine closure_done hcl n _ (fun y hy => ?_) x hx
    split at hy
    · rename_i hc
      rcases List.mem_append.1 hy with hy | hy
      · exact hcl n (hs n (by simpa using hc)) y hy
      · exact hs y hy
    · exact hs y hy
/-- All that it leans on is done, if all that it leans on at once is. -/
theorem closure_ready {ops : Array Oper} {done : Nat → Bool} {i : Nat} (hcl : ∀ j, done j = true → ∀ j' ∈ bdeps ops j, done j' = true) (hi : ∀ j ∈ bdeps ops i, done j = true) : ∀ x ∈ closure ops ops.size [i], done x = true ∨ x = i := by
  have : ∀ (n : Nat) (s : List Nat), (∀ x ∈ s, done x = true ∨ x = i) → ∀ x ∈ closure ops n s, done x = true ∨ x = i := by
    intro n
    induction n with
    | zero => exact fun s hs x hx => hs x hx
    | succ n ih =>
      intro s hs x hx
      unfold closure at hx
      refine ih _ (fun y hy => ?_) x hx
      split at hy
      · rename_i hc
        rcases List.mem_append.1 hy with hy | hy
        · rcases hs n (by simpa using hc) with h | rfl
          · exact .inl (hcl n h y hy)
          · exact .inl (hi y hy)
        · exact hs y hy
      · exact hs y hy
  exact this ops.size [i] (by simp)
/-- Under way through the region. -/
structure DInv (X : τ → Goroutine → Prop) (R Rs : τ → τ → Prop) (N : Nat) (D : List Deferred) (b : Frame) (k : List Item) (cs : List Frame) (ops : Array Oper) (ord bigs : List Nat) (e0 : Env) (done : Nat → Bool) (a : Act) (s : τ) (nb : Nat) (yp : Nat → Value) (ei : Nat → Env) : Prop where
  le : nb ≤ ord.length
  start : ei 0 = e0
  next : ∀ t, t < nb → ei (t + 1) = extE (dstOf ops (atL ord t)) (yp t) (ei t)
  small : ∀ t, t < nb → done (atL ord t) = false → bigs.contains (atL ord t) = false ∧ SmallAt X R Rs N D b k cs ops (atL ord t) (ei t) (yp t) s
  val : ∀ t, t < nb → done (atL ord t) = true → ∀ d, dstOf ops (atL ord t) = some d → a.tmps[d]? = some (yp t)
  late : ∀ t, nb ≤ t → t < ord.length → done (atL ord t) = false
  tail : Tx X R Rs N D b k cs ops ord bigs (ord.drop nb) (ei nb) s
  stop : nb = ord.length ∨ bigs.contains (atL ord nb) = true
  closed : ∀ j, done j = true → ∀ j' ∈ bdeps ops j, done j' = true
  inr : ∀ j, done j = true → j < ops.size
  defers : a.defers = D
  size : a.tmps.size = N
  base : ∀ u x, look e0 u = some x → (∀ j, done j = true → dstOf ops j ≠ some u) → a.tmps[u]? = some x
set_option maxHeartbeats 4000000 in
theorem draw3 (hrefl : ∀ s, R s s) (htr : ∀ a b c, R a b → R b c → R a c) (hrefls : ∀ s, Rs s s) (htrs : ∀ a b c, Rs a b → Rs b c → Rs a c) (hsub : ∀ a b, Rs a b → R a b) (hidle : ∀ s g g', g.status = .running → (∀ w, stepG P main g w = .go g' w) → X s g' → X s g) {ord bigs : List Nat} (hok : draw3Ok ops ord bigs = true) {e : Env} {a : Act} (hat : AtE N D e a) {s : τ}
    (hN : ((List.range ops.size).all fun i => (dstOf ops i).all (· < N)) = true) (H : Tx X R Rs N D b k cs ops ord bigs ord e s) (t : Nat) : X s (G (b.at a (.inRegion ops (Region.linearise.go .any ops ops.size t (Array.replicate ops.size false) []) :: k)) cs) := by
  simp only [draw3Ok, Bool.and_eq_true, List.all_eq_true, List.mem_range, decide_eq_true_eq, beq_iff_eq] at hok
  obtain ⟨⟨⟨⟨⟨⟨⟨⟨hdown, hlen⟩, hlt⟩, hall⟩, hnd⟩, htopo⟩, huniq⟩, hops⟩, hC3⟩ := hok
  simp only [List.all_eq_true, List.mem_range] at hN
  have hpos : ∀ i, i < ops.size → ∃ t, t < ord.length ∧ atL ord t = i := fun i hi => by
    have := hall i hi
    simp only [List.contains_eq_mem, decide_eq_true_eq] at this
    obtain ⟨t, ht, e⟩ := List.getElem_of_mem this
    exact ⟨t, ht, by rw [atL_of ht, e]⟩
  have hord : ∀ t, t < ord.length → atL ord t < ops.size := fun t ht => by
    have := hlt (atL ord t) (by rw [atL_of ht]; simp)
    simpa using this
  have hmem : ∀ t' t, t' < t → t < ord.length → atL ord t' ∈ ord.take t := fun t' t h1 h2 => by
    rw [List.mem_take_iff_getElem]
    exact ⟨t', by omega, (atL_of (show t' < ord.length from by omega)).symm⟩
  have hinj : ∀ t t', t < ord.length → t' < ord.length → atL ord t = atL ord t' → t = t' := by
    intro t t' h1 h2 e
    rcases Nat.lt_trichotomy t t' with h | h | h
    · have := hnd t' (by omega) t h; simp only [bne_iff_ne, ne_eq] at this; exact absurd e this
    · exact h
    · have := hnd t (by omega) t' h; simp only [bne_iff_ne, ne_eq] at this; exact absurd e.symm this
  have huq : ∀ i j d, i < ops.size → j < ops.size → dstOf ops i = some d → dstOf ops j = some d → i = j := fun i j d hi hj h1 h2 => by
    have := huniq i hi
    rw [h1] at this
    simp only [List.all_eq_true, List.mem_range, Bool.or_eq_true, beq_iff_eq, bne_iff_ne, ne_eq] at this
    rcases this j hj with h | h
    · exact h.symm
    · exact absurd h2 h
  obtain ⟨nb0, yp0, ei0, q1, q2, q3, q4, q5, q6, q7⟩ := Tx.seg (ord := ord) (bigs := bigs) ord.length 0 e s (Nat.zero_add _) (by simpa using H)
  have h0 : ∀ i, (Array.replicate ops.size false).getD i false = false := fun i => by
    simp only [Array.getD_eq_getD_getElem?]
    by_cases h : i < ops.size <;> simp [h]
  refine draw_inv (σ := τ) (fun s g _ => X s g) (k := k) (cs := cs) (b := b) (by simpa [List.all_eq_true] using hdown) (fun done a s _ => ∃ nb yp ei, DInv X R Rs N D b k cs ops ord bigs e done a s nb yp ei) ?_ ?_ ops.size t (Array.replicate ops.size false) a s default (by simp) (unl_all _)
    ⟨nb0, yp0, ei0, q2, q3, fun t ht => q4 t (by omega) ht, fun t ht _ => q5 t (by omega) ht, fun t _ h => (by rw [h0] at h; cases h), fun t _ _ => h0 _, q6, q7, fun j h => (by rw [h0] at h; cases h), fun j h => (by rw [h0] at h; cases h), hat.defers, hat.size, fun u x hx _ => hat.val u x hx⟩
  · rintro done a s _ i rest ⟨nb, yp, ei, I⟩ hi hnd' hdeps K
    obtain ⟨t, ht, rfl⟩ := hpos i hi
    obtain ⟨o, ho⟩ : ∃ o, ops[atL ord t]? = some o := ⟨ops[atL ord t], by simp [hi]⟩
    have hoi := hops _ hi
    rw [ho] at hoi
    simp only [Bool.and_eq_true, List.all_eq_true, List.mem_range, Bool.or_eq_true, bne_iff_ne, ne_eq] at hoi
    have hread : t ≤ nb → AtE N D (restr (ei t) o.op) a := fun htn => by
      refine ⟨I.defers, I.size, fun u x hx => ?_⟩
      obtain ⟨hx1, hx2⟩ := look_filter (fun p => (opTmps o.op).contains p) _ _ _ hx
      simp only [List.contains_eq_mem, decide_eq_true_eq] at hx1
      rcases look_pos I.next t htn u x hx2 with ⟨t', h1, h2, rfl⟩ | ⟨h1, h2⟩
      · have hj := hoi.1 u hx1 (atL ord t') (hord t' (by omega))
        have hdn : done (atL ord t') = true := by
          rcases hj with (hj | hj) | hj
          · exact absurd h2 hj
          · exact hdeps _ (by simpa using hj)
          · -- the writer would come behind
            exfalso
            have hj' : atL ord t ∈ closure ops ops.size [atL ord t'] := by simpa using hj
            have : ∀ (n : Nat) (s : List Nat), (∀ x ∈ s, ∃ q, q ≤ t' ∧ atL ord q = x) → ∀ x ∈ closure ops n s, ∃ q, q ≤ t' ∧ atL ord q = x := by
              intro n
              induction n with
              | zero => exact fun s hs x hx => hs x hx
              | succ n ih =>
                intro s hs x hx
                unfold closure at hx
                refine ih _ (fun y hy => ?_) x hx
                split at hy
                · rename_i hc
                  rcases List.mem_append.1 hy with hy | hy
                  · obtain ⟨q, hq, e⟩ := hs n (by simpa using hc)
                    have h3 := htopo q (by omega) y (by rw [e]; exact hy)
                    simp only [List.contains_eq_mem, decide_eq_true_eq] at h3
                    obtain ⟨q', hq', e'⟩ := List.mem_take_iff_getElem.1 h3
                    exact ⟨q', by omega, by rw [← e']; exact atL_of (show q' < ord.length from by omega)⟩
                  · exact hs y hy
                · exact hs y hy
            obtain ⟨q, hq, e⟩ := this ops.size [atL ord t'] (fun x hx => ⟨t', Nat.le_refl _, by simp only [List.mem_singleton] at hx; exact hx.symm⟩) _ hj'
            have := hinj q t (by omega) ht e
            omega
        exact I.val t' (by omega) hdn u h2
      · rw [I.start] at h1
        refine I.base u x h1 fun j hj hd => ?_
        have hjs := I.inr j hj
        obtain ⟨t'', ht'', rfl⟩ := hpos j hjs
        rcases hoi.1 u hx1 (atL ord t'') hjs with (h3 | h3) | h3
        · exact h3 hd
        · -- one that it leans on stands ahead
          have h4 := htopo t (by omega) _ (by simpa using h3)
          simp only [List.contains_eq_mem, decide_eq_true_eq] at h4
          obtain ⟨q', hq', e'⟩ := List.mem_take_iff_getElem.1 h4
          have : t'' = q' := hinj t'' q' ht'' (by omega) (by rw [← e']; exact (atL_of (show q' < ord.length from by omega)).symm)
          subst this
          exact h2 t'' (by omega) hd
        · -- one that leans on it is not done
          have := closure_done I.closed ops.size [atL ord t''] (by simpa using hj) _ (by simpa using h3)
          rw [hnd'] at this; cases this
    have hbasic : ∀ (y : Value), (a.put o.dst y).defers = D ∧ (a.put o.dst y).tmps.size = N := fun y => by
      unfold Act.put
      split
      · exact ⟨I.defers, by simp [I.size]⟩
      · exact ⟨I.defers, I.size⟩
    have hput : ∀ (y : Value) (d u : Nat), o.dst = some d → (a.put o.dst y).tmps[u]? = if u = d then some y else a.tmps[u]? := fun y d u hd => by
      have h1 := hN _ hi
      simp only [dstOf, ho, Option.bind_some, hd, Option.all_some, decide_eq_true_eq] at h1
      rw [hd]
      unfold Act.put
      simp only [Array.getElem?_setIfInBounds, I.size]
      by_cases e : d = u
      · subst e; simp [h1]
      · rw [if_neg e, if_neg (fun x => e x.symm)]
    have hdo : dstOf ops (atL ord t) = o.dst := by simp [dstOf, ho]
    have hclosed' : ∀ j, (if j = atL ord t then true else done j) = true → ∀ j' ∈ bdeps ops j, (if j' = atL ord t then true else done j') = true := fun j hj j' hj' => by
      split
      · rfl
      · split at hj
        · rename_i e; subst e; exact hdeps j' hj'
        · exact I.closed j hj j' hj'
    have hinr' : ∀ j, (if j = atL ord t then true else done j) = true → j < ops.size := fun j hj => by
      split at hj
      · rename_i e; rw [e]; exact hi
      · exact I.inr j hj
    have hbase' : ∀ (y : Value) u x, look e u = some x → (∀ j, (if j = atL ord t then true else done j) = true → dstOf ops j ≠ some u) → (a.put o.dst y).tmps[u]? = some x := fun y u x hx hj => by
      have h1 := I.base u x hx fun j hjd => hj j (by split <;> simp_all)
      have h2 := hj (atL ord t) (by simp)
      cases hd : o.dst with
      | none => exact h1
      | some d =>
        rw [← hd, hput y d u hd, if_neg (fun e => h2 (by rw [hdo, hd, e]))]; exact h1
    by_cases htn : t < nb
    · -- a small one
      obtain ⟨hb, o', d, h1, h2, h3, h4⟩ := I.small t htn hnd'
      rw [ho] at h1
      obtain rfl := Option.some.inj h1
      have hnext : ∀ s', Rs s s' → X s' (G (b.at (a.put (some d) (yp t)) (.inRegion ops rest :: k)) cs) := fun s' hR => by
        rw [← h2]
        refine K _ s' default ⟨nb, yp, ei, I.le, I.start, I.next, fun t1 h5 h6 => ?_, fun t1 h5 h6 d1 hd1 => ?_, fun t1 h5 h6 => ?_, Tx.mono htr htrs hsub I.tail hR, I.stop, hclosed', hinr', (hbasic _).1, (hbasic _).2, hbase' _⟩
        · split at h6
          · cases h6
          · exact ⟨(I.small t1 h5 h6).1, (I.small t1 h5 h6).2.mono htr (hsub _ _ hR)⟩
        · rw [hput _ d d1 h2]
          by_cases e : d1 = d
          · subst e
            rw [if_pos rfl]
            have : atL ord t1 = atL ord t := huq _ _ d1 (hord t1 (by have := I.le; omega)) hi hd1 (by rw [hdo, h2])
            rw [hinj t1 t (by have := I.le; omega) ht this]
          · rw [if_neg e]
            split at h6
            · rename_i e2
              rw [e2, hdo, h2] at hd1
              cases hd1; exact absurd rfl e
            · exact I.val t1 h5 h6 d1 hd1
        · rw [if_neg (fun e => by have := hinj t1 t h6 ht e; omega)]
          exact I.late t1 h5 h6
      cases hg : o.guard with
      | none => exact h3 hg s a rest (hrefl s) (hread (by omega)) (by simp [Region.wanted, hg]) hnext
      | some gw =>
        obtain ⟨g, w⟩ := gw
        obtain ⟨dg, bv, g1, g2, g3, g4⟩ := h4 g w hg
        have hgd : g ∈ bdeps ops (atL ord t) := by
          have := hoi.2; rw [hg] at this; simpa using this
        have hgdone := hdeps g hgd
        have hval : a.tmps[dg]? = some bv := by
          rcases look_pos I.next t (by omega) dg _ g2 with ⟨t', h5, h6, h7⟩ | ⟨h5, h6⟩
          · have : atL ord t' = g := huq _ _ dg (hord t' (by omega)) (I.inr g hgdone) h6 g1
            rw [I.val t' (by omega) (by rw [this]; exact hgdone) dg h6, h7]
          · exfalso
            have h7 := htopo t (by omega) g hgd
            simp only [List.contains_eq_mem, decide_eq_true_eq] at h7
            obtain ⟨q', hq', e'⟩ := List.mem_take_iff_getElem.1 h7
            have : atL ord q' = g := by rw [← e']; exact atL_of (show q' < ord.length from by omega)
            exact h6 q' (by omega) (by rw [this]; exact g1)
        have hyl : (yielded ops a.tmps g == some w) = isB bv w := by
          unfold yielded
          have : (ops[g]?).bind (·.dst) = some dg := g1
          rw [this]
          simp only [Option.bind_some, hval]
          cases bv <;> first | rfl | (simp [isB]; done)
        by_cases hbw : isB bv w = true
        · exact g3 hbw s a rest (hrefl s) (hread (by omega)) (by simp [Region.wanted, hg, hyl, hbw]) hnext
        · have hbf : isB bv w = false := by simpa using hbw
          have hy : yp t = undef := g4 hbf
          refine hidle s _ (G (b.at (a.put (some d) undef) (.inRegion ops rest :: k)) cs) rfl (fun w1 => ?_) (by rw [← hy]; exact hnext s (hrefls s))
          have h8 := stepG_idle (P := P) (main := main) (b := b) (a := a) (k := k) (cs := cs) (w := w1) (ops := ops) (i := atL ord t) (rest := rest) (by simp [ho, Region.wanted, hg, hyl, hbf])
          rw [h8, ho]
          simp only [Option.bind_some, h2]
    · -- a great one: it is the next one
      have htb : t = nb := by
        rcases I.stop with h | h
        · omega
        · apply Classical.byContradiction
          intro hne
          have h1 := hC3 t (by omega) nb (by omega)
          simp only [Bool.or_eq_true, Bool.not_eq_true', List.contains_eq_mem, decide_eq_false_iff_not, decide_eq_true_eq] at h1
          rcases h1 with h1 | h1
          · exact h1 (by simpa using h)
          · rcases closure_ready I.closed hdeps _ h1 with h2 | h2
            · rw [I.late nb (Nat.le_refl _) (by omega)] at h2; cases h2
            · exact hne (hinj _ _ (by omega) ht h2).symm
      subst htb
      have hbig : bigs.contains (atL ord t) = true := by
        rcases I.stop with h | h
        · omega
        · exact h
      have hd : ord.drop t = atL ord t :: ord.drop (t + 1) := by rw [List.drop_eq_getElem_cons ht, atL_of ht]
      have hT := I.tail
      rw [hd] at hT
      unfold Tx at hT
      rw [if_pos hbig] at hT
      obtain ⟨o', h1, hg, h3⟩ := hT
      rw [ho] at h1
      obtain rfl := Option.some.inj h1
      refine h3 s a rest (hrefls s) (hread (Nat.le_refl _)) fun s2 y hR hT2 => ?_
      obtain ⟨nb', yp', ei', q1, q2, q3, q4, q5, q6, q7⟩ := Tx.seg (ord.length - (t + 1)) (t + 1) _ s2 (by omega) hT2
      have hpost : ∀ t1, t1 < t → done (atL ord t1) = false → R s s2 := fun t1 h4 h5 => by
        rcases hR with hR | hR
        · exfalso
          simp only [fullB, List.all_eq_true] at hR
          have htw : atL ord t1 ∈ ord.takeWhile (· != atL ord t) := by
            have h6 : ∀ (l : List Nat) (m : Nat) (z : Nat), m < l.length → (∀ q, q ≤ m → l.getD q 0 ≠ z) → l.getD m 0 ∈ l.takeWhile (· != z) := by
              intro l
              induction l with
              | nil => intro m z h; simp at h
              | cons x l ih =>
                intro m z hm hq
                have hx : x ≠ z := hq 0 (by omega)
                rw [List.takeWhile_cons, if_pos (by simpa using hx)]
                cases m with
                | zero => simp
                | succ m =>
                  refine List.mem_cons_of_mem _ ?_
                  simpa using ih m z (by simpa using hm) (fun q h => by simpa using hq (q + 1) (by omega))
            exact h6 ord t1 _ (by omega) fun q hq e => by have := hinj q t (by omega) ht e; omega
          have := hR _ htw
          rcases closure_ready I.closed hdeps _ (by simpa using this) with h7 | h7
          · rw [h5] at h7; cases h7
          · have := hinj t1 t (by omega) ht h7; omega
        · exact hR
      refine K _ s2 default ⟨nb', fun q => if q < t then yp q else if q = t then y else yp' q, fun q => if q ≤ t then ei q else ei' q, q2, by simp [I.start], fun t1 h4 => ?_, fun t1 h4 h5 => ?_, fun t1 h4 h5 d1 hd1 => ?_, fun t1 h4 h5 => ?_, ?_, q7, hclosed', hinr', (hbasic _).1, (hbasic _).2, hbase' _⟩
      · refine id ?_
        rcases Nat.lt_trichotomy t1 t with h5 | h5 | h5
        · rw [if_pos (by omega), if_pos h5, if_pos (by omega)]; exact I.next t1 h5
        · subst h5
          rw [if_neg (by omega), if_neg (by omega), if_pos rfl, if_pos (by omega), q3, hdo]
        · rw [if_neg (by omega), if_neg (by omega), if_neg (by omega), if_neg (by omega)]; exact q4 t1 (by omega) h4
      · refine id ?_
        rcases Nat.lt_trichotomy t1 t with h6 | h6 | h6
        · split at h5
          · cases h5
          · rw [if_pos h6, if_pos (by omega)]
            exact ⟨(I.small t1 h6 h5).1, (I.small t1 h6 h5).2.mono htr (hpost t1 h6 h5)⟩
        · subst h6; simp at h5
        · rw [if_neg (by omega), if_neg (by omega), if_neg (by omega)]; exact q5 t1 (by omega) h4
      · refine id ?_
        cases hod : o.dst with
        | none =>
          split at h5
          · rename_i e2; rw [e2, hdo, hod] at hd1; cases hd1
          · have ht1 : t1 < t := by
              apply Classical.byContradiction
              intro hge
              rw [I.late t1 (by omega) (by omega)] at h5; cases h5
            rw [if_pos ht1]
            exact I.val t1 ht1 h5 d1 hd1
        | some d =>
          rw [← hod, hput y d d1 hod]
          by_cases e2 : d1 = d
          · subst e2
            rw [if_pos rfl]
            have e3 : atL ord t1 = atL ord t := huq _ _ d1 (hord t1 (by omega)) hi hd1 (by rw [hdo, hod])
            rw [hinj t1 t (by omega) ht e3, if_neg (by omega), if_pos rfl]
          · rw [if_neg e2]
            split at h5
            · rename_i e3; rw [e3, hdo, hod] at hd1; cases hd1; exact absurd rfl e2
            · have ht1 : t1 < t := by
                apply Classical.byContradiction
                intro hge
                rw [I.late t1 (by omega) (by omega)] at h5; cases h5
              rw [if_pos ht1]
              exact I.val t1 ht1 h5 d1 hd1
      · rw [if_neg (fun e => by have := hinj t1 t h5 ht e; omega)]
        exact I.late t1 (by omega) h5
      · refine id ?_
        rw [if_neg (by omega)]; exact q6
  · rintro done a s _ hall' ⟨nb, yp, ei, I⟩
    have hnb : nb = ord.length := by
      rcases I.stop with h | h
      · exact h
      · apply Classical.byContradiction
        intro hne
        have h1 := I.late nb (Nat.le_refl _) (by have := I.le; omega)
        rw [hall' _ (hord nb (by have := I.le; omega))] at h1
        cases h1
    have hT := I.tail
    rw [hnb, List.drop_length] at hT
    refine hT s a (hrefls s) ⟨I.defers, I.size, fun u x hx => ?_⟩
    rw [← hnb] at hx
    rcases look_pos I.next nb (Nat.le_refl _) u x hx with ⟨t', h1, h2, rfl⟩ | ⟨h1, h2⟩
    · exact I.val t' h1 (hall' _ (hord t' (by omega))) u h2
    · rw [I.start] at h1
      refine I.base u x h1 fun j hj hd => ?_
      obtain ⟨q, hq, rfl⟩ := hpos j (I.inr j hj)
      exact h2 q (by omega) hd
end
end Go.Proofs.Ytecdiejeofclaaa


/- Infrastructure X: guarded operations; drawn regions in the walk; bits. -/
namespace Go.Proofs.Ytecdiejeofclaaa
open Go Go.Conc
section
variable {P : Program} {S : Addr → Prop} {main : Bool} {Stop : Goroutine → World → Prop} {N : Nat} {D : List Deferred} {e : Env}
variable {b : Frame} {a : Act} {k : List Item} {cs : List Frame} {v : World}
variable {L : Allow} {ops : Array Oper} {Lv : List (Option Nat × Op × Option (Nat × Bool))} {i : Nat} {rest : List Nat} {d : Nat} {op : Op}
theorem at_viewg {ops : Array Oper} {Lv : List (Option Nat × Op × Option (Nat × Bool))} (hl : ops.toList.map view = Lv) {i : Nat} {d : Option Nat} {op : Op} {g : Option (Nat × Bool)} (hi : Lv[i]? = some (d, op, g)) : ∃ o, ops[i]? = some o ∧ o.dst = d ∧ o.op = op ∧ o.guard = g := by
  subst hl
  rw [List.getElem?_map, Array.getElem?_toList] at hi
  cases h : ops[i]? with
  | none => rw [h] at hi; cases hi
  | some o =>
    rw [h] at hi
    simp only [Option.map_some, Option.some.injEq, view, Prod.mk.injEq] at hi
    exact ⟨o, rfl, hi.1, hi.2.1, hi.2.2⟩
theorem dst_view (hl : ops.toList.map view = Lv) (g : Nat) : dstOf ops g = (Lv[g]?).bind (·.1) := by
  subst hl
  rw [List.getElem?_map, Array.getElem?_toList]
  unfold dstOf
  cases ops[g]? <;> rfl
theorem yielded_of (hl : ops.toList.map view = Lv) {g dg : Nat} {w : Bool} (hg : (Lv[g]?).bind (·.1) = some dg) (hat : AtE N D e a) (hlk : look e dg = some (.bool w)) : yielded ops a.tmps g = some w := by
  unfold yielded
  have : (ops[g]?).bind (·.dst) = some dg := (dst_view hl g).trans hg
  rw [this]
  simp only [Option.bind_some, hat.val dg _ hlk]
theorem hold_valW {L : Allow} (hA : ∀ f ∈ L.A, AtomOk P f) {ops : Array Oper} {i : Nat} {rest : List Nat} {o : Oper} (hb : b.kind ≠ .early) (ho : ops[i]? = some o) (hw : Region.wanted o (yielded ops a.tmps) = true) (hok : opOk P L o.op = true)
    (h : ∀ t d, ∃ x v', (execOp a.eval o).run P (v.re t d) = .ok (.value x) v' ∧ Hold P main S Stop (G (b.at (a.put o.dst x) (.inRegion ops rest :: k)) cs) v') : Hold P main S Stop (G (b.at a (.inRegion ops (i :: rest) :: k)) cs) v :=
  .step _ v rfl fun t d => by
    obtain ⟨x, v', hr, H⟩ := h t d
    exact ⟨_, v', op_run hA hb ho hw hok hr fun es w1 => by simp [GStep.after, fin_at ho], H⟩
theorem hold_unitW {L : Allow} (hA : ∀ f ∈ L.A, AtomOk P f) {ops : Array Oper} {i : Nat} {rest : List Nat} {o : Oper} (hb : b.kind ≠ .early) (ho : ops[i]? = some o) (hw : Region.wanted o (yielded ops a.tmps) = true) (hok : opOk P L o.op = true)
    (h : ∀ t d, ∃ v', (execOp a.eval o).run P (v.re t d) = .ok .skip v' ∧ Hold P main S Stop (G (b.at (a.put o.dst undef) (.inRegion ops rest :: k)) cs) v') : Hold P main S Stop (G (b.at a (.inRegion ops (i :: rest) :: k)) cs) v :=
  .step _ v rfl fun t d => by
    obtain ⟨v', hr, H⟩ := h t d
    exact ⟨_, v', op_run hA hb ho hw hok hr fun es w1 => by simp [GStep.after, fin_at ho], H⟩
theorem hg_yes (hA : ∀ f ∈ L.A, AtomOk P f) (hb : b.kind ≠ .early) (hl : ops.toList.map view = Lv) {g dg : Nat} {w : Bool} (hi : Lv[i]? = some (some d, op, some (g, w))) (hg : (Lv[g]?).bind (·.1) = some dg) (hlk : look e dg = some (.bool w)) (hok : opOk P L op = true) (hd : d < N) (hat : AtE N D e a) {y : Value} {v' : World} (hrun : RunsTo P e op v (.value y) v')
    (H : ∀ a', AtE N D ((d, y) :: e) a' → Hold P main S Stop (G (b.at a' (.inRegion ops rest :: k)) cs) v') : Hold P main S Stop (G (b.at a (.inRegion ops (i :: rest) :: k)) cs) v := by
  obtain ⟨o, ho, hdst, hop, hgd⟩ := at_viewg hl hi
  refine hold_valW hA hb ho (by simp [Region.wanted, hgd, yielded_of hl hg hat hlk]) (by rw [hop]; exact hok) fun t dd => ⟨_, _, hrun _ o (fun q z hz => hat.eval hz) hop t dd, ?_⟩
  rw [hdst]
  exact (H _ (hat.put hd y)).re t dd
theorem hg_no (hl : ops.toList.map view = Lv) {g dg : Nat} {w : Bool} (hi : Lv[i]? = some (some d, op, some (g, w))) (hg : (Lv[g]?).bind (·.1) = some dg) {x : Value} (hlk : look e dg = some x) (hx : isB x w = false) (hd : d < N) (hat : AtE N D e a)
    (H : ∀ a', AtE N D ((d, undef) :: e) a' → Hold P main S Stop (G (b.at a' (.inRegion ops rest :: k)) cs) v) : Hold P main S Stop (G (b.at a (.inRegion ops (i :: rest) :: k)) cs) v := by
  obtain ⟨o, ho, hdst, hop, hgd⟩ := at_viewg hl hi
  have hyl : (yielded ops a.tmps g == some w) = false := by
    unfold yielded
    have : (ops[g]?).bind (·.dst) = some dg := (dst_view hl g).trans hg
    rw [this]
    simp only [Option.bind_some, hat.val dg _ hlk]
    cases x <;> first | rfl | exact hx
  refine hold_same rfl (fun w1 => stepG_idle (by simp [ho, Region.wanted, hgd, hyl])) ?_
  rw [ho]
  simp only [Option.bind_some, hdst]
  exact H _ (hat.put hd undef)
theorem r_bool {t t' : Bool} (h : RunsTo P e op v (.value (.bool t)) v) (ht : t = t') : RunsTo P e op v (.value (.bool t')) v := by subst ht; exact h
section bits
variable {q q' : Operand} {x y : Int} {t t' : TypeId} {kd : IntKind}
theorem r_andw (h : opv e q = some (.int kd x)) (h' : opv e q' = some (.int kd y)) : RunsTo P e (.binOp .and t q q' t') v (.value (.int kd (kd.wrap ((BitVec.ofInt kd.bits x &&& BitVec.ofInt kd.bits y).toNat : Int)))) v := fun ρ o hρ ho t d => by
  simp only [execOp, ho, hρ _ _ h, hρ _ _ h']; simp [go_sem, binOp, Op.intBits]
theorem r_orw (h : opv e q = some (.int kd x)) (h' : opv e q' = some (.int kd y)) : RunsTo P e (.binOp .or t q q' t') v (.value (.int kd (kd.wrap ((BitVec.ofInt kd.bits x ||| BitVec.ofInt kd.bits y).toNat : Int)))) v := fun ρ o hρ ho t d => by
  simp only [execOp, ho, hρ _ _ h, hρ _ _ h']; simp [go_sem, binOp, Op.intBits]
theorem r_andNotw (h : opv e q = some (.int kd x)) (h' : opv e q' = some (.int kd y)) : RunsTo P e (.binOp .andNot t q q' t') v (.value (.int kd (kd.wrap ((BitVec.ofInt kd.bits x &&& ~~~ BitVec.ofInt kd.bits y).toNat : Int)))) v := fun ρ o hρ ho t d => by
  simp only [execOp, ho, hρ _ _ h, hρ _ _ h']; simp [go_sem, binOp, Op.intBits]
theorem r_int {z z' : Int} {v' : World} (h : RunsTo P e op v (.value (.int kd z)) v') (e' : z = z') : RunsTo P e op v (.value (.int kd z')) v' := by subst e'; exact h
end bits
/-! ### drawn regions -/
variable {ord bigs l : List Nat}
abbrev TxH (P : Program) (main : Bool) (S : Addr → Prop) (Stop : Goroutine → World → Prop) (N : Nat) (D : List Deferred) (b : Frame) (k : List Item) (cs : List Frame) (ops : Array Oper) (ord bigs l : List Nat) (e : Env) (v : World) : Prop :=
  Tx (fun w g => Hold P main S Stop g w) Grow Grow N D b k cs ops ord bigs l e v
theorem hold_draw3 {id : Nat} (hm : P.follows .mixedOrders = true) (hok : draw3Ok ops ord bigs = true) (hN : ((List.range ops.size).all fun i => (dstOf ops i).all (· < N)) = true) (hat : AtE N D e a) (H : TxH P main S Stop N D b k cs ops ord bigs ord e v) :
    Hold P main S Stop (G (b.at a (.code (.region id ops true) :: k)) cs) v :=
  hold_region_draw hm fun t => draw3 (P := P) (main := main) (X := fun w g => Hold P main S Stop g w) (R := Grow) (Rs := Grow) (s := v) Grow.refl (fun _ _ _ => Grow.trans) Grow.refl (fun _ _ _ => Grow.trans) (fun _ _ h => h) (fun s g g' hr h => hold_same hr h) hok hat hN H t
theorem tx_small (hbig : bigs.contains i = false) {y : Value} (hl : ops.toList.map view = Lv) {g : Option (Nat × Bool)} (hi : Lv[i]? = some (some d, op, g)) (hs : SmallAt (fun w g => Hold P main S Stop g w) Grow Grow N D b k cs ops i e y v) (H : TxH P main S Stop N D b k cs ops ord bigs l ((d, y) :: e) v) : TxH P main S Stop N D b k cs ops ord bigs (i :: l) e v := by
  unfold TxH Tx
  rw [if_neg (by simpa using hbig)]
  refine ⟨y, hs, ?_⟩
  rw [dst_view hl, hi]
  exact H
theorem ops_val (hA : ∀ f ∈ L.A, AtomOk P f) (hb : b.kind ≠ .early) {o : Oper} (ho : ops[i]? = some o) (hdst : o.dst = some d) (hop : o.op = op) (hok : opOk P L op = true) {y : Value} (hrun : ∀ v', Grow v v' → RunsTo P (restr e op) op v' (.value y) v') : OpS (fun w g => Hold P main S Stop g w) Grow Grow N D b k cs ops i o d (restr e o.op) y v := by
  intro s a rest hR hat hw K
  rw [hop] at hat
  refine hold_valW hA hb ho hw (by rw [hop]; exact hok) fun t dd => ⟨_, _, hrun s hR _ o (fun q z hz => hat.eval hz) hop t dd, ?_⟩
  rw [hdst]
  exact K _ ((Grow.refl s).re t dd)
theorem tx_val (hA : ∀ f ∈ L.A, AtomOk P f) (hb : b.kind ≠ .early) (hl : ops.toList.map view = Lv) (hi : Lv[i]? = some (some d, op, none)) (hok : opOk P L op = true) (hd : d < N) (hbig : bigs.contains i = false) {y : Value} (hrun : ∀ v', Grow v v' → RunsTo P (restr e op) op v' (.value y) v')
    (H : TxH P main S Stop N D b k cs ops ord bigs l ((d, y) :: e) v) : TxH P main S Stop N D b k cs ops ord bigs (i :: l) e v := by
  obtain ⟨o, ho, hdst, hop, hgd⟩ := at_viewg hl hi
  refine tx_small hbig hl hi ⟨o, d, ho, hdst, fun _ => ops_val hA hb ho hdst hop hok hrun, fun g w h => ?_⟩ H
  rw [hgd] at h; cases h
theorem tx_yes (hA : ∀ f ∈ L.A, AtomOk P f) (hb : b.kind ≠ .early) (hl : ops.toList.map view = Lv) {g dg : Nat} {w : Bool} (hi : Lv[i]? = some (some d, op, some (g, w))) (hok : opOk P L op = true) (hd : d < N) (hg : (Lv[g]?).bind (·.1) = some dg) (hlk : look e dg = some (.bool w)) (hbig : bigs.contains i = false) {y : Value} (hrun : ∀ v', Grow v v' → RunsTo P (restr e op) op v' (.value y) v')
    (H : TxH P main S Stop N D b k cs ops ord bigs l ((d, y) :: e) v) : TxH P main S Stop N D b k cs ops ord bigs (i :: l) e v := by
  obtain ⟨o, ho, hdst, hop, hgd⟩ := at_viewg hl hi
  refine tx_small hbig hl hi ⟨o, d, ho, hdst, fun h => ?_, fun g' w' h => ?_⟩ H
  · rw [hgd] at h; cases h
  · rw [hgd] at h; cases h
    exact ⟨dg, _, (dst_view hl g).trans hg, hlk, fun _ => ops_val hA hb ho hdst hop hok hrun, fun h => (by cases w <;> cases h)⟩
theorem tx_no (hl : ops.toList.map view = Lv) {g dg : Nat} {w : Bool} (hi : Lv[i]? = some (some d, op, some (g, w))) (hd : d < N) (hg : (Lv[g]?).bind (·.1) = some dg) {x : Value} (hlk : look e dg = some x) (hx : isB x w = false) (hbig : bigs.contains i = false)
    (H : TxH P main S Stop N D b k cs ops ord bigs l ((d, undef) :: e) v) : TxH P main S Stop N D b k cs ops ord bigs (i :: l) e v := by
  obtain ⟨o, ho, hdst, hop, hgd⟩ := at_viewg hl hi
  refine tx_small hbig hl hi ⟨o, d, ho, hdst, fun h => ?_, fun g' w' h => ?_⟩ H
  · rw [hgd] at h; cases h
  · rw [hgd] at h; cases h
    exact ⟨dg, _, (dst_view hl g).trans hg, hlk, fun h => (by rw [hx] at h; cases h), fun _ => rfl⟩
theorem tx_end (H : ∀ v' a, Grow v v' → AtE N D e a → Hold P main S Stop (G (b.at a (.inRegion ops [] :: k)) cs) v') : TxH P main S Stop N D b k cs ops ord bigs [] e v := H
/-- The same, with a guard that is met. -/
theorem tx_yes_call (hb : b.kind ≠ .early) (hl : ops.toList.map view = Lv) {f : FuncId} {qs : Array Operand} {ats : Array TypeId} {g dg : Nat} {gw : Bool} (hi : Lv[i]? = some (some d, .call { callee := .value (.func f), args := qs, argTypes := ats }, some (g, gw))) (hg : (Lv[g]?).bind (·.1) = some dg) (hlk : look e dg = some (.bool gw)) (hbig : bigs.contains i = false) (hd : d < N)
    {fn : Func} (hf : P.funcs[f]? = some fn) (hbd : fn.body.isSome = true) (hn : (fn.name == "runtime.NumGoroutine") = false) {vals : Array Value} (ha : qs.toList.map (opv (restr e (.call { callee := .value (.func f), args := qs, argTypes := ats }))) = vals.toList.map some) {y : Value}
    (hc : ∀ (v' : World) (c : Frame) (cs' : List Frame), Grow v v' → (∀ w, Grow v' w → Hold P main S Stop (G (c.finish y) cs') w) → Hold P main S Stop (G (Frame.enter P f vals .normal) (c :: cs')) v')
    (H : TxH P main S Stop N D b k cs ops ord bigs l ((d, y) :: e) v) : TxH P main S Stop N D b k cs ops ord bigs (i :: l) e v := by
  obtain ⟨o, ho, hdst, hop, hgd⟩ := at_viewg hl hi
  refine tx_small hbig hl hi ⟨o, d, ho, hdst, fun h => (by rw [hgd] at h; cases h), fun g' w' h => ?_⟩ H
  rw [hgd] at h; cases h
  refine ⟨dg, _, (dst_view hl g).trans hg, hlk, fun _ => ?_, fun h => (by cases gw <;> cases h)⟩
  intro s a rest hR hat hw K
  rw [hop] at hat
  have hbk : ∀ td, ((b.at a td).kind == CallKind.early) = false := fun td => by simpa [Frame.at] using hb
  have hargs : qs.map a.eval = vals := by
    apply Array.ext'
    rw [Array.toList_map]
    have : ∀ (l : List Operand) (m : List Value), l.map (opv (restr e (.call { callee := .value (.func f), args := qs, argTypes := ats }))) = m.map some → l.map a.eval = m := by
      intro l
      induction l with
      | nil => intro m h; cases m with
        | nil => rfl
        | cons _ _ => cases h
      | cons x l ih => intro m h; cases m with
        | nil => cases h
        | cons y m =>
          simp only [List.map_cons, List.cons.injEq] at h ⊢
          exact ⟨hat.eval h.1, ih m h.2⟩
    exact this _ _ ha
  refine hold_same (g' := G (Frame.enter P f vals .normal) (b.at a (.inRegion ops (i :: rest) :: k) :: cs)) rfl (fun w => ?_) (hc s _ _ hR fun w hw' => ?_)
  · rw [stepG_oper ho hw]
    unfold stepG.apply
    have hr : (execOp a.eval o).runT P w #[] = (.ok (.enter f vals) w, #[]) := by
      have hn' : ¬ fn.name = "runtime.NumGoroutine" := by simpa using hn
      have hb' : fn.body.isNone = false := by cases h : fn.body <;> simp_all
      simp only [execOp, hop, resolve, act_func, hargs, Deferred.ofValue]
      show (invoke (.fn (.func f) #[]) (#[] ++ vals)).runT P w #[] = _
      simp only [invoke, callFunc]
      refine (Sem.runT_bind' P _ _ w #[]).trans ?_
      simp only [program, Sem.runT, hf, beq_iff_eq, hn', if_false, hb', Bool.false_eq_true]
      simp [pure, Sem.runT]
    simp only [if_true, hr, hbk, Bool.false_eq_true, if_false]
    have hs : seen P b.fn (#[] : Array Event) = #[] := by simp [seen]
    show GStep.after (seen P b.fn #[]) _ = _
    rw [hs]; rfl
  · have := fin_at (b := b) (a := a) (k := k) (rest := rest) ho y
    rw [this, hdst]
    exact K w hw'
end
end Go.Proofs.Ytecdiejeofclaaa


/- Infrastructure Y: slices that are built and appended to. -/
namespace Go.Proofs.Ytecdiejeofclaaa
open Go Go.Conc
/-- What is asked of a slice's type and its elements'. -/
def ElemK (P : Program) (t te : TypeId) (sz bytes : Nat) : Prop := ∃ i z, P.underlying t = some (.slice te) ∧ P.info? te = some i ∧ i.zero = some z ∧ i.size = sz ∧ i.bytes = bytes ∧ z.cells.size = sz ∧ 0 < sz
theorem elemK_of {P : Program} {t te : TypeId} {sz bytes : Nat} {z : Value} (h1 : P.underlying t = some (.slice te)) (h2 : (P.info? te).map (fun i => (i.zero, i.size, i.bytes)) = some (some z, sz, bytes)) (h3 : z.cells.size = sz) (h4 : 0 < sz) : ElemK P t te sz bytes := by
  cases h : P.info? te with
  | none => rw [h] at h2; cases h2
  | some i =>
    rw [h] at h2
    simp only [Option.map_some, Option.some.injEq, Prod.mk.injEq] at h2
    exact ⟨i, z, h1, h, h2.1, h2.2.1, h2.2.2, h3, h4⟩
section
variable {P : Program} {S : Addr → Prop} {main : Bool} {Stop : Goroutine → World → Prop} {N : Nat} {D : List Deferred} {e : Env}
variable {b : Frame} {a : Act} {k : List Item} {cs : List Frame} {v : World}
variable {L : Allow} {ops : Array Oper} {Lv : List (Option Nat × Op × Option (Nat × Bool))} {i : Nat} {rest : List Nat} {d : Nat} {op : Op}
/-- A new row. -/
theorem h_news (hA : ∀ f ∈ L.A, AtomOk P f) (hb : b.kind ≠ .early) (hl : ops.toList.map view = Lv) (hi : Lv[i]? = some (some d, op, none)) (hok : opOk P L op = true) (hd : d < N) (hat : AtE N D e a) {c : Array Value} {t : TypeId} {fr : Nat × Nat} {n m : Nat} (hrun : RunsTo P e op v (.value (.slice (some ⟨v.heap.size, 0, none⟩) n m)) (v.alloc (.cells c t fr)))
    (H : ∀ v' a' B, v.heap.size = B → v'.heap.size = B + 1 → Grow v v' → v'.heap[B]? = some (.cells c t fr) → AtE N D ((d, .slice (some ⟨B, 0, none⟩) n m) :: e) a' → Hold P main S Stop (G (b.at a' (.inRegion ops rest :: k)) cs) v') : Hold P main S Stop (G (b.at a (.inRegion ops (i :: rest) :: k)) cs) v :=
  h_val hA hb hl hi hok hd hat hrun fun a' hat' => H _ a' _ rfl (by show (v.heap.push _).size = _; simp) grow_alloc (by show (v.heap.push _)[_]? = _; simp) hat'
/-- What is known behind an append. -/
structure Apped (v : World) (ov : Value) (te : TypeId) (sz n : Nat) (xs : List Value) (g cap : Nat) (v' : World) : Prop where
  owns : v'.ownsRow 0 te sz (.slice (some ⟨g, 0, none⟩) n cap) n xs
  same : ∀ b, b < v.heap.size → ov.ownBlock ≠ some b → v'.heap[b]? = v.heap[b]?
  size : v.heap.size ≤ v'.heap.size
  where_ : ov.ownBlock = some g ∨ g = v.heap.size
  lt : g < v'.heap.size
  ready : Ready0 v'
theorem Apped.grow {v v' u : World} {ov : Value} {te : TypeId} {sz n g cap : Nat} {xs : List Value} (h : Apped v ov te sz n xs g cap v') (hG : Grow u v) (ho : ∀ b, ov.ownBlock = some b → u.heap.size ≤ b) : Grow u v' ∧ ∀ b, (Value.slice (some ⟨g, 0, none⟩) n cap).ownBlock = some b → u.heap.size ≤ b :=
  ⟨⟨Nat.le_trans hG.size h.size, fun b hb => (h.same b (Nat.lt_of_lt_of_le hb hG.size) (fun e => by have := ho b e; omega)).trans (hG.same b hb), fun _ => h.ready⟩, fun b hb => by
    cases hb
    rcases h.where_ with e | e
    · exact ho g e
    · rw [e]; exact hG.size⟩
theorem h_app (hA : ∀ f ∈ L.A, AtomOk P f) (hb : b.kind ≠ .early) (hl : ops.toList.map view = Lv) {q0 q1 : Operand} {t te : TypeId} (hi : Lv[i]? = some (some d, .call { callee := .builtin .append, args := #[q0, q1], argTypes := #[t, t] }, none)) (hd : d < N) (hat : AtE N D e a) {sz bytes : Nat} (hE : ElemK P t te sz bytes) (hr : Ready0 v)
    {ov : Value} {n : Nat} {xs : List Value} (hown : v.ownsRow 0 te sz ov n xs) (hq0 : opv e q0 = some ov) {B m c : Nat} {news : List Value} {fr : Nat × Nat} (hq1 : opv e q1 = some (.slice (some ⟨B, 0, none⟩) m c)) (hB : v.heap[B]? = some (.cells news.toArray te fr)) (hlen : news.length = m * sz) (hone : ∀ u ∈ news, u.oneCell' = true)
    (hm : 0 < m) (h63 : n + m ≤ maxLen) (hbytes : (n + m) * bytes ≤ 140737488355328)
    (H : ∀ g cap v' a', Apped v ov te sz (n + m) (xs ++ news) g cap v' → AtE N D ((d, .slice (some ⟨g, 0, none⟩) (n + m) cap) :: e) a' → Hold P main S Stop (G (b.at a' (.inRegion ops rest :: k)) cs) v') :
    Hold P main S Stop (G (b.at a (.inRegion ops (i :: rest) :: k)) cs) v := by
  obtain ⟨i0, z, h1, h2, h3, h4, h5, h6, h7⟩ := hE
  refine h_any (L := L) hA hb hl hi (by rfl) hd hat hr (Q := fun y v' => ∃ g cap, y = .slice (some ⟨g, 0, none⟩) (n + m) cap ∧ v'.ownsRow 0 te sz y (n + m) (xs ++ news) ∧ (∀ k, k < v.heap.size → some k ≠ ov.ownBlock → v'.heap[k]? = v.heap[k]?) ∧ v.heap.size ≤ v'.heap.size ∧ (ov.ownBlock = some g ∨ g = v.heap.size) ∧ g < v'.heap.size) (fun ρ o hρ ho tt dd => ?_) ?_
  · have g1 := hρ q0 _ hq0
    have g2 := hρ q1 _ hq1
    obtain ⟨g, cap, w', hr', k3, k4, k5, k6⟩ := run_append_lies (P := P) (v.re tt dd) t o.type 0 te i0 z sz bytes h1 h2 h3 h4 h5 h6 h7 ov n xs hown ⟨B, 0, none⟩ m c news hlen (fun j u hj => (World.news_of_block (w := v.re tt dd) hB) j u (by simpa using hj)) hone hm h63 hbytes (Nat.zero_le _) v.heap.size rfl
    refine ⟨_, w', ?_, g, cap, rfl, k3, k4.block, k4.size, k5, k6⟩
    simp only [execOp, ho, resolve, invoke, builtin, Sem.run_bind, Sem.run_pure, Result.andThen_ok, List.map_toArray, List.map_cons, List.map_nil, g1, g2, hr']
  · rintro y v2 ⟨g, cap, rfl, k1, k2, k3, k4, k5⟩ hrd2 a2 hat2
    exact H g cap v2 a2 ⟨k1, fun b hb hne => k2 b hb (fun e => hne e.symm), k3, k4, k5, hrd2⟩ hat2
end
end Go.Proofs.Ytecdiejeofclaaa


/- The facts of the types in use, printed by gen.py. -/
namespace Go.Proofs.Ytecdiejeofclaaa
open Go Go.Conc
theorem al_3 {v : World} {e : Env} : RunsTo Try.prog e (.alloc 3) v (.value (.pointer (some ⟨v.heap.size, 0, none⟩))) (v.alloc (.cells #[.int .i64 0] 3 (0, 0))) := fun ρ o hρ ho t d => by
  simp only [execOp, ho]; simp [go_sem]; exact ⟨rfl, rfl⟩
theorem al_25 {v : World} {e : Env} : RunsTo Try.prog e (.alloc 25) v (.value (.pointer (some ⟨v.heap.size, 0, none⟩))) (v.alloc (.cells #[.slice none 0 0] 25 (0, 0))) := fun ρ o hρ ho t d => by
  simp only [execOp, ho]; simp [go_sem]; exact ⟨rfl, rfl⟩
theorem al_29 {v : World} {e : Env} : RunsTo Try.prog e (.alloc 29) v (.value (.pointer (some ⟨v.heap.size, 0, none⟩))) (v.alloc (.cells #[.slice none 0 0] 29 (0, 0))) := fun ρ o hρ ho t d => by
  simp only [execOp, ho]; simp [go_sem]; exact ⟨rfl, rfl⟩
theorem al_37 {v : World} {e : Env} : RunsTo Try.prog e (.alloc 37) v (.value (.pointer (some ⟨v.heap.size, 0, none⟩))) (v.alloc (.cells #[.int .i64 0, .int .i64 0] 37 (0, 0))) := fun ρ o hρ ho t d => by
  simp only [execOp, ho]; simp [go_sem]; exact ⟨rfl, rfl⟩
theorem al_43 {v : World} {e : Env} : RunsTo Try.prog e (.alloc 43) v (.value (.pointer (some ⟨v.heap.size, 0, none⟩))) (v.alloc (.cells #[.pointer none] 43 (0, 0))) := fun ρ o hρ ho t d => by
  simp only [execOp, ho]; simp [go_sem]; exact ⟨rfl, rfl⟩
theorem al_47 {v : World} {e : Env} : RunsTo Try.prog e (.alloc 47) v (.value (.pointer (some ⟨v.heap.size, 0, none⟩))) (v.alloc (.cells #[.slice none 0 0, .slice none 0 0] 47 (0, 0))) := fun ρ o hρ ho t d => by
  simp only [execOp, ho]; simp [go_sem]; exact ⟨rfl, rfl⟩
theorem al_63 {v : World} {e : Env} : RunsTo Try.prog e (.alloc 63) v (.value (.pointer (some ⟨v.heap.size, 0, none⟩))) (v.alloc (.cells #[.slice none 0 0] 63 (0, 0))) := fun ρ o hρ ho t d => by
  simp only [execOp, ho]; simp [go_sem]; exact ⟨rfl, rfl⟩
theorem al_85 {v : World} {e : Env} : RunsTo Try.prog e (.alloc 85) v (.value (.pointer (some ⟨v.heap.size, 0, none⟩))) (v.alloc (.cells #[.int .i64 0, .int .i64 0] 85 (0, 0))) := fun ρ o hρ ho t d => by
  simp only [execOp, ho]; simp [go_sem]; exact ⟨rfl, rfl⟩
theorem bs_25_5_0_1_2_3_4 {v : World} {e : Env} {q0 q1 q2 q3 q4 : Operand} {y0_0 y0_1 y0_2 y0_3 y1_0 y1_1 y1_2 y1_3 y2_0 y2_1 y2_2 y2_3 y3_0 y3_1 y3_2 y3_3 y4_0 y4_1 y4_2 y4_3 : Value} (h0 : opv e q0 = some (.agg #[y0_0, y0_1, y0_2, y0_3])) (h1 : opv e q1 = some (.agg #[y1_0, y1_1, y1_2, y1_3])) (h2 : opv e q2 = some (.agg #[y2_0, y2_1, y2_2, y2_3])) (h3 : opv e q3 = some (.agg #[y3_0, y3_1, y3_2, y3_3])) (h4 : opv e q4 = some (.agg #[y4_0, y4_1, y4_2, y4_3])) : RunsTo Try.prog e (.buildSlice 25 5 #[(0, q0), (1, q1), (2, q2), (3, q3), (4, q4)]) v (.value (.slice (some ⟨v.heap.size, 0, none⟩) 5 5)) (v.alloc (.cells #[y0_0, y0_1, y0_2, y0_3, y1_0, y1_1, y1_2, y1_3, y2_0, y2_1, y2_2, y2_3, y3_0, y3_1, y3_2, y3_3, y4_0, y4_1, y4_2, y4_3] 39 (0, 0))) := fun ρ o hρ ho t d => by
  simp only [execOp, ho, List.map_toArray, List.map_cons, List.map_nil, hρ _ _ h0, hρ _ _ h1, hρ _ _ h2, hρ _ _ h3, hρ _ _ h4, Instr.buildSlice, Instr.fill]
  simp [go_sem]
  exact ⟨rfl, rfl⟩
theorem bs_26_1_0 {v : World} {e : Env} {q0 : Operand} {y0 : Value} (h0 : opv e q0 = some y0) (k0 : flatK y0 = true) : RunsTo Try.prog e (.buildSlice 26 1 #[(0, q0)]) v (.value (.slice (some ⟨v.heap.size, 0, none⟩) 1 1)) (v.alloc (.cells #[y0] 25 (0, 0))) := fun ρ o hρ ho t d => by
  simp only [execOp, ho, List.map_toArray, List.map_cons, List.map_nil, hρ _ _ h0, Instr.buildSlice, Instr.fill, flat_cells k0]
  simp [go_sem]
  exact ⟨rfl, rfl⟩
theorem bs_35_1_0 {v : World} {e : Env} {q0 : Operand} {y0 : Value} (h0 : opv e q0 = some y0) (k0 : flatK y0 = true) : RunsTo Try.prog e (.buildSlice 35 1 #[(0, q0)]) v (.value (.slice (some ⟨v.heap.size, 0, none⟩) 1 1)) (v.alloc (.cells #[y0] 3 (0, 0))) := fun ρ o hρ ho t d => by
  simp only [execOp, ho, List.map_toArray, List.map_cons, List.map_nil, hρ _ _ h0, Instr.buildSlice, Instr.fill, flat_cells k0]
  simp [go_sem]
  exact ⟨rfl, rfl⟩
theorem bs_51_1_0 {v : World} {e : Env} {q0 : Operand} {y0_0 y0_1 y0_2 y0_3 y0_4 : Value} (h0 : opv e q0 = some (.agg #[y0_0, y0_1, y0_2, y0_3, y0_4])) : RunsTo Try.prog e (.buildSlice 51 1 #[(0, q0)]) v (.value (.slice (some ⟨v.heap.size, 0, none⟩) 1 1)) (v.alloc (.cells #[y0_0, y0_1, y0_2, y0_3, y0_4] 55 (0, 0))) := fun ρ o hρ ho t d => by
  simp only [execOp, ho, List.map_toArray, List.map_cons, List.map_nil, hρ _ _ h0, Instr.buildSlice, Instr.fill]
  simp [go_sem]
  exact ⟨rfl, rfl⟩
theorem bs_72_1_0 {v : World} {e : Env} {q0 : Operand} {y0 : Value} (h0 : opv e q0 = some y0) (k0 : flatK y0 = true) : RunsTo Try.prog e (.buildSlice 72 1 #[(0, q0)]) v (.value (.slice (some ⟨v.heap.size, 0, none⟩) 1 1)) (v.alloc (.cells #[y0] 41 (0, 0))) := fun ρ o hρ ho t d => by
  simp only [execOp, ho, List.map_toArray, List.map_cons, List.map_nil, hρ _ _ h0, Instr.buildSlice, Instr.fill, flat_cells k0]
  simp [go_sem]
  exact ⟨rfl, rfl⟩
theorem bs_79_1_0 {v : World} {e : Env} {q0 : Operand} {y0 : Value} (h0 : opv e q0 = some y0) (k0 : flatK y0 = true) : RunsTo Try.prog e (.buildSlice 79 1 #[(0, q0)]) v (.value (.slice (some ⟨v.heap.size, 0, none⟩) 1 1)) (v.alloc (.cells #[y0] 77 (0, 0))) := fun ρ o hρ ho t d => by
  simp only [execOp, ho, List.map_toArray, List.map_cons, List.map_nil, hρ _ _ h0, Instr.buildSlice, Instr.fill, flat_cells k0]
  simp [go_sem]
  exact ⟨rfl, rfl⟩
theorem bs_90_1_0 {v : World} {e : Env} {q0 : Operand} {y0 : Value} (h0 : opv e q0 = some y0) (k0 : flatK y0 = true) : RunsTo Try.prog e (.buildSlice 90 1 #[(0, q0)]) v (.value (.slice (some ⟨v.heap.size, 0, none⟩) 1 1)) (v.alloc (.cells #[y0] 92 (0, 0))) := fun ρ o hρ ho t d => by
  simp only [execOp, ho, List.map_toArray, List.map_cons, List.map_nil, hρ _ _ h0, Instr.buildSlice, Instr.fill, flat_cells k0]
  simp [go_sem]
  exact ⟨rfl, rfl⟩
theorem bu_37 {v : World} {e : Env}  : RunsTo Try.prog e (.build 37 #[]) v (.value (.agg #[.int .i64 0, .int .i64 0])) v := fun ρ o hρ ho t d => by
  simp only [execOp, ho, List.map_toArray, List.map_cons, List.map_nil, Instr.build]
  simp [go_sem]
theorem bu_37_0 {v : World} {e : Env} {q0 : Operand} {y0 : Value} (h0 : opv e q0 = some y0) (k0 : flatK y0 = true) : RunsTo Try.prog e (.build 37 #[(0, q0)]) v (.value (.agg #[y0, .int .i64 0])) v := fun ρ o hρ ho t d => by
  simp only [execOp, ho, List.map_toArray, List.map_cons, List.map_nil, hρ _ _ h0, Instr.build, Instr.fill, flat_cells k0]
  simp [go_sem]
theorem bu_37_0_1 {v : World} {e : Env} {q0 q1 : Operand} {y0 y1 : Value} (h0 : opv e q0 = some y0) (k0 : flatK y0 = true) (h1 : opv e q1 = some y1) (k1 : flatK y1 = true) : RunsTo Try.prog e (.build 37 #[(0, q0), (1, q1)]) v (.value (.agg #[y0, y1])) v := fun ρ o hρ ho t d => by
  simp only [execOp, ho, List.map_toArray, List.map_cons, List.map_nil, hρ _ _ h0, hρ _ _ h1, Instr.build, Instr.fill, flat_cells k0, flat_cells k1]
  simp [go_sem]
theorem bu_37_1 {v : World} {e : Env} {q1 : Operand} {y1 : Value} (h1 : opv e q1 = some y1) (k1 : flatK y1 = true) : RunsTo Try.prog e (.build 37 #[(1, q1)]) v (.value (.agg #[.int .i64 0, y1])) v := fun ρ o hρ ho t d => by
  simp only [execOp, ho, List.map_toArray, List.map_cons, List.map_nil, hρ _ _ h1, Instr.build, Instr.fill, flat_cells k1]
  simp [go_sem]
theorem bu_39_0 {v : World} {e : Env} {q0 : Operand} {y0 : Value} (h0 : opv e q0 = some y0) (k0 : flatK y0 = true) : RunsTo Try.prog e (.build 39 #[(0, q0)]) v (.value (.agg #[y0, .int .i64 0, .int .i64 0, .int .i64 0])) v := fun ρ o hρ ho t d => by
  simp only [execOp, ho, List.map_toArray, List.map_cons, List.map_nil, hρ _ _ h0, Instr.build, Instr.fill, flat_cells k0]
  simp [go_sem]
theorem bu_47_1 {v : World} {e : Env} {q1 : Operand} {y1 : Value} (h1 : opv e q1 = some y1) (k1 : flatK y1 = true) : RunsTo Try.prog e (.build 47 #[(1, q1)]) v (.value (.agg #[.slice none 0 0, y1])) v := fun ρ o hρ ho t d => by
  simp only [execOp, ho, List.map_toArray, List.map_cons, List.map_nil, hρ _ _ h1, Instr.build, Instr.fill, flat_cells k1]
  simp [go_sem]
theorem bu_55_0_1_2 {v : World} {e : Env} {q0 q1 q2 : Operand} {y0 y1 y2 : Value} (h0 : opv e q0 = some y0) (k0 : flatK y0 = true) (h1 : opv e q1 = some y1) (k1 : flatK y1 = true) (h2 : opv e q2 = some y2) (k2 : flatK y2 = true) : RunsTo Try.prog e (.build 55 #[(0, q0), (1, q1), (2, q2)]) v (.value (.agg #[y0, y1, y2, .int .i64 0, .int .i64 0])) v := fun ρ o hρ ho t d => by
  simp only [execOp, ho, List.map_toArray, List.map_cons, List.map_nil, hρ _ _ h0, hρ _ _ h1, hρ _ _ h2, Instr.build, Instr.fill, flat_cells k0, flat_cells k1, flat_cells k2]
  simp [go_sem]
theorem bu_74_0_2_8 {v : World} {e : Env} {q0 q2 q8 : Operand} {y0 y2 y8 : Value} (h0 : opv e q0 = some y0) (k0 : flatK y0 = true) (h2 : opv e q2 = some y2) (k2 : flatK y2 = true) (h8 : opv e q8 = some y8) (k8 : flatK y8 = true) : RunsTo Try.prog e (.build 74 #[(0, q0), (2, q2), (8, q8)]) v (.value (.agg #[y0, .int .i64 0, y2, .slice none 0 0, .slice none 0 0, .slice none 0 0, .bool false, .bool false, y8])) v := fun ρ o hρ ho t d => by
  simp only [execOp, ho, List.map_toArray, List.map_cons, List.map_nil, hρ _ _ h0, hρ _ _ h2, hρ _ _ h8, Instr.build, Instr.fill, flat_cells k0, flat_cells k2, flat_cells k8]
  simp [go_sem]
theorem bu_76_0_1_2 {v : World} {e : Env} {q0 q1 q2 : Operand} {y0 y1 y2 : Value} (h0 : opv e q0 = some y0) (k0 : flatK y0 = true) (h1 : opv e q1 = some y1) (k1 : flatK y1 = true) (h2 : opv e q2 = some y2) (k2 : flatK y2 = true) : RunsTo Try.prog e (.build 76 #[(0, q0), (1, q1), (2, q2)]) v (.value (.agg #[y0, y1, y2, .int .i64 0, .int .i64 0, .int .i64 0, .int .i64 0])) v := fun ρ o hρ ho t d => by
  simp only [execOp, ho, List.map_toArray, List.map_cons, List.map_nil, hρ _ _ h0, hρ _ _ h1, hρ _ _ h2, Instr.build, Instr.fill, flat_cells k0, flat_cells k1, flat_cells k2]
  simp [go_sem]
theorem bu_76_1 {v : World} {e : Env} {q1 : Operand} {y1 : Value} (h1 : opv e q1 = some y1) (k1 : flatK y1 = true) : RunsTo Try.prog e (.build 76 #[(1, q1)]) v (.value (.agg #[.pointer none, y1, .chan none, .int .i64 0, .int .i64 0, .int .i64 0, .int .i64 0])) v := fun ρ o hρ ho t d => by
  simp only [execOp, ho, List.map_toArray, List.map_cons, List.map_nil, hρ _ _ h1, Instr.build, Instr.fill, flat_cells k1]
  simp [go_sem]
theorem bu_81_0 {v : World} {e : Env} {q0 : Operand} {y0 : Value} (h0 : opv e q0 = some y0) (k0 : flatK y0 = true) : RunsTo Try.prog e (.build 81 #[(0, q0)]) v (.value (.agg #[y0, .slice none 0 0, .slice none 0 0])) v := fun ρ o hρ ho t d => by
  simp only [execOp, ho, List.map_toArray, List.map_cons, List.map_nil, hρ _ _ h0, Instr.build, Instr.fill, flat_cells k0]
  simp [go_sem]
theorem bu_85_0_1 {v : World} {e : Env} {q0 q1 : Operand} {y0 y1 : Value} (h0 : opv e q0 = some y0) (k0 : flatK y0 = true) (h1 : opv e q1 = some y1) (k1 : flatK y1 = true) : RunsTo Try.prog e (.build 85 #[(0, q0), (1, q1)]) v (.value (.agg #[y0, y1])) v := fun ρ o hρ ho t d => by
  simp only [execOp, ho, List.map_toArray, List.map_cons, List.map_nil, hρ _ _ h0, hρ _ _ h1, Instr.build, Instr.fill, flat_cells k0, flat_cells k1]
  simp [go_sem]
theorem bu_94 {v : World} {e : Env}  : RunsTo Try.prog e (.build 94 #[]) v (.value (.agg #[])) v := fun ρ o hρ ho t d => by
  simp only [execOp, ho, List.map_toArray, List.map_cons, List.map_nil, Instr.build]
  simp [go_sem]
theorem bu_100_0 {v : World} {e : Env} {q0 : Operand} {y0 : Value} (h0 : opv e q0 = some y0) (k0 : flatK y0 = true) : RunsTo Try.prog e (.build 100 #[(0, q0)]) v (.value (.agg #[y0, .int .i64 0])) v := fun ρ o hρ ho t d => by
  simp only [execOp, ho, List.map_toArray, List.map_cons, List.map_nil, hρ _ _ h0, Instr.build, Instr.fill, flat_cells k0]
  simp [go_sem]
theorem bx_39 {v : World} {e : Env} {q : Operand} {x0 x1 x2 x3 : Value} (h : opv e q = some (.agg #[x0, x1, x2, x3])) : RunsTo Try.prog e (.box 39 q) v (.value (.pointer (some ⟨v.heap.size, 0, none⟩))) (v.alloc (.cells #[x0, x1, x2, x3] 39 (0, 0))) := fun ρ o hρ ho t d => by
  simp only [execOp, ho, hρ _ _ h]; simp [go_sem]; exact ⟨rfl, rfl⟩
theorem bx_41 {v : World} {e : Env} {q : Operand} {x0 : Value} (h : opv e q = some x0) (hx : flatK x0 = true) : RunsTo Try.prog e (.box 41 q) v (.value (.pointer (some ⟨v.heap.size, 0, none⟩))) (v.alloc (.cells #[x0] 41 (0, 0))) := fun ρ o hρ ho t d => by
  simp only [execOp, ho, hρ _ _ h]; cases x0 <;> first | (cases hx; done) | (simp [go_sem]; exact ⟨rfl, rfl⟩)
theorem bx_70 {v : World} {e : Env} {q : Operand} {x0 : Value} (h : opv e q = some x0) (hx : flatK x0 = true) : RunsTo Try.prog e (.box 70 q) v (.value (.pointer (some ⟨v.heap.size, 0, none⟩))) (v.alloc (.cells #[x0] 70 (0, 0))) := fun ρ o hρ ho t d => by
  simp only [execOp, ho, hρ _ _ h]; cases x0 <;> first | (cases hx; done) | (simp [go_sem]; exact ⟨rfl, rfl⟩)
theorem bx_74 {v : World} {e : Env} {q : Operand} {x0 x1 x2 x3 x4 x5 x6 x7 x8 : Value} (h : opv e q = some (.agg #[x0, x1, x2, x3, x4, x5, x6, x7, x8])) : RunsTo Try.prog e (.box 74 q) v (.value (.pointer (some ⟨v.heap.size, 0, none⟩))) (v.alloc (.cells #[x0, x1, x2, x3, x4, x5, x6, x7, x8] 74 (0, 0))) := fun ρ o hρ ho t d => by
  simp only [execOp, ho, hρ _ _ h]; simp [go_sem]; exact ⟨rfl, rfl⟩
theorem bx_76 {v : World} {e : Env} {q : Operand} {x0 x1 x2 x3 x4 x5 x6 : Value} (h : opv e q = some (.agg #[x0, x1, x2, x3, x4, x5, x6])) : RunsTo Try.prog e (.box 76 q) v (.value (.pointer (some ⟨v.heap.size, 0, none⟩))) (v.alloc (.cells #[x0, x1, x2, x3, x4, x5, x6] 76 (0, 0))) := fun ρ o hρ ho t d => by
  simp only [execOp, ho, hρ _ _ h]; simp [go_sem]; exact ⟨rfl, rfl⟩
theorem bx_81 {v : World} {e : Env} {q : Operand} {x0 x1 x2 : Value} (h : opv e q = some (.agg #[x0, x1, x2])) : RunsTo Try.prog e (.box 81 q) v (.value (.pointer (some ⟨v.heap.size, 0, none⟩))) (v.alloc (.cells #[x0, x1, x2] 81 (0, 0))) := fun ρ o hρ ho t d => by
  simp only [execOp, ho, hρ _ _ h]; simp [go_sem]; exact ⟨rfl, rfl⟩
theorem bx_85 {v : World} {e : Env} {q : Operand} {x0 x1 : Value} (h : opv e q = some (.agg #[x0, x1])) : RunsTo Try.prog e (.box 85 q) v (.value (.pointer (some ⟨v.heap.size, 0, none⟩))) (v.alloc (.cells #[x0, x1] 85 (0, 0))) := fun ρ o hρ ho t d => by
  simp only [execOp, ho, hρ _ _ h]; simp [go_sem]; exact ⟨rfl, rfl⟩
theorem bx_100 {v : World} {e : Env} {q : Operand} {x0 x1 : Value} (h : opv e q = some (.agg #[x0, x1])) : RunsTo Try.prog e (.box 100 q) v (.value (.pointer (some ⟨v.heap.size, 0, none⟩))) (v.alloc (.cells #[x0, x1] 100 (0, 0))) := fun ρ o hρ ho t d => by
  simp only [execOp, ho, hρ _ _ h]; simp [go_sem]; exact ⟨rfl, rfl⟩
theorem cv_3_105 {v : World} {e : Env} {q : Operand} {kd : IntKind} {x : Int} (h : opv e q = some (.int kd x)) : RunsTo Try.prog e (.convert 3 105 q) v (.value (.int .u64 (IntKind.u64.wrap x))) v := fun ρ o hρ ho t d => by
  simp only [execOp, ho, hρ _ _ h]; simp [go_sem]
theorem cv_105_3 {v : World} {e : Env} {q : Operand} {kd : IntKind} {x : Int} (h : opv e q = some (.int kd x)) : RunsTo Try.prog e (.convert 105 3 q) v (.value (.int .i64 (IntKind.i64.wrap x))) v := fun ρ o hρ ho t d => by
  simp only [execOp, ho, hρ _ _ h]; simp [go_sem]
theorem ek_35 : ElemK Try.prog 35 3 1 8 := elemK_of (z := .int .i64 0) Try.underlying35 (by kernel_rfl) rfl (by decide)
theorem ek_51 : ElemK Try.prog 51 55 5 40 := elemK_of (z := .agg #[.int .i64 0, .int .i64 0, .int .i64 0, .int .i64 0, .int .i64 0]) Try.underlying51 (by kernel_rfl) rfl (by decide)
theorem ek_72 : ElemK Try.prog 72 41 1 8 := elemK_of (z := .pointer none) Try.underlying72 (by kernel_rfl) rfl (by decide)
theorem ek_79 : ElemK Try.prog 79 77 1 8 := elemK_of (z := .pointer none) Try.underlying79 (by kernel_rfl) rfl (by decide)
theorem ek_90 : ElemK Try.prog 90 92 1 8 := elemK_of (z := .nilFunc) Try.underlying90 (by kernel_rfl) rfl (by decide)
theorem nk_32 : NilK Try.prog 32 := fun w p => run_equal_pointer_nil w 32 p (by kernel_rfl)
theorem nk_43 : NilK Try.prog 43 := fun w p => run_equal_pointer_nil w 43 p (by kernel_rfl)
theorem fk_37_0 : FieldK Try.prog 37 0 0 := fun w b o => by simp [go_sem]
theorem fk_39_0 : FieldK Try.prog 39 0 0 := fun w b o => by simp [go_sem]
theorem fk_39_1 : FieldK Try.prog 39 1 1 := fun w b o => by simp [go_sem]
theorem fk_47_0 : FieldK Try.prog 47 0 0 := fun w b o => by simp [go_sem]
theorem fk_47_1 : FieldK Try.prog 47 1 1 := fun w b o => by simp [go_sem]
theorem fk_68_0 : FieldK Try.prog 68 0 0 := fun w b o => by simp [go_sem]
theorem fk_74_0 : FieldK Try.prog 74 0 0 := fun w b o => by simp [go_sem]
theorem fk_74_1 : FieldK Try.prog 74 1 1 := fun w b o => by simp [go_sem]
theorem fk_74_2 : FieldK Try.prog 74 2 2 := fun w b o => by simp [go_sem]
theorem fk_74_3 : FieldK Try.prog 74 3 3 := fun w b o => by simp [go_sem]
theorem fk_74_4 : FieldK Try.prog 74 4 4 := fun w b o => by simp [go_sem]
theorem fk_74_5 : FieldK Try.prog 74 5 5 := fun w b o => by simp [go_sem]
theorem fk_74_6 : FieldK Try.prog 74 6 6 := fun w b o => by simp [go_sem]
theorem fk_74_7 : FieldK Try.prog 74 7 7 := fun w b o => by simp [go_sem]
theorem fk_74_8 : FieldK Try.prog 74 8 8 := fun w b o => by simp [go_sem]
theorem fk_76_0 : FieldK Try.prog 76 0 0 := fun w b o => by simp [go_sem]
theorem fk_76_1 : FieldK Try.prog 76 1 1 := fun w b o => by simp [go_sem]
theorem fk_76_2 : FieldK Try.prog 76 2 2 := fun w b o => by simp [go_sem]
theorem fk_76_3 : FieldK Try.prog 76 3 3 := fun w b o => by simp [go_sem]
theorem fk_76_4 : FieldK Try.prog 76 4 4 := fun w b o => by simp [go_sem]
theorem fk_76_6 : FieldK Try.prog 76 6 6 := fun w b o => by simp [go_sem]
theorem fk_81_0 : FieldK Try.prog 81 0 0 := fun w b o => by simp [go_sem]
theorem fk_81_1 : FieldK Try.prog 81 1 1 := fun w b o => by simp [go_sem]
theorem fk_81_2 : FieldK Try.prog 81 2 2 := fun w b o => by simp [go_sem]
theorem fk_85_0 : FieldK Try.prog 85 0 0 := fun w b o => by simp [go_sem]
theorem fk_85_1 : FieldK Try.prog 85 1 1 := fun w b o => by simp [go_sem]
theorem fk_98_2 : FieldK Try.prog 98 2 0 := fun w b o => by simp [go_sem]
theorem fk_100_0 : FieldK Try.prog 100 0 0 := fun w b o => by simp [go_sem]
theorem fk_100_1 : FieldK Try.prog 100 1 1 := fun w b o => by simp [go_sem]
theorem ix_25 : IndexK Try.prog 25 4 := fun w b o n c i kd h0 h1 => by
  have : i.toNat < n := by omega
  simp [go_sem, h0, h1]
theorem ix_26 : IndexK Try.prog 26 1 := fun w b o n c i kd h0 h1 => by
  have : i.toNat < n := by omega
  simp [go_sem, h0, h1]
theorem ix_29 : IndexK Try.prog 29 1 := fun w b o n c i kd h0 h1 => by
  have : i.toNat < n := by omega
  simp [go_sem, h0, h1]
theorem ix_34 : IndexK Try.prog 34 2 := fun w b o n c i kd h0 h1 => by
  have : i.toNat < n := by omega
  simp [go_sem, h0, h1]
theorem ix_35 : IndexK Try.prog 35 1 := fun w b o n c i kd h0 h1 => by
  have : i.toNat < n := by omega
  simp [go_sem, h0, h1]
theorem ix_45 : IndexK Try.prog 45 1 := fun w b o n c i kd h0 h1 => by
  have : i.toNat < n := by omega
  simp [go_sem, h0, h1]
theorem ix_63 : IndexK Try.prog 63 1 := fun w b o n c i kd h0 h1 => by
  have : i.toNat < n := by omega
  simp [go_sem, h0, h1]
theorem ix_72 : IndexK Try.prog 72 1 := fun w b o n c i kd h0 h1 => by
  have : i.toNat < n := by omega
  simp [go_sem, h0, h1]
theorem ix_79 : IndexK Try.prog 79 1 := fun w b o n c i kd h0 h1 => by
  have : i.toNat < n := by omega
  simp [go_sem, h0, h1]
theorem ix_90 : IndexK Try.prog 90 1 := fun w b o n c i kd h0 h1 => by
  have : i.toNat < n := by omega
  simp [go_sem, h0, h1]
theorem ld_3 : Load1 Try.prog 3 := fun w b o x h => by simp [go_sem, h]
theorem ld_4 : Load1 Try.prog 4 := fun w b o x h => by simp [go_sem, h]
theorem ld_24 : Load1 Try.prog 24 := fun w b o x h => by simp [go_sem, h]
theorem ld_25 : Load1 Try.prog 25 := fun w b o x h => by simp [go_sem, h]
theorem ld_29 : Load1 Try.prog 29 := fun w b o x h => by simp [go_sem, h]
theorem ld_32 : Load1 Try.prog 32 := fun w b o x h => by simp [go_sem, h]
theorem ld_34 : Load1 Try.prog 34 := fun w b o x h => by simp [go_sem, h]
theorem ld_35 : Load1 Try.prog 35 := fun w b o x h => by simp [go_sem, h]
theorem lg_39 {v : World} {e : Env} {q : Operand} {B O : Nat} {x0 x1 x2 x3 : Value} (h : opv e q = some (.pointer (some ⟨B, O, none⟩))) (h0 : v.cell? ⟨B, O, none⟩ = some x0) (h1 : v.cell? ⟨B, O + 1, none⟩ = some x1) (h2 : v.cell? ⟨B, O + 2, none⟩ = some x2) (h3 : v.cell? ⟨B, O + 3, none⟩ = some x3) : RunsTo Try.prog e (.load 39 q) v (.value (.agg #[x0, x1, x2, x3])) v := fun ρ o hρ ho t d => by
  simp only [execOp, ho, hρ _ _ h]; simp [go_sem, cell_re, h0, h1, h2, h3]
theorem ld_41 : Load1 Try.prog 41 := fun w b o x h => by simp [go_sem, h]
theorem ld_43 : Load1 Try.prog 43 := fun w b o x h => by simp [go_sem, h]
theorem ld_45 : Load1 Try.prog 45 := fun w b o x h => by simp [go_sem, h]
theorem ld_51 : Load1 Try.prog 51 := fun w b o x h => by simp [go_sem, h]
theorem ld_63 : Load1 Try.prog 63 := fun w b o x h => by simp [go_sem, h]
theorem ld_71 : Load1 Try.prog 71 := fun w b o x h => by simp [go_sem, h]
theorem ld_72 : Load1 Try.prog 72 := fun w b o x h => by simp [go_sem, h]
theorem ld_77 : Load1 Try.prog 77 := fun w b o x h => by simp [go_sem, h]
theorem ld_79 : Load1 Try.prog 79 := fun w b o x h => by simp [go_sem, h]
theorem lg_85 {v : World} {e : Env} {q : Operand} {B O : Nat} {x0 x1 : Value} (h : opv e q = some (.pointer (some ⟨B, O, none⟩))) (h0 : v.cell? ⟨B, O, none⟩ = some x0) (h1 : v.cell? ⟨B, O + 1, none⟩ = some x1) : RunsTo Try.prog e (.load 85 q) v (.value (.agg #[x0, x1])) v := fun ρ o hρ ho t d => by
  simp only [execOp, ho, hρ _ _ h]; simp [go_sem, cell_re, h0, h1]
theorem ld_92 : Load1 Try.prog 92 := fun w b o x h => by simp [go_sem, h]
theorem lk_25 : LenK Try.prog 25 := fun w ot ad n c => by simp [go_sem]
theorem lk_26 : LenK Try.prog 26 := fun w ot ad n c => by simp [go_sem]
theorem lk_29 : LenK Try.prog 29 := fun w ot ad n c => by simp [go_sem]
theorem lk_34 : LenK Try.prog 34 := fun w ot ad n c => by simp [go_sem]
theorem lk_35 : LenK Try.prog 35 := fun w ot ad n c => by simp [go_sem]
theorem lk_72 : LenK Try.prog 72 := fun w ot ad n c => by simp [go_sem]
theorem lk_79 : LenK Try.prog 79 := fun w ot ad n c => by simp [go_sem]
theorem lk_90 : LenK Try.prog 90 := fun w ot ad n c => by simp [go_sem]
theorem mf_26_2 {v : World} {e : Env} {q0 q1 : Operand} {x0 x1 : Value} (h0 : opv e q0 = some x0) (h1 : opv e q1 = some x1) : RunsTo Try.prog e (.makeFunc (.func 26) #[] #[q0, q1]) v (.value (.func (.func 26) #[] #[x0, x1])) v := fun ρ o hρ ho t d => by
  simp only [execOp, ho]; simp [go_sem, hρ _ _ h0, hρ _ _ h1]
theorem mf_37_4 {v : World} {e : Env} {q0 q1 q2 q3 : Operand} {x0 x1 x2 x3 : Value} (h0 : opv e q0 = some x0) (h1 : opv e q1 = some x1) (h2 : opv e q2 = some x2) (h3 : opv e q3 = some x3) : RunsTo Try.prog e (.makeFunc (.func 37) #[] #[q0, q1, q2, q3]) v (.value (.func (.func 37) #[] #[x0, x1, x2, x3])) v := fun ρ o hρ ho t d => by
  simp only [execOp, ho]; simp [go_sem, hρ _ _ h0, hρ _ _ h1, hρ _ _ h2, hρ _ _ h3]
theorem mf_82_1 {v : World} {e : Env} {q0 : Operand} {x0 : Value} (h0 : opv e q0 = some x0) : RunsTo Try.prog e (.makeFunc (.func 82) #[] #[q0]) v (.value (.func (.func 82) #[] #[x0])) v := fun ρ o hρ ho t d => by
  simp only [execOp, ho]; simp [go_sem, hρ _ _ h0]
theorem st_3 : Store1 Try.prog 3 := fun w b o x y h hf h1 => by cases y <;> first | (simp [go_sem, h, hf]; done) | (cases h1; done)
theorem st_4 : Store1 Try.prog 4 := fun w b o x y h hf h1 => by cases y <;> first | (simp [go_sem, h, hf]; done) | (cases h1; done)
theorem st_25 : Store1 Try.prog 25 := fun w b o x y h hf h1 => by cases y <;> first | (simp [go_sem, h, hf]; done) | (cases h1; done)
theorem st_29 : Store1 Try.prog 29 := fun w b o x y h hf h1 => by cases y <;> first | (simp [go_sem, h, hf]; done) | (cases h1; done)
theorem st_35 : Store1 Try.prog 35 := fun w b o x y h hf h1 => by cases y <;> first | (simp [go_sem, h, hf]; done) | (cases h1; done)
theorem pg_37 {v : World} {e : Env} {q q' : Operand} {B O : Nat} {x0 y0 x1 y1 : Value} {arr : Array Value} {t : TypeId} {fr : Nat × Nat} (h : opv e q = some (.pointer (some ⟨B, O, none⟩))) (hy : opv e q' = some (.agg #[y0, y1])) (hB : v.heap[B]? = some (.cells arr t fr)) (hfr : fr = (0, 0)) (h0 : arr[O]? = some x0) (h1 : arr[O + 1]? = some x1) (k0 : flatK y0 = true) (k1 : flatK y1 = true) :
    ∃ v', RunsTo Try.prog e (.store 37 q q') v .skip v' ∧ Puts v v' B (.cells ((arr.setIfInBounds O y0).setIfInBounds (O + 1) y1) t fr) := by
  subst hfr
  obtain ⟨v1, p1, s1⟩ := store_step (P := Try.prog) (O := O) hB h0 k0
  obtain ⟨v2, p2, s2⟩ := store_step (P := Try.prog) (O := O + 1) p1.at_ (by rw [Array.getElem?_setIfInBounds_ne (by omega)]; exact h1) k1
  refine ⟨v2, fun ρ o hρ ho tt d => ?_, p1.then (p2)⟩
  simp only [execOp, ho, hρ _ _ h, hρ _ _ hy]
  simp [go_sem, s1, s2]
theorem st_43 : Store1 Try.prog 43 := fun w b o x y h hf h1 => by cases y <;> first | (simp [go_sem, h, hf]; done) | (cases h1; done)
theorem pg_47 {v : World} {e : Env} {q q' : Operand} {B O : Nat} {x0 y0 x1 y1 : Value} {arr : Array Value} {t : TypeId} {fr : Nat × Nat} (h : opv e q = some (.pointer (some ⟨B, O, none⟩))) (hy : opv e q' = some (.agg #[y0, y1])) (hB : v.heap[B]? = some (.cells arr t fr)) (hfr : fr = (0, 0)) (h0 : arr[O]? = some x0) (h1 : arr[O + 1]? = some x1) (k0 : flatK y0 = true) (k1 : flatK y1 = true) :
    ∃ v', RunsTo Try.prog e (.store 47 q q') v .skip v' ∧ Puts v v' B (.cells ((arr.setIfInBounds O y0).setIfInBounds (O + 1) y1) t fr) := by
  subst hfr
  obtain ⟨v1, p1, s1⟩ := store_step (P := Try.prog) (O := O) hB h0 k0
  obtain ⟨v2, p2, s2⟩ := store_step (P := Try.prog) (O := O + 1) p1.at_ (by rw [Array.getElem?_setIfInBounds_ne (by omega)]; exact h1) k1
  refine ⟨v2, fun ρ o hρ ho tt d => ?_, p1.then (p2)⟩
  simp only [execOp, ho, hρ _ _ h, hρ _ _ hy]
  simp [go_sem, s1, s2]
theorem st_51 : Store1 Try.prog 51 := fun w b o x y h hf h1 => by cases y <;> first | (simp [go_sem, h, hf]; done) | (cases h1; done)
theorem st_63 : Store1 Try.prog 63 := fun w b o x y h hf h1 => by cases y <;> first | (simp [go_sem, h, hf]; done) | (cases h1; done)
theorem st_72 : Store1 Try.prog 72 := fun w b o x y h hf h1 => by cases y <;> first | (simp [go_sem, h, hf]; done) | (cases h1; done)
theorem st_79 : Store1 Try.prog 79 := fun w b o x y h hf h1 => by cases y <;> first | (simp [go_sem, h, hf]; done) | (cases h1; done)
theorem pg_85 {v : World} {e : Env} {q q' : Operand} {B O : Nat} {x0 y0 x1 y1 : Value} {arr : Array Value} {t : TypeId} {fr : Nat × Nat} (h : opv e q = some (.pointer (some ⟨B, O, none⟩))) (hy : opv e q' = some (.agg #[y0, y1])) (hB : v.heap[B]? = some (.cells arr t fr)) (hfr : fr = (0, 0)) (h0 : arr[O]? = some x0) (h1 : arr[O + 1]? = some x1) (k0 : flatK y0 = true) (k1 : flatK y1 = true) :
    ∃ v', RunsTo Try.prog e (.store 85 q q') v .skip v' ∧ Puts v v' B (.cells ((arr.setIfInBounds O y0).setIfInBounds (O + 1) y1) t fr) := by
  subst hfr
  obtain ⟨v1, p1, s1⟩ := store_step (P := Try.prog) (O := O) hB h0 k0
  obtain ⟨v2, p2, s2⟩ := store_step (P := Try.prog) (O := O + 1) p1.at_ (by rw [Array.getElem?_setIfInBounds_ne (by omega)]; exact h1) k1
  refine ⟨v2, fun ρ o hρ ho tt d => ?_, p1.then (p2)⟩
  simp only [execOp, ho, hρ _ _ h, hρ _ _ hy]
  simp [go_sem, s1, s2]
end Go.Proofs.Ytecdiejeofclaaa


/- Threads as processes: own memory in the printed walks; play.Run$1. -/
namespace Go.Proofs.Ytecdiejeofclaaa
open Go Go.Conc
section
variable {i : Nat} {Γs Γ0 Γ : Gho} {vs v0 v v' : World} {A : Sys} {B : Nat} {o : Obj}
/-- It makes memory. -/
theorem TS.grown (hT : TS i Γs vs Γ0 v0 Γ A v) (hg : Grow v v') : ∃ Γ', TS i Γs vs Γ0 v0 Γ' A v' ∧ Rely i Γ v Γ' v' ∧ (∀ b o, b < v.heap.size → Γ.own b = o → Γ'.own b = o) ∧ ∀ b, v.heap.size ≤ b → Γ'.own b = .thr i := by
  refine ⟨Γ.ext v (.thr i), hT.priv hg.size (fun b hb _ => hg.same b hb) (hg.ready hT.wi.ready), ⟨hg.size, ⟨rfl, rfl, rfl, rfl, rfl⟩, fun _ _ => rfl, fun b hb => by simp [Gho.ext, hb], fun b hb _ => hg.same b hb, fun b hb _ => cell_same (hg.same b hb), Nat.le_refl _, fun b j hb _ => frozen_same (hg.same b hb)⟩, fun b o hb h => by simp [Gho.ext, hb, h], fun b hb => by simp [Gho.ext, show ¬ b < v.heap.size from by omega]⟩
theorem TS.new (hT : TS i Γs vs Γ0 v0 Γ A v) (hB : v.heap.size = B) (hg : Grow v v') : ∃ Γ', TS i Γs vs Γ0 v0 Γ' A v' ∧ Rely i Γ v Γ' v' ∧ Γ'.own B = .thr i ∧ vs.heap.size ≤ B ∧ ∀ b o, b < v.heap.size → Γ.own b = o → Γ'.own b = o := by
  obtain ⟨Γ', h1, h2, h3, h4⟩ := hT.grown hg
  have := hT.rely.size
  exact ⟨Γ', h1, h2, h4 B (by omega), by omega, h3⟩
/-- It changes a block of its own, which is new since vs. -/
theorem TS.put (hT : TS i Γs vs Γ0 v0 Γ A v) (hP : Puts v v' B o) (hB : vs.heap.size ≤ B) (ho : Γ.own B = .thr i) : ∃ Γ', TS i Γs vs Γ0 v0 Γ' A v' ∧ Γ'.tb = Γ.tb ∧ Γ'.cb = Γ.cb ∧ Γ'.nc = Γ.nc ∧ ∀ b, b < v.heap.size → Γ'.own b = Γ.own b := by
  refine ⟨Γ.ext v (.thr i), hT.priv (Nat.le_of_eq hP.size.symm) (fun b hb h => hP.other b fun e => ?_) (hP.ready hT.wi.ready), rfl, rfl, rfl, fun b hb => by simp [Gho.ext, hb]⟩
  subst e
  rcases h with h | h
  · omega
  · exact h ho
end
section
variable {N : Nat} {D : List Deferred} {b : Frame} {cs : List Frame} {i : Nat} {Fin : List (Int × Int) → Gho → World → Prop} {p : Prog} {Γ0 : Gho} {v0 v : World} {A : Sys} {its : List Item}
theorem hp_fin {c : Frame} {x : Value} {e' : Value → Env} (h : ∀ x, ∃ a', AtE N D (e' x) a' ∧ c.finish x = b.at a' its) (H : ∀ a', AtE N D (e' x) a' → Hold Try.prog false (SS Γ0 A.ths.length) (fun g' v' => HP i Fin p Γ0 v0 A g' v') (G (b.at a' its) cs) v) : HP i Fin p Γ0 v0 A (G (c.finish x) cs) v := by
  obtain ⟨a', h1, h2⟩ := h x
  rw [h2]; exact HP.walk (H a' h1)
end
/-- A state of a thread, as far as a region whose order is drawn is told. -/
structure PS where
  Γ0 : Gho
  v0 : World
  Γ : Gho
  A : Sys
  p : Prog
  w : World
abbrev XP (i : Nat) (Fin : List (Int × Int) → Gho → World → Prop) (s : PS) (g : Goroutine) : Prop := HP i Fin s.p s.Γ0 s.v0 s.A g s.w
abbrev RP (H i : Nat) (s s' : PS) : Prop := RelyI H i s.Γ s.w s'.Γ s'.w
theorem RelyI.refl (H i : Nat) (Γ : Gho) (v : World) : RelyI H i Γ v Γ v := (Rely.refl i Γ v).toI H
section
variable {H i : Nat} {Fin : List (Int × Int) → Gho → World → Prop} {N : Nat} {D : List Deferred} {b : Frame} {k : List Item} {cs : List Frame} {ops : Array Oper} {ord bigs l : List Nat} {e : Env} {s : PS} {a : Act}
theorem hp_draw {id : Nat} (hok : draw3Ok ops ord bigs = true) (hN : ((List.range ops.size).all fun i => (dstOf ops i).all (· < N)) = true) (hat : AtE N D e a) (HT : Tx (XP i Fin) (RP H i) Eq N D b k cs ops ord bigs ord e s) :
    HP i Fin s.p s.Γ0 s.v0 s.A (G (b.at a (.code (.region id ops true) :: k)) cs) s.w :=
  HP.walk (hold_region_draw mixed_ok fun t => HP.stop (draw3 (P := Try.prog) (main := false) (X := XP i Fin) (R := RP H i) (Rs := Eq) (s := s) (fun _ => RelyI.refl _ _ _ _) (fun _ _ _ => RelyI.trans) (fun _ => rfl) (fun _ _ _ => Eq.trans) (fun _ _ h => by subst h; exact RelyI.refl _ _ _ _) (fun s g g' hr h x => HP.walk (hold_same hr h (HP.stop x))) hok hat hN HT t))
variable {L : Allow} {Lv : List (Option Nat × Op × Option (Nat × Bool))} {j : Nat} {d : Nat} {op : Op}
theorem tp_val (hA : ∀ f ∈ L.A, AtomOk Try.prog f) (hb : b.kind ≠ .early) (hl : ops.toList.map view = Lv) (hi : Lv[j]? = some (some d, op, none)) (hok : opOk Try.prog L op = true) (hbig : bigs.contains j = false) {y : Value} (hrun : ∀ s', RP H i s s' → RunsTo Try.prog (restr e op) op s'.w (.value y) s'.w)
    (HT : Tx (XP i Fin) (RP H i) Eq N D b k cs ops ord bigs l ((d, y) :: e) s) : Tx (XP i Fin) (RP H i) Eq N D b k cs ops ord bigs (j :: l) e s := by
  obtain ⟨o, ho, hdst, hop, hgd⟩ := at_viewg hl hi
  unfold Tx
  rw [if_neg (by simpa using hbig)]
  refine ⟨y, ⟨o, d, ho, hdst, fun _ => ?_, fun g w h => by rw [hgd] at h; cases h⟩, by rw [dst_view hl, hi]; exact HT⟩
  intro s' a rest hR hat hw K
  rw [hop] at hat
  refine HP.walk (hold_valW hA hb ho hw (by rw [hop]; exact hok) fun t dd => ⟨_, _, hrun s' hR _ o (fun q z hz => hat.eval hz) hop t dd, ?_⟩)
  rw [hdst]
  exact (HP.stop (K s' rfl)).re t dd
end
/-- ████ play.Run$1: out[i] = one(t, l, do). ████ -/
theorem runF_hp {H i : Nat} {Fin : List (Int × Int) → Gho → World → Prop} {dov : Value} {dop : List (Int × Int) → ACall → (Int × Int → Prog) → Prog} {E : List (Int × Int) → Gho → World → Prop} {l : List ACall} (hdo : DoSpec i Fin dov dop E l H) {lv : Value} {Γ0 Γ : Gho} {v0 v : World} {A : Sys} {K : List (Int × Int) → Prog}
    (hT : TS i Γ v Γ0 v0 Γ A v) {lb db vb ib ob n : Nat} (hC : Caught i Γ v lb db vb ib ob n lv dov) (hSl : Slot i ob v) (hH : ob ≠ H) (hS : ScriptAt Γ v lv l) (hE : E [] Γ v) (c : Frame) (cs : List Frame)
    (hK : ∀ acc Γ0' v0' Γ' A' v', WI Γ' A' v' → Guar i A'.ths.length Γ0' v0' Γ' v' → i < A'.ths.length → FinOut i ob acc Γ' v' → v.heap.size ≤ v'.heap.size → Γ'.tb i = Γ.tb i → Γ'.W = Γ.W → Γ'.back = Γ.back →
      (∀ b, b < v.heap.size → Γ.own b = .const ∨ (Γ.own b = .thr i ∧ ¬ IntB v b) → v'.heap[b]? = v.heap[b]? ∧ Γ'.own b = Γ.own b) → HP i Fin (K acc) Γ0' v0' A' (G (c.finish (.tuple #[])) cs) v') :
    HP i Fin (Prog.callsA dop false 0 l [] K) Γ0 v0 A (G (Frame.enter Try.prog 37 #[.pointer (some ⟨Γ.tb i, 0, none⟩), .pointer (some ⟨lb, 0, none⟩), .pointer (some ⟨db, 0, none⟩), .pointer (some ⟨vb, 0, none⟩), .pointer (some ⟨ib, 0, none⟩)] .normal) (c :: cs)) v := by
  obtain ⟨b, a, hEn, hb, hbf, hat⟩ := enter_is RunF_fn RunF_body RunF_tmps #[.pointer (some ⟨Γ.tb i, 0, none⟩), .pointer (some ⟨lb, 0, none⟩), .pointer (some ⟨db, 0, none⟩), .pointer (some ⟨vb, 0, none⟩), .pointer (some ⟨ib, 0, none⟩)] [(0, .pointer (some ⟨Γ.tb i, 0, none⟩)), (1, .pointer (some ⟨lb, 0, none⟩)), (2, .pointer (some ⟨db, 0, none⟩)), (3, .pointer (some ⟨vb, 0, none⟩)), (4, .pointer (some ⟨ib, 0, none⟩))] rfl (by simp)
  rw [hEn]
  have hbk := not_early hb
  unfold RunF_code
  refine hp_draw (H := H) (s := ⟨Γ0, v0, Γ, A, Prog.callsA dop false 0 l [] K, v⟩) (ord := [0,1,2,3,4,5,6,7]) (bigs := [5,7]) (by kernel_rfl) (by kernel_rfl) hat <| tp_val noA hbk RunF_0 rfl rfl rfl (fun s' hR => r_load ld_ans2 rfl (hC.keepI hR).co.1) <| tp_val noA hbk RunF_0 rfl rfl rfl (fun s' hR => r_load ld_int rfl (hC.keepI hR).ci.1) <| tp_val noA hbk RunF_0 rfl rfl rfl (fun s' hR => r_move rfl) <| tp_val noA hbk RunF_0 rfl rfl rfl (fun s' hR => r_load ld_calls rfl (hC.keepI hR).cl.1) <| tp_val noA hbk RunF_0 rfl rfl rfl (fun s' hR => r_load ld_fdo rfl (hC.keepI hR).cd.1) ?_
  have hlt := hC.lt
  obtain ⟨o5, ho5, hd5, hop5, hg5⟩ := at_viewg (i := 5) RunF_0 rfl
  unfold Tx
  rw [if_pos (by decide)]
  refine ⟨o5, ho5, hg5, ?_⟩
  rintro _ a rest rfl hat5 K5
  rw [hop5] at hat5
  refine HP.walk (h_callv hbk RunF_0 rfl hat5 (f := 38) (cap := #[]) (vals := #[_, _, _]) rfl rfl one_fn one_bd one_nm (HP.stop ?_))
  refine one_hp (K := K) hdo hT.wi hT.guar hT.lt hS hE _ _ fun acc ov Γ0' v0' Γ' A' v' hT' hO => ?_
  have hf5 := fin_at (b := b) (a := a) (k := []) (rest := rest) ho5 ov
  refine Eq.subst (motive := fun X => HP i Fin (K acc) Γ0' v0' A' (G X (c :: cs)) v') hf5.symm <| K5 ⟨Γ0', v0', Γ', A', K acc, v'⟩ ov (.inr hT'.rely) ?_
  rw [hd5]
  refine tp_val noA hbk RunF_0 rfl rfl rfl (fun s' hR => r_index (kk := 1) (B := ob) (n := n) ix_29 rfl rfl (by omega) (by omega)) ?_
  obtain ⟨o7, ho7, hd7, hop7, hg7⟩ := at_viewg (i := 7) RunF_0 rfl
  unfold Tx
  rw [if_pos (by decide)]
  refine ⟨o7, ho7, hg7, ?_⟩
  rintro _ a7 rest7 rfl hat7 K7
  rw [hop7] at hat7
  have hC' := hC.keepI hT'.rely
  have hSl' := hSl.keepI hC.out.1 hC.out.2 hH hT'.rely
  obtain ⟨x0, hx0⟩ := hSl'.cell
  have hov1 : oneK ov = true := by
    rcases hO.1.2 with ⟨rfl, _⟩ | ⟨g, cap, cur, rfl, _⟩ <;> rfl
  have hblk : ∃ arr t fr, v'.heap[ob]? = some (.cells arr t fr) := by
    unfold World.cell? at hx0
    cases h : v'.heap[ob]? with
    | none => simp only [h] at hx0; cases hx0
    | some z => cases z <;> first | exact ⟨_, _, _, rfl⟩ | (simp only [h] at hx0; cases hx0)
  obtain ⟨arr, tt, fr, harr⟩ := hblk
  refine HP.walk (hold_unitW noA hbk ho7 (wanted_of hg7 _) (by rw [hop7]; rfl) fun tt dd => ⟨_, r_store (P := Try.prog) (v := v') (q := .tmp 12) (q' := .tmp 11) (B := ob) (O := 0 + (i : Int).toNat * 1) (x := x0) (y := ov) st_anss (by rfl) (by rfl) hov1 (by simpa using hx0) (by simpa using hSl'.open_) _ o7 (fun q z hz => hat7.eval hz) hop7 tt dd, ?_⟩)
  have hP : Puts v' (v'.setCell ⟨ob, i, none⟩ ov) ob _ := puts_set harr
  have hidx : (0 : Nat) + (i : Int).toNat * 1 = i := by omega
  rw [hidx]
  refine Hold.re (HP.stop (K7 ⟨Γ0', v0', Γ'.ext v' (.thr i), A', K acc, v'.setCell ⟨ob, i, none⟩ ov⟩ undef (.inl (by kernel_rfl)) ?_)) tt dd
  rw [hd7]
  unfold Tx
  rintro _ a8 rfl hat8
  have hsz : (v'.setCell ⟨ob, i, none⟩ ov).heap.size = v'.heap.size := hP.size
  have hoth : ∀ b, b ≠ ob → (v'.setCell ⟨ob, i, none⟩ ov).heap[b]? = v'.heap[b]? := hP.other
  have hW' : WI (Γ'.ext v' (.thr i)) A' (v'.setCell ⟨ob, i, none⟩ ov) := hT'.wi.other (fun b hb hs => hoth b fun e => by rw [e, hC'.out.2] at hs; cases hs) (hP.ready hT'.wi.ready) _
  have hown : ∀ b, b < v'.heap.size → (Γ'.ext v' (.thr i)).own b = Γ'.own b := fun b hb => by simp [Gho.ext, hb]
  have hG' : Guar i A'.ths.length Γ0' v0' (Γ'.ext v' (.thr i)) (v'.setCell ⟨ob, i, none⟩ ov) := by
    refine hT'.guar.trans ⟨Nat.le_of_eq hsz.symm, ⟨rfl, rfl, rfl, fun _ _ => ⟨rfl, rfl⟩⟩, fun _ _ => rfl, hown, fun b hb _ _ h3 => hoth b fun e => h3 (by rw [e]; exact hC'.out.2), fun b j hb ho hj => ?_, fun b h1 h2 => by omega, Nat.le_refl _, fun b j hb ho => ?_⟩
    · by_cases e : b = ob
      · subst e
        exact setCell_cell_ne (fun h => hj h.2)
      · exact cell_same (hoth b e)
    · by_cases e : b = ob
      · subst e
        rw [frozen_at' harr, frozen_at' hP.at_]
      · exact frozen_same (hoth b e)
  refine HP.walk (hold_region_end (hold_done hb hbf RunF_fn hat8.defers (ret_none RunF_res _) (HP.stop ?_)))
  refine hK acc Γ0' v0' _ A' _ hW' hG' hT'.lt ⟨⟨by rw [hsz]; exact hC'.out.1, by rw [hown _ hC'.out.1]; exact hC'.out.2⟩, ov, ?_, ?_, fun bb hbb => ?_⟩ (by rw [hsz]; exact hT'.rely.size) hT'.rely.same.2.2.2.1 hT'.rely.same.1 hT'.rely.same.2.1 fun b hb ho => ⟨?_, ?_⟩
  · have hi : i < arr.size := by
      rw [cell_at' harr] at hx0
      exact (Array.getElem?_eq_some_iff.1 hx0).1
    rw [cell_at' hP.at_]; simp [hi]
  · refine ownsRow_keep hO.1 fun bb c' hbb hc' => hoth bb fun e => ?_
    have := (hO.2 bb hbb).2.2
    rw [e, hC'.out.2] at this; cases this
  · obtain ⟨h1, h2, h3⟩ := hO.2 bb hbb
    exact ⟨by rw [hsz]; exact h2, by rw [hown bb h2]; exact h3⟩
  · rw [hoth b (fun e => by rw [e, hC.out.2] at ho; rcases ho with h | ⟨h, _⟩ <;> cases h)]
    exact hT'.rely.keep b hb ho
  · rw [hown b (Nat.lt_of_lt_of_le hb hT'.rely.size)]; exact hT'.rely.own b hb
end Go.Proofs.Ytecdiejeofclaaa


/- A thread's life: Thread.run, and what is deferred there. -/
namespace Go.Proofs.Ytecdiejeofclaaa
open Go Go.Conc
section
variable {P : Program} {S : Addr → Prop} {main : Bool} {Stop : Goroutine → World → Prop} {N : Nat} {D : List Deferred} {e : Env}
variable {b : Frame} {a : Act} {k : List Item} {cs : List Frame} {v : World} {ops : Array Oper} {Lv : List (Option Nat × Op × Option (Nat × Bool))} {i : Nat} {rest : List Nat}
/-- A deferred call of a closure. -/
theorem h_defer (hb : b.kind ≠ .early) (hl : ops.toList.map view = Lv) {q : Operand} {ats : Array TypeId} (hi : Lv[i]? = some (none, .defer { callee := .value q, args := #[], argTypes := ats }, none)) (hat : AtE N D e a) {f : FuncId} {cap : Array Value} (hq : opv e q = some (.func (.func f) #[] cap))
    (H : ∀ a', AtE N ({ target := .fn (.func f) cap, args := #[] } :: D) e a' → Hold P main S Stop (G (b.at a' (.inRegion ops rest :: k)) cs) v) : Hold P main S Stop (G (b.at a (.inRegion ops (i :: rest) :: k)) cs) v := by
  obtain ⟨o, ho, hdst, hop, hg⟩ := at_view hl hi
  have hw : Region.wanted o (yielded ops a.tmps) = true := wanted_of hg _
  have hk' : (b.kind == CallKind.early) = false := by simpa using hb
  refine hold_same (g' := G (b.at ⟨a.tmps, { target := .fn (.func f) cap, args := #[] } :: a.defers⟩ (.inRegion ops rest :: k)) cs) rfl (fun w => ?_) (H _ ⟨by rw [hat.defers], hat.size, hat.val⟩)
  have hq' := hat.eval hq
  have hr : (execOp a.eval o).run P w = .ok (.defer { target := .fn (.func f) cap, args := #[] }) w := by
    unfold execOp
    simp [hop, resolve, Deferred.ofValue, hq']
  have he : (execOp a.eval o).events P w #[] = #[] := by
    unfold execOp
    simp [hop, resolve, Deferred.ofValue, hq']
  have hfin : (b.at ⟨a.tmps, { target := .fn (.func f) cap, args := #[] } :: a.defers⟩ (.inRegion ops (i :: rest) :: k)).finish undef = b.at ⟨a.tmps, { target := .fn (.func f) cap, args := #[] } :: a.defers⟩ (.inRegion ops rest :: k) := by
    rw [Frame.finish_at, ho]; simp only [Option.bind_some, hdst]; rfl
  rw [stepG_oper ho hw, ← hfin]
  simp [stepG.apply, hr, he, G, Frame.at, hk', GStep.after, seen_none]
/-- recover, where there is nothing to recover from. -/
theorem h_recover0 (hb : b.kind ≠ .early) (hl : ops.toList.map view = Lv) {d : Nat} {ats : Array TypeId} (hi : Lv[i]? = some (some d, .call { callee := .builtin .recover, args := #[], argTypes := ats }, none)) (hd : d < N) (hat : AtE N D e a) {c : Frame} (hc : c.mode = .returning)
    (hbk : b.kind = .deferred) (hbr : b.roundOf = none)
    (H : ∀ a', AtE N D ((d, .nilIface) :: e) a' → Hold P main S Stop (G (b.at a' (.inRegion ops rest :: k)) (c :: cs)) v) : Hold P main S Stop (G (b.at a (.inRegion ops (i :: rest) :: k)) (c :: cs)) v := by
  obtain ⟨o, ho, hdst, hop, hg⟩ := at_view hl hi
  have hw : Region.wanted o (yielded ops a.tmps) = true := wanted_of hg _
  have hk' : (b.kind == CallKind.early) = false := by simpa using hb
  refine hold_same (g' := G (b.at (a.put (some d) .nilIface) (.inRegion ops rest :: k)) (c :: cs)) rfl (fun w => ?_) (H _ (hat.put hd _))
  have hr : (execOp a.eval o).runT P w #[] = (.ok .recover w, #[]) := by
    simp only [execOp, hop, resolve]
    rfl
  have hfin : (b.at a (.inRegion ops (i :: rest) :: k)).finish .nilIface = b.at (a.put (some d) .nilIface) (.inRegion ops rest :: k) := by
    rw [Frame.finish_at, ho]; simp only [Option.bind_some, hdst]
  rw [stepG_oper ho hw, ← hfin]
  unfold stepG.apply
  have hs : seen P b.fn (#[] : Array Event) = #[] := by simp [seen]
  have htr : tryRecover (b.at a (.inRegion ops (i :: rest) :: k)) (c :: cs) = none := by
    simp [tryRecover, Frame.at, hbk, hc]
  have hro : (b.at a (.inRegion ops (i :: rest) :: k)).roundOf = none := by simp [Frame.at, hbr]
  simp only [if_true, hr, show ((b.at a (.inRegion ops (i :: rest) :: k)).kind == CallKind.early) = false from hk', Bool.false_eq_true, if_false, hro, htr]
  show GStep.after (seen P b.fn #[]) _ = _
  rw [hs]; rfl
/-- A frame on its way out makes its deferred call. -/
theorem hold_unwind {td : List Item} {ds : List Deferred} {f : FuncId} {fn : Func} {cap args : Array Value} (hd : a.defers = { target := .fn (.func f) cap, args := args } :: ds) (hf : P.funcs[f]? = some fn) (hn : (fn.name == "runtime.NumGoroutine") = false) (hb : fn.body.isSome = true)
    (H : Hold P main S Stop (G (Frame.enter P f (args ++ cap) .deferred) ({ b.at ⟨a.tmps, ds⟩ td with mode := .returning } :: cs)) v) : Hold P main S Stop (G { b.at a td with mode := .returning } cs) v := by
  refine hold_same rfl (fun w => ?_) H
  have h1 : ¬ fn.name = "runtime.NumGoroutine" := by simpa using hn
  have h2 : ¬ fn.body = none := fun e => by rw [e] at hb; cases hb
  simp [G, stepG, unwind, callDeferred, Frame.at, hd, invoke, callFunc, hf, h1, h2, GStep.after, seen_none]
/-- The lowest frame of a goroutine that was begun. -/
def bottom (P : Program) (ds : List Deferred) : Frame := { (default : Frame) with fn := P.funcs.size, defers := ds, mode := .panicking [goexitEntry] }
theorem hold_begin {f : FuncId} {fn : Func} {args : Array Value} (hf : P.funcs[f]? = some fn) (hn : (fn.name == "runtime.NumGoroutine") = false) (hb : fn.body.isSome = true)
    (H : Hold P main S Stop (G (Frame.enter P f args .deferred) [bottom P []]) v) : Hold P main S Stop (G (bottom P [{ target := .fn (.func f) #[], args := args }]) []) v := by
  refine hold_same rfl (fun w => ?_) H
  have h1 : ¬ fn.name = "runtime.NumGoroutine" := by simpa using hn
  have h2 : ¬ fn.body = none := fun e => by rw [e] at hb; cases hb
  simp [G, stepG, unwind, callDeferred, bottom, invoke, callFunc, hf, h1, h2, GStep.after, seen_none]
theorem enterD_is {f : FuncId} {fn : Func} {c : Code} {n : Nat} (hf : P.funcs[f]? = some fn) (hb : fn.body = some c) (hn : fn.ntmps = n) (args : Array Value) (e : Env) (he : envOf args = e) (hle : args.size ≤ n) :
    ∃ (b : Frame) (a : Act), Frame.enter P f args .deferred = b.at a [.code c] ∧ b.kind = .deferred ∧ b.fn = f ∧ b.roundOf = none ∧ AtE n [] e a := by
  refine ⟨_, _, enter_atD args hf hb, rfl, rfl, rfl, ?_⟩
  have := AtE.start args (fn.ntmps - args.size)
  rw [hn] at this ⊢
  rw [Nat.add_sub_cancel' hle] at this
  rw [← he]
  exact this
/-- The last steps of a thread. -/
theorem quits_end {b1 b2 : Frame} {a1 a2 : Act} {td2 : List Item} {fn1 fn2 : Func} (hk1 : b1.kind = .deferred) (hd1 : a1.defers = []) (hf1 : P.funcs[b1.fn]? = some fn1) (hr1 : fn1.results = #[]) (hk2 : b2.kind = .deferred) (hd2 : a2.defers = []) (hf2 : P.funcs[b2.fn]? = some fn2) (hr2 : fn2.results = #[]) :
    ∃ m, QuitsD P m 0 (G (b1.at a1 [.inRegion ops []]) [{ b2.at a2 td2 with mode := .returning }, bottom P []]) := by
  have hcat : (bottom P []).catches P = false := by
    have h2 : (bottom P []).todo = [] := rfl
    unfold Frame.catches
    rw [h2]
    split
    · rename_i h; cases h
    · rfl
  have e1 : ∀ w, stepG P false (G { b2.at a2 td2 with mode := .returning } [bottom P []]) w = .go (G (bottom P []) []) w := by
    intro w
    simp [G, stepG, unwind, doReturn, Frame.at, hk2, hd2, hf2, results_none hr2 _ P w, events_results_none hr2, bottom, goexitEntry, seen, GStep.after]
  have e2 : ∀ w, stepG P false (G (bottom P []) []) w = .go { frame := bottom P [], callers := [], status := .finished, dying := none } w := fun w => by
    have h : stepG P false (G (bottom P []) []) w = unwind P false (bottom P []) [] none w := rfl
    rw [h]
    unfold unwind
    simp only [show (bottom P []).defers = [] from rfl, show (bottom P []).mode = .panicking [goexitEntry] from rfl, hcat]
    rfl
  have e0 : ∀ w, stepG P false (G (b1.at a1 []) [{ b2.at a2 td2 with mode := .returning }, bottom P []]) w = .go (G { b1.at a1 [] with mode := .returning } [{ b2.at a2 td2 with mode := .returning }, bottom P []]) w := fun w => by
    simp [G, stepG, stepG.exec, Frame.at, Frame.roundOf, hk1]
  refine ⟨5, QuitsD.ctl rfl (fun w => by simp [G, stepG, stepG.exec, Frame.at]) (QuitsD.ctl rfl e0 (QuitsD.leaveD hk1 hd1 hf1 hr1 rfl (QuitsD.ctl rfl e1 (QuitsD.ctl rfl e2 ⟨rfl, rfl⟩))))⟩
end
end Go.Proofs.Ytecdiejeofclaaa


/- Thread.run: the whole life of a thread is a process. -/
namespace Go.Proofs.Ytecdiejeofclaaa
open Go Go.Conc
/-- What stands for a thread's body. -/
structure BodyE (i : Nat) (lb db vb ib ob n : Nat) (lv dov : Value) (l : List ACall) (E : Gho → World → Prop) (Γ : Gho) (v : World) : Prop where
  caught : Caught i Γ v lb db vb ib ob n lv dov
  slot : Slot i ob v
  script : ScriptAt Γ v lv l
  env : E Γ v
theorem BodyE.keep {i lb db vb ib ob n : Nat} {lv dov : Value} {l : List ACall} {E : Gho → World → Prop} {Γ Γ' : Gho} {v v' : World} (hE : ∀ Γ v Γ' v', E Γ v → Rely i Γ v Γ' v' → E Γ' v') (h : BodyE i lb db vb ib ob n lv dov l E Γ v) (hR : Rely i Γ v Γ' v') : BodyE i lb db vb ib ob n lv dov l E Γ' v' :=
  ⟨h.caught.keepI (hR.toI (ob + 1)), h.slot.keepI h.caught.out.1 h.caught.out.2 (by omega) (hR.toI (ob + 1)), h.script.keep hR, hE _ _ _ _ h.env hR⟩
theorem setSt_set {A : Sys} {i : Nat} {t : TSt} (h : A.ths[i]? = some t) (s : Int) : A.setSt i s = { A with ths := A.ths.set i { t with st := s } } := by
  unfold Sys.setSt
  congr 1
  apply List.ext_getElem?
  intro j
  rw [List.getElem?_modify, List.getElem?_set]
  by_cases e : i = j
  · subst e
    have := (List.getElem?_eq_some_iff.1 h).1
    simp only [if_true, h, this, Option.map_some]
    simp
  · simp [e]
theorem r_nilI {v : World} {e : Env} {q : Operand} (h : opv e q = some .nilIface) : RunsTo Try.prog e (.binOp .neq 20 q (.const .nilIface) 20) v (.value (.bool false)) v := fun ρ o hρ ho t d => by
  have h2 := hρ (.const .nilIface) _ rfl
  simp only [execOp, ho, hρ _ _ h, h2]
  simp [go_sem]
theorem opOk_nilI {P : Program} {L : Allow} {op : BinOp} {t t' : TypeId} {x : Operand} : opOk P L (.binOp op t x (.const .nilIface) t') = true := by cases op <;> simp [opOk, isNilConst, isNil]
/-- The deferred end of a thread. -/
theorem thrunF_hold {i ob : Nat} {acc : List (Int × Int)} {Γ0 Γ : Gho} {v0 v : World} {A : Sys} (hW : WI Γ A v) (hG : Guar i A.ths.length Γ0 v0 Γ v) (hi : i < A.ths.length) (hF : FinOut i ob acc Γ v) {tb : Nat} (F2 : v.heap[tb]? = some (.cells #[.pointer (some ⟨Γ.tb i, 0, none⟩)] 41 (0, 0)))
    {b2 : Frame} {a2 : Act} {td2 : List Item} (hk2 : b2.kind = .deferred) (hd2 : a2.defers = []) (hf2 : b2.fn = 56) :
    HP i (FinOut i ob) (.done acc) Γ0 v0 A (G (Frame.enter Try.prog 82 #[.pointer (some ⟨tb, 0, none⟩)] .deferred) [{ b2.at a2 td2 with mode := .returning }, bottom Try.prog []]) v := by
  obtain ⟨b, a, hEq, hb, hbf, hbr, hat⟩ := enterD_is thrunF_fn thrunF_body thrunF_tmps #[.pointer (some ⟨tb, 0, none⟩)] [(0, .pointer (some ⟨tb, 0, none⟩))] rfl (by simp)
  rw [hEq]
  have hbk : b.kind ≠ .early := by rw [hb]; simp
  obtain ⟨t, ht⟩ : ∃ t, A.ths[i]? = some t := ⟨A.ths[i], by simp [hi]⟩
  obtain ⟨hti, hgi, hoi, hogi⟩ := hW.th i t ht
  obtain ⟨sv, cv, tv, rv, hw, _⟩ := id hW.world
  have hSS : SS Γ0 A.ths.length = SS Γ A.ths.length := by
    obtain ⟨e1, e2, e3, e4⟩ := hG.same
    funext y
    simp only [SS, e1, eq_iff_iff]
    constructor
    · rintro (rfl | ⟨j, hj, rfl⟩)
      · exact .inl rfl
      · exact .inr ⟨j, hj, by rw [(e4 j hj).1]⟩
    · rintro (rfl | ⟨j, hj, rfl⟩)
      · exact .inl rfl
      · exact .inr ⟨j, hj, by rw [(e4 j hj).1]⟩
  show Hold Try.prog false (SS Γ0 A.ths.length) _ _ _
  have hfin : ∀ v', Puts v v' (Γ.tb i) (.cells #[.pointer (some ⟨Γ.W, 0, none⟩), .int .i64 i, .chan (some (Γ.goes i)), .int .i64 3, .int .i64 t.cell, .int .i64 t.op, .int .i64 t.seen] 76 (2, 3)) → WI Γ (A.setSt i 3) v' ∧ Guar i A.ths.length Γ0 v0 Γ v' ∧ FinOut i ob acc Γ v' := fun v' hP => by
    have hs : ∀ b, Γ.own b ≠ .sys → v'.heap[b]? = v.heap[b]? := fun b hb => hP.other b fun e => hb (by rw [e]; exact hoi)
    refine ⟨?_, hG.trans (guar_sys hP.size hs), ?_⟩
    · rw [setSt_set ht 3]
      exact hW.setTh _ ht hP.other hP.at_ (hP.ready hW.ready)
    · obtain ⟨⟨g0, g0'⟩, ov, g1, g2, g3⟩ := hF
      refine ⟨⟨by rw [hP.size]; exact g0, g0'⟩, ov, (cell_same (hs ob (by rw [g0']; simp))).trans g1, ownsRow_keep g2 fun bb c hbb _ => hs bb (by rw [(g3 bb hbb).2]; simp), fun bb hbb => ⟨by rw [hP.size]; exact (g3 bb hbb).1, (g3 bb hbb).2⟩⟩
  refine hold_unf thrunF_code_def <| hold_seq <| hold_seq <| hold_region (l := [0,1]) rfl <| h_recover0 hbk thrunF_0 rfl (by decide) hat rfl hb hbr fun a hat => h_val noA hbk thrunF_0 rfl opOk_nilI (by decide) hat (r_nilI rfl) fun a hat => hold_region_end <| hold_condF (hat.eval (q := .tmp 2) rfl) rfl <| hold_skip <| hold_seq <| hold_region (l := [0,1,2,3]) rfl <| h_val noA hbk thrunF_2 rfl rfl (by decide) hat (r_load ld_41 rfl (cell_at' F2)) fun a hat => h_val noA hbk thrunF_2 rfl rfl (by decide) hat (r_nil rfl) fun a hat => ?_
  refine h_val noA hbk thrunF_2 rfl rfl (by decide) hat (r_field fk_76_3 rfl) fun a hat => h_put noA hbk thrunF_2 rfl rfl hat (p_store st_3 rfl rfl rfl hti rfl rfl) fun v a hP htix hat => ?_
  simp only [List.setIfInBounds_toArray, List.set_cons_succ, List.set_cons_zero] at htix
  replace F2 := hP.keep (by first | exact n_hti_F2 | exact n_F2_hti.symm | exact ne_of_types F2 hti (by decide) | omega) F2
  replace hw := hP.keep (by first | exact n_hti_hw | exact n_hw_hti.symm | exact ne_of_types hw hti (by decide) | omega) hw
  replace hti := htix; clear htix
  refine hold_region_end <| hold_region (l := [0,1,2,3,4,5,6,7,8]) rfl <| h_val noA hbk thrunF_3 rfl rfl (by decide) hat (r_load ld_41 rfl (cell_at' F2)) fun a hat => h_val noA hbk thrunF_3 rfl rfl (by decide) hat (r_nil rfl) fun a hat => h_val noA hbk thrunF_3 rfl rfl (by decide) hat (r_field fk_76_0 rfl) fun a hat => h_val noA hbk thrunF_3 rfl rfl (by decide) hat (r_load ld_32 rfl (cell_at' hti)) fun a hat => h_val noA hbk thrunF_3 rfl rfl (by decide) hat (r_nil rfl) fun a hat => h_val noA hbk thrunF_3 rfl rfl (by decide) hat (r_field fk_74_8 rfl) fun a hat => h_val noA hbk thrunF_3 rfl rfl (by decide) hat (r_load ld_71 rfl (cell_at' hw)) fun a hat => h_val noA hbk thrunF_3 rfl rfl (by decide) hat bu_94 fun a hat => ?_
  obtain ⟨f1, f2, f3⟩ := hfin _ hP
  refine .stop _ _ fun tt dd => ⟨Γ, f1.re tt dd, f2.re tt dd, f3, rfl, _, .agg #[], _, fun wa _ => at_send hbk thrunF_3 rfl hat rfl rfl wa, ?_⟩
  rw [sent_is thrunF_3 rfl]
  exact quits_end hb hat.defers (by rw [hbf]; exact thrunF_fn) thrunF_res hk2 hd2 (by rw [hf2]; exact thrun_fn) thrun_res
theorem thrun_hp {H i : Nat} {dov : Value} {dop : List (Int × Int) → ACall → (Int × Int → Prog) → Prog} {E : List (Int × Int) → Gho → World → Prop} {lb db vb ib ob n : Nat} {l : List ACall} {lv : Value} {Γ0 Γ : Gho} {v0 v : World} {A : Sys} (hdo : DoSpec i (FinOut i ob) dov dop E l H) (hH : ob ≠ H)
    (hW : WI Γ A v) (hG : Guar i A.ths.length Γ0 v0 Γ v) (hi : i < A.ths.length) (hX : BodyE i lb db vb ib ob n lv dov l (E []) Γ v) :
    HP i (FinOut i ob) (Prog.callsA dop false 0 l [] .done) Γ0 v0 A (G (bottom Try.prog [{ target := .fn (.func 56) #[], args := #[.pointer (some ⟨Γ.tb i, 0, none⟩), .func (.func 37) #[] #[.pointer (some ⟨lb, 0, none⟩), .pointer (some ⟨db, 0, none⟩), .pointer (some ⟨vb, 0, none⟩), .pointer (some ⟨ib, 0, none⟩)]] }]) []) v := by
  have hT := TS.start hW hG hi
  have hEk : ∀ Γ v Γ' v', E [] Γ v → Rely i Γ v Γ' v' → E [] Γ' v' := by obtain ⟨_, _, _, _, _, _, _, h, _, _⟩ := hdo; exact h []
  obtain ⟨b, a, hEq, hb, hbf, hbr, hat⟩ := enterD_is thrun_fn thrun_body thrun_tmps #[.pointer (some ⟨Γ.tb i, 0, none⟩), .func (.func 37) #[] #[.pointer (some ⟨lb, 0, none⟩), .pointer (some ⟨db, 0, none⟩), .pointer (some ⟨vb, 0, none⟩), .pointer (some ⟨ib, 0, none⟩)]] [(0, .pointer (some ⟨Γ.tb i, 0, none⟩)), (1, .func (.func 37) #[] #[.pointer (some ⟨lb, 0, none⟩), .pointer (some ⟨db, 0, none⟩), .pointer (some ⟨vb, 0, none⟩), .pointer (some ⟨ib, 0, none⟩)])] rfl (by simp)
  have hbk : b.kind ≠ .early := by rw [hb]; simp
  refine HP.walk (hold_begin thrun_fn thrun_nm thrun_bd ?_)
  rw [hEq]
  refine hold_unf thrun_code_def <| hold_seq <| hold_region (l := [0]) rfl <| h_new noA hbk thrun_0 rfl rfl (by decide) hat (bx_41 rfl rfl) fun v a B2 hB2 hsB2 hg F2 hat => ?_
  obtain ⟨Γ, hT, hR, own_F2, gB2, hO⟩ := hT.new hB2 hg
  refine hold_region_end <| hold_seq <| hold_region (l := [0,1]) rfl <| h_val noA hbk thrun_1 rfl rfl (by decide) hat (mf_82_1 rfl) fun a hat => h_defer hbk thrun_1 rfl hat rfl fun a hat => hold_region_end <| hold_region (l := [0,1,2]) rfl <| h_val noA hbk thrun_2 rfl rfl (by decide) hat (r_move rfl) fun a hat => h_val noA hbk thrun_2 rfl rfl (by decide) hat (r_load ld_41 rfl (cell_at' F2)) fun a hat => h_callcv hbk thrun_2 rfl (by decide) hat rfl (vals := #[_]) rfl RunF_fn RunF_bd RunF_nm fun c hc => ?_
  have hX := hX.keep hEk hT.rely
  have htb : Γ.tb i = _ := hT.rely.same.2.2.2.1
  rw [← htb] at F2 ⊢
  refine HP.stop (runF_hp hdo (TS.start hT.wi hT.guar hT.lt) hX.caught hX.slot hH hX.script hX.env c _ fun acc Γ0' v0' Γ' A' v' hW' hG' hi' hF hsz e1 e2 e3 hkeep => ?_)
  refine hp_fin hc fun a hat => ?_
  refine hold_region_end (hold_end (.inr hb) (hold_unwind hat.defers thrunF_fn thrunF_nm thrunF_bd (HP.stop ?_)))
  rw [Array.empty_append]
  have hlt := lt_heap F2
  obtain ⟨h1, h2⟩ := hkeep B2 hlt (.inr ⟨own_F2, fun ⟨c, fr, e⟩ => by rw [F2] at e; simp at e⟩)
  exact thrunF_hold hW' hG' hi' hF (by rw [e1]; exact h1.trans F2) hb rfl hbf
end Go.Proofs.Ytecdiejeofclaaa


/- Turns: the abstract run; a thread that goes on, and gives the turn back. -/
namespace Go.Proofs.Ytecdiejeofclaaa
open Go Go.Conc
open Go.ConcN (upd upd_ne upd_same)
abbrev Answers := List (Int × Int)
abbrev Left := Prog ⊕ Answers
namespace Sys
def readyB (A : Sys) (t : TSt) : Bool := t.st == 1 || (t.st == 2 && (A.stuck || A.changed t.cell != t.seen))
/-- Those that could go, by rising numbers. -/
def readyL (A : Sys) : List Nat := (List.range A.ths.length).filter fun j => match A.ths[j]? with
  | some t => A.readyB t
  | none => false
def waits (A : Sys) : Bool := A.ths.any fun t => t.st == 2
/-- Who is picked: his number; the world behind it. -/
def pick (A : Sys) (l : List Nat) : Nat × Sys :=
  match A.sched[A.used]? with
  | some s => (l.getD (s % l.length).toNat 0, { A with used := A.used + 1 })
  | none => (((l.find? fun (j : Nat) => decide (A.last < (j : Int)))).getD (l.headD 0), A)
/-- He is let go. -/
def letGo (A : Sys) (j : Nat) : Sys := ({ A with last := j }).setSt j 0
def setStuck (A : Sys) : Sys := { A with stuck := true, trace := A.trace ++ [⟨-1, -1, 7, 0, 0⟩] }
end Sys
def leftOver : Left → Option Answers
  | .inl _ => none
  | .inr r => some r
/-- The turns, to the end: 'none': not within so many; or more steps than are told. -/
def turns : Nat → Sys → List Left → Option (Sys × List Answers)
  | 0, _, _ => none
  | f + 1, A, ps => match A.readyL with
    | [] => if A.waits then (if A.trace.length < traceMax then turns f A.setStuck ps else none) else (ps.mapM leftOver).map fun rs => (A, rs)
    | x :: l => match ps[(A.pick (x :: l)).1]? with
      | some (.inl k) => match k.go (A.pick (x :: l)).1 ((A.pick (x :: l)).2.letGo (A.pick (x :: l)).1) with
        | some (A', q) => turns f A' (ps.set (A.pick (x :: l)).1 q)
        | none => none
      | _ => none
/-- They begin, one behind the other. -/
def spawns : List Prog → Sys → List Left → Option (Sys × List Left)
  | [], A, ps => some (A, ps)
  | p :: l, A, ps => match p.go ps.length { A with ths := A.ths ++ [⟨0, 0, 0, 0⟩] } with
    | some (A', q) => spawns l A' (ps ++ [q])
    | none => none
def runs (f : Nat) (A : Sys) (l : List Prog) : Option (Sys × List Answers) := (spawns l A []).bind fun x => turns f x.1 x.2
/-- What main counts on while threads go. -/
structure MRely (Γ : Gho) (v : World) (Γ' : Gho) (v' : World) : Prop where
  size : v.heap.size ≤ v'.heap.size
  same : Γ'.W = Γ.W ∧ Γ'.back = Γ.back ∧ Γ'.n0 = Γ.n0
  cb : ∀ c : Nat, Γ.cb c < v.heap.size → Γ'.cb c = Γ.cb c
  own : ∀ b, b < v.heap.size → Γ'.own b = Γ.own b
  keep : ∀ b, b < v.heap.size → Γ.own b = .main ∨ Γ.own b = .const → v'.heap[b]? = v.heap[b]?
  mf : ∀ b j, b < v.heap.size → Γ.own b = .mixed → v'.frozen? ⟨b, j, none⟩ = v.frozen? ⟨b, j, none⟩
  nc : Γ.nc ≤ Γ'.nc
theorem MRely.refl (Γ : Gho) (v : World) : MRely Γ v Γ v := ⟨Nat.le_refl _, ⟨rfl, rfl, rfl⟩, fun _ _ => rfl, fun _ _ => rfl, fun _ _ _ => rfl, fun _ _ _ _ => rfl, Nat.le_refl _⟩
theorem MRely.trans {Γ Γ' Γ'' : Gho} {v v' v'' : World} (h : MRely Γ v Γ' v') (g : MRely Γ' v' Γ'' v'') : MRely Γ v Γ'' v'' := by
  obtain ⟨a1, a2, a3⟩ := h.same
  obtain ⟨b1, b2, b3⟩ := g.same
  refine ⟨Nat.le_trans h.size g.size, ⟨b1.trans a1, b2.trans a2, b3.trans a3⟩, fun c hc => ?_, fun b hb => (g.own b (Nat.lt_of_lt_of_le hb h.size)).trans (h.own b hb), fun b hb ho => ?_, fun b j hb ho => (g.mf b j (Nat.lt_of_lt_of_le hb h.size) (by rw [h.own b hb]; exact ho)).trans (h.mf b j hb ho), Nat.le_trans h.nc g.nc⟩
  · have e := h.cb c hc
    exact (g.cb c (by rw [e]; exact Nat.lt_of_lt_of_le hc h.size)).trans e
  · exact (g.keep b (Nat.lt_of_lt_of_le hb h.size) (by rw [h.own b hb]; exact ho)).trans (h.keep b hb ho)
theorem Guar.mrely {i n : Nat} {Γ Γ' : Gho} {v v' : World} (h : Guar i n Γ v Γ' v') : MRely Γ v Γ' v' :=
  ⟨h.size, ⟨h.same.1, h.same.2.1, h.same.2.2.1⟩, h.cb, h.own, fun b hb ho => h.keep b hb (by rcases ho with ho | ho <;> rw [ho] <;> simp) (by rcases ho with ho | ho <;> rw [ho] <;> simp) (by rcases ho with ho | ho <;> rw [ho] <;> simp), h.mf, h.nc⟩
/-- What a thread that is not begun may count on. -/
structure URely (i : Nat) (Γ : Gho) (v : World) (Γ' : Gho) (v' : World) : Prop where
  size : v.heap.size ≤ v'.heap.size
  same : Γ'.W = Γ.W ∧ Γ'.back = Γ.back ∧ Γ'.n0 = Γ.n0
  cb : ∀ c : Nat, Γ.cb c < v.heap.size → Γ'.cb c = Γ.cb c
  own : ∀ b, b < v.heap.size → Γ'.own b = Γ.own b
  keep : ∀ b, b < v.heap.size → Γ.own b = .const → v'.heap[b]? = v.heap[b]?
  mixed : ∀ b, b < v.heap.size → Γ.own b = .mixed → v'.cell? ⟨b, i, none⟩ = v.cell? ⟨b, i, none⟩
  nc : Γ.nc ≤ Γ'.nc
  mf : ∀ b j, b < v.heap.size → Γ.own b = .mixed → v'.frozen? ⟨b, j, none⟩ = v.frozen? ⟨b, j, none⟩
theorem Rely.urely {i : Nat} {Γ Γ' : Gho} {v v' : World} (h : Rely i Γ v Γ' v') : URely i Γ v Γ' v' :=
  ⟨h.size, ⟨h.same.1, h.same.2.1, h.same.2.2.1⟩, h.cb, h.own, fun b hb ho => h.keep b hb (.inr ho), h.mixed, h.nc, h.mf⟩
theorem URely.trans {i : Nat} {Γ Γ' Γ'' : Gho} {v v' v'' : World} (h : URely i Γ v Γ' v') (g : URely i Γ' v' Γ'' v'') : URely i Γ v Γ'' v'' := by
  obtain ⟨a1, a2, a3⟩ := h.same
  obtain ⟨b1, b2, b3⟩ := g.same
  refine ⟨Nat.le_trans h.size g.size, ⟨b1.trans a1, b2.trans a2, b3.trans a3⟩, fun c hc => ?_, fun b hb => (g.own b (Nat.lt_of_lt_of_le hb h.size)).trans (h.own b hb), fun b hb ho => ?_, fun b hb ho => ?_, Nat.le_trans h.nc g.nc, fun b j hb ho => (g.mf b j (Nat.lt_of_lt_of_le hb h.size) (by rw [h.own b hb]; exact ho)).trans (h.mf b j hb ho)⟩
  · have e := h.cb c hc
    exact (g.cb c (by rw [e]; exact Nat.lt_of_lt_of_le hc h.size)).trans e
  · exact (g.keep b (Nat.lt_of_lt_of_le hb h.size) (by rw [h.own b hb]; exact ho)).trans (h.keep b hb ho)
  · exact (g.mixed b (Nat.lt_of_lt_of_le hb h.size) (by rw [h.own b hb]; exact ho)).trans (h.mixed b hb ho)
theorem Guar.urely {i j n : Nat} {Γ Γ' : Gho} {v v' : World} (h : Guar i n Γ v Γ' v') (hne : j ≠ i) : URely j Γ v Γ' v' :=
  ⟨h.size, ⟨h.same.1, h.same.2.1, h.same.2.2.1⟩, h.cb, h.own, fun b hb ho => h.keep b hb (by rw [ho]; simp) (by rw [ho]; simp) (by rw [ho]; simp), fun b hb ho => h.mixed b j hb ho hne, h.nc, h.mf⟩
theorem chan_at {v : World} {c cap : Nat} {buf : Array Value} {cl : Bool} {a b : Nat} {tm : Bool} (h : c < v.heap.size) : (v.setChan c cap buf cl a b tm).heap[c]? = some (.chan cap buf cl a b tm) := by
  simp [World.setChan, Array.getElem?_setIfInBounds, h]
theorem WI.chan {Γ : Gho} {A : Sys} {v : World} (hW : WI Γ A v) {c k : Nat} (hc : fresh v c) (hs : Γ.own c = .sys) : WI Γ A (v.setChan c 0 #[] false (k + 1) (k + 1) false) ∧ (∀ i n, Guar i n Γ v Γ (v.setChan c 0 #[] false (k + 1) (k + 1) false)) ∧ (∀ i, Rely i Γ v Γ (v.setChan c 0 #[] false (k + 1) (k + 1) false)) := by
  obtain ⟨k0, hk0⟩ := hc
  have hlt := lt_of_heap hk0
  have hsz : (v.setChan c 0 #[] false (k + 1) (k + 1) false).heap.size = v.heap.size := by simp [World.setChan]
  have hne : ∀ b, b ≠ c → (v.setChan c 0 #[] false (k + 1) (k + 1) false).heap[b]? = v.heap[b]? := fun b hb => heap_setChan_ne _ _ _ _ _ _ _ (fun e => hb e.symm)
  have hat : (v.setChan c 0 #[] false (k + 1) (k + 1) false).heap[c]? = some (.chan 0 #[] false (k + 1) (k + 1) false) := chan_at hlt
  have hoth : ∀ b, Γ.own b ≠ .sys → (v.setChan c 0 #[] false (k + 1) (k + 1) false).heap[b]? = v.heap[b]? := fun b hb => hne b fun e => hb (by rw [e]; exact hs)
  refine ⟨?_, fun i n => guar_sys hsz hoth, fun i => rely_sys hsz hoth⟩
  obtain ⟨sv, cv, tv, rv, hw, r1, r2, r3, r4, o1, o2, o3, o4, o5⟩ := hW.world
  have keep : ∀ {b : Nat} {x : Array Value} {e : TypeId} {f : Nat × Nat}, v.heap[b]? = some (.cells x e f) → (v.setChan c 0 #[] false (k + 1) (k + 1) false).heap[b]? = v.heap[b]? := fun hb => hne _ fun e => by rw [e, hk0] at hb; cases hb
  have hfr : ∀ d, fresh v d → fresh (v.setChan c 0 #[] false (k + 1) (k + 1) false) d := fun d ⟨kd, hd⟩ => by
    by_cases e : d = c
    · subst e; exact ⟨_, hat⟩
    · exact ⟨kd, (hne d e).trans hd⟩
  refine ⟨fun r x y hr => ?_, ⟨sv, cv, tv, rv, (keep hw).trans hw, ownsRow_keep r1 fun b _ _ hb => keep hb, ownsRow_keep r2 fun b _ _ hb => keep hb, ownsRow_keep r3 fun b _ _ hb => keep hb, ownsRow_keep r4 fun b _ _ hb => keep hb, o1, o2, o3, o4, o5⟩, fun j t hj => ?_, ⟨hfr _ hW.back.1, hW.back.2⟩, fun c' x hc' => ?_, hW.used, hW.ints64, hW.chansApart, hW.backApart, hW.nc, hW.vals64⟩
  · by_cases e : r = c
    · subst e; rw [hat] at hr; cases hr
    · rw [hne r e] at hr; exact hW.ready r x y hr
  · obtain ⟨h1, h2, h3, h4⟩ := hW.th j t hj
    exact ⟨(keep h1).trans h1, hfr _ h2, h3, h4⟩
  · obtain ⟨h1, h2⟩ := hW.cells c' x hc'
    exact ⟨(keep h1).trans h1, h2⟩
/-- A thread that waits for its turn, or has ended. -/
def Parked (Fin : Nat → Answers → Gho → World → Prop) (I : Inbs) (Γ : Gho) (A : Sys) (v : World) (i : Nat) : Left → Prop
  | .inl k => ∃ t home z, A.ths[i]? = some t ∧ I (Γ.n0 + i) = some (Seat.one (Γ.goes i) z false home) ∧
      ∀ g₂ Γ'' v'' A'' y s, home g₂ → Rely i Γ v Γ'' v'' → WI Γ'' A'' v'' → A''.ths[i]? = some ⟨0, t.cell, t.op, s⟩ → HP i (Fin i) k Γ'' v'' A'' (Conc.served g₂ y) v''
  | .inr r => ∃ t, A.ths[i]? = some t ∧ t.st = 3 ∧ I (Γ.n0 + i) = none ∧ Fin i r Γ v
structure Stable (Fin : Nat → Answers → Gho → World → Prop) : Prop where
  keep : ∀ i r Γ v Γ' v', Fin i r Γ v → Rely i Γ v Γ' v' → Fin i r Γ' v'
theorem Parked.keep {Fin : Nat → Answers → Gho → World → Prop} (hF : Stable Fin) {I I' : Inbs} {Γ Γ' : Gho} {A A' : Sys} {v v' : World} {i : Nat} {q : Left} (h : Parked Fin I Γ A v i q) (hR : Rely i Γ v Γ' v') (hI : I' (Γ.n0 + i) = I (Γ.n0 + i)) (hA : A'.ths[i]? = A.ths[i]?) : Parked Fin I' Γ' A' v' i q := by
  have hn : Γ'.n0 = Γ.n0 := hR.same.2.2.1
  have hg : Γ'.goes i = Γ.goes i := hR.same.2.2.2.2
  cases q with
  | inl k =>
    obtain ⟨t, home, z, h1, h3, h4⟩ := h
    exact ⟨t, home, z, hA.trans h1, by rw [hn, hI, h3, hg], fun g₂ Γ'' v'' A'' y s g1 g2 g3 g4 => h4 g₂ Γ'' v'' A'' y s g1 (hR.trans g2) g3 g4⟩
  | inr r =>
    obtain ⟨t, h1, h2, h3, h4⟩ := h
    exact ⟨t, hA.trans h1, h2, by rw [hn, hI]; exact h3, hF.keep _ _ _ _ _ _ h4 hR⟩
/-- All seats, but that of whoever holds: main's (number 0) on 'back', the threads'. -/
structure Ring1 (Fin : Nat → Answers → Gho → World → Prop) (Γ : Gho) (A : Sys) (v : World) (I : Inbs) (ps : List Left) (skip : Option Nat) : Prop where
  wi : WI Γ A v
  len : ps.length = A.ths.length
  n0 : 0 < Γ.n0
  parked : ∀ i q, some i ≠ skip → ps[i]? = some q → Parked Fin I Γ A v i q
  none_ : ∀ x, x ≠ 0 → (x < Γ.n0 ∨ Γ.n0 + A.ths.length ≤ x) → I x = none
section
variable {Done : Goroutine → World → Prop} {Fin : Nat → Answers → Gho → World → Prop}
theorem ss_eq {Γ Γ' : Gho} {n : Nat} (h1 : Γ'.W = Γ.W) (h2 : ∀ j, j < n → Γ'.tb j = Γ.tb j) : SS Γ n = SS Γ' n := by
  funext y
  simp only [SS, h1, eq_iff_iff]
  constructor
  · rintro (rfl | ⟨j, hj, rfl⟩)
    · exact .inl rfl
    · exact .inr ⟨j, hj, by rw [h2 j hj]⟩
  · rintro (rfl | ⟨j, hj, rfl⟩)
    · exact .inl rfl
    · exact .inr ⟨j, hj, by rw [h2 j hj]⟩
theorem one_apart {Γ : Gho} {A : Sys} {v : World} (hW : WI Γ A v) {I : Inbs} {i : Nat} (hi : i < A.ths.length) {zM : Value} {homeM : Goroutine → Prop} (hI0 : I 0 = some (Seat.one Γ.back zM false homeM))
    (hI : ∀ j, j < A.ths.length → j ≠ i → I (Γ.n0 + j) = none ∨ ∃ z home, I (Γ.n0 + j) = some (Seat.one (Γ.goes j) z false home)) (hnone : ∀ x, x ≠ 0 → (x < Γ.n0 ∨ Γ.n0 + A.ths.length ≤ x) → I x = none) {z : Value} {home : Goroutine → Prop} :
    SeatOk I v (Γ.n0 + i) (some (Seat.one (Γ.goes i) z false home)) := by
  obtain ⟨t, ht⟩ : ∃ t, A.ths[i]? = some t := ⟨A.ths[i], by simp [hi]⟩
  obtain ⟨_, ⟨k, hk⟩, _, _⟩ := hW.th i t ht
  refine ⟨Seat.one_wf _ _ _ _, fun c hc => ⟨0, k, by rw [Seat.one_has.1 hc]; exact hk⟩, fun x s c hx hs hc hc' => ?_⟩
  have e1 := Seat.one_has.1 hc'
  by_cases h0 : x = 0
  · subst h0
    rw [hI0] at hs
    cases hs
    exact hW.backApart i hi (e1.symm.trans (Seat.one_has.1 hc))
  · by_cases hr : x < Γ.n0 ∨ Γ.n0 + A.ths.length ≤ x
    · rw [hnone x h0 hr] at hs; cases hs
    · obtain ⟨j, rfl⟩ : ∃ j, x = Γ.n0 + j := ⟨x - Γ.n0, by omega⟩
      have hj : j < A.ths.length := by omega
      have hji : j ≠ i := fun e => hx (by rw [e])
      rcases hI j hj hji with h | ⟨z', home', h⟩
      · rw [h] at hs; cases hs
      · rw [h] at hs; cases hs
        exact hji (hW.chansApart j i hj hi ((Seat.one_has.1 hc).symm.trans e1))
theorem Parked.seat {I : Inbs} {Γ : Gho} {A : Sys} {v : World} {i : Nat} {q : Left} (h : Parked Fin I Γ A v i q) : I (Γ.n0 + i) = none ∨ ∃ z home, I (Γ.n0 + i) = some (Seat.one (Γ.goes i) z false home) := by
  cases q with
  | inl k => obtain ⟨t, home, z, _, h, _⟩ := h; exact .inr ⟨z, home, h⟩
  | inr r => obtain ⟨t, _, _, h, _⟩ := h; exact .inl h
theorem run_hold_false {S S' : Addr → Prop} {h n : Nat} {I : Inbs} {Stop : Goroutine → World → Prop} {g : Goroutine} {v : World} (hb : (h == 0) = false) (hS : S' = S) (H : Hold Try.prog false S' Stop g v) (k : ∀ g w, Stop g w → Run Try.prog Done S h n I g w) : Run Try.prog Done S h n I g v := by
  subst hS
  exact Run.of_hold' (Stop := Stop) (by rw [hb]; exact H) k
/-- Main waits at its seat, while thread i goes; thread i goes to its next stop, and gives the turn back. -/
theorem resume (hF : Stable Fin) {n i : Nat} {zM : Value} {homeM : Goroutine → Prop} {Γm : Gho} {vm : World} {ps : List Left} {Γ0 : Gho} {v0 : World} {A0 : Sys} {I : Inbs}
    (hI0 : I 0 = some (Seat.one Γ0.back zM false homeM)) (hoth : ∀ j q, j ≠ i → ps[j]? = some q → Parked Fin I Γ0 A0 v0 j q) (hnone : ∀ x, x ≠ 0 → (x < Γ0.n0 ∨ Γ0.n0 + ps.length ≤ x) → I x = none)
    (hn0 : 0 < Γ0.n0) (hn : Γ0.n0 + ps.length = n) (hi : i < ps.length) (hm : MRely Γm vm Γ0 v0) {A' : Sys} {q : Left}
    (K : ∀ Γ' v' I' g₂ y, homeM g₂ → Ring1 Fin Γ' A' v' I' (ps.set i q) none → MRely Γm vm Γ' v' → A'.ths.length = ps.length → (∀ j, j ≠ i → URely j Γ0 v0 Γ' v') → Run Try.prog Done (SS Γ' A'.ths.length) 0 n I' (Conc.served g₂ y) v') :
    ∀ (p : Prog) (A : Sys) (g : Goroutine) (v : World), A.ths.length = ps.length → (∀ j, j ≠ i → A.ths[j]? = A0.ths[j]?) → p.go i A = some (A', q) → HP i (Fin i) p Γ0 v0 A g v →
      Run Try.prog Done (SS Γ0 ps.length) (Γ0.n0 + i) n I g v := by
  have hh0 : (Γ0.n0 + i == 0) = false := by simp; omega
  intro p
  induction p with
  | rd c k ih => exact fun A g v h1 h2 h3 h4 => ih _ A g v h1 h2 h3 h4
  | wr c x k ih => exact fun A g v h1 h2 h3 h4 => ih (A.put c x) g v h1 h2 h3 h4
  | stk k ih => exact fun A g v h1 h2 h3 h4 => ih _ A g v h1 h2 h3 h4
  | out => intro A g v h1 h2 h3; cases h3
  | note op c a b k ih =>
    intro A g v h1 h2 h3 h4
    unfold Prog.go at h3
    split at h3
    · rename_i hl
      exact ih (A.note i op c a b) g v h1 h2 h3 (h4 hl)
    · cases h3
  | bump c k ih =>
    intro A g v h1 h2 h3 h4
    unfold Prog.go at h3
    split at h3
    · rename_i hl
      exact ih (A.bump c) g v h1 h2 h3 (h4 hl)
    · cases h3
  | done r =>
    intro A g v h1 h2 h3 h4
    simp only [Prog.go, Option.some.injEq, Prod.mk.injEq] at h3
    obtain ⟨rfl, rfl⟩ := h3
    have h5 : Hold Try.prog false (SS Γ0 A.ths.length) _ g v := h4
    refine run_hold_false hh0 (by rw [h1]) h5 fun g1 v1 hst => ?_
    obtain ⟨Γ', hW', hG', hFin, hrun, a₂, x, z', hsend, m, hq⟩ := hst
    obtain ⟨s1, s2, s3, s4⟩ := hG'.same
    have hS : SS Γ0 ps.length = SS Γ' ps.length := ss_eq s1 fun j hj => (s4 j (by omega)).1
    obtain ⟨t, ht⟩ : ∃ t, A.ths[i]? = some t := ⟨A.ths[i]'(by omega), by simp⟩
    have hthl : (A.setSt i 3).ths.length = ps.length := by rw [setSt_set ht]; simpa using h1
    refine Run.give hrun a₂ 0 Γ'.back 0 (Seat.one Γ0.back zM false homeM) x zM z' #[] none (by omega) (by omega) hI0 (by rw [s2]; rfl) (fun wa hwa => ?_) (by simp) trivial ⟨by omega, m, hq⟩ fun g₂ cap k hhome hch => ?_
    · rw [hh0]
      exact hsend wa (by rw [h1, ← hS]; exact hwa)
    · obtain ⟨kf, hkf⟩ := hW'.back.1
      rw [hkf] at hch
      simp only [Option.some.injEq, Obj.chan.injEq] at hch
      obtain ⟨rfl, _, _, rfl, _, _⟩ := hch
      obtain ⟨c1, c2, c3⟩ := hW'.chan (k := kf) hW'.back.1 hW'.back.2.1
      have hS2 : SS Γ0 ps.length = SS Γ' (A.setSt i 3).ths.length := by rw [hthl]; exact hS
      rw [hS2]
      refine K Γ' _ _ g₂ _ hhome ⟨c1, by rw [hthl]; simp, by rw [s3]; exact hn0, fun j q' _ hj => ?_, fun y hy hr => ?_⟩ (hm.trans (hG'.mrely.trans (c2 i 0).mrely)) hthl fun j hj => (hG'.urely hj).trans (c3 j).urely
      · by_cases e : j = i
        · subst e
          rw [List.getElem?_set_self hi] at hj
          cases hj
          refine ⟨{ t with st := 3 }, ?_, rfl, ?_, hF.keep _ _ _ _ _ _ hFin (c3 j)⟩
          · rw [setSt_set ht]; simp [List.getElem?_set_self (show j < A.ths.length by omega)]
          · rw [s3]; exact upd_same _ _ _
        · rw [List.getElem?_set_ne (fun x => e x.symm)] at hj
          have hjl : j < ps.length := (List.getElem?_eq_some_iff.1 hj).1
          refine (hoth j q' e hj).keep hF ((hG'.rely (by omega) e).trans (c3 j)) (upd_ne _ _ (by omega)) ?_
          rw [setSt_set ht]
          rw [List.getElem?_set_ne (fun x => e x.symm)]
          exact h2 j e
      · rw [hthl, s3] at hr
        rw [upd_ne _ _ (by omega)]
        exact hnone y hy hr
  | wait st op c k _ =>
    intro A g v h1 h2 h3 h4
    simp only [Prog.go, Option.some.injEq, Prod.mk.injEq] at h3
    obtain ⟨rfl, rfl⟩ := h3
    have h5 : Hold Try.prog false (SS Γ0 A.ths.length) _ g v := h4
    refine run_hold_false hh0 (by rw [h1]) h5 fun g1 v1 hst => ?_
    obtain ⟨Γ', a₂, home, x, z, z', hW', hG', hrun, hsend, hrest, hcont⟩ := hst
    obtain ⟨s1, s2, s3, s4⟩ := hG'.same
    have hS : SS Γ0 ps.length = SS Γ' ps.length := ss_eq s1 fun j hj => (s4 j (by omega)).1
    have hthl : (A.park i st op c).ths.length = ps.length := by simpa [Sys.park] using h1
    have hj4 : ∀ j, j < ps.length → Γ'.goes j = Γ0.goes j := fun j hj => (s4 j (by omega)).2
    have hso : SeatOk I v1 (Γ'.n0 + i) (some (Seat.one (Γ'.goes i) z false home)) := by
      refine one_apart hW' (by omega) (by rw [s2]; exact hI0) (fun j hj hji => ?_) (fun y hy hr => hnone y hy (by rw [hthl, s3] at hr; exact hr))
      obtain ⟨q', hq'⟩ : ∃ q', ps[j]? = some q' := ⟨ps[j]'(by omega), by simp⟩
      rcases (hoth j q' hji hq').seat with h | ⟨z2, h2', h⟩
      · exact .inl (by rw [s3]; exact h)
      · exact .inr ⟨z2, h2', by rw [s3, h, hj4 j (by omega)]⟩
    rw [s3] at hso hrest
    refine Run.give hrun a₂ 0 Γ'.back 0 (Seat.one Γ0.back zM false homeM) x zM z' #[] (some (Seat.one (Γ'.goes i) z false home)) (by omega) (by omega) hI0 (by rw [s2]; rfl) (fun wa hwa => ?_) (by simp) hso ?_ fun g₂ cap k' hhome hch => ?_
    · rw [hh0]
      exact hsend wa (by rw [h1, ← hS]; exact hwa)
    · rw [h1, ← hS] at hrest
      exact hrest
    · obtain ⟨kf, hkf⟩ := hW'.back.1
      rw [hkf] at hch
      simp only [Option.some.injEq, Obj.chan.injEq] at hch
      obtain ⟨rfl, _, _, rfl, _, _⟩ := hch
      obtain ⟨c1, c2, c3⟩ := hW'.chan (k := kf) hW'.back.1 hW'.back.2.1
      have hS2 : SS Γ0 ps.length = SS Γ' (A.park i st op c).ths.length := by rw [hthl]; exact hS
      rw [hS2]
      refine K Γ' _ _ g₂ _ hhome ⟨c1, by rw [hthl]; simp, by rw [s3]; exact hn0, fun j q' _ hj => ?_, fun y hy hr => ?_⟩ (hm.trans (hG'.mrely.trans (c2 i 0).mrely)) hthl fun j hj => (hG'.urely hj).trans (c3 j).urely
      · by_cases e : j = i
        · subst e
          rw [List.getElem?_set_self hi] at hj
          cases hj
          refine ⟨⟨st, c, op, A.changed c⟩, home, z, ?_, ?_, fun g₃ Γ'' v'' A'' y s d1 d2 d3 d4 => hcont g₃ Γ'' v'' A'' y s d1 ((c3 j).trans d2) d3 d4⟩
          · simp [Sys.park, List.getElem?_set_self (show j < A.ths.length by omega)]
          · rw [s3]; exact upd_same _ _ _
        · rw [List.getElem?_set_ne (fun x => e x.symm)] at hj
          have hjl : j < ps.length := (List.getElem?_eq_some_iff.1 hj).1
          refine (hoth j q' e hj).keep hF ((hG'.rely (by omega) e).trans (c3 j)) (upd_ne _ _ (by omega)) ?_
          simp only [Sys.park, List.getElem?_set_ne (fun x => e x.symm : i ≠ j)]
          exact h2 j e
      · rw [hthl, s3] at hr
        rw [upd_ne _ _ (by omega)]
        exact hnone y hy hr
end
end Go.Proofs.Ytecdiejeofclaaa


/- Main's part in the turns: ready, pick. -/
namespace Go.Proofs.Ytecdiejeofclaaa
open Go Go.Conc
section
variable {S : Addr → Prop} {main : Bool} {Stop : Goroutine → World → Prop} {cs : List Frame} {c : Frame} {v v' : World} {Γ : Gho} {A : Sys}
theorem WI.grow (hW : WI Γ A v) (hg : Grow v v') : WI (Γ.ext v .main) A v' := hW.other (fun b hb _ => hg.same b hb) (hg.ready hW.ready) _
theorem WI.more (hW : WI Γ A v) (hg : Grow v v') : WI Γ A v' := by
  obtain ⟨sv, cv, tv, rv, hw, r1, r2, r3, r4, o1, o2, o3, o4, o5⟩ := hW.world
  have hfr : ∀ c, fresh v c → fresh v' c := fun c ⟨k, hk⟩ => ⟨k, hg.at hk⟩
  have hrow : ∀ {e : TypeId} {sz n : Nat} {x : Value} {xs : List Value}, v.ownsRow 0 e sz x n xs → v'.ownsRow 0 e sz x n xs := fun h => ownsRow_keep h fun b c _ hc => hg.same b (lt_of_heap hc)
  refine ⟨hg.ready hW.ready, ⟨sv, cv, tv, rv, hg.at hw, hrow r1, hrow r2, hrow r3, hrow r4, o1, o2, o3, o4, o5⟩, fun j t hj => ?_, ⟨hfr _ hW.back.1, hW.back.2⟩, fun c x hc => ?_, hW.used, hW.ints64, hW.chansApart, hW.backApart, hW.nc, hW.vals64⟩
  · obtain ⟨h1, h2, h3, h4⟩ := hW.th j t hj
    exact ⟨hg.at h1, hfr _ h2, h3, h4⟩
  · obtain ⟨h1, h2⟩ := hW.cells c x hc
    exact ⟨hg.at h1, h2⟩
theorem changed_hold (hW : WI Γ A v) (cell : Int) (H : ∀ v', Grow v v' → Hold Try.prog main S Stop (G (c.finish (.int .i64 (A.changed cell))) cs) v') :
    Hold Try.prog main S Stop (G (Frame.enter Try.prog 85 #[.pointer (some ⟨Γ.W, 0, none⟩), .int .i64 cell] .normal) (c :: cs)) v := by
  refine hold_callee lf_ok changed_fn changed_resok changed_ok hW.ready (R := fun x w' => (∃ t d, w' = v.re t d) ∧ x = .int .i64 (A.changed cell)) (fun t d => (changed_wi hW cell t d).mono fun x w' h => ⟨⟨t, d, h.1⟩, h.2⟩) ?_
  rintro _ _ ⟨⟨t', d', rfl⟩, rfl⟩ -
  exact H _ ((Grow.refl v).re t' d')
theorem tready_hold (hW : WI Γ A v) {j : Nat} {t : TSt} (ht : A.ths[j]? = some t) (H : ∀ v', Grow v v' → Hold Try.prog main S Stop (G (c.finish (.bool (A.readyB t))) cs) v') :
    Hold Try.prog main S Stop (G (Frame.enter Try.prog 83 #[.pointer (some ⟨Γ.tb j, 0, none⟩)] .normal) (c :: cs)) v := by
  obtain ⟨hti, hgi, hoi, hogi⟩ := hW.th j t ht
  obtain ⟨sv, cv, tv, rv, hw, _⟩ := id hW.world
  have hG := Grow.refl v
  obtain ⟨b, a, hEq, hb, hbf, hat⟩ := enter_is tready_fn tready_body tready_tmps #[.pointer (some ⟨Γ.tb j, 0, none⟩)] [(0, .pointer (some ⟨Γ.tb j, 0, none⟩))] rfl (by simp)
  rw [hEq]
  have hbk := not_early hb
  refine hold_unf tready_code_def <| hold_seq <| hold_region (l := [0]) rfl <| h_val noA hbk tready_0 rfl rfl (by decide) hat (r_assign rfl) fun a hat => hold_region_end <| hold_seq ?_
  by_cases h1 : t.st = 1
  · refine hold_draw3 (ord := [0,1,2,3,4,5,6,7,8,9,10,11,12,13,14,15,16,17,18,19,20,21,22,23,24,25,26,27,28,29,30,31,32,33,34,35,36,37]) (bigs := []) mixed_ok (by kernel_rfl) (by kernel_rfl) hat <| tx_val noA hbk tready_1 rfl rfl (by decide) rfl (fun v hv => (r_move rfl)) <| tx_val noA hbk tready_1 rfl rfl (by decide) rfl (fun v hv => (r_nil rfl)) <| tx_val noA hbk tready_1 rfl rfl (by decide) rfl (fun v hv => (r_field fk_76_3 rfl)) <| tx_val noA hbk tready_1 rfl rfl (by decide) rfl (fun v hv => (r_load ld_3 rfl (cell_at' (hv.at hti)))) <| tx_val noA hbk tready_1 rfl (opOk_eq (by kernel_rfl)) (by decide) rfl (fun v hv => (r_bool (t' := true) (r_eql rfl rfl) (by first | (simp; omega) | (simp; done) | (simp_all; done) | (simp_all; omega)))) <| tx_val noA hbk tready_1 rfl rfl (by decide) rfl (fun v hv => (r_move rfl)) <| tx_no tready_1 rfl (by decide) rfl rfl rfl rfl <| tx_no tready_1 rfl (by decide) rfl rfl rfl rfl ?_
    refine tx_no tready_1 rfl (by decide) rfl rfl rfl rfl <| tx_no tready_1 rfl (by decide) rfl rfl rfl rfl <| tx_no tready_1 rfl (by decide) rfl rfl rfl rfl <| tx_no tready_1 rfl (by decide) rfl rfl rfl rfl <| tx_no tready_1 rfl (by decide) rfl rfl rfl rfl <| tx_no tready_1 rfl (by decide) rfl rfl rfl rfl <| tx_no tready_1 rfl (by decide) rfl rfl rfl rfl <| tx_no tready_1 rfl (by decide) rfl rfl rfl rfl <| tx_no tready_1 rfl (by decide) rfl rfl rfl rfl <| tx_no tready_1 rfl (by decide) rfl rfl rfl rfl <| tx_no tready_1 rfl (by decide) rfl rfl rfl rfl <| tx_no tready_1 rfl (by decide) rfl rfl rfl rfl <| tx_no tready_1 rfl (by decide) rfl rfl rfl rfl ?_
    refine tx_no tready_1 rfl (by decide) rfl rfl rfl rfl <| tx_no tready_1 rfl (by decide) rfl rfl rfl rfl <| tx_no tready_1 rfl (by decide) rfl rfl rfl rfl <| tx_no tready_1 rfl (by decide) rfl rfl rfl rfl <| tx_no tready_1 rfl (by decide) rfl rfl rfl rfl <| tx_no tready_1 rfl (by decide) rfl rfl rfl rfl <| tx_no tready_1 rfl (by decide) rfl rfl rfl rfl <| tx_no tready_1 rfl (by decide) rfl rfl rfl rfl <| tx_no tready_1 rfl (by decide) rfl rfl rfl rfl <| tx_no tready_1 rfl (by decide) rfl rfl rfl rfl <| tx_no tready_1 rfl (by decide) rfl rfl rfl rfl <| tx_no tready_1 rfl (by decide) rfl rfl rfl rfl <| tx_no tready_1 rfl (by decide) rfl rfl rfl rfl ?_
    refine tx_no tready_1 rfl (by decide) rfl rfl rfl rfl <| tx_no tready_1 rfl (by decide) rfl rfl rfl rfl <| tx_val noA hbk tready_1 rfl rfl (by decide) rfl (fun v hv => (r_pick rfl rfl)) <| tx_val noA hbk tready_1 rfl rfl (by decide) rfl (fun v hv => (r_assign rfl)) <| tx_end fun v a hv hat => ?_
    replace hG := hG.trans hv
    replace hti := hv.at hti
    replace hw := hv.at hw
    refine hold_region_end ?_
    exact hold_retd hb hbf tready_fn hat.defers (ret_one tready_res hat rfl) (by have := H _ hG; rwa [show A.readyB t = true from by simp [Sys.readyB, h1]] at this)
  · by_cases h2 : t.st = 2
    · cases hs : A.stuck with
      | true =>
        rw [hs] at hw
        refine hold_draw3 (ord := [0,1,2,3,4,5,6,7,8,9,10,11,12,13,14,15,16,17,18,19,20,21,22,23,24,25,26,27,28,29,30,31,32,33,34,35,36,37]) (bigs := []) mixed_ok (by kernel_rfl) (by kernel_rfl) hat <| tx_val noA hbk tready_1 rfl rfl (by decide) rfl (fun v hv => (r_move rfl)) <| tx_val noA hbk tready_1 rfl rfl (by decide) rfl (fun v hv => (r_nil rfl)) <| tx_val noA hbk tready_1 rfl rfl (by decide) rfl (fun v hv => (r_field fk_76_3 rfl)) <| tx_val noA hbk tready_1 rfl rfl (by decide) rfl (fun v hv => (r_load ld_3 rfl (cell_at' (hv.at hti)))) <| tx_val noA hbk tready_1 rfl (opOk_eq (by kernel_rfl)) (by decide) rfl (fun v hv => (r_bool (t' := false) (r_eql rfl rfl) (by first | (simp; omega) | (simp; done) | (simp_all; done) | (simp_all; omega)))) <| tx_val noA hbk tready_1 rfl rfl (by decide) rfl (fun v hv => (r_move rfl)) <| tx_yes noA hbk tready_1 rfl rfl (by decide) rfl rfl rfl (fun v hv => (r_move rfl)) ?_
        refine tx_yes noA hbk tready_1 rfl rfl (by decide) rfl rfl rfl (fun v hv => (r_nil rfl)) <| tx_yes noA hbk tready_1 rfl rfl (by decide) rfl rfl rfl (fun v hv => (r_field fk_76_3 rfl)) <| tx_yes noA hbk tready_1 rfl rfl (by decide) rfl rfl rfl (fun v hv => (r_load ld_3 rfl (cell_at' (hv.at hti)))) <| tx_yes noA hbk tready_1 rfl (opOk_eq (by kernel_rfl)) (by decide) rfl rfl rfl (fun v hv => (r_bool (t' := true) (r_eql rfl rfl) (by first | (simp; omega) | (simp; done) | (simp_all; done) | (simp_all; omega)))) <| tx_yes noA hbk tready_1 rfl rfl (by decide) rfl rfl rfl (fun v hv => (r_move rfl)) <| tx_yes noA hbk tready_1 rfl rfl (by decide) rfl rfl rfl (fun v hv => (r_move rfl)) <| tx_yes noA hbk tready_1 rfl rfl (by decide) rfl rfl rfl (fun v hv => (r_nil rfl)) <| tx_yes noA hbk tready_1 rfl rfl (by decide) rfl rfl rfl (fun v hv => (r_field fk_76_0 rfl)) <| tx_yes noA hbk tready_1 rfl rfl (by decide) rfl rfl rfl (fun v hv => (r_load ld_32 rfl (cell_at' (hv.at hti)))) ?_
        refine tx_yes noA hbk tready_1 rfl rfl (by decide) rfl rfl rfl (fun v hv => (r_nil rfl)) <| tx_yes noA hbk tready_1 rfl rfl (by decide) rfl rfl rfl (fun v hv => (r_field fk_74_6 rfl)) <| tx_yes noA hbk tready_1 rfl rfl (by decide) rfl rfl rfl (fun v hv => (r_load ld_4 rfl (cell_at' (hv.at hw)))) <| tx_yes noA hbk tready_1 rfl rfl (by decide) rfl rfl rfl (fun v hv => (r_move rfl)) <| tx_no tready_1 rfl (by decide) rfl rfl rfl rfl <| tx_no tready_1 rfl (by decide) rfl rfl rfl rfl <| tx_no tready_1 rfl (by decide) rfl rfl rfl rfl <| tx_no tready_1 rfl (by decide) rfl rfl rfl rfl <| tx_no tready_1 rfl (by decide) rfl rfl rfl rfl <| tx_no tready_1 rfl (by decide) rfl rfl rfl rfl <| tx_no tready_1 rfl (by decide) rfl rfl rfl rfl <| tx_no tready_1 rfl (by decide) rfl rfl rfl rfl <| tx_no tready_1 rfl (by decide) rfl rfl rfl rfl ?_
        refine tx_no tready_1 rfl (by decide) rfl rfl rfl rfl <| tx_no tready_1 rfl (by decide) rfl rfl rfl rfl <| tx_no tready_1 rfl (by decide) rfl rfl rfl rfl <| tx_no tready_1 rfl (by decide) rfl rfl rfl rfl <| tx_no tready_1 rfl (by decide) rfl rfl rfl rfl <| tx_yes noA hbk tready_1 rfl rfl (by decide) rfl rfl rfl (fun v hv => (r_pick rfl rfl)) <| tx_yes noA hbk tready_1 rfl rfl (by decide) rfl rfl rfl (fun v hv => (r_pick rfl rfl)) <| tx_val noA hbk tready_1 rfl rfl (by decide) rfl (fun v hv => (r_pick rfl rfl)) <| tx_val noA hbk tready_1 rfl rfl (by decide) rfl (fun v hv => (r_assign rfl)) <| tx_end fun v a hv hat => ?_
        replace hG := hG.trans hv
        replace hti := hv.at hti
        replace hw := hv.at hw
        refine hold_region_end ?_
        exact hold_retd hb hbf tready_fn hat.defers (ret_one tready_res hat rfl) (by have := H _ hG; rwa [show A.readyB t = true from by simp [Sys.readyB, h2, hs]] at this)
      | false =>
        rw [hs] at hw
        by_cases h3 : A.changed t.cell = t.seen
        · skip
          refine hold_draw3 (ord := [0,1,2,3,4,5,6,7,8,9,10,11,12,13,14,15,16,17,18,19,20,21,22,23,24,25,26,27,28,29,30,31,32,33,34,35,36,37]) (bigs := []) mixed_ok (by kernel_rfl) (by kernel_rfl) hat <| tx_val noA hbk tready_1 rfl rfl (by decide) rfl (fun v hv => (r_move rfl)) <| tx_val noA hbk tready_1 rfl rfl (by decide) rfl (fun v hv => (r_nil rfl)) <| tx_val noA hbk tready_1 rfl rfl (by decide) rfl (fun v hv => (r_field fk_76_3 rfl)) <| tx_val noA hbk tready_1 rfl rfl (by decide) rfl (fun v hv => (r_load ld_3 rfl (cell_at' (hv.at hti)))) <| tx_val noA hbk tready_1 rfl (opOk_eq (by kernel_rfl)) (by decide) rfl (fun v hv => (r_bool (t' := false) (r_eql rfl rfl) (by first | (simp; omega) | (simp; done) | (simp_all; done) | (simp_all; omega)))) <| tx_val noA hbk tready_1 rfl rfl (by decide) rfl (fun v hv => (r_move rfl)) <| tx_yes noA hbk tready_1 rfl rfl (by decide) rfl rfl rfl (fun v hv => (r_move rfl)) ?_
          refine tx_yes noA hbk tready_1 rfl rfl (by decide) rfl rfl rfl (fun v hv => (r_nil rfl)) <| tx_yes noA hbk tready_1 rfl rfl (by decide) rfl rfl rfl (fun v hv => (r_field fk_76_3 rfl)) <| tx_yes noA hbk tready_1 rfl rfl (by decide) rfl rfl rfl (fun v hv => (r_load ld_3 rfl (cell_at' (hv.at hti)))) <| tx_yes noA hbk tready_1 rfl (opOk_eq (by kernel_rfl)) (by decide) rfl rfl rfl (fun v hv => (r_bool (t' := true) (r_eql rfl rfl) (by first | (simp; omega) | (simp; done) | (simp_all; done) | (simp_all; omega)))) <| tx_yes noA hbk tready_1 rfl rfl (by decide) rfl rfl rfl (fun v hv => (r_move rfl)) <| tx_yes noA hbk tready_1 rfl rfl (by decide) rfl rfl rfl (fun v hv => (r_move rfl)) <| tx_yes noA hbk tready_1 rfl rfl (by decide) rfl rfl rfl (fun v hv => (r_nil rfl)) <| tx_yes noA hbk tready_1 rfl rfl (by decide) rfl rfl rfl (fun v hv => (r_field fk_76_0 rfl)) <| tx_yes noA hbk tready_1 rfl rfl (by decide) rfl rfl rfl (fun v hv => (r_load ld_32 rfl (cell_at' (hv.at hti)))) ?_
          refine tx_yes noA hbk tready_1 rfl rfl (by decide) rfl rfl rfl (fun v hv => (r_nil rfl)) <| tx_yes noA hbk tready_1 rfl rfl (by decide) rfl rfl rfl (fun v hv => (r_field fk_74_6 rfl)) <| tx_yes noA hbk tready_1 rfl rfl (by decide) rfl rfl rfl (fun v hv => (r_load ld_4 rfl (cell_at' (hv.at hw)))) <| tx_yes noA hbk tready_1 rfl rfl (by decide) rfl rfl rfl (fun v hv => (r_move rfl)) <| tx_yes noA hbk tready_1 rfl rfl (by decide) rfl rfl rfl (fun v hv => (r_move rfl)) <| tx_yes noA hbk tready_1 rfl rfl (by decide) rfl rfl rfl (fun v hv => (r_nil rfl)) <| tx_yes noA hbk tready_1 rfl rfl (by decide) rfl rfl rfl (fun v hv => (r_field fk_76_0 rfl)) <| tx_yes noA hbk tready_1 rfl rfl (by decide) rfl rfl rfl (fun v hv => (r_load ld_32 rfl (cell_at' (hv.at hti)))) <| tx_yes noA hbk tready_1 rfl rfl (by decide) rfl rfl rfl (fun v hv => (r_move rfl)) <| tx_yes noA hbk tready_1 rfl rfl (by decide) rfl rfl rfl (fun v hv => (r_nil rfl)) ?_
          refine tx_yes noA hbk tready_1 rfl rfl (by decide) rfl rfl rfl (fun v hv => (r_field fk_76_4 rfl)) <| tx_yes noA hbk tready_1 rfl rfl (by decide) rfl rfl rfl (fun v hv => (r_load ld_3 rfl (cell_at' (hv.at hti)))) <| tx_yes_call hbk tready_1 rfl rfl rfl rfl (by decide) changed_fn changed_bd changed_nm (vals := #[_, _]) rfl (fun v c cs hv K => changed_hold (hW.grow hv) _ K) <| tx_yes noA hbk tready_1 rfl rfl (by decide) rfl rfl rfl (fun v hv => (r_move rfl)) <| tx_yes noA hbk tready_1 rfl rfl (by decide) rfl rfl rfl (fun v hv => (r_nil rfl)) <| tx_yes noA hbk tready_1 rfl rfl (by decide) rfl rfl rfl (fun v hv => (r_field fk_76_6 rfl)) <| tx_yes noA hbk tready_1 rfl rfl (by decide) rfl rfl rfl (fun v hv => (r_load ld_3 rfl (cell_at' (hv.at hti)))) <| tx_yes noA hbk tready_1 rfl (opOk_eq (by kernel_rfl)) (by decide) rfl rfl rfl (fun v hv => (r_bool (t' := false) (r_neq rfl rfl) (by first | (simp; omega) | (simp; done) | (simp_all; done) | (simp_all; omega)))) ?_
          refine tx_yes noA hbk tready_1 rfl rfl (by decide) rfl rfl rfl (fun v hv => (r_pick rfl rfl)) <| tx_yes noA hbk tready_1 rfl rfl (by decide) rfl rfl rfl (fun v hv => (r_pick rfl rfl)) <| tx_val noA hbk tready_1 rfl rfl (by decide) rfl (fun v hv => (r_pick rfl rfl)) <| tx_val noA hbk tready_1 rfl rfl (by decide) rfl (fun v hv => (r_assign rfl)) <| tx_end fun v a hv hat => ?_
          replace hG := hG.trans hv
          replace hti := hv.at hti
          replace hw := hv.at hw
          refine hold_region_end ?_
          exact hold_retd hb hbf tready_fn hat.defers (ret_one tready_res hat rfl) (by have := H _ hG; rwa [show A.readyB t = false from by simp [Sys.readyB, h2, hs, h3]] at this)
        · skip
          refine hold_draw3 (ord := [0,1,2,3,4,5,6,7,8,9,10,11,12,13,14,15,16,17,18,19,20,21,22,23,24,25,26,27,28,29,30,31,32,33,34,35,36,37]) (bigs := []) mixed_ok (by kernel_rfl) (by kernel_rfl) hat <| tx_val noA hbk tready_1 rfl rfl (by decide) rfl (fun v hv => (r_move rfl)) <| tx_val noA hbk tready_1 rfl rfl (by decide) rfl (fun v hv => (r_nil rfl)) <| tx_val noA hbk tready_1 rfl rfl (by decide) rfl (fun v hv => (r_field fk_76_3 rfl)) <| tx_val noA hbk tready_1 rfl rfl (by decide) rfl (fun v hv => (r_load ld_3 rfl (cell_at' (hv.at hti)))) <| tx_val noA hbk tready_1 rfl (opOk_eq (by kernel_rfl)) (by decide) rfl (fun v hv => (r_bool (t' := false) (r_eql rfl rfl) (by first | (simp; omega) | (simp; done) | (simp_all; done) | (simp_all; omega)))) <| tx_val noA hbk tready_1 rfl rfl (by decide) rfl (fun v hv => (r_move rfl)) <| tx_yes noA hbk tready_1 rfl rfl (by decide) rfl rfl rfl (fun v hv => (r_move rfl)) ?_
          refine tx_yes noA hbk tready_1 rfl rfl (by decide) rfl rfl rfl (fun v hv => (r_nil rfl)) <| tx_yes noA hbk tready_1 rfl rfl (by decide) rfl rfl rfl (fun v hv => (r_field fk_76_3 rfl)) <| tx_yes noA hbk tready_1 rfl rfl (by decide) rfl rfl rfl (fun v hv => (r_load ld_3 rfl (cell_at' (hv.at hti)))) <| tx_yes noA hbk tready_1 rfl (opOk_eq (by kernel_rfl)) (by decide) rfl rfl rfl (fun v hv => (r_bool (t' := true) (r_eql rfl rfl) (by first | (simp; omega) | (simp; done) | (simp_all; done) | (simp_all; omega)))) <| tx_yes noA hbk tready_1 rfl rfl (by decide) rfl rfl rfl (fun v hv => (r_move rfl)) <| tx_yes noA hbk tready_1 rfl rfl (by decide) rfl rfl rfl (fun v hv => (r_move rfl)) <| tx_yes noA hbk tready_1 rfl rfl (by decide) rfl rfl rfl (fun v hv => (r_nil rfl)) <| tx_yes noA hbk tready_1 rfl rfl (by decide) rfl rfl rfl (fun v hv => (r_field fk_76_0 rfl)) <| tx_yes noA hbk tready_1 rfl rfl (by decide) rfl rfl rfl (fun v hv => (r_load ld_32 rfl (cell_at' (hv.at hti)))) ?_
          refine tx_yes noA hbk tready_1 rfl rfl (by decide) rfl rfl rfl (fun v hv => (r_nil rfl)) <| tx_yes noA hbk tready_1 rfl rfl (by decide) rfl rfl rfl (fun v hv => (r_field fk_74_6 rfl)) <| tx_yes noA hbk tready_1 rfl rfl (by decide) rfl rfl rfl (fun v hv => (r_load ld_4 rfl (cell_at' (hv.at hw)))) <| tx_yes noA hbk tready_1 rfl rfl (by decide) rfl rfl rfl (fun v hv => (r_move rfl)) <| tx_yes noA hbk tready_1 rfl rfl (by decide) rfl rfl rfl (fun v hv => (r_move rfl)) <| tx_yes noA hbk tready_1 rfl rfl (by decide) rfl rfl rfl (fun v hv => (r_nil rfl)) <| tx_yes noA hbk tready_1 rfl rfl (by decide) rfl rfl rfl (fun v hv => (r_field fk_76_0 rfl)) <| tx_yes noA hbk tready_1 rfl rfl (by decide) rfl rfl rfl (fun v hv => (r_load ld_32 rfl (cell_at' (hv.at hti)))) <| tx_yes noA hbk tready_1 rfl rfl (by decide) rfl rfl rfl (fun v hv => (r_move rfl)) <| tx_yes noA hbk tready_1 rfl rfl (by decide) rfl rfl rfl (fun v hv => (r_nil rfl)) ?_
          refine tx_yes noA hbk tready_1 rfl rfl (by decide) rfl rfl rfl (fun v hv => (r_field fk_76_4 rfl)) <| tx_yes noA hbk tready_1 rfl rfl (by decide) rfl rfl rfl (fun v hv => (r_load ld_3 rfl (cell_at' (hv.at hti)))) <| tx_yes_call hbk tready_1 rfl rfl rfl rfl (by decide) changed_fn changed_bd changed_nm (vals := #[_, _]) rfl (fun v c cs hv K => changed_hold (hW.grow hv) _ K) <| tx_yes noA hbk tready_1 rfl rfl (by decide) rfl rfl rfl (fun v hv => (r_move rfl)) <| tx_yes noA hbk tready_1 rfl rfl (by decide) rfl rfl rfl (fun v hv => (r_nil rfl)) <| tx_yes noA hbk tready_1 rfl rfl (by decide) rfl rfl rfl (fun v hv => (r_field fk_76_6 rfl)) <| tx_yes noA hbk tready_1 rfl rfl (by decide) rfl rfl rfl (fun v hv => (r_load ld_3 rfl (cell_at' (hv.at hti)))) <| tx_yes noA hbk tready_1 rfl (opOk_eq (by kernel_rfl)) (by decide) rfl rfl rfl (fun v hv => (r_bool (t' := true) (r_neq rfl rfl) (by first | (simp; omega) | (simp; done) | (simp_all; done) | (simp_all; omega)))) ?_
          refine tx_yes noA hbk tready_1 rfl rfl (by decide) rfl rfl rfl (fun v hv => (r_pick rfl rfl)) <| tx_yes noA hbk tready_1 rfl rfl (by decide) rfl rfl rfl (fun v hv => (r_pick rfl rfl)) <| tx_val noA hbk tready_1 rfl rfl (by decide) rfl (fun v hv => (r_pick rfl rfl)) <| tx_val noA hbk tready_1 rfl rfl (by decide) rfl (fun v hv => (r_assign rfl)) <| tx_end fun v a hv hat => ?_
          replace hG := hG.trans hv
          replace hti := hv.at hti
          replace hw := hv.at hw
          refine hold_region_end ?_
          exact hold_retd hb hbf tready_fn hat.defers (ret_one tready_res hat rfl) (by have := H _ hG; rwa [show A.readyB t = true from by simp [Sys.readyB, h2, hs, h3]] at this)
    · skip
      refine hold_draw3 (ord := [0,1,2,3,4,5,6,7,8,9,10,11,12,13,14,15,16,17,18,19,20,21,22,23,24,25,26,27,28,29,30,31,32,33,34,35,36,37]) (bigs := []) mixed_ok (by kernel_rfl) (by kernel_rfl) hat <| tx_val noA hbk tready_1 rfl rfl (by decide) rfl (fun v hv => (r_move rfl)) <| tx_val noA hbk tready_1 rfl rfl (by decide) rfl (fun v hv => (r_nil rfl)) <| tx_val noA hbk tready_1 rfl rfl (by decide) rfl (fun v hv => (r_field fk_76_3 rfl)) <| tx_val noA hbk tready_1 rfl rfl (by decide) rfl (fun v hv => (r_load ld_3 rfl (cell_at' (hv.at hti)))) <| tx_val noA hbk tready_1 rfl (opOk_eq (by kernel_rfl)) (by decide) rfl (fun v hv => (r_bool (t' := false) (r_eql rfl rfl) (by first | (simp; omega) | (simp; done) | (simp_all; done) | (simp_all; omega)))) <| tx_val noA hbk tready_1 rfl rfl (by decide) rfl (fun v hv => (r_move rfl)) <| tx_yes noA hbk tready_1 rfl rfl (by decide) rfl rfl rfl (fun v hv => (r_move rfl)) ?_
      refine tx_yes noA hbk tready_1 rfl rfl (by decide) rfl rfl rfl (fun v hv => (r_nil rfl)) <| tx_yes noA hbk tready_1 rfl rfl (by decide) rfl rfl rfl (fun v hv => (r_field fk_76_3 rfl)) <| tx_yes noA hbk tready_1 rfl rfl (by decide) rfl rfl rfl (fun v hv => (r_load ld_3 rfl (cell_at' (hv.at hti)))) <| tx_yes noA hbk tready_1 rfl (opOk_eq (by kernel_rfl)) (by decide) rfl rfl rfl (fun v hv => (r_bool (t' := false) (r_eql rfl rfl) (by first | (simp; omega) | (simp; done) | (simp_all; done) | (simp_all; omega)))) <| tx_yes noA hbk tready_1 rfl rfl (by decide) rfl rfl rfl (fun v hv => (r_move rfl)) <| tx_no tready_1 rfl (by decide) rfl rfl rfl rfl <| tx_no tready_1 rfl (by decide) rfl rfl rfl rfl <| tx_no tready_1 rfl (by decide) rfl rfl rfl rfl <| tx_no tready_1 rfl (by decide) rfl rfl rfl rfl <| tx_no tready_1 rfl (by decide) rfl rfl rfl rfl <| tx_no tready_1 rfl (by decide) rfl rfl rfl rfl ?_
      refine tx_no tready_1 rfl (by decide) rfl rfl rfl rfl <| tx_no tready_1 rfl (by decide) rfl rfl rfl rfl <| tx_no tready_1 rfl (by decide) rfl rfl rfl rfl <| tx_no tready_1 rfl (by decide) rfl rfl rfl rfl <| tx_no tready_1 rfl (by decide) rfl rfl rfl rfl <| tx_no tready_1 rfl (by decide) rfl rfl rfl rfl <| tx_no tready_1 rfl (by decide) rfl rfl rfl rfl <| tx_no tready_1 rfl (by decide) rfl rfl rfl rfl <| tx_no tready_1 rfl (by decide) rfl rfl rfl rfl <| tx_no tready_1 rfl (by decide) rfl rfl rfl rfl <| tx_no tready_1 rfl (by decide) rfl rfl rfl rfl <| tx_no tready_1 rfl (by decide) rfl rfl rfl rfl <| tx_no tready_1 rfl (by decide) rfl rfl rfl rfl ?_
      refine tx_no tready_1 rfl (by decide) rfl rfl rfl rfl <| tx_no tready_1 rfl (by decide) rfl rfl rfl rfl <| tx_no tready_1 rfl (by decide) rfl rfl rfl rfl <| tx_no tready_1 rfl (by decide) rfl rfl rfl rfl <| tx_yes noA hbk tready_1 rfl rfl (by decide) rfl rfl rfl (fun v hv => (r_pick rfl rfl)) <| tx_val noA hbk tready_1 rfl rfl (by decide) rfl (fun v hv => (r_pick rfl rfl)) <| tx_val noA hbk tready_1 rfl rfl (by decide) rfl (fun v hv => (r_assign rfl)) <| tx_end fun v a hv hat => ?_
      replace hG := hG.trans hv
      replace hti := hv.at hti
      replace hw := hv.at hw
      refine hold_region_end ?_
      exact hold_retd hb hbf tready_fn hat.defers (ret_one tready_res hat rfl) (by have := H _ hG; rwa [show A.readyB t = false from by simp [Sys.readyB, h1, h2]] at this)
end
end Go.Proofs.Ytecdiejeofclaaa


/- Main's part in the turns: pick. -/
namespace Go.Proofs.Ytecdiejeofclaaa
open Go Go.Conc
theorem tmod_fix {s m : Int} (hm : 0 < m) : (s.tmod m < 0 → s.tmod m + m = s % m) ∧ (¬ s.tmod m < 0 → s.tmod m = s % m) := by
  have h := Int.tmod_eq_emod (a := s) (b := m)
  have h1 := Int.emod_nonneg s (show m ≠ 0 by omega)
  have h2 := Int.emod_lt_of_pos s hm
  have h3 : (m.natAbs : Int) = m := by omega
  rw [h]
  split <;> constructor <;> intro h4 <;> omega
section
variable {S : Addr → Prop} {main : Bool} {Stop : Goroutine → World → Prop} {cs : List Frame} {c : Frame} {v v' : World} {Γ : Gho} {A : Sys}
/-- The world's own words are others. -/
theorem WI.setW (hW : WI Γ A v) {A' : Sys} (h1 : A'.sched = A.sched) (h2 : A'.cnt = A.cnt) (h3 : A'.vals = A.vals) (h4 : A'.trace = A.trace) (h5 : A'.ths = A.ths) (hu : A'.used ≤ A'.sched.length) {sv cv tv rv : Value}
    (hw : v.heap[Γ.W]? = some (.cells #[sv, .int .i64 A.used, .int .i64 A.last, cv, tv, rv, .bool A.stuck, .bool true, .chan (some Γ.back)] 74 (8, 9)))
    (hP : Puts v v' Γ.W (.cells #[sv, .int .i64 A'.used, .int .i64 A'.last, cv, tv, rv, .bool A'.stuck, .bool true, .chan (some Γ.back)] 74 (8, 9))) : WI Γ A' v' := by
  obtain ⟨y1, y2, y3, y4, y5, y6, y7, y8, y9, y10, y11, y12, y13, y14, y15⟩ := tys
  obtain ⟨sv', cv', tv', rv', hw', r1, r2, r3, r4, o1, o2, o3, o4, o5⟩ := hW.world
  rw [hw] at hw'
  simp only [Option.some.injEq, Obj.cells.injEq, and_true, Array.mk.injEq, List.cons.injEq, true_and] at hw'
  obtain ⟨rfl, rfl, rfl, rfl⟩ := hw'
  have keep : ∀ {b : Nat} {x : Array Value} {e : TypeId} {f : Nat × Nat}, v.heap[b]? = some (.cells x e f) → e ≠ 74 → v'.heap[b]? = v.heap[b]? := fun hb hne => hP.other _ (ne_of_types hb hw hne)
  have hch : ∀ c', fresh v c' → fresh v' c' := fun c' h => fresh_keep h (hP.other _ (ne_of_chan hw h))
  refine ⟨hP.ready hW.ready, ⟨sv, cv, tv, rv, hP.at_, ?_, ?_, ?_, ?_, o1, o2, o3, o4, o5⟩, fun j t hj => ?_, ⟨hch _ hW.back.1, hW.back.2⟩, fun c' x hc' => ?_, hu, by rw [h2]; exact hW.ints64, by rw [h5]; exact hW.chansApart, by rw [h5]; exact hW.backApart, by rw [h3, h2]; exact hW.nc, by rw [h3]; exact hW.vals64⟩
  · rw [h1]; exact ownsRow_keep r1 fun b _ _ hb => keep hb (by decide)
  · rw [h2]; exact ownsRow_keep r2 fun b _ _ hb => keep hb (by decide)
  · rw [h5]; exact ownsRow_keep r3 fun b _ _ hb => keep hb (by decide)
  · rw [h4]; exact ownsRow_keep r4 fun b _ _ hb => keep hb (by decide)
  · rw [h5] at hj
    obtain ⟨g1, g2, g3, g4⟩ := hW.th j t hj
    exact ⟨(keep g1 (by decide)).trans g1, hch _ g2, g3, g4⟩
  · rw [h3] at hc'
    obtain ⟨g1, g2⟩ := hW.cells c' x hc'
    exact ⟨(keep g1 (by decide)).trans g1, g2⟩
theorem row_at {te : TypeId} {lv : Value} {l : List Nat} {f : Nat → Value} (hrow : v.ownsRow 0 te 1 lv l.length (l.map f)) {k : Nat} (hk : k < l.length) :
    ∃ g cap, lv = .slice (some ⟨g, 0, none⟩) l.length cap ∧ v.cell? ⟨g, k, none⟩ = some (f (l.getD k 0)) := by
  obtain ⟨g, cap, h1, h2, _⟩ := ownsRow_at1 (i := k) (y := f (l.getD k 0)) hrow (by simp [hk, List.getD])
  exact ⟨g, cap, h1, h2⟩
theorem pick_loop (hW : WI Γ A v) {b : Frame} (hb : b.kind = .normal) (hbf : b.fn = 84) {k : List Item} {g cap : Nat} {l : List Nat} (hrow : v.ownsRow 0 41 1 (.slice (some ⟨g, 0, none⟩) l.length cap) l.length (l.map fun j => .pointer (some ⟨Γ.tb j, 0, none⟩))) (hids : ∀ j ∈ l, j < A.ths.length) (hlen : l.length ≤ 1000)
    (H1 : ∀ j v', Grow v v' → (l.find? fun (j : Nat) => decide (A.last < (j : Int))) = some j → Hold Try.prog main S Stop (G (c.finish (.pointer (some ⟨Γ.tb j, 0, none⟩))) cs) v')
    (H2 : ∀ v' a, Grow v v' → (l.find? fun (j : Nat) => decide (A.last < (j : Int))) = none → AtE 68 [] [(0, .pointer (some ⟨Γ.W, 0, none⟩)), (1, .slice (some ⟨g, 0, none⟩) l.length cap)] a → Hold Try.prog main S Stop (G (b.at a k) (c :: cs)) v') :
    ∀ (m i : Nat) (v1 : World) (a : Act), i + m = l.length → Grow v v1 → (∀ q, q < i → ¬ A.last < ((l.getD q 0 : Nat) : Int)) →
    AtE 68 [] [(50, .int .i64 i), (49, .int .i64 l.length), (48, .slice (some ⟨g, 0, none⟩) l.length cap), (0, .pointer (some ⟨Γ.W, 0, none⟩)), (1, .slice (some ⟨g, 0, none⟩) l.length cap)] a → Hold Try.prog main S Stop (G (b.at a (.code pick_L0 :: .inLoop pick_L0 :: .inBlock 0 :: k)) (c :: cs)) v1 := by
  have hbk := not_early hb
  obtain ⟨sv, cv, tv, rv, hw, _⟩ := id hW.world
  intro m
  induction m with
  | zero =>
    intro i v1 a hm hG hno hat
    obtain rfl : i = l.length := by omega
    refine hold_unf pick_L0_def <| hold_seq <| hold_region (l := [0]) rfl <| h_val noA hbk pick_8 rfl rfl (by decide) hat (r_bool (t' := false) (r_lss rfl rfl) (by first | (simp; omega) | (simp; done) | (simp_all; done) | (simp_all; omega))) fun a hat => hold_region_end <| hold_seq <| hold_condF (hat.eval (q := .tmp 51) rfl) rfl <| hold_exit (k' := _) rfl ?_
    refine H2 _ a hG ?_ (hat.sub (AtE.cons rfl (AtE.cons rfl (AtE.nil))))
    rw [List.find?_eq_none]
    intro x hx
    obtain ⟨q, hq, e⟩ := List.getElem_of_mem hx
    have := hno q hq
    simpa [List.getD, hq, e] using this
  | succ m ih =>
    intro i v1 a hm hG hno hat
    have hi : i < l.length := by omega
    obtain ⟨g', cap', e', hcell⟩ := row_at (f := fun j => .pointer (some ⟨Γ.tb j, 0, none⟩)) hrow hi
    simp only [Value.slice.injEq, Option.some.injEq, Addr.mk.injEq, true_and, and_true] at e'
    obtain ⟨rfl, rfl⟩ := e'
    have hgl : g < v.heap.size := (cell_low hcell)
    have hcell1 : v1.cell? ⟨g, i, none⟩ = some (.pointer (some ⟨Γ.tb (l.getD i 0), 0, none⟩)) := (cell_same (hG.same g hgl)).trans hcell
    have hmem : l.getD i 0 ∈ l := by simp [List.getD, hi]
    obtain ⟨t, ht⟩ : ∃ t, A.ths[l.getD i 0]? = some t := ⟨A.ths[l.getD i 0]'(hids _ hmem), by simp⟩
    obtain ⟨hti, _⟩ := hW.th _ t ht
    refine hold_unf pick_L0_def <| hold_seq <| hold_region (l := [0]) rfl <| h_val noA hbk pick_8 rfl rfl (by decide) hat (r_bool (t' := true) (r_lss rfl rfl) (by first | (simp; omega) | (simp; done) | (simp_all; done) | (simp_all; omega))) fun a hat => hold_region_end <| hold_seq <| hold_condT (hat.eval (q := .tmp 51) rfl) rfl <| hold_skip <| hold_seq <| hold_block <| hold_seq <| hold_region (l := [0,1,2]) rfl <| h_val noA hbk pick_9 rfl rfl (by decide) hat (r_index ix_72 rfl rfl (by omega) (by omega)) fun a hat => ?_
    refine h_val noA hbk pick_9 rfl rfl (by decide) hat (r_load ld_41 rfl (by simpa using hcell1)) fun a hat => h_val noA hbk pick_9 rfl rfl (by decide) hat (r_assign rfl) fun a hat => hold_region_end <| hold_seq ?_
    by_cases hlt : A.last < ((l.getD i 0 : Nat) : Int)
    · refine hold_draw3 (ord := [0,1,2,3,4,5,6,7,8]) (bigs := []) mixed_ok (by kernel_rfl) (by kernel_rfl) hat <| tx_val noA hbk pick_10 rfl rfl (by decide) rfl (fun v hv => (r_move rfl)) <| tx_val noA hbk pick_10 rfl rfl (by decide) rfl (fun v hv => (r_nil rfl)) <| tx_val noA hbk pick_10 rfl rfl (by decide) rfl (fun v hv => (r_field fk_76_1 rfl)) <| tx_val noA hbk pick_10 rfl rfl (by decide) rfl (fun v hv => (r_load ld_3 rfl (cell_at' (hv.at (hG.at hti))))) <| tx_val noA hbk pick_10 rfl rfl (by decide) rfl (fun v hv => (r_move rfl)) <| tx_val noA hbk pick_10 rfl rfl (by decide) rfl (fun v hv => (r_nil rfl)) <| tx_val noA hbk pick_10 rfl rfl (by decide) rfl (fun v hv => (r_field fk_74_2 rfl)) <| tx_val noA hbk pick_10 rfl rfl (by decide) rfl (fun v hv => (r_load ld_3 rfl (cell_at' (hv.at (hG.at hw))))) <| tx_val noA hbk pick_10 rfl rfl (by decide) rfl (fun v hv => (r_bool (t' := true) (r_gtr rfl rfl) (by first | (simp; omega) | (simp; done) | (simp_all; done) | (simp_all; omega)))) ?_
      refine tx_end fun v a hv hat => ?_
      replace hG := hG.trans hv
      refine hold_region_end <| hold_condT (hat.eval (q := .tmp 62) rfl) rfl <| hold_seq <| hold_region (l := [0,1]) rfl <| h_val noA hbk pick_11 rfl rfl (by decide) hat (r_move rfl) fun a hat => h_val noA hbk pick_11 rfl rfl (by decide) hat (r_assign rfl) fun a hat => hold_region_end ?_
      refine hold_retd hb hbf pick_fn hat.defers (ret_one pick_res hat rfl) (H1 (l.getD i 0) _ hG ?_)
      rw [List.find?_eq_some_iff_getElem]
      refine ⟨by simpa using hlt, i, hi, by simp [List.getD, hi], fun q hq => ?_⟩
      have := hno q hq
      simp only [List.getD, List.getElem?_eq_getElem (show q < l.length by omega), Option.getD_some] at this
      simpa using this
    · skip
      refine hold_draw3 (ord := [0,1,2,3,4,5,6,7,8]) (bigs := []) mixed_ok (by kernel_rfl) (by kernel_rfl) hat <| tx_val noA hbk pick_10 rfl rfl (by decide) rfl (fun v hv => (r_move rfl)) <| tx_val noA hbk pick_10 rfl rfl (by decide) rfl (fun v hv => (r_nil rfl)) <| tx_val noA hbk pick_10 rfl rfl (by decide) rfl (fun v hv => (r_field fk_76_1 rfl)) <| tx_val noA hbk pick_10 rfl rfl (by decide) rfl (fun v hv => (r_load ld_3 rfl (cell_at' (hv.at (hG.at hti))))) <| tx_val noA hbk pick_10 rfl rfl (by decide) rfl (fun v hv => (r_move rfl)) <| tx_val noA hbk pick_10 rfl rfl (by decide) rfl (fun v hv => (r_nil rfl)) <| tx_val noA hbk pick_10 rfl rfl (by decide) rfl (fun v hv => (r_field fk_74_2 rfl)) <| tx_val noA hbk pick_10 rfl rfl (by decide) rfl (fun v hv => (r_load ld_3 rfl (cell_at' (hv.at (hG.at hw))))) <| tx_val noA hbk pick_10 rfl rfl (by decide) rfl (fun v hv => (r_bool (t' := false) (r_gtr rfl rfl) (by first | (simp; omega) | (simp; done) | (simp_all; done) | (simp_all; omega)))) ?_
      refine tx_end fun v a hv hat => ?_
      replace hG := hG.trans hv
      refine hold_region_end <| hold_condF (hat.eval (q := .tmp 62) rfl) rfl <| hold_skip <| hold_inBlock <| hold_region (l := [0,1]) rfl <| h_val noA hbk pick_12 rfl rfl (by decide) hat (r_add rfl rfl (by first | omega | (simp; omega))) fun a hat => h_val noA hbk pick_12 rfl rfl (by decide) hat (r_move rfl) fun a hat => hold_region_end <| hold_inLoop ?_
      refine ih (i + 1) _ a (by omega) hG (fun q hq => ?_) (hat.sub (AtE.cons rfl (AtE.cons rfl (AtE.cons rfl (AtE.cons rfl (AtE.cons rfl (AtE.nil)))))))
      by_cases e : q = i
      · subst e; exact hlt
      · exact hno q (by omega)
end
end Go.Proofs.Ytecdiejeofclaaa


/- Main's part in the turns: pick, whole. -/
namespace Go.Proofs.Ytecdiejeofclaaa
open Go Go.Conc
section
variable {S : Addr → Prop} {main : Bool} {Stop : Goroutine → World → Prop} {cs : List Frame} {c : Frame} {v v' : World} {Γ : Gho} {A : Sys}
theorem pick_hold (hW : WI Γ A v) (h64 : ∀ x ∈ A.sched, -9223372036854775808 ≤ x ∧ x ≤ 9223372036854775807) (hsl : A.sched.length < 2 ^ 62) {lv : Value} {l : List Nat} (hl : l ≠ []) (hlen : l.length ≤ 1000) (hrow : v.ownsRow 0 41 1 lv l.length (l.map fun j => .pointer (some ⟨Γ.tb j, 0, none⟩))) (hids : ∀ j ∈ l, j < A.ths.length)
    (H : ∀ v', WI Γ (A.pick l).2 v' → (∀ b, b < v.heap.size → b ≠ Γ.W → v'.heap[b]? = v.heap[b]?) → v.heap.size ≤ v'.heap.size → Hold Try.prog main S Stop (G (c.finish (.pointer (some ⟨Γ.tb (A.pick l).1, 0, none⟩))) cs) v') :
    Hold Try.prog main S Stop (G (Frame.enter Try.prog 84 #[.pointer (some ⟨Γ.W, 0, none⟩), lv] .normal) (c :: cs)) v := by
  have hpos : 0 < l.length := by cases l with
    | nil => exact absurd rfl hl
    | cons _ _ => simp
  obtain ⟨sv, cv, tv, rv, hw, r1, r2, r3, r4, o1, o2, o3, o4, o5⟩ := id hW.world
  obtain ⟨g, cap, rfl, hc0⟩ := row_at (f := fun j => .pointer (some ⟨Γ.tb j, 0, none⟩)) hrow hpos
  have hused := hW.used
  obtain ⟨asv, caps, hsv⟩ := ownsRow_slice r1
  subst hsv
  have hG := Grow.refl v
  obtain ⟨b, a, hEq, hb, hbf, hat⟩ := enter_is pick_fn pick_body pick_tmps #[.pointer (some ⟨Γ.W, 0, none⟩), .slice (some ⟨g, 0, none⟩) l.length cap] [(0, .pointer (some ⟨Γ.W, 0, none⟩)), (1, .slice (some ⟨g, 0, none⟩) l.length cap)] rfl (by simp)
  rw [hEq]
  have hbk := not_early hb
  refine hold_unf pick_code_def <| hold_seq <| hold_region (l := [0]) rfl <| h_val noA hbk pick_0 rfl rfl (by decide) hat (r_assign rfl) fun a hat => hold_region_end <| hold_seq <| hold_seq ?_
  by_cases hlt : A.used < A.sched.length
  · have hs : A.sched[A.used]? = some A.sched[A.used] := by simp [hlt]
    generalize hsx : A.sched[A.used] = s at hs
    have hs64 := h64 s (List.mem_of_getElem? hs)
    obtain ⟨gs, caps', e', hcs, _, _⟩ := ownsRow_at1 (i := A.used) (y := .int .i64 s) r1 (by simp [ints, hs])
    simp only [Value.slice.injEq, true_and] at e'
    obtain ⟨rfl, rfl⟩ := e'
    have hgl := cell_low hcs
    have htm := tmod_fix (s := s) (m := l.length) (by omega)
    have h1 := Int.tmod_lt_of_pos s (show (0 : Int) < l.length by omega)
    have h2 : -(l.length : Int) < s.tmod l.length := Int.lt_tmod_of_pos s (by omega)
    have hm0 := Int.emod_nonneg s (show (l.length : Int) ≠ 0 by omega)
    have hm1 := Int.emod_lt_of_pos s (show (0 : Int) < l.length by omega)
    have hpk : A.pick l = (l.getD (s % l.length).toNat 0, { A with used := A.used + 1 }) := by simp [Sys.pick, hs]
    rw [hpk] at H
    obtain ⟨g2, cap2, e2, hc2⟩ := row_at (f := fun j => .pointer (some ⟨Γ.tb j, 0, none⟩)) hrow (show (s % l.length).toNat < l.length by omega)
    simp only [Value.slice.injEq, Option.some.injEq, Addr.mk.injEq, true_and, and_true] at e2
    obtain ⟨rfl, rfl⟩ := e2
    have hgl2 := cell_low hc2
    have hne : g ≠ Γ.W := fun e => by
      rcases hrow.2 with ⟨h, _⟩ | ⟨g', _, _, h, _, hg', _⟩
      · cases h
      · cases h; exact ne_of_types hg' hw (by decide) e
    refine hold_draw3 (ord := [0,1,2,3,4,5,6,7,8,9]) (bigs := []) mixed_ok (by kernel_rfl) (by kernel_rfl) hat <| tx_val noA hbk pick_1 rfl rfl (by decide) rfl (fun v hv => (r_move rfl)) <| tx_val noA hbk pick_1 rfl rfl (by decide) rfl (fun v hv => (r_nil rfl)) <| tx_val noA hbk pick_1 rfl rfl (by decide) rfl (fun v hv => (r_field fk_74_1 rfl)) <| tx_val noA hbk pick_1 rfl rfl (by decide) rfl (fun v hv => (r_load ld_3 rfl (cell_at' (hv.at (hG.at hw))))) <| tx_val noA hbk pick_1 rfl rfl (by decide) rfl (fun v hv => (r_move rfl)) <| tx_val noA hbk pick_1 rfl rfl (by decide) rfl (fun v hv => (r_nil rfl)) <| tx_val noA hbk pick_1 rfl rfl (by decide) rfl (fun v hv => (r_field fk_74_0 rfl)) <| tx_val noA hbk pick_1 rfl rfl (by decide) rfl (fun v hv => (r_load ld_35 rfl (cell_at' (hv.at (hG.at hw))))) <| tx_val noA hbk pick_1 rfl rfl (by decide) rfl (fun v hv => (r_len lk_35 rfl)) <| tx_val noA hbk pick_1 rfl rfl (by decide) rfl (fun v hv => (r_bool (t' := true) (r_lss rfl rfl) (by first | (simp; omega) | (simp; done) | (simp_all; done) | (simp_all; omega)))) ?_
    refine tx_end fun v a hv hat => ?_
    replace hG := hG.trans hv
    refine hold_region_end <| hold_condT (hat.eval (q := .tmp 17) rfl) rfl <| hold_seq <| hold_draw3 (ord := [0,1,2,3,4,5,6,7,8,9,10,11,12,13]) (bigs := []) mixed_ok (by kernel_rfl) (by kernel_rfl) hat <| tx_val noA hbk pick_2 rfl rfl (by decide) rfl (fun v hv => (r_move rfl)) <| tx_val noA hbk pick_2 rfl rfl (by decide) rfl (fun v hv => (r_nil rfl)) <| tx_val noA hbk pick_2 rfl rfl (by decide) rfl (fun v hv => (r_field fk_74_0 rfl)) <| tx_val noA hbk pick_2 rfl rfl (by decide) rfl (fun v hv => (r_load ld_35 rfl (cell_at' (hv.at (hG.at hw))))) <| tx_val noA hbk pick_2 rfl rfl (by decide) rfl (fun v hv => (r_move rfl)) <| tx_val noA hbk pick_2 rfl rfl (by decide) rfl (fun v hv => (r_nil rfl)) <| tx_val noA hbk pick_2 rfl rfl (by decide) rfl (fun v hv => (r_field fk_74_1 rfl)) <| tx_val noA hbk pick_2 rfl rfl (by decide) rfl (fun v hv => (r_load ld_3 rfl (cell_at' (hv.at (hG.at hw))))) <| tx_val noA hbk pick_2 rfl rfl (by decide) rfl (fun v hv => (r_index ix_35 rfl rfl (by omega) (by omega))) ?_
    refine tx_val noA hbk pick_2 rfl rfl (by decide) rfl (fun v hv => (r_load ld_3 rfl (by rw [show (0 : Nat) + (A.used : Int).toNat * 1 = A.used by omega]; exact (cell_same ((hG.trans hv).same _ hgl)).trans hcs))) <| tx_val noA hbk pick_2 rfl rfl (by decide) rfl (fun v hv => (r_move rfl)) <| tx_val noA hbk pick_2 rfl rfl (by decide) rfl (fun v hv => (r_len lk_72 rfl)) <| tx_val noA hbk pick_2 rfl rfl (by decide) rfl (fun v hv => (r_rem rfl rfl (by omega))) <| tx_val noA hbk pick_2 rfl rfl (by decide) rfl (fun v hv => (r_assign rfl)) <| tx_end fun v a hv hat => ?_
    replace hG := hG.trans hv
    refine hold_region_end <| hold_seq <| hold_region (l := [0,1,2,3,4,5,6,7]) rfl <| h_val noA hbk pick_3 rfl rfl (by decide) hat (r_move rfl) fun a hat => h_val noA hbk pick_3 rfl rfl (by decide) hat (r_nil rfl) fun a hat => h_val noA hbk pick_3 rfl rfl (by decide) hat (r_field fk_74_1 rfl) fun a hat => h_val noA hbk pick_3 rfl rfl (by decide) hat (r_load ld_3 rfl (cell_at' (hG.at hw))) fun a hat => h_val noA hbk pick_3 rfl rfl (by decide) hat (r_add rfl rfl (by first | omega | (simp; omega))) fun a hat => h_val noA hbk pick_3 rfl rfl (by decide) hat (r_nil rfl) fun a hat => h_val noA hbk pick_3 rfl rfl (by decide) hat (r_field fk_74_1 rfl) fun a hat => h_put noA hbk pick_3 rfl rfl hat (p_store st_3 rfl rfl rfl (hG.at hw) rfl rfl) fun v1 a hP hwx hat => ?_
    simp only [List.setIfInBounds_toArray, List.set_cons_succ, List.set_cons_zero] at hwx
    have hW1 : WI Γ { A with used := A.used + 1 } v1 := (hW.more hG).setW rfl rfl rfl rfl rfl (show A.used + 1 ≤ A.sched.length from hlt) (hG.at hw) ⟨hP.size, by rw [hwx]; simp, hP.other, hP.ready⟩
    have hoth : ∀ b, b < _ → b ≠ Γ.W → v1.heap[b]? = _ := fun b hb hbW => (hP.other b hbW).trans (hG.same b hb)
    have hsz1 := Nat.le_trans hG.size (Nat.le_of_eq hP.size.symm)
    have hcell : ∀ v2, Grow v1 v2 → v2.cell? ⟨g, (s % l.length).toNat, none⟩ = some (.pointer (some ⟨Γ.tb (l.getD (s % l.length).toNat 0), 0, none⟩)) := fun v2 hg2 => (cell_same ((hg2.same g (Nat.lt_of_lt_of_le hgl2 hsz1)).trans (hoth g hgl2 hne))).trans hc2
    refine hold_region_end <| hold_seq <| hold_seq <| hold_region (l := [0,1]) rfl <| h_val noA hbk pick_4 rfl rfl (by decide) hat (r_move rfl) fun a hat => ?_
    by_cases hneg : s.tmod l.length < 0
    · have e := htm.1 hneg
      refine h_val noA hbk pick_4 rfl rfl (by decide) hat (r_bool (t' := true) (r_lss rfl rfl) (by first | (simp; omega) | (simp; done) | (simp_all; done) | (simp_all; omega))) fun a hat => hold_region_end <| hold_condT (hat.eval (q := .tmp 39) rfl) rfl <| hold_region (l := [0,1,2,3,4]) rfl <| h_val noA hbk pick_5 rfl rfl (by decide) hat (r_move rfl) fun a hat => h_val noA hbk pick_5 rfl rfl (by decide) hat (r_move rfl) fun a hat => h_val noA hbk pick_5 rfl rfl (by decide) hat (r_len lk_72 rfl) fun a hat => h_val noA hbk pick_5 rfl rfl (by decide) hat (r_add rfl rfl (by first | omega | (simp; omega))) fun a hat => h_val noA hbk pick_5 rfl rfl (by decide) hat (r_assign rfl) fun a hat => hold_region_end <| hold_seq <| hold_region (l := [0,1,2,3,4]) rfl <| h_val noA hbk pick_6 rfl rfl (by decide) hat (r_move rfl) fun a hat => ?_
      refine h_val noA hbk pick_6 rfl rfl (by decide) hat (r_move rfl) fun a hat => h_val noA hbk pick_6 rfl rfl (by decide) hat (r_index ix_72 rfl rfl (by omega) (by omega)) fun a hat => h_val noA hbk pick_6 rfl rfl (by decide) hat (r_load ld_41 rfl (by rw [show 0 + (s.tmod ↑l.length + ↑l.length).toNat * 1 = (s % l.length).toNat by omega]; exact hcell _ (Grow.refl _))) fun a hat => h_val noA hbk pick_6 rfl rfl (by decide) hat (r_assign rfl) fun a hat => hold_region_end ?_
      exact hold_retd hb hbf pick_fn hat.defers (ret_one pick_res hat rfl) (H v1 hW1 hoth hsz1)
    · have e := htm.2 hneg
      refine h_val noA hbk pick_4 rfl rfl (by decide) hat (r_bool (t' := false) (r_lss rfl rfl) (by first | (simp; omega) | (simp; done) | (simp_all; done) | (simp_all; omega))) fun a hat => hold_region_end <| hold_condF (hat.eval (q := .tmp 39) rfl) rfl <| hold_skip <| hold_seq <| hold_region (l := [0,1,2,3,4]) rfl <| h_val noA hbk pick_6 rfl rfl (by decide) hat (r_move rfl) fun a hat => h_val noA hbk pick_6 rfl rfl (by decide) hat (r_move rfl) fun a hat => h_val noA hbk pick_6 rfl rfl (by decide) hat (r_index ix_72 rfl rfl (by omega) (by omega)) fun a hat => h_val noA hbk pick_6 rfl rfl (by decide) hat (r_load ld_41 rfl (by rw [show 0 + (s.tmod ↑l.length).toNat * 1 = (s % l.length).toNat by omega]; exact hcell _ (Grow.refl _))) fun a hat => h_val noA hbk pick_6 rfl rfl (by decide) hat (r_assign rfl) fun a hat => hold_region_end ?_
      exact hold_retd hb hbf pick_fn hat.defers (ret_one pick_res hat rfl) (H v1 hW1 hoth hsz1)
  · have hs : A.sched[A.used]? = none := by simp; omega
    have hpk : A.pick l = (((l.find? fun (j : Nat) => decide (A.last < (j : Int)))).getD (l.headD 0), A) := by simp [Sys.pick, hs]
    rw [hpk] at H
    have hgl0 := cell_low hc0
    refine hold_draw3 (ord := [0,1,2,3,4,5,6,7,8,9]) (bigs := []) mixed_ok (by kernel_rfl) (by kernel_rfl) hat <| tx_val noA hbk pick_1 rfl rfl (by decide) rfl (fun v hv => (r_move rfl)) <| tx_val noA hbk pick_1 rfl rfl (by decide) rfl (fun v hv => (r_nil rfl)) <| tx_val noA hbk pick_1 rfl rfl (by decide) rfl (fun v hv => (r_field fk_74_1 rfl)) <| tx_val noA hbk pick_1 rfl rfl (by decide) rfl (fun v hv => (r_load ld_3 rfl (cell_at' (hv.at (hG.at hw))))) <| tx_val noA hbk pick_1 rfl rfl (by decide) rfl (fun v hv => (r_move rfl)) <| tx_val noA hbk pick_1 rfl rfl (by decide) rfl (fun v hv => (r_nil rfl)) <| tx_val noA hbk pick_1 rfl rfl (by decide) rfl (fun v hv => (r_field fk_74_0 rfl)) <| tx_val noA hbk pick_1 rfl rfl (by decide) rfl (fun v hv => (r_load ld_35 rfl (cell_at' (hv.at (hG.at hw))))) <| tx_val noA hbk pick_1 rfl rfl (by decide) rfl (fun v hv => (r_len lk_35 rfl)) <| tx_val noA hbk pick_1 rfl rfl (by decide) rfl (fun v hv => (r_bool (t' := false) (r_lss rfl rfl) (by first | (simp; omega) | (simp; done) | (simp_all; done) | (simp_all; omega)))) ?_
    refine tx_end fun v a hv hat => ?_
    replace hG := hG.trans hv
    refine hold_region_end <| hold_condF (hat.eval (q := .tmp 17) rfl) rfl <| hold_skip <| hold_seq <| hold_seq <| hold_region (l := [0,1,2]) rfl <| h_val noA hbk pick_7 rfl rfl (by decide) hat (r_move rfl) fun a hat => h_val noA hbk pick_7 rfl rfl (by decide) hat (r_len lk_72 rfl) fun a hat => h_val noA hbk pick_7 rfl rfl (by decide) hat (r_move rfl) fun a hat => hold_region_end <| hold_block <| hold_loop ?_
    refine pick_loop hW hb hbf hrow hids hlen (fun j v' hg hf => ?_) (fun v' a hg hf hat => ?_) l.length 0 _ a (by omega) hG (fun q hq => by omega) (hat.sub (AtE.cons rfl (AtE.cons rfl (AtE.cons rfl (AtE.cons rfl (AtE.cons rfl (AtE.nil)))))))
    · rw [hf] at H
      exact H v' (hW.more hg) (fun b hb _ => hg.same b hb) hg.size
    · rw [hf] at H
      refine hold_seq <| hold_region (l := [0,1,2,3]) rfl <| h_val noA hbk pick_13 rfl rfl (by decide) hat (r_move rfl) fun a hat => h_val noA hbk pick_13 rfl rfl (by decide) hat (r_index ix_72 rfl rfl (by omega) (by omega)) fun a hat => h_val noA hbk pick_13 rfl rfl (by decide) hat (r_load ld_41 rfl (by rw [show (0 : Nat) + (0 : Int).toNat * 1 = 0 by rfl]; exact (cell_same (hg.same g hgl0)).trans hc0)) fun a hat => h_val noA hbk pick_13 rfl rfl (by decide) hat (r_assign rfl) fun a hat => hold_region_end <| hold_retd hb hbf pick_fn hat.defers (ret_one pick_res hat rfl) ?_
      have := H v' (hW.more hg) (fun b hb _ => hg.same b hb) hg.size
      rw [show (none : Option Nat).getD (l.headD 0) = l.getD 0 0 from by cases l <;> rfl] at this
      exact this
end
end Go.Proofs.Ytecdiejeofclaaa


/- Main's part in the turns: the walk over the threads. -/
namespace Go.Proofs.Ytecdiejeofclaaa
open Go Go.Conc
theorem sim_unre {S : Addr → Prop} {v w : World} {t : Tp} {d : Nat} (x : Sim false S (v.re t d) w) : Sim false S v w := ⟨x.os, x.output, x.size, x.block, x.still, x.ready⟩
theorem Run.re {P : Program} {Done : Goroutine → World → Prop} {S : Addr → Prop} {h n : Nat} {I : Inbs} {g : Goroutine} {v : World} (H : Run P Done S h n I g v) : ∀ (t : Tp) (d : Nat), Run P Done S h n I g (v.re t d) := by
  induction H with
  | fin hI h => exact fun t d => .fin hI h
  | own hr gn wn hs hh _ => exact fun t d => .own hr gn wn hs hh
  | grow hr S' gn wn hsub hnew hs hh _ => exact fun t d => .grow hr S' gn wn hsub hnew hs hh
  | swap S' v' hI hs hh _ => exact fun t d => .swap S' v' hI (fun wa hwa => hs wa (sim_unre hwa)) hh
  | give hr a₂ j c kk s x z z' es o hjh hjn hj hk hsend hes ho hrest hh ih =>
    exact fun t d => .give hr a₂ j c kk s x z z' es o hjh hjn hj hk (fun wa hwa => hsend wa (sim_unre hwa)) hes ho hrest fun g₂ cap k h1 h2 => ih g₂ cap k h1 h2 t d
  | hire hr a' child es o hgo hes hnew ho hrest hh ih =>
    exact fun t d => .hire hr a' child es o (fun wa hwa => hgo wa (sim_unre hwa)) hes hnew ho hrest (ih t d)
theorem hold_run {P : Program} {Done : Goroutine → World → Prop} {S S' : Addr → Prop} {main : Bool} {h n : Nat} {I : Inbs} {g : Goroutine} {v : World} (H : Run P Done S h n I g v) : Hold P main S' (fun g w => Run P Done S h n I g w) g v := .stop _ _ fun t d => H.re t d
namespace Sys
def readyAt (A : Sys) (j : Nat) : Bool := match A.ths[j]? with
  | some t => A.readyB t
  | none => false
def readyTo (A : Sys) (i : Nat) : List Nat := (List.range i).filter A.readyAt
def waitsTo (A : Sys) (i : Nat) : Bool := (List.range i).any fun j => match A.ths[j]? with
  | some t => t.st == 2
  | none => false
theorem readyTo_all (A : Sys) : A.readyTo A.ths.length = A.readyL := rfl
theorem waitsTo_all (A : Sys) : A.waitsTo A.ths.length = A.waits := by
  unfold waitsTo waits
  rw [Bool.eq_iff_iff, List.any_eq_true, List.any_eq_true]
  constructor
  · rintro ⟨j, hj, h⟩
    have hj' : j < A.ths.length := by simpa using hj
    rw [List.getElem?_eq_getElem hj'] at h
    exact ⟨_, List.getElem_mem hj', h⟩
  · rintro ⟨t, ht, h⟩
    obtain ⟨j, hj, rfl⟩ := List.getElem_of_mem ht
    exact ⟨j, by simpa using hj, by rw [List.getElem?_eq_getElem hj]; exact h⟩
theorem readyTo_succ (A : Sys) (i : Nat) : A.readyTo (i + 1) = A.readyTo i ++ if A.readyAt i then [i] else [] := by
  unfold readyTo
  rw [List.range_succ, List.filter_append]
  congr 1
  by_cases h : A.readyAt i = true <;> simp [h]
theorem waitsTo_succ (A : Sys) (i : Nat) : A.waitsTo (i + 1) = (A.waitsTo i || match A.ths[i]? with
  | some t => t.st == 2
  | none => false) := by
  unfold waitsTo
  rw [List.range_succ, List.any_append]
  simp
theorem readyTo_le (A : Sys) (i : Nat) : (A.readyTo i).length ≤ i := by
  unfold readyTo
  exact Nat.le_trans (List.length_filter_le _ _) (by simp)
end Sys
section
variable {S : Addr → Prop} {main : Bool} {Stop : Goroutine → World → Prop} {cs : List Frame} {v : World} {Γ : Gho} {A : Sys}
abbrev tbV (Γ : Gho) (j : Nat) : Value := .pointer (some ⟨Γ.tb j, 0, none⟩)
theorem turn_loop (hW : WI Γ A v) {b : Frame} (hbk : b.kind ≠ .early) {k : List Item} {n : Nat} (hn : A.ths.length = n) (hn8 : n ≤ 1000) {g cap : Nat} (hrow : v.ownsRow 0 41 1 (.slice (some ⟨g, 0, none⟩) n cap) n ((List.range n).map (tbV Γ)))
    (H : ∀ v' a lv, Grow v v' → v'.ownsRow 0 41 1 lv A.readyL.length (A.readyL.map (tbV Γ)) → (∀ b, lv.ownBlock = some b → v.heap.size ≤ b) → AtE 73 [] [(4, .bool A.waits), (3, lv), (0, .pointer (some ⟨Γ.W, 0, none⟩))] a → Hold Try.prog main S Stop (G (b.at a k) cs) v') :
    ∀ (m i : Nat) (v1 : World) (a : Act) (lv : Value), i + m = n → Grow v v1 → v1.ownsRow 0 41 1 lv (A.readyTo i).length ((A.readyTo i).map (tbV Γ)) → (∀ b, lv.ownBlock = some b → v.heap.size ≤ b) →
    AtE 73 [] [(13, .int .i64 i), (12, .int .i64 n), (11, .slice (some ⟨g, 0, none⟩) n cap), (4, .bool (A.waitsTo i)), (3, lv), (0, .pointer (some ⟨Γ.W, 0, none⟩))] a → Hold Try.prog main S Stop (G (b.at a (.code turn_L0 :: .inLoop turn_L0 :: .inBlock 0 :: k)) cs) v1 := by
  intro m
  induction m with
  | zero =>
    intro i v1 a lv hm hG hown hlb hat
    obtain rfl : i = n := by omega
    refine hold_unf turn_L0_def <| hold_seq <| hold_region (l := [0]) rfl <| h_val noA hbk turn_4 rfl rfl (by decide) hat (r_bool (t' := false) (r_lss rfl rfl) (by first | (simp; omega) | (simp; done) | (simp_all; done) | (simp_all; omega))) fun a hat => hold_region_end <| hold_seq <| hold_condF (hat.eval (q := .tmp 14) rfl) rfl <| hold_exit (k' := _) rfl ?_
    subst hn
    rw [A.readyTo_all] at hown
    rw [A.waitsTo_all] at hat
    exact H _ a lv hG hown hlb (hat.sub (AtE.cons rfl (AtE.cons rfl (AtE.cons rfl (AtE.nil)))))
  | succ m ih =>
    intro i v1 a lv hm hG hown hlb hat
    have hi : i < A.ths.length := by omega
    have hL8 := A.readyTo_le i
    obtain ⟨t, ht⟩ : ∃ t, A.ths[i]? = some t := ⟨A.ths[i], by simp [hi]⟩
    obtain ⟨hti, _⟩ := hW.th i t ht
    have hra : A.readyAt i = A.readyB t := by unfold Sys.readyAt; rw [ht]
    have hcell : v.cell? ⟨g, i, none⟩ = some (tbV Γ i) := by
      obtain ⟨g', cap', e', h1, _⟩ := ownsRow_at1 (i := i) (y := tbV Γ i) hrow (by rw [List.getElem?_map, List.getElem?_range (by omega)]; rfl)
      cases e'; exact h1
    have hgl := cell_low hcell
    have h63 : (A.readyTo i).length + 1 ≤ maxLen := Nat.le_trans (show _ ≤ 1001 by omega) (by decide)
    have hRs := A.readyTo_succ i
    have hWs := A.waitsTo_succ i
    rw [ht] at hWs
    simp only [] at hWs
    refine hold_unf turn_L0_def <| hold_seq <| hold_region (l := [0]) rfl <| h_val noA hbk turn_4 rfl rfl (by decide) hat (r_bool (t' := true) (r_lss rfl rfl) (by first | (simp; omega) | (simp; done) | (simp_all; done) | (simp_all; omega))) fun a hat => hold_region_end <| hold_seq <| hold_condT (hat.eval (q := .tmp 14) rfl) rfl <| hold_skip <| hold_seq <| hold_block <| hold_seq <| hold_region (l := [0,1,2]) rfl <| h_val noA hbk turn_5 rfl rfl (by decide) hat (r_index ix_72 rfl rfl (by omega) (by omega)) fun a hat => ?_
    refine h_val noA hbk turn_5 rfl rfl (by decide) hat (r_load ld_41 rfl (by simpa using (cell_same (hG.same g hgl)).trans hcell)) fun a hat => h_val noA hbk turn_5 rfl rfl (by decide) hat (r_assign rfl) fun a hat => hold_region_end <| hold_seq <| hold_seq <| hold_region (l := [0,1]) rfl <| h_val noA hbk turn_6 rfl rfl (by decide) hat (r_move rfl) fun a hat => ?_
    cases hr : A.readyB t with
    | true =>
      cases hwt : A.waitsTo i with
      | true =>
        rw [hwt] at hat
        refine h_callc hbk turn_6 rfl (by decide) hat tready_fn tready_bd tready_nm (vals := #[_]) rfl fun c hc => tready_hold (hW.more hG) ht fun v2 hg2 => ?_
        rw [hr]
        refine hold_fin hc fun a hat => ?_
        replace hG := hG.trans hg2
        replace hown : v2.ownsRow 0 _ 1 lv _ _ := ownsRow_keep hown fun b c _ hb => hg2.same b (lt_of_heap hb)
        refine hold_region_end <| hold_condT (hat.eval (q := .tmp 18) rfl) rfl <| hold_region (l := [0,1,2,3,4]) rfl <| h_val noA hbk turn_7 rfl rfl (by decide) hat (r_move rfl) fun a hat => h_val noA hbk turn_7 rfl rfl (by decide) hat (r_move rfl) fun a hat => h_news noA hbk turn_7 rfl rfl (by decide) hat (bs_72_1_0 rfl rfl) fun v a B21 hB21 hsB21 hg F21 hat => ?_
        replace hG := hG.trans hg
        replace hown := ownsRow_keep hown fun b c _ hb => hg.same b (lt_of_heap hb)
        refine h_app noA hbk turn_7 rfl (by decide) hat ek_72 (hG.ready hW.ready) hown rfl rfl F21 rfl (by simp [Value.oneCell']) (by decide) h63 (by omega) fun g2 cap2 v3 a hAp hat => ?_
        obtain ⟨hG, hlb⟩ := hAp.grow hG hlb
        have hown := hAp.owns
        refine h_val noA hbk turn_7 rfl rfl (by decide) hat (r_assign rfl) fun a hat => hold_region_end <| hold_region (l := [0,1,2,3,4,5,6,7,8]) rfl <| h_val noA hbk turn_8 rfl rfl (by decide) hat (r_move rfl) fun a hat => h_val noA hbk turn_8 rfl rfl (by decide) hat (r_move rfl) fun a hat => hg_no turn_8 rfl rfl rfl rfl (by decide) hat fun a hat => hg_no turn_8 rfl rfl rfl rfl (by decide) hat fun a hat => hg_no turn_8 rfl rfl rfl rfl (by decide) hat fun a hat => hg_no turn_8 rfl rfl rfl rfl (by decide) hat fun a hat => hg_no turn_8 rfl rfl rfl rfl (by decide) hat fun a hat => h_val noA hbk turn_8 rfl rfl (by decide) hat (r_pick rfl rfl) fun a hat => h_val noA hbk turn_8 rfl rfl (by decide) hat (r_assign rfl) fun a hat => hold_region_end ?_
        refine hold_inBlock <| hold_region (l := [0,1]) rfl <| h_val noA hbk turn_9 rfl rfl (by decide) hat (r_add rfl rfl (by first | omega | (simp; omega))) fun a hat => h_val noA hbk turn_9 rfl rfl (by decide) hat (r_move rfl) fun a hat => hold_region_end <| hold_inLoop ?_
        rw [hra] at hRs
        rw [hr, if_pos rfl] at hRs
        rw [hwt] at hWs
        simp at hWs
        refine ih (i + 1) _ a _ (by omega) hG ?_ hlb ?_
        · rw [hRs, List.map_append, List.length_append]; exact hown
        · rw [hWs]; exact hat.sub (AtE.cons rfl (AtE.cons rfl (AtE.cons rfl (AtE.cons rfl (AtE.cons rfl (AtE.cons rfl (AtE.nil)))))))
      | false =>
        rw [hwt] at hat
        by_cases hst : t.st = 2
        · skip
          refine h_callc hbk turn_6 rfl (by decide) hat tready_fn tready_bd tready_nm (vals := #[_]) rfl fun c hc => tready_hold (hW.more hG) ht fun v2 hg2 => ?_
          rw [hr]
          refine hold_fin hc fun a hat => ?_
          replace hG := hG.trans hg2
          replace hown : v2.ownsRow 0 _ 1 lv _ _ := ownsRow_keep hown fun b c _ hb => hg2.same b (lt_of_heap hb)
          refine hold_region_end <| hold_condT (hat.eval (q := .tmp 18) rfl) rfl <| hold_region (l := [0,1,2,3,4]) rfl <| h_val noA hbk turn_7 rfl rfl (by decide) hat (r_move rfl) fun a hat => h_val noA hbk turn_7 rfl rfl (by decide) hat (r_move rfl) fun a hat => h_news noA hbk turn_7 rfl rfl (by decide) hat (bs_72_1_0 rfl rfl) fun v a B21 hB21 hsB21 hg F21 hat => ?_
          replace hG := hG.trans hg
          replace hown := ownsRow_keep hown fun b c _ hb => hg.same b (lt_of_heap hb)
          refine h_app noA hbk turn_7 rfl (by decide) hat ek_72 (hG.ready hW.ready) hown rfl rfl F21 rfl (by simp [Value.oneCell']) (by decide) h63 (by omega) fun g2 cap2 v3 a hAp hat => ?_
          obtain ⟨hG, hlb⟩ := hAp.grow hG hlb
          have hown := hAp.owns
          refine h_val noA hbk turn_7 rfl rfl (by decide) hat (r_assign rfl) fun a hat => hold_region_end <| hold_region (l := [0,1,2,3,4,5,6,7,8]) rfl <| h_val noA hbk turn_8 rfl rfl (by decide) hat (r_move rfl) fun a hat => h_val noA hbk turn_8 rfl rfl (by decide) hat (r_move rfl) fun a hat => hg_yes noA hbk turn_8 rfl rfl rfl rfl (by decide) hat (r_move rfl) fun a hat => hg_yes noA hbk turn_8 rfl rfl rfl rfl (by decide) hat (r_nil rfl) fun a hat => hg_yes noA hbk turn_8 rfl rfl rfl rfl (by decide) hat (r_field fk_76_3 rfl) fun a hat => hg_yes noA hbk turn_8 rfl rfl rfl rfl (by decide) hat (r_load ld_3 rfl (cell_at' (hG.at hti))) fun a hat => hg_yes noA hbk turn_8 rfl rfl rfl (opOk_eq (by kernel_rfl)) (by decide) hat (r_bool (t' := true) (r_eql rfl rfl) (by first | (simp; omega) | (simp; done) | (simp_all; done) | (simp_all; omega))) fun a hat => h_val noA hbk turn_8 rfl rfl (by decide) hat (r_pick rfl rfl) fun a hat => ?_
          refine h_val noA hbk turn_8 rfl rfl (by decide) hat (r_assign rfl) fun a hat => hold_region_end <| hold_inBlock <| hold_region (l := [0,1]) rfl <| h_val noA hbk turn_9 rfl rfl (by decide) hat (r_add rfl rfl (by first | omega | (simp; omega))) fun a hat => h_val noA hbk turn_9 rfl rfl (by decide) hat (r_move rfl) fun a hat => hold_region_end <| hold_inLoop ?_
          rw [hra] at hRs
          rw [hr, if_pos rfl] at hRs
          rw [hwt, show (t.st == 2) = true from by simp [hst]] at hWs
          simp at hWs
          refine ih (i + 1) _ a _ (by omega) hG ?_ hlb ?_
          · rw [hRs, List.map_append, List.length_append]; exact hown
          · rw [hWs]; exact hat.sub (AtE.cons rfl (AtE.cons rfl (AtE.cons rfl (AtE.cons rfl (AtE.cons rfl (AtE.cons rfl (AtE.nil)))))))
        · skip
          refine h_callc hbk turn_6 rfl (by decide) hat tready_fn tready_bd tready_nm (vals := #[_]) rfl fun c hc => tready_hold (hW.more hG) ht fun v2 hg2 => ?_
          rw [hr]
          refine hold_fin hc fun a hat => ?_
          replace hG := hG.trans hg2
          replace hown : v2.ownsRow 0 _ 1 lv _ _ := ownsRow_keep hown fun b c _ hb => hg2.same b (lt_of_heap hb)
          refine hold_region_end <| hold_condT (hat.eval (q := .tmp 18) rfl) rfl <| hold_region (l := [0,1,2,3,4]) rfl <| h_val noA hbk turn_7 rfl rfl (by decide) hat (r_move rfl) fun a hat => h_val noA hbk turn_7 rfl rfl (by decide) hat (r_move rfl) fun a hat => h_news noA hbk turn_7 rfl rfl (by decide) hat (bs_72_1_0 rfl rfl) fun v a B21 hB21 hsB21 hg F21 hat => ?_
          replace hG := hG.trans hg
          replace hown := ownsRow_keep hown fun b c _ hb => hg.same b (lt_of_heap hb)
          refine h_app noA hbk turn_7 rfl (by decide) hat ek_72 (hG.ready hW.ready) hown rfl rfl F21 rfl (by simp [Value.oneCell']) (by decide) h63 (by omega) fun g2 cap2 v3 a hAp hat => ?_
          obtain ⟨hG, hlb⟩ := hAp.grow hG hlb
          have hown := hAp.owns
          refine h_val noA hbk turn_7 rfl rfl (by decide) hat (r_assign rfl) fun a hat => hold_region_end <| hold_region (l := [0,1,2,3,4,5,6,7,8]) rfl <| h_val noA hbk turn_8 rfl rfl (by decide) hat (r_move rfl) fun a hat => h_val noA hbk turn_8 rfl rfl (by decide) hat (r_move rfl) fun a hat => hg_yes noA hbk turn_8 rfl rfl rfl rfl (by decide) hat (r_move rfl) fun a hat => hg_yes noA hbk turn_8 rfl rfl rfl rfl (by decide) hat (r_nil rfl) fun a hat => hg_yes noA hbk turn_8 rfl rfl rfl rfl (by decide) hat (r_field fk_76_3 rfl) fun a hat => hg_yes noA hbk turn_8 rfl rfl rfl rfl (by decide) hat (r_load ld_3 rfl (cell_at' (hG.at hti))) fun a hat => hg_yes noA hbk turn_8 rfl rfl rfl (opOk_eq (by kernel_rfl)) (by decide) hat (r_bool (t' := false) (r_eql rfl rfl) (by first | (simp; omega) | (simp; done) | (simp_all; done) | (simp_all; omega))) fun a hat => h_val noA hbk turn_8 rfl rfl (by decide) hat (r_pick rfl rfl) fun a hat => ?_
          refine h_val noA hbk turn_8 rfl rfl (by decide) hat (r_assign rfl) fun a hat => hold_region_end <| hold_inBlock <| hold_region (l := [0,1]) rfl <| h_val noA hbk turn_9 rfl rfl (by decide) hat (r_add rfl rfl (by first | omega | (simp; omega))) fun a hat => h_val noA hbk turn_9 rfl rfl (by decide) hat (r_move rfl) fun a hat => hold_region_end <| hold_inLoop ?_
          rw [hra] at hRs
          rw [hr, if_pos rfl] at hRs
          rw [hwt, show (t.st == 2) = false from by simp [hst]] at hWs
          simp at hWs
          refine ih (i + 1) _ a _ (by omega) hG ?_ hlb ?_
          · rw [hRs, List.map_append, List.length_append]; exact hown
          · rw [hWs]; exact hat.sub (AtE.cons rfl (AtE.cons rfl (AtE.cons rfl (AtE.cons rfl (AtE.cons rfl (AtE.cons rfl (AtE.nil)))))))
    | false =>
      cases hwt : A.waitsTo i with
      | true =>
        rw [hwt] at hat
        refine h_callc hbk turn_6 rfl (by decide) hat tready_fn tready_bd tready_nm (vals := #[_]) rfl fun c hc => tready_hold (hW.more hG) ht fun v2 hg2 => ?_
        rw [hr]
        refine hold_fin hc fun a hat => ?_
        replace hG := hG.trans hg2
        replace hown : v2.ownsRow 0 _ 1 lv _ _ := ownsRow_keep hown fun b c _ hb => hg2.same b (lt_of_heap hb)
        refine hold_region_end <| hold_condF (hat.eval (q := .tmp 18) rfl) rfl <| hold_skip <| hold_region (l := [0,1,2,3,4,5,6,7,8]) rfl <| h_val noA hbk turn_8 rfl rfl (by decide) hat (r_move rfl) fun a hat => h_val noA hbk turn_8 rfl rfl (by decide) hat (r_move rfl) fun a hat => hg_no turn_8 rfl rfl rfl rfl (by decide) hat fun a hat => hg_no turn_8 rfl rfl rfl rfl (by decide) hat fun a hat => hg_no turn_8 rfl rfl rfl rfl (by decide) hat fun a hat => hg_no turn_8 rfl rfl rfl rfl (by decide) hat fun a hat => hg_no turn_8 rfl rfl rfl rfl (by decide) hat fun a hat => h_val noA hbk turn_8 rfl rfl (by decide) hat (r_pick rfl rfl) fun a hat => h_val noA hbk turn_8 rfl rfl (by decide) hat (r_assign rfl) fun a hat => ?_
        refine hold_region_end <| hold_inBlock <| hold_region (l := [0,1]) rfl <| h_val noA hbk turn_9 rfl rfl (by decide) hat (r_add rfl rfl (by first | omega | (simp; omega))) fun a hat => h_val noA hbk turn_9 rfl rfl (by decide) hat (r_move rfl) fun a hat => hold_region_end <| hold_inLoop ?_
        rw [hra] at hRs
        rw [hr, if_neg (by simp), List.append_nil] at hRs
        rw [hwt] at hWs
        simp at hWs
        refine ih (i + 1) _ a lv (by omega) hG (by rw [hRs]; exact hown) hlb ?_
        rw [hWs]; exact hat.sub (AtE.cons rfl (AtE.cons rfl (AtE.cons rfl (AtE.cons rfl (AtE.cons rfl (AtE.cons rfl (AtE.nil)))))))
      | false =>
        rw [hwt] at hat
        by_cases hst : t.st = 2
        · skip
          refine h_callc hbk turn_6 rfl (by decide) hat tready_fn tready_bd tready_nm (vals := #[_]) rfl fun c hc => tready_hold (hW.more hG) ht fun v2 hg2 => ?_
          rw [hr]
          refine hold_fin hc fun a hat => ?_
          replace hG := hG.trans hg2
          replace hown : v2.ownsRow 0 _ 1 lv _ _ := ownsRow_keep hown fun b c _ hb => hg2.same b (lt_of_heap hb)
          refine hold_region_end <| hold_condF (hat.eval (q := .tmp 18) rfl) rfl <| hold_skip <| hold_region (l := [0,1,2,3,4,5,6,7,8]) rfl <| h_val noA hbk turn_8 rfl rfl (by decide) hat (r_move rfl) fun a hat => h_val noA hbk turn_8 rfl rfl (by decide) hat (r_move rfl) fun a hat => hg_yes noA hbk turn_8 rfl rfl rfl rfl (by decide) hat (r_move rfl) fun a hat => hg_yes noA hbk turn_8 rfl rfl rfl rfl (by decide) hat (r_nil rfl) fun a hat => hg_yes noA hbk turn_8 rfl rfl rfl rfl (by decide) hat (r_field fk_76_3 rfl) fun a hat => hg_yes noA hbk turn_8 rfl rfl rfl rfl (by decide) hat (r_load ld_3 rfl (cell_at' (hG.at hti))) fun a hat => hg_yes noA hbk turn_8 rfl rfl rfl (opOk_eq (by kernel_rfl)) (by decide) hat (r_bool (t' := true) (r_eql rfl rfl) (by first | (simp; omega) | (simp; done) | (simp_all; done) | (simp_all; omega))) fun a hat => h_val noA hbk turn_8 rfl rfl (by decide) hat (r_pick rfl rfl) fun a hat => ?_
          refine h_val noA hbk turn_8 rfl rfl (by decide) hat (r_assign rfl) fun a hat => hold_region_end <| hold_inBlock <| hold_region (l := [0,1]) rfl <| h_val noA hbk turn_9 rfl rfl (by decide) hat (r_add rfl rfl (by first | omega | (simp; omega))) fun a hat => h_val noA hbk turn_9 rfl rfl (by decide) hat (r_move rfl) fun a hat => hold_region_end <| hold_inLoop ?_
          rw [hra] at hRs
          rw [hr, if_neg (by simp), List.append_nil] at hRs
          rw [hwt, show (t.st == 2) = true from by simp [hst]] at hWs
          simp at hWs
          refine ih (i + 1) _ a lv (by omega) hG (by rw [hRs]; exact hown) hlb ?_
          rw [hWs]; exact hat.sub (AtE.cons rfl (AtE.cons rfl (AtE.cons rfl (AtE.cons rfl (AtE.cons rfl (AtE.cons rfl (AtE.nil)))))))
        · skip
          refine h_callc hbk turn_6 rfl (by decide) hat tready_fn tready_bd tready_nm (vals := #[_]) rfl fun c hc => tready_hold (hW.more hG) ht fun v2 hg2 => ?_
          rw [hr]
          refine hold_fin hc fun a hat => ?_
          replace hG := hG.trans hg2
          replace hown : v2.ownsRow 0 _ 1 lv _ _ := ownsRow_keep hown fun b c _ hb => hg2.same b (lt_of_heap hb)
          refine hold_region_end <| hold_condF (hat.eval (q := .tmp 18) rfl) rfl <| hold_skip <| hold_region (l := [0,1,2,3,4,5,6,7,8]) rfl <| h_val noA hbk turn_8 rfl rfl (by decide) hat (r_move rfl) fun a hat => h_val noA hbk turn_8 rfl rfl (by decide) hat (r_move rfl) fun a hat => hg_yes noA hbk turn_8 rfl rfl rfl rfl (by decide) hat (r_move rfl) fun a hat => hg_yes noA hbk turn_8 rfl rfl rfl rfl (by decide) hat (r_nil rfl) fun a hat => hg_yes noA hbk turn_8 rfl rfl rfl rfl (by decide) hat (r_field fk_76_3 rfl) fun a hat => hg_yes noA hbk turn_8 rfl rfl rfl rfl (by decide) hat (r_load ld_3 rfl (cell_at' (hG.at hti))) fun a hat => hg_yes noA hbk turn_8 rfl rfl rfl (opOk_eq (by kernel_rfl)) (by decide) hat (r_bool (t' := false) (r_eql rfl rfl) (by first | (simp; omega) | (simp; done) | (simp_all; done) | (simp_all; omega))) fun a hat => h_val noA hbk turn_8 rfl rfl (by decide) hat (r_pick rfl rfl) fun a hat => ?_
          refine h_val noA hbk turn_8 rfl rfl (by decide) hat (r_assign rfl) fun a hat => hold_region_end <| hold_inBlock <| hold_region (l := [0,1]) rfl <| h_val noA hbk turn_9 rfl rfl (by decide) hat (r_add rfl rfl (by first | omega | (simp; omega))) fun a hat => h_val noA hbk turn_9 rfl rfl (by decide) hat (r_move rfl) fun a hat => hold_region_end <| hold_inLoop ?_
          rw [hra] at hRs
          rw [hr, if_neg (by simp), List.append_nil] at hRs
          rw [hwt, show (t.st == 2) = false from by simp [hst]] at hWs
          simp at hWs
          refine ih (i + 1) _ a lv (by omega) hG (by rw [hRs]; exact hown) hlb ?_
          rw [hWs]; exact hat.sub (AtE.cons rfl (AtE.cons rfl (AtE.cons rfl (AtE.cons rfl (AtE.cons rfl (AtE.cons rfl (AtE.nil)))))))
end
end Go.Proofs.Ytecdiejeofclaaa


/- Main's part in the turns: turn. -/
namespace Go.Proofs.Ytecdiejeofclaaa
open Go Go.Conc
open Go.ConcN (upd upd_ne upd_same)
theorem iw_seq {P : Program} {main : Bool} {S : Addr → Prop} {κ : Addr → Option Value} {s : Seat} {n : Nat} {b : Frame} {a : Act} {k : List Item} {cs : List Frame} {x y : Code} (H : IW P main S κ s n (G (b.at a (.code x :: .code y :: k)) cs)) : IW P main S κ s (n + 1) (G (b.at a (.code (.seq x y) :: k)) cs) :=
  iw_same rfl (fun w => by simp [G, stepG, stepG.exec, Frame.at]) H
namespace Sys
theorem pick_ths (A : Sys) (l : List Nat) : (A.pick l).2.ths = A.ths ∧ (A.pick l).2.sched = A.sched := by unfold pick; split <;> exact ⟨rfl, rfl⟩
theorem readyL_lt {A : Sys} {j : Nat} (h : j ∈ A.readyL) : j < A.ths.length := by
  unfold readyL at h
  simpa using (List.mem_filter.1 h).1
end Sys
theorem rely_grow {i : Nat} {Γ : Gho} {v v' : World} (hg : Grow v v') (o : Own) : Rely i Γ v (Γ.ext v o) v' := ⟨hg.size, ⟨rfl, rfl, rfl, rfl, rfl⟩, fun _ _ => rfl, fun b hb => by simp [Gho.ext, hb], fun b hb _ => hg.same b hb, fun b hb _ => cell_same (hg.same b hb), Nat.le_refl _, fun b j hb _ => frozen_same (hg.same b hb)⟩
theorem mrely_grow {Γ : Gho} {v v' : World} (hg : Grow v v') (o : Own) : MRely Γ v (Γ.ext v o) v' := ⟨hg.size, ⟨rfl, rfl, rfl⟩, fun _ _ => rfl, fun b hb => by simp [Gho.ext, hb], fun b hb _ => hg.same b hb, fun b j hb _ => frozen_same (hg.same b hb), Nat.le_refl _⟩
/-- Only the system's blocks are changed; more may be made. -/
theorem rely_sysg {i : Nat} {Γ : Gho} {v v' : World} (hsz : v.heap.size ≤ v'.heap.size) (h : ∀ b, b < v.heap.size → Γ.own b ≠ .sys → v'.heap[b]? = v.heap[b]?) : Rely i Γ v Γ v' :=
  ⟨hsz, ⟨rfl, rfl, rfl, rfl, rfl⟩, fun _ _ => rfl, fun _ _ => rfl, fun b hb h1 => h b hb (by rcases h1 with h1 | h1 <;> rw [h1] <;> simp), fun b hb h1 => cell_same (h b hb (by rw [h1]; simp)), Nat.le_refl _, fun b j hb h1 => frozen_same (h b hb (by rw [h1]; simp))⟩
theorem mrely_sysg {Γ : Gho} {v v' : World} (hsz : v.heap.size ≤ v'.heap.size) (h : ∀ b, b < v.heap.size → Γ.own b ≠ .sys → v'.heap[b]? = v.heap[b]?) : MRely Γ v Γ v' :=
  ⟨hsz, ⟨rfl, rfl, rfl⟩, fun _ _ => rfl, fun _ _ => rfl, fun b hb h1 => h b hb (by rcases h1 with h1 | h1 <;> rw [h1] <;> simp), fun b j hb h1 => frozen_same (h b hb (by rw [h1]; simp)), Nat.le_refl _⟩
section
variable {Done : Goroutine → World → Prop} {Fin : Nat → Answers → Gho → World → Prop}
/-- Ring1 goes on, where the threads' words stand. -/
theorem Ring1.keep (hF : Stable Fin) {Γ Γ' : Gho} {A A' : Sys} {v v' : World} {I : Inbs} {ps : List Left} {sk : Option Nat} (h : Ring1 Fin Γ A v I ps sk) (hW : WI Γ' A' v') (hR : ∀ i, Rely i Γ v Γ' v') (hths : A'.ths = A.ths) (hn : Γ'.n0 = Γ.n0) : Ring1 Fin Γ' A' v' I ps sk :=
  ⟨hW, by rw [hths]; exact h.len, by rw [hn]; exact h.n0, fun i q hi hq => (h.parked i q hi hq).keep hF (hR i) rfl (by rw [hths]), fun x hx hr => h.none_ x hx (by rw [hn, hths] at hr; exact hr)⟩
theorem go_sched {i : Nat} {A' : Sys} {q : Left} : ∀ (p : Prog) (A : Sys), p.go i A = some (A', q) → A'.sched = A.sched := by
  intro p
  induction p with
  | done r => intro A h; simp only [Prog.go, Option.some.injEq, Prod.mk.injEq] at h; rw [← h.1]; rfl
  | out => intro A h; cases h
  | wait st op c k _ => intro A h; simp only [Prog.go, Option.some.injEq, Prod.mk.injEq] at h; rw [← h.1]; rfl
  | rd c k ih => exact fun A h => ih _ A h
  | wr c x k ih => exact fun A h => ih (A.put c x) h
  | note op c a b k ih =>
    intro A h
    unfold Prog.go at h
    split at h
    · exact ih (A.note i op c a b) h
    · cases h
  | bump c k ih =>
    intro A h
    unfold Prog.go at h
    split at h
    · exact ih (A.bump c) h
    · cases h
  | stk k ih => exact fun A h => ih _ A h
structure SchedOk (A : Sys) : Prop where
  i64 : ∀ x ∈ A.sched, -9223372036854775808 ≤ x ∧ x ≤ 9223372036854775807
  short : A.sched.length < 2 ^ 62
theorem turn_run (hF : Stable Fin) {Γ : Gho} {A : Sys} {u : World} {I : Inbs} {ps : List Left} {n f : Nat} {res : Sys × List Answers} {Γm : Gho} {vm : World} (hR : Ring1 Fin Γ A u I ps none) (hsch : SchedOk A) (hpos : 0 < A.ths.length) (hn8 : A.ths.length ≤ 1000) (hn : Γ.n0 + ps.length = n) (hm : MRely Γm vm Γ u) (ht : turns (f + 1) A ps = some res) (c0 : Frame) (cs : List Frame)
    (K1 : ∀ Γ' A' v' I' ps', Ring1 Fin Γ' A' v' I' ps' none → turns f A' ps' = some res → MRely Γm vm Γ' v' → ps'.length = ps.length → A'.sched = A.sched → Run Try.prog Done (SS Γ' A'.ths.length) 0 n I' (G (c0.finish (.bool true)) cs) v')
    (K2 : ∀ Γ' v', Ring1 Fin Γ' A v' I ps none → MRely Γm vm Γ' v' → (ps.mapM leftOver).map (fun rs => (A, rs)) = some res → A.waits = false → Run Try.prog Done (SS Γ' A.ths.length) 0 n I (G (c0.finish (.bool false)) cs) v') :
    Run Try.prog Done (SS Γ A.ths.length) 0 n I (G (Frame.enter Try.prog 57 #[.pointer (some ⟨Γ.W, 0, none⟩)] .normal) (c0 :: cs)) u := by
  have hW := hR.wi
  obtain ⟨sv, cv, tv, rv, hw, r1, r2, r3, r4, o1, o2, o3, o4, o5⟩ := id hW.world
  have hG := Grow.refl u
  have hlen := hR.len
  refine Run.of_hold ?_
  obtain ⟨b, a, hEq, hb, hbf, hat⟩ := enter_is turn_fn turn_body turn_tmps #[.pointer (some ⟨Γ.W, 0, none⟩)] [(0, .pointer (some ⟨Γ.W, 0, none⟩))] rfl (by simp)
  rw [hEq]
  have hbk := not_early hb
  refine hold_unf turn_code_def ?_
  obtain ⟨gt, capt, rfl, _⟩ := ownsRow_at1 (i := 0) (y := tbV Γ 0) r3 (by rw [List.getElem?_map, List.getElem?_range hpos]; rfl)
  refine hold_seq <| hold_region (l := [0]) rfl <| h_val noA hbk turn_0 rfl rfl (by decide) hat (r_assign rfl) fun a hat => hold_region_end <| hold_seq <| hold_region (l := [0]) rfl <| h_val noA hbk turn_1 rfl rfl (by decide) hat (r_assign rfl) fun a hat => hold_region_end <| hold_seq <| hold_region (l := [0]) rfl <| h_val noA hbk turn_2 rfl rfl (by decide) hat (r_assign rfl) fun a hat => hold_region_end <| hold_seq ?_
  refine hold_seq <| hold_region (l := [0,1,2,3,4,5]) rfl <| h_val noA hbk turn_3 rfl rfl (by decide) hat (r_move rfl) fun a hat => h_val noA hbk turn_3 rfl rfl (by decide) hat (r_nil rfl) fun a hat => h_val noA hbk turn_3 rfl rfl (by decide) hat (r_field fk_74_4 rfl) fun a hat => h_val noA hbk turn_3 rfl rfl (by decide) hat (r_load ld_72 rfl (cell_at' (hG.at hw))) fun a hat => h_val noA hbk turn_3 rfl rfl (by decide) hat (r_len lk_72 rfl) fun a hat => h_val noA hbk turn_3 rfl rfl (by decide) hat (r_move rfl) fun a hat => hold_region_end <| hold_block <| hold_loop ?_
  refine turn_loop hW hbk rfl hn8 r3 (fun v' a lv hg hown hlb hat => ?_) A.ths.length 0 _ a (.slice none 0 0) (by omega) hG ⟨rfl, .inl ⟨rfl, rfl⟩⟩ (fun b hb => by cases hb) (hat.sub (AtE.cons rfl (AtE.cons rfl (AtE.cons rfl (AtE.cons rfl (AtE.cons rfl (AtE.cons rfl (AtE.nil))))))))
  replace hG := hg
  have hL8 : A.readyL.length ≤ 1000 := Nat.le_trans (by rw [← A.readyTo_all]; exact A.readyTo_le _) hn8
  have hlvs := ownsRow_slice hown
  obtain ⟨la, lc, rfl⟩ := hlvs
  refine hold_seq <| hold_seq <| hold_region (l := [0,1,2]) rfl <| h_val noA hbk turn_10 rfl rfl (by decide) hat (r_move rfl) fun a hat => h_val noA hbk turn_10 rfl rfl (by decide) hat (r_len lk_72 rfl) fun a hat => ?_
  cases hL : A.readyL with
  | nil =>
    rw [hL] at hat hown
    unfold turns at ht
    rw [hL] at ht
    simp only [] at ht
    refine h_val noA hbk turn_10 rfl (opOk_eq (by kernel_rfl)) (by decide) hat (r_bool (t' := true) (r_eql rfl rfl) (by first | (simp; omega) | (simp; done) | (simp_all; done) | (simp_all; omega))) fun a hat => hold_region_end <| hold_condT (hat.eval (q := .tmp 34) rfl) rfl <| hold_seq <| hold_seq <| hold_region (l := [0]) rfl <| h_val noA hbk turn_11 rfl rfl (by decide) hat (r_move rfl) fun a hat => hold_region_end ?_
    cases hwt : A.waits with
    | false =>
      rw [hwt] at hat ht
      simp only [Bool.false_eq_true, if_false] at ht
      refine hold_condF (hat.eval (q := .tmp 35) rfl) rfl <| hold_skip <| hold_seq <| hold_region (l := [0,1]) rfl <| h_val noA hbk turn_14 rfl rfl (by decide) hat (r_move rfl) fun a hat => h_val noA hbk turn_14 rfl rfl (by decide) hat (r_assign rfl) fun a hat => hold_region_end ?_
      have hK := K2 (Γ.ext u .main) v' (hR.keep hF (hW.grow hG) (fun i => rely_grow hG _) rfl rfl) (hm.trans (mrely_grow hG _)) ht hwt
      exact hold_retd hb hbf turn_fn hat.defers (ret_one turn_res hat rfl) (hold_run hK)
    | true =>
      rw [hwt] at hat ht
      simp only [if_true] at ht
      split at ht
      rotate_left
      · cases ht
      rename_i htl
      refine hold_condT (hat.eval (q := .tmp 35) rfl) rfl <| hold_seq <| hold_region (l := [0,1,2,3]) rfl <| h_val noA hbk turn_12 rfl rfl (by decide) hat (r_move rfl) fun a hat => h_val noA hbk turn_12 rfl rfl (by decide) hat (r_nil rfl) fun a hat => h_val noA hbk turn_12 rfl rfl (by decide) hat (r_field fk_74_6 rfl) fun a hat => ?_
      have hWg := hW.grow hG
      refine h_put noA hbk turn_12 rfl rfl hat (p_store st_4 rfl rfl rfl (hG.at hw) rfl rfl) fun v2 a hP hwx hat => ?_
      simp only [List.setIfInBounds_toArray, List.set_cons_succ, List.set_cons_zero] at hwx hP
      have hW2 : WI (Γ.ext u .main) { A with stuck := true } v2 := hWg.setW rfl rfl rfl rfl rfl hW.used (hG.at hw) hP
      refine hold_region_end <| hold_region (l := [0,1,2,3,4,5,6,7,8,9,10]) rfl <| h_val noA hbk turn_13 rfl rfl (by decide) hat (r_move rfl) fun a hat => h_val noA hbk turn_13 rfl rfl (by decide) hat (r_move rfl) fun a hat => h_val noA hbk turn_13 rfl rfl (by decide) hat (r_nil rfl) fun a hat => h_val noA hbk turn_13 rfl rfl (by decide) hat (r_field fk_74_5 rfl) fun a hat => h_val noA hbk turn_13 rfl rfl (by decide) hat (r_load ld_51 rfl (cell_at' hwx)) fun a hat => ?_
      obtain ⟨sv2, cv2, tv2, rv2, hw2, _, _, _, r42, _, _, _, o42, _⟩ := id hW2.world
      replace hw2 := Eq.trans (show some _ = v2.heap[Γ.W]? from hwx.symm) hw2
      simp only [Option.some.injEq, Obj.cells.injEq, and_true, Array.mk.injEq, List.cons.injEq, true_and] at hw2
      obtain ⟨rfl, rfl, rfl, rfl, _⟩ := hw2
      have hrvW : rv.ownBlock ≠ some Γ.W := fun h => by
        rcases r42.2 with ⟨rfl, _⟩ | ⟨g, cap', cur, rfl, _, hg', _⟩
        · cases h
        · cases h; exact ne_of_types hg' hwx (by decide) rfl
      have hwx0 := hwx
      have htm : A.trace.length + 1 ≤ maxLen := Nat.le_trans htl (by decide)
      have htb : (A.trace.length + 1) * 40 ≤ 140737488355328 := by
        have : traceMax * 40 ≤ 140737488355328 := by decide
        have : A.trace.length + 1 ≤ traceMax := htl
        omega
      refine h_val noA hbk turn_13 rfl rfl (by decide) hat (bu_55_0_1_2 rfl rfl rfl rfl rfl rfl) fun a hat => h_news noA hbk turn_13 rfl rfl (by decide) hat (bs_51_1_0 rfl) fun v a B45 hB45 hsB45 hg F45 hat => ?_
      have n_F45_hwx := ne_new hwx hB45
      have r43 := ownsRow_keep r42 fun b _ _ hb => hg.same b (lt_of_heap hb)
      refine h_app noA hbk turn_13 rfl (by decide) hat ek_51 (hg.ready hW2.ready) r43 rfl rfl F45 rfl (by simp [Value.oneCell']) (by decide) htm htb fun g2 cap2 v4 a hAp hat => ?_
      have hW4 : v4.heap[Γ.W]? = _ := (hAp.same Γ.W (lt_of_heap (hg.at hwx)) hrvW).trans (hg.at hwx)
      refine h_val noA hbk turn_13 rfl rfl (by decide) hat (r_nil rfl) fun a hat => h_val noA hbk turn_13 rfl rfl (by decide) hat (r_field fk_74_5 rfl) fun a hat => h_skip noA hbk turn_13 rfl rfl hat (r_store st_51 rfl rfl rfl (cell_at' hW4) (frozen_at' hW4)) fun a hat => ?_
      obtain ⟨hN1, hN2, hN3⟩ := hW2.noted (rv := rv) ⟨-1, -1, 7, 0, 0⟩ hwx0 rfl hAp.owns (hAp.where_.imp id fun h => by rw [h]; exact hg.size) (fun k hk hne => (hAp.same k (Nat.lt_of_lt_of_le hk hg.size) (fun e => hne e.symm)).trans (hg.same k hk)) (Nat.le_trans hg.size hAp.size) rfl (ready_set hAp.ready)
      refine hold_region_end <| hold_seq <| hold_region (l := [0,1]) rfl <| h_val noA hbk turn_14 rfl rfl (by decide) hat (r_move rfl) fun a hat => h_val noA hbk turn_14 rfl rfl (by decide) hat (r_assign rfl) fun a hat => hold_region_end ?_
      have hsysW : (Γ.ext u .main).own Γ.W = .sys := hWg.back.2.2
      have hs2 : ∀ b, (Γ.ext u .main).own b ≠ .sys → v2.heap[b]? = v'.heap[b]? := fun b hb => hP.other b fun e => hb (by rw [e]; exact hsysW)
      have hK := K1 ((Γ.ext u .main).ext v2 .sys) A.setStuck _ I ps (hR.keep hF hN1 (fun i => (rely_grow hG _).trans ((rely_sys hP.size hs2).trans (hN3 i))) rfl rfl) ht (hm.trans ((mrely_grow hG _).trans ((guar_sys (i := 0) (n := 0) hP.size hs2).mrely.trans (hN2 0 0).mrely))) rfl rfl
      exact hold_retd hb hbf turn_fn hat.defers (ret_one turn_res hat rfl) (hold_run hK)
  | cons x l =>
    have hids : ∀ y ∈ x :: l, y < A.ths.length := fun y hy => Sys.readyL_lt (by rw [hL]; exact hy)
    rw [hL] at hat hown hL8
    unfold turns at ht
    rw [hL] at ht
    simp only [] at ht
    obtain ⟨ep1, ep2⟩ := A.pick_ths (x :: l)
    generalize hj : (A.pick (x :: l)).1 = j at ht
    generalize hA2 : (A.pick (x :: l)).2 = A2 at ht ep1 ep2
    cases hps : ps[j]? with
    | none => rw [hps] at ht; cases ht
    | some q0 =>
      rw [hps] at ht
      cases q0 with
      | inr r => cases ht
      | inl k =>
        simp only [] at ht
        cases hgo : k.go j (A2.letGo j) with
        | none => rw [hgo] at ht; cases ht
        | some z3 =>
          obtain ⟨A3, q3⟩ := z3
          rw [hgo] at ht
          simp only [] at ht
          have hjl : j < ps.length := (List.getElem?_eq_some_iff.1 hps).1
          refine h_val noA hbk turn_10 rfl (opOk_eq (by kernel_rfl)) (by decide) hat (r_bool (t' := false) (r_eql rfl rfl) (by first | (simp; omega) | (simp; done) | (simp_all; done) | (simp_all; omega))) fun a hat => hold_region_end <| hold_condF (hat.eval (q := .tmp 34) rfl) rfl <| hold_skip <| hold_seq <| hold_region (l := [0,1,2,3]) rfl <| h_val noA hbk turn_15 rfl rfl (by decide) hat (r_move rfl) fun a hat => h_val noA hbk turn_15 rfl rfl (by decide) hat (r_move rfl) fun a hat => h_callc hbk turn_15 rfl (by decide) hat pick_fn pick_bd pick_nm (vals := #[_, _]) rfl fun c hc => pick_hold (hW.more hG) hsch.i64 hsch.short (by simp) hL8 hown hids fun v2 hW2 hoth2 hsz2 => ?_
          rw [hj]
          rw [hA2] at hW2
          obtain ⟨tt, htt⟩ : ∃ tt, A.ths[j]? = some tt := ⟨A.ths[j]'(by omega), by simp⟩
          have htt2 : A2.ths[j]? = some tt := by rw [ep1]; exact htt
          obtain ⟨hti, hgi, hoi, hogi⟩ := hW2.th j tt htt2
          obtain ⟨sv2, cv2, tv2, rv2, hw2, _⟩ := id hW2.world
          refine hold_fin hc fun a hat => h_val noA hbk turn_15 rfl rfl (by decide) hat (r_assign rfl) fun a hat => hold_region_end <| hold_seq <| hold_region (l := [0,1,2,3,4,5,6,7]) rfl <| h_val noA hbk turn_16 rfl rfl (by decide) hat (r_move rfl) fun a hat => h_val noA hbk turn_16 rfl rfl (by decide) hat (r_move rfl) fun a hat => h_val noA hbk turn_16 rfl rfl (by decide) hat (r_nil rfl) fun a hat => h_val noA hbk turn_16 rfl rfl (by decide) hat (r_field fk_76_1 rfl) fun a hat => h_val noA hbk turn_16 rfl rfl (by decide) hat (r_load ld_3 rfl (cell_at' hti)) fun a hat => h_val noA hbk turn_16 rfl rfl (by decide) hat (r_nil rfl) fun a hat => h_val noA hbk turn_16 rfl rfl (by decide) hat (r_field fk_74_2 rfl) fun a hat => h_put noA hbk turn_16 rfl rfl hat (p_store st_3 rfl rfl rfl hw2 rfl rfl) fun v3 a hP3 hw3 hat => ?_
          simp only [List.setIfInBounds_toArray, List.set_cons_succ, List.set_cons_zero] at hw3 hP3
          have hW3 : WI Γ { A2 with last := (j : Int) } v3 := hW2.setW rfl rfl rfl rfl rfl hW2.used hw2 hP3
          have hti3 := hP3.keep (ne_of_types hti hw2 (by decide)) hti
          refine hold_region_end <| hold_seq <| hold_region (l := [0,1,2,3]) rfl <| h_val noA hbk turn_17 rfl rfl (by decide) hat (r_move rfl) fun a hat => h_val noA hbk turn_17 rfl rfl (by decide) hat (r_nil rfl) fun a hat => h_val noA hbk turn_17 rfl rfl (by decide) hat (r_field fk_76_3 rfl) fun a hat => h_put noA hbk turn_17 rfl rfl hat (p_store st_3 rfl rfl rfl hti3 rfl rfl) fun v4 a hP4 hti4 hat => ?_
          simp only [List.setIfInBounds_toArray, List.set_cons_succ, List.set_cons_zero] at hti4 hP4
          have hW4 : WI Γ (A2.letGo j) v4 := by
            have := hW3.setTh ⟨0, tt.cell, tt.op, tt.seen⟩ htt2 hP4.other hti4 (hP4.ready hW3.ready)
            have e : A2.letGo j = _ := setSt_set (A := { A2 with last := (j : Int) }) htt2 0
            rw [e]; exact this
          have hw4 := hP4.keep (ne_of_types hw3 hti3 (by decide)) hw3
          refine hold_region_end <| hold_seq <| hold_region (l := [0,1,2,3,4,5]) rfl <| h_val noA hbk turn_18 rfl rfl (by decide) hat (r_move rfl) fun a hat => h_val noA hbk turn_18 rfl rfl (by decide) hat (r_nil rfl) fun a hat => h_val noA hbk turn_18 rfl rfl (by decide) hat (r_field fk_76_2 rfl) fun a hat => h_val noA hbk turn_18 rfl rfl (by decide) hat (r_load ld_71 rfl (cell_at' hti4)) fun a hat => h_val noA hbk turn_18 rfl rfl (by decide) hat bu_94 fun a hat => ?_
          have hoth4 : ∀ b, b < u.heap.size → Γ.own b ≠ .sys → v4.heap[b]? = u.heap[b]? := fun b hb hne => by
            have e1 : b ≠ Γ.W := fun e => hne (by rw [e]; exact hW.back.2.2)
            have e2 : b ≠ Γ.tb j := fun e => hne (by rw [e]; exact hoi)
            rw [hP4.other b e2, hP3.other b e1, hoth2 b (Nat.lt_of_lt_of_le hb hG.size) e1, hG.same b hb]
          have hsz4 : u.heap.size ≤ v4.heap.size := by rw [hP4.size, hP3.size]; exact Nat.le_trans hG.size hsz2
          have hA4l : (A2.letGo j).ths.length = ps.length := by
            have e : A2.letGo j = _ := setSt_set (A := { A2 with last := (j : Int) }) htt2 0
            rw [e]; simp only [List.length_set]; rw [ep1, hlen]
          have hA4j : (A2.letGo j).ths[j]? = some ⟨0, tt.cell, tt.op, tt.seen⟩ := by
            have e : A2.letGo j = _ := setSt_set (A := { A2 with last := (j : Int) }) htt2 0
            rw [e]; simp only []
            rw [List.getElem?_set_self (by rw [ep1]; omega)]
          have hA4o : ∀ i, i ≠ j → (A2.letGo j).ths[i]? = A.ths[i]? := fun i hi => by
            have e : A2.letGo j = _ := setSt_set (A := { A2 with last := (j : Int) }) htt2 0
            rw [e]; simp only []
            rw [List.getElem?_set_ne (fun x => hi x.symm), ep1]
          obtain ⟨t', home, z, h1, h3, h4⟩ := hR.parked j (.inl k) (by simp) hps
          rw [htt] at h1
          obtain rfl := Option.some.inj h1
          refine .stop _ _ fun td dd => Run.re ?_ td dd
          generalize hx19 : (Item.code ((Code.region 19 (Rg Try.f57.body 19) false).seq ((Code.region 20 (Rg Try.f57.body 20) false).seq Code.ret))) = x19 at *
          have hio : ∀ i, i < ps.length → i ≠ j → I (Γ.n0 + i) = none ∨ ∃ z home, I (Γ.n0 + i) = some (Seat.one (Γ.goes i) z false home) := fun i hi _ => by
            obtain ⟨q, hq⟩ : ∃ q, ps[i]? = some q := ⟨ps[i], by simp [hi]⟩
            exact (hR.parked i q (by simp) hq).seat
          have hlenS : SS Γ A.ths.length = SS Γ ps.length := by rw [hlen]
          have hn0 := hR.n0
          rw [hlenS]
          have hSS4 : ∀ y, SS Γ ps.length y → y.block < v4.heap.size := by rw [← hA4l]; exact SS_still hW4
          refine Run.give rfl _ (Γ.n0 + j) (Γ.goes j) 0 (Seat.one (Γ.goes j) z false home) (.agg #[]) z (.tuple #[]) #[] (some (Seat.one Γ.back (.agg #[]) false fun g => ∃ a e, AtE 73 [] e a ∧ look e 0 = some (.pointer (some ⟨Γ.W, 0, none⟩)) ∧ g = G (b.at a [.inRegion (Rg Try.f57.body 19) [4], .code ((Code.region 20 (Rg Try.f57.body 20) false).seq Code.ret)]) (c0 :: cs))) (by omega) (by omega) h3 rfl (fun wa _ => at_send hbk turn_18 rfl hat rfl rfl wa) (by simp) ?_ ?_ ?_
          · refine ⟨Seat.one_wf _ _ _ _, fun c' hc' => ?_, fun y s' c' hy hs hc' hb' => ?_⟩
            · obtain ⟨kb, hkb⟩ := hW4.back.1
              exact ⟨0, kb, by rw [Seat.one_has.1 hc']; exact hkb⟩
            · have e1 := Seat.one_has.1 hb'
              by_cases hr : y < Γ.n0 ∨ Γ.n0 + A.ths.length ≤ y
              · rw [hR.none_ y hy hr] at hs; cases hs
              · obtain ⟨i, rfl⟩ : ∃ i, y = Γ.n0 + i := ⟨y - Γ.n0, by omega⟩
                obtain ⟨q, hq⟩ : ∃ q, ps[i]? = some q := ⟨ps[i]'(by omega), by simp⟩
                rcases (hR.parked i q (by simp) hq).seat with h | ⟨z', home', h⟩
                · rw [h] at hs; cases hs
                · rw [h] at hs; cases hs
                  exact hW.backApart i (by omega) ((Seat.one_has.1 hc').symm.trans e1)
          · rw [sent_is turn_18 rfl]
            subst hx19
            refine iw_rests (n := 7) hSS4 ?_
            refine iw_region_end (iw_seq (iw_region (l := [0,1,2,3,4]) rfl ?_))
            refine iw_val hbk turn_19 rfl (by decide) hat (s_move rfl) fun a hat => iw_val hbk turn_19 rfl (by decide) hat (s_nil rfl) fun a hat => iw_val hbk turn_19 rfl (by decide) hat (s_field ft_w_8 rfl) fun a hat => iw_val hbk turn_19 rfl (by decide) hat (s_load lt_chan rfl (.inl rfl) (cell_at' hw4)) fun a hat => ?_
            exact iw_recv (el := 0) hbk turn_19 rfl hat rfl (fun ρ h w => by simp [go_sem, h]; rfl) ⟨_, _, hat, rfl, rfl⟩
          · intro g₂ cap kf hhome hch
            obtain ⟨kg, hkg⟩ := (hW4.th j _ hA4j).2.1
            rw [hkg] at hch
            simp only [Option.some.injEq, Obj.chan.injEq] at hch
            obtain ⟨rfl, _, _, rfl, _, _⟩ := hch
            obtain ⟨c1, c2, c3⟩ := hW4.chan (k := kg) ⟨kg, hkg⟩ (hW4.th j _ hA4j).2.2.2
            have hRel : ∀ i, Rely i Γ u Γ (v4.setChan (Γ.goes j) 0 #[] false (kg + 1) (kg + 1) false) := fun i => (rely_sysg hsz4 hoth4).trans (c3 i)
            refine resume (A0 := A2.letGo j) (A' := A3) (q := q3) hF (upd_same _ _ _) (fun i q hij hq => ?_) (fun y hy hr => by rw [upd_ne _ _ hy]; exact hR.none_ y hy (by rw [← hlen]; exact hr)) hn0 hn hjl (hm.trans ((mrely_sysg hsz4 hoth4).trans (c2 0 0).mrely)) ?_ k (A2.letGo j) _ _ hA4l (fun _ _ => rfl) hgo (h4 _ Γ _ _ _ tt.seen hhome (hRel j) c1 hA4j)
            · exact (hR.parked i q (by simp) hq).keep hF (hRel i) (upd_ne _ _ (by omega)) (hA4o i hij)
            · rintro Γ' v' I' g₂ y ⟨a, e, hat, he0, rfl⟩ hR' hm'' hl' -
              subst hx19
              refine Run.of_hold ?_
              obtain ⟨a', hat', hfin⟩ := back_val (b := b) (a := a) (i := 4) (d := 72) (rest := []) turn_19 rfl (by decide) hat y (k := [Item.code ((Code.region 20 (Rg Try.f57.body 20) false).seq Code.ret)])
              have hsv : Conc.served (G (b.at a [.inRegion (Rg Try.f57.body 19) [4], .code ((Code.region 20 (Rg Try.f57.body 20) false).seq Code.ret)]) (c0 :: cs)) y = G (b.at a' [.inRegion (Rg Try.f57.body 19) [], .code ((Code.region 20 (Rg Try.f57.body 20) false).seq Code.ret)]) (c0 :: cs) := by
                simp only [Conc.served, G, hfin]
              rw [hsv]
              refine hold_region_end (hold_seq (hold_region (l := [0]) rfl ?_))
              refine h_val noA hbk turn_20 rfl rfl (by decide) hat' (r_assign rfl) fun a hat => hold_region_end ?_
              exact hold_retd hb hbf turn_fn hat.defers (ret_one turn_res hat rfl) (hold_run (K1 Γ' A3 v' I' _ hR' ht hm'' (by simp) ((go_sched k _ hgo).trans (by rw [← ep2]; rfl))))
end
end Go.Proofs.Ytecdiejeofclaaa


/- Main begins the threads: the world behind. -/
namespace Go.Proofs.Ytecdiejeofclaaa
open Go Go.Conc
open Go.ConcN (upd upd_ne upd_same)
theorem BodyE.keepU {i lb db vb ib ob n : Nat} {lv dov : Value} {l : List ACall} {E : Gho → World → Prop} {Γ Γ' : Gho} {v v' : World} (hE : ∀ Γ v Γ' v', E Γ v → URely i Γ v Γ' v' → E Γ' v') (h : BodyE i lb db vb ib ob n lv dov l E Γ v) (hR : URely i Γ v Γ' v') : BodyE i lb db vb ib ob n lv dov l E Γ' v' := by
  have key : ∀ {b : Nat} {x : Value}, v.cell? ⟨b, 0, none⟩ = some x ∧ b < v.heap.size ∧ Γ.own b = .const → v'.cell? ⟨b, 0, none⟩ = some x ∧ b < v'.heap.size ∧ Γ'.own b = .const := fun {b x} ⟨h1, h2, h3⟩ =>
    ⟨(cell_same (hR.keep b h2 h3)).trans h1, Nat.lt_of_lt_of_le h2 hR.size, (hR.own b h2).trans h3⟩
  obtain ⟨c1, c2, c3, c4, c5, c6⟩ := h.caught
  refine ⟨⟨key c1, key c2, key c3, key c4, c5, Nat.lt_of_lt_of_le c6.1 hR.size, (hR.own ob c6.1).trans c6.2⟩, ⟨by rw [hR.mixed ob c6.1 c6.2]; exact h.slot.cell, by rw [hR.mf ob i c6.1 c6.2]; exact h.slot.open_⟩, ?_, hE _ _ _ _ h.env hR⟩
  obtain ⟨a, cap, h1, h2, h3⟩ := h.script
  refine ⟨a, cap, h1, h2, fun j x hx => ?_⟩
  obtain ⟨B, O, g1, g2, g3, g4, g5, g6, g7⟩ := h3 j x hx
  have e := hR.keep B g2 g3
  exact ⟨B, O, g1, Nat.lt_of_lt_of_le g2 hR.size, (hR.own B g2).trans g3, (cell_same e).trans g4, (cell_same e).trans g5, (cell_same e).trans g6, (cell_same e).trans g7⟩
/-- The ghost with one thread more. -/
def Gho.more (Γ : Gho) (u : World) (n Bt Bc : Nat) : Gho := { Γ.ext u .sys with tb := fun j => if j = n then Bt else Γ.tb j, goes := fun j => if j = n then Bc else Γ.goes j }
theorem WI.spawned {Γ : Gho} {A : Sys} {u v w1 v' : World} (hW0 : WI Γ A u) (hg : Grow u v) {Bt Bc : Nat} (hBt : u.heap.size ≤ Bt) (hBc : u.heap.size ≤ Bc) (hfc : fresh v Bc) (hne : Bt < v.heap.size)
    (hth : v.heap[Bt]? = some (.cells #[.pointer (some ⟨Γ.W, 0, none⟩), .int .i64 A.ths.length, .chan (some Bc), .int .i64 0, .int .i64 0, .int .i64 0, .int .i64 0] 76 (2, 3)))
    {tv : Value} {gg cap : Nat} {arr : Array Value} (hw : v.heap[Γ.W]? = some (.cells arr 74 (8, 9))) (htv : arr[4]? = some tv)
    (hown : w1.ownsRow 0 41 1 (.slice (some ⟨gg, 0, none⟩) (A.ths.length + 1) cap) (A.ths.length + 1) ((List.range A.ths.length).map (tbV Γ) ++ [.pointer (some ⟨Bt, 0, none⟩)]))
    (hgg : tv.ownBlock = some gg ∨ v.heap.size ≤ gg) (hold : ∀ k, k < v.heap.size → tv.ownBlock ≠ some k → w1.heap[k]? = v.heap[k]?) (hsz : v.heap.size ≤ w1.heap.size) (hv' : v' = w1.setCell ⟨Γ.W, 4, none⟩ (.slice (some ⟨gg, 0, none⟩) (A.ths.length + 1) cap)) (hr : Ready0 v') :
    WI (Γ.more u A.ths.length Bt Bc) { A with ths := A.ths ++ [⟨0, 0, 0, 0⟩] } v' ∧ (∀ i, i < A.ths.length → Rely i Γ u (Γ.more u A.ths.length Bt Bc) v') ∧ (∀ i, URely i Γ u (Γ.more u A.ths.length Bt Bc) v') ∧ MRely Γ u (Γ.more u A.ths.length Bt Bc) v' := by
  have hW := hW0.more hg
  obtain ⟨sv, cv, tv', rv, hw0, r1, r2, r3, r4, o1, o2, o3, o4, o5⟩ := hW.world
  rw [hw] at hw0
  simp only [Option.some.injEq, Obj.cells.injEq, and_true, true_and] at hw0
  subst hw0
  simp at htv
  subst htv
  have hlt : ∀ {b : Nat} {o : Obj}, v.heap[b]? = some o → b < v.heap.size := fun h => (Array.getElem?_eq_some_iff.1 h).1
  have htr : ∀ {b : Nat}, tv'.ownBlock = some b → ∃ cur, v.heap[b]? = some (.cells cur 41 (0, 0)) := by
    intro b hb
    rcases r3.2 with ⟨rfl, _⟩ | ⟨g, cap', cur, rfl, _, hg', _⟩
    · cases hb
    · cases hb; exact ⟨cur, hg'⟩
  have keep1 : ∀ {b : Nat} {c : Array Value} {e : TypeId} {f : Nat × Nat}, v.heap[b]? = some (.cells c e f) → e ≠ 41 → w1.heap[b]? = v.heap[b]? := fun {b c e f} hb hne => hold b (hlt hb) fun x => by
    obtain ⟨cur, hc⟩ := htr x
    exact ne_of_types hb hc hne rfl
  have hWw1 := (keep1 hw (by decide)).trans hw
  have keep2 : ∀ {b : Nat} {c : Array Value} {e : TypeId} {f : Nat × Nat}, v.heap[b]? = some (.cells c e f) → e ≠ 41 → e ≠ 74 → v'.heap[b]? = v.heap[b]? := fun {b c e f} hb h1 h2 => by
    rw [hv', set_other (ne_of_types hb hw h2)]; exact keep1 hb h1
  have hch : ∀ c, fresh v c → fresh v' c := fun c hc => by
    have h0 := hc
    obtain ⟨k, hk⟩ := h0
    refine fresh_keep hc ?_
    rw [hv', set_other (ne_of_chan hw hc)]
    refine hold c (hlt hk) fun x => ?_
    obtain ⟨cur, hcu⟩ := htr x
    rw [hk] at hcu; cases hcu
  have hsz' : v'.heap.size = w1.heap.size := by rw [hv', size_set]
  have hsysk : ∀ b, b < u.heap.size → Γ.own b ≠ .sys → v'.heap[b]? = u.heap[b]? := fun b hb hne' => by
    rw [hv', set_other (fun e => hne' (by rw [e]; exact hW0.back.2.2)), hold b (Nat.lt_of_lt_of_le hb hg.size) (fun x => hne' (o3 b x)), hg.same b hb]
  have hownG : ∀ b, b < u.heap.size → (Γ.more u A.ths.length Bt Bc).own b = Γ.own b := fun b hb => by simp [Gho.more, Gho.ext, hb]
  have hownN : ∀ b, u.heap.size ≤ b → (Γ.more u A.ths.length Bt Bc).own b = .sys := fun b hb => by simp [Gho.more, Gho.ext, show ¬ b < u.heap.size from by omega]
  have hsysOwn : ∀ b, Γ.own b = .sys → (Γ.more u A.ths.length Bt Bc).own b = .sys := fun b hb => by
    by_cases h : b < u.heap.size
    · rw [hownG b h]; exact hb
    · exact hownN b (by omega)
  have hisys : ∀ {x : Value}, isys Γ x → isys (Γ.more u A.ths.length Bt Bc) x := fun h b hb => hsysOwn b (h b hb)
  have hWlt : ∀ j, j < A.ths.length → j ≠ A.ths.length := fun j hj e => by omega
  have htbs : ∀ j, j < A.ths.length → (Γ.more u A.ths.length Bt Bc).tb j = Γ.tb j ∧ (Γ.more u A.ths.length Bt Bc).goes j = Γ.goes j := fun j hj => by simp [Gho.more, hWlt j hj]
  have htbn : (Γ.more u A.ths.length Bt Bc).tb A.ths.length = Bt ∧ (Γ.more u A.ths.length Bt Bc).goes A.ths.length = Bc := by simp [Gho.more]
  have hgl : ∀ j, j < A.ths.length → Γ.goes j < u.heap.size := fun j hj => by
    obtain ⟨k, hk⟩ := (hW0.th j _ (List.getElem?_eq_getElem hj)).2.1
    exact lt_of_heap hk
  have hbl : Γ.back < u.heap.size := by obtain ⟨k, hk⟩ := hW0.back.1; exact lt_of_heap hk
  have hsize : u.heap.size ≤ v'.heap.size := by rw [hsz']; exact Nat.le_trans hg.size hsz
  refine ⟨⟨hr, ⟨sv, cv, .slice (some ⟨gg, 0, none⟩) (A.ths.length + 1) cap, rv, ?_, ?_, ?_, ?_, ?_, hisys o1, hisys o2, ?_, hisys o4, o5⟩, fun j t hj => ?_, ⟨hch _ hW.back.1, hsysOwn _ hW.back.2.1, hsysOwn _ hW.back.2.2⟩, fun c x hc => ?_, hW.used, hW.ints64, fun i j hi hj he => ?_, fun i hi => ?_, hW.nc, hW.vals64⟩,
    fun i hi => ⟨hsize, ⟨rfl, rfl, rfl, (htbs i hi).1, (htbs i hi).2⟩, fun _ _ => rfl, hownG, fun b hb h1 => hsysk b hb (by rcases h1 with h1 | h1 <;> rw [h1] <;> simp), fun b hb h1 => cell_same (hsysk b hb (by rw [h1]; simp)), Nat.le_refl _, fun b j hb h1 => frozen_same (hsysk b hb (by rw [h1]; simp))⟩,
    fun i => ⟨hsize, ⟨rfl, rfl, rfl⟩, fun _ _ => rfl, hownG, fun b hb h1 => hsysk b hb (by rw [h1]; simp), fun b hb h1 => cell_same (hsysk b hb (by rw [h1]; simp)), Nat.le_refl _, fun b j hb h1 => frozen_same (hsysk b hb (by rw [h1]; simp))⟩,
    ⟨hsize, ⟨rfl, rfl, rfl⟩, fun _ _ => rfl, hownG, fun b hb h1 => hsysk b hb (by rcases h1 with h1 | h1 <;> rw [h1] <;> simp), fun b j hb h1 => frozen_same (hsysk b hb (by rw [h1]; simp)), Nat.le_refl _⟩⟩
  · rw [hv']; exact set_self hWw1
  · exact ownsRow_keep r1 fun b c _ hb => keep2 hb (by decide) (by decide)
  · exact ownsRow_keep r2 fun b c _ hb => keep2 hb (by decide) (by decide)
  · have hl : (A.ths ++ [⟨0, 0, 0, 0⟩] : List TSt).length = A.ths.length + 1 := by simp
    simp only [hl]
    have hm : ((List.range (A.ths.length + 1)).map fun j => Value.pointer (some ⟨(Γ.more u A.ths.length Bt Bc).tb j, 0, none⟩)) = (List.range A.ths.length).map (tbV Γ) ++ [.pointer (some ⟨Bt, 0, none⟩)] := by
      rw [List.range_succ, List.map_append]
      congr 1
      · apply List.map_congr_left
        intro j hj
        rw [(htbs j (by simpa using hj)).1]
      · simp [htbn.1]
    rw [hm, hv']
    exact ownsRow_keep hown fun b c _ hb => set_other (ne_of_types hb hWw1 (by decide))
  · exact ownsRow_keep r4 fun b c _ hb => keep2 hb (by decide) (by decide)
  · intro b hb
    cases hb
    rcases hgg with h | h
    · exact hsysOwn gg (o3 gg h)
    · exact hownN gg (Nat.le_trans hg.size h)
  · by_cases hjn : j < A.ths.length
    · rw [List.getElem?_append_left hjn] at hj
      obtain ⟨h1, h2, h3, h4⟩ := hW.th j t hj
      rw [(htbs j hjn).1, (htbs j hjn).2]
      exact ⟨(keep2 h1 (by decide) (by decide)).trans h1, hch _ h2, hsysOwn _ h3, hsysOwn _ h4⟩
    · have hjl := (List.getElem?_eq_some_iff.1 hj).1
      simp at hjl
      obtain rfl : j = A.ths.length := by omega
      simp at hj
      subst hj
      rw [htbn.1, htbn.2]
      exact ⟨(keep2 hth (by decide) (by decide)).trans hth, hch _ hfc, hownN _ hBt, hownN _ hBc⟩
  · obtain ⟨h1, h2⟩ := hW.cells c x hc
    exact ⟨(keep2 h1 (by decide) (by decide)).trans h1, hsysOwn _ h2⟩
  · simp at hi hj
    by_cases h1 : i = A.ths.length <;> by_cases h2 : j = A.ths.length
    · omega
    · subst h1
      rw [htbn.2, (htbs j (by omega)).2] at he
      have := hgl j (by omega); omega
    · subst h2
      rw [htbn.2, (htbs i (by omega)).2] at he
      have := hgl i (by omega); omega
    · rw [(htbs i (by omega)).2, (htbs j (by omega)).2] at he
      exact hW.chansApart i j (by omega) (by omega) he
  · simp at hi
    by_cases h1 : i = A.ths.length
    · subst h1
      rw [htbn.2]
      show Bc ≠ Γ.back
      omega
    · rw [(htbs i (by omega)).2]
      exact hW.backApart i (by omega)
end Go.Proofs.Ytecdiejeofclaaa


/- Main begins the threads: the steps. -/
namespace Go.Proofs.Ytecdiejeofclaaa
open Go Go.Conc
open Go.ConcN (upd upd_ne upd_same)
section
variable {P : Program} {Done : Goroutine → World → Prop} {S S' : Addr → Prop} {I : Inbs} {n : Nat} {N : Nat} {D : List Deferred} {e : Env} {b : Frame} {a : Act} {k : List Item} {cs : List Frame} {v : World}
variable {ops : Array Oper} {Lv : List (Option Nat × Op × Option (Nat × Bool))} {i : Nat} {rest : List Nat} {d : Nat}
/-- A new block, part of which is still from its beginning on. -/
theorem run_box (hb : b.kind ≠ .early) (hl : ops.toList.map view = Lv) {ty : TypeId} {q : Operand} (hi : Lv[i]? = some (some d, .box ty q, none)) (hd : d < N) (hat : AtE N D e a) {xs : Array Value} (hq : opv e q = some (.agg xs))
    (hbox : ∀ w, (Instr.box ty (.agg xs)).runT P w #[] = (.ok (.pointer (some ⟨w.heap.size, 0, none⟩)) (w.alloc (.cells xs ty (0, 0))), #[])) {o : Nat} (ho : o < xs.size) (hS : ∀ y, S' y ↔ S y ∨ y = ⟨v.heap.size, o, none⟩) (hr0 : Ready0 v)
    (H : ∀ a', AtE N D ((d, .pointer (some ⟨v.heap.size, 0, none⟩)) :: e) a' → Run P Done S' 0 n I (G (b.at a' (.inRegion ops rest :: k)) cs) (v.alloc (.cells xs ty (o, o + 1)))) :
    Run P Done S 0 n I (G (b.at a (.inRegion ops (i :: rest) :: k)) cs) v := by
  obtain ⟨op, hop, hdst, hopq, hg⟩ := at_view hl hi
  have hw : Region.wanted op (yielded ops a.tmps) = true := wanted_of hg _
  have hbk : ∀ td, ((b.at a td).kind == CallKind.early) = false := fun td => by simpa [Frame.at] using hb
  refine Run.grow rfl S' (fun _ _ => G (b.at (a.put (some d) (.pointer (some ⟨v.heap.size, 0, none⟩))) (.inRegion ops rest :: k)) cs) (fun t dd => (v.alloc (.cells xs ty (o, o + 1))).re t dd) (fun y h => (hS y).2 (.inl h)) (fun y h => ?_) (fun t dd wa hs ht hdr => ?_) fun t dd => (H _ (hat.put hd _)).re t dd
  · rcases (hS y).1 h with h | rfl
    · exact .inl h
    · exact .inr (Nat.le_refl _)
  · have hsz : wa.heap.size = v.heap.size := hs.size.symm
    refine ⟨wa.alloc (.cells xs ty (0, 0)), #[], ?_, ?_, Kept.push hs _, by simp⟩
    · rw [stepG_oper hop hw]
      unfold stepG.apply
      have hr : (execOp a.eval op).runT P wa #[] = (.ok (.value (.pointer (some ⟨wa.heap.size, 0, none⟩))) (wa.alloc (.cells xs ty (0, 0))), #[]) := by
        simp only [execOp, hopq, hat.eval hq]
        exact runT_then (hbox wa) rfl
      simp only [if_true, hr, hbk, Bool.false_eq_true, if_false]
      have hsn : seen P b.fn (#[] : Array Event) = #[] := by simp [seen]
      have hf := fin_at (b := b) (a := a) (k := k) (rest := rest) hop (.pointer (some ⟨wa.heap.size, 0, none⟩))
      rw [hdst, hsz] at hf
      show GStep.after (seen P b.fn #[]) (.go (G ((b.at a (.inRegion ops (i :: rest) :: k)).finish (.pointer (some ⟨wa.heap.size, 0, none⟩))) cs) (wa.alloc (.cells xs ty (0, 0)))) = _
      rw [hsn, hsz, hf]; rfl
    · have e1 : ∀ (w : World) (ob : Obj) (x : Nat), (w.alloc ob).heap[x]? = if x = w.heap.size then some ob else w.heap[x]? := fun w ob x => by
        show (w.heap.push ob)[x]? = _
        rw [Array.getElem?_push]
      refine ⟨hs.os, hs.output, by show (v.heap.push _).size = (wa.heap.push _).size; simp [hsz], fun x => ?_, fun y hy => ?_, fun x c' e' => ?_⟩
      · show BSim false ((v.alloc (.cells xs ty (o, o + 1))).heap[x]?) _
        rw [e1, e1, hsz]
        by_cases hx : x = v.heap.size
        · rw [if_pos hx, if_pos hx]
          exact ⟨rfl, rfl, by simp⟩
        · rw [if_neg hx, if_neg hx]; exact hs.block x
      · rcases (hS y).1 hy with h | rfl
        · obtain ⟨h1, h2, z, hz⟩ := hs.still y h
          have hlt := cell_low hz
          have hne : y.block ≠ v.heap.size := by have : y.block < v.heap.size := hlt; omega
          refine ⟨h1, ?_, z, ?_⟩
          · show (v.alloc (.cells xs ty (o, o + 1))).frozen? y = true
            unfold World.frozen? at h2 ⊢
            rw [e1, if_neg hne]; exact h2
          · show (v.alloc (.cells xs ty (o, o + 1))).cell? y = some z
            unfold World.cell? at hz ⊢
            rw [e1, if_neg hne]; exact hz
        · refine ⟨rfl, ?_, xs[o], ?_⟩
          · show (v.alloc (.cells xs ty (o, o + 1))).frozen? _ = true
            unfold World.frozen?; rw [e1]; simp
          · show (v.alloc (.cells xs ty (o, o + 1))).cell? _ = some _
            unfold World.cell?; rw [e1]; simp [ho]
      · show (v.alloc (.cells xs ty (o, o + 1))).heap[x]? ≠ _
        rw [e1]
        split
        · simp
        · exact hr0 x c' e'
/-- go f(args): the step. -/
theorem spawn_step {main : Bool} (hb : b.kind ≠ .early) (hl : ops.toList.map view = Lv) {f : FuncId} {qs : Array Operand} {ats : Array TypeId} (hi : Lv[i]? = some (none, .go { callee := .value (.func f), args := qs, argTypes := ats }, none)) (hat : AtE N D e a) {vals : Array Value} (ha : qs.toList.map (opv e) = vals.toList.map some) (w : World) :
    stepG P main (G (b.at a (.inRegion ops (i :: rest) :: k)) cs) w = .spawn (G (b.at a (.inRegion ops rest :: k)) cs) (G (bottom P [{ target := .fn (.func f) #[], args := vals }]) []) w #[] := by
  obtain ⟨o, ho, hdst, hop, hg⟩ := at_view hl hi
  have hw : Region.wanted o (yielded ops a.tmps) = true := wanted_of hg _
  have hk' : (b.kind == CallKind.early) = false := by simpa using hb
  have hargs : qs.map a.eval = vals := by
    apply Array.ext'
    rw [Array.toList_map]
    have : ∀ (l : List Operand) (m : List Value), l.map (opv e) = m.map some → l.map a.eval = m := by
      intro l
      induction l with
      | nil => intro m h; cases m with
        | nil => rfl
        | cons _ _ => cases h
      | cons x l ih => intro m h; cases m with
        | nil => cases h
        | cons y m =>
          simp only [List.map_cons, List.cons.injEq] at h ⊢
          exact ⟨hat.eval h.1, ih m h.2⟩
    exact this _ _ ha
  have hr : (execOp a.eval o).run P w = .ok (.spawn { target := .fn (.func f) #[], args := vals }) w := by
    unfold execOp
    simp [hop, resolve, Deferred.ofValue, act_func, hargs]
  have he : (execOp a.eval o).events P w #[] = #[] := by
    unfold execOp
    simp [hop, resolve, Deferred.ofValue, act_func]
  have hfin := fin_at (b := b) (a := a) (k := k) (rest := rest) ho undef
  rw [hdst] at hfin
  have hfin' : (b.at a (.inRegion ops (i :: rest) :: k)).finish undef = b.at a (.inRegion ops rest :: k) := hfin
  rw [stepG_oper ho hw]
  simp [stepG.apply, hr, he, G, Frame.at, hk', GStep.after, seen_none, bottom]
  simpa [Frame.at] using hfin'
end
theorem info_unit : ∃ i, Try.prog.info? 94 = some i := by
  have h : (Try.prog.info? 94).isSome = true := by kernel_rfl
  exact Option.isSome_iff_exists.1 h
theorem mc_chan {v : World} {e : Env} : RunsTo Try.prog e (.makeChan 71 (.const (.int .i64 0))) v (.value (.chan (some v.heap.size))) (v.alloc (.chan 0 #[] false 0 0 false)) := fun ρ o hρ ho t d => by
  have h := hρ (.const (.int .i64 0)) _ rfl
  obtain ⟨i, hi⟩ := info_unit
  simp only [execOp, ho, h]
  exact run_then (run_makeChan (w := v.re t d) (n := 0) Try.underlying71 hi .i64 (by decide) (by simp)) rfl
theorem box_thread (x0 x1 x2 x3 x4 x5 x6 : Value) (w : World) : (Instr.box 76 (.agg #[x0, x1, x2, x3, x4, x5, x6])).runT Try.prog w #[] = (.ok (.pointer (some ⟨w.heap.size, 0, none⟩)) (w.alloc (.cells #[x0, x1, x2, x3, x4, x5, x6] 76 (0, 0))), #[]) := by
  simp [go_sem]
theorem grow_chan {v : World} {c : Nat} {buf : Array Value} {cl : Bool} {x y : Nat} {tm : Bool} : Grow v (v.alloc (.chan c buf cl x y tm)) := by
  have e : (v.alloc (.chan c buf cl x y tm)).heap = v.heap.push (.chan c buf cl x y tm) := rfl
  refine ⟨by rw [e]; simp, fun b hb => ?_, fun hr r a b h => ?_⟩
  · rw [e, Array.getElem?_push, if_neg (by omega)]
  · rw [e, Array.getElem?_push] at h
    split at h
    · cases h
    · exact hr r a b h
end Go.Proofs.Ytecdiejeofclaaa

