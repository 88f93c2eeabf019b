/- Joined texts: InfR SysF InfS SysG SysH InfT SysI SysJ SysK SysL SysM SysN SkB InfU. -/
import Derived.Test.YtlnjmheocfbimaaM02
import Derived.IntWalk
import Derived.Laws.LoneSync
import Derived.Deep.AppendLies
import Derived.KernelRfl
/- Infrastructure R: the walk through a region whose order is drawn. -/
namespace Go.Proofs.Ytlnjmheocfbimaa
open Go Go.Conc
section
variable {P : Program} {S : Addr → Prop} {main : Bool} {Stop : Goroutine → World → Prop} {N : Nat} {D : List Deferred} {e : Env}
variable {b : Frame} {a : Act} {k : List Item} {cs : List Frame} {v : World} {L : Allow}
theorem hold_region_draw {id : Nat} {ops : Array Oper} (hm : P.follows .mixedOrders = true) (H : ∀ t, Hold P main S Stop (G (b.at a (.inRegion ops (Region.linearise.go .any ops ops.size t (Array.replicate ops.size false) []) :: k)) cs) v) :
    Hold P main S Stop (G (b.at a (.code (.region id ops true) :: k)) cs) v :=
  .step _ v rfl fun t d => ⟨G (b.at a (.inRegion ops (Region.schedule (P.follows .mixedOrders) ops (t d (.order b.fn id))) :: k)) cs, v.re t (d + 1), fun wa hs ht hd => by
    subst ht hd
    refine ⟨{ wa with drawn := wa.drawn + 1 }, #[], stepG_draw, ⟨hs.os, hs.output, hs.size, hs.block, hs.still, hs.ready⟩, ⟨Nat.le_refl _, fun _ _ h _ => h, fun _ _ => rfl, rfl, Nat.le_succ _, ⟨fun b c e f h => ⟨c, h⟩, rfl, rfl, rfl, fun _ _ h _ _ => h⟩⟩, rfl, ?_, by simp⟩
    show wa.drawn + 1 + wa.drawn = wa.drawn + 1 + wa.drawn
    omega, by
    have := (H (t d (.order b.fn id))).re t (d + 1)
    simp only [Region.schedule, hm, Bool.true_or, if_true]
    exact this⟩
theorem look_ei {V : List (Option Nat × Op × Option (Nat × Bool))} {ys : Nat → Value} {ei : Nat → Env} {dd : Nat → Nat} {m : Nat} (h : ∀ i, i < m → ei (i + 1) = (dd i, ys i) :: ei i) : ∀ (i : Nat), i ≤ m → ∀ t x, look (ei i) t = some x →
    (∃ j, j < i ∧ dd j = t ∧ x = ys j) ∨ (look (ei 0) t = some x ∧ ∀ j, j < i → dd j ≠ t)
  | 0, _, t, x, hx => .inr ⟨hx, fun j hj => by omega⟩
  | i + 1, hi, t, x, hx => by
    rw [h i (by omega)] at hx
    unfold look at hx
    cases hb : Nat.beq (dd i) t with
    | true =>
      rw [hb] at hx
      cases hx
      exact .inl ⟨i, by omega, Nat.eq_of_beq_eq_true hb, rfl⟩
    | false =>
      rw [hb] at hx
      have hne : dd i ≠ t := fun e => by subst e; simp at hb
      rcases look_ei (V := V) h i (by omega) t x hx with ⟨j, hj, h1, h2⟩ | ⟨h1, h2⟩
      · exact .inl ⟨j, by omega, h1, h2⟩
      · refine .inr ⟨h1, fun j hj => ?_⟩
        rcases Nat.lt_succ_iff_lt_or_eq.1 hj with hj | rfl
        · exact h2 j hj
        · exact hne
theorem closure_listed {ops : Array Oper} {A : Array Bool} {m : Nat} (hdown : ∀ i, A.getD i false = true ∨ i = m → ∀ j ∈ bdeps ops i, A.getD j false = true) : ∀ (n : Nat) (s : List Nat), (∀ x ∈ s, A.getD x false = true ∨ x = m) → ∀ x ∈ closure ops n s, A.getD x false = true ∨ x = m
  | 0, s, hs, x, hx => hs x hx
  | n + 1, s, hs, x, hx => by
    unfold closure at hx
    refine closure_listed hdown n _ (fun y hy => ?_) x hx
    split at hy
    · rename_i hc
      rcases List.mem_append.1 hy with hy | hy
      · exact .inl (hdown n (hs n (by simpa using hc)) y hy)
      · exact hs y hy
    · exact hs y hy
set_option maxHeartbeats 4000000 in
/-- ████ A REGION WHOSE ORDER IS DRAWN. ████ m operations that leave the world; behind them at most one more. -/
theorem hold_draw {id m : Nat} {ops : Array Oper} (hm : P.follows .mixedOrders = true) (hL : LOk P L) (hb : b.kind ≠ .early) {V : List (Option Nat × Op × Option (Nat × Bool))} (hl : ops.toList.map view = V) (hd : drawOk ops m = true)
    (hN : (dsts ops m).all (· < N) = true) (hv : Ready0 v) (hat : AtE N D e a) {K : Env → Prop} (hc : Chain P L v V (V.take m) e K)
    (H : ∀ e' a', K e' → AtE N D e' a' → Hold P main S Stop (G (b.at a' (.inRegion ops (if m = ops.size then [] else [m]) :: k)) cs) v) :
    Hold P main S Stop (G (b.at a (.code (.region id ops true) :: k)) cs) v := by
  refine hold_region_draw hm fun t => ?_
  simp only [drawOk, Bool.and_eq_true, List.all_eq_true, List.mem_range, decide_eq_true_eq] at hd
  obtain ⟨⟨hdep, hops⟩, hlast⟩ := hd
  have hVlen : V.length = ops.size := by rw [← hl]; simp
  have hmn : m ≤ ops.size := by
    simp only [Bool.or_eq_true, beq_iff_eq, Bool.and_eq_true] at hlast
    rcases hlast with h | ⟨h, _⟩ <;> omega
  obtain ⟨ys, ei, hei0, hK, hat0⟩ := chain_at (V.take m) 0 e hc
  have hlen : (V.take m).length = m := by simp; omega
  rw [hlen] at hat0 hK
  simp only [Nat.zero_add] at hK hat0
  have hop : ∀ i, i < m → ∃ o d, ops[i]? = some o ∧ o.dst = some d ∧ ChainAt P L v V ys ei i d o.op o.guard := by
    intro i hi
    obtain ⟨d, op, gd, h1, h2⟩ := hat0 i hi
    have h3 : V[i]? = some (some d, op, gd) := by rw [List.getElem?_take] at h1; rw [if_pos hi] at h1; exact h1
    rw [← hl, List.getElem?_map, Array.getElem?_toList] at h3
    cases ho : ops[i]? with
    | none => rw [ho] at h3; cases h3
    | some o =>
      rw [ho] at h3
      simp only [Option.map_some, view, Option.some.injEq, Prod.mk.injEq] at h3
      exact ⟨o, d, rfl, h3.1, by rw [h3.2.1, h3.2.2]; exact h2⟩
  let dd : Nat → Nat := fun i => (((ops[i]?).bind (·.dst)).getD 0)
  have hdd : ∀ i, i < m → (ops[i]?).bind (·.dst) = some (dd i) := fun i hi => by
    obtain ⟨o, d, h1, h2, _⟩ := hop i hi
    simp [dd, h1, h2]
  have hnext : ∀ i, i < m → ei (i + 1) = (dd i, ys i) :: ei i := fun i hi => by
    obtain ⟨o, d, h1, h2, h3⟩ := hop i hi
    rw [h3.next]; simp [dd, h1, h2]
  have hinj : ∀ i j, i < m → j < m → dd i = dd j → i = j := by
    intro i j hi hj hij
    obtain ⟨o, d, h1, h2, _⟩ := hop i hi
    have := hops i hi
    rw [h1] at this
    simp only [h2, Bool.and_eq_true, List.all_eq_true, List.mem_range] at this
    have h4 := this.1.1 j hj
    simp only [Bool.or_eq_true, beq_iff_eq, bne_iff_ne] at h4
    rcases h4 with h4 | h4
    · exact h4.symm
    · refine absurd ?_ h4
      rw [hdd j hj, ← hij]; simp [dd, h1, h2]
  have hdN : ∀ i, i < m → dd i < N := fun i hi => by
    have := hN
    simp only [List.all_eq_true, decide_eq_true_eq] at this
    exact this _ (by simp only [dsts, List.mem_filterMap, List.mem_range]; exact ⟨i, hi, hdd i hi⟩)
  let Inv : Array Bool → Act → Prop := fun A a => a.defers = D ∧ a.tmps.size = N ∧ (∀ t x, look e t = some x → (∀ j, j < m → dd j ≠ t) → a.tmps[t]? = some x) ∧ ∀ i, i < m → A.getD i false = true → a.tmps[dd i]? = some (ys i)
  have hput : ∀ (A : Array Bool) (a : Act) (i : Nat), Inv A a → i < m → i < A.size → Inv (A.setIfInBounds i true) (a.put (some (dd i)) (ys i)) := by
    intro A a i hI hi hiA
    obtain ⟨h1, h2, h3, h4⟩ := hI
    refine ⟨h1, by simp [Act.put, h2], fun t x hx hne => ?_, fun j hj hA => ?_⟩
    · simp [Act.put, Array.getElem?_setIfInBounds_ne (hne i hi), h3 t x hx hne]
    · rw [getD_set hiA] at hA
      by_cases e : j = i
      · subst e; simp [Act.put, h2, hdN j hi]
      · rw [if_neg e] at hA
        have hne : dd i ≠ dd j := fun x => e (hinj i j hi hj x).symm
        simp [Act.put, Array.getElem?_setIfInBounds_ne hne, h4 j hj hA]
  have hrestr : ∀ (A : Array Bool) (a : Act) (i : Nat) (o : Oper), Inv A a → i < m → ops[i]? = some o → (∀ j ∈ bdeps ops i, A.getD j false = true) → AtE N D (restr (ei i) o.op) a := by
    intro A a i o hI hi ho hdeps
    obtain ⟨h1, h2, h3, h4⟩ := hI
    refine ⟨h1, h2, fun t x hx => ?_⟩
    obtain ⟨hx1, hx2⟩ := look_filter (fun u => (opTmps o.op).contains u) (ei i) t x hx
    have hs := hops i hi
    rw [ho] at hs
    simp only [Bool.and_eq_true, List.all_eq_true] at hs
    have hs2 := hs.1.2 t (by simpa using hx1)
    simp only [Bool.or_eq_true, List.any_eq_true, Bool.and_eq_true, decide_eq_true_eq, beq_iff_eq, Bool.not_eq_true'] at hs2
    rcases look_ei (V := V) hnext i (by omega) t x hx2 with ⟨j, hj, hjt, rfl⟩ | ⟨hx3, hne⟩
    · rcases hs2 with ⟨j', hj', hj'm, hj't⟩ | hs2
      · have : dd j' = t := by simp [dd, hj't]
        have e : j' = j := hinj j' j hj'm (by omega) (this.trans hjt.symm)
        subst e
        rw [← hjt]
        exact h4 j' hj'm (hdeps j' hj')
      · exfalso
        have : t ∈ dsts ops m := by simp only [dsts, List.mem_filterMap, List.mem_range]; exact ⟨j, by omega, by rw [hdd j (by omega), hjt]⟩
        rw [List.contains_iff_mem.2 this] at hs2; cases hs2
    · rw [hei0] at hx3
      rcases hs2 with ⟨j', hj', hj'm, hj't⟩ | hs2
      · exfalso
        have h5 : j' < i := hdep i (by omega) j' hj'
        exact hne j' h5 (by simp [dd, hj't])
      · refine h3 t x hx3 fun j hj e => ?_
        have : t ∈ dsts ops m := by simp only [dsts, List.mem_filterMap, List.mem_range]; exact ⟨j, hj, by rw [hdd j hj, e]⟩
        rw [List.contains_iff_mem.2 this] at hs2; cases hs2
  have hend : ∀ (A : Array Bool) (a : Act), Inv A a → (∀ i, i < m → A.getD i false = true) → AtE N D (ei m) a := by
    intro A a hI hall
    obtain ⟨h1, h2, h3, h4⟩ := hI
    refine ⟨h1, h2, fun t x hx => ?_⟩
    rcases look_ei (V := V) hnext m (Nat.le_refl _) t x hx with ⟨j, hj, rfl, rfl⟩ | ⟨hx3, hne⟩
    · exact h4 j hj (hall j hj)
    · rw [hei0] at hx3; exact h3 t x hx3 hne
  have hfin : ∀ (A : Array Bool), A.size = ops.size → (∀ i, i < ops.size → A.getD i false = true) → ∀ fuel t, Region.linearise.go .any ops fuel t A [] = [] := by
    intro A hA hall fuel t
    cases fuel with
    | zero => rfl
    | succ fuel =>
      rcases go_next (ops := ops) (fuel := fuel) (t := t) (listed := A) with ⟨_, h⟩ | ⟨i, t', h, _⟩
      · exact h
      · obtain ⟨h1, h2, _⟩ := (ready_iff hA).1 h
        rw [hall i h1] at h2; cases h2
  have main' : ∀ (fuel t : Nat) (A : Array Bool) (a : Act) (w : World), A.size = ops.size → unl ops.size A ≤ fuel → (∀ i, A.getD i false = true → ∀ j ∈ bdeps ops i, A.getD j false = true) → (m ≠ ops.size → A.getD m false = false) → Inv A a → LikeW v w →
      Hold P main S Stop (G (b.at a (.inRegion ops (Region.linearise.go .any ops fuel t A []) :: k)) cs) w := by
    intro fuel
    induction fuel with
    | zero =>
      intro t A a w hA hu hdn hmm hI hw
      have hall : ∀ i, i < ops.size → A.getD i false = true := by
        intro i hi
        have h0 : unl ops.size A = 0 := by omega
        unfold unl at h0
        rw [List.countP_eq_zero] at h0
        simpa using h0 i (by simpa using hi)
      have hmz : m = ops.size := by
        apply Classical.byContradiction
        intro hne
        have := hmm hne
        rw [hall m (by omega)] at this; cases this
      have := H _ a hK (hend A a hI fun i hi => hall i (by omega))
      rw [if_pos hmz] at this
      exact this.of_like hw.1 hw.2.1 hw.2.2
    | succ fuel ih =>
      intro t A a w hA hu hdn hmm hI hw
      rcases go_next (ops := ops) (fuel := fuel) (t := t) (listed := A) with ⟨hr, h⟩ | ⟨i, t', hr, h⟩
      · rw [h]
        have hall : ∀ n i, i ≤ n → i < ops.size → A.getD i false = true := by
          intro n
          induction n with
          | zero =>
            intro i hi hlt
            obtain rfl : i = 0 := by omega
            apply Classical.byContradiction
            intro hne
            have : 0 ∈ Region.ready .any ops A := (ready_iff hA).2 ⟨hlt, by simpa using hne, fun j hj => by have := hdep 0 hlt j hj; omega⟩
            rw [hr] at this; cases this
          | succ n ihn =>
            intro i hi hlt
            apply Classical.byContradiction
            intro hne
            have : i ∈ Region.ready .any ops A := (ready_iff hA).2 ⟨hlt, by simpa using hne, fun j hj => by
              have := hdep i hlt j hj
              exact ihn j (by omega) (by omega)⟩
            rw [hr] at this; cases this
        have hall' : ∀ i, i < ops.size → A.getD i false = true := fun i hi => hall i i (Nat.le_refl _) hi
        have hmz : m = ops.size := by
          apply Classical.byContradiction
          intro hne
          have := hmm hne
          rw [hall' m (by omega)] at this; cases this
        have := H _ a hK (hend A a hI fun i hi => hall' i (by omega))
        rw [if_pos hmz] at this
        exact this.of_like hw.1 hw.2.1 hw.2.2
      · obtain ⟨hi, hni, hdeps⟩ := (ready_iff hA).1 hr
        rw [h]
        by_cases him : i < m
        · obtain ⟨o, d, ho, hod, hch⟩ := hop i him
          have hdi : dd i = d := by simp [dd, ho, hod]
          have hunl : unl ops.size (A.setIfInBounds i true) ≤ fuel := by
            have : unl ops.size (A.setIfInBounds i true) < unl ops.size A := by
              unfold unl
              refine countP_lt _ i (fun x hx => ?_) (by simpa using hi) (by simp [hni]) (by simp [getD_set (show i < A.size by omega)])
              rw [getD_set (by omega)] at hx
              by_cases e : x = i
              · subst e; simp [hni]
              · rw [if_neg e] at hx; exact hx
            omega
          have hdn' : ∀ j, (A.setIfInBounds i true).getD j false = true → ∀ l ∈ bdeps ops j, (A.setIfInBounds i true).getD l false = true := by
            intro j hj l hl'
            rw [getD_set (by omega)] at hj ⊢
            split
            · rfl
            · split at hj
              · rename_i e; subst e; exact hdeps l hl'
              · exact hdn j hj l hl'
          have hmm' : m ≠ ops.size → (A.setIfInBounds i true).getD m false = false := fun hne => by
            rw [getD_set (by omega), if_neg (by omega)]; exact hmm hne
          have go1 : ∀ w', LikeW v w' → Hold P main S Stop (G (b.at (a.put o.dst (ys i)) (.inRegion ops (Region.linearise.go .any ops fuel t' (A.setIfInBounds i true) []) :: k)) cs) w' := fun w' hw' => by
            rw [hod, ← hdi]
            exact ih t' _ _ w' (by simpa using hA) hunl hdn' hmm' (hput A a i hI him (by omega)) hw'
          have hre := hrestr A a i o hI him ho hdeps
          have doit : Region.wanted o (yielded ops a.tmps) = true → Does1 P L (restr (ei i) o.op) o.op v (ys i) → Hold P main S Stop (G (b.at a (.inRegion ops (i :: Region.linearise.go .any ops fuel t' (A.setIfInBounds i true) []) :: k)) cs) w := by
            intro hwant hdo
            have : Hold P main S Stop (G (b.at a (.inRegion ops (i :: Region.linearise.go .any ops fuel t' (A.setIfInBounds i true) []) :: k)) cs) v := by
              cases hdo with
              | run hok hrun => exact hold_pure' hL.2 hb ho hwant hok (fun t d => hrun _ o (fun q z hz => hre.eval hz) rfl t d) (go1 v ⟨rfl, rfl, rfl⟩)
              | call hok f args hrun fn hf hres hbody hbw =>
                refine hold_enter' hL.2 hb ho hwant hok (fun t d => hrun _ o (fun q z hz => hre.eval hz) rfl t d) (hold_callee hL hf hres hbody hv hbw fun x w' hx _ => ?_)
                obtain ⟨rfl, hw'⟩ := hx
                rw [fin_at ho]
                exact go1 w' hw'
            exact this.of_like hw.1 hw.2.1 hw.2.2
          cases hgd : o.guard with
          | none => exact doit (wanted_of hgd _) (hch.go.2 hgd)
          | some gw =>
            obtain ⟨g, w0⟩ := gw
            obtain ⟨dg, bv, g1, g2, g3, g4⟩ := hch.go.1 g w0 hgd
            have hs := hops i him
            rw [ho] at hs
            simp only [hgd, Bool.and_eq_true, decide_eq_true_eq] at hs
            have hgm := hs.2.2
            have hgl : A.getD g false = true := hdeps g (by simpa using hs.2.1)
            have hgd' : dd g = dg := by
              have := hdd g hgm
              rw [← hl, List.getElem?_map, Array.getElem?_toList] at g1
              cases hog : ops[g]? with
              | none => rw [hog] at g1; cases g1
              | some og => rw [hog] at g1 this; simp only [Option.map_some, Option.bind_some, view] at g1 this; rw [g1] at this; exact (Option.some.inj this).symm
            have hyg : ys g = .bool bv := by
              have hgi : g < i := hdep i (by omega) g (by simpa using hs.2.1)
              rcases look_ei (V := V) hnext i (by omega) dg _ g2 with ⟨j, hj, hjt, hx⟩ | ⟨_, hne⟩
              · have : j = g := hinj j g (by omega) hgm (hjt.trans hgd'.symm)
                subst this; exact hx.symm
              · exact absurd hgd' (hne g hgi)
            have hyl : yielded ops a.tmps g = some bv := by
              unfold yielded
              rw [hdd g hgm]
              simp only [Option.bind_some]
              rw [hI.2.2.2 g hgm hgl, hyg]
            by_cases hbw : bv = w0
            · exact doit (by simp [Region.wanted, hgd, hyl, hbw]) (g3 hbw)
            · have hy : ys i = undef := g4 (by cases bv <;> cases w0 <;> simp_all)
              refine hold_same rfl (fun w1 => stepG_idle (by simp [ho, Region.wanted, hgd, hyl, hbw])) ?_
              have := go1 w hw
              rw [hy] at this
              rw [ho]
              exact this
        · -- the last one
          have hlst : m + 1 = ops.size ∧ ∀ x, x < m → x ∈ closure ops ops.size [m] := by
            simp only [Bool.or_eq_true, beq_iff_eq, Bool.and_eq_true, List.all_eq_true, List.mem_range] at hlast
            rcases hlast with h | ⟨h1, h2⟩
            · omega
            · exact ⟨h1, fun x hx => by simpa using h2 x hx⟩
          obtain rfl : i = m := by omega
          have hall : ∀ x, x < i → A.getD x false = true := fun x hx => by
            rcases closure_listed (ops := ops) (A := A) (m := i) (fun y hy j hj => by
              rcases hy with hy | rfl
              · exact hdn y hy j hj
              · exact hdeps j hj) ops.size [i] (fun y hy => .inr (by simpa using hy)) x (hlst.2 x hx) with h | h
            · exact h
            · omega
          have := H _ a hK (hend A a hI hall)
          rw [if_neg (by omega)] at this
          rw [hfin _ (by simpa using hA) (fun x hx => by
            rw [getD_set (by omega)]
            split
            · rfl
            · exact hall x (by omega))]
          exact this.of_like hw.1 hw.2.1 hw.2.2
  have h0 : ∀ i, (Array.replicate ops.size false).getD i false = false := fun i => by
    simp only [Array.getD_eq_getD_getElem?]
    by_cases h : i < ops.size <;> simp [h]
  exact main' ops.size t _ a v (by simp) (by unfold unl; exact Nat.le_trans List.countP_le_length (by simp)) (fun i hi => by rw [h0] at hi; cases hi) (fun _ => h0 m) ⟨hat.defers, hat.size, fun t x hx _ => hat.val t x hx, fun i _ hi => by rw [h0] at hi; cases hi⟩ ⟨rfl, rfl, rfl⟩
end
end Go.Proofs.Ytlnjmheocfbimaa

/- Did. -/
namespace Go.Proofs.Ytlnjmheocfbimaa
open Go Go.Conc
theorem mixed_ok : Try.prog.follows .mixedOrders = true := by kernel_rfl
section
variable {P : Program} {L : Allow} {v : World} {V l : List (Option Nat × Op × Option (Nat × Bool))} {e : Env} {K : Env → Prop} {d : Nat} {op : Op} {y : Value}
theorem ch_nil (h : K e) : Chain P L v V [] e K := h
theorem ch_run (hok : opOk P L op = true) (h : RunsTo P (restr e op) op v (.value y) v) (H : Chain P L v V l ((d, y) :: e) K) : Chain P L v V ((some d, op, none) :: l) e K := ⟨y, .run hok h, H⟩
theorem ch_yes {g dg : Nat} {w : Bool} (hg : (V[g]?).bind (·.1) = some dg) (hb : look e dg = some (.bool w)) (hok : opOk P L op = true) (h : RunsTo P (restr e op) op v (.value y) v) (H : Chain P L v V l ((d, y) :: e) K) : Chain P L v V ((some d, op, some (g, w)) :: l) e K := ⟨dg, w, hg, hb, .inl ⟨rfl, y, .run hok h, H⟩⟩
theorem ch_no {g dg : Nat} {w : Bool} (hg : (V[g]?).bind (·.1) = some dg) (hb : look e dg = some (.bool !w)) (H : Chain P L v V l ((d, undef) :: e) K) : Chain P L v V ((some d, op, some (g, w)) :: l) e K := ⟨dg, _, hg, hb, .inr ⟨rfl, H⟩⟩
theorem r_pick {q q1 q2 : Operand} {b : Bool} {y : Value} (h : opv e q = some (.bool b)) (hy : opv e (if b then q1 else q2) = some y) : RunsTo P e (.pick q q1 q2) v (.value y) v := fun ρ o hρ ho t d => by
  simp only [execOp, ho, hρ _ _ h]
  cases b
  · have := hρ _ _ hy; simp at this; simp [asBool, this]
  · have := hρ _ _ hy; simp at this; simp [asBool, this]
end
/-- A cell's count goes up. -/
theorem WI.bumped {Γ : Gho} {A : Sys} {v : World} (hW : WI Γ A v) {c : Nat} {x : Int} (hx : A.cnt[c]? = some x) (hlt : x < 2 ^ 40) {arr : Array Value} {g n cap : Nat} (hw : v.heap[Γ.W]? = some (.cells arr 74 (8, 9))) (hcv : arr[3]? = some (.slice (some ⟨g, 0, none⟩) n cap)) :
    WI Γ (A.bump c) (v.setCell ⟨g, c, none⟩ (.int .i64 (x + 1))) ∧ Γ.own g = .sys := by
  obtain ⟨y1, y2, y3, y4, y5, y6, y7, y8, y9, y10, y11, y12, y13, y14, y15⟩ := tys
  obtain ⟨sv, cv, tv, rv, hw0, r1, r2, r3, r4, o1, o2, o3, o4, o5⟩ := hW.world
  rw [hw] at hw0
  simp only [Option.some.injEq, Obj.cells.injEq, and_true] at hw0
  subst hw0
  simp at hcv
  subst hcv
  have hclt := (List.getElem?_eq_some_iff.1 hx).1
  have r2' := r2
  rcases r2.2 with ⟨h, h0⟩ | ⟨g', cap', cur, h, hb0, hg, hnc, hcm, hcs, htk⟩
  · cases h
  · cases h
    have keep : ∀ {b : Nat} {c' : Array Value} {e : TypeId} {f : Nat × Nat}, v.heap[b]? = some (.cells c' e f) → e ≠ 3 → (v.setCell ⟨g, c, none⟩ (.int .i64 (x + 1))).heap[b]? = v.heap[b]? := fun hb hne => set_other (ne_of_types hb hg hne)
    have hch : ∀ c', fresh v c' → fresh (v.setCell ⟨g, c, none⟩ (.int .i64 (x + 1))) c' := fun c' hc => fresh_keep hc (set_other (ne_of_chan hg hc))
    refine ⟨⟨ready_set hW.ready, ⟨sv, _, tv, rv, (keep hw y2).trans hw, ?_, ?_, ?_, ?_, o1, o2, o3, o4, o5⟩, fun j tj hj => ?_, ⟨hch _ hW.back.1, hW.back.2⟩, fun c' x' hc => ?_, hW.used, fun z hz => ?_, hW.chansApart, hW.backApart, by simpa [Sys.bump] using hW.nc, hW.vals64⟩, o2 g rfl⟩
    · refine ownsRow_keep r1 fun b c' hbk hb => set_other fun e => ?_
      subst e
      rcases o5 with h | h
      · rw [h] at hbk; cases hbk
      · exact h hbk
    · refine ⟨by simp [Sys.bump, ints], .inr ⟨g, cap, _, by simp [Sys.bump], hb0, set_self hg, by simpa [Sys.bump] using hnc, hcm, by simpa using hcs, ?_⟩⟩
      have hl : (A.cnt.modify c (· + 1)).length = A.cnt.length := by simp
      simp only [Sys.bump, hl, Array.toList_setIfInBounds, Nat.mul_one]
      rw [List.take_set, show cur.toList.take A.cnt.length = ints A.cnt from by simpa using htk]
      simp only [ints]
      apply List.ext_getElem?
      intro j
      rw [List.getElem?_set, List.getElem?_map, List.getElem?_map, List.getElem?_modify]
      by_cases e : c = j
      · subst e
        rw [hx]; simp [hclt]
      · simp [e]
    · exact ownsRow_keep r3 fun b c' _ hb => keep hb y10.symm
    · exact ownsRow_keep r4 fun b c' _ hb => keep hb y11.symm
    · obtain ⟨h1, h2, h3, h4⟩ := hW.th j tj hj
      exact ⟨(keep h1 y6).trans h1, hch _ h2, h3, h4⟩
    · obtain ⟨h1, h2⟩ := hW.cells c' x' hc
      exact ⟨(keep h1 y12.symm).trans h1, h2⟩
    · obtain ⟨j, hj⟩ := List.mem_iff_getElem?.1 (show z ∈ A.cnt.modify c (· + 1) from hz)
      rw [List.getElem?_modify] at hj
      cases hy : A.cnt[j]? with
      | none => rw [hy] at hj; cases hj
      | some y0 =>
        rw [hy] at hj
        have hm := hW.ints64 y0 (List.mem_of_getElem? hy)
        by_cases e : c = j
        · subst e
          rw [hx] at hy; cases hy
          simp at hj; omega
        · simp [e] at hj; omega
/-- What Did does. -/
def Sys.did (A : Sys) (i : Nat) (op : Int) (c : Nat) (x y : Int) : Sys := if x = y then A.note i op c x y else (A.note i op c x y).bump c
theorem did_hold {main : Bool} {S : Addr → Prop} {Stop : Goroutine → World → Prop} {i : Nat} {Γ : Gho} {A : Sys} {v : World} (hW : WI Γ A v) {tt : TSt} (ht : A.ths[i]? = some tt) (hlen : A.trace.length < traceMax) {cc : Nat} (hcc : tt.cell = cc) {z : Int} (hz : A.cnt[cc]? = some z) (x y : Int) (hzl : x ≠ y → z < 2 ^ 40) (c : Frame) (cs : List Frame)
    (K : ∀ v', WI (Γ.ext v .sys) (A.did i tt.op cc x y) v' → (∀ i n, Guar i n Γ v (Γ.ext v .sys) v') → (∀ i, Rely i Γ v (Γ.ext v .sys) v') → Hold Try.prog main S Stop (G (c.finish (.tuple #[])) cs) v') :
    Hold Try.prog main S Stop (G (Frame.enter Try.prog 37 #[.pointer (some ⟨Γ.tb i, 0, none⟩), .int .i64 x, .int .i64 y] .normal) (c :: cs)) v := by
  have hi : i < A.ths.length := (List.getElem?_eq_some_iff.1 ht).1
  obtain ⟨hti, hgi, hoi, hogi⟩ := hW.th i tt ht
  rw [enter_at Did_fn Did_body]
  generalize hb0 : ({ (default : Frame) with fn := 37, kind := .normal } : Frame) = b
  have hbk : b.kind ≠ .early := by subst hb0; simp
  have c0 : v.cell? ⟨Γ.tb i, 0, none⟩ = some (.pointer (some ⟨Γ.W, 0, none⟩)) := cell_of hti
  have c4 : v.cell? ⟨Γ.tb i, 4, none⟩ = some (.int .i64 tt.cell) := cell_of hti
  have c5 : v.cell? ⟨Γ.tb i, 5, none⟩ = some (.int .i64 tt.op) := cell_of hti
  have hat : AtE 63 [] [(0, .pointer (some ⟨Γ.tb i, 0, none⟩)), (1, .int .i64 x), (2, .int .i64 y)] { tmps := #[.pointer (some ⟨Γ.tb i, 0, none⟩), .int .i64 x, .int .i64 y] ++ Array.replicate (Try.f37.ntmps - 3) undef, defers := [] } := by
    rw [Did_tmps]; exact AtE.start #[.pointer (some ⟨Γ.tb i, 0, none⟩), .int .i64 x, .int .i64 y] 60
  generalize ({ tmps := #[.pointer (some ⟨Γ.tb i, 0, none⟩), .int .i64 x, .int .i64 y] ++ Array.replicate (Try.f37.ntmps - #[Value.pointer (some ⟨Γ.tb i, 0, none⟩), .int .i64 x, .int .i64 y].size) undef, defers := [] } : Act) = a at hat ⊢
  unfold Did_code
  refine hold_seq (hold_seq (hold_region (l := [0,1,2,3,4]) rfl ?_))
  refine h_val noA hbk Did_0 rfl rfl (by decide) hat (r_move rfl) fun a hat => ?_
  refine h_val noA hbk Did_0 rfl rfl (by decide) hat (r_nil rfl) fun a hat => ?_
  refine h_val noA hbk Did_0 rfl rfl (by decide) hat (r_field fk_th_0 rfl) fun a hat => ?_
  refine h_val noA hbk Did_0 rfl rfl (by decide) hat (r_load ld_pw rfl c0) fun a hat => ?_
  refine h_val noA hbk Did_0 rfl opOk_nil (by decide) hat (y := .bool false) (v' := v) (fun ρ o hρ ho t d => by
    have h1 := hρ (.tmp 9) _ rfl
    have h2 := hρ (.const (.pointer none)) _ rfl
    simp only [execOp, ho]
    simp [go_sem, h1, h2]) fun a hat => ?_
  refine hold_region_end (hold_cond (hat.eval rfl) (hold_skip (hold_seq ?_)))
  refine hold_draw (m := 11) mixed_ok ln_ok hbk Did_1 (by kernel_rfl) (by kernel_rfl) hW.ready hat (K := fun e' => e' = [(21, .int .i64 y), (20, .int .i64 x), (19, .int .i64 tt.cell), (18, .pointer (some ⟨Γ.tb i, 4, none⟩)), (17, .pointer (some ⟨Γ.tb i, 0, none⟩)), (16, .pointer (some ⟨Γ.tb i, 0, none⟩)), (15, .int .i64 tt.op), (14, .pointer (some ⟨Γ.tb i, 5, none⟩)), (13, .pointer (some ⟨Γ.tb i, 0, none⟩)), (12, .pointer (some ⟨Γ.tb i, 0, none⟩)), (11, .pointer (some ⟨Γ.tb i, 0, none⟩)),
    (10, .bool false), (9, .pointer (some ⟨Γ.W, 0, none⟩)), (8, .pointer (some ⟨Γ.tb i, 0, none⟩)), (7, .pointer (some ⟨Γ.tb i, 0, none⟩)), (6, .pointer (some ⟨Γ.tb i, 0, none⟩)), (0, .pointer (some ⟨Γ.tb i, 0, none⟩)), (1, .int .i64 x), (2, .int .i64 y)]) ?_ ?_
  · refine ch_run rfl (r_move rfl) (ch_run rfl (r_move rfl) (ch_run rfl (r_nil rfl) (ch_run rfl (r_field fk_th_5 rfl) (ch_run rfl (r_load ld_int rfl c5) (ch_run rfl (r_move rfl) (ch_run rfl (r_nil rfl) (ch_run rfl (r_field fk_th_4 rfl) (ch_run rfl (r_load ld_int rfl c4) (ch_run rfl (r_move rfl) (ch_run rfl (r_move rfl) (ch_nil ?_)))))))))))
    rfl
  · rintro _ a rfl hat
    refine h_enter (L := Ln) ln_ok.2 hbk Did_1 rfl (note_call (by simp)) hat (f := 52) (args := #[.pointer (some ⟨Γ.tb i, 0, none⟩), .int .i64 tt.op, .int .i64 tt.cell, .int .i64 x, .int .i64 y]) (fun ρ o hρ ho t d => by
      have h1 := hρ (.tmp 11) _ rfl
      have h2 := hρ (.tmp 15) _ rfl
      have h3 := hρ (.tmp 19) _ rfl
      have h4 := hρ (.tmp 20) _ rfl
      have h5 := hρ (.tmp 21) _ rfl
      have h6 := hρ (.func 52) _ rfl
      simp only [execOp, ho]
      simp [go_sem, h1, h2, h3, h4, h5, h6]) ?_
    refine note_hold rfl hW hi hlen _ _ _ _ _ _ fun v1 hW1 hG1 hR1 => ?_
    obtain ⟨a1, hat1, hfin⟩ := back_val (b := b) (a := a) (k := [.code (.seq (.region 2 (Rg Try.f37.body 2) true) (.cond (.tmp 47) (.region 3 (Rg Try.f37.body 3) true) .skip))]) (rest := []) Did_1 (i := 11) (d := 22) rfl (by decide) hat (.tuple #[])
    refine Eq.subst (motive := fun X => Hold Try.prog main S Stop (G X (c :: cs)) v1) hfin.symm ?_
    refine hold_region_end (hold_seq ?_)
    have hat2 : AtE 63 [] [(0, .pointer (some ⟨Γ.tb i, 0, none⟩)), (1, .int .i64 x), (2, .int .i64 y)] a1 := hat1.sub (AtE.cons rfl (AtE.cons rfl (AtE.cons rfl AtE.nil)))
    clear hat hat1
    obtain ⟨hti1, hgi1, hoi1, hogi1⟩ := hW1.th i tt ht
    obtain ⟨sv, cv, tv, rv, hw, r1, r2, r3, r4, o1, o2, o3, o4, o5⟩ := hW1.world
    have c0 : v1.cell? ⟨Γ.tb i, 0, none⟩ = some (.pointer (some ⟨Γ.W, 0, none⟩)) := cell_of hti1
    have c4 : v1.cell? ⟨Γ.tb i, 4, none⟩ = some (.int .i64 tt.cell) := cell_of hti1
    have w3 : v1.cell? ⟨Γ.W, 3, none⟩ = some cv := cell_of hw
    have hz1 : (ints A.cnt)[cc]? = some (.int .i64 z) := by simp [ints, hz]
    obtain ⟨g, cap, rfl, hcell, hclt, cur, hcur⟩ := ownsRow_at1 (n := A.cnt.length) r2 hz1
    have hz0 : 0 ≤ z := (hW.ints64 z (List.mem_of_getElem? hz)).1
    by_cases hxy : x = y
    · refine hold_draw (m := 25) mixed_ok ln_ok hbk Did_2 (by kernel_rfl) (by kernel_rfl) hW1.ready hat2 (K := fun e' => look e' 47 = some (.bool false)) ?_ ?_
      · refine ch_run rfl (r_move rfl) (ch_run rfl (r_move rfl) (ch_run (y := .bool false) (opOk_eq eqt_int) (fun ρ o hρ ho t d => by
          have h1 := hρ (.tmp 23) _ rfl
          have h2 := hρ (.tmp 24) _ rfl
          simp only [execOp, ho]
          simp [go_sem, h1, h2, hxy]) (ch_run rfl (r_move rfl) ?_)))
        iterate 5 (refine ch_no rfl rfl ?_)
        refine ch_run rfl (r_pick rfl rfl) (ch_run rfl (r_move rfl) ?_)
        iterate 13 (refine ch_no rfl rfl ?_)
        refine ch_run rfl (r_pick rfl rfl) (ch_nil rfl)
      · intro e' a' he hat'
        refine hold_region_end (hold_cond (hat'.eval (q := .tmp 47) he) (hold_skip (hold_end (.inl (by subst hb0; rfl)) (hold_return (by subst hb0; rfl) (by subst hb0; exact Did_fn) hat'.defers (ret_none Did_res _) ?_))))
        refine K v1 ?_ hG1 hR1
        have : A.did i tt.op cc x y = A.note i tt.op cc x y := by simp [Sys.did, hxy]
        rw [this, ← hcc]; exact hW1
    · have hzl' := hzl hxy
      have hge : (0 : Int) ≤ (cc : Int) := Int.natCast_nonneg cc
      have hlt : (cc : Int) < (A.cnt.length : Int) := by exact_mod_cast hclt
      refine hold_draw (m := 25) mixed_ok ln_ok hbk Did_2 (by kernel_rfl) (by kernel_rfl) hW1.ready hat2 (K := fun e' => look e' 47 = some (.bool true) ∧ look e' 0 = some (.pointer (some ⟨Γ.tb i, 0, none⟩))) ?_ ?_
      · refine ch_run rfl (r_move rfl) (ch_run rfl (r_move rfl) (ch_run (y := .bool true) (opOk_eq eqt_int) (fun ρ o hρ ho t d => by
          have h1 := hρ (.tmp 23) _ rfl
          have h2 := hρ (.tmp 24) _ rfl
          simp only [execOp, ho]
          simp [go_sem, h1, h2, hxy]) (ch_run rfl (r_move rfl) ?_)))
        refine ch_yes rfl rfl rfl (r_move rfl) (ch_yes rfl rfl rfl (r_nil rfl) (ch_yes rfl rfl rfl (r_field fk_th_4 rfl) (ch_yes rfl rfl rfl (r_load ld_int rfl c4) (ch_yes (y := .bool true) rfl rfl rfl (fun ρ o hρ ho t d => by
          have h1 := hρ (.tmp 30) _ rfl
          have h2 := hρ (.const (.int .i64 0)) _ rfl
          simp only [execOp, ho]
          simp [go_sem, h1, h2, hcc, hge]) ?_))))
        refine ch_run rfl (r_pick rfl rfl) (ch_run rfl (r_move rfl) ?_)
        refine ch_yes rfl rfl rfl (r_move rfl) (ch_yes rfl rfl rfl (r_nil rfl) (ch_yes rfl rfl rfl (r_field fk_th_4 rfl) (ch_yes rfl rfl rfl (r_load ld_int rfl c4) (ch_yes rfl rfl rfl (r_move rfl) (ch_yes rfl rfl rfl (r_nil rfl) (ch_yes rfl rfl rfl (r_field fk_th_0 rfl) (ch_yes rfl rfl rfl (r_load ld_pw rfl c0) (ch_yes rfl rfl rfl (r_nil rfl) (ch_yes rfl rfl rfl (r_field fk_w_3 rfl) (ch_yes rfl rfl rfl (r_load ld_ints rfl w3) ?_))))))))))
        refine ch_yes (y := .int .i64 A.cnt.length) rfl rfl rfl (fun ρ o hρ ho t d => by
          have h1 := hρ (.tmp 44) _ rfl
          simp only [execOp, ho]
          simp [go_sem, h1]) (ch_yes (y := .bool true) rfl rfl rfl (fun ρ o hρ ho t d => by
          have h1 := hρ (.tmp 37) _ rfl
          have h2 := hρ (.tmp 45) _ rfl
          simp only [execOp, ho]
          simp [go_sem, h1, h2, hcc, hlt]) (ch_run rfl (r_pick rfl rfl) (ch_nil ⟨rfl, rfl⟩)))
      · rintro e' a' ⟨he, he0⟩ hat'
        refine hold_region_end (hold_cond (hat'.eval (q := .tmp 47) he) ?_)
        have hat3 : AtE 63 [] [(0, .pointer (some ⟨Γ.tb i, 0, none⟩))] a' := hat'.sub (AtE.cons he0 AtE.nil)
        clear hat'
        refine hold_draw (m := 15) mixed_ok ln_ok hbk Did_3 (by kernel_rfl) (by kernel_rfl) hW1.ready hat3 (K := fun e' => look e' 62 = some (.pointer (some ⟨g, cc, none⟩)) ∧ look e' 61 = some (.int .i64 (z + 1))) ?_ ?_
        · have hix : ∀ t d, (execOp a.eval { dst := none, op := .move (.tmp 0), type := 0, pos := "", after := #[], guard := none }).run Try.prog (v1.re t d) = (execOp a.eval { dst := none, op := .move (.tmp 0), type := 0, pos := "", after := #[], guard := none }).run Try.prog (v1.re t d) := fun _ _ => rfl
          refine ch_run rfl (r_move rfl) (ch_run rfl (r_nil rfl) (ch_run rfl (r_field fk_th_0 rfl) (ch_run rfl (r_load ld_pw rfl c0) (ch_run rfl (r_nil rfl) (ch_run rfl (r_field fk_w_3 rfl) (ch_run rfl (r_load ld_ints rfl w3) (ch_run rfl (r_move rfl) (ch_run rfl (r_nil rfl) (ch_run rfl (r_field fk_th_4 rfl) (ch_run rfl (r_load ld_int rfl c4) ?_))))))))))
          refine ch_run (y := .pointer (some ⟨g, cc, none⟩)) rfl (fun ρ o hρ ho t d => by
            have h1 := hρ (.tmp 54) _ rfl
            have h2 := hρ (.tmp 58) _ rfl
            simp only [execOp, ho]
            simp [go_sem, h1, h2, hcc, hlt]) (ch_run rfl (r_load ld_int rfl hcell) (ch_run (y := .int .i64 (z + 1)) rfl (fun ρ o hρ ho t d => by
            have h1 := hρ (.tmp 60) _ rfl
            have h2 := hρ (.const (.int .i64 1)) _ rfl
            simp only [execOp, ho]
            simp [go_sem, h1, h2, IntWalk.i64_in (z + 1) (by omega)]) (ch_run (y := .pointer (some ⟨g, cc, none⟩)) rfl (fun ρ o hρ ho t d => by
            have h1 := hρ (.tmp 54) _ rfl
            have h2 := hρ (.tmp 58) _ rfl
            simp only [execOp, ho]
            simp [go_sem, h1, h2, hcc, hlt]) (ch_nil ⟨rfl, rfl⟩))))
        · rintro e' a' ⟨he1, he2⟩ hat'
          refine h_skip ln_ok.2 hbk Did_3 rfl rfl hat' (r_store st_int (by exact he1) (by exact he2) rfl hcell (frozen_of hcur)) fun a'' hat'' => ?_
          refine hold_region_end (hold_end (.inl (by subst hb0; rfl)) (hold_return (by subst hb0; rfl) (by subst hb0; exact Did_fn) hat''.defers (ret_none Did_res _) ?_))
          have hz2 : (A.note i tt.op cc x y).cnt[cc]? = some z := hz
          obtain ⟨hWb, hog⟩ := hW1.bumped hz2 (hzl hxy) hw rfl
          have hs : ∀ b, (Γ.ext v .sys).own b ≠ .sys → (v1.setCell ⟨g, cc, none⟩ (.int .i64 (z + 1))).heap[b]? = v1.heap[b]? := fun b hb => set_other fun e => hb (by rw [e]; exact hog)
          have : A.did i tt.op cc x y = (A.note i tt.op cc x y).bump cc := by simp [Sys.did, hxy]
          refine K _ (by rw [this]; rw [hcc] at hWb; exact hWb) (fun i n => (hG1 i n).trans (guar_sys size_set hs)) (fun i => (hR1 i).trans (rely_sys size_set hs))
end Go.Proofs.Ytlnjmheocfbimaa

/- Infrastructure S: calls' beginnings and ends; atomic cells. -/
namespace Go.Proofs.Ytlnjmheocfbimaa
open Go Go.Conc
section
variable {P : Program} {S : Addr → Prop} {main : Bool} {Stop : Goroutine → World → Prop} {N : Nat} {D : List Deferred} {e : Env}
variable {b : Frame} {a : Act} {k : List Item} {cs : List Frame} {v : World} {L : Allow}
def envOf (args : Array Value) : Env := (List.range args.size).map fun i => (i, args.getD i undef)
theorem enter_is {f : FuncId} {fn : Func} {c : Code} {n : Nat} (hf : P.funcs[f]? = some fn) (hb : fn.body = some c) (hn : fn.ntmps = n) (args : Array Value) (e : Env) (he : envOf args = e) (hle : args.size ≤ n) :
    ∃ (b : Frame) (a : Act), Frame.enter P f args .normal = b.at a [.code c] ∧ b.kind = .normal ∧ b.fn = f ∧ AtE n [] e a := by
  refine ⟨_, _, enter_at hf hb, rfl, rfl, ?_⟩
  have := AtE.start args (fn.ntmps - args.size)
  rw [hn] at this ⊢
  rw [Nat.add_sub_cancel' hle] at this
  rw [← he]
  exact this
theorem not_early (h : b.kind = .normal) : b.kind ≠ .early := by rw [h]; simp
theorem ret_one {fn : Func} {t : Tmp} (h : fn.results = #[.tmp t]) (hat : AtE N D e a) {x : Value} (hx : look e t = some x) (w : World) : (results fn a.tmps).run P w = .ok x w := by
  have := results_tmp h a.tmps P w
  rw [this]
  have h2 := hat.val t x hx
  rw [Array.getD_eq_getD_getElem?, h2]; rfl
theorem ret_two {fn : Func} {t u : Tmp} (h : fn.results = #[.tmp t, .tmp u]) (hat : AtE N D e a) {x y : Value} (hx : look e t = some x) (hy : look e u = some y) (w : World) : (results fn a.tmps).run P w = .ok (.tuple #[x, y]) w := by
  have := results_tmp2 h a.tmps P w
  rw [this]
  have h2 := hat.val t x hx
  have h3 := hat.val u y hy
  rw [Array.getD_eq_getD_getElem?, h2, Array.getD_eq_getD_getElem?, h3]; rfl
/-- The function comes to its end, by whichever way. -/
theorem hold_done {c : Frame} {fn : Func} {f : FuncId} {x : Value} (hb : b.kind = .normal) (hbf : b.fn = f) (hf : P.funcs[f]? = some fn) (hd : a.defers = []) (hx : ∀ w, (results fn a.tmps).run P w = .ok x w) (H : Hold P main S Stop (G (c.finish x) cs) v) :
    Hold P main S Stop (G (b.at a []) (c :: cs)) v := hold_end (.inl hb) (hold_return hb (by rw [hbf]; exact hf) hd hx H)
theorem hold_retd {c : Frame} {fn : Func} {f : FuncId} {x : Value} (hb : b.kind = .normal) (hbf : b.fn = f) (hf : P.funcs[f]? = some fn) (hd : a.defers = []) (hx : ∀ w, (results fn a.tmps).run P w = .ok x w) (H : Hold P main S Stop (G (c.finish x) cs) v) :
    Hold P main S Stop (G (b.at a (.code .ret :: k)) (c :: cs)) v := hold_ret (.inl hb) (hold_return hb (by rw [hbf]; exact hf) hd hx H)
theorem opOk_atom {L : Allow} {f : FuncId} {args : Array Operand} {ats : Array TypeId} (hm : f ∈ L.A) : opOk P L (.call { callee := .value (.func f), args := args, argTypes := ats }) = true := by simp [opOk, hm]
theorem r_atom {f : FuncId} {q : Array Operand} {ats : Array TypeId} {vals : Array Value} {n : Next} {v' : World} (ha : q.toList.map (opv e) = vals.toList.map some) (h : ∀ t d, (callFunc f vals).run P (v.re t d) = .ok n (v'.re t d)) :
    RunsTo P e (.call { callee := .value (.func f), args := q, argTypes := ats }) v n v' := by
  intro ρ o hρ ho t d
  have hargs : q.map ρ = vals := by
    apply Array.ext'
    rw [Array.toList_map]
    have : ∀ (l : List Operand) (m : List Value), l.map (opv e) = m.map some → l.map ρ = m := by
      intro l
      induction l with
      | nil => intro m h; cases m with
        | nil => rfl
        | cons _ _ => cases h
      | cons x l ih => intro m h; cases m with
        | nil => cases h
        | cons y m =>
          simp only [List.map_cons, List.cons.injEq] at h ⊢
          exact ⟨hρ _ _ h.1, ih m h.2⟩
    exact this _ _ ha
  have hfun := hρ (.func f) _ rfl
  simp only [execOp, ho, resolve, hfun, hargs, Deferred.ofValue]
  simpa [invoke] using h t d
end
end Go.Proofs.Ytlnjmheocfbimaa

/- Cells: atomic words, Load, Cas. -/
namespace Go.Proofs.Ytlnjmheocfbimaa
open Go Go.Conc
abbrev Lt : Allow := ⟨[], [51, 49, 53]⟩
theorem lt_ok : ∀ f ∈ Lt.A, AtomOk Try.prog f := by
  intro f hf
  simp only [List.mem_cons, List.not_mem_nil, or_false] at hf
  rcases hf with rfl | rfl | rfl
  · exact ⟨_, _, Try.func51, by decide, rfl, rfl, rfl, .load⟩
  · exact ⟨_, _, Try.func49, by decide, rfl, rfl, rfl, .store⟩
  · exact ⟨_, _, Try.func53, by decide, rfl, rfl, rfl, .cas⟩
theorem fk_ai : FieldK Try.prog 87 2 0 := fun w b o => by simp [go_sem]
section
variable {S : Addr → Prop} {main : Bool} {Stop : Goroutine → World → Prop} {cs : List Frame} {c : Frame} {v : World}
theorem aload_hold {B O : Nat} {x : Int} (hc : v.cell? ⟨B, O, none⟩ = some (.int .i64 x)) (H : Hold Try.prog main S Stop (G (c.finish (.int .i64 x)) cs) v) :
    Hold Try.prog main S Stop (G (Frame.enter Try.prog 36 #[.pointer (some ⟨B, O, none⟩)] .normal) (c :: cs)) v := by
  obtain ⟨b, a, hE, hb, hbf, hat⟩ := enter_is ALoad_fn ALoad_body ALoad_tmps #[.pointer (some ⟨B, O, none⟩)] [(0, .pointer (some ⟨B, O, none⟩))] rfl (by simp)
  rw [hE]
  have hbk := not_early hb
  unfold ALoad_code
  refine hold_seq (hold_region (l := [0]) rfl (h_val lt_ok hbk ALoad_0 rfl rfl (by decide) hat (r_assign rfl) fun a hat => hold_region_end (hold_seq (hold_region (l := [0,1,2,3,4]) rfl ?_))))
  refine h_val lt_ok hbk ALoad_1 rfl rfl (by decide) hat (r_move rfl) fun a hat => ?_
  refine h_val lt_ok hbk ALoad_1 rfl rfl (by decide) hat (r_nil rfl) fun a hat => ?_
  refine h_val lt_ok hbk ALoad_1 rfl rfl (by decide) hat (r_field fk_ai rfl) fun a hat => ?_
  refine h_val (L := Lt) lt_ok hbk ALoad_1 rfl (opOk_atom (by simp)) (by decide) hat (r_atom (vals := #[.pointer (some ⟨B, O, none⟩)]) rfl (fun t d => run_call_load Try.func51 (by decide) rfl rfl .i64 rfl (show (v.re t d).cell? _ = _ from hc))) fun a hat => ?_
  refine h_val lt_ok hbk ALoad_1 rfl rfl (by decide) hat (r_assign rfl) fun a hat => hold_region_end ?_
  exact hold_retd hb hbf ALoad_fn hat.defers (ret_one ALoad_res hat rfl) H
end
def Prog.did (op : Int) (c : Nat) (x y : Int) (k : Prog) : Prog := .note op c x y (if x = y then k else .bump c k)
def Prog.load (c : Nat) (k : Int → Prog) : Prog := .wait 1 1 c (.rd c fun x => .did 1 c x x (k x))
def Prog.cas (c : Nat) (old new : Int) (k : Bool → Prog) : Prog := .wait 1 4 c (.rd c fun x => if x = old then .wr c new (.did 4 c old new (k true)) else .did 4 c x x (k false))
theorem did_hp {i : Nat} {Fin : List (Int × Int) → Gho → World → Prop} {k : Prog} {Γ0 Γ : Gho} {v0 v : World} {A : Sys} (hW : WI Γ A v) {tt : TSt} (ht : A.ths[i]? = some tt) {cc : Nat} (hcc : tt.cell = cc) (hc : cc < Γ.nc) (x y : Int) (c : Frame) (cs : List Frame)
    (K : ∀ v', WI (Γ.ext v .sys) (A.did i tt.op cc x y) v' → (∀ i n, Guar i n Γ v (Γ.ext v .sys) v') → (∀ i, Rely i Γ v (Γ.ext v .sys) v') → HP i Fin k Γ0 v0 (A.did i tt.op cc x y) (G (c.finish (.tuple #[])) cs) v') :
    HP i Fin (.did tt.op cc x y k) Γ0 v0 A (G (Frame.enter Try.prog 37 #[.pointer (some ⟨Γ.tb i, 0, none⟩), .int .i64 x, .int .i64 y] .normal) (c :: cs)) v := by
  intro hlen
  obtain ⟨z, hz⟩ : ∃ z, A.cnt[cc]? = some z := ⟨A.cnt[cc]'(by have := hW.nc.2; omega), by simp⟩
  have hch : (A.note i tt.op cc x y).changed cc = z := by
    have h0 : ¬ (cc : Int) < 0 := by omega
    simp [Sys.changed, Sys.note, hz, h0]
  by_cases hxy : x = y
  · rw [if_pos hxy]
    have e : A.did i tt.op cc x y = A.note i tt.op cc x y := by simp [Sys.did, hxy]
    rw [e] at K
    refine HP.walk ?_
    exact did_hold hW ht hlen hcc hz x y (fun h => absurd hxy h) c cs fun v' h1 h2 h3 => HP.stop (K v' (by rw [e] at h1; exact h1) h2 h3)
  · rw [if_neg hxy]
    have e : A.did i tt.op cc x y = (A.note i tt.op cc x y).bump cc := by simp [Sys.did, hxy]
    rw [e] at K
    intro hb
    rw [hch] at hb
    refine HP.walk ?_
    exact did_hold hW ht hlen hcc hz x y (fun _ => hb) c cs fun v' h1 h2 h3 => HP.stop (K v' (by rw [e] at h1; exact h1) h2 h3)
/-- A thread's record of a cell it may use. -/
theorem cell_at {Γ : Gho} {A : Sys} {v : World} (hW : WI Γ A v) {cc : Nat} (hc : cc < Γ.nc) : ∃ x, A.vals[cc]? = some x ∧ A.get cc = x ∧ v.heap[Γ.cb cc]? = some (.cells #[.int .i64 cc, .int .i64 x] 89 (0, 0)) ∧ Γ.own (Γ.cb cc) = .sys ∧ -9223372036854775808 ≤ x ∧ x ≤ 9223372036854775807 := by
  have hl := hW.nc.1
  have hx : A.vals[cc]? = some (A.vals[cc]'(by omega)) := by simp
  obtain ⟨h1, h2⟩ := hW.cells cc _ hx
  obtain ⟨h3, h4⟩ := hW.vals64 _ (List.mem_of_getElem? hx)
  exact ⟨_, hx, by simp [Sys.get, hx], h1, h2, h3, h4⟩
theorem rely_cell {i : Nat} {Γ Γ' : Gho} {A : Sys} {v v' : World} (hW : WI Γ A v) (hR : Rely i Γ v Γ' v') {cc : Nat} (hc : cc < Γ.nc) : Γ'.cb cc = Γ.cb cc ∧ cc < Γ'.nc := by
  obtain ⟨x, _, _, h, _⟩ := cell_at hW hc
  exact ⟨hR.cb cc (lt_of_heap h), Nat.lt_of_lt_of_le hc hR.nc⟩
/-- What a thread goes on with. -/
def Go1 (i : Nat) (Fin : List (Int × Int) → Gho → World → Prop) (Γ : Gho) (v : World) (k : Prog) (g : Goroutine) : Prop :=
  ∀ Γ0' v0' Γ' v' A', Rely i Γ v Γ' v' → WI Γ' A' v' → i < A'.ths.length → Guar i A'.ths.length Γ0' v0' Γ' v' → HP i Fin k Γ0' v0' A' g v'
theorem did_len {A : Sys} {i : Nat} {op : Int} {c : Nat} {x y : Int} : (A.did i op c x y).ths = A.ths := by unfold Sys.did; split <;> rfl
theorem load_hp {i : Nat} {Fin : List (Int × Int) → Gho → World → Prop} {k : Int → Prog} {Γ0 Γ : Gho} {v0 v : World} {A : Sys} (hW : WI Γ A v) (hG : Guar i A.ths.length Γ0 v0 Γ v) (hi : i < A.ths.length) {cc : Nat} (hc : cc < Γ.nc) (c : Frame) (cs : List Frame)
    (K : ∀ x : Int, -9223372036854775808 ≤ x → x ≤ 9223372036854775807 → Go1 i Fin Γ v (k x) (G (c.finish (.int .i64 x)) cs)) :
    HP i Fin (.load cc k) Γ0 v0 A (G (Frame.enter Try.prog 23 #[.pointer (some ⟨Γ.cb cc, 0, none⟩), .pointer (some ⟨Γ.tb i, 0, none⟩)] .normal) (c :: cs)) v := by
  obtain ⟨x0, _, _, hcell, hown, _, _⟩ := cell_at hW hc
  obtain ⟨b, a, hE, hb, hbf, hat⟩ := enter_is Load_fn Load_body Load_tmps #[.pointer (some ⟨Γ.cb cc, 0, none⟩), .pointer (some ⟨Γ.tb i, 0, none⟩)] [(0, .pointer (some ⟨Γ.cb cc, 0, none⟩)), (1, .pointer (some ⟨Γ.tb i, 0, none⟩))] rfl (by simp)
  rw [hE]
  have hbk := not_early hb
  refine HP.walk ?_
  unfold Load_code
  refine hold_seq (hold_region (l := [0]) rfl (h_val noA hbk Load_0 rfl rfl (by decide) hat (r_assign rfl) fun a hat => hold_region_end (hold_seq (hold_region (l := [0,1,2,3,4,5]) rfl ?_))))
  iterate 2 (refine h_val noA hbk Load_1 rfl rfl (by decide) hat (r_move rfl) fun a hat => ?_)
  refine h_val noA hbk Load_1 rfl rfl (by decide) hat (r_nil rfl) fun a hat => ?_
  refine h_val noA hbk Load_1 rfl rfl (by decide) hat (r_field fk_cell_0 rfl) fun a hat => ?_
  refine h_val noA hbk Load_1 rfl rfl (by decide) hat (r_load ld_int rfl (cell_of hcell)) fun a hat => ?_
  refine h_enter (L := ⟨[35], []⟩) (fun f hf => by cases hf) hbk Load_1 rfl (Turn_call (by simp)) hat (args := #[.pointer (some ⟨Γ.tb i, 0, none⟩), .int .i64 cc, .int .i64 1]) (Turn_run rfl) ?_
  refine HP.stop (turn_hp hW hG hi cc 1 _ _ fun Γ1 v1 A1 s hR hW1 ht1 => ?_)
  obtain ⟨a1, hat1, hfin⟩ := back_val (b := b) (a := a) (i := 5) (d := 11) (k := [.code (.seq (.region 2 (Rg Try.f23.body 2) false) (.seq (.region 3 (Rg Try.f23.body 3) false) (.seq (.region 4 (Rg Try.f23.body 4) false) .ret)))]) (rest := []) Load_1 rfl (by decide) hat (.tuple #[])
  rw [hfin]
  obtain ⟨hcb, hc1⟩ := rely_cell hW hR hc
  obtain ⟨x, hx, hget, hcell1, hown1, hx1, hx2⟩ := cell_at hW1 hc1
  rw [hcb] at hcell1
  have htb : Γ1.tb i = Γ.tb i := hR.same.2.2.2.1
  have hat2 : AtE _ [] [(0, .pointer (some ⟨Γ.cb cc, 0, none⟩)), (1, .pointer (some ⟨Γ.tb i, 0, none⟩))] a1 := hat1.sub (AtE.cons rfl (AtE.cons rfl AtE.nil))
  clear hat hat1
  show HP i Fin (.did 1 cc (A1.get cc) (A1.get cc) (k (A1.get cc))) Γ1 v1 A1 _ v1
  rw [hget]
  refine HP.walk (hold_region_end (hold_seq (hold_region (l := [0,1,2,3,4]) rfl ?_)))
  refine h_val noA hbk Load_2 rfl rfl (by decide) hat2 (r_move rfl) fun a hat => ?_
  refine h_val noA hbk Load_2 rfl rfl (by decide) hat (r_nil rfl) fun a hat => ?_
  refine h_val noA hbk Load_2 rfl rfl (by decide) hat (r_field fk_cell_1 rfl) fun a hat => ?_
  refine h_enter (L := ⟨[36], []⟩) (fun f hf => by cases hf) hbk Load_2 rfl (ALoad_call (by simp)) hat (args := #[.pointer (some ⟨Γ.cb cc, 0 + 1, none⟩)]) (ALoad_run rfl) ?_
  refine aload_hold (x := x) (cell_of hcell1) ?_
  obtain ⟨a3, hat3, hfin3⟩ := back_val (b := b) (a := a) (i := 3) (d := 15) (k := [.code (.seq (.region 3 (Rg Try.f23.body 3) false) (.seq (.region 4 (Rg Try.f23.body 4) false) .ret))]) (rest := [4]) Load_2 rfl (by decide) hat (.int .i64 x)
  rw [hfin3]
  refine h_val noA hbk Load_2 rfl rfl (by decide) hat3 (r_assign rfl) fun a hat => hold_region_end (hold_seq (hold_region (l := [0,1,2,3]) rfl ?_))
  iterate 3 (refine h_val noA hbk Load_3 rfl rfl (by decide) hat (r_move rfl) fun a hat => ?_)
  refine h_enter (L := ⟨[37], []⟩) (fun f hf => by cases hf) hbk Load_3 rfl (Did_call (by simp)) hat (args := #[.pointer (some ⟨Γ1.tb i, 0, none⟩), .int .i64 x, .int .i64 x]) (Did_run (by rw [htb]; rfl)) ?_
  refine HP.stop (did_hp (tt := ⟨0, cc, 1, s⟩) hW1 ht1 rfl hc1 x x _ _ fun v2 hW2 hG2 hR2 => ?_)
  obtain ⟨a4, hat4, hfin4⟩ := back_val (b := b) (a := a) (i := 3) (d := 19) (k := [.code (.seq (.region 4 (Rg Try.f23.body 4) false) .ret)]) (rest := []) Load_3 rfl (by decide) hat (.tuple #[])
  rw [hfin4]
  refine HP.walk (hold_region_end (hold_seq (hold_region (l := [0,1]) rfl ?_)))
  refine h_val noA hbk Load_4 rfl rfl (by decide) hat4 (r_move rfl) fun a hat => ?_
  refine h_val noA hbk Load_4 rfl rfl (by decide) hat (r_assign rfl) fun a hat => hold_region_end ?_
  refine hold_retd hb hbf Load_fn hat.defers (ret_one Load_res hat rfl) ?_
  have hlt : i < A1.ths.length := (List.getElem?_eq_some_iff.1 ht1).1
  exact HP.stop (K x hx1 hx2 Γ1 v1 _ v2 _ (hR.trans (hR2 i)) hW2 (by rw [did_len]; exact hlt) (hG2 i _))
end Go.Proofs.Ytlnjmheocfbimaa

/- Cas. -/
namespace Go.Proofs.Ytlnjmheocfbimaa
open Go Go.Conc
theorem WI.putc {Γ : Gho} {A : Sys} {v : World} (hW : WI Γ A v) {cc : Nat} (hc : cc < Γ.nc) {y : Int} (hy1 : -9223372036854775808 ≤ y) (hy2 : y ≤ 9223372036854775807) : WI Γ (A.put cc y) (v.setCell ⟨Γ.cb cc, 1, none⟩ (.int .i64 y)) := by
  obtain ⟨y1, y2, y3, y4, y5, y6, y7, y8, y9, y10, y11, y12, y13, y14, y15⟩ := tys
  obtain ⟨x, hx, hget, hcell, hown, hx1, hx2⟩ := cell_at hW hc
  obtain ⟨sv, cv, tv, rv, hw, r1, r2, r3, r4, o1, o2, o3, o4, o5⟩ := hW.world
  have keep : ∀ {b : Nat} {c' : Array Value} {e : TypeId} {f : Nat × Nat}, v.heap[b]? = some (.cells c' e f) → e ≠ 89 → (v.setCell ⟨Γ.cb cc, 1, none⟩ (.int .i64 y)).heap[b]? = v.heap[b]? := fun hb hne => set_other (ne_of_types hb hcell hne)
  have hch : ∀ c', fresh v c' → fresh (v.setCell ⟨Γ.cb cc, 1, none⟩ (.int .i64 y)) c' := fun c' h => fresh_keep h (set_other (ne_of_chan hcell h))
  have hlt : cc < A.vals.length := (List.getElem?_eq_some_iff.1 hx).1
  refine ⟨ready_set hW.ready, ⟨sv, cv, tv, rv, (keep hw y5).trans hw, ownsRow_keep r1 fun b c' _ hb => keep hb y12, ownsRow_keep r2 fun b c' _ hb => keep hb y12, ownsRow_keep r3 fun b c' _ hb => keep hb y14, ownsRow_keep r4 fun b c' _ hb => keep hb y15, o1, o2, o3, o4, o5⟩,
    fun j tj hj => ?_, ⟨hch _ hW.back.1, hW.back.2⟩, fun c' x' hc' => ?_, hW.used, hW.ints64, hW.chansApart, hW.backApart, by simpa [Sys.put] using hW.nc, fun z hz => ?_⟩
  · obtain ⟨h1, h2, h3, h4⟩ := hW.th j tj hj
    exact ⟨(keep h1 y9).trans h1, hch _ h2, h3, h4⟩
  · simp only [Sys.put] at hc'
    by_cases e : cc = c'
    · subst e
      rw [List.getElem?_set_self hlt] at hc'
      cases hc'
      exact ⟨set_self hcell, hown⟩
    · rw [List.getElem?_set_ne e] at hc'
      obtain ⟨h1, h2⟩ := hW.cells c' x' hc'
      refine ⟨(set_other fun e' => ?_).trans h1, h2⟩
      rw [e', hcell] at h1
      simp at h1
      omega
  · obtain ⟨j, hj⟩ := List.mem_iff_getElem?.1 (show z ∈ A.vals.set cc y from hz)
    by_cases e : cc = j
    · subst e
      rw [List.getElem?_set_self hlt] at hj; cases hj; exact ⟨hy1, hy2⟩
    · rw [List.getElem?_set_ne e] at hj
      exact hW.vals64 z (List.mem_of_getElem? hj)
section
variable {S : Addr → Prop} {main : Bool} {Stop : Goroutine → World → Prop} {cs : List Frame} {c : Frame} {v : World}
theorem acas_hold {B O : Nat} {x old y : Int} (hc : v.cell? ⟨B, O, none⟩ = some (.int .i64 x)) (hf : v.frozen? ⟨B, O, none⟩ = false)
    (H : if x = old then Hold Try.prog main S Stop (G (c.finish (.bool true)) cs) (v.setCell ⟨B, O, none⟩ (.int .i64 y)) else Hold Try.prog main S Stop (G (c.finish (.bool false)) cs) v) :
    Hold Try.prog main S Stop (G (Frame.enter Try.prog 40 #[.pointer (some ⟨B, O, none⟩), .int .i64 old, .int .i64 y] .normal) (c :: cs)) v := by
  obtain ⟨b, a, hE, hb, hbf, hat⟩ := enter_is ACas_fn ACas_body ACas_tmps #[.pointer (some ⟨B, O, none⟩), .int .i64 old, .int .i64 y] [(0, .pointer (some ⟨B, O, none⟩)), (1, .int .i64 old), (2, .int .i64 y)] rfl (by simp)
  rw [hE]
  have hbk := not_early hb
  unfold ACas_code
  refine hold_seq (hold_region (l := [0]) rfl (h_val lt_ok hbk ACas_0 rfl rfl (by decide) hat (r_assign rfl) fun a hat => hold_region_end (hold_seq (hold_region (l := [0,1,2,3,4,5,6]) rfl ?_))))
  refine h_val lt_ok hbk ACas_1 rfl rfl (by decide) hat (r_move rfl) fun a hat => ?_
  refine h_val lt_ok hbk ACas_1 rfl rfl (by decide) hat (r_nil rfl) fun a hat => ?_
  refine h_val lt_ok hbk ACas_1 rfl rfl (by decide) hat (r_field fk_ai rfl) fun a hat => ?_
  iterate 2 (refine h_val lt_ok hbk ACas_1 rfl rfl (by decide) hat (r_move rfl) fun a hat => ?_)
  by_cases hx : x = old
  · subst hx
    rw [if_pos rfl] at H
    refine h_val (L := Lt) (v' := v.setCell ⟨B, O, none⟩ (.int .i64 y)) lt_ok hbk ACas_1 rfl (opOk_atom (by simp)) (by decide) hat (r_atom (vals := #[.pointer (some ⟨B, O, none⟩), .int .i64 x, .int .i64 y]) rfl (fun t d => run_call_cas_hit Try.func53 (by decide) rfl rfl .i64 rfl (show (v.re t d).cell? _ = _ from hc) (show (v.re t d).frozen? _ = _ from hf))) fun a hat => ?_
    refine h_val lt_ok hbk ACas_1 rfl rfl (by decide) hat (r_assign rfl) fun a hat => hold_region_end ?_
    exact hold_retd hb hbf ACas_fn hat.defers (ret_one ACas_res hat rfl) H
  · rw [if_neg hx] at H
    refine h_val (L := Lt) lt_ok hbk ACas_1 rfl (opOk_atom (by simp)) (by decide) hat (r_atom (vals := #[.pointer (some ⟨B, O, none⟩), .int .i64 old, .int .i64 y]) rfl (fun t d => run_call_cas_miss Try.func53 (by decide) rfl rfl .i64 rfl (show (v.re t d).cell? _ = _ from hc) (show (v.re t d).frozen? _ = _ from hf) hx)) fun a hat => ?_
    refine h_val lt_ok hbk ACas_1 rfl rfl (by decide) hat (r_assign rfl) fun a hat => hold_region_end ?_
    exact hold_retd hb hbf ACas_fn hat.defers (ret_one ACas_res hat rfl) H
end
theorem cas_hp {i : Nat} {Fin : List (Int × Int) → Gho → World → Prop} {k : Bool → Prog} {Γ0 Γ : Gho} {v0 v : World} {A : Sys} (hW : WI Γ A v) (hG : Guar i A.ths.length Γ0 v0 Γ v) (hi : i < A.ths.length) {cc : Nat} (hc : cc < Γ.nc) (old y : Int) (hy1 : -9223372036854775808 ≤ y) (hy2 : y ≤ 9223372036854775807) (c : Frame) (cs : List Frame)
    (K : ∀ r : Bool, Go1 i Fin Γ v (k r) (G (c.finish (.bool r)) cs)) :
    HP i Fin (.cas cc old y k) Γ0 v0 A (G (Frame.enter Try.prog 26 #[.pointer (some ⟨Γ.cb cc, 0, none⟩), .pointer (some ⟨Γ.tb i, 0, none⟩), .int .i64 old, .int .i64 y] .normal) (c :: cs)) v := by
  obtain ⟨x0, _, _, hcell, hown, _, _⟩ := cell_at hW hc
  obtain ⟨b, a, hE, hb, hbf, hat⟩ := enter_is Cas_fn Cas_body Cas_tmps #[.pointer (some ⟨Γ.cb cc, 0, none⟩), .pointer (some ⟨Γ.tb i, 0, none⟩), .int .i64 old, .int .i64 y] [(0, .pointer (some ⟨Γ.cb cc, 0, none⟩)), (1, .pointer (some ⟨Γ.tb i, 0, none⟩)), (2, .int .i64 old), (3, .int .i64 y)] rfl (by simp)
  rw [hE]
  have hbk := not_early hb
  refine HP.walk ?_
  unfold Cas_code
  refine hold_seq (hold_region (l := [0]) rfl (h_val noA hbk Cas_0 rfl rfl (by decide) hat (r_assign rfl) fun a hat => hold_region_end (hold_seq (hold_region (l := [0,1,2,3,4,5]) rfl ?_))))
  iterate 2 (refine h_val noA hbk Cas_1 rfl rfl (by decide) hat (r_move rfl) fun a hat => ?_)
  refine h_val noA hbk Cas_1 rfl rfl (by decide) hat (r_nil rfl) fun a hat => ?_
  refine h_val noA hbk Cas_1 rfl rfl (by decide) hat (r_field fk_cell_0 rfl) fun a hat => ?_
  refine h_val noA hbk Cas_1 rfl rfl (by decide) hat (r_load ld_int rfl (cell_of hcell)) fun a hat => ?_
  refine h_enter (L := ⟨[35], []⟩) (fun f hf => by cases hf) hbk Cas_1 rfl (Turn_call (by simp)) hat (args := #[.pointer (some ⟨Γ.tb i, 0, none⟩), .int .i64 cc, .int .i64 4]) (Turn_run rfl) ?_
  refine HP.stop (turn_hp hW hG hi cc 4 _ _ fun Γ1 v1 A1 s hR hW1 ht1 => ?_)
  obtain ⟨a1, hat1, hfin⟩ := back_val (b := b) (a := a) (i := 5) (d := 15) (k := [.code (.seq (.seq (.region 2 (Rg Try.f26.body 2) false) (.cond (.tmp 21) (.seq (.region 3 (Rg Try.f26.body 3) false) (.seq (.region 4 (Rg Try.f26.body 4) false) .ret)) .skip)) (.seq (.region 5 (Rg Try.f26.body 5) false) (.seq (.region 6 (Rg Try.f26.body 6) false) (.seq (.region 7 (Rg Try.f26.body 7) false) .ret))))]) (rest := []) Cas_1 rfl (by decide) hat (.tuple #[])
  rw [hfin]
  obtain ⟨hcb, hc1⟩ := rely_cell hW hR hc
  obtain ⟨x, hx, hget, hcell1, hown1, hx1, hx2⟩ := cell_at hW1 hc1
  rw [hcb] at hcell1
  have htb : Γ1.tb i = Γ.tb i := hR.same.2.2.2.1
  have hlt : i < A1.ths.length := (List.getElem?_eq_some_iff.1 ht1).1
  have hat2 : AtE _ [] [(0, .pointer (some ⟨Γ.cb cc, 0, none⟩)), (1, .pointer (some ⟨Γ.tb i, 0, none⟩)), (2, .int .i64 old), (3, .int .i64 y)] a1 := hat1.sub (AtE.cons rfl (AtE.cons rfl (AtE.cons rfl (AtE.cons rfl AtE.nil))))
  clear hat hat1
  show HP i Fin (if A1.get cc = old then .wr cc y (.did 4 cc old y (k true)) else .did 4 cc (A1.get cc) (A1.get cc) (k false)) Γ1 v1 A1 _ v1
  rw [hget]
  refine HP.walk (hold_region_end (hold_seq (hold_seq (hold_region (l := [0,1,2,3,4,5]) rfl ?_))))
  refine h_val noA hbk Cas_2 rfl rfl (by decide) hat2 (r_move rfl) fun a hat => ?_
  refine h_val noA hbk Cas_2 rfl rfl (by decide) hat (r_nil rfl) fun a hat => ?_
  refine h_val noA hbk Cas_2 rfl rfl (by decide) hat (r_field fk_cell_1 rfl) fun a hat => ?_
  iterate 2 (refine h_val noA hbk Cas_2 rfl rfl (by decide) hat (r_move rfl) fun a hat => ?_)
  refine h_enter (L := ⟨[40], []⟩) (fun f hf => by cases hf) hbk Cas_2 rfl (ACas_call (by simp)) hat (args := #[.pointer (some ⟨Γ.cb cc, 0 + 1, none⟩), .int .i64 old, .int .i64 y]) (ACas_run rfl) ?_
  refine acas_hold (x := x) (cell_of hcell1) (frozen_of hcell1) ?_
  by_cases hxo : x = old
  · rw [if_pos hxo, if_pos hxo]
    have hW1' := hW1.putc hc1 hy1 hy2
    rw [hcb] at hW1'
    have hs : ∀ bb, Γ1.own bb ≠ .sys → (v1.setCell ⟨Γ.cb cc, 1, none⟩ (.int .i64 y)).heap[bb]? = v1.heap[bb]? := fun bb hbb => set_other fun e => hbb (by rw [e, ← hcb]; exact hown1)
    obtain ⟨a3, hat3, hfin3⟩ := back_val (b := b) (a := a) (i := 5) (d := 21) (k := [.code (.cond (.tmp 21) (.seq (.region 3 (Rg Try.f26.body 3) false) (.seq (.region 4 (Rg Try.f26.body 4) false) .ret)) .skip), .code (.seq (.region 5 (Rg Try.f26.body 5) false) (.seq (.region 6 (Rg Try.f26.body 6) false) (.seq (.region 7 (Rg Try.f26.body 7) false) .ret)))]) (rest := []) Cas_2 rfl (by decide) hat (.bool true)
    rw [hfin3]
    refine hold_region_end (hold_cond (hat3.eval (q := .tmp 21) rfl) (hold_seq (hold_region (l := [0,1,2,3]) rfl ?_)))
    refine h_val noA hbk Cas_3 rfl rfl (by decide) hat3 (r_move rfl) fun a hat => ?_
    iterate 2 (refine h_val noA hbk Cas_3 rfl rfl (by decide) hat (r_move rfl) fun a hat => ?_)
    refine h_enter (L := ⟨[37], []⟩) (fun f hf => by cases hf) hbk Cas_3 rfl (Did_call (by simp)) hat (args := #[.pointer (some ⟨Γ1.tb i, 0, none⟩), .int .i64 old, .int .i64 y]) (Did_run (by rw [htb]; rfl)) ?_
    refine HP.stop (did_hp (A := A1.put cc y) (tt := ⟨0, cc, 4, s⟩) hW1' ht1 rfl hc1 old y _ _ fun v2 hW2 hG2 hR2 => ?_)
    obtain ⟨a4, hat4, hfin4⟩ := back_val (b := b) (a := a) (i := 3) (d := 25) (k := [.code (.seq (.region 4 (Rg Try.f26.body 4) false) .ret), .code (.seq (.region 5 (Rg Try.f26.body 5) false) (.seq (.region 6 (Rg Try.f26.body 6) false) (.seq (.region 7 (Rg Try.f26.body 7) false) .ret)))]) (rest := []) Cas_3 rfl (by decide) hat (.tuple #[])
    rw [hfin4]
    refine HP.walk (hold_region_end (hold_seq (hold_region (l := [0]) rfl ?_)))
    refine h_val noA hbk Cas_4 rfl rfl (by decide) hat4 (r_assign rfl) fun a hat => hold_region_end ?_
    refine hold_retd hb hbf Cas_fn hat.defers (ret_one Cas_res hat rfl) ?_
    exact HP.stop (K true Γ1 v1 _ v2 _ ((hR.trans (rely_sys size_set hs)).trans (hR2 i)) hW2 (by rw [did_len]; exact hlt) ((guar_sys size_set hs).trans (hG2 i _)))
  · rw [if_neg hxo, if_neg hxo]
    obtain ⟨a3, hat3, hfin3⟩ := back_val (b := b) (a := a) (i := 5) (d := 21) (k := [.code (.cond (.tmp 21) (.seq (.region 3 (Rg Try.f26.body 3) false) (.seq (.region 4 (Rg Try.f26.body 4) false) .ret)) .skip), .code (.seq (.region 5 (Rg Try.f26.body 5) false) (.seq (.region 6 (Rg Try.f26.body 6) false) (.seq (.region 7 (Rg Try.f26.body 7) false) .ret)))]) (rest := []) Cas_2 rfl (by decide) hat (.bool false)
    rw [hfin3]
    refine hold_region_end (hold_cond (hat3.eval (q := .tmp 21) rfl) (hold_skip (hold_seq (hold_region (l := [0,1,2,3,4]) rfl ?_))))
    refine h_val noA hbk Cas_5 rfl rfl (by decide) hat3 (r_move rfl) fun a hat => ?_
    refine h_val noA hbk Cas_5 rfl rfl (by decide) hat (r_nil rfl) fun a hat => ?_
    refine h_val noA hbk Cas_5 rfl rfl (by decide) hat (r_field fk_cell_1 rfl) fun a hat => ?_
    refine h_enter (L := ⟨[36], []⟩) (fun f hf => by cases hf) hbk Cas_5 rfl (ALoad_call (by simp)) hat (args := #[.pointer (some ⟨Γ.cb cc, 0 + 1, none⟩)]) (ALoad_run rfl) ?_
    refine aload_hold (x := x) (cell_of hcell1) ?_
    obtain ⟨a5, hat5, hfin5⟩ := back_val (b := b) (a := a) (i := 3) (d := 29) (k := [.code (.seq (.region 6 (Rg Try.f26.body 6) false) (.seq (.region 7 (Rg Try.f26.body 7) false) .ret))]) (rest := [4]) Cas_5 rfl (by decide) hat (.int .i64 x)
    rw [hfin5]
    refine h_val noA hbk Cas_5 rfl rfl (by decide) hat5 (r_assign rfl) fun a hat => hold_region_end (hold_seq (hold_region (l := [0,1,2,3]) rfl ?_))
    iterate 3 (refine h_val noA hbk Cas_6 rfl rfl (by decide) hat (r_move rfl) fun a hat => ?_)
    refine h_enter (L := ⟨[37], []⟩) (fun f hf => by cases hf) hbk Cas_6 rfl (Did_call (by simp)) hat (args := #[.pointer (some ⟨Γ1.tb i, 0, none⟩), .int .i64 x, .int .i64 x]) (Did_run (by rw [htb]; rfl)) ?_
    refine HP.stop (did_hp (tt := ⟨0, cc, 4, s⟩) hW1 ht1 rfl hc1 x x _ _ fun v2 hW2 hG2 hR2 => ?_)
    obtain ⟨a4, hat4, hfin4⟩ := back_val (b := b) (a := a) (i := 3) (d := 33) (k := [.code (.seq (.region 7 (Rg Try.f26.body 7) false) .ret)]) (rest := []) Cas_6 rfl (by decide) hat (.tuple #[])
    rw [hfin4]
    refine HP.walk (hold_region_end (hold_seq (hold_region (l := [0]) rfl ?_)))
    refine h_val noA hbk Cas_7 rfl rfl (by decide) hat4 (r_assign rfl) fun a hat => hold_region_end ?_
    refine hold_retd hb hbf Cas_fn hat.defers (ret_one Cas_res hat rfl) ?_
    exact HP.stop (K false Γ1 v1 _ v2 _ (hR.trans (hR2 i)) hW2 (by rw [did_len]; exact hlt) (hG2 i _))
end Go.Proofs.Ytlnjmheocfbimaa

/- Infrastructure T: closures, appends, whatever else an operation may make. -/
namespace Go.Proofs.Ytlnjmheocfbimaa
open Go Go.Conc
section
variable {P : Program} {S : Addr → Prop} {main : Bool} {Stop : Goroutine → World → Prop} {N : Nat} {D : List Deferred} {e : Env}
variable {b : Frame} {a : Act} {k : List Item} {cs : List Frame} {v : World} {L : Allow} {ops : Array Oper} {Lv : List (Option Nat × Op × Option (Nat × Bool))} {i : Nat} {rest : List Nat}
/-- What a Tame run comes to is ready, too. -/
theorem tame_ready {α : Type} {ok : α → Prop} {s : Sem α} (hT : Tame P ok s) {w w' : World} {x : α} (hr : Ready0 w) (h : s.run P w = .ok x w') : Ready0 w' := by
  have hs : Sim true (fun _ => False) w w := ⟨rfl, rfl, rfl, fun _ => BSim.refl _ _, fun _ z => z.elim, hr⟩
  obtain ⟨w1, new, A⟩ := tame_sim hT #[] hs h (fun c _ => rfl)
  exact A.sim.ready
/-- An operation that gives a value, with what is known of it. -/
theorem h_any (hA : ∀ f ∈ L.A, AtomOk P f) (hb : b.kind ≠ .early) (hl : ops.toList.map view = Lv) {d : Nat} {op : Op} (hi : Lv[i]? = some (some d, op, none)) (hok : opOk P L op = true) (hd : d < N) (hat : AtE N D e a) (hv : Ready0 v) {Q : Value → World → Prop}
    (hrun : ∀ (ρ : Operand → Value) (o : Oper), (∀ q z, opv e q = some z → ρ q = z) → o.op = op → ∀ t d, ∃ y v', (execOp ρ o).run P (v.re t d) = .ok (.value y) v' ∧ Q y v')
    (H : ∀ y v', Q y v' → Ready0 v' → ∀ a', AtE N D ((d, y) :: e) a' → Hold P main S Stop (G (b.at a' (.inRegion ops rest :: k)) cs) v') : Hold P main S Stop (G (b.at a (.inRegion ops (i :: rest) :: k)) cs) v := by
  obtain ⟨o, ho, hdst, hop, hg⟩ := at_view hl hi
  refine hold_value hA hb ho hg (by rw [hop]; exact hok) fun t dd => ?_
  obtain ⟨y, v', h1, h2⟩ := hrun _ o (fun q z hz => hat.eval hz) hop t dd
  refine ⟨y, v', h1, ?_⟩
  rw [hdst]
  exact H y v' h2 (tame_ready (execOp_tame hA a.eval (act_const a) (act_func a) o (by rw [hop]; exact hok)) (w := v.re t dd) hv h1) _ (hat.put hd y)
/-- A call of a function value: into the callee, behind the arguments what it has captured. -/
theorem h_callv (hb : b.kind ≠ .early) (hl : ops.toList.map view = Lv) {dd : Option Nat} {q : Operand} {qs : Array Operand} {ats : Array TypeId} (hi : Lv[i]? = some (dd, .call { callee := .value q, args := qs, argTypes := ats }, none)) (hat : AtE N D e a)
    {f : FuncId} {fn : Func} {cap vals : Array Value} (hq : opv e q = some (.func (.func f) #[] cap)) (ha : qs.toList.map (opv e) = vals.toList.map some) (hf : P.funcs[f]? = some fn) (hbd : fn.body.isSome = true) (hn : (fn.name == "runtime.NumGoroutine") = false)
    (H : Hold P main S Stop (G (Frame.enter P f (vals ++ cap) .normal) (b.at a (.inRegion ops (i :: rest) :: k) :: cs)) v) : Hold P main S Stop (G (b.at a (.inRegion ops (i :: rest) :: k)) cs) v := by
  obtain ⟨o, ho, hdst, hop, hg⟩ := at_view hl hi
  have hw : Region.wanted o (yielded ops a.tmps) = true := wanted_of hg _
  have hbk : ∀ td, ((b.at a td).kind == CallKind.early) = false := fun td => by simpa [Frame.at] using hb
  have hargs : qs.map a.eval = vals := by
    apply Array.ext'
    rw [Array.toList_map]
    have : ∀ (l : List Operand) (m : List Value), l.map (opv e) = m.map some → l.map a.eval = m := by
      intro l
      induction l with
      | nil => intro m h; cases m with
        | nil => rfl
        | cons _ _ => cases h
      | cons x l ih => intro m h; cases m with
        | nil => cases h
        | cons y m =>
          simp only [List.map_cons, List.cons.injEq] at h ⊢
          exact ⟨hat.eval h.1, ih m h.2⟩
    exact this _ _ ha
  refine hold_same rfl (fun w => ?_) H
  rw [stepG_oper ho hw]
  unfold stepG.apply
  have hr : (execOp a.eval o).runT P w #[] = (.ok (.enter f (vals ++ cap)) w, #[]) := by
    have hn' : ¬ fn.name = "runtime.NumGoroutine" := by simpa using hn
    have hb' : fn.body.isNone = false := by cases h : fn.body <;> simp_all
    have e0 : (#[] : Array Value) ++ vals = vals := by simp
    simp only [execOp, hop, resolve, hat.eval hq, hargs, Deferred.ofValue, e0]
    show (invoke (.fn (.func f) cap) vals).runT P w #[] = _
    simp only [invoke, callFunc]
    refine (Sem.runT_bind' P _ _ w #[]).trans ?_
    simp only [program, Sem.runT, hf, beq_iff_eq, hn', if_false, hb', Bool.false_eq_true]
    rfl
  simp only [if_true, hr, hbk, Bool.false_eq_true, if_false]
  have hs : seen P b.fn (#[] : Array Event) = #[] := by simp [seen]
  show GStep.after (seen P b.fn #[]) _ = _
  rw [hs]; rfl
end
end Go.Proofs.Ytlnjmheocfbimaa

/- A thread's own memory; Note. -/
namespace Go.Proofs.Ytlnjmheocfbimaa
open Go Go.Conc
/-- The system's blocks stand: whoever makes or changes others leaves the world as it is. -/
theorem WI.other {Γ : Gho} {A : Sys} {v v' : World} (hW : WI Γ A v) (hsys : ∀ b, b < v.heap.size → Γ.own b = .sys → v'.heap[b]? = v.heap[b]?) (hr : Ready0 v') (o : Own) : WI (Γ.ext v o) A v' := by
  obtain ⟨sv, cv, tv, rv, hw, r1, r2, r3, r4, o1, o2, o3, o4, o5⟩ := hW.world
  have hown : ∀ {b : Nat} {y : Obj}, v.heap[b]? = some y → Γ.own b = .sys → (Γ.ext v o).own b = .sys := fun h hs => by
    have := lt_of_heap h
    simp [Gho.ext, this, hs]
  have keep : ∀ {b : Nat} {y : Obj}, v.heap[b]? = some y → Γ.own b = .sys → v'.heap[b]? = some y := fun h hs => (hsys _ (lt_of_heap h) hs).trans h
  have hrow : ∀ {e : TypeId} {sz n : Nat} {x : Value} {xs : List Value}, v.ownsRow 0 e sz x n xs → isys Γ x → v'.ownsRow 0 e sz x n xs ∧ isys (Γ.ext v o) x := fun {e sz n x xs} h hi => by
    refine ⟨ownsRow_keep h fun b c hb hc => hsys b (lt_of_heap hc) (hi b hb), fun b hb => ?_⟩
    rcases h.2 with ⟨rfl, _⟩ | ⟨g, cap, cur, rfl, _, hg, _⟩
    · cases hb
    · cases hb; exact hown hg (hi g rfl)
  have hfr : ∀ c, fresh v c → Γ.own c = .sys → fresh v' c ∧ (Γ.ext v o).own c = .sys := fun c ⟨k, hk⟩ hs => ⟨⟨k, keep hk hs⟩, hown hk hs⟩
  refine ⟨hr, ⟨sv, cv, tv, rv, keep hw hW.back.2.2, (hrow r1 o1).1, (hrow r2 o2).1, (hrow r3 o3).1, (hrow r4 o4).1, (hrow r1 o1).2, (hrow r2 o2).2, (hrow r3 o3).2, (hrow r4 o4).2, o5⟩, fun j t hj => ?_, ⟨(hfr _ hW.back.1 hW.back.2.1).1, (hfr _ hW.back.1 hW.back.2.1).2, hown hw hW.back.2.2⟩, fun c x hc => ?_, hW.used, hW.ints64, hW.chansApart, hW.backApart, hW.nc, hW.vals64⟩
  · obtain ⟨h1, h2, h3, h4⟩ := hW.th j t hj
    exact ⟨keep h1 h3, (hfr _ h2 h4).1, hown h1 h3, (hfr _ h2 h4).2⟩
  · obtain ⟨h1, h2⟩ := hW.cells c x hc
    exact ⟨keep h1 h2, hown h1 h2⟩
/-- A thread under way: since (Γs, vs) its own older memory and what is nobody's stands; since (Γ0, v0) it has kept others' memory. -/
structure TS (i : Nat) (Γs : Gho) (vs : World) (Γ0 : Gho) (v0 : World) (Γ : Gho) (A : Sys) (v : World) : Prop where
  wi : WI Γ A v
  rely : Rely i Γs vs Γ v
  guar : Guar i A.ths.length Γ0 v0 Γ v
  lt : i < A.ths.length
theorem TS.start {i : Nat} {Γ Γ0 : Gho} {v v0 : World} {A : Sys} (hW : WI Γ A v) (hG : Guar i A.ths.length Γ0 v0 Γ v) (hi : i < A.ths.length) : TS i Γ v Γ0 v0 Γ A v := ⟨hW, Rely.refl _ _ _, hG, hi⟩
/-- It changes blocks of its own that are new since vs, and makes more. -/
theorem TS.priv {i : Nat} {Γs Γ0 Γ : Gho} {vs v0 v v' : World} {A : Sys} (h : TS i Γs vs Γ0 v0 Γ A v) (hsz : v.heap.size ≤ v'.heap.size) (hchg : ∀ b, b < v.heap.size → (b < vs.heap.size ∨ Γ.own b ≠ .thr i) → v'.heap[b]? = v.heap[b]?) (hr : Ready0 v') : TS i Γs vs Γ0 v0 (Γ.ext v (.thr i)) A v' := by
  have hold : ∀ b, b < v.heap.size → (Γ.ext v (.thr i)).own b = Γ.own b := fun b hb => by simp [Gho.ext, hb]
  refine ⟨h.wi.other (fun b hb hs => hchg b hb (.inr (by rw [hs]; simp))) hr _, ?_, h.guar.trans ?_, h.lt⟩
  · refine ⟨Nat.le_trans h.rely.size hsz, h.rely.same, h.rely.cb, fun b hb => (hold b (Nat.lt_of_lt_of_le hb h.rely.size)).trans (h.rely.own b hb), fun b hb ho => (hchg b (Nat.lt_of_lt_of_le hb h.rely.size) (.inl hb)).trans (h.rely.keep b hb ho), fun b hb ho => (cell_same (hchg b (Nat.lt_of_lt_of_le hb h.rely.size) (.inl hb))).trans (h.rely.mixed b hb ho), h.rely.nc, fun b j hb ho => (frozen_same (hchg b (Nat.lt_of_lt_of_le hb h.rely.size) (.inl hb))).trans (h.rely.mf b j hb ho)⟩
  · exact ⟨hsz, ⟨rfl, rfl, rfl, fun _ _ => ⟨rfl, rfl⟩⟩, fun _ _ => rfl, hold, fun b hb _ h2 _ => hchg b hb (.inr h2), fun b j hb ho _ => cell_same (hchg b hb (.inr (by rw [ho]; simp))), fun b h1 _ => .inr (.inl (by simp [Gho.ext, show ¬ b < v.heap.size from by omega])), Nat.le_refl _, fun b j hb ho => frozen_same (hchg b hb (.inr (by rw [ho]; simp)))⟩
/-- The system's step by the thread. -/
theorem TS.sys {i : Nat} {Γs Γ0 Γ Γ' : Gho} {vs v0 v v' : World} {A A' : Sys} (h : TS i Γs vs Γ0 v0 Γ A v) (hW : WI Γ' A' v') (hl : A'.ths.length = A.ths.length) (hG : ∀ i n, Guar i n Γ v Γ' v') (hR : ∀ i, Rely i Γ v Γ' v') : TS i Γs vs Γ0 v0 Γ' A' v' :=
  ⟨hW, h.rely.trans (hR i), by rw [hl]; exact h.guar.trans (hG i _), by rw [hl]; exact h.lt⟩
/-- Behind a wait. -/
theorem TS.later {i : Nat} {Γs Γ0 Γ Γ0' Γ' : Gho} {vs v0 v v0' v' : World} {A A' : Sys} (h : TS i Γs vs Γ0 v0 Γ A v) (hR : Rely i Γ v Γ' v') (hW : WI Γ' A' v') (hi : i < A'.ths.length) (hG : Guar i A'.ths.length Γ0' v0' Γ' v') : TS i Γs vs Γ0' v0' Γ' A' v' :=
  ⟨hW, h.rely.trans hR, hG, hi⟩
theorem note_hp {i : Nat} {Fin : List (Int × Int) → Gho → World → Prop} {k : Prog} {Γ0 Γ : Gho} {v0 v : World} {A : Sys} (hW : WI Γ A v) (hi : i < A.ths.length) (op x y : Int) (c : Frame) (cs : List Frame)
    (K : ∀ v', WI (Γ.ext v .sys) (A.note i op (-1) x y) v' → (∀ i n, Guar i n Γ v (Γ.ext v .sys) v') → (∀ i, Rely i Γ v (Γ.ext v .sys) v') → HP i Fin k Γ0 v0 (A.note i op (-1) x y) (G (c.finish (.tuple #[])) cs) v') :
    HP i Fin (.note op (-1) x y k) Γ0 v0 A (G (Frame.enter Try.prog 54 #[.pointer (some ⟨Γ.tb i, 0, none⟩), .int .i64 op, .int .i64 x, .int .i64 y] .normal) (c :: cs)) v := by
  intro hlen
  obtain ⟨t, ht⟩ : ∃ t, A.ths[i]? = some t := ⟨A.ths[i], by simp [hi]⟩
  obtain ⟨hti, hgi, hoi, hogi⟩ := hW.th i t ht
  obtain ⟨b, a, hE, hb, hbf, hat⟩ := enter_is Note_fn Note_body Note_tmps #[.pointer (some ⟨Γ.tb i, 0, none⟩), .int .i64 op, .int .i64 x, .int .i64 y] [(0, .pointer (some ⟨Γ.tb i, 0, none⟩)), (1, .int .i64 op), (2, .int .i64 x), (3, .int .i64 y)] rfl (by simp)
  rw [hE]
  have hbk := not_early hb
  refine HP.walk ?_
  unfold Note_code
  refine hold_seq (hold_region (l := [0,1,2,3,4]) rfl ?_)
  refine h_val noA hbk Note_0 rfl rfl (by decide) hat (r_move rfl) fun a hat => ?_
  refine h_val noA hbk Note_0 rfl rfl (by decide) hat (r_nil rfl) fun a hat => ?_
  refine h_val noA hbk Note_0 rfl rfl (by decide) hat (r_field fk_th_0 rfl) fun a hat => ?_
  refine h_val noA hbk Note_0 rfl rfl (by decide) hat (r_load ld_pw rfl (cell_of hti)) fun a hat => ?_
  refine h_val noA hbk Note_0 rfl opOk_nil (by decide) hat (y := .bool true) (v' := v) (fun ρ o hρ ho t d => by
    have h1 := hρ (.tmp 11) _ rfl
    have h2 := hρ (.const (.pointer none)) _ rfl
    simp only [execOp, ho]
    simp [go_sem, h1, h2]) fun a hat => ?_
  refine hold_region_end (hold_cond (hat.eval (q := .tmp 12) rfl) (hold_region (l := [0,1,2,3,4]) rfl ?_))
  iterate 4 (refine h_val noA hbk Note_1 rfl rfl (by decide) hat (r_move rfl) fun a hat => ?_)
  refine h_enter (L := Ln) ln_ok.2 hbk Note_1 rfl (note_call (by simp)) hat (args := #[.pointer (some ⟨Γ.tb i, 0, none⟩), .int .i64 op, .int .i64 (-1), .int .i64 x, .int .i64 y]) (note_run rfl) ?_
  refine note_hold rfl hW hi hlen _ _ _ _ _ _ fun v1 hW1 hG1 hR1 => ?_
  obtain ⟨a1, hat1, hfin⟩ := back_val (b := b) (a := a) (i := 4) (d := 17) (k := []) (rest := []) Note_1 rfl (by decide) hat (.tuple #[])
  refine Eq.subst (motive := fun X => Hold Try.prog false (SS Γ0 A.ths.length) _ (G X (c :: cs)) v1) hfin.symm ?_
  refine hold_region_end (hold_done hb hbf Note_fn hat1.defers (ret_none Note_res _) ?_)
  exact HP.stop (K v1 hW1 hG1 hR1)
end Go.Proofs.Ytlnjmheocfbimaa

/- play.one. -/
namespace Go.Proofs.Ytlnjmheocfbimaa
open Go Go.Conc
structure ACall where
  op : Int
  a : Int
  b : Int
  c : Int
def Prog.calls (dop : ACall → (Int × Int → Prog) → Prog) : Bool → Nat → List ACall → List (Int × Int) → (List (Int × Int) → Prog) → Prog
  | _, _, [], acc, K => K acc
  | true, k, _ :: l, acc, K => Prog.calls dop true (k + 1) l (acc ++ [(4, 0)]) K
  | false, k, x :: l, acc, K => .note 9 (-1) k 0 (dop x fun r => .note 10 (-1) k r.1 (Prog.calls dop (r.1 == 4) (k + 1) l (acc ++ [r]) K))
def acallV (x : ACall) : Value := .agg #[.int .i64 x.op, .int .i64 x.a, .int .i64 x.b, .int .i64 x.c]
def ansV (r : Int × Int) : Value := .agg #[.int .i64 r.1, .int .i64 r.2]
def ansFlat (l : List (Int × Int)) : List Value := l.flatMap fun r => [.int .i64 r.1, .int .i64 r.2]
/-- The script lies there, and nobody writes it. -/
def ScriptAt (Γ : Gho) (v : World) (lv : Value) (l : List ACall) : Prop :=
  ∃ a cap, lv = .slice a l.length cap ∧ l.length ≤ 64 ∧ ∀ (j : Nat) (x : ACall), l[j]? = some x → ∃ B O, a = some ⟨B, O, none⟩ ∧ B < v.heap.size ∧ Γ.own B = .const ∧
    v.cell? ⟨B, O + j * 4, none⟩ = some (.int .i64 x.op) ∧ v.cell? ⟨B, O + j * 4 + 1, none⟩ = some (.int .i64 x.a) ∧ v.cell? ⟨B, O + j * 4 + 2, none⟩ = some (.int .i64 x.b) ∧ v.cell? ⟨B, O + j * 4 + 3, none⟩ = some (.int .i64 x.c)
theorem ScriptAt.keep {i : Nat} {Γ Γ' : Gho} {v v' : World} {lv : Value} {l : List ACall} (h : ScriptAt Γ v lv l) (hR : Rely i Γ v Γ' v') : ScriptAt Γ' v' lv l := by
  obtain ⟨a, cap, h1, h2, h3⟩ := h
  refine ⟨a, cap, h1, h2, fun j x hx => ?_⟩
  obtain ⟨B, O, g1, g2, g3, g4, g5, g6, g7⟩ := h3 j x hx
  have e := hR.keep B g2 (.inr g3)
  exact ⟨B, O, g1, Nat.lt_of_lt_of_le g2 hR.size, (hR.own B g2).trans g3, (cell_same e).trans g4, (cell_same e).trans g5, (cell_same e).trans g6, (cell_same e).trans g7⟩
theorem infoAns : (Try.prog.info? 53).map (fun i => (i.zero, i.size, i.bytes)) = some (some (.agg #[.int .i64 0, .int .i64 0]), 2, 16) := by kernel_rfl
section
variable {v : World} {e : Env}
theorem x_load_call {q : Operand} {B O : Nat} {x : ACall} (h : opv e q = some (.pointer (some ⟨B, O, none⟩))) (h0 : v.cell? ⟨B, O, none⟩ = some (.int .i64 x.op)) (h1 : v.cell? ⟨B, O + 1, none⟩ = some (.int .i64 x.a)) (h2 : v.cell? ⟨B, O + 2, none⟩ = some (.int .i64 x.b)) (h3 : v.cell? ⟨B, O + 3, none⟩ = some (.int .i64 x.c)) :
    RunsTo Try.prog e (.load 50 q) v (.value (acallV x)) v := fun ρ o hρ ho t d => by
  have h4 := hρ q _ h
  simp only [execOp, ho, h4]; simp [go_sem, cell_re, h0, h1, h2, h3, acallV]
theorem x_load_ans {q : Operand} {B O : Nat} {x y : Value} (h : opv e q = some (.pointer (some ⟨B, O, none⟩))) (h0 : v.cell? ⟨B, O, none⟩ = some x) (h1 : v.cell? ⟨B, O + 1, none⟩ = some y) :
    RunsTo Try.prog e (.load 53 q) v (.value (.agg #[x, y])) v := fun ρ o hρ ho t d => by
  have h4 := hρ q _ h
  simp only [execOp, ho, h4]; simp [go_sem, cell_re, h0, h1]
theorem x_alloc_call : RunsTo Try.prog e (.alloc 50) v (.value (.pointer (some ⟨v.heap.size, 0, none⟩))) (v.alloc (.cells #[.int .i64 0, .int .i64 0, .int .i64 0, .int .i64 0] 50 (0, 0))) := fun ρ o hρ ho t d => by
  simp only [execOp, ho]; simp [go_sem]; exact ⟨rfl, rfl⟩
theorem x_alloc_ans : RunsTo Try.prog e (.alloc 53) v (.value (.pointer (some ⟨v.heap.size, 0, none⟩))) (v.alloc (.cells #[.int .i64 0, .int .i64 0] 53 (0, 0))) := fun ρ o hρ ho t d => by
  simp only [execOp, ho]; simp [go_sem]; exact ⟨rfl, rfl⟩
theorem x_store_call {q q' : Operand} {B : Nat} {x : ACall} {arr : Array Value} (h : opv e q = some (.pointer (some ⟨B, 0, none⟩))) (h' : opv e q' = some (acallV x)) (hb : v.heap[B]? = some (.cells arr 50 (0, 0))) (hs : arr.size = 4) :
    RunsTo Try.prog e (.store 50 q q') v .skip ((((v.setCell ⟨B, 0, none⟩ (.int .i64 x.op)).setCell ⟨B, 1, none⟩ (.int .i64 x.a)).setCell ⟨B, 2, none⟩ (.int .i64 x.b)).setCell ⟨B, 3, none⟩ (.int .i64 x.c)) := fun ρ o hρ ho t d => by
  have h4 := hρ q _ h
  have h5 := hρ q' _ h'
  have c : ∀ j, j < 4 → v.cell? ⟨B, j, none⟩ = some (arr.getD j undef) := fun j hj => by rw [cell_of hb]; simp [hs, hj]
  have f : ∀ j, v.frozen? ⟨B, j, none⟩ = false := fun j => by rw [frozen_of hb]; simp
  simp only [execOp, ho, h4, h5, acallV]
  simp [go_sem, cell_re, frozen_re, c, f]
  rfl
theorem x_store_ans {q q' : Operand} {B : Nat} {r : Int × Int} {arr : Array Value} (h : opv e q = some (.pointer (some ⟨B, 0, none⟩))) (h' : opv e q' = some (ansV r)) (hb : v.heap[B]? = some (.cells arr 53 (0, 0))) (hs : arr.size = 2) :
    RunsTo Try.prog e (.store 53 q q') v .skip ((v.setCell ⟨B, 0, none⟩ (.int .i64 r.1)).setCell ⟨B, 1, none⟩ (.int .i64 r.2)) := fun ρ o hρ ho t d => by
  have h4 := hρ q _ h
  have h5 := hρ q' _ h'
  have c : ∀ j, j < 2 → v.cell? ⟨B, j, none⟩ = some (arr.getD j undef) := fun j hj => by rw [cell_of hb]; simp [hs, hj]
  have f : ∀ j, v.frozen? ⟨B, j, none⟩ = false := fun j => by rw [frozen_of hb]; simp
  simp only [execOp, ho, h4, h5, ansV]
  simp [go_sem, cell_re, frozen_re, c, f]
  rfl
end
end Go.Proofs.Ytlnjmheocfbimaa

/- play.one: the loop. -/
namespace Go.Proofs.Ytlnjmheocfbimaa
open Go Go.Conc
/-- What a script's calls do. -/
def DoSpec (i : Nat) (Fin : List (Int × Int) → Gho → World → Prop) (dov : Value) (dop : ACall → (Int × Int → Prog) → Prog) (E : Gho → World → Prop) : Prop :=
  ∃ f fn cap, dov = .func (.func f) #[] cap ∧ Try.prog.funcs[f]? = some fn ∧ fn.body.isSome = true ∧ (fn.name == "runtime.NumGoroutine") = false ∧ (∀ Γ v Γ' v', E Γ v → Rely i Γ v Γ' v' → E Γ' v') ∧
    ∀ (x : ACall) (Γ0 : Gho) (v0 : World) (Γ : Gho) (A : Sys) (v : World) (c : Frame) (cs : List Frame) (k : Int × Int → Prog), WI Γ A v → Guar i A.ths.length Γ0 v0 Γ v → i < A.ths.length → E Γ v → (∀ r, Go1 i Fin Γ v (k r) (G (c.finish (ansV r)) cs)) →
      HP i Fin (dop x k) Γ0 v0 A (G (Frame.enter Try.prog f (#[.pointer (some ⟨Γ.tb i, 0, none⟩), acallV x] ++ cap) .normal) (c :: cs)) v
theorem size_alloc {v : World} {o : Obj} : (v.alloc o).heap.size = v.heap.size + 1 := by show (v.heap.push o).size = _; exact Array.size_push ..
theorem ready_alloc {v : World} (h : Ready0 v) {c : Array Value} {t : TypeId} {fr : Nat × Nat} : Ready0 (v.alloc (.cells c t fr)) := by
  intro r x y hr
  by_cases e : r < v.heap.size
  · rw [heap_alloc_old v _ e] at hr; exact h r x y hr
  · by_cases e' : r = v.heap.size
    · subst e'; rw [heap_alloc_new] at hr; cases hr
    · rw [Array.getElem?_eq_none (by rw [size_alloc]; omega)] at hr; cases hr
/-- The answers so far, in memory of the thread's own. -/
def OutAt (i : Nat) (vs : World) (Γ : Gho) (v : World) (ov : Value) (acc : List (Int × Int)) : Prop :=
  v.ownsRow 0 53 2 ov acc.length (ansFlat acc) ∧ ∀ b, ov.ownBlock = some b → vs.heap.size ≤ b ∧ b < v.heap.size ∧ Γ.own b = .thr i
theorem OutAt.keep {i : Nat} {vs : World} {Γ Γ' : Gho} {v v' : World} {ov : Value} {acc : List (Int × Int)} (h : OutAt i vs Γ v ov acc) (hR : Rely i Γ v Γ' v') : OutAt i vs Γ' v' ov acc := by
  refine ⟨ownsRow_keep h.1 fun b c hb _ => ?_, fun b hb => ?_⟩
  · obtain ⟨h1, h2, h3⟩ := h.2 b hb
    exact hR.keep b h2 (.inl h3)
  · obtain ⟨h1, h2, h3⟩ := h.2 b hb
    exact ⟨h1, Nat.lt_of_lt_of_le h2 hR.size, (hR.own b h2).trans h3⟩
theorem ansFlat_app (l : List (Int × Int)) (r : Int × Int) : ansFlat (l ++ [r]) = ansFlat l ++ [.int .i64 r.1, .int .i64 r.2] := by simp [ansFlat]
section
variable {main : Bool} {S : Addr → Prop} {Stop : Goroutine → World → Prop} {N : Nat} {e : Env} {b : Frame} {a : Act} {k : List Item} {cs : List Frame} {v : World} {ops : Array Oper} {Lv : List (Option Nat × Op × Option (Nat × Bool))} {j : Nat} {rest : List Nat}
/-- out = append(out, r): the slice of one element, then the append. -/
theorem append_ans {i : Nat} {Γs Γ0 Γ : Gho} {vs v0 : World} {A : Sys} (hT : TS i Γs vs Γ0 v0 Γ A v) {ov : Value} {acc : List (Int × Int)} (hO : OutAt i vs Γ v ov acc) (hlen : acc.length < 1000) (r : Int × Int)
    (hb : b.kind ≠ .early) (hl : ops.toList.map view = Lv) {d1 d2 : Nat} {q0 q1 : Operand} (hi1 : Lv[j]? = some (some d1, .buildSlice 48 1 #[(0, q1)], none)) (hi2 : Lv[j + 1]? = some (some d2, .call { callee := .builtin .append, args := #[q0, .tmp d1], argTypes := #[48, 48] }, none))
    (hd1 : d1 < N) (hd2 : d2 < N) (hat : AtE N [] e a) (_hq0 : opv e q0 = some ov) (hq0' : opv ((d1, .slice (some ⟨v.heap.size, 0, none⟩) 1 1) :: e) q0 = some ov) (hq1 : opv e q1 = some (ansV r))
    (H : ∀ ov' Γ' v' a', TS i Γs vs Γ0 v0 Γ' A v' → OutAt i vs Γ' v' ov' (acc ++ [r]) → Rely i Γs vs Γ' v' → (∀ bb, bb < v.heap.size → ov.ownBlock ≠ some bb → v'.heap[bb]? = v.heap[bb]?) → (∀ bb, bb < v.heap.size → Γ'.own bb = Γ.own bb) → v.heap.size ≤ v'.heap.size → Γ'.tb i = Γ.tb i →
      AtE N [] ((d2, ov') :: (d1, .slice (some ⟨v.heap.size, 0, none⟩) 1 1) :: e) a' → Hold Try.prog main S Stop (G (b.at a' (.inRegion ops rest :: k)) cs) v') :
    Hold Try.prog main S Stop (G (b.at a (.inRegion ops (j :: (j + 1) :: rest) :: k)) cs) v := by
  obtain ⟨i0, hi0, hz0, hz1, hz2⟩ := info_parts infoAns
  refine h_val (L := LA) (v' := v.alloc (.cells #[.int .i64 r.1, .int .i64 r.2] 53 (0, 0))) (y := .slice (some ⟨v.heap.size, 0, none⟩) 1 1) (fun f hf => by cases hf) hb hl hi1 rfl hd1 hat (fun ρ o hρ ho t d => by
    have h1 := hρ q1 _ hq1
    simp only [execOp, ho]
    simp [go_sem, h1, ansV]
    exact ⟨rfl, rfl⟩) fun a1 hat1 => ?_
  generalize hv1 : v.alloc (.cells #[.int .i64 r.1, .int .i64 r.2] 53 (0, 0)) = v1
  have hsz1 : v1.heap.size = v.heap.size + 1 := by rw [← hv1, size_alloc]
  have hnew : v1.heap[v.heap.size]? = some (.cells #[.int .i64 r.1, .int .i64 r.2] 53 (0, 0)) := by rw [← hv1]; exact heap_alloc_new v _
  have hold1 : ∀ bb, bb < v.heap.size → v1.heap[bb]? = v.heap[bb]? := fun bb hbb => by rw [← hv1]; exact heap_alloc_old v _ hbb
  have hrd1 : Ready0 v1 := by rw [← hv1]; exact ready_alloc hT.wi.ready
  have hown1 : v1.ownsRow 0 53 2 ov acc.length (ansFlat acc) := ownsRow_keep hO.1 fun bb c hbb hc => hold1 bb (lt_of_heap hc)
  refine h_any (L := LA) (fun f hf => by cases hf) hb hl hi2 rfl hd2 hat1 hrd1 (Q := fun y v' => ∃ g cap, y = .slice (some ⟨g, 0, none⟩) (acc.length + 1) cap ∧ v'.ownsRow 0 53 2 y (acc.length + 1) (ansFlat acc ++ [.int .i64 r.1, .int .i64 r.2]) ∧ (∀ k, k < v1.heap.size → some k ≠ ov.ownBlock → v'.heap[k]? = v1.heap[k]?) ∧ v1.heap.size ≤ v'.heap.size ∧ (ov.ownBlock = some g ∨ g = v1.heap.size) ∧ g < v'.heap.size) (fun ρ o hρ ho t d => ?_) ?_
  · have h1 := hρ q0 _ hq0'
    have h2 := hρ (.tmp d1) (.slice (some ⟨v.heap.size, 0, none⟩) 1 1) (by simp [opv, look])
    obtain ⟨g, cap, w', hr, h3, h4, h5, h6⟩ := run_append_lies (P := Try.prog) (v1.re t d) 48 o.type 0 53 i0 _ 2 16 Try.underlying48 hi0 hz0 hz1 hz2 rfl (by omega) ov acc.length (ansFlat acc) hown1 ⟨v.heap.size, 0, none⟩ 1 1 [.int .i64 r.1, .int .i64 r.2] rfl (World.news_of_block (w := v1.re t d) hnew) (by simp [Value.oneCell'])
      (by omega) (by have : (1001 : Nat) ≤ maxLen := by decide
                     omega) (by omega) (Nat.zero_le _) v1.heap.size rfl
    refine ⟨_, w', ?_, g, cap, rfl, h3, h4.block, h4.size, h5, h6⟩
    simp only [execOp, ho, resolve, invoke, builtin, Sem.run_bind, Sem.run_pure, Result.andThen_ok, List.map_toArray, List.map_cons, List.map_nil, h1, h2, hr]
  · rintro y v2 ⟨g, cap, rfl, g1, g2, g3, g4, g5⟩ hrd2 a2 hat2
    have hold2 : ∀ bb, bb < v.heap.size → ov.ownBlock ≠ some bb → v2.heap[bb]? = v.heap[bb]? := fun bb hbb hne => (g2 bb (by omega) (fun e => hne e.symm)).trans (hold1 bb hbb)
    have hT2 : TS i Γs vs Γ0 v0 (Γ.ext v (.thr i)) A v2 := hT.priv (by omega) (fun bb hbb hc => hold2 bb hbb fun e => by
      obtain ⟨x1, x2, x3⟩ := hO.2 bb e
      rcases hc with hc | hc
      · omega
      · exact hc x3) hrd2
    have ho2 : ∀ bb, bb < v.heap.size → (Γ.ext v (.thr i)).own bb = Γ.own bb := fun bb hbb => by simp [Gho.ext, hbb]
    refine H _ _ v2 a2 hT2 ⟨?_, fun bb hbb => ?_⟩ hT2.rely hold2 ho2 (by omega) rfl hat2
    · rw [ansFlat_app]; simpa using g1
    · cases hbb
      rcases g4 with h | h
      · obtain ⟨x1, x2, x3⟩ := hO.2 g h
        exact ⟨x1, g5, (ho2 g x2).trans x3⟩
      · have := hT.rely.size
        have hg1 : vs.heap.size ≤ g := by rw [h, hsz1]; omega
        have hg2 : ¬ g < v.heap.size := by rw [h, hsz1]; omega
        exact ⟨hg1, g5, by simp [Gho.ext, hg2]⟩
end
end Go.Proofs.Ytlnjmheocfbimaa

/- play.one: the loop, and the whole. -/
namespace Go.Proofs.Ytlnjmheocfbimaa
open Go Go.Conc
noncomputable def oneBody : Code := match one_code with | .seq _ (.seq _ (.seq _ (.seq (.seq _ (.block _ (.loop c))) _))) => c | _ => .skip
noncomputable def oneTail : Code := match one_code with | .seq _ (.seq _ (.seq _ (.seq _ c))) => c | _ => .skip
abbrev oneEnv (tb : Nat) (lv dov ov : Value) (stuck : Bool) (n k : Nat) : Env := [(17, .int .i64 k), (16, .int .i64 n), (15, lv), (8, .bool stuck), (7, ov), (2, dov), (0, .pointer (some ⟨tb, 0, none⟩))]
theorem one_loop {i : Nat} {Fin : List (Int × Int) → Gho → World → Prop} {dov : Value} {dop : ACall → (Int × Int → Prog) → Prog} {E : Gho → World → Prop} (hdo : DoSpec i Fin dov dop E) {l : List ACall} {lv : Value} {K : List (Int × Int) → Prog} {Γs : Gho} {vs : World} (hSs : ScriptAt Γs vs lv l) (hEs : E Γs vs) {b : Frame} (hb : b.kind = .normal) {c : Frame} {cs : List Frame}
    (hK : ∀ acc ov Γ0 v0 Γ A v e a, TS i Γs vs Γ0 v0 Γ A v → OutAt i vs Γ v ov acc → AtE 48 [] e a → look e 7 = some ov → HP i Fin (K acc) Γ0 v0 A (G (b.at a [.code oneTail]) (c :: cs)) v) :
    ∀ (m k : Nat) (acc : List (Int × Int)) (stuck : Bool) (ov : Value) (Γ0 : Gho) (v0 : World) (Γ : Gho) (A : Sys) (v : World) (a : Act), k + m = l.length → acc.length = k → TS i Γs vs Γ0 v0 Γ A v → OutAt i vs Γ v ov acc → AtE 48 [] (oneEnv (Γ.tb i) lv dov ov stuck l.length k) a →
      HP i Fin (Prog.calls dop stuck k (l.drop k) acc K) Γ0 v0 A (G (b.at a [.code oneBody, .inLoop oneBody, .inBlock 0, .code oneTail]) (c :: cs)) v := by
  have hbk := not_early hb
  intro m
  induction m with
  | zero =>
    intro k acc stuck ov Γ0 v0 Γ A v a hk hacc hT hO hat
    rw [List.drop_eq_nil_of_le (by omega)]
    refine HP.walk ?_
    generalize hbody : oneBody = body
    unfold oneBody one_code at hbody
    simp only [] at hbody
    subst hbody
    refine hold_seq (hold_region (l := [0]) rfl (h_val noA hbk one_4 rfl rfl (by decide) hat (y := .bool false) (v' := v) (fun ρ o hρ ho t d => by
      have h1 := hρ (.tmp 17) _ rfl
      have h2 := hρ (.tmp 16) _ rfl
      simp only [execOp, ho]
      have : ¬ k < l.length := by omega
      simp [go_sem, h1, h2, this]) fun a hat => hold_region_end (hold_seq (hold_cond (hat.eval (q := .tmp 18) rfl) (hold_exit (k' := [.code oneTail]) rfl ?_)))))
    cases stuck <;> exact HP.stop (hK acc ov Γ0 v0 Γ A v _ a hT hO hat rfl)
  | succ m ih =>
    intro k acc stuck ov Γ0 v0 Γ A v a hk hacc hT hO hat
    obtain ⟨x, hx⟩ : ∃ x, l[k]? = some x := ⟨l[k]'(by omega), by simp⟩
    have hdrop : l.drop k = x :: l.drop (k + 1) := by
      rw [List.drop_eq_getElem_cons (by omega)]
      congr 1
      exact Option.some.inj ((List.getElem?_eq_getElem (by omega)).symm.trans hx)
    rw [hdrop]
    obtain ⟨sa, scap, hlv, hl64, hcalls⟩ := hSs.keep hT.rely
    have hEk : ∀ Γ v Γ' v', E Γ v → Rely i Γ v Γ' v' → E Γ' v' := by obtain ⟨_, _, _, _, _, _, _, h, _⟩ := hdo; exact h
    obtain ⟨B, O, hsa, hB, hBo, m0, m1, m2, m3⟩ := hcalls k x hx
    refine HP.walk ?_
    generalize hbody : oneBody = body
    have hbody' := hbody
    unfold oneBody one_code at hbody
    simp only [] at hbody
    generalize hlast : Item.inLoop body = lastI
    subst hbody
    subst hlast
    refine hold_seq (hold_region (l := [0]) rfl (h_val noA hbk one_4 rfl rfl (by decide) hat (y := .bool true) (v' := v) (fun ρ o hρ ho t d => by
      have h1 := hρ (.tmp 17) _ rfl
      have h2 := hρ (.tmp 16) _ rfl
      simp only [execOp, ho]
      have : k < l.length := by omega
      simp [go_sem, h1, h2, this]) fun a hat => hold_region_end (hold_seq (hold_cond (hat.eval (q := .tmp 18) rfl) (hold_skip (hold_seq (hold_block (hold_seq (hold_region (l := [0,1,2,3,4,5]) rfl ?_)))))))))
    refine h_val noA hbk one_5 rfl rfl (by decide) hat (r_move rfl) fun a hat => ?_
    refine h_val noA hbk one_5 rfl rfl (by decide) hat (y := .pointer (some ⟨B, O + k * 4, none⟩)) (v' := v) (fun ρ o hρ ho t d => by
      have h1 := hρ (.tmp 15) _ rfl
      have h2 := hρ (.tmp 17) _ rfl
      simp only [execOp, ho]
      have : k < l.length := by omega
      rw [hlv, hsa] at h1
      simp [go_sem, h1, h2, this]) fun a hat => ?_
    refine h_val noA hbk one_5 rfl rfl (by decide) hat (x_load_call (x := x) rfl m0 m1 m2 m3) fun a hat => ?_
    refine h_val noA hbk one_5 rfl rfl (by decide) hat x_alloc_call fun a hat => ?_
    refine h_val noA hbk one_5 rfl rfl (by decide) hat (r_assign rfl) fun a hat => ?_
    have hnew : (v.alloc (.cells #[.int .i64 0, .int .i64 0, .int .i64 0, .int .i64 0] 50 (0, 0))).heap[v.heap.size]? = some (.cells #[.int .i64 0, .int .i64 0, .int .i64 0, .int .i64 0] 50 (0, 0)) := heap_alloc_new v _
    have hold1 : ∀ bb, bb < v.heap.size → (v.alloc (.cells #[.int .i64 0, .int .i64 0, .int .i64 0, .int .i64 0] 50 (0, 0))).heap[bb]? = v.heap[bb]? := fun bb hbb => heap_alloc_old v _ hbb
    have hrd1 : Ready0 (v.alloc (.cells #[.int .i64 0, .int .i64 0, .int .i64 0, .int .i64 0] 50 (0, 0))) := ready_alloc hT.wi.ready
    have hsz1 : (v.alloc (.cells #[.int .i64 0, .int .i64 0, .int .i64 0, .int .i64 0] 50 (0, 0))).heap.size = v.heap.size + 1 := size_alloc
    generalize v.alloc (.cells #[.int .i64 0, .int .i64 0, .int .i64 0, .int .i64 0] 50 (0, 0)) = v1 at hnew hold1 hrd1 hsz1 ⊢
    refine h_skip noA hbk one_5 rfl rfl hat (x_store_call (x := x) rfl rfl hnew rfl) fun a hat => ?_
    have hblk := set_self (o := 3) (x := .int .i64 x.c) (set_self (o := 2) (x := .int .i64 x.b) (set_self (o := 1) (x := .int .i64 x.a) (set_self (o := 0) (x := .int .i64 x.op) hnew)))
    simp at hblk
    have hsz2 : ((((v1.setCell ⟨v.heap.size, 0, none⟩ (.int .i64 x.op)).setCell ⟨v.heap.size, 1, none⟩ (.int .i64 x.a)).setCell ⟨v.heap.size, 2, none⟩ (.int .i64 x.b)).setCell ⟨v.heap.size, 3, none⟩ (.int .i64 x.c)).heap.size = v.heap.size + 1 := by rw [size_set, size_set, size_set, size_set, hsz1]
    have hold2 : ∀ bb, bb < v.heap.size → ((((v1.setCell ⟨v.heap.size, 0, none⟩ (.int .i64 x.op)).setCell ⟨v.heap.size, 1, none⟩ (.int .i64 x.a)).setCell ⟨v.heap.size, 2, none⟩ (.int .i64 x.b)).setCell ⟨v.heap.size, 3, none⟩ (.int .i64 x.c)).heap[bb]? = v.heap[bb]? := fun bb hbb => by
      rw [set_other (by omega), set_other (by omega), set_other (by omega), set_other (by omega)]; exact hold1 bb hbb
    have hrd2 : Ready0 ((((v1.setCell ⟨v.heap.size, 0, none⟩ (.int .i64 x.op)).setCell ⟨v.heap.size, 1, none⟩ (.int .i64 x.a)).setCell ⟨v.heap.size, 2, none⟩ (.int .i64 x.b)).setCell ⟨v.heap.size, 3, none⟩ (.int .i64 x.c)) := ready_set (ready_set (ready_set (ready_set hrd1)))
    generalize ((((v1.setCell ⟨v.heap.size, 0, none⟩ (.int .i64 x.op)).setCell ⟨v.heap.size, 1, none⟩ (.int .i64 x.a)).setCell ⟨v.heap.size, 2, none⟩ (.int .i64 x.b)).setCell ⟨v.heap.size, 3, none⟩ (.int .i64 x.c)) = v2 at hblk hsz2 hold2 hrd2 ⊢
    have hT2 : TS i Γs vs Γ0 v0 (Γ.ext v (.thr i)) A v2 := hT.priv (by omega) (fun bb hbb _ => hold2 bb hbb) hrd2
    have hR2 : Rely i Γ v (Γ.ext v (.thr i)) v2 := ⟨by omega, ⟨rfl, rfl, rfl, rfl, rfl⟩, fun _ _ => rfl, fun bb hbb => by simp [Gho.ext, hbb], fun bb hbb _ => hold2 bb hbb, fun bb hbb _ => cell_same (hold2 bb hbb), Nat.le_refl _, fun bb j hbb _ => frozen_same (hold2 bb hbb)⟩
    have hO2 := hO.keep hR2
    have hown2 : (Γ.ext v (.thr i)).own v.heap.size = .thr i := by simp [Gho.ext]
    have htb2 : (Γ.ext v (.thr i)).tb i = Γ.tb i := rfl
    have hbs : v.heap.size < v2.heap.size := by omega
    refine hold_region_end (hold_seq (hold_seq (hold_region (l := [0]) rfl (h_val noA hbk one_6 rfl rfl (by decide) hat (r_move rfl) fun a hat => hold_region_end ?_))))
    cases stuck with
    | true =>
      refine hold_cond (hat.eval (q := .tmp 22) rfl) (hold_seq (hold_region (l := [0,1,2,3,4]) rfl ?_))
      refine h_val noA hbk one_7 rfl rfl (by decide) hat (r_move rfl) fun a hat => ?_
      refine h_val noA hbk one_7 rfl rfl (by decide) hat (y := ansV (4, 0)) (v' := v2) (fun ρ o hρ ho t d => by
        have h1 := hρ (.const (.int .i64 4)) _ rfl
        simp only [execOp, ho]
        simp [go_sem, h1, ansV]) fun a hat => ?_
      refine append_ans hT2 hO2 (by omega) (4, 0) hbk one_7 (d1 := 25) (d2 := 26) (q0 := .tmp 23) (q1 := .tmp 24) rfl rfl (by decide) (by decide) hat rfl rfl rfl fun ov' Γ' v' a' hT3 hO3 _ hold3 ho3 hsz3 htb3 hat' => ?_
      refine h_val noA hbk one_7 rfl rfl (by decide) hat' (r_assign rfl) fun a hat => ?_
      refine hold_region_end (hold_exit (k' := [.code (.region 13 (Rg Try.f43.body 13) false), .inLoop oneBody, .inBlock 0, .code oneTail]) rfl (hold_region (l := [0,1]) rfl ?_))
      refine h_val noA hbk one_13 rfl rfl (by decide) hat (y := .int .i64 ((k + 1 : Nat) : Int)) (v' := v') (fun ρ o hρ ho t d => by
        have h1 := hρ (.tmp 17) _ rfl
        have h2 := hρ (.const (.int .i64 1)) _ rfl
        simp only [execOp, ho]
        simp [go_sem, h1, h2, IntWalk.i64_in ((k : Int) + 1) (by omega)]) fun a hat => ?_
      refine h_val noA hbk one_13 rfl rfl (by decide) hat (r_move rfl) fun a hat => ?_
      refine hold_region_end (hold_inLoop ?_)
      refine HP.stop (ih (k + 1) (acc ++ [(4, 0)]) true ov' Γ0 v0 Γ' A v' a (by omega) (by simp [hacc]) hT3 hO3 (hat.sub ?_))
      rw [htb3]
      exact AtE.cons rfl (AtE.cons rfl (AtE.cons rfl (AtE.cons rfl (AtE.cons rfl (AtE.cons rfl (AtE.cons rfl AtE.nil))))))
    | false =>
      obtain ⟨f, fn, cap, hdov, hf, hbd, hnm, _, hdo'⟩ := hdo
      refine hold_cond (hat.eval (q := .tmp 22) rfl) (hold_skip (hold_seq (hold_region (l := [0,1,2]) rfl ?_)))
      iterate 2 (refine h_val noA hbk one_8 rfl rfl (by decide) hat (r_move rfl) fun a hat => ?_)
      refine h_enter (L := ⟨[54], []⟩) (fun f hf => by cases hf) hbk one_8 rfl (Note_call (by simp)) hat (args := #[.pointer (some ⟨Γ.tb i, 0, none⟩), .int .i64 9, .int .i64 k, .int .i64 0]) (Note_run rfl) ?_
      refine HP.stop (note_hp hT2.wi hT2.lt 9 k 0 _ _ fun v3 hW3 hG3 hR3 => ?_)
      obtain ⟨a3, hat3, hfin3⟩ := back_val (b := b) (a := a) (i := 2) (d := 29) (rest := []) one_8 rfl (by decide) hat (.tuple #[]) (k := _)
      refine Eq.subst (motive := fun X => HP i Fin _ Γ0 v0 _ (G X (c :: cs)) v3) hfin3.symm ?_
      have hT3 := hT2.sys hW3 rfl hG3 hR3
      have hO3 := hO2.keep (hR3 i)
      have hblk3 : v3.heap[v.heap.size]? = _ := ((hR3 i).keep v.heap.size hbs (.inl hown2)).trans hblk
      refine HP.walk (hold_region_end (hold_seq (hold_region (l := [0,1,2,3,4,5]) rfl ?_)))
      iterate 2 (refine h_val noA hbk one_9 rfl rfl (by decide) hat3 (r_move rfl) fun a hat3 => ?_)
      refine h_val noA hbk one_9 rfl rfl (by decide) hat3 (x_load_call (x := x) rfl (cell_of hblk3) (cell_of hblk3) (cell_of hblk3) (cell_of hblk3)) fun a hat3 => ?_
      refine h_callv hbk one_9 rfl hat3 (q := .tmp 30) (vals := #[.pointer (some ⟨Γ.tb i, 0, none⟩), acallV x]) (by exact congrArg some hdov) rfl hf hbd hnm ?_
      refine HP.stop (hdo' x Γ0 v0 ((Γ.ext v (.thr i)).ext v2 .sys) _ v3 _ _ _ hT3.wi hT3.guar hT3.lt (hEk _ _ _ _ hEs hT3.rely) fun r Γ0' v0' Γ4 v4 A4 hR4 hW4 hi4 hG4 => ?_)
      obtain ⟨a4, hat4, hfin4⟩ := back_val (b := b) (i := 3) (d := 33) (rest := [4, 5]) one_9 rfl (by decide) hat3 (ansV r) (k := _)
      refine Eq.subst (motive := fun X => HP i Fin _ Γ0' v0' A4 (G X (c :: cs)) v4) hfin4.symm ?_
      have hT4 := hT3.later hR4 hW4 hi4 hG4
      have hO4 := hO3.keep hR4
      have htb4 : Γ4.tb i = Γ.tb i := hR4.same.2.2.2.1
      refine HP.walk ?_
      refine h_val noA hbk one_9 rfl rfl (by decide) hat4 x_alloc_ans fun a hat => ?_
      have hnewa : (v4.alloc (.cells #[.int .i64 0, .int .i64 0] 53 (0, 0))).heap[v4.heap.size]? = some (.cells #[.int .i64 0, .int .i64 0] 53 (0, 0)) := heap_alloc_new v4 _
      have holda : ∀ bb, bb < v4.heap.size → (v4.alloc (.cells #[.int .i64 0, .int .i64 0] 53 (0, 0))).heap[bb]? = v4.heap[bb]? := fun bb hbb => heap_alloc_old v4 _ hbb
      have hrda : Ready0 (v4.alloc (.cells #[.int .i64 0, .int .i64 0] 53 (0, 0))) := ready_alloc hT4.wi.ready
      have hsza : (v4.alloc (.cells #[.int .i64 0, .int .i64 0] 53 (0, 0))).heap.size = v4.heap.size + 1 := size_alloc
      generalize v4.alloc (.cells #[.int .i64 0, .int .i64 0] 53 (0, 0)) = va at hnewa holda hrda hsza ⊢
      refine h_skip noA hbk one_9 rfl rfl hat (x_store_ans (r := r) rfl rfl hnewa rfl) fun a hat => ?_
      have hblka := set_self (o := 1) (x := .int .i64 r.2) (set_self (o := 0) (x := .int .i64 r.1) hnewa)
      simp at hblka
      have hszb : ((va.setCell ⟨v4.heap.size, 0, none⟩ (.int .i64 r.1)).setCell ⟨v4.heap.size, 1, none⟩ (.int .i64 r.2)).heap.size = v4.heap.size + 1 := by rw [size_set, size_set, hsza]
      have holdb : ∀ bb, bb < v4.heap.size → ((va.setCell ⟨v4.heap.size, 0, none⟩ (.int .i64 r.1)).setCell ⟨v4.heap.size, 1, none⟩ (.int .i64 r.2)).heap[bb]? = v4.heap[bb]? := fun bb hbb => by
        rw [set_other (by omega), set_other (by omega)]; exact holda bb hbb
      have hrdb : Ready0 ((va.setCell ⟨v4.heap.size, 0, none⟩ (.int .i64 r.1)).setCell ⟨v4.heap.size, 1, none⟩ (.int .i64 r.2)) := ready_set (ready_set hrda)
      generalize ((va.setCell ⟨v4.heap.size, 0, none⟩ (.int .i64 r.1)).setCell ⟨v4.heap.size, 1, none⟩ (.int .i64 r.2)) = v5 at hblka hszb holdb hrdb ⊢
      have hT5 : TS i Γs vs Γ0' v0' (Γ4.ext v4 (.thr i)) A4 v5 := hT4.priv (by omega) (fun bb hbb _ => holdb bb hbb) hrdb
      have hR5 : Rely i Γ4 v4 (Γ4.ext v4 (.thr i)) v5 := ⟨by omega, ⟨rfl, rfl, rfl, rfl, rfl⟩, fun _ _ => rfl, fun bb hbb => by simp [Gho.ext, hbb], fun bb hbb _ => holdb bb hbb, fun bb hbb _ => cell_same (holdb bb hbb), Nat.le_refl _, fun bb j hbb _ => frozen_same (holdb bb hbb)⟩
      have hO5 := hO4.keep hR5
      have hown5 : (Γ4.ext v4 (.thr i)).own v4.heap.size = .thr i := by simp [Gho.ext]
      have hbs5 : v4.heap.size < v5.heap.size := by omega
      refine hold_region_end (hold_seq (hold_region (l := [0,1,2,3,4]) rfl ?_))
      iterate 2 (refine h_val noA hbk one_10 rfl rfl (by decide) hat (r_move rfl) fun a hat => ?_)
      refine h_val noA hbk one_10 rfl rfl (by decide) hat (r_field fk_ans_0 rfl) fun a hat => ?_
      refine h_val noA hbk one_10 rfl rfl (by decide) hat (r_load ld_errno rfl (cell_of hblka)) fun a hat => ?_
      refine h_enter (L := ⟨[54], []⟩) (fun f hf => by cases hf) hbk one_10 rfl (Note_call (by simp)) hat (args := #[.pointer (some ⟨Γ4.tb i, 0, none⟩), .int .i64 10, .int .i64 k, .int .i64 r.1]) (Note_run (by rw [htb4]; rfl)) ?_
      refine HP.stop (note_hp hT5.wi hT5.lt 10 k r.1 _ _ fun v6 hW6 hG6 hR6 => ?_)
      obtain ⟨a6, hat6, hfin6⟩ := back_val (b := b) (a := a) (i := 4) (d := 38) (rest := []) one_10 rfl (by decide) hat (.tuple #[]) (k := _)
      refine Eq.subst (motive := fun X => HP i Fin _ Γ0' v0' _ (G X (c :: cs)) v6) hfin6.symm ?_
      have hT6 := hT5.sys hW6 rfl hG6 hR6
      have hO6 := hO5.keep (hR6 i)
      have hblk6 : v6.heap[v4.heap.size]? = _ := ((hR6 i).keep v4.heap.size hbs5 (.inl hown5)).trans hblka
      have hlt6 : v4.heap.size < v6.heap.size := lt_of_heap hblk6
      have hovne : ov.ownBlock ≠ some v4.heap.size := fun e => by
        obtain ⟨_, h2, _⟩ := hO4.2 _ e
        omega
      refine HP.walk (hold_region_end (hold_seq (hold_region (l := [0,1,2,3,4]) rfl ?_)))
      refine h_val noA hbk one_11 rfl rfl (by decide) hat6 (r_move rfl) fun a hat => ?_
      refine h_val noA hbk one_11 rfl rfl (by decide) hat (y := ansV r) (x_load_ans rfl (cell_of hblk6) (cell_of hblk6)) fun a hat => ?_
      refine append_ans hT6 hO6 (by omega) r hbk one_11 (d1 := 41) (d2 := 42) (q0 := .tmp 39) (q1 := .tmp 40) rfl rfl (by decide) (by decide) hat rfl rfl rfl fun ov' Γ7 v7 a' hT7 hO7 _ hold7 ho7 hsz7 htb7 hat' => ?_
      refine h_val noA hbk one_11 rfl rfl (by decide) hat' (r_assign rfl) fun a hat => ?_
      have hblk7 := (hold7 _ hlt6 hovne).trans hblk6
      refine hold_region_end (hold_region (l := [0,1,2,3]) rfl ?_)
      refine h_val noA hbk one_12 rfl rfl (by decide) hat (r_field fk_ans_0 rfl) fun a hat => ?_
      refine h_val noA hbk one_12 rfl rfl (by decide) hat (r_load ld_errno rfl (cell_of hblk7)) fun a hat => ?_
      refine h_val noA hbk one_12 rfl (opOk_eq eqt_errno) (by decide) hat (y := .bool (r.1 == 4)) (v' := v7) (fun ρ o hρ ho t d => by
        have h1 := hρ (.tmp 44) _ rfl
        have h2 := hρ (.const (.int .i64 4)) _ rfl
        simp only [execOp, ho]
        simp [go_sem, h1, h2]) fun a hat => ?_
      refine h_val noA hbk one_12 rfl rfl (by decide) hat (r_assign rfl) fun a hat => ?_
      refine hold_region_end (hold_inBlock (hold_region (l := [0,1]) rfl ?_))
      refine h_val noA hbk one_13 rfl rfl (by decide) hat (y := .int .i64 ((k + 1 : Nat) : Int)) (v' := v7) (fun ρ o hρ ho t d => by
        have h1 := hρ (.tmp 17) _ rfl
        have h2 := hρ (.const (.int .i64 1)) _ rfl
        simp only [execOp, ho]
        simp [go_sem, h1, h2, IntWalk.i64_in ((k : Int) + 1) (by omega)]) fun a hat => ?_
      refine h_val noA hbk one_13 rfl rfl (by decide) hat (r_move rfl) fun a hat => ?_
      refine hold_region_end (hold_inLoop ?_)
      refine HP.stop (ih (k + 1) (acc ++ [r]) (r.1 == 4) ov' Γ0' v0' Γ7 _ v7 a (by omega) (by simp [hacc]) hT7 hO7 (hat.sub ?_))
      have htb : Γ7.tb i = Γ.tb i := htb7.trans htb4
      rw [htb]
      exact AtE.cons rfl (AtE.cons rfl (AtE.cons rfl (AtE.cons rfl (AtE.cons rfl (AtE.cons rfl (AtE.cons rfl AtE.nil))))))
end Go.Proofs.Ytlnjmheocfbimaa

/- play.one: the whole. -/
namespace Go.Proofs.Ytlnjmheocfbimaa
open Go Go.Conc
theorem one_hp {i : Nat} {Fin : List (Int × Int) → Gho → World → Prop} {dov : Value} {dop : ACall → (Int × Int → Prog) → Prog} {E : Gho → World → Prop} (hdo : DoSpec i Fin dov dop E) {l : List ACall} {lv : Value} {K : List (Int × Int) → Prog} {Γ0 Γ : Gho} {v0 v : World} {A : Sys} (hW : WI Γ A v) (hG : Guar i A.ths.length Γ0 v0 Γ v) (hi : i < A.ths.length)
    (hS : ScriptAt Γ v lv l) (hE : E Γ v) (c : Frame) (cs : List Frame)
    (hK : ∀ acc ov Γ0' v0' Γ' A' v', TS i Γ v Γ0' v0' Γ' A' v' → OutAt i v Γ' v' ov acc → HP i Fin (K acc) Γ0' v0' A' (G (c.finish ov) cs) v') :
    HP i Fin (Prog.calls dop false 0 l [] K) Γ0 v0 A (G (Frame.enter Try.prog 43 #[.pointer (some ⟨Γ.tb i, 0, none⟩), lv, dov] .normal) (c :: cs)) v := by
  obtain ⟨i0, hi0, hz0, hz1, hz2⟩ := info_parts infoAns
  obtain ⟨sa, scap, hlv, hl64, _⟩ := id hS
  obtain ⟨b, a, hEn, hb, hbf, hat⟩ := enter_is one_fn one_body one_tmps #[.pointer (some ⟨Γ.tb i, 0, none⟩), lv, dov] [(0, .pointer (some ⟨Γ.tb i, 0, none⟩)), (1, lv), (2, dov)] rfl (by simp)
  rw [hEn]
  have hbk := not_early hb
  refine HP.walk ?_
  generalize hcode : one_code = code
  have hcode' := hcode
  unfold one_code at hcode
  subst hcode
  refine hold_seq (hold_region (l := [0]) rfl (h_val noA hbk one_0 rfl rfl (by decide) hat (r_assign rfl) fun a hat => hold_region_end (hold_seq (hold_region (l := [0,1,2,3]) rfl ?_))))
  refine h_val noA hbk one_1 rfl rfl (by decide) hat (r_move rfl) fun a hat => ?_
  refine h_val noA hbk one_1 rfl rfl (by decide) hat (y := .int .i64 l.length) (v' := v) (fun ρ o hρ ho t d => by
    have h1 := hρ (.tmp 12) _ rfl
    simp only [execOp, ho]
    rw [hlv] at h1
    simp [go_sem, h1]) fun a hat => ?_
  refine h_any (L := LA) (fun f hf => by cases hf) hbk one_1 rfl rfl (by decide) hat hW.ready (Q := fun y v' => ∃ cap, y = .slice (some ⟨v.heap.size, 0, none⟩) 0 cap ∧ v'.ownsRow 0 53 2 y 0 [] ∧ (∀ k, k < v.heap.size → v'.heap[k]? = v.heap[k]?) ∧ v.heap.size < v'.heap.size) (fun ρ o hρ ho t d => ?_) ?_
  · have h1 := hρ (.tmp 13) _ rfl
    have h2 := hρ (.const (.int .i64 0)) _ rfl
    obtain ⟨w', hr, h3, h4⟩ := run_make_own (P := Try.prog) (v.re t d) 0 48 53 i0 _ 2 Try.underlying48 hi0 hz0 hz1 .i64 .i64 l.length (by rw [hz2]; omega) (Nat.le_trans hl64 (by decide)) (Nat.zero_le _)
    refine ⟨_, w', ?_, l.length, rfl, h3, fun k hk => h4.block k hk (by simp), ?_⟩
    · simp only [execOp, ho, h1, h2]
      exact run_then hr rfl
    · obtain ⟨g, cap, cur, hg, _, hg2, _⟩ : ∃ g cap cur, (Value.slice (some ⟨(v.re t d).heap.size, 0, none⟩) 0 l.length) = .slice (some ⟨g, 0, none⟩) 0 cap ∧ 0 ≤ g ∧ w'.heap[g]? = some (.cells cur 53 (0, 0)) ∧ 0 ≤ cap := by
        rcases h3.2 with ⟨h, _⟩ | ⟨g, cap, cur, h, h5, h6, h7, _⟩
        · cases h
        · exact ⟨g, cap, cur, h, h5, h6, h7⟩
      cases hg
      exact lt_of_heap hg2
  · rintro y v1 ⟨cap, rfl, g1, g2, g3⟩ hrd a hat
    refine h_val noA hbk one_1 rfl rfl (by decide) hat (r_assign rfl) fun a hat => ?_
    have hT : TS i Γ v Γ0 v0 (Γ.ext v (.thr i)) A v1 := (TS.start hW hG hi).priv (by omega) (fun bb hbb _ => g2 bb hbb) hrd
    have hO : OutAt i v (Γ.ext v (.thr i)) v1 (.slice (some ⟨v.heap.size, 0, none⟩) 0 cap) [] := ⟨g1, fun bb hbb => by cases hbb; exact ⟨Nat.le_refl _, g3, by simp [Gho.ext]⟩⟩
    refine hold_region_end (hold_seq (hold_region (l := [0]) rfl (h_val noA hbk one_2 rfl rfl (by decide) hat (r_assign rfl) fun a hat => hold_region_end (hold_seq (hold_seq (hold_region (l := [0,1,2]) rfl ?_))))))
    refine h_val noA hbk one_3 rfl rfl (by decide) hat (r_move rfl) fun a hat => ?_
    refine h_val noA hbk one_3 rfl rfl (by decide) hat (y := .int .i64 l.length) (v' := v1) (fun ρ o hρ ho t d => by
      have h1 := hρ (.tmp 15) _ rfl
      simp only [execOp, ho]
      rw [hlv] at h1
      simp [go_sem, h1]) fun a hat => ?_
    refine h_val noA hbk one_3 rfl rfl (by decide) hat (y := .int .i64 ((0 : Nat) : Int)) (v' := v1) (r_move rfl) fun a hat => hold_region_end (hold_block (hold_loop ?_))
    refine HP.stop (one_loop (Γs := Γ) (vs := v) hdo hS hE hb (fun acc ov Γ0' v0' Γ' A' v' e a hT hO hat h7 => ?_) l.length 0 [] false _ Γ0 v0 _ A v1 a (by omega) rfl hT hO (hat.sub ?_))
    · refine HP.walk ?_
      unfold oneTail one_code
      refine hold_seq (hold_region (l := [0,1]) rfl ?_)
      refine h_val noA hbk one_14 rfl rfl (by decide) hat (r_move h7) fun a hat => ?_
      refine h_val noA hbk one_14 rfl rfl (by decide) hat (r_assign rfl) fun a hat => hold_region_end ?_
      exact hold_retd hb hbf one_fn hat.defers (ret_one one_res hat rfl) (HP.stop (hK acc ov Γ0' v0' Γ' A' v' hT hO))
    · exact AtE.cons rfl (AtE.cons rfl (AtE.cons rfl (AtE.cons rfl (AtE.cons rfl (AtE.cons rfl (AtE.cons rfl AtE.nil))))))
end Go.Proofs.Ytlnjmheocfbimaa

/- play.Run$1: a thread's body: out[i] = one(t, l, do). -/
namespace Go.Proofs.Ytlnjmheocfbimaa
open Go Go.Conc
/-- What a thread has left behind: its answers, in memory that was its own. -/
def FinOut (i : Nat) (ob : Nat) (acc : List (Int × Int)) (Γ : Gho) (v : World) : Prop :=
  (ob < v.heap.size ∧ Γ.own ob = .mixed) ∧ ∃ ov, v.cell? ⟨ob, i, none⟩ = some ov ∧ v.ownsRow 0 53 2 ov acc.length (ansFlat acc) ∧ ∀ b, ov.ownBlock = some b → b < v.heap.size ∧ Γ.own b = .thr i
/-- What the body has captured. -/
structure Caught (i : Nat) (Γ : Gho) (v : World) (lb db vb ib ob n : Nat) (lv dov : Value) : Prop where
  cl : v.cell? ⟨lb, 0, none⟩ = some lv ∧ lb < v.heap.size ∧ Γ.own lb = .const
  cd : v.cell? ⟨db, 0, none⟩ = some dov ∧ db < v.heap.size ∧ Γ.own db = .const
  co : v.cell? ⟨vb, 0, none⟩ = some (.slice (some ⟨ob, 0, none⟩) n n) ∧ vb < v.heap.size ∧ Γ.own vb = .const
  ci : v.cell? ⟨ib, 0, none⟩ = some (.int .i64 i) ∧ ib < v.heap.size ∧ Γ.own ib = .const
  lt : i < n
  out : ob < v.heap.size ∧ Γ.own ob = .mixed
theorem Caught.keep {i : Nat} {Γ Γ' : Gho} {v v' : World} {lb db vb ib ob n : Nat} {lv dov : Value} (h : Caught i Γ v lb db vb ib ob n lv dov) (hR : Rely i Γ v Γ' v') : Caught i Γ' v' lb db vb ib ob n lv dov := by
  have key : ∀ {b : Nat} {x : Value}, v.cell? ⟨b, 0, none⟩ = some x ∧ b < v.heap.size ∧ Γ.own b = .const → v'.cell? ⟨b, 0, none⟩ = some x ∧ b < v'.heap.size ∧ Γ'.own b = .const := fun {b x} ⟨h1, h2, h3⟩ =>
    ⟨(cell_same (hR.keep b h2 (.inr h3))).trans h1, Nat.lt_of_lt_of_le h2 hR.size, (hR.own b h2).trans h3⟩
  exact ⟨key h.cl, key h.cd, key h.co, key h.ci, h.lt, Nat.lt_of_lt_of_le h.out.1 hR.size, (hR.own ob h.out.1).trans h.out.2⟩
/-- What the body has captured stands, and the cell for the answers. -/
structure Slot (i ob : Nat) (v : World) : Prop where
  cell : ∃ x, v.cell? ⟨ob, i, none⟩ = some x
  open_ : v.frozen? ⟨ob, i, none⟩ = false
theorem Slot.keep {i ob : Nat} {Γ Γ' : Gho} {v v' : World} (h : Slot i ob v) (hb : ob < v.heap.size) (ho : Γ.own ob = .mixed) (hR : Rely i Γ v Γ' v') : Slot i ob v' :=
  ⟨by rw [hR.mixed ob hb ho]; exact h.cell, by rw [hR.mf ob i hb ho]; exact h.open_⟩
end Go.Proofs.Ytlnjmheocfbimaa

/- Skeletons, printed by gen.py. -/
namespace Go.Proofs.Ytlnjmheocfbimaa
open Go Go.Conc
set_option maxRecDepth 100000
theorem Turn_bd : Try.f35.body.isSome = true := by rw [Turn_body]; rfl
theorem Turn_nm : (Try.f35.name == "runtime.NumGoroutine") = false := by kernel_rfl
theorem Turn_code_def : Turn_code = Turn_code := rfl
theorem Did_bd : Try.f37.body.isSome = true := by rw [Did_body]; rfl
theorem Did_nm : (Try.f37.name == "runtime.NumGoroutine") = false := by kernel_rfl
theorem Did_code_def : Did_code = Did_code := rfl
theorem changed_bd : Try.f67.body.isSome = true := by rw [changed_body]; rfl
theorem changed_nm : (Try.f67.name == "runtime.NumGoroutine") = false := by kernel_rfl
theorem ALoad_bd : Try.f36.body.isSome = true := by rw [ALoad_body]; rfl
theorem ALoad_nm : (Try.f36.name == "runtime.NumGoroutine") = false := by kernel_rfl
theorem ACas_bd : Try.f40.body.isSome = true := by rw [ACas_body]; rfl
theorem ACas_nm : (Try.f40.name == "runtime.NumGoroutine") = false := by kernel_rfl
theorem AStore_bd : Try.f34.body.isSome = true := by rw [AStore_body]; rfl
theorem AStore_nm : (Try.f34.name == "runtime.NumGoroutine") = false := by kernel_rfl
theorem Load_bd : Try.f23.body.isSome = true := by rw [Load_body]; rfl
theorem Load_nm : (Try.f23.name == "runtime.NumGoroutine") = false := by kernel_rfl
theorem Load_code_def : Load_code = Load_code := rfl
theorem Cas_bd : Try.f26.body.isSome = true := by rw [Cas_body]; rfl
theorem Cas_nm : (Try.f26.name == "runtime.NumGoroutine") = false := by kernel_rfl
theorem Cas_code_def : Cas_code = Cas_code := rfl
theorem one_bd : Try.f43.body.isSome = true := by rw [one_body]; rfl
theorem one_nm : (Try.f43.name == "runtime.NumGoroutine") = false := by kernel_rfl
theorem RunF_bd : Try.f42.body.isSome = true := by rw [RunF_body]; rfl
theorem RunF_nm : (Try.f42.name == "runtime.NumGoroutine") = false := by kernel_rfl
noncomputable def thrun_code : Code := (.seq (.region 0 (Rg Try.f60.body 0) false) (.seq (.region 1 (Rg Try.f60.body 1) false) (.region 2 (Rg Try.f60.body 2) false)))
theorem thrun_code_def : thrun_code = (.seq (.region 0 (Rg Try.f60.body 0) false) (.seq (.region 1 (Rg Try.f60.body 1) false) (.region 2 (Rg Try.f60.body 2) false))) := rfl
theorem thrun_body : Try.f60.body = some thrun_code := by kernel_rfl
theorem thrun_fn : Try.prog.funcs[60]? = some Try.f60 := Try.func60
theorem thrun_bd : Try.f60.body.isSome = true := by rw [thrun_body]; rfl
theorem thrun_nm : (Try.f60.name == "runtime.NumGoroutine") = false := by kernel_rfl
theorem thrun_tmps : Try.f60.ntmps = 8 := by kernel_rfl
theorem thrun_res : Try.f60.results = #[] := by kernel_rfl
theorem thrun_0 : (Rg Try.f60.body 0).toList.map view = [(some 2, Go.Op.box 26 (Go.Operand.tmp 0), none)] := by kernel_rfl
theorem thrun_1 : (Rg Try.f60.body 1).toList.map view = [(some 4, Go.Op.makeFunc (Go.Fn.func 86) #[] #[Go.Operand.tmp 2], none), (none, Go.Op.defer { callee := Go.Callee.value (Go.Operand.tmp 4), args := #[], argTypes := #[] }, none)] := by kernel_rfl
theorem thrun_2 : (Rg Try.f60.body 2).toList.map view = [(some 5, Go.Op.move (Go.Operand.tmp 1), none), (some 6, Go.Op.load 26 (Go.Operand.tmp 2), none), (some 7, Go.Op.call { callee := Go.Callee.value (Go.Operand.tmp 5), args := #[Go.Operand.tmp 6], argTypes := #[26] }, none)] := by kernel_rfl
noncomputable def thrunF_code : Code := (.seq (.seq (.region 0 (Rg Try.f86.body 0) false) (.cond (Go.Operand.tmp 2) (.region 1 (Rg Try.f86.body 1) false) .skip)) (.seq (.region 2 (Rg Try.f86.body 2) false) (.region 3 (Rg Try.f86.body 3) false)))
theorem thrunF_code_def : thrunF_code = (.seq (.seq (.region 0 (Rg Try.f86.body 0) false) (.cond (Go.Operand.tmp 2) (.region 1 (Rg Try.f86.body 1) false) .skip)) (.seq (.region 2 (Rg Try.f86.body 2) false) (.region 3 (Rg Try.f86.body 3) false))) := rfl
theorem thrunF_body : Try.f86.body = some thrunF_code := by kernel_rfl
theorem thrunF_fn : Try.prog.funcs[86]? = some Try.f86 := Try.func86
theorem thrunF_bd : Try.f86.body.isSome = true := by rw [thrunF_body]; rfl
theorem thrunF_nm : (Try.f86.name == "runtime.NumGoroutine") = false := by kernel_rfl
theorem thrunF_tmps : Try.f86.ntmps = 16 := by kernel_rfl
theorem thrunF_res : Try.f86.results = #[] := by kernel_rfl
theorem thrunF_0 : (Rg Try.f86.body 0).toList.map view = [(some 1, Go.Op.call { callee := Go.Callee.builtin Go.Builtin.recover, args := #[], argTypes := #[] }, none), (some 2, Go.Op.binOp Go.BinOp.neq 20 (Go.Operand.tmp 1) (Go.Operand.const Go.Value.nilIface) 20, none)] := by kernel_rfl
theorem thrunF_2 : (Rg Try.f86.body 2).toList.map view = [(some 5, Go.Op.load 26 (Go.Operand.tmp 0), none), (some 6, Go.Op.nilCheck (Go.Operand.tmp 5), none), (some 7, Go.Op.fieldAddr 62 (Go.Operand.tmp 6) 3, none), (none, Go.Op.store 3 (Go.Operand.tmp 7) (Go.Operand.const (Go.Value.int Go.IntKind.i64 3)), none)] := by kernel_rfl
theorem thrunF_3 : (Rg Try.f86.body 3).toList.map view = [(some 8, Go.Op.load 26 (Go.Operand.tmp 0), none), (some 9, Go.Op.nilCheck (Go.Operand.tmp 8), none), (some 10, Go.Op.fieldAddr 62 (Go.Operand.tmp 9) 0, none), (some 11, Go.Op.load 33 (Go.Operand.tmp 10), none), (some 12, Go.Op.nilCheck (Go.Operand.tmp 11), none), (some 13, Go.Op.fieldAddr 74 (Go.Operand.tmp 12) 8, none), (some 14, Go.Op.load 60 (Go.Operand.tmp 13), none), (some 15, Go.Op.build 83 #[], none), (none, Go.Op.send (Go.Operand.tmp 14) (Go.Operand.tmp 15), none)] := by kernel_rfl
noncomputable def WRun_L2 : Code := (.seq (.seq (.region 19 (Rg Try.f44.body 19) false) (.cond (Go.Operand.tmp 61) .skip (.exit 4))) (.block 5 .skip))
theorem WRun_L2_def : WRun_L2 = (.seq (.seq (.region 19 (Rg Try.f44.body 19) false) (.cond (Go.Operand.tmp 61) .skip (.exit 4))) (.block 5 .skip)) := rfl
noncomputable def WRun_L1 : Code := (.seq (.region 12 (Rg Try.f44.body 12) false) (.seq (.cond (Go.Operand.tmp 33) .skip (.exit 2)) (.seq (.block 3 (.seq (.region 13 (Rg Try.f44.body 13) false) (.seq (.region 14 (Rg Try.f44.body 14) false) (.seq (.region 15 (Rg Try.f44.body 15) false) (.seq (.region 16 (Rg Try.f44.body 16) false) (.region 17 (Rg Try.f44.body 17) false)))))) (.region 18 (Rg Try.f44.body 18) false))))
theorem WRun_L1_def : WRun_L1 = (.seq (.region 12 (Rg Try.f44.body 12) false) (.seq (.cond (Go.Operand.tmp 33) .skip (.exit 2)) (.seq (.block 3 (.seq (.region 13 (Rg Try.f44.body 13) false) (.seq (.region 14 (Rg Try.f44.body 14) false) (.seq (.region 15 (Rg Try.f44.body 15) false) (.seq (.region 16 (Rg Try.f44.body 16) false) (.region 17 (Rg Try.f44.body 17) false)))))) (.region 18 (Rg Try.f44.body 18) false)))) := rfl
noncomputable def WRun_L0 : Code := (.seq (.region 3 (Rg Try.f44.body 3) false) (.seq (.cond (Go.Operand.tmp 15) .skip (.exit 0)) (.seq (.block 1 (.seq (.region 4 (Rg Try.f44.body 4) false) (.seq (.region 5 (Rg Try.f44.body 5) false) (.region 6 (Rg Try.f44.body 6) false)))) (.region 7 (Rg Try.f44.body 7) false))))
noncomputable def WRun_code : Code := (.seq (.seq (.region 0 (Rg Try.f44.body 0) false) (.cond (Go.Operand.tmp 11) (.seq (.region 1 (Rg Try.f44.body 1) false) (.seq (.seq (.region 2 (Rg Try.f44.body 2) false) (.block 0 (.loop WRun_L0))) (.seq (.region 8 (Rg Try.f44.body 8) false) .ret))) .skip)) (.seq (.seq (.region 9 (Rg Try.f44.body 9) false) (.cond (Go.Operand.tmp 26) .ret .skip)) (.seq (.region 10 (Rg Try.f44.body 10) false) (.seq (.seq (.region 11 (Rg Try.f44.body 11) false) (.block 2 (.loop WRun_L1))) (.block 4 (.loop WRun_L2))))))
theorem WRun_code_def : WRun_code = (.seq (.seq (.region 0 (Rg Try.f44.body 0) false) (.cond (Go.Operand.tmp 11) (.seq (.region 1 (Rg Try.f44.body 1) false) (.seq (.seq (.region 2 (Rg Try.f44.body 2) false) (.block 0 (.loop WRun_L0))) (.seq (.region 8 (Rg Try.f44.body 8) false) .ret))) .skip)) (.seq (.seq (.region 9 (Rg Try.f44.body 9) false) (.cond (Go.Operand.tmp 26) .ret .skip)) (.seq (.region 10 (Rg Try.f44.body 10) false) (.seq (.seq (.region 11 (Rg Try.f44.body 11) false) (.block 2 (.loop WRun_L1))) (.block 4 (.loop WRun_L2)))))) := rfl
theorem WRun_body : Try.f44.body = some WRun_code := by kernel_rfl
theorem WRun_fn : Try.prog.funcs[44]? = some Try.f44 := Try.func44
theorem WRun_bd : Try.f44.body.isSome = true := by rw [WRun_body]; rfl
theorem WRun_nm : (Try.f44.name == "runtime.NumGoroutine") = false := by kernel_rfl
theorem WRun_tmps : Try.f44.ntmps = 62 := by kernel_rfl
theorem WRun_res : Try.f44.results = #[] := by kernel_rfl
theorem WRun_0 : (Rg Try.f44.body 0).toList.map view = [(some 10, Go.Op.move (Go.Operand.tmp 0), none), (some 11, Go.Op.binOp Go.BinOp.eql 33 (Go.Operand.tmp 10) (Go.Operand.const (Go.Value.pointer none)) 33, none)] := by kernel_rfl
theorem WRun_9 : (Rg Try.f44.body 9).toList.map view = [(some 23, Go.Op.move (Go.Operand.tmp 0), none), (some 24, Go.Op.nilCheck (Go.Operand.tmp 23), none), (some 25, Go.Op.fieldAddr 74 (Go.Operand.tmp 24) 7, none), (some 26, Go.Op.load 4 (Go.Operand.tmp 25), none)] := by kernel_rfl
theorem WRun_10 : (Rg Try.f44.body 10).toList.map view = [(some 27, Go.Op.move (Go.Operand.tmp 0), none), (some 28, Go.Op.nilCheck (Go.Operand.tmp 27), none), (some 29, Go.Op.fieldAddr 74 (Go.Operand.tmp 28) 7, none), (none, Go.Op.store 4 (Go.Operand.tmp 29) (Go.Operand.const (Go.Value.bool true)), none)] := by kernel_rfl
theorem WRun_11 : (Rg Try.f44.body 11).toList.map view = [(some 30, Go.Op.move (Go.Operand.tmp 1), none), (some 31, Go.Op.call { callee := Go.Callee.builtin Go.Builtin.len, args := #[Go.Operand.tmp 30], argTypes := #[98] }, none), (some 32, Go.Op.move (Go.Operand.const (Go.Value.int Go.IntKind.i64 0)), none)] := by kernel_rfl
theorem WRun_12 : (Rg Try.f44.body 12).toList.map view = [(some 33, Go.Op.binOp Go.BinOp.lss 3 (Go.Operand.tmp 32) (Go.Operand.tmp 31) 3, none)] := by kernel_rfl
theorem WRun_13 : (Rg Try.f44.body 13).toList.map view = [(some 34, Go.Op.move (Go.Operand.tmp 32), none), (some 35, Go.Op.indexAddr 98 (Go.Operand.tmp 30) (Go.Operand.tmp 32), none), (some 36, Go.Op.load 100 (Go.Operand.tmp 35), none), (some 7, Go.Op.assign (Go.Operand.tmp 34), none), (some 8, Go.Op.assign (Go.Operand.tmp 36), none)] := by kernel_rfl
theorem WRun_14 : (Rg Try.f44.body 14).toList.map view = [(some 37, Go.Op.move (Go.Operand.tmp 0), none), (some 38, Go.Op.move (Go.Operand.tmp 7), none), (some 39, Go.Op.makeChan 60 (Go.Operand.const (Go.Value.int Go.IntKind.i64 0)), none), (some 40, Go.Op.build 62 #[(0, Go.Operand.tmp 37), (1, Go.Operand.tmp 38), (2, Go.Operand.tmp 39)], none), (some 41, Go.Op.box 62 (Go.Operand.tmp 40), none), (some 9, Go.Op.assign (Go.Operand.tmp 41), none)] := by kernel_rfl
theorem WRun_15 : (Rg Try.f44.body 15).toList.map view = [(some 42, Go.Op.move (Go.Operand.tmp 0), none), (some 43, Go.Op.move (Go.Operand.tmp 0), none), (some 44, Go.Op.nilCheck (Go.Operand.tmp 43), none), (some 45, Go.Op.fieldAddr 74 (Go.Operand.tmp 44) 4, none), (some 46, Go.Op.load 72 (Go.Operand.tmp 45), none), (some 47, Go.Op.move (Go.Operand.tmp 9), none), (some 48, Go.Op.buildSlice 72 1 #[(0, Go.Operand.tmp 47)], none), (some 49, Go.Op.call { callee := Go.Callee.builtin Go.Builtin.append, args := #[Go.Operand.tmp 46, Go.Operand.tmp 48], argTypes := #[72, 72] }, none), (some 50, Go.Op.nilCheck (Go.Operand.tmp 42), none), (some 51, Go.Op.fieldAddr 74 (Go.Operand.tmp 50) 4, none), (none, Go.Op.store 72 (Go.Operand.tmp 51) (Go.Operand.tmp 49), none)] := by kernel_rfl
theorem WRun_16 : (Rg Try.f44.body 16).toList.map view = [(some 52, Go.Op.move (Go.Operand.tmp 9), none), (some 53, Go.Op.move (Go.Operand.tmp 8), none), (none, Go.Op.go { callee := Go.Callee.value (Go.Operand.func 60), args := #[Go.Operand.tmp 52, Go.Operand.tmp 53], argTypes := #[26, 100] }, none)] := by kernel_rfl
theorem WRun_17 : (Rg Try.f44.body 17).toList.map view = [(some 54, Go.Op.move (Go.Operand.tmp 0), none), (some 55, Go.Op.nilCheck (Go.Operand.tmp 54), none), (some 56, Go.Op.fieldAddr 74 (Go.Operand.tmp 55) 8, none), (some 57, Go.Op.load 60 (Go.Operand.tmp 56), none), (some 58, Go.Op.recv 60 (Go.Operand.tmp 57) false, none)] := by kernel_rfl
theorem WRun_18 : (Rg Try.f44.body 18).toList.map view = [(some 59, Go.Op.binOp Go.BinOp.add 3 (Go.Operand.tmp 32) (Go.Operand.const (Go.Value.int Go.IntKind.i64 1)) 3, none), (some 32, Go.Op.move (Go.Operand.tmp 59), none)] := by kernel_rfl
theorem WRun_19 : (Rg Try.f44.body 19).toList.map view = [(some 60, Go.Op.move (Go.Operand.tmp 0), none), (some 61, Go.Op.call { callee := Go.Callee.value (Go.Operand.func 61), args := #[Go.Operand.tmp 60], argTypes := #[33] }, none)] := by kernel_rfl
noncomputable def turn_L0 : Code := (.seq (.region 4 (Rg Try.f61.body 4) false) (.seq (.cond (Go.Operand.tmp 14) .skip (.exit 0)) (.seq (.block 1 (.seq (.region 5 (Rg Try.f61.body 5) false) (.seq (.seq (.region 6 (Rg Try.f61.body 6) false) (.cond (Go.Operand.tmp 18) (.region 7 (Rg Try.f61.body 7) false) .skip)) (.region 8 (Rg Try.f61.body 8) false)))) (.region 9 (Rg Try.f61.body 9) false))))
theorem turn_L0_def : turn_L0 = (.seq (.region 4 (Rg Try.f61.body 4) false) (.seq (.cond (Go.Operand.tmp 14) .skip (.exit 0)) (.seq (.block 1 (.seq (.region 5 (Rg Try.f61.body 5) false) (.seq (.seq (.region 6 (Rg Try.f61.body 6) false) (.cond (Go.Operand.tmp 18) (.region 7 (Rg Try.f61.body 7) false) .skip)) (.region 8 (Rg Try.f61.body 8) false)))) (.region 9 (Rg Try.f61.body 9) false)))) := rfl
noncomputable def turn_code : Code := (.seq (.region 0 (Rg Try.f61.body 0) false) (.seq (.region 1 (Rg Try.f61.body 1) false) (.seq (.region 2 (Rg Try.f61.body 2) false) (.seq (.seq (.region 3 (Rg Try.f61.body 3) false) (.block 0 (.loop turn_L0))) (.seq (.seq (.region 10 (Rg Try.f61.body 10) false) (.cond (Go.Operand.tmp 34) (.seq (.seq (.region 11 (Rg Try.f61.body 11) false) (.cond (Go.Operand.tmp 35) (.seq (.region 12 (Rg Try.f61.body 12) false) (.region 13 (Rg Try.f61.body 13) false)) .skip)) (.seq (.region 14 (Rg Try.f61.body 14) false) .ret)) .skip)) (.seq (.region 15 (Rg Try.f61.body 15) false) (.seq (.region 16 (Rg Try.f61.body 16) false) (.seq (.region 17 (Rg Try.f61.body 17) false) (.seq (.region 18 (Rg Try.f61.body 18) false) (.seq (.region 19 (Rg Try.f61.body 19) false) (.seq (.region 20 (Rg Try.f61.body 20) false) .ret)))))))))))
theorem turn_code_def : turn_code = (.seq (.region 0 (Rg Try.f61.body 0) false) (.seq (.region 1 (Rg Try.f61.body 1) false) (.seq (.region 2 (Rg Try.f61.body 2) false) (.seq (.seq (.region 3 (Rg Try.f61.body 3) false) (.block 0 (.loop turn_L0))) (.seq (.seq (.region 10 (Rg Try.f61.body 10) false) (.cond (Go.Operand.tmp 34) (.seq (.seq (.region 11 (Rg Try.f61.body 11) false) (.cond (Go.Operand.tmp 35) (.seq (.region 12 (Rg Try.f61.body 12) false) (.region 13 (Rg Try.f61.body 13) false)) .skip)) (.seq (.region 14 (Rg Try.f61.body 14) false) .ret)) .skip)) (.seq (.region 15 (Rg Try.f61.body 15) false) (.seq (.region 16 (Rg Try.f61.body 16) false) (.seq (.region 17 (Rg Try.f61.body 17) false) (.seq (.region 18 (Rg Try.f61.body 18) false) (.seq (.region 19 (Rg Try.f61.body 19) false) (.seq (.region 20 (Rg Try.f61.body 20) false) .ret))))))))))) := rfl
theorem turn_body : Try.f61.body = some turn_code := by kernel_rfl
theorem turn_fn : Try.prog.funcs[61]? = some Try.f61 := Try.func61
theorem turn_bd : Try.f61.body.isSome = true := by rw [turn_body]; rfl
theorem turn_nm : (Try.f61.name == "runtime.NumGoroutine") = false := by kernel_rfl
theorem turn_tmps : Try.f61.ntmps = 73 := by kernel_rfl
theorem turn_res : Try.f61.results = #[Go.ResultVar.tmp 2] := by kernel_rfl
theorem turn_0 : (Rg Try.f61.body 0).toList.map view = [(some 2, Go.Op.assign (Go.Operand.const (Go.Value.bool false)), none)] := by kernel_rfl
theorem turn_1 : (Rg Try.f61.body 1).toList.map view = [(some 3, Go.Op.assign (Go.Operand.const (Go.Value.slice none 0 0)), none)] := by kernel_rfl
theorem turn_2 : (Rg Try.f61.body 2).toList.map view = [(some 4, Go.Op.assign (Go.Operand.const (Go.Value.bool false)), none)] := by kernel_rfl
theorem turn_3 : (Rg Try.f61.body 3).toList.map view = [(some 8, Go.Op.move (Go.Operand.tmp 0), none), (some 9, Go.Op.nilCheck (Go.Operand.tmp 8), none), (some 10, Go.Op.fieldAddr 74 (Go.Operand.tmp 9) 4, none), (some 11, Go.Op.load 72 (Go.Operand.tmp 10), none), (some 12, Go.Op.call { callee := Go.Callee.builtin Go.Builtin.len, args := #[Go.Operand.tmp 11], argTypes := #[72] }, none), (some 13, Go.Op.move (Go.Operand.const (Go.Value.int Go.IntKind.i64 0)), none)] := by kernel_rfl
theorem turn_4 : (Rg Try.f61.body 4).toList.map view = [(some 14, Go.Op.binOp Go.BinOp.lss 3 (Go.Operand.tmp 13) (Go.Operand.tmp 12) 3, none)] := by kernel_rfl
theorem turn_5 : (Rg Try.f61.body 5).toList.map view = [(some 15, Go.Op.indexAddr 72 (Go.Operand.tmp 11) (Go.Operand.tmp 13), none), (some 16, Go.Op.load 26 (Go.Operand.tmp 15), none), (some 6, Go.Op.assign (Go.Operand.tmp 16), none)] := by kernel_rfl
theorem turn_6 : (Rg Try.f61.body 6).toList.map view = [(some 17, Go.Op.move (Go.Operand.tmp 6), none), (some 18, Go.Op.call { callee := Go.Callee.value (Go.Operand.func 87), args := #[Go.Operand.tmp 17], argTypes := #[26] }, none)] := by kernel_rfl
theorem turn_7 : (Rg Try.f61.body 7).toList.map view = [(some 19, Go.Op.move (Go.Operand.tmp 3), none), (some 20, Go.Op.move (Go.Operand.tmp 6), none), (some 21, Go.Op.buildSlice 72 1 #[(0, Go.Operand.tmp 20)], none), (some 22, Go.Op.call { callee := Go.Callee.builtin Go.Builtin.append, args := #[Go.Operand.tmp 19, Go.Operand.tmp 21], argTypes := #[72, 72] }, none), (some 3, Go.Op.assign (Go.Operand.tmp 22), none)] := by kernel_rfl
theorem turn_8 : (Rg Try.f61.body 8).toList.map view = [(some 23, Go.Op.move (Go.Operand.tmp 4), none), (some 24, Go.Op.move (Go.Operand.tmp 23), none), (some 25, Go.Op.move (Go.Operand.tmp 6), some (1, false)), (some 26, Go.Op.nilCheck (Go.Operand.tmp 25), some (1, false)), (some 27, Go.Op.fieldAddr 62 (Go.Operand.tmp 26) 3, some (1, false)), (some 28, Go.Op.load 3 (Go.Operand.tmp 27), some (1, false)), (some 29, Go.Op.binOp Go.BinOp.eql 3 (Go.Operand.tmp 28) (Go.Operand.const (Go.Value.int Go.IntKind.i64 2)) 3, some (1, false)), (some 30, Go.Op.pick (Go.Operand.tmp 24) (Go.Operand.const (Go.Value.bool true)) (Go.Operand.tmp 29), none), (some 4, Go.Op.assign (Go.Operand.tmp 30), none)] := by kernel_rfl
theorem turn_9 : (Rg Try.f61.body 9).toList.map view = [(some 31, Go.Op.binOp Go.BinOp.add 3 (Go.Operand.tmp 13) (Go.Operand.const (Go.Value.int Go.IntKind.i64 1)) 3, none), (some 13, Go.Op.move (Go.Operand.tmp 31), none)] := by kernel_rfl
theorem turn_10 : (Rg Try.f61.body 10).toList.map view = [(some 32, Go.Op.move (Go.Operand.tmp 3), none), (some 33, Go.Op.call { callee := Go.Callee.builtin Go.Builtin.len, args := #[Go.Operand.tmp 32], argTypes := #[72] }, none), (some 34, Go.Op.binOp Go.BinOp.eql 3 (Go.Operand.tmp 33) (Go.Operand.const (Go.Value.int Go.IntKind.i64 0)) 3, none)] := by kernel_rfl
theorem turn_11 : (Rg Try.f61.body 11).toList.map view = [(some 35, Go.Op.move (Go.Operand.tmp 4), none)] := by kernel_rfl
theorem turn_12 : (Rg Try.f61.body 12).toList.map view = [(some 36, Go.Op.move (Go.Operand.tmp 0), none), (some 37, Go.Op.nilCheck (Go.Operand.tmp 36), none), (some 38, Go.Op.fieldAddr 74 (Go.Operand.tmp 37) 6, none), (none, Go.Op.store 4 (Go.Operand.tmp 38) (Go.Operand.const (Go.Value.bool true)), none)] := by kernel_rfl
theorem turn_13 : (Rg Try.f61.body 13).toList.map view = [(some 39, Go.Op.move (Go.Operand.tmp 0), none), (some 40, Go.Op.move (Go.Operand.tmp 0), none), (some 41, Go.Op.nilCheck (Go.Operand.tmp 40), none), (some 42, Go.Op.fieldAddr 74 (Go.Operand.tmp 41) 5, none), (some 43, Go.Op.load 39 (Go.Operand.tmp 42), none), (some 44, Go.Op.build 46 #[(0, Go.Operand.const (Go.Value.int Go.IntKind.i64 (-1))), (1, Go.Operand.const (Go.Value.int Go.IntKind.i64 (-1))), (2, Go.Operand.const (Go.Value.int Go.IntKind.i64 7))], none), (some 45, Go.Op.buildSlice 39 1 #[(0, Go.Operand.tmp 44)], none), (some 46, Go.Op.call { callee := Go.Callee.builtin Go.Builtin.append, args := #[Go.Operand.tmp 43, Go.Operand.tmp 45], argTypes := #[39, 39] }, none), (some 47, Go.Op.nilCheck (Go.Operand.tmp 39), none), (some 48, Go.Op.fieldAddr 74 (Go.Operand.tmp 47) 5, none), (none, Go.Op.store 39 (Go.Operand.tmp 48) (Go.Operand.tmp 46), none)] := by kernel_rfl
theorem turn_14 : (Rg Try.f61.body 14).toList.map view = [(some 49, Go.Op.move (Go.Operand.tmp 4), none), (some 2, Go.Op.assign (Go.Operand.tmp 49), none)] := by kernel_rfl
theorem turn_15 : (Rg Try.f61.body 15).toList.map view = [(some 50, Go.Op.move (Go.Operand.tmp 0), none), (some 51, Go.Op.move (Go.Operand.tmp 3), none), (some 52, Go.Op.call { callee := Go.Callee.value (Go.Operand.func 88), args := #[Go.Operand.tmp 50, Go.Operand.tmp 51], argTypes := #[33, 72] }, none), (some 7, Go.Op.assign (Go.Operand.tmp 52), none)] := by kernel_rfl
theorem turn_16 : (Rg Try.f61.body 16).toList.map view = [(some 53, Go.Op.move (Go.Operand.tmp 0), none), (some 54, Go.Op.move (Go.Operand.tmp 7), none), (some 55, Go.Op.nilCheck (Go.Operand.tmp 54), none), (some 56, Go.Op.fieldAddr 62 (Go.Operand.tmp 55) 1, none), (some 57, Go.Op.load 3 (Go.Operand.tmp 56), none), (some 58, Go.Op.nilCheck (Go.Operand.tmp 53), none), (some 59, Go.Op.fieldAddr 74 (Go.Operand.tmp 58) 2, none), (none, Go.Op.store 3 (Go.Operand.tmp 59) (Go.Operand.tmp 57), none)] := by kernel_rfl
theorem turn_17 : (Rg Try.f61.body 17).toList.map view = [(some 60, Go.Op.move (Go.Operand.tmp 7), none), (some 61, Go.Op.nilCheck (Go.Operand.tmp 60), none), (some 62, Go.Op.fieldAddr 62 (Go.Operand.tmp 61) 3, none), (none, Go.Op.store 3 (Go.Operand.tmp 62) (Go.Operand.const (Go.Value.int Go.IntKind.i64 0)), none)] := by kernel_rfl
theorem turn_18 : (Rg Try.f61.body 18).toList.map view = [(some 63, Go.Op.move (Go.Operand.tmp 7), none), (some 64, Go.Op.nilCheck (Go.Operand.tmp 63), none), (some 65, Go.Op.fieldAddr 62 (Go.Operand.tmp 64) 2, none), (some 66, Go.Op.load 60 (Go.Operand.tmp 65), none), (some 67, Go.Op.build 83 #[], none), (none, Go.Op.send (Go.Operand.tmp 66) (Go.Operand.tmp 67), none)] := by kernel_rfl
theorem turn_19 : (Rg Try.f61.body 19).toList.map view = [(some 68, Go.Op.move (Go.Operand.tmp 0), none), (some 69, Go.Op.nilCheck (Go.Operand.tmp 68), none), (some 70, Go.Op.fieldAddr 74 (Go.Operand.tmp 69) 8, none), (some 71, Go.Op.load 60 (Go.Operand.tmp 70), none), (some 72, Go.Op.recv 60 (Go.Operand.tmp 71) false, none)] := by kernel_rfl
theorem turn_20 : (Rg Try.f61.body 20).toList.map view = [(some 2, Go.Op.assign (Go.Operand.const (Go.Value.bool true)), none)] := by kernel_rfl
noncomputable def pick_L0 : Code := (.seq (.region 8 (Rg Try.f88.body 8) false) (.seq (.cond (Go.Operand.tmp 51) .skip (.exit 0)) (.seq (.block 1 (.seq (.region 9 (Rg Try.f88.body 9) false) (.seq (.region 10 (Rg Try.f88.body 10) true) (.cond (Go.Operand.tmp 62) (.seq (.region 11 (Rg Try.f88.body 11) false) .ret) .skip)))) (.region 12 (Rg Try.f88.body 12) false))))
theorem pick_L0_def : pick_L0 = (.seq (.region 8 (Rg Try.f88.body 8) false) (.seq (.cond (Go.Operand.tmp 51) .skip (.exit 0)) (.seq (.block 1 (.seq (.region 9 (Rg Try.f88.body 9) false) (.seq (.region 10 (Rg Try.f88.body 10) true) (.cond (Go.Operand.tmp 62) (.seq (.region 11 (Rg Try.f88.body 11) false) .ret) .skip)))) (.region 12 (Rg Try.f88.body 12) false)))) := rfl
noncomputable def pick_code : Code := (.seq (.region 0 (Rg Try.f88.body 0) false) (.seq (.seq (.region 1 (Rg Try.f88.body 1) true) (.cond (Go.Operand.tmp 17) (.seq (.region 2 (Rg Try.f88.body 2) true) (.seq (.region 3 (Rg Try.f88.body 3) false) (.seq (.seq (.region 4 (Rg Try.f88.body 4) false) (.cond (Go.Operand.tmp 39) (.region 5 (Rg Try.f88.body 5) false) .skip)) (.seq (.region 6 (Rg Try.f88.body 6) false) .ret)))) .skip)) (.seq (.seq (.region 7 (Rg Try.f88.body 7) false) (.block 0 (.loop pick_L0))) (.seq (.region 13 (Rg Try.f88.body 13) false) .ret))))
theorem pick_code_def : pick_code = (.seq (.region 0 (Rg Try.f88.body 0) false) (.seq (.seq (.region 1 (Rg Try.f88.body 1) true) (.cond (Go.Operand.tmp 17) (.seq (.region 2 (Rg Try.f88.body 2) true) (.seq (.region 3 (Rg Try.f88.body 3) false) (.seq (.seq (.region 4 (Rg Try.f88.body 4) false) (.cond (Go.Operand.tmp 39) (.region 5 (Rg Try.f88.body 5) false) .skip)) (.seq (.region 6 (Rg Try.f88.body 6) false) .ret)))) .skip)) (.seq (.seq (.region 7 (Rg Try.f88.body 7) false) (.block 0 (.loop pick_L0))) (.seq (.region 13 (Rg Try.f88.body 13) false) .ret)))) := rfl
theorem pick_body : Try.f88.body = some pick_code := by kernel_rfl
theorem pick_fn : Try.prog.funcs[88]? = some Try.f88 := Try.func88
theorem pick_bd : Try.f88.body.isSome = true := by rw [pick_body]; rfl
theorem pick_nm : (Try.f88.name == "runtime.NumGoroutine") = false := by kernel_rfl
theorem pick_tmps : Try.f88.ntmps = 68 := by kernel_rfl
theorem pick_res : Try.f88.results = #[Go.ResultVar.tmp 4] := by kernel_rfl
theorem pick_0 : (Rg Try.f88.body 0).toList.map view = [(some 4, Go.Op.assign (Go.Operand.const (Go.Value.pointer none)), none)] := by kernel_rfl
theorem pick_1 : (Rg Try.f88.body 1).toList.map view = [(some 8, Go.Op.move (Go.Operand.tmp 0), none), (some 9, Go.Op.nilCheck (Go.Operand.tmp 8), none), (some 10, Go.Op.fieldAddr 74 (Go.Operand.tmp 9) 1, none), (some 11, Go.Op.load 3 (Go.Operand.tmp 10), none), (some 12, Go.Op.move (Go.Operand.tmp 0), none), (some 13, Go.Op.nilCheck (Go.Operand.tmp 12), none), (some 14, Go.Op.fieldAddr 74 (Go.Operand.tmp 13) 0, none), (some 15, Go.Op.load 22 (Go.Operand.tmp 14), none), (some 16, Go.Op.call { callee := Go.Callee.builtin Go.Builtin.len, args := #[Go.Operand.tmp 15], argTypes := #[22] }, none), (some 17, Go.Op.binOp Go.BinOp.lss 3 (Go.Operand.tmp 11) (Go.Operand.tmp 16) 3, none)] := by kernel_rfl
theorem pick_2 : (Rg Try.f88.body 2).toList.map view = [(some 18, Go.Op.move (Go.Operand.tmp 0), none), (some 19, Go.Op.nilCheck (Go.Operand.tmp 18), none), (some 20, Go.Op.fieldAddr 74 (Go.Operand.tmp 19) 0, none), (some 21, Go.Op.load 22 (Go.Operand.tmp 20), none), (some 22, Go.Op.move (Go.Operand.tmp 0), none), (some 23, Go.Op.nilCheck (Go.Operand.tmp 22), none), (some 24, Go.Op.fieldAddr 74 (Go.Operand.tmp 23) 1, none), (some 25, Go.Op.load 3 (Go.Operand.tmp 24), none), (some 26, Go.Op.indexAddr 22 (Go.Operand.tmp 21) (Go.Operand.tmp 25), none), (some 27, Go.Op.load 3 (Go.Operand.tmp 26), none), (some 28, Go.Op.move (Go.Operand.tmp 1), none), (some 29, Go.Op.call { callee := Go.Callee.builtin Go.Builtin.len, args := #[Go.Operand.tmp 28], argTypes := #[72] }, none), (some 30, Go.Op.binOp Go.BinOp.rem 3 (Go.Operand.tmp 27) (Go.Operand.tmp 29) 3, none), (some 5, Go.Op.assign (Go.Operand.tmp 30), none)] := by kernel_rfl
theorem pick_3 : (Rg Try.f88.body 3).toList.map view = [(some 31, Go.Op.move (Go.Operand.tmp 0), none), (some 32, Go.Op.nilCheck (Go.Operand.tmp 31), none), (some 33, Go.Op.fieldAddr 74 (Go.Operand.tmp 32) 1, none), (some 34, Go.Op.load 3 (Go.Operand.tmp 33), none), (some 35, Go.Op.binOp Go.BinOp.add 3 (Go.Operand.tmp 34) (Go.Operand.const (Go.Value.int Go.IntKind.i64 1)) 3, none), (some 36, Go.Op.nilCheck (Go.Operand.tmp 31), none), (some 37, Go.Op.fieldAddr 74 (Go.Operand.tmp 36) 1, none), (none, Go.Op.store 3 (Go.Operand.tmp 37) (Go.Operand.tmp 35), none)] := by kernel_rfl
theorem pick_4 : (Rg Try.f88.body 4).toList.map view = [(some 38, Go.Op.move (Go.Operand.tmp 5), none), (some 39, Go.Op.binOp Go.BinOp.lss 3 (Go.Operand.tmp 38) (Go.Operand.const (Go.Value.int Go.IntKind.i64 0)) 3, none)] := by kernel_rfl
theorem pick_5 : (Rg Try.f88.body 5).toList.map view = [(some 40, Go.Op.move (Go.Operand.tmp 5), none), (some 41, Go.Op.move (Go.Operand.tmp 1), none), (some 42, Go.Op.call { callee := Go.Callee.builtin Go.Builtin.len, args := #[Go.Operand.tmp 41], argTypes := #[72] }, none), (some 43, Go.Op.binOp Go.BinOp.add 3 (Go.Operand.tmp 40) (Go.Operand.tmp 42) 3, none), (some 5, Go.Op.assign (Go.Operand.tmp 43), none)] := by kernel_rfl
theorem pick_6 : (Rg Try.f88.body 6).toList.map view = [(some 44, Go.Op.move (Go.Operand.tmp 1), none), (some 45, Go.Op.move (Go.Operand.tmp 5), none), (some 46, Go.Op.indexAddr 72 (Go.Operand.tmp 44) (Go.Operand.tmp 45), none), (some 47, Go.Op.load 26 (Go.Operand.tmp 46), none), (some 4, Go.Op.assign (Go.Operand.tmp 47), none)] := by kernel_rfl
theorem pick_7 : (Rg Try.f88.body 7).toList.map view = [(some 48, Go.Op.move (Go.Operand.tmp 1), none), (some 49, Go.Op.call { callee := Go.Callee.builtin Go.Builtin.len, args := #[Go.Operand.tmp 48], argTypes := #[72] }, none), (some 50, Go.Op.move (Go.Operand.const (Go.Value.int Go.IntKind.i64 0)), none)] := by kernel_rfl
theorem pick_8 : (Rg Try.f88.body 8).toList.map view = [(some 51, Go.Op.binOp Go.BinOp.lss 3 (Go.Operand.tmp 50) (Go.Operand.tmp 49) 3, none)] := by kernel_rfl
theorem pick_9 : (Rg Try.f88.body 9).toList.map view = [(some 52, Go.Op.indexAddr 72 (Go.Operand.tmp 48) (Go.Operand.tmp 50), none), (some 53, Go.Op.load 26 (Go.Operand.tmp 52), none), (some 7, Go.Op.assign (Go.Operand.tmp 53), none)] := by kernel_rfl
theorem pick_10 : (Rg Try.f88.body 10).toList.map view = [(some 54, Go.Op.move (Go.Operand.tmp 7), none), (some 55, Go.Op.nilCheck (Go.Operand.tmp 54), none), (some 56, Go.Op.fieldAddr 62 (Go.Operand.tmp 55) 1, none), (some 57, Go.Op.load 3 (Go.Operand.tmp 56), none), (some 58, Go.Op.move (Go.Operand.tmp 0), none), (some 59, Go.Op.nilCheck (Go.Operand.tmp 58), none), (some 60, Go.Op.fieldAddr 74 (Go.Operand.tmp 59) 2, none), (some 61, Go.Op.load 3 (Go.Operand.tmp 60), none), (some 62, Go.Op.binOp Go.BinOp.gtr 3 (Go.Operand.tmp 57) (Go.Operand.tmp 61) 3, none)] := by kernel_rfl
theorem pick_11 : (Rg Try.f88.body 11).toList.map view = [(some 63, Go.Op.move (Go.Operand.tmp 7), none), (some 4, Go.Op.assign (Go.Operand.tmp 63), none)] := by kernel_rfl
theorem pick_12 : (Rg Try.f88.body 12).toList.map view = [(some 64, Go.Op.binOp Go.BinOp.add 3 (Go.Operand.tmp 50) (Go.Operand.const (Go.Value.int Go.IntKind.i64 1)) 3, none), (some 50, Go.Op.move (Go.Operand.tmp 64), none)] := by kernel_rfl
theorem pick_13 : (Rg Try.f88.body 13).toList.map view = [(some 65, Go.Op.move (Go.Operand.tmp 1), none), (some 66, Go.Op.indexAddr 72 (Go.Operand.tmp 65) (Go.Operand.const (Go.Value.int Go.IntKind.i64 0)), none), (some 67, Go.Op.load 26 (Go.Operand.tmp 66), none), (some 4, Go.Op.assign (Go.Operand.tmp 67), none)] := by kernel_rfl
noncomputable def tready_code : Code := (.seq (.region 0 (Rg Try.f87.body 0) false) (.seq (.region 1 (Rg Try.f87.body 1) true) .ret))
theorem tready_code_def : tready_code = (.seq (.region 0 (Rg Try.f87.body 0) false) (.seq (.region 1 (Rg Try.f87.body 1) true) .ret)) := rfl
theorem tready_body : Try.f87.body = some tready_code := by kernel_rfl
theorem tready_fn : Try.prog.funcs[87]? = some Try.f87 := Try.func87
theorem tready_bd : Try.f87.body.isSome = true := by rw [tready_body]; rfl
theorem tready_nm : (Try.f87.name == "runtime.NumGoroutine") = false := by kernel_rfl
theorem tready_tmps : Try.f87.ntmps = 40 := by kernel_rfl
theorem tready_res : Try.f87.results = #[Go.ResultVar.tmp 2] := by kernel_rfl
theorem tready_0 : (Rg Try.f87.body 0).toList.map view = [(some 2, Go.Op.assign (Go.Operand.const (Go.Value.bool false)), none)] := by kernel_rfl
theorem tready_1 : (Rg Try.f87.body 1).toList.map view = [(some 3, Go.Op.move (Go.Operand.tmp 0), none), (some 4, Go.Op.nilCheck (Go.Operand.tmp 3), none), (some 5, Go.Op.fieldAddr 62 (Go.Operand.tmp 4) 3, none), (some 6, Go.Op.load 3 (Go.Operand.tmp 5), none), (some 7, Go.Op.binOp Go.BinOp.eql 3 (Go.Operand.tmp 6) (Go.Operand.const (Go.Value.int Go.IntKind.i64 1)) 3, none), (some 8, Go.Op.move (Go.Operand.tmp 7), none), (some 9, Go.Op.move (Go.Operand.tmp 0), some (5, false)), (some 10, Go.Op.nilCheck (Go.Operand.tmp 9), some (5, false)), (some 11, Go.Op.fieldAddr 62 (Go.Operand.tmp 10) 3, some (5, false)), (some 12, Go.Op.load 3 (Go.Operand.tmp 11), some (5, false)), (some 13, Go.Op.binOp Go.BinOp.eql 3 (Go.Operand.tmp 12) (Go.Operand.const (Go.Value.int Go.IntKind.i64 2)) 3, some (5, false)), (some 14, Go.Op.move (Go.Operand.tmp 13), some (5, false)), (some 15, Go.Op.move (Go.Operand.tmp 0), some (11, true)), (some 16, Go.Op.nilCheck (Go.Operand.tmp 15), some (11, true)), (some 17, Go.Op.fieldAddr 62 (Go.Operand.tmp 16) 0, some (11, true)), (some 18, Go.Op.load 33 (Go.Operand.tmp 17), some (11, true)), (some 19, Go.Op.nilCheck (Go.Operand.tmp 18), some (11, true)), (some 20, Go.Op.fieldAddr 74 (Go.Operand.tmp 19) 6, some (11, true)), (some 21, Go.Op.load 4 (Go.Operand.tmp 20), some (11, true)), (some 22, Go.Op.move (Go.Operand.tmp 21), some (11, true)), (some 23, Go.Op.move (Go.Operand.tmp 0), some (19, false)), (some 24, Go.Op.nilCheck (Go.Operand.tmp 23), some (19, false)), (some 25, Go.Op.fieldAddr 62 (Go.Operand.tmp 24) 0, some (19, false)), (some 26, Go.Op.load 33 (Go.Operand.tmp 25), some (19, false)), (some 27, Go.Op.move (Go.Operand.tmp 0), some (19, false)), (some 28, Go.Op.nilCheck (Go.Operand.tmp 27), some (19, false)), (some 29, Go.Op.fieldAddr 62 (Go.Operand.tmp 28) 4, some (19, false)), (some 30, Go.Op.load 3 (Go.Operand.tmp 29), some (19, false)), (some 31, Go.Op.call { callee := Go.Callee.value (Go.Operand.func 67), args := #[Go.Operand.tmp 26, Go.Operand.tmp 30], argTypes := #[33, 3] }, some (19, false)), (some 32, Go.Op.move (Go.Operand.tmp 0), some (19, false)), (some 33, Go.Op.nilCheck (Go.Operand.tmp 32), some (19, false)), (some 34, Go.Op.fieldAddr 62 (Go.Operand.tmp 33) 6, some (19, false)), (some 35, Go.Op.load 3 (Go.Operand.tmp 34), some (19, false)), (some 36, Go.Op.binOp Go.BinOp.neq 3 (Go.Operand.tmp 31) (Go.Operand.tmp 35) 3, some (19, false)), (some 37, Go.Op.pick (Go.Operand.tmp 22) (Go.Operand.const (Go.Value.bool true)) (Go.Operand.tmp 36), some (11, true)), (some 38, Go.Op.pick (Go.Operand.tmp 14) (Go.Operand.tmp 37) (Go.Operand.const (Go.Value.bool false)), some (5, false)), (some 39, Go.Op.pick (Go.Operand.tmp 8) (Go.Operand.const (Go.Value.bool true)) (Go.Operand.tmp 38), none), (some 2, Go.Op.assign (Go.Operand.tmp 39), none)] := by kernel_rfl
noncomputable def PRun_L0 : Code := (.seq (.region 4 (Rg Try.f29.body 4) false) (.seq (.cond (Go.Operand.tmp 17) .skip (.exit 0)) (.seq (.block 1 (.seq (.region 5 (Rg Try.f29.body 5) false) (.region 6 (Rg Try.f29.body 6) false))) (.region 7 (Rg Try.f29.body 7) false))))
theorem PRun_L0_def : PRun_L0 = (.seq (.region 4 (Rg Try.f29.body 4) false) (.seq (.cond (Go.Operand.tmp 17) .skip (.exit 0)) (.seq (.block 1 (.seq (.region 5 (Rg Try.f29.body 5) false) (.region 6 (Rg Try.f29.body 6) false))) (.region 7 (Rg Try.f29.body 7) false)))) := rfl
noncomputable def PRun_code : Code := (.seq (.region 0 (Rg Try.f29.body 0) false) (.seq (.region 1 (Rg Try.f29.body 1) false) (.seq (.region 2 (Rg Try.f29.body 2) false) (.seq (.seq (.region 3 (Rg Try.f29.body 3) false) (.block 0 (.loop PRun_L0))) (.seq (.region 8 (Rg Try.f29.body 8) false) (.seq (.region 9 (Rg Try.f29.body 9) false) .ret))))))
theorem PRun_code_def : PRun_code = (.seq (.region 0 (Rg Try.f29.body 0) false) (.seq (.region 1 (Rg Try.f29.body 1) false) (.seq (.region 2 (Rg Try.f29.body 2) false) (.seq (.seq (.region 3 (Rg Try.f29.body 3) false) (.block 0 (.loop PRun_L0))) (.seq (.region 8 (Rg Try.f29.body 8) false) (.seq (.region 9 (Rg Try.f29.body 9) false) .ret)))))) := rfl
theorem PRun_body : Try.f29.body = some PRun_code := by kernel_rfl
theorem PRun_fn : Try.prog.funcs[29]? = some Try.f29 := Try.func29
theorem PRun_bd : Try.f29.body.isSome = true := by rw [PRun_body]; rfl
theorem PRun_nm : (Try.f29.name == "runtime.NumGoroutine") = false := by kernel_rfl
theorem PRun_tmps : Try.f29.ntmps = 30 := by kernel_rfl
theorem PRun_res : Try.f29.results = #[Go.ResultVar.tmp 6] := by kernel_rfl
theorem PRun_0 : (Rg Try.f29.body 0).toList.map view = [(some 5, Go.Op.box 77 (Go.Operand.tmp 2), none), (some 6, Go.Op.assign (Go.Operand.const (Go.Value.slice none 0 0)), none)] := by kernel_rfl
theorem PRun_1 : (Rg Try.f29.body 1).toList.map view = [(some 11, Go.Op.move (Go.Operand.tmp 1), none), (some 12, Go.Op.call { callee := Go.Callee.builtin Go.Builtin.len, args := #[Go.Operand.tmp 11], argTypes := #[32] }, none), (some 13, Go.Op.makeSlice 35 (Go.Operand.tmp 12) (Go.Operand.tmp 12), none), (some 7, Go.Op.alloc 35, none), (none, Go.Op.store 35 (Go.Operand.tmp 7) (Go.Operand.tmp 13), none)] := by kernel_rfl
theorem PRun_2 : (Rg Try.f29.body 2).toList.map view = [(some 8, Go.Op.assign (Go.Operand.const (Go.Value.slice none 0 0)), none)] := by kernel_rfl
theorem PRun_3 : (Rg Try.f29.body 3).toList.map view = [(some 14, Go.Op.move (Go.Operand.tmp 1), none), (some 15, Go.Op.call { callee := Go.Callee.builtin Go.Builtin.len, args := #[Go.Operand.tmp 14], argTypes := #[32] }, none), (some 16, Go.Op.move (Go.Operand.const (Go.Value.int Go.IntKind.i64 0)), none)] := by kernel_rfl
theorem PRun_4 : (Rg Try.f29.body 4).toList.map view = [(some 17, Go.Op.binOp Go.BinOp.lss 3 (Go.Operand.tmp 16) (Go.Operand.tmp 15) 3, none)] := by kernel_rfl
theorem PRun_5 : (Rg Try.f29.body 5).toList.map view = [(some 18, Go.Op.move (Go.Operand.tmp 16), none), (some 19, Go.Op.indexAddr 32 (Go.Operand.tmp 14) (Go.Operand.tmp 16), none), (some 20, Go.Op.load 47 (Go.Operand.tmp 19), none), (some 9, Go.Op.alloc 3, none), (some 10, Go.Op.alloc 47, none), (none, Go.Op.store 3 (Go.Operand.tmp 9) (Go.Operand.tmp 18), none), (none, Go.Op.store 47 (Go.Operand.tmp 10) (Go.Operand.tmp 20), none)] := by kernel_rfl
theorem PRun_6 : (Rg Try.f29.body 6).toList.map view = [(some 21, Go.Op.move (Go.Operand.tmp 8), none), (some 22, Go.Op.makeFunc (Go.Fn.func 42) #[] #[Go.Operand.tmp 10, Go.Operand.tmp 5, Go.Operand.tmp 7, Go.Operand.tmp 9], none), (some 23, Go.Op.buildSlice 98 1 #[(0, Go.Operand.tmp 22)], none), (some 24, Go.Op.call { callee := Go.Callee.builtin Go.Builtin.append, args := #[Go.Operand.tmp 21, Go.Operand.tmp 23], argTypes := #[98, 98] }, none), (some 8, Go.Op.assign (Go.Operand.tmp 24), none)] := by kernel_rfl
theorem PRun_7 : (Rg Try.f29.body 7).toList.map view = [(some 25, Go.Op.binOp Go.BinOp.add 3 (Go.Operand.tmp 16) (Go.Operand.const (Go.Value.int Go.IntKind.i64 1)) 3, none), (some 16, Go.Op.move (Go.Operand.tmp 25), none)] := by kernel_rfl
theorem PRun_8 : (Rg Try.f29.body 8).toList.map view = [(some 26, Go.Op.move (Go.Operand.tmp 0), none), (some 27, Go.Op.move (Go.Operand.tmp 8), none), (some 28, Go.Op.call { callee := Go.Callee.value (Go.Operand.func 44), args := #[Go.Operand.tmp 26, Go.Operand.tmp 27], argTypes := #[33, 98] }, none)] := by kernel_rfl
theorem PRun_9 : (Rg Try.f29.body 9).toList.map view = [(some 29, Go.Op.load 35 (Go.Operand.tmp 7), none), (some 6, Go.Op.assign (Go.Operand.tmp 29), none)] := by kernel_rfl
noncomputable def Add_L0 : Code := (.block 1 (.seq (.region 2 (Rg Try.f9.body 2) false) (.seq (.region 3 (Rg Try.f9.body 3) true) (.seq (.region 4 (Rg Try.f9.body 4) true) (.seq (.region 5 (Rg Try.f9.body 5) false) (.cond (Go.Operand.tmp 51) .ret .skip))))))
theorem Add_L0_def : Add_L0 = (.block 1 (.seq (.region 2 (Rg Try.f9.body 2) false) (.seq (.region 3 (Rg Try.f9.body 3) true) (.seq (.region 4 (Rg Try.f9.body 4) true) (.seq (.region 5 (Rg Try.f9.body 5) false) (.cond (Go.Operand.tmp 51) .ret .skip)))))) := rfl
noncomputable def Add_code : Code := (.seq (.region 0 (Rg Try.f9.body 0) false) (.seq (.region 1 (Rg Try.f9.body 1) true) (.block 0 (.loop Add_L0))))
theorem Add_code_def : Add_code = (.seq (.region 0 (Rg Try.f9.body 0) false) (.seq (.region 1 (Rg Try.f9.body 1) true) (.block 0 (.loop Add_L0)))) := rfl
theorem Add_body : Try.f9.body = some Add_code := by kernel_rfl
theorem Add_fn : Try.prog.funcs[9]? = some Try.f9 := Try.func9
theorem Add_bd : Try.f9.body.isSome = true := by rw [Add_body]; rfl
theorem Add_nm : (Try.f9.name == "runtime.NumGoroutine") = false := by kernel_rfl
theorem Add_tmps : Try.f9.ntmps = 52 := by kernel_rfl
theorem Add_res : Try.f9.results = #[] := by kernel_rfl
theorem Add_0 : (Rg Try.f9.body 0).toList.map view = [(some 12, Go.Op.call { callee := Go.Callee.value (Go.Operand.func 20), args := #[], argTypes := #[] }, none), (some 11, Go.Op.move (Go.Operand.tmp 12), none), (some 13, Go.Op.extract (Go.Operand.tmp 11) 0, none), (some 14, Go.Op.extract (Go.Operand.tmp 11) 1, none), (some 6, Go.Op.alloc 64, none), (some 7, Go.Op.alloc 64, none), (none, Go.Op.store 64 (Go.Operand.tmp 6) (Go.Operand.tmp 13), none), (none, Go.Op.store 64 (Go.Operand.tmp 7) (Go.Operand.tmp 14), none)] := by kernel_rfl
theorem Add_1 : (Rg Try.f9.body 1).toList.map view = [(some 15, Go.Op.move (Go.Operand.tmp 0), none), (some 16, Go.Op.nilCheck (Go.Operand.tmp 15), none), (some 17, Go.Op.fieldAddr 57 (Go.Operand.tmp 16) 0, none), (some 18, Go.Op.load 55 (Go.Operand.tmp 17), none), (some 19, Go.Op.move (Go.Operand.tmp 1), none), (some 20, Go.Op.call { callee := Go.Callee.value (Go.Operand.func 22), args := #[Go.Operand.tmp 19], argTypes := #[26] }, none), (some 21, Go.Op.move (Go.Operand.tmp 0), none), (some 22, Go.Op.nilCheck (Go.Operand.tmp 21), none), (some 23, Go.Op.fieldAddr 57 (Go.Operand.tmp 22) 0, none), (some 24, Go.Op.load 55 (Go.Operand.tmp 23), none), (some 25, Go.Op.call { callee := Go.Callee.builtin Go.Builtin.len, args := #[Go.Operand.tmp 24], argTypes := #[55] }, none), (some 26, Go.Op.call { callee := Go.Callee.value (Go.Operand.func 21), args := #[Go.Operand.tmp 20, Go.Operand.tmp 25], argTypes := #[3, 3] }, none), (some 27, Go.Op.indexAddr 55 (Go.Operand.tmp 18) (Go.Operand.tmp 26), none), (some 28, Go.Op.load 58 (Go.Operand.tmp 27), none), (some 8, Go.Op.assign (Go.Operand.tmp 28), none)] := by kernel_rfl
theorem Add_2 : (Rg Try.f9.body 2).toList.map view = [(some 29, Go.Op.move (Go.Operand.tmp 8), none), (some 30, Go.Op.move (Go.Operand.tmp 1), none), (some 31, Go.Op.call { callee := Go.Callee.value (Go.Operand.func 23), args := #[Go.Operand.tmp 29, Go.Operand.tmp 30], argTypes := #[58, 26] }, none), (some 9, Go.Op.assign (Go.Operand.tmp 31), none)] := by kernel_rfl
theorem Add_3 : (Rg Try.f9.body 3).toList.map view = [(some 32, Go.Op.move (Go.Operand.tmp 9), none), (some 33, Go.Op.load 64 (Go.Operand.tmp 6), none), (some 34, Go.Op.move (Go.Operand.tmp 9), none), (some 35, Go.Op.load 64 (Go.Operand.tmp 6), none), (some 36, Go.Op.call { callee := Go.Callee.value (Go.Operand.func 25), args := #[Go.Operand.tmp 34, Go.Operand.tmp 35], argTypes := #[3, 64] }, none), (some 37, Go.Op.move (Go.Operand.tmp 2), none), (some 38, Go.Op.binOp Go.BinOp.add 3 (Go.Operand.tmp 36) (Go.Operand.tmp 37) 3, none), (some 39, Go.Op.call { callee := Go.Callee.value (Go.Operand.func 24), args := #[Go.Operand.tmp 32, Go.Operand.tmp 33, Go.Operand.tmp 38], argTypes := #[3, 64, 3] }, none), (some 10, Go.Op.assign (Go.Operand.tmp 39), none)] := by kernel_rfl
theorem Add_4 : (Rg Try.f9.body 4).toList.map view = [(some 40, Go.Op.move (Go.Operand.tmp 10), none), (some 41, Go.Op.load 64 (Go.Operand.tmp 7), none), (some 42, Go.Op.move (Go.Operand.tmp 9), none), (some 43, Go.Op.load 64 (Go.Operand.tmp 7), none), (some 44, Go.Op.call { callee := Go.Callee.value (Go.Operand.func 25), args := #[Go.Operand.tmp 42, Go.Operand.tmp 43], argTypes := #[3, 64] }, none), (some 45, Go.Op.binOp Go.BinOp.add 3 (Go.Operand.tmp 44) (Go.Operand.const (Go.Value.int Go.IntKind.i64 1)) 3, none), (some 46, Go.Op.call { callee := Go.Callee.value (Go.Operand.func 24), args := #[Go.Operand.tmp 40, Go.Operand.tmp 41, Go.Operand.tmp 45], argTypes := #[3, 64, 3] }, none), (some 10, Go.Op.assign (Go.Operand.tmp 46), none)] := by kernel_rfl
theorem Add_5 : (Rg Try.f9.body 5).toList.map view = [(some 47, Go.Op.move (Go.Operand.tmp 8), none), (some 48, Go.Op.move (Go.Operand.tmp 1), none), (some 49, Go.Op.move (Go.Operand.tmp 9), none), (some 50, Go.Op.move (Go.Operand.tmp 10), none), (some 51, Go.Op.call { callee := Go.Callee.value (Go.Operand.func 26), args := #[Go.Operand.tmp 47, Go.Operand.tmp 48, Go.Operand.tmp 49, Go.Operand.tmp 50], argTypes := #[58, 26, 3, 3] }, none)] := by kernel_rfl
noncomputable def Sum_L1 : Code := (.seq (.region 8 (Rg Try.f11.body 8) false) (.seq (.cond (Go.Operand.tmp 31) .skip (.exit 2)) (.seq (.block 3 (.seq (.region 9 (Rg Try.f11.body 9) false) (.region 10 (Rg Try.f11.body 10) false))) (.region 11 (Rg Try.f11.body 11) false))))
theorem Sum_L1_def : Sum_L1 = (.seq (.region 8 (Rg Try.f11.body 8) false) (.seq (.cond (Go.Operand.tmp 31) .skip (.exit 2)) (.seq (.block 3 (.seq (.region 9 (Rg Try.f11.body 9) false) (.region 10 (Rg Try.f11.body 10) false))) (.region 11 (Rg Try.f11.body 11) false)))) := rfl
noncomputable def Sum_L0 : Code := (.block 1 (.seq (.region 4 (Rg Try.f11.body 4) false) (.seq (.region 5 (Rg Try.f11.body 5) false) (.cond (Go.Operand.tmp 27) (.exit 0) .skip))))
theorem Sum_L0_def : Sum_L0 = (.block 1 (.seq (.region 4 (Rg Try.f11.body 4) false) (.seq (.region 5 (Rg Try.f11.body 5) false) (.cond (Go.Operand.tmp 27) (.exit 0) .skip)))) := rfl
noncomputable def Sum_code : Code := (.seq (.region 0 (Rg Try.f11.body 0) false) (.seq (.region 1 (Rg Try.f11.body 1) false) (.seq (.region 2 (Rg Try.f11.body 2) false) (.seq (.region 3 (Rg Try.f11.body 3) false) (.seq (.block 0 (.loop Sum_L0)) (.seq (.region 6 (Rg Try.f11.body 6) false) (.seq (.seq (.region 7 (Rg Try.f11.body 7) false) (.block 2 (.loop Sum_L1))) (.seq (.region 12 (Rg Try.f11.body 12) false) .ret))))))))
theorem Sum_code_def : Sum_code = (.seq (.region 0 (Rg Try.f11.body 0) false) (.seq (.region 1 (Rg Try.f11.body 1) false) (.seq (.region 2 (Rg Try.f11.body 2) false) (.seq (.region 3 (Rg Try.f11.body 3) false) (.seq (.block 0 (.loop Sum_L0)) (.seq (.region 6 (Rg Try.f11.body 6) false) (.seq (.seq (.region 7 (Rg Try.f11.body 7) false) (.block 2 (.loop Sum_L1))) (.seq (.region 12 (Rg Try.f11.body 12) false) .ret)))))))) := rfl
theorem Sum_body : Try.f11.body = some Sum_code := by kernel_rfl
theorem Sum_fn : Try.prog.funcs[11]? = some Try.f11 := Try.func11
theorem Sum_bd : Try.f11.body.isSome = true := by rw [Sum_body]; rfl
theorem Sum_nm : (Try.f11.name == "runtime.NumGoroutine") = false := by kernel_rfl
theorem Sum_tmps : Try.f11.ntmps = 43 := by kernel_rfl
theorem Sum_res : Try.f11.results = #[Go.ResultVar.tmp 4] := by kernel_rfl
theorem Sum_0 : (Rg Try.f11.body 0).toList.map view = [(some 2, Go.Op.box 24 (Go.Operand.tmp 0), none), (some 3, Go.Op.box 26 (Go.Operand.tmp 1), none), (some 4, Go.Op.assign (Go.Operand.const (Go.Value.int Go.IntKind.i64 0)), none)] := by kernel_rfl
theorem Sum_1 : (Rg Try.f11.body 1).toList.map view = [(some 13, Go.Op.call { callee := Go.Callee.value (Go.Operand.func 20), args := #[], argTypes := #[] }, none), (some 12, Go.Op.move (Go.Operand.tmp 13), none), (some 14, Go.Op.extract (Go.Operand.tmp 12) 0, none), (some 15, Go.Op.extract (Go.Operand.tmp 12) 1, none), (some 5, Go.Op.alloc 64, none), (some 6, Go.Op.alloc 64, none), (none, Go.Op.store 64 (Go.Operand.tmp 5) (Go.Operand.tmp 14), none), (none, Go.Op.store 64 (Go.Operand.tmp 6) (Go.Operand.tmp 15), none)] := by kernel_rfl
theorem Sum_2 : (Rg Try.f11.body 2).toList.map view = [(some 16, Go.Op.load 24 (Go.Operand.tmp 2), none), (some 17, Go.Op.nilCheck (Go.Operand.tmp 16), none), (some 18, Go.Op.fieldAddr 57 (Go.Operand.tmp 17) 0, none), (some 19, Go.Op.load 55 (Go.Operand.tmp 18), none), (some 20, Go.Op.call { callee := Go.Callee.builtin Go.Builtin.len, args := #[Go.Operand.tmp 19], argTypes := #[55] }, none), (some 21, Go.Op.makeSlice 22 (Go.Operand.tmp 20) (Go.Operand.tmp 20), none), (some 7, Go.Op.alloc 22, none), (none, Go.Op.store 22 (Go.Operand.tmp 7) (Go.Operand.tmp 21), none)] := by kernel_rfl
theorem Sum_3 : (Rg Try.f11.body 3).toList.map view = [(some 22, Go.Op.makeFunc (Go.Fn.func 27) #[] #[Go.Operand.tmp 2, Go.Operand.tmp 3, Go.Operand.tmp 7], none), (some 8, Go.Op.assign (Go.Operand.tmp 22), none)] := by kernel_rfl
theorem Sum_4 : (Rg Try.f11.body 4).toList.map view = [(some 23, Go.Op.move (Go.Operand.tmp 8), none), (some 24, Go.Op.call { callee := Go.Callee.value (Go.Operand.tmp 23), args := #[], argTypes := #[] }, none)] := by kernel_rfl
theorem Sum_5 : (Rg Try.f11.body 5).toList.map view = [(some 25, Go.Op.move (Go.Operand.tmp 8), none), (some 26, Go.Op.call { callee := Go.Callee.value (Go.Operand.tmp 25), args := #[], argTypes := #[] }, none), (some 27, Go.Op.binOp Go.BinOp.eql 3 (Go.Operand.tmp 26) (Go.Operand.const (Go.Value.int Go.IntKind.i64 0)) 3, none)] := by kernel_rfl
theorem Sum_6 : (Rg Try.f11.body 6).toList.map view = [(some 9, Go.Op.assign (Go.Operand.const (Go.Value.int Go.IntKind.i64 0)), none)] := by kernel_rfl
theorem Sum_7 : (Rg Try.f11.body 7).toList.map view = [(some 28, Go.Op.load 22 (Go.Operand.tmp 7), none), (some 29, Go.Op.call { callee := Go.Callee.builtin Go.Builtin.len, args := #[Go.Operand.tmp 28], argTypes := #[22] }, none), (some 30, Go.Op.move (Go.Operand.const (Go.Value.int Go.IntKind.i64 0)), none)] := by kernel_rfl
theorem Sum_8 : (Rg Try.f11.body 8).toList.map view = [(some 31, Go.Op.binOp Go.BinOp.lss 3 (Go.Operand.tmp 30) (Go.Operand.tmp 29) 3, none)] := by kernel_rfl
theorem Sum_9 : (Rg Try.f11.body 9).toList.map view = [(some 32, Go.Op.indexAddr 22 (Go.Operand.tmp 28) (Go.Operand.tmp 30), none), (some 33, Go.Op.load 3 (Go.Operand.tmp 32), none), (some 11, Go.Op.assign (Go.Operand.tmp 33), none)] := by kernel_rfl
theorem Sum_10 : (Rg Try.f11.body 10).toList.map view = [(some 34, Go.Op.move (Go.Operand.tmp 9), none), (some 35, Go.Op.move (Go.Operand.tmp 11), none), (some 36, Go.Op.load 64 (Go.Operand.tmp 5), none), (some 37, Go.Op.call { callee := Go.Callee.value (Go.Operand.func 25), args := #[Go.Operand.tmp 35, Go.Operand.tmp 36], argTypes := #[3, 64] }, none), (some 38, Go.Op.convert 3 21 (Go.Operand.tmp 37), none), (some 39, Go.Op.convert 21 3 (Go.Operand.tmp 38), none), (some 40, Go.Op.binOp Go.BinOp.add 3 (Go.Operand.tmp 34) (Go.Operand.tmp 39) 3, none), (some 9, Go.Op.assign (Go.Operand.tmp 40), none)] := by kernel_rfl
theorem Sum_11 : (Rg Try.f11.body 11).toList.map view = [(some 41, Go.Op.binOp Go.BinOp.add 3 (Go.Operand.tmp 30) (Go.Operand.const (Go.Value.int Go.IntKind.i64 1)) 3, none), (some 30, Go.Op.move (Go.Operand.tmp 41), none)] := by kernel_rfl
theorem Sum_12 : (Rg Try.f11.body 12).toList.map view = [(some 42, Go.Op.move (Go.Operand.tmp 9), none), (some 4, Go.Op.assign (Go.Operand.tmp 42), none)] := by kernel_rfl
noncomputable def SumF_L0 : Code := (.seq (.region 4 (Rg Try.f27.body 4) false) (.seq (.cond (Go.Operand.tmp 20) .skip (.exit 0)) (.seq (.block 1 (.seq (.region 5 (Rg Try.f27.body 5) false) (.seq (.region 6 (Rg Try.f27.body 6) false) (.seq (.region 7 (Rg Try.f27.body 7) true) (.cond (Go.Operand.tmp 38) (.region 8 (Rg Try.f27.body 8) false) .skip))))) (.region 9 (Rg Try.f27.body 9) false))))
theorem SumF_L0_def : SumF_L0 = (.seq (.region 4 (Rg Try.f27.body 4) false) (.seq (.cond (Go.Operand.tmp 20) .skip (.exit 0)) (.seq (.block 1 (.seq (.region 5 (Rg Try.f27.body 5) false) (.seq (.region 6 (Rg Try.f27.body 6) false) (.seq (.region 7 (Rg Try.f27.body 7) true) (.cond (Go.Operand.tmp 38) (.region 8 (Rg Try.f27.body 8) false) .skip))))) (.region 9 (Rg Try.f27.body 9) false)))) := rfl
noncomputable def SumF_code : Code := (.seq (.region 0 (Rg Try.f27.body 0) false) (.seq (.region 1 (Rg Try.f27.body 1) false) (.seq (.region 2 (Rg Try.f27.body 2) false) (.seq (.seq (.region 3 (Rg Try.f27.body 3) false) (.block 0 (.loop SumF_L0))) (.seq (.region 10 (Rg Try.f27.body 10) false) (.seq (.region 11 (Rg Try.f27.body 11) false) .ret))))))
theorem SumF_code_def : SumF_code = (.seq (.region 0 (Rg Try.f27.body 0) false) (.seq (.region 1 (Rg Try.f27.body 1) false) (.seq (.region 2 (Rg Try.f27.body 2) false) (.seq (.seq (.region 3 (Rg Try.f27.body 3) false) (.block 0 (.loop SumF_L0))) (.seq (.region 10 (Rg Try.f27.body 10) false) (.seq (.region 11 (Rg Try.f27.body 11) false) .ret)))))) := rfl
theorem SumF_body : Try.f27.body = some SumF_code := by kernel_rfl
theorem SumF_fn : Try.prog.funcs[27]? = some Try.f27 := Try.func27
theorem SumF_bd : Try.f27.body.isSome = true := by rw [SumF_body]; rfl
theorem SumF_nm : (Try.f27.name == "runtime.NumGoroutine") = false := by kernel_rfl
theorem SumF_tmps : Try.f27.ntmps = 46 := by kernel_rfl
theorem SumF_res : Try.f27.results = #[Go.ResultVar.tmp 3] := by kernel_rfl
theorem SumF_0 : (Rg Try.f27.body 0).toList.map view = [(some 3, Go.Op.assign (Go.Operand.const (Go.Value.int Go.IntKind.i64 0)), none)] := by kernel_rfl
theorem SumF_1 : (Rg Try.f27.body 1).toList.map view = [(some 4, Go.Op.assign (Go.Operand.const (Go.Value.int Go.IntKind.i64 0)), none)] := by kernel_rfl
theorem SumF_2 : (Rg Try.f27.body 2).toList.map view = [(some 8, Go.Op.load 24 (Go.Operand.tmp 0), none), (some 9, Go.Op.nilCheck (Go.Operand.tmp 8), none), (some 10, Go.Op.fieldAddr 57 (Go.Operand.tmp 9) 0, none), (some 11, Go.Op.load 55 (Go.Operand.tmp 10), none), (some 12, Go.Op.call { callee := Go.Callee.builtin Go.Builtin.len, args := #[Go.Operand.tmp 11], argTypes := #[55] }, none), (some 13, Go.Op.makeSlice 22 (Go.Operand.tmp 12) (Go.Operand.tmp 12), none), (some 5, Go.Op.assign (Go.Operand.tmp 13), none)] := by kernel_rfl
theorem SumF_3 : (Rg Try.f27.body 3).toList.map view = [(some 14, Go.Op.load 24 (Go.Operand.tmp 0), none), (some 15, Go.Op.nilCheck (Go.Operand.tmp 14), none), (some 16, Go.Op.fieldAddr 57 (Go.Operand.tmp 15) 0, none), (some 17, Go.Op.load 55 (Go.Operand.tmp 16), none), (some 18, Go.Op.call { callee := Go.Callee.builtin Go.Builtin.len, args := #[Go.Operand.tmp 17], argTypes := #[55] }, none), (some 19, Go.Op.move (Go.Operand.const (Go.Value.int Go.IntKind.i64 0)), none)] := by kernel_rfl
theorem SumF_4 : (Rg Try.f27.body 4).toList.map view = [(some 20, Go.Op.binOp Go.BinOp.lss 3 (Go.Operand.tmp 19) (Go.Operand.tmp 18) 3, none)] := by kernel_rfl
theorem SumF_5 : (Rg Try.f27.body 5).toList.map view = [(some 21, Go.Op.move (Go.Operand.tmp 19), none), (some 22, Go.Op.indexAddr 55 (Go.Operand.tmp 17) (Go.Operand.tmp 19), none), (some 23, Go.Op.load 58 (Go.Operand.tmp 22), none), (some 6, Go.Op.assign (Go.Operand.tmp 21), none), (some 7, Go.Op.assign (Go.Operand.tmp 23), none)] := by kernel_rfl
theorem SumF_6 : (Rg Try.f27.body 6).toList.map view = [(some 24, Go.Op.move (Go.Operand.tmp 5), none), (some 25, Go.Op.move (Go.Operand.tmp 6), none), (some 26, Go.Op.move (Go.Operand.tmp 7), none), (some 27, Go.Op.load 26 (Go.Operand.tmp 1), none), (some 28, Go.Op.call { callee := Go.Callee.value (Go.Operand.func 23), args := #[Go.Operand.tmp 26, Go.Operand.tmp 27], argTypes := #[58, 26] }, none), (some 29, Go.Op.indexAddr 22 (Go.Operand.tmp 24) (Go.Operand.tmp 25), none), (none, Go.Op.store 3 (Go.Operand.tmp 29) (Go.Operand.tmp 28), none)] := by kernel_rfl
theorem SumF_7 : (Rg Try.f27.body 7).toList.map view = [(some 30, Go.Op.move (Go.Operand.tmp 5), none), (some 31, Go.Op.move (Go.Operand.tmp 6), none), (some 32, Go.Op.indexAddr 22 (Go.Operand.tmp 30) (Go.Operand.tmp 31), none), (some 33, Go.Op.load 3 (Go.Operand.tmp 32), none), (some 34, Go.Op.load 22 (Go.Operand.tmp 2), none), (some 35, Go.Op.move (Go.Operand.tmp 6), none), (some 36, Go.Op.indexAddr 22 (Go.Operand.tmp 34) (Go.Operand.tmp 35), none), (some 37, Go.Op.load 3 (Go.Operand.tmp 36), none), (some 38, Go.Op.binOp Go.BinOp.neq 3 (Go.Operand.tmp 33) (Go.Operand.tmp 37) 3, none)] := by kernel_rfl
theorem SumF_8 : (Rg Try.f27.body 8).toList.map view = [(some 39, Go.Op.move (Go.Operand.tmp 4), none), (some 40, Go.Op.binOp Go.BinOp.add 3 (Go.Operand.tmp 39) (Go.Operand.const (Go.Value.int Go.IntKind.i64 1)) 3, none), (some 4, Go.Op.assign (Go.Operand.tmp 40), none)] := by kernel_rfl
theorem SumF_9 : (Rg Try.f27.body 9).toList.map view = [(some 41, Go.Op.binOp Go.BinOp.add 3 (Go.Operand.tmp 19) (Go.Operand.const (Go.Value.int Go.IntKind.i64 1)) 3, none), (some 19, Go.Op.move (Go.Operand.tmp 41), none)] := by kernel_rfl
theorem SumF_10 : (Rg Try.f27.body 10).toList.map view = [(some 42, Go.Op.load 22 (Go.Operand.tmp 2), none), (some 43, Go.Op.move (Go.Operand.tmp 5), none), (some 44, Go.Op.call { callee := Go.Callee.builtin Go.Builtin.copy, args := #[Go.Operand.tmp 42, Go.Operand.tmp 43], argTypes := #[22, 22] }, none)] := by kernel_rfl
theorem SumF_11 : (Rg Try.f27.body 11).toList.map view = [(some 45, Go.Op.move (Go.Operand.tmp 4), none), (some 3, Go.Op.assign (Go.Operand.tmp 45), none)] := by kernel_rfl
noncomputable def PlayF_code : Code := (.seq (.region 0 (Rg Try.f30.body 0) false) (.seq (.seq (.region 1 (Rg Try.f30.body 1) false) (.block 0 (.seq (.region 2 (Rg Try.f30.body 2) false) (.cond (Go.Operand.tmp 8) (.seq (.region 3 (Rg Try.f30.body 3) false) (.seq (.region 4 (Rg Try.f30.body 4) false) .ret)) (.seq (.region 5 (Rg Try.f30.body 5) false) (.cond (Go.Operand.tmp 17) (.seq (.region 6 (Rg Try.f30.body 6) false) .ret) .skip)))))) (.seq (.region 7 (Rg Try.f30.body 7) false) .ret)))
theorem PlayF_code_def : PlayF_code = (.seq (.region 0 (Rg Try.f30.body 0) false) (.seq (.seq (.region 1 (Rg Try.f30.body 1) false) (.block 0 (.seq (.region 2 (Rg Try.f30.body 2) false) (.cond (Go.Operand.tmp 8) (.seq (.region 3 (Rg Try.f30.body 3) false) (.seq (.region 4 (Rg Try.f30.body 4) false) .ret)) (.seq (.region 5 (Rg Try.f30.body 5) false) (.cond (Go.Operand.tmp 17) (.seq (.region 6 (Rg Try.f30.body 6) false) .ret) .skip)))))) (.seq (.region 7 (Rg Try.f30.body 7) false) .ret))) := rfl
theorem PlayF_body : Try.f30.body = some PlayF_code := by kernel_rfl
theorem PlayF_fn : Try.prog.funcs[30]? = some Try.f30 := Try.func30
theorem PlayF_bd : Try.f30.body.isSome = true := by rw [PlayF_body]; rfl
theorem PlayF_nm : (Try.f30.name == "runtime.NumGoroutine") = false := by kernel_rfl
theorem PlayF_tmps : Try.f30.ntmps = 24 := by kernel_rfl
theorem PlayF_res : Try.f30.results = #[Go.ResultVar.cell 5 53] := by kernel_rfl
theorem PlayF_0 : (Rg Try.f30.body 0).toList.map view = [(some 4, Go.Op.box 50 (Go.Operand.tmp 1), none), (some 5, Go.Op.alloc 53, none)] := by kernel_rfl
theorem PlayF_1 : (Rg Try.f30.body 1).toList.map view = [(some 6, Go.Op.fieldAddr 50 (Go.Operand.tmp 4) 0, none), (some 7, Go.Op.load 3 (Go.Operand.tmp 6), none)] := by kernel_rfl
theorem PlayF_2 : (Rg Try.f30.body 2).toList.map view = [(some 9, Go.Op.binOp Go.BinOp.eql 3 (Go.Operand.tmp 7) (Go.Operand.const (Go.Value.int Go.IntKind.i64 1)) 3, none), (some 8, Go.Op.assign (Go.Operand.tmp 9), none)] := by kernel_rfl
theorem PlayF_3 : (Rg Try.f30.body 3).toList.map view = [(some 10, Go.Op.load 24 (Go.Operand.tmp 2), none), (some 11, Go.Op.move (Go.Operand.tmp 0), none), (some 12, Go.Op.fieldAddr 50 (Go.Operand.tmp 4) 1, none), (some 13, Go.Op.load 3 (Go.Operand.tmp 12), none), (some 14, Go.Op.binOp Go.BinOp.rem 3 (Go.Operand.tmp 13) (Go.Operand.const (Go.Value.int Go.IntKind.i64 1000)) 3, none), (some 15, Go.Op.call { callee := Go.Callee.value (Go.Operand.func 9), args := #[Go.Operand.tmp 10, Go.Operand.tmp 11, Go.Operand.tmp 14], argTypes := #[24, 26, 3] }, none)] := by kernel_rfl
theorem PlayF_4 : (Rg Try.f30.body 4).toList.map view = [(some 16, Go.Op.build 53 #[], none), (none, Go.Op.store 53 (Go.Operand.tmp 5) (Go.Operand.tmp 16), none)] := by kernel_rfl
theorem PlayF_5 : (Rg Try.f30.body 5).toList.map view = [(some 18, Go.Op.binOp Go.BinOp.eql 3 (Go.Operand.tmp 7) (Go.Operand.const (Go.Value.int Go.IntKind.i64 2)) 3, none), (some 17, Go.Op.assign (Go.Operand.tmp 18), none)] := by kernel_rfl
theorem PlayF_6 : (Rg Try.f30.body 6).toList.map view = [(some 19, Go.Op.load 24 (Go.Operand.tmp 2), none), (some 20, Go.Op.move (Go.Operand.tmp 0), none), (some 21, Go.Op.call { callee := Go.Callee.value (Go.Operand.func 11), args := #[Go.Operand.tmp 19, Go.Operand.tmp 20], argTypes := #[24, 26] }, none), (some 22, Go.Op.build 53 #[(1, Go.Operand.tmp 21)], none), (none, Go.Op.store 53 (Go.Operand.tmp 5) (Go.Operand.tmp 22), none)] := by kernel_rfl
theorem PlayF_7 : (Rg Try.f30.body 7).toList.map view = [(some 23, Go.Op.build 53 #[(0, Go.Operand.const (Go.Value.int Go.IntKind.i64 1))], none), (none, Go.Op.store 53 (Go.Operand.tmp 5) (Go.Operand.tmp 23), none)] := by kernel_rfl
noncomputable def Play_code : Code := (.seq (.region 0 (Rg Try.f13.body 0) false) (.seq (.seq (.region 1 (Rg Try.f13.body 1) false) (.seq (.region 2 (Rg Try.f13.body 2) false) (.cond (Go.Operand.tmp 14) (.seq (.region 3 (Rg Try.f13.body 3) false) .ret) .skip))) (.seq (.seq (.region 4 (Rg Try.f13.body 4) false) (.cond (Go.Operand.tmp 21) (.seq (.region 5 (Rg Try.f13.body 5) false) .ret) .skip)) (.seq (.region 6 (Rg Try.f13.body 6) false) (.seq (.region 7 (Rg Try.f13.body 7) false) .ret)))))
theorem Play_code_def : Play_code = (.seq (.region 0 (Rg Try.f13.body 0) false) (.seq (.seq (.region 1 (Rg Try.f13.body 1) false) (.seq (.region 2 (Rg Try.f13.body 2) false) (.cond (Go.Operand.tmp 14) (.seq (.region 3 (Rg Try.f13.body 3) false) .ret) .skip))) (.seq (.seq (.region 4 (Rg Try.f13.body 4) false) (.cond (Go.Operand.tmp 21) (.seq (.region 5 (Rg Try.f13.body 5) false) .ret) .skip)) (.seq (.region 6 (Rg Try.f13.body 6) false) (.seq (.region 7 (Rg Try.f13.body 7) false) .ret))))) := rfl
theorem Play_body : Try.f13.body = some Play_code := by kernel_rfl
theorem Play_fn : Try.prog.funcs[13]? = some Try.f13 := Try.func13
theorem Play_bd : Try.f13.body.isSome = true := by rw [Play_body]; rfl
theorem Play_nm : (Try.f13.name == "runtime.NumGoroutine") = false := by kernel_rfl
theorem Play_tmps : Try.f13.ntmps = 29 := by kernel_rfl
theorem Play_res : Try.f13.results = #[Go.ResultVar.tmp 6, Go.ResultVar.tmp 7] := by kernel_rfl
theorem Play_0 : (Rg Try.f13.body 0).toList.map view = [(some 6, Go.Op.assign (Go.Operand.const (Go.Value.slice none 0 0)), none), (some 7, Go.Op.assign (Go.Operand.const (Go.Value.int Go.IntKind.i64 0)), none)] := by kernel_rfl
theorem Play_1 : (Rg Try.f13.body 1).toList.map view = [(some 10, Go.Op.move (Go.Operand.tmp 0), none), (some 11, Go.Op.move (Go.Operand.tmp 2), none), (some 12, Go.Op.call { callee := Go.Callee.value (Go.Operand.func 28), args := #[Go.Operand.tmp 10, Go.Operand.tmp 11, Go.Operand.const (Go.Value.bool false)], argTypes := #[33, 32, 4] }, none), (some 8, Go.Op.assign (Go.Operand.tmp 12), none)] := by kernel_rfl
theorem Play_2 : (Rg Try.f13.body 2).toList.map view = [(some 13, Go.Op.move (Go.Operand.tmp 8), none), (some 14, Go.Op.binOp Go.BinOp.neq 36 (Go.Operand.tmp 13) (Go.Operand.const (Go.Value.int Go.IntKind.i64 0)) 36, none)] := by kernel_rfl
theorem Play_3 : (Rg Try.f13.body 3).toList.map view = [(some 15, Go.Op.move (Go.Operand.tmp 8), none), (some 6, Go.Op.assign (Go.Operand.const (Go.Value.slice none 0 0)), none), (some 7, Go.Op.assign (Go.Operand.tmp 15), none)] := by kernel_rfl
theorem Play_4 : (Rg Try.f13.body 4).toList.map view = [(some 16, Go.Op.move (Go.Operand.tmp 1), none), (some 17, Go.Op.binOp Go.BinOp.lss 3 (Go.Operand.tmp 16) (Go.Operand.const (Go.Value.int Go.IntKind.i64 1)) 3, none), (some 18, Go.Op.move (Go.Operand.tmp 17), none), (some 19, Go.Op.move (Go.Operand.tmp 1), some (2, false)), (some 20, Go.Op.binOp Go.BinOp.gtr 3 (Go.Operand.tmp 19) (Go.Operand.const (Go.Value.int Go.IntKind.i64 16)) 3, some (2, false)), (some 21, Go.Op.pick (Go.Operand.tmp 18) (Go.Operand.const (Go.Value.bool true)) (Go.Operand.tmp 20), none)] := by kernel_rfl
theorem Play_5 : (Rg Try.f13.body 5).toList.map view = [(some 6, Go.Op.assign (Go.Operand.const (Go.Value.slice none 0 0)), none), (some 7, Go.Op.assign (Go.Operand.const (Go.Value.int Go.IntKind.i64 1)), none)] := by kernel_rfl
theorem Play_6 : (Rg Try.f13.body 6).toList.map view = [(some 22, Go.Op.move (Go.Operand.tmp 0), none), (some 23, Go.Op.move (Go.Operand.tmp 1), none), (some 24, Go.Op.call { callee := Go.Callee.value (Go.Operand.func 7), args := #[Go.Operand.tmp 22, Go.Operand.tmp 23], argTypes := #[33, 3] }, none), (some 9, Go.Op.alloc 24, none), (none, Go.Op.store 24 (Go.Operand.tmp 9) (Go.Operand.tmp 24), none)] := by kernel_rfl
theorem Play_7 : (Rg Try.f13.body 7).toList.map view = [(some 25, Go.Op.move (Go.Operand.tmp 0), none), (some 26, Go.Op.move (Go.Operand.tmp 2), none), (some 27, Go.Op.makeFunc (Go.Fn.func 30) #[] #[Go.Operand.tmp 9], none), (some 28, Go.Op.call { callee := Go.Callee.value (Go.Operand.func 29), args := #[Go.Operand.tmp 25, Go.Operand.tmp 26, Go.Operand.tmp 27], argTypes := #[33, 32, 77] }, none), (some 6, Go.Op.assign (Go.Operand.tmp 28), none), (some 7, Go.Op.assign (Go.Operand.const (Go.Value.int Go.IntKind.i64 0)), none)] := by kernel_rfl
noncomputable def cellNew_code : Code := (.seq (.region 0 (Rg Try.f19.body 0) false) (.seq (.region 1 (Rg Try.f19.body 1) false) (.seq (.region 2 (Rg Try.f19.body 2) false) (.seq (.region 3 (Rg Try.f19.body 3) false) .ret))))
theorem cellNew_code_def : cellNew_code = (.seq (.region 0 (Rg Try.f19.body 0) false) (.seq (.region 1 (Rg Try.f19.body 1) false) (.seq (.region 2 (Rg Try.f19.body 2) false) (.seq (.region 3 (Rg Try.f19.body 3) false) .ret)))) := rfl
theorem cellNew_body : Try.f19.body = some cellNew_code := by kernel_rfl
theorem cellNew_fn : Try.prog.funcs[19]? = some Try.f19 := Try.func19
theorem cellNew_bd : Try.f19.body.isSome = true := by rw [cellNew_body]; rfl
theorem cellNew_nm : (Try.f19.name == "runtime.NumGoroutine") = false := by kernel_rfl
theorem cellNew_tmps : Try.f19.ntmps = 16 := by kernel_rfl
theorem cellNew_res : Try.f19.results = #[Go.ResultVar.tmp 4] := by kernel_rfl
theorem cellNew_0 : (Rg Try.f19.body 0).toList.map view = [(some 4, Go.Op.assign (Go.Operand.const (Go.Value.pointer none)), none)] := by kernel_rfl
theorem cellNew_1 : (Rg Try.f19.body 1).toList.map view = [(some 6, Go.Op.move (Go.Operand.tmp 0), none), (some 7, Go.Op.call { callee := Go.Callee.value (Go.Operand.func 33), args := #[Go.Operand.tmp 6], argTypes := #[33] }, none), (some 8, Go.Op.build 89 #[(0, Go.Operand.tmp 7)], none), (some 9, Go.Op.box 89 (Go.Operand.tmp 8), none), (some 5, Go.Op.assign (Go.Operand.tmp 9), none)] := by kernel_rfl
theorem cellNew_2 : (Rg Try.f19.body 2).toList.map view = [(some 10, Go.Op.move (Go.Operand.tmp 5), none), (some 11, Go.Op.nilCheck (Go.Operand.tmp 10), none), (some 12, Go.Op.fieldAddr 89 (Go.Operand.tmp 11) 1, none), (some 13, Go.Op.move (Go.Operand.tmp 1), none), (some 14, Go.Op.call { callee := Go.Callee.value (Go.Operand.func 34), args := #[Go.Operand.tmp 12, Go.Operand.tmp 13], argTypes := #[87, 2] }, none)] := by kernel_rfl
theorem cellNew_3 : (Rg Try.f19.body 3).toList.map view = [(some 15, Go.Op.move (Go.Operand.tmp 5), none), (some 4, Go.Op.assign (Go.Operand.tmp 15), none)] := by kernel_rfl
noncomputable def wCell_code : Code := (.seq (.region 0 (Rg Try.f33.body 0) false) (.seq (.seq (.region 1 (Rg Try.f33.body 1) false) (.cond (Go.Operand.tmp 4) (.seq (.region 2 (Rg Try.f33.body 2) false) .ret) .skip)) (.seq (.region 3 (Rg Try.f33.body 3) false) (.seq (.region 4 (Rg Try.f33.body 4) false) .ret))))
theorem wCell_code_def : wCell_code = (.seq (.region 0 (Rg Try.f33.body 0) false) (.seq (.seq (.region 1 (Rg Try.f33.body 1) false) (.cond (Go.Operand.tmp 4) (.seq (.region 2 (Rg Try.f33.body 2) false) .ret) .skip)) (.seq (.region 3 (Rg Try.f33.body 3) false) (.seq (.region 4 (Rg Try.f33.body 4) false) .ret)))) := rfl
theorem wCell_body : Try.f33.body = some wCell_code := by kernel_rfl
theorem wCell_fn : Try.prog.funcs[33]? = some Try.f33 := Try.func33
theorem wCell_bd : Try.f33.body.isSome = true := by rw [wCell_body]; rfl
theorem wCell_nm : (Try.f33.name == "runtime.NumGoroutine") = false := by kernel_rfl
theorem wCell_tmps : Try.f33.ntmps = 20 := by kernel_rfl
theorem wCell_res : Try.f33.results = #[Go.ResultVar.tmp 2] := by kernel_rfl
theorem wCell_0 : (Rg Try.f33.body 0).toList.map view = [(some 2, Go.Op.assign (Go.Operand.const (Go.Value.int Go.IntKind.i64 0)), none)] := by kernel_rfl
theorem wCell_1 : (Rg Try.f33.body 1).toList.map view = [(some 3, Go.Op.move (Go.Operand.tmp 0), none), (some 4, Go.Op.binOp Go.BinOp.eql 33 (Go.Operand.tmp 3) (Go.Operand.const (Go.Value.pointer none)) 33, none)] := by kernel_rfl
theorem wCell_2 : (Rg Try.f33.body 2).toList.map view = [(some 2, Go.Op.assign (Go.Operand.const (Go.Value.int Go.IntKind.i64 0)), none)] := by kernel_rfl
theorem wCell_3 : (Rg Try.f33.body 3).toList.map view = [(some 5, Go.Op.move (Go.Operand.tmp 0), none), (some 6, Go.Op.move (Go.Operand.tmp 0), none), (some 7, Go.Op.nilCheck (Go.Operand.tmp 6), none), (some 8, Go.Op.fieldAddr 74 (Go.Operand.tmp 7) 3, none), (some 9, Go.Op.load 22 (Go.Operand.tmp 8), none), (some 10, Go.Op.buildSlice 22 1 #[(0, Go.Operand.const (Go.Value.int Go.IntKind.i64 0))], none), (some 11, Go.Op.call { callee := Go.Callee.builtin Go.Builtin.append, args := #[Go.Operand.tmp 9, Go.Operand.tmp 10], argTypes := #[22, 22] }, none), (some 12, Go.Op.nilCheck (Go.Operand.tmp 5), none), (some 13, Go.Op.fieldAddr 74 (Go.Operand.tmp 12) 3, none), (none, Go.Op.store 22 (Go.Operand.tmp 13) (Go.Operand.tmp 11), none)] := by kernel_rfl
theorem wCell_4 : (Rg Try.f33.body 4).toList.map view = [(some 14, Go.Op.move (Go.Operand.tmp 0), none), (some 15, Go.Op.nilCheck (Go.Operand.tmp 14), none), (some 16, Go.Op.fieldAddr 74 (Go.Operand.tmp 15) 3, none), (some 17, Go.Op.load 22 (Go.Operand.tmp 16), none), (some 18, Go.Op.call { callee := Go.Callee.builtin Go.Builtin.len, args := #[Go.Operand.tmp 17], argTypes := #[22] }, none), (some 19, Go.Op.binOp Go.BinOp.sub 3 (Go.Operand.tmp 18) (Go.Operand.const (Go.Value.int Go.IntKind.i64 1)) 3, none), (some 2, Go.Op.assign (Go.Operand.tmp 19), none)] := by kernel_rfl
noncomputable def wNew_code : Code := (.seq (.region 0 (Rg Try.f12.body 0) false) (.seq (.region 1 (Rg Try.f12.body 1) true) .ret))
theorem wNew_code_def : wNew_code = (.seq (.region 0 (Rg Try.f12.body 0) false) (.seq (.region 1 (Rg Try.f12.body 1) true) .ret)) := rfl
theorem wNew_body : Try.f12.body = some wNew_code := by kernel_rfl
theorem wNew_fn : Try.prog.funcs[12]? = some Try.f12 := Try.func12
theorem wNew_bd : Try.f12.body.isSome = true := by rw [wNew_body]; rfl
theorem wNew_nm : (Try.f12.name == "runtime.NumGoroutine") = false := by kernel_rfl
theorem wNew_tmps : Try.f12.ntmps = 8 := by kernel_rfl
theorem wNew_res : Try.f12.results = #[Go.ResultVar.tmp 2] := by kernel_rfl
theorem wNew_0 : (Rg Try.f12.body 0).toList.map view = [(some 2, Go.Op.assign (Go.Operand.const (Go.Value.pointer none)), none)] := by kernel_rfl
theorem wNew_1 : (Rg Try.f12.body 1).toList.map view = [(some 3, Go.Op.move (Go.Operand.tmp 0), none), (some 4, Go.Op.call { callee := Go.Callee.builtin Go.Builtin.append, args := #[Go.Operand.const (Go.Value.slice none 0 0), Go.Operand.tmp 3], argTypes := #[22, 22] }, none), (some 5, Go.Op.makeChan 60 (Go.Operand.const (Go.Value.int Go.IntKind.i64 0)), none), (some 6, Go.Op.build 74 #[(0, Go.Operand.tmp 4), (2, Go.Operand.const (Go.Value.int Go.IntKind.i64 (-1))), (8, Go.Operand.tmp 5)], none), (some 7, Go.Op.box 74 (Go.Operand.tmp 6), none), (some 2, Go.Op.assign (Go.Operand.tmp 7), none)] := by kernel_rfl
noncomputable def cNew_L0 : Code := (.seq (.region 3 (Rg Try.f7.body 3) false) (.seq (.cond (Go.Operand.tmp 12) .skip (.exit 0)) (.seq (.block 1 (.region 4 (Rg Try.f7.body 4) true)) (.region 5 (Rg Try.f7.body 5) false))))
theorem cNew_L0_def : cNew_L0 = (.seq (.region 3 (Rg Try.f7.body 3) false) (.seq (.cond (Go.Operand.tmp 12) .skip (.exit 0)) (.seq (.block 1 (.region 4 (Rg Try.f7.body 4) true)) (.region 5 (Rg Try.f7.body 5) false)))) := rfl
noncomputable def cNew_code : Code := (.seq (.region 0 (Rg Try.f7.body 0) false) (.seq (.region 1 (Rg Try.f7.body 1) false) (.seq (.seq (.region 2 (Rg Try.f7.body 2) false) (.block 0 (.loop cNew_L0))) (.seq (.region 6 (Rg Try.f7.body 6) false) .ret))))
theorem cNew_code_def : cNew_code = (.seq (.region 0 (Rg Try.f7.body 0) false) (.seq (.region 1 (Rg Try.f7.body 1) false) (.seq (.seq (.region 2 (Rg Try.f7.body 2) false) (.block 0 (.loop cNew_L0))) (.seq (.region 6 (Rg Try.f7.body 6) false) .ret)))) := rfl
theorem cNew_body : Try.f7.body = some cNew_code := by kernel_rfl
theorem cNew_fn : Try.prog.funcs[7]? = some Try.f7 := Try.func7
theorem cNew_bd : Try.f7.body.isSome = true := by rw [cNew_body]; rfl
theorem cNew_nm : (Try.f7.name == "runtime.NumGoroutine") = false := by kernel_rfl
theorem cNew_tmps : Try.f7.ntmps = 26 := by kernel_rfl
theorem cNew_res : Try.f7.results = #[Go.ResultVar.tmp 4] := by kernel_rfl
theorem cNew_0 : (Rg Try.f7.body 0).toList.map view = [(some 4, Go.Op.assign (Go.Operand.const (Go.Value.pointer none)), none)] := by kernel_rfl
theorem cNew_1 : (Rg Try.f7.body 1).toList.map view = [(some 6, Go.Op.build 57 #[], none), (some 7, Go.Op.box 57 (Go.Operand.tmp 6), none), (some 5, Go.Op.assign (Go.Operand.tmp 7), none)] := by kernel_rfl
theorem cNew_2 : (Rg Try.f7.body 2).toList.map view = [(some 8, Go.Op.move (Go.Operand.tmp 1), none), (some 9, Go.Op.call { callee := Go.Callee.builtin Go.Builtin.max, args := #[Go.Operand.tmp 8, Go.Operand.const (Go.Value.int Go.IntKind.i64 1)], argTypes := #[3, 3] }, none), (some 10, Go.Op.call { callee := Go.Callee.builtin Go.Builtin.min, args := #[Go.Operand.tmp 9, Go.Operand.const (Go.Value.int Go.IntKind.i64 16)], argTypes := #[3, 3] }, none), (some 11, Go.Op.move (Go.Operand.const (Go.Value.int Go.IntKind.i64 0)), none)] := by kernel_rfl
theorem cNew_3 : (Rg Try.f7.body 3).toList.map view = [(some 12, Go.Op.binOp Go.BinOp.lss 3 (Go.Operand.tmp 11) (Go.Operand.tmp 10) 3, none)] := by kernel_rfl
theorem cNew_4 : (Rg Try.f7.body 4).toList.map view = [(some 13, Go.Op.move (Go.Operand.tmp 5), none), (some 14, Go.Op.move (Go.Operand.tmp 5), none), (some 15, Go.Op.nilCheck (Go.Operand.tmp 14), none), (some 16, Go.Op.fieldAddr 57 (Go.Operand.tmp 15) 0, none), (some 17, Go.Op.load 55 (Go.Operand.tmp 16), none), (some 18, Go.Op.move (Go.Operand.tmp 0), none), (some 19, Go.Op.call { callee := Go.Callee.value (Go.Operand.func 19), args := #[Go.Operand.tmp 18, Go.Operand.const (Go.Value.int Go.IntKind.i64 0)], argTypes := #[33, 3] }, none), (some 20, Go.Op.buildSlice 55 1 #[(0, Go.Operand.tmp 19)], none), (some 21, Go.Op.call { callee := Go.Callee.builtin Go.Builtin.append, args := #[Go.Operand.tmp 17, Go.Operand.tmp 20], argTypes := #[55, 55] }, none), (some 22, Go.Op.nilCheck (Go.Operand.tmp 13), none), (some 23, Go.Op.fieldAddr 57 (Go.Operand.tmp 22) 0, none), (none, Go.Op.store 55 (Go.Operand.tmp 23) (Go.Operand.tmp 21), none)] := by kernel_rfl
theorem cNew_5 : (Rg Try.f7.body 5).toList.map view = [(some 24, Go.Op.binOp Go.BinOp.add 3 (Go.Operand.tmp 11) (Go.Operand.const (Go.Value.int Go.IntKind.i64 1)) 3, none), (some 11, Go.Op.move (Go.Operand.tmp 24), none)] := by kernel_rfl
theorem cNew_6 : (Rg Try.f7.body 6).toList.map view = [(some 25, Go.Op.move (Go.Operand.tmp 5), none), (some 4, Go.Op.assign (Go.Operand.tmp 25), none)] := by kernel_rfl
noncomputable def fields_code : Code := (.seq (.region 0 (Rg Try.f20.body 0) false) (.seq (.region 1 (Rg Try.f20.body 1) false) .ret))
theorem fields_code_def : fields_code = (.seq (.region 0 (Rg Try.f20.body 0) false) (.seq (.region 1 (Rg Try.f20.body 1) false) .ret)) := rfl
theorem fields_body : Try.f20.body = some fields_code := by kernel_rfl
theorem fields_fn : Try.prog.funcs[20]? = some Try.f20 := Try.func20
theorem fields_bd : Try.f20.body.isSome = true := by rw [fields_body]; rfl
theorem fields_nm : (Try.f20.name == "runtime.NumGoroutine") = false := by kernel_rfl
theorem fields_tmps : Try.f20.ntmps = 4 := by kernel_rfl
theorem fields_res : Try.f20.results = #[Go.ResultVar.cell 0 64, Go.ResultVar.cell 1 64] := by kernel_rfl
theorem fields_0 : (Rg Try.f20.body 0).toList.map view = [(some 0, Go.Op.alloc 64, none), (some 1, Go.Op.alloc 64, none)] := by kernel_rfl
theorem fields_1 : (Rg Try.f20.body 1).toList.map view = [(some 2, Go.Op.build 64 #[(0, Go.Operand.const (Go.Value.int Go.IntKind.i64 0)), (1, Go.Operand.const (Go.Value.int Go.IntKind.i64 32))], none), (some 3, Go.Op.build 64 #[(0, Go.Operand.const (Go.Value.int Go.IntKind.i64 32)), (1, Go.Operand.const (Go.Value.int Go.IntKind.i64 30))], none), (none, Go.Op.store 64 (Go.Operand.tmp 0) (Go.Operand.tmp 2), none), (none, Go.Op.store 64 (Go.Operand.tmp 1) (Go.Operand.tmp 3), none)] := by kernel_rfl
noncomputable def cput_code : Code := (.seq (.region 0 (Rg Try.f24.body 0) false) (.seq (.region 1 (Rg Try.f24.body 1) true) (.seq (.region 2 (Rg Try.f24.body 2) false) .ret)))
theorem cput_code_def : cput_code = (.seq (.region 0 (Rg Try.f24.body 0) false) (.seq (.region 1 (Rg Try.f24.body 1) true) (.seq (.region 2 (Rg Try.f24.body 2) false) .ret))) := rfl
theorem cput_body : Try.f24.body = some cput_code := by kernel_rfl
theorem cput_fn : Try.prog.funcs[24]? = some Try.f24 := Try.func24
theorem cput_bd : Try.f24.body.isSome = true := by rw [cput_body]; rfl
theorem cput_nm : (Try.f24.name == "runtime.NumGoroutine") = false := by kernel_rfl
theorem cput_tmps : Try.f24.ntmps = 20 := by kernel_rfl
theorem cput_res : Try.f24.results = #[Go.ResultVar.tmp 6] := by kernel_rfl
theorem cput_0 : (Rg Try.f24.body 0).toList.map view = [(some 4, Go.Op.box 64 (Go.Operand.tmp 1), none), (some 6, Go.Op.assign (Go.Operand.const (Go.Value.int Go.IntKind.i64 0)), none)] := by kernel_rfl
theorem cput_1 : (Rg Try.f24.body 1).toList.map view = [(some 8, Go.Op.move (Go.Operand.tmp 0), none), (some 9, Go.Op.load 64 (Go.Operand.tmp 4), none), (some 10, Go.Op.move (Go.Operand.tmp 2), none), (some 11, Go.Op.fieldAddr 64 (Go.Operand.tmp 4) 1, none), (some 12, Go.Op.load 3 (Go.Operand.tmp 11), none), (some 13, Go.Op.binOp Go.BinOp.shl 3 (Go.Operand.const (Go.Value.int Go.IntKind.i64 1)) (Go.Operand.tmp 12) 3, none), (some 14, Go.Op.binOp Go.BinOp.sub 3 (Go.Operand.tmp 13) (Go.Operand.const (Go.Value.int Go.IntKind.i64 1)) 3, none), (some 15, Go.Op.binOp Go.BinOp.and 3 (Go.Operand.tmp 10) (Go.Operand.tmp 14) 3, none), (some 16, Go.Op.call { callee := Go.Callee.value (Go.Operand.func 38), args := #[Go.Operand.tmp 8, Go.Operand.tmp 9, Go.Operand.tmp 15], argTypes := #[3, 64, 3] }, none), (some 7, Go.Op.move (Go.Operand.tmp 16), none), (some 17, Go.Op.extract (Go.Operand.tmp 7) 0, none), (some 18, Go.Op.extract (Go.Operand.tmp 7) 1, none), (some 0, Go.Op.assign (Go.Operand.tmp 17), none)] := by kernel_rfl
theorem cput_2 : (Rg Try.f24.body 2).toList.map view = [(some 19, Go.Op.move (Go.Operand.tmp 0), none), (some 6, Go.Op.assign (Go.Operand.tmp 19), none)] := by kernel_rfl
noncomputable def wGet_L0 : Code := (.seq (.region 5 (Rg Try.f25.body 5) false) (.seq (.cond (Go.Operand.tmp 13) .skip (.exit 0)) (.seq (.block 1 (.seq (.region 6 (Rg Try.f25.body 6) false) (.seq (.region 7 (Rg Try.f25.body 7) false) (.cond (Go.Operand.tmp 23) (.region 8 (Rg Try.f25.body 8) false) .skip)))) (.region 9 (Rg Try.f25.body 9) false))))
theorem wGet_L0_def : wGet_L0 = (.seq (.region 5 (Rg Try.f25.body 5) false) (.seq (.cond (Go.Operand.tmp 13) .skip (.exit 0)) (.seq (.block 1 (.seq (.region 6 (Rg Try.f25.body 6) false) (.seq (.region 7 (Rg Try.f25.body 7) false) (.cond (Go.Operand.tmp 23) (.region 8 (Rg Try.f25.body 8) false) .skip)))) (.region 9 (Rg Try.f25.body 9) false)))) := rfl
noncomputable def wGet_code : Code := (.seq (.region 0 (Rg Try.f25.body 0) false) (.seq (.seq (.region 1 (Rg Try.f25.body 1) false) (.cond (Go.Operand.tmp 9) (.seq (.region 2 (Rg Try.f25.body 2) false) .ret) .skip)) (.seq (.region 3 (Rg Try.f25.body 3) false) (.seq (.seq (.region 4 (Rg Try.f25.body 4) false) (.block 0 (.loop wGet_L0))) (.seq (.region 10 (Rg Try.f25.body 10) false) .ret)))))
theorem wGet_code_def : wGet_code = (.seq (.region 0 (Rg Try.f25.body 0) false) (.seq (.seq (.region 1 (Rg Try.f25.body 1) false) (.cond (Go.Operand.tmp 9) (.seq (.region 2 (Rg Try.f25.body 2) false) .ret) .skip)) (.seq (.region 3 (Rg Try.f25.body 3) false) (.seq (.seq (.region 4 (Rg Try.f25.body 4) false) (.block 0 (.loop wGet_L0))) (.seq (.region 10 (Rg Try.f25.body 10) false) .ret))))) := rfl
theorem wGet_body : Try.f25.body = some wGet_code := by kernel_rfl
theorem wGet_fn : Try.prog.funcs[25]? = some Try.f25 := Try.func25
theorem wGet_bd : Try.f25.body.isSome = true := by rw [wGet_body]; rfl
theorem wGet_nm : (Try.f25.name == "runtime.NumGoroutine") = false := by kernel_rfl
theorem wGet_tmps : Try.f25.ntmps = 30 := by kernel_rfl
theorem wGet_res : Try.f25.results = #[Go.ResultVar.tmp 4] := by kernel_rfl
theorem wGet_0 : (Rg Try.f25.body 0).toList.map view = [(some 3, Go.Op.box 64 (Go.Operand.tmp 1), none), (some 4, Go.Op.assign (Go.Operand.const (Go.Value.int Go.IntKind.i64 0)), none)] := by kernel_rfl
theorem wGet_1 : (Rg Try.f25.body 1).toList.map view = [(some 7, Go.Op.load 64 (Go.Operand.tmp 3), none), (some 8, Go.Op.call { callee := Go.Callee.value (Go.Operand.func 39), args := #[Go.Operand.tmp 7], argTypes := #[64] }, none), (some 9, Go.Op.unOp Go.UnOp.not 4 (Go.Operand.tmp 8), none)] := by kernel_rfl
theorem wGet_3 : (Rg Try.f25.body 3).toList.map view = [(some 5, Go.Op.assign (Go.Operand.const (Go.Value.int Go.IntKind.i64 0)), none)] := by kernel_rfl
theorem wGet_4 : (Rg Try.f25.body 4).toList.map view = [(some 10, Go.Op.fieldAddr 64 (Go.Operand.tmp 3) 1, none), (some 11, Go.Op.load 3 (Go.Operand.tmp 10), none), (some 12, Go.Op.move (Go.Operand.const (Go.Value.int Go.IntKind.i64 0)), none)] := by kernel_rfl
theorem wGet_5 : (Rg Try.f25.body 5).toList.map view = [(some 13, Go.Op.binOp Go.BinOp.lss 3 (Go.Operand.tmp 12) (Go.Operand.tmp 11) 3, none)] := by kernel_rfl
theorem wGet_6 : (Rg Try.f25.body 6).toList.map view = [(some 14, Go.Op.move (Go.Operand.tmp 12), none), (some 6, Go.Op.assign (Go.Operand.tmp 14), none)] := by kernel_rfl
theorem wGet_7 : (Rg Try.f25.body 7).toList.map view = [(some 15, Go.Op.move (Go.Operand.tmp 0), none), (some 16, Go.Op.convert 3 96 (Go.Operand.tmp 15), none), (some 17, Go.Op.fieldAddr 64 (Go.Operand.tmp 3) 0, none), (some 18, Go.Op.load 3 (Go.Operand.tmp 17), none), (some 19, Go.Op.move (Go.Operand.tmp 6), none), (some 20, Go.Op.binOp Go.BinOp.add 3 (Go.Operand.tmp 18) (Go.Operand.tmp 19) 3, none), (some 21, Go.Op.binOp Go.BinOp.shr 96 (Go.Operand.tmp 16) (Go.Operand.tmp 20) 3, none), (some 22, Go.Op.binOp Go.BinOp.and 96 (Go.Operand.tmp 21) (Go.Operand.const (Go.Value.int Go.IntKind.u64 1)) 96, none), (some 23, Go.Op.binOp Go.BinOp.eql 96 (Go.Operand.tmp 22) (Go.Operand.const (Go.Value.int Go.IntKind.u64 1)) 96, none)] := by kernel_rfl
theorem wGet_8 : (Rg Try.f25.body 8).toList.map view = [(some 24, Go.Op.move (Go.Operand.tmp 5), none), (some 25, Go.Op.move (Go.Operand.tmp 6), none), (some 26, Go.Op.binOp Go.BinOp.shl 3 (Go.Operand.const (Go.Value.int Go.IntKind.i64 1)) (Go.Operand.tmp 25) 3, none), (some 27, Go.Op.binOp Go.BinOp.or 3 (Go.Operand.tmp 24) (Go.Operand.tmp 26) 3, none), (some 5, Go.Op.assign (Go.Operand.tmp 27), none)] := by kernel_rfl
theorem wGet_9 : (Rg Try.f25.body 9).toList.map view = [(some 28, Go.Op.binOp Go.BinOp.add 3 (Go.Operand.tmp 12) (Go.Operand.const (Go.Value.int Go.IntKind.i64 1)) 3, none), (some 12, Go.Op.move (Go.Operand.tmp 28), none)] := by kernel_rfl
theorem wGet_10 : (Rg Try.f25.body 10).toList.map view = [(some 29, Go.Op.move (Go.Operand.tmp 5), none), (some 4, Go.Op.assign (Go.Operand.tmp 29), none)] := by kernel_rfl
noncomputable def wPut_L0 : Code := (.seq (.region 5 (Rg Try.f38.body 5) false) (.seq (.cond (Go.Operand.tmp 30) .skip (.exit 0)) (.seq (.block 1 (.seq (.region 6 (Rg Try.f38.body 6) false) (.seq (.region 7 (Rg Try.f38.body 7) false) (.seq (.region 8 (Rg Try.f38.body 8) false) (.seq (.region 9 (Rg Try.f38.body 9) false) (.cond (Go.Operand.tmp 44) (.region 10 (Rg Try.f38.body 10) false) .skip)))))) (.region 11 (Rg Try.f38.body 11) false))))
theorem wPut_L0_def : wPut_L0 = (.seq (.region 5 (Rg Try.f38.body 5) false) (.seq (.cond (Go.Operand.tmp 30) .skip (.exit 0)) (.seq (.block 1 (.seq (.region 6 (Rg Try.f38.body 6) false) (.seq (.region 7 (Rg Try.f38.body 7) false) (.seq (.region 8 (Rg Try.f38.body 8) false) (.seq (.region 9 (Rg Try.f38.body 9) false) (.cond (Go.Operand.tmp 44) (.region 10 (Rg Try.f38.body 10) false) .skip)))))) (.region 11 (Rg Try.f38.body 11) false)))) := rfl
noncomputable def wPut_code : Code := (.seq (.region 0 (Rg Try.f38.body 0) false) (.seq (.seq (.region 1 (Rg Try.f38.body 1) false) (.cond (Go.Operand.tmp 24) (.seq (.region 2 (Rg Try.f38.body 2) false) .ret) .skip)) (.seq (.region 3 (Rg Try.f38.body 3) false) (.seq (.seq (.region 4 (Rg Try.f38.body 4) false) (.block 0 (.loop wPut_L0))) (.seq (.region 12 (Rg Try.f38.body 12) false) .ret)))))
theorem wPut_code_def : wPut_code = (.seq (.region 0 (Rg Try.f38.body 0) false) (.seq (.seq (.region 1 (Rg Try.f38.body 1) false) (.cond (Go.Operand.tmp 24) (.seq (.region 2 (Rg Try.f38.body 2) false) .ret) .skip)) (.seq (.region 3 (Rg Try.f38.body 3) false) (.seq (.seq (.region 4 (Rg Try.f38.body 4) false) (.block 0 (.loop wPut_L0))) (.seq (.region 12 (Rg Try.f38.body 12) false) .ret))))) := rfl
theorem wPut_body : Try.f38.body = some wPut_code := by kernel_rfl
theorem wPut_fn : Try.prog.funcs[38]? = some Try.f38 := Try.func38
theorem wPut_bd : Try.f38.body.isSome = true := by rw [wPut_body]; rfl
theorem wPut_nm : (Try.f38.name == "runtime.NumGoroutine") = false := by kernel_rfl
theorem wPut_tmps : Try.f38.ntmps = 51 := by kernel_rfl
theorem wPut_res : Try.f38.results = #[Go.ResultVar.tmp 6, Go.ResultVar.tmp 7] := by kernel_rfl
theorem wPut_0 : (Rg Try.f38.body 0).toList.map view = [(some 4, Go.Op.box 64 (Go.Operand.tmp 1), none), (some 6, Go.Op.assign (Go.Operand.const (Go.Value.int Go.IntKind.i64 0)), none), (some 7, Go.Op.assign (Go.Operand.const (Go.Value.int Go.IntKind.i64 0)), none)] := by kernel_rfl
theorem wPut_1 : (Rg Try.f38.body 1).toList.map view = [(some 11, Go.Op.load 64 (Go.Operand.tmp 4), none), (some 12, Go.Op.call { callee := Go.Callee.value (Go.Operand.func 39), args := #[Go.Operand.tmp 11], argTypes := #[64] }, none), (some 13, Go.Op.unOp Go.UnOp.not 4 (Go.Operand.tmp 12), none), (some 14, Go.Op.move (Go.Operand.tmp 13), none), (some 15, Go.Op.move (Go.Operand.tmp 2), some (3, false)), (some 16, Go.Op.binOp Go.BinOp.lss 3 (Go.Operand.tmp 15) (Go.Operand.const (Go.Value.int Go.IntKind.i64 0)) 3, some (3, false)), (some 17, Go.Op.pick (Go.Operand.tmp 14) (Go.Operand.const (Go.Value.bool true)) (Go.Operand.tmp 16), none), (some 18, Go.Op.move (Go.Operand.tmp 17), none), (some 19, Go.Op.move (Go.Operand.tmp 2), some (7, false)), (some 20, Go.Op.fieldAddr 64 (Go.Operand.tmp 4) 1, some (7, false)), (some 21, Go.Op.load 3 (Go.Operand.tmp 20), some (7, false)), (some 22, Go.Op.binOp Go.BinOp.shr 3 (Go.Operand.tmp 19) (Go.Operand.tmp 21) 3, some (7, false)), (some 23, Go.Op.binOp Go.BinOp.neq 3 (Go.Operand.tmp 22) (Go.Operand.const (Go.Value.int Go.IntKind.i64 0)) 3, some (7, false)), (some 24, Go.Op.pick (Go.Operand.tmp 18) (Go.Operand.const (Go.Value.bool true)) (Go.Operand.tmp 23), none)] := by kernel_rfl
theorem wPut_3 : (Rg Try.f38.body 3).toList.map view = [(some 25, Go.Op.move (Go.Operand.tmp 0), none), (some 26, Go.Op.convert 3 96 (Go.Operand.tmp 25), none), (some 8, Go.Op.assign (Go.Operand.tmp 26), none)] := by kernel_rfl
theorem wPut_4 : (Rg Try.f38.body 4).toList.map view = [(some 27, Go.Op.fieldAddr 64 (Go.Operand.tmp 4) 1, none), (some 28, Go.Op.load 3 (Go.Operand.tmp 27), none), (some 29, Go.Op.move (Go.Operand.const (Go.Value.int Go.IntKind.i64 0)), none)] := by kernel_rfl
theorem wPut_5 : (Rg Try.f38.body 5).toList.map view = [(some 30, Go.Op.binOp Go.BinOp.lss 3 (Go.Operand.tmp 29) (Go.Operand.tmp 28) 3, none)] := by kernel_rfl
theorem wPut_6 : (Rg Try.f38.body 6).toList.map view = [(some 31, Go.Op.move (Go.Operand.tmp 29), none), (some 9, Go.Op.assign (Go.Operand.tmp 31), none)] := by kernel_rfl
theorem wPut_7 : (Rg Try.f38.body 7).toList.map view = [(some 32, Go.Op.fieldAddr 64 (Go.Operand.tmp 4) 0, none), (some 33, Go.Op.load 3 (Go.Operand.tmp 32), none), (some 34, Go.Op.move (Go.Operand.tmp 9), none), (some 35, Go.Op.binOp Go.BinOp.add 3 (Go.Operand.tmp 33) (Go.Operand.tmp 34) 3, none), (some 36, Go.Op.binOp Go.BinOp.shl 96 (Go.Operand.const (Go.Value.int Go.IntKind.u64 1)) (Go.Operand.tmp 35) 3, none), (some 10, Go.Op.assign (Go.Operand.tmp 36), none)] := by kernel_rfl
theorem wPut_8 : (Rg Try.f38.body 8).toList.map view = [(some 37, Go.Op.move (Go.Operand.tmp 8), none), (some 38, Go.Op.move (Go.Operand.tmp 10), none), (some 39, Go.Op.binOp Go.BinOp.andNot 96 (Go.Operand.tmp 37) (Go.Operand.tmp 38) 96, none), (some 8, Go.Op.assign (Go.Operand.tmp 39), none)] := by kernel_rfl
theorem wPut_9 : (Rg Try.f38.body 9).toList.map view = [(some 40, Go.Op.move (Go.Operand.tmp 2), none), (some 41, Go.Op.move (Go.Operand.tmp 9), none), (some 42, Go.Op.binOp Go.BinOp.shr 3 (Go.Operand.tmp 40) (Go.Operand.tmp 41) 3, none), (some 43, Go.Op.binOp Go.BinOp.and 3 (Go.Operand.tmp 42) (Go.Operand.const (Go.Value.int Go.IntKind.i64 1)) 3, none), (some 44, Go.Op.binOp Go.BinOp.eql 3 (Go.Operand.tmp 43) (Go.Operand.const (Go.Value.int Go.IntKind.i64 1)) 3, none)] := by kernel_rfl
theorem wPut_10 : (Rg Try.f38.body 10).toList.map view = [(some 45, Go.Op.move (Go.Operand.tmp 8), none), (some 46, Go.Op.move (Go.Operand.tmp 10), none), (some 47, Go.Op.binOp Go.BinOp.or 96 (Go.Operand.tmp 45) (Go.Operand.tmp 46) 96, none), (some 8, Go.Op.assign (Go.Operand.tmp 47), none)] := by kernel_rfl
theorem wPut_11 : (Rg Try.f38.body 11).toList.map view = [(some 48, Go.Op.binOp Go.BinOp.add 3 (Go.Operand.tmp 29) (Go.Operand.const (Go.Value.int Go.IntKind.i64 1)) 3, none), (some 29, Go.Op.move (Go.Operand.tmp 48), none)] := by kernel_rfl
theorem wPut_12 : (Rg Try.f38.body 12).toList.map view = [(some 49, Go.Op.move (Go.Operand.tmp 8), none), (some 50, Go.Op.convert 96 3 (Go.Operand.tmp 49), none), (some 6, Go.Op.assign (Go.Operand.tmp 50), none), (some 7, Go.Op.assign (Go.Operand.const (Go.Value.int Go.IntKind.i64 0)), none)] := by kernel_rfl
noncomputable def wmay_code : Code := (.seq (.region 0 (Rg Try.f39.body 0) false) (.seq (.region 1 (Rg Try.f39.body 1) false) .ret))
theorem wmay_code_def : wmay_code = (.seq (.region 0 (Rg Try.f39.body 0) false) (.seq (.region 1 (Rg Try.f39.body 1) false) .ret)) := rfl
theorem wmay_body : Try.f39.body = some wmay_code := by kernel_rfl
theorem wmay_fn : Try.prog.funcs[39]? = some Try.f39 := Try.func39
theorem wmay_bd : Try.f39.body.isSome = true := by rw [wmay_body]; rfl
theorem wmay_nm : (Try.f39.name == "runtime.NumGoroutine") = false := by kernel_rfl
theorem wmay_tmps : Try.f39.ntmps = 24 := by kernel_rfl
theorem wmay_res : Try.f39.results = #[Go.ResultVar.tmp 2] := by kernel_rfl
theorem wmay_0 : (Rg Try.f39.body 0).toList.map view = [(some 1, Go.Op.box 64 (Go.Operand.tmp 0), none), (some 2, Go.Op.assign (Go.Operand.const (Go.Value.bool false)), none)] := by kernel_rfl
theorem wmay_1 : (Rg Try.f39.body 1).toList.map view = [(some 3, Go.Op.fieldAddr 64 (Go.Operand.tmp 1) 0, none), (some 4, Go.Op.load 3 (Go.Operand.tmp 3), none), (some 5, Go.Op.binOp Go.BinOp.geq 3 (Go.Operand.tmp 4) (Go.Operand.const (Go.Value.int Go.IntKind.i64 0)) 3, none), (some 6, Go.Op.move (Go.Operand.tmp 5), none), (some 7, Go.Op.fieldAddr 64 (Go.Operand.tmp 1) 1, some (3, true)), (some 8, Go.Op.load 3 (Go.Operand.tmp 7), some (3, true)), (some 9, Go.Op.binOp Go.BinOp.geq 3 (Go.Operand.tmp 8) (Go.Operand.const (Go.Value.int Go.IntKind.i64 1)) 3, some (3, true)), (some 10, Go.Op.pick (Go.Operand.tmp 6) (Go.Operand.tmp 9) (Go.Operand.const (Go.Value.bool false)), none), (some 11, Go.Op.move (Go.Operand.tmp 10), none), (some 12, Go.Op.fieldAddr 64 (Go.Operand.tmp 1) 1, some (8, true)), (some 13, Go.Op.load 3 (Go.Operand.tmp 12), some (8, true)), (some 14, Go.Op.binOp Go.BinOp.leq 3 (Go.Operand.tmp 13) (Go.Operand.const (Go.Value.int Go.IntKind.i64 62)) 3, some (8, true)), (some 15, Go.Op.pick (Go.Operand.tmp 11) (Go.Operand.tmp 14) (Go.Operand.const (Go.Value.bool false)), none), (some 16, Go.Op.move (Go.Operand.tmp 15), none), (some 17, Go.Op.fieldAddr 64 (Go.Operand.tmp 1) 0, some (13, true)), (some 18, Go.Op.load 3 (Go.Operand.tmp 17), some (13, true)), (some 19, Go.Op.fieldAddr 64 (Go.Operand.tmp 1) 1, some (13, true)), (some 20, Go.Op.load 3 (Go.Operand.tmp 19), some (13, true)), (some 21, Go.Op.binOp Go.BinOp.sub 3 (Go.Operand.const (Go.Value.int Go.IntKind.i64 64)) (Go.Operand.tmp 20) 3, some (13, true)), (some 22, Go.Op.binOp Go.BinOp.leq 3 (Go.Operand.tmp 18) (Go.Operand.tmp 21) 3, some (13, true)), (some 23, Go.Op.pick (Go.Operand.tmp 16) (Go.Operand.tmp 22) (Go.Operand.const (Go.Value.bool false)), none), (some 2, Go.Op.assign (Go.Operand.tmp 23), none)] := by kernel_rfl
noncomputable def Mod_code : Code := (.seq (.region 0 (Rg Try.f21.body 0) false) (.seq (.region 1 (Rg Try.f21.body 1) false) .ret))
theorem Mod_code_def : Mod_code = (.seq (.region 0 (Rg Try.f21.body 0) false) (.seq (.region 1 (Rg Try.f21.body 1) false) .ret)) := rfl
theorem Mod_body : Try.f21.body = some Mod_code := by kernel_rfl
theorem Mod_fn : Try.prog.funcs[21]? = some Try.f21 := Try.func21
theorem Mod_bd : Try.f21.body.isSome = true := by rw [Mod_body]; rfl
theorem Mod_nm : (Try.f21.name == "runtime.NumGoroutine") = false := by kernel_rfl
theorem Mod_tmps : Try.f21.ntmps = 12 := by kernel_rfl
theorem Mod_res : Try.f21.results = #[Go.ResultVar.tmp 4] := by kernel_rfl
theorem Mod_0 : (Rg Try.f21.body 0).toList.map view = [(some 4, Go.Op.assign (Go.Operand.const (Go.Value.int Go.IntKind.i64 0)), none)] := by kernel_rfl
theorem Mod_1 : (Rg Try.f21.body 1).toList.map view = [(some 5, Go.Op.move (Go.Operand.tmp 0), none), (some 6, Go.Op.move (Go.Operand.tmp 1), none), (some 7, Go.Op.binOp Go.BinOp.rem 3 (Go.Operand.tmp 5) (Go.Operand.tmp 6) 3, none), (some 8, Go.Op.move (Go.Operand.tmp 1), none), (some 9, Go.Op.binOp Go.BinOp.add 3 (Go.Operand.tmp 7) (Go.Operand.tmp 8) 3, none), (some 10, Go.Op.move (Go.Operand.tmp 1), none), (some 11, Go.Op.binOp Go.BinOp.rem 3 (Go.Operand.tmp 9) (Go.Operand.tmp 10) 3, none), (some 4, Go.Op.assign (Go.Operand.tmp 11), none)] := by kernel_rfl
noncomputable def Id_code : Code := (.seq (.region 0 (Rg Try.f22.body 0) false) (.seq (.region 1 (Rg Try.f22.body 1) false) .ret))
theorem Id_code_def : Id_code = (.seq (.region 0 (Rg Try.f22.body 0) false) (.seq (.region 1 (Rg Try.f22.body 1) false) .ret)) := rfl
theorem Id_body : Try.f22.body = some Id_code := by kernel_rfl
theorem Id_fn : Try.prog.funcs[22]? = some Try.f22 := Try.func22
theorem Id_bd : Try.f22.body.isSome = true := by rw [Id_body]; rfl
theorem Id_nm : (Try.f22.name == "runtime.NumGoroutine") = false := by kernel_rfl
theorem Id_tmps : Try.f22.ntmps = 7 := by kernel_rfl
theorem Id_res : Try.f22.results = #[Go.ResultVar.tmp 2] := by kernel_rfl
theorem Id_0 : (Rg Try.f22.body 0).toList.map view = [(some 2, Go.Op.assign (Go.Operand.const (Go.Value.int Go.IntKind.i64 0)), none)] := by kernel_rfl
theorem Id_1 : (Rg Try.f22.body 1).toList.map view = [(some 3, Go.Op.move (Go.Operand.tmp 0), none), (some 4, Go.Op.nilCheck (Go.Operand.tmp 3), none), (some 5, Go.Op.fieldAddr 62 (Go.Operand.tmp 4) 1, none), (some 6, Go.Op.load 3 (Go.Operand.tmp 5), none), (some 2, Go.Op.assign (Go.Operand.tmp 6), none)] := by kernel_rfl
noncomputable def May_L0 : Code := (.seq (.region 2 (Rg Try.f28.body 2) false) (.seq (.cond (Go.Operand.tmp 12) .skip (.exit 0)) (.seq (.block 1 (.seq (.region 3 (Rg Try.f28.body 3) false) (.seq (.region 4 (Rg Try.f28.body 4) false) (.cond (Go.Operand.tmp 17) (.seq (.region 5 (Rg Try.f28.body 5) false) .ret) .skip)))) (.region 6 (Rg Try.f28.body 6) false))))
theorem May_L0_def : May_L0 = (.seq (.region 2 (Rg Try.f28.body 2) false) (.seq (.cond (Go.Operand.tmp 12) .skip (.exit 0)) (.seq (.block 1 (.seq (.region 3 (Rg Try.f28.body 3) false) (.seq (.region 4 (Rg Try.f28.body 4) false) (.cond (Go.Operand.tmp 17) (.seq (.region 5 (Rg Try.f28.body 5) false) .ret) .skip)))) (.region 6 (Rg Try.f28.body 6) false)))) := rfl
noncomputable def May_code : Code := (.seq (.region 0 (Rg Try.f28.body 0) false) (.seq (.seq (.region 1 (Rg Try.f28.body 1) false) (.block 0 (.loop May_L0))) (.seq (.seq (.region 7 (Rg Try.f28.body 7) false) (.cond (Go.Operand.tmp 42) (.seq (.region 8 (Rg Try.f28.body 8) false) .ret) .skip)) (.seq (.region 9 (Rg Try.f28.body 9) false) .ret))))
theorem May_code_def : May_code = (.seq (.region 0 (Rg Try.f28.body 0) false) (.seq (.seq (.region 1 (Rg Try.f28.body 1) false) (.block 0 (.loop May_L0))) (.seq (.seq (.region 7 (Rg Try.f28.body 7) false) (.cond (Go.Operand.tmp 42) (.seq (.region 8 (Rg Try.f28.body 8) false) .ret) .skip)) (.seq (.region 9 (Rg Try.f28.body 9) false) .ret)))) := rfl
theorem May_body : Try.f28.body = some May_code := by kernel_rfl
theorem May_fn : Try.prog.funcs[28]? = some Try.f28 := Try.func28
theorem May_bd : Try.f28.body.isSome = true := by rw [May_body]; rfl
theorem May_nm : (Try.f28.name == "runtime.NumGoroutine") = false := by kernel_rfl
theorem May_tmps : Try.f28.ntmps = 43 := by kernel_rfl
theorem May_res : Try.f28.results = #[Go.ResultVar.tmp 6] := by kernel_rfl
theorem May_0 : (Rg Try.f28.body 0).toList.map view = [(some 6, Go.Op.assign (Go.Operand.const (Go.Value.int Go.IntKind.i64 0)), none)] := by kernel_rfl
theorem May_1 : (Rg Try.f28.body 1).toList.map view = [(some 9, Go.Op.move (Go.Operand.tmp 1), none), (some 10, Go.Op.call { callee := Go.Callee.builtin Go.Builtin.len, args := #[Go.Operand.tmp 9], argTypes := #[32] }, none), (some 11, Go.Op.move (Go.Operand.const (Go.Value.int Go.IntKind.i64 0)), none)] := by kernel_rfl
theorem May_2 : (Rg Try.f28.body 2).toList.map view = [(some 12, Go.Op.binOp Go.BinOp.lss 3 (Go.Operand.tmp 11) (Go.Operand.tmp 10) 3, none)] := by kernel_rfl
theorem May_3 : (Rg Try.f28.body 3).toList.map view = [(some 13, Go.Op.indexAddr 32 (Go.Operand.tmp 9) (Go.Operand.tmp 11), none), (some 14, Go.Op.load 47 (Go.Operand.tmp 13), none), (some 8, Go.Op.assign (Go.Operand.tmp 14), none)] := by kernel_rfl
theorem May_4 : (Rg Try.f28.body 4).toList.map view = [(some 15, Go.Op.move (Go.Operand.tmp 8), none), (some 16, Go.Op.call { callee := Go.Callee.builtin Go.Builtin.len, args := #[Go.Operand.tmp 15], argTypes := #[47] }, none), (some 17, Go.Op.binOp Go.BinOp.gtr 3 (Go.Operand.tmp 16) (Go.Operand.const (Go.Value.int Go.IntKind.i64 64)) 3, none)] := by kernel_rfl
theorem May_5 : (Rg Try.f28.body 5).toList.map view = [(some 6, Go.Op.assign (Go.Operand.const (Go.Value.int Go.IntKind.i64 2)), none)] := by kernel_rfl
theorem May_6 : (Rg Try.f28.body 6).toList.map view = [(some 18, Go.Op.binOp Go.BinOp.add 3 (Go.Operand.tmp 11) (Go.Operand.const (Go.Value.int Go.IntKind.i64 1)) 3, none), (some 11, Go.Op.move (Go.Operand.tmp 18), none)] := by kernel_rfl
theorem May_7 : (Rg Try.f28.body 7).toList.map view = [(some 19, Go.Op.move (Go.Operand.tmp 1), none), (some 20, Go.Op.call { callee := Go.Callee.builtin Go.Builtin.len, args := #[Go.Operand.tmp 19], argTypes := #[32] }, none), (some 21, Go.Op.binOp Go.BinOp.lss 3 (Go.Operand.tmp 20) (Go.Operand.const (Go.Value.int Go.IntKind.i64 1)) 3, none), (some 22, Go.Op.move (Go.Operand.tmp 21), none), (some 23, Go.Op.move (Go.Operand.tmp 1), some (3, false)), (some 24, Go.Op.call { callee := Go.Callee.builtin Go.Builtin.len, args := #[Go.Operand.tmp 23], argTypes := #[32] }, some (3, false)), (some 25, Go.Op.binOp Go.BinOp.gtr 3 (Go.Operand.tmp 24) (Go.Operand.const (Go.Value.int Go.IntKind.i64 8)) 3, some (3, false)), (some 26, Go.Op.pick (Go.Operand.tmp 22) (Go.Operand.const (Go.Value.bool true)) (Go.Operand.tmp 25), none), (some 27, Go.Op.move (Go.Operand.tmp 26), none), (some 28, Go.Op.move (Go.Operand.tmp 0), some (8, false)), (some 29, Go.Op.binOp Go.BinOp.eql 33 (Go.Operand.tmp 28) (Go.Operand.const (Go.Value.pointer none)) 33, some (8, false)), (some 30, Go.Op.move (Go.Operand.tmp 29), some (8, false)), (some 31, Go.Op.move (Go.Operand.tmp 2), some (11, true)), (some 32, Go.Op.unOp Go.UnOp.not 4 (Go.Operand.tmp 31), some (11, true)), (some 33, Go.Op.pick (Go.Operand.tmp 30) (Go.Operand.tmp 32) (Go.Operand.const (Go.Value.bool false)), some (8, false)), (some 34, Go.Op.pick (Go.Operand.tmp 27) (Go.Operand.const (Go.Value.bool true)) (Go.Operand.tmp 33), none), (some 35, Go.Op.move (Go.Operand.tmp 34), none), (some 36, Go.Op.move (Go.Operand.tmp 0), some (16, false)), (some 37, Go.Op.binOp Go.BinOp.neq 33 (Go.Operand.tmp 36) (Go.Operand.const (Go.Value.pointer none)) 33, some (16, false)), (some 38, Go.Op.move (Go.Operand.tmp 37), some (16, false)), (some 39, Go.Op.move (Go.Operand.tmp 0), some (19, true)), (some 40, Go.Op.call { callee := Go.Callee.value (Go.Operand.func 41), args := #[Go.Operand.tmp 39], argTypes := #[33] }, some (19, true)), (some 41, Go.Op.pick (Go.Operand.tmp 38) (Go.Operand.tmp 40) (Go.Operand.const (Go.Value.bool false)), some (16, false)), (some 42, Go.Op.pick (Go.Operand.tmp 35) (Go.Operand.const (Go.Value.bool true)) (Go.Operand.tmp 41), none)] := by kernel_rfl
theorem May_8 : (Rg Try.f28.body 8).toList.map view = [(some 6, Go.Op.assign (Go.Operand.const (Go.Value.int Go.IntKind.i64 1)), none)] := by kernel_rfl
theorem May_9 : (Rg Try.f28.body 9).toList.map view = [(some 6, Go.Op.assign (Go.Operand.const (Go.Value.int Go.IntKind.i64 0)), none)] := by kernel_rfl
noncomputable def Ran_code : Code := (.seq (.region 0 (Rg Try.f41.body 0) false) (.seq (.region 1 (Rg Try.f41.body 1) false) .ret))
theorem Ran_code_def : Ran_code = (.seq (.region 0 (Rg Try.f41.body 0) false) (.seq (.region 1 (Rg Try.f41.body 1) false) .ret)) := rfl
theorem Ran_body : Try.f41.body = some Ran_code := by kernel_rfl
theorem Ran_fn : Try.prog.funcs[41]? = some Try.f41 := Try.func41
theorem Ran_bd : Try.f41.body.isSome = true := by rw [Ran_body]; rfl
theorem Ran_nm : (Try.f41.name == "runtime.NumGoroutine") = false := by kernel_rfl
theorem Ran_tmps : Try.f41.ntmps = 11 := by kernel_rfl
theorem Ran_res : Try.f41.results = #[Go.ResultVar.tmp 2] := by kernel_rfl
theorem Ran_0 : (Rg Try.f41.body 0).toList.map view = [(some 2, Go.Op.assign (Go.Operand.const (Go.Value.bool false)), none)] := by kernel_rfl
theorem Ran_1 : (Rg Try.f41.body 1).toList.map view = [(some 3, Go.Op.move (Go.Operand.tmp 0), none), (some 4, Go.Op.binOp Go.BinOp.neq 33 (Go.Operand.tmp 3) (Go.Operand.const (Go.Value.pointer none)) 33, none), (some 5, Go.Op.move (Go.Operand.tmp 4), none), (some 6, Go.Op.move (Go.Operand.tmp 0), some (2, true)), (some 7, Go.Op.nilCheck (Go.Operand.tmp 6), some (2, true)), (some 8, Go.Op.fieldAddr 74 (Go.Operand.tmp 7) 7, some (2, true)), (some 9, Go.Op.load 4 (Go.Operand.tmp 8), some (2, true)), (some 10, Go.Op.pick (Go.Operand.tmp 5) (Go.Operand.tmp 9) (Go.Operand.const (Go.Value.bool false)), none), (some 2, Go.Op.assign (Go.Operand.tmp 10), none)] := by kernel_rfl
noncomputable def Free_code : Code := (.seq (.region 0 (Rg Try.f8.body 0) false) (.seq (.region 1 (Rg Try.f8.body 1) false) .ret))
theorem Free_code_def : Free_code = (.seq (.region 0 (Rg Try.f8.body 0) false) (.seq (.region 1 (Rg Try.f8.body 1) false) .ret)) := rfl
theorem Free_body : Try.f8.body = some Free_code := by kernel_rfl
theorem Free_fn : Try.prog.funcs[8]? = some Try.f8 := Try.func8
theorem Free_bd : Try.f8.body.isSome = true := by rw [Free_body]; rfl
theorem Free_nm : (Try.f8.name == "runtime.NumGoroutine") = false := by kernel_rfl
theorem Free_tmps : Try.f8.ntmps = 6 := by kernel_rfl
theorem Free_res : Try.f8.results = #[Go.ResultVar.tmp 2] := by kernel_rfl
theorem Free_0 : (Rg Try.f8.body 0).toList.map view = [(some 2, Go.Op.assign (Go.Operand.const (Go.Value.pointer none)), none)] := by kernel_rfl
theorem Free_1 : (Rg Try.f8.body 1).toList.map view = [(some 3, Go.Op.move (Go.Operand.tmp 0), none), (some 4, Go.Op.build 62 #[(1, Go.Operand.tmp 3)], none), (some 5, Go.Op.box 62 (Go.Operand.tmp 4), none), (some 2, Go.Op.assign (Go.Operand.tmp 5), none)] := by kernel_rfl
noncomputable def Same_L1 : Code := (.seq (.seq (.region 9 (Rg Try.f18.body 8) false) (.cond (Go.Operand.tmp 35) .skip (.exit 2))) (.seq (.block 3 (.seq (.region 11 (Rg Try.f18.body 9) true) (.cond (Go.Operand.tmp 52) (.seq (.region 12 (Rg Try.f18.body 10) false) .ret) .skip))) (.region 10 (Rg Try.f18.body 11) false)))
theorem Same_L1_def : Same_L1 = (.seq (.seq (.region 9 (Rg Try.f18.body 8) false) (.cond (Go.Operand.tmp 35) .skip (.exit 2))) (.seq (.block 3 (.seq (.region 11 (Rg Try.f18.body 9) true) (.cond (Go.Operand.tmp 52) (.seq (.region 12 (Rg Try.f18.body 10) false) .ret) .skip))) (.region 10 (Rg Try.f18.body 11) false))) := rfl
noncomputable def Same_L0 : Code := (.seq (.seq (.region 4 (Rg Try.f18.body 4) false) (.cond (Go.Operand.tmp 15) .skip (.exit 0))) (.seq (.block 1 (.seq (.seq (.region 6 (Rg Try.f18.body 5) true) (.cond (Go.Operand.tmp 28) (.seq (.region 7 (Rg Try.f18.body 6) false) .ret) .skip)) (.seq (.region 8 (Rg Try.f18.body 7) false) (.block 2 (.loop Same_L1))))) (.region 5 (Rg Try.f18.body 12) false)))
theorem Same_L0_def : Same_L0 = (.seq (.seq (.region 4 (Rg Try.f18.body 4) false) (.cond (Go.Operand.tmp 15) .skip (.exit 0))) (.seq (.block 1 (.seq (.seq (.region 6 (Rg Try.f18.body 5) true) (.cond (Go.Operand.tmp 28) (.seq (.region 7 (Rg Try.f18.body 6) false) .ret) .skip)) (.seq (.region 8 (Rg Try.f18.body 7) false) (.block 2 (.loop Same_L1))))) (.region 5 (Rg Try.f18.body 12) false))) := rfl
noncomputable def Same_code : Code := (.seq (.region 0 (Rg Try.f18.body 0) false) (.seq (.seq (.region 1 (Rg Try.f18.body 1) false) (.cond (Go.Operand.tmp 11) (.seq (.region 2 (Rg Try.f18.body 2) false) .ret) .skip)) (.seq (.seq (.region 3 (Rg Try.f18.body 3) false) (.block 0 (.loop Same_L0))) (.seq (.region 13 (Rg Try.f18.body 13) false) .ret))))
theorem Same_code_def : Same_code = (.seq (.region 0 (Rg Try.f18.body 0) false) (.seq (.seq (.region 1 (Rg Try.f18.body 1) false) (.cond (Go.Operand.tmp 11) (.seq (.region 2 (Rg Try.f18.body 2) false) .ret) .skip)) (.seq (.seq (.region 3 (Rg Try.f18.body 3) false) (.block 0 (.loop Same_L0))) (.seq (.region 13 (Rg Try.f18.body 13) false) .ret)))) := rfl
theorem Same_body : Try.f18.body = some Same_code := by kernel_rfl
theorem Same_fn : Try.prog.funcs[18]? = some Try.f18 := Try.func18
theorem Same_bd : Try.f18.body.isSome = true := by rw [Same_body]; rfl
theorem Same_nm : (Try.f18.name == "runtime.NumGoroutine") = false := by kernel_rfl
theorem Same_tmps : Try.f18.ntmps = 53 := by kernel_rfl
theorem Same_res : Try.f18.results = #[Go.ResultVar.tmp 4] := by kernel_rfl
theorem Same_0 : (Rg Try.f18.body 0).toList.map view = [(some 4, Go.Op.assign (Go.Operand.const (Go.Value.bool false)), none)] := by kernel_rfl
theorem Same_1 : (Rg Try.f18.body 1).toList.map view = [(some 7, Go.Op.move (Go.Operand.tmp 0), none), (some 8, Go.Op.call { callee := Go.Callee.builtin Go.Builtin.len, args := #[Go.Operand.tmp 7], argTypes := #[35] }, none), (some 9, Go.Op.move (Go.Operand.tmp 1), none), (some 10, Go.Op.call { callee := Go.Callee.builtin Go.Builtin.len, args := #[Go.Operand.tmp 9], argTypes := #[35] }, none), (some 11, Go.Op.binOp Go.BinOp.neq 3 (Go.Operand.tmp 8) (Go.Operand.tmp 10) 3, none)] := by kernel_rfl
theorem Same_2 : (Rg Try.f18.body 2).toList.map view = [(some 4, Go.Op.assign (Go.Operand.const (Go.Value.bool false)), none)] := by kernel_rfl
theorem Same_3 : (Rg Try.f18.body 3).toList.map view = [(some 5, Go.Op.assign (Go.Operand.const (Go.Value.int Go.IntKind.i64 0)), none)] := by kernel_rfl
theorem Same_4 : (Rg Try.f18.body 4).toList.map view = [(some 12, Go.Op.move (Go.Operand.tmp 5), none), (some 13, Go.Op.move (Go.Operand.tmp 0), none), (some 14, Go.Op.call { callee := Go.Callee.builtin Go.Builtin.len, args := #[Go.Operand.tmp 13], argTypes := #[35] }, none), (some 15, Go.Op.binOp Go.BinOp.lss 3 (Go.Operand.tmp 12) (Go.Operand.tmp 14) 3, none)] := by kernel_rfl
theorem Same_5 : (Rg Try.f18.body 5).toList.map view = [(some 18, Go.Op.move (Go.Operand.tmp 0), none), (some 19, Go.Op.move (Go.Operand.tmp 5), none), (some 20, Go.Op.indexAddr 35 (Go.Operand.tmp 18) (Go.Operand.tmp 19), none), (some 21, Go.Op.load 48 (Go.Operand.tmp 20), none), (some 22, Go.Op.call { callee := Go.Callee.builtin Go.Builtin.len, args := #[Go.Operand.tmp 21], argTypes := #[48] }, none), (some 23, Go.Op.move (Go.Operand.tmp 1), none), (some 24, Go.Op.move (Go.Operand.tmp 5), none), (some 25, Go.Op.indexAddr 35 (Go.Operand.tmp 23) (Go.Operand.tmp 24), none), (some 26, Go.Op.load 48 (Go.Operand.tmp 25), none), (some 27, Go.Op.call { callee := Go.Callee.builtin Go.Builtin.len, args := #[Go.Operand.tmp 26], argTypes := #[48] }, none), (some 28, Go.Op.binOp Go.BinOp.neq 3 (Go.Operand.tmp 22) (Go.Operand.tmp 27) 3, none)] := by kernel_rfl
theorem Same_6 : (Rg Try.f18.body 6).toList.map view = [(some 4, Go.Op.assign (Go.Operand.const (Go.Value.bool false)), none)] := by kernel_rfl
theorem Same_7 : (Rg Try.f18.body 7).toList.map view = [(some 6, Go.Op.assign (Go.Operand.const (Go.Value.int Go.IntKind.i64 0)), none)] := by kernel_rfl
theorem Same_8 : (Rg Try.f18.body 8).toList.map view = [(some 29, Go.Op.move (Go.Operand.tmp 6), none), (some 30, Go.Op.move (Go.Operand.tmp 0), none), (some 31, Go.Op.move (Go.Operand.tmp 5), none), (some 32, Go.Op.indexAddr 35 (Go.Operand.tmp 30) (Go.Operand.tmp 31), none), (some 33, Go.Op.load 48 (Go.Operand.tmp 32), none), (some 34, Go.Op.call { callee := Go.Callee.builtin Go.Builtin.len, args := #[Go.Operand.tmp 33], argTypes := #[48] }, none), (some 35, Go.Op.binOp Go.BinOp.lss 3 (Go.Operand.tmp 29) (Go.Operand.tmp 34) 3, none)] := by kernel_rfl
theorem Same_9 : (Rg Try.f18.body 9).toList.map view = [(some 38, Go.Op.move (Go.Operand.tmp 0), none), (some 39, Go.Op.move (Go.Operand.tmp 5), none), (some 40, Go.Op.indexAddr 35 (Go.Operand.tmp 38) (Go.Operand.tmp 39), none), (some 41, Go.Op.load 48 (Go.Operand.tmp 40), none), (some 42, Go.Op.move (Go.Operand.tmp 6), none), (some 43, Go.Op.indexAddr 48 (Go.Operand.tmp 41) (Go.Operand.tmp 42), none), (some 44, Go.Op.load 53 (Go.Operand.tmp 43), none), (some 45, Go.Op.move (Go.Operand.tmp 1), none), (some 46, Go.Op.move (Go.Operand.tmp 5), none), (some 47, Go.Op.indexAddr 35 (Go.Operand.tmp 45) (Go.Operand.tmp 46), none), (some 48, Go.Op.load 48 (Go.Operand.tmp 47), none), (some 49, Go.Op.move (Go.Operand.tmp 6), none), (some 50, Go.Op.indexAddr 48 (Go.Operand.tmp 48) (Go.Operand.tmp 49), none), (some 51, Go.Op.load 53 (Go.Operand.tmp 50), none), (some 52, Go.Op.binOp Go.BinOp.neq 53 (Go.Operand.tmp 44) (Go.Operand.tmp 51) 53, none)] := by kernel_rfl
theorem Same_10 : (Rg Try.f18.body 10).toList.map view = [(some 4, Go.Op.assign (Go.Operand.const (Go.Value.bool false)), none)] := by kernel_rfl
theorem Same_11 : (Rg Try.f18.body 11).toList.map view = [(some 36, Go.Op.move (Go.Operand.tmp 6), none), (some 37, Go.Op.binOp Go.BinOp.add 3 (Go.Operand.tmp 36) (Go.Operand.const (Go.Value.int Go.IntKind.i64 1)) 3, none), (some 6, Go.Op.assign (Go.Operand.tmp 37), none)] := by kernel_rfl
theorem Same_12 : (Rg Try.f18.body 12).toList.map view = [(some 16, Go.Op.move (Go.Operand.tmp 5), none), (some 17, Go.Op.binOp Go.BinOp.add 3 (Go.Operand.tmp 16) (Go.Operand.const (Go.Value.int Go.IntKind.i64 1)) 3, none), (some 5, Go.Op.assign (Go.Operand.tmp 17), none)] := by kernel_rfl
theorem Same_13 : (Rg Try.f18.body 13).toList.map view = [(some 4, Go.Op.assign (Go.Operand.const (Go.Value.bool true)), none)] := by kernel_rfl
noncomputable def awake_code : Code := (.seq (.region 0 (Rg Try.f6.body 0) false) (.seq (.region 1 (Rg Try.f6.body 1) false) (.seq (.region 2 (Rg Try.f6.body 2) false) (.seq (.region 3 (Rg Try.f6.body 3) false) .ret))))
theorem awake_code_def : awake_code = (.seq (.region 0 (Rg Try.f6.body 0) false) (.seq (.region 1 (Rg Try.f6.body 1) false) (.seq (.region 2 (Rg Try.f6.body 2) false) (.seq (.region 3 (Rg Try.f6.body 3) false) .ret)))) := rfl
theorem awake_body : Try.f6.body = some awake_code := by kernel_rfl
theorem awake_fn : Try.prog.funcs[6]? = some Try.f6 := Try.func6
theorem awake_bd : Try.f6.body.isSome = true := by rw [awake_body]; rfl
theorem awake_nm : (Try.f6.name == "runtime.NumGoroutine") = false := by kernel_rfl
theorem awake_tmps : Try.f6.ntmps = 28 := by kernel_rfl
theorem awake_res : Try.f6.results = #[Go.ResultVar.tmp 0] := by kernel_rfl
theorem awake_0 : (Rg Try.f6.body 0).toList.map view = [(some 0, Go.Op.assign (Go.Operand.const (Go.Value.bool false)), none)] := by kernel_rfl
theorem awake_1 : (Rg Try.f6.body 1).toList.map view = [(some 4, Go.Op.call { callee := Go.Callee.value (Go.Operand.func 12), args := #[Go.Operand.const (Go.Value.slice none 0 0)], argTypes := #[22] }, none), (some 1, Go.Op.assign (Go.Operand.tmp 4), none)] := by kernel_rfl
theorem awake_2 : (Rg Try.f6.body 2).toList.map view = [(some 6, Go.Op.move (Go.Operand.tmp 1), none), (some 7, Go.Op.build 50 #[(0, Go.Operand.const (Go.Value.int Go.IntKind.i64 1)), (1, Go.Operand.const (Go.Value.int Go.IntKind.i64 5))], none), (some 8, Go.Op.build 50 #[(0, Go.Operand.const (Go.Value.int Go.IntKind.i64 2))], none), (some 9, Go.Op.buildSlice 47 2 #[(0, Go.Operand.tmp 7), (1, Go.Operand.tmp 8)], none), (some 10, Go.Op.build 50 #[(0, Go.Operand.const (Go.Value.int Go.IntKind.i64 1)), (1, Go.Operand.const (Go.Value.int Go.IntKind.i64 (-7)))], none), (some 11, Go.Op.buildSlice 47 1 #[(0, Go.Operand.tmp 10)], none), (some 12, Go.Op.buildSlice 32 2 #[(0, Go.Operand.tmp 9), (1, Go.Operand.tmp 11)], none), (some 13, Go.Op.call { callee := Go.Callee.value (Go.Operand.func 13), args := #[Go.Operand.tmp 6, Go.Operand.const (Go.Value.int Go.IntKind.i64 2), Go.Operand.tmp 12], argTypes := #[33, 3, 32] }, none), (some 5, Go.Op.move (Go.Operand.tmp 13), none), (some 14, Go.Op.extract (Go.Operand.tmp 5) 0, none), (some 15, Go.Op.extract (Go.Operand.tmp 5) 1, none), (some 2, Go.Op.assign (Go.Operand.tmp 14), none), (some 3, Go.Op.assign (Go.Operand.tmp 15), none)] := by kernel_rfl
theorem awake_3 : (Rg Try.f6.body 3).toList.map view = [(some 16, Go.Op.move (Go.Operand.tmp 3), none), (some 17, Go.Op.binOp Go.BinOp.eql 36 (Go.Operand.tmp 16) (Go.Operand.const (Go.Value.int Go.IntKind.i64 0)) 36, none), (some 18, Go.Op.move (Go.Operand.tmp 17), none), (some 19, Go.Op.move (Go.Operand.tmp 2), some (2, true)), (some 20, Go.Op.build 53 #[], some (2, true)), (some 21, Go.Op.build 53 #[(1, Go.Operand.const (Go.Value.int Go.IntKind.i64 (-2)))], some (2, true)), (some 22, Go.Op.buildSlice 48 2 #[(0, Go.Operand.tmp 20), (1, Go.Operand.tmp 21)], some (2, true)), (some 23, Go.Op.build 53 #[], some (2, true)), (some 24, Go.Op.buildSlice 48 1 #[(0, Go.Operand.tmp 23)], some (2, true)), (some 25, Go.Op.buildSlice 35 2 #[(0, Go.Operand.tmp 22), (1, Go.Operand.tmp 24)], some (2, true)), (some 26, Go.Op.call { callee := Go.Callee.value (Go.Operand.func 18), args := #[Go.Operand.tmp 19, Go.Operand.tmp 25], argTypes := #[35, 35] }, some (2, true)), (some 27, Go.Op.pick (Go.Operand.tmp 18) (Go.Operand.tmp 26) (Go.Operand.const (Go.Value.bool false)), none), (some 0, Go.Op.assign (Go.Operand.tmp 27), none)] := by kernel_rfl
noncomputable def wrapped_code : Code := (.seq (.region 0 (Rg Try.f10.body 0) false) (.seq (.region 1 (Rg Try.f10.body 1) false) (.seq (.seq (.region 2 (Rg Try.f10.body 2) false) (.cond (Go.Operand.tmp 6) (.region 3 (Rg Try.f10.body 3) false) .skip)) (.seq (.seq (.region 4 (Rg Try.f10.body 4) false) (.cond (Go.Operand.tmp 10) (.region 5 (Rg Try.f10.body 5) false) .skip)) (.seq (.region 6 (Rg Try.f10.body 6) false) .ret)))))
theorem wrapped_code_def : wrapped_code = (.seq (.region 0 (Rg Try.f10.body 0) false) (.seq (.region 1 (Rg Try.f10.body 1) false) (.seq (.seq (.region 2 (Rg Try.f10.body 2) false) (.cond (Go.Operand.tmp 6) (.region 3 (Rg Try.f10.body 3) false) .skip)) (.seq (.seq (.region 4 (Rg Try.f10.body 4) false) (.cond (Go.Operand.tmp 10) (.region 5 (Rg Try.f10.body 5) false) .skip)) (.seq (.region 6 (Rg Try.f10.body 6) false) .ret))))) := rfl
theorem wrapped_body : Try.f10.body = some wrapped_code := by kernel_rfl
theorem wrapped_fn : Try.prog.funcs[10]? = some Try.f10 := Try.func10
theorem wrapped_bd : Try.f10.body.isSome = true := by rw [wrapped_body]; rfl
theorem wrapped_nm : (Try.f10.name == "runtime.NumGoroutine") = false := by kernel_rfl
theorem wrapped_tmps : Try.f10.ntmps = 14 := by kernel_rfl
theorem wrapped_res : Try.f10.results = #[Go.ResultVar.tmp 2] := by kernel_rfl
theorem wrapped_0 : (Rg Try.f10.body 0).toList.map view = [(some 2, Go.Op.assign (Go.Operand.const (Go.Value.int Go.IntKind.i64 0)), none)] := by kernel_rfl
theorem wrapped_1 : (Rg Try.f10.body 1).toList.map view = [(some 3, Go.Op.move (Go.Operand.tmp 0), none), (some 4, Go.Op.binOp Go.BinOp.rem 3 (Go.Operand.tmp 3) (Go.Operand.const (Go.Value.int Go.IntKind.i64 4294967296)) 3, none), (some 0, Go.Op.assign (Go.Operand.tmp 4), none)] := by kernel_rfl
theorem wrapped_2 : (Rg Try.f10.body 2).toList.map view = [(some 5, Go.Op.move (Go.Operand.tmp 0), none), (some 6, Go.Op.binOp Go.BinOp.lss 3 (Go.Operand.tmp 5) (Go.Operand.const (Go.Value.int Go.IntKind.i64 0)) 3, none)] := by kernel_rfl
theorem wrapped_3 : (Rg Try.f10.body 3).toList.map view = [(some 7, Go.Op.move (Go.Operand.tmp 0), none), (some 8, Go.Op.binOp Go.BinOp.add 3 (Go.Operand.tmp 7) (Go.Operand.const (Go.Value.int Go.IntKind.i64 4294967296)) 3, none), (some 0, Go.Op.assign (Go.Operand.tmp 8), none)] := by kernel_rfl
theorem wrapped_4 : (Rg Try.f10.body 4).toList.map view = [(some 9, Go.Op.move (Go.Operand.tmp 0), none), (some 10, Go.Op.binOp Go.BinOp.geq 3 (Go.Operand.tmp 9) (Go.Operand.const (Go.Value.int Go.IntKind.i64 2147483648)) 3, none)] := by kernel_rfl
theorem wrapped_5 : (Rg Try.f10.body 5).toList.map view = [(some 11, Go.Op.move (Go.Operand.tmp 0), none), (some 12, Go.Op.binOp Go.BinOp.sub 3 (Go.Operand.tmp 11) (Go.Operand.const (Go.Value.int Go.IntKind.i64 4294967296)) 3, none), (some 0, Go.Op.assign (Go.Operand.tmp 12), none)] := by kernel_rfl
theorem wrapped_6 : (Rg Try.f10.body 6).toList.map view = [(some 13, Go.Op.move (Go.Operand.tmp 0), none), (some 2, Go.Op.assign (Go.Operand.tmp 13), none)] := by kernel_rfl
noncomputable def Alone_L1 : Code := (.seq (.seq (.region 18 (Rg Try.f3.body 17) false) (.cond (Go.Operand.tmp 75) .skip (.exit 2))) (.seq (.block 3 (.region 20 (Rg Try.f3.body 18) false)) (.region 19 (Rg Try.f3.body 19) false)))
theorem Alone_L1_def : Alone_L1 = (.seq (.seq (.region 18 (Rg Try.f3.body 17) false) (.cond (Go.Operand.tmp 75) .skip (.exit 2))) (.seq (.block 3 (.region 20 (Rg Try.f3.body 18) false)) (.region 19 (Rg Try.f3.body 19) false))) := rfl
noncomputable def Alone_L0 : Code := (.seq (.seq (.region 8 (Rg Try.f3.body 8) false) (.cond (Go.Operand.tmp 34) .skip (.exit 0))) (.seq (.block 1 (.seq (.region 10 (Rg Try.f3.body 9) false) (.seq (.seq (.region 11 (Rg Try.f3.body 10) false) (.cond (Go.Operand.tmp 40) (.region 12 (Rg Try.f3.body 11) false) .skip)) (.seq (.region 13 (Rg Try.f3.body 12) false) (.seq (.region 14 (Rg Try.f3.body 13) false) (.seq (.region 15 (Rg Try.f3.body 14) true) (.seq (.region 16 (Rg Try.f3.body 15) false) (.seq (.seq (.region 17 (Rg Try.f3.body 16) false) (.block 2 (.loop Alone_L1))) (.seq (.region 21 (Rg Try.f3.body 20) false) (.seq (.region 22 (Rg Try.f3.body 21) false) (.cond (Go.Operand.tmp 89) (.seq (.region 23 (Rg Try.f3.body 22) false) .ret) .skip))))))))))) (.region 9 (Rg Try.f3.body 23) false)))
theorem Alone_L0_def : Alone_L0 = (.seq (.seq (.region 8 (Rg Try.f3.body 8) false) (.cond (Go.Operand.tmp 34) .skip (.exit 0))) (.seq (.block 1 (.seq (.region 10 (Rg Try.f3.body 9) false) (.seq (.seq (.region 11 (Rg Try.f3.body 10) false) (.cond (Go.Operand.tmp 40) (.region 12 (Rg Try.f3.body 11) false) .skip)) (.seq (.region 13 (Rg Try.f3.body 12) false) (.seq (.region 14 (Rg Try.f3.body 13) false) (.seq (.region 15 (Rg Try.f3.body 14) true) (.seq (.region 16 (Rg Try.f3.body 15) false) (.seq (.seq (.region 17 (Rg Try.f3.body 16) false) (.block 2 (.loop Alone_L1))) (.seq (.region 21 (Rg Try.f3.body 20) false) (.seq (.region 22 (Rg Try.f3.body 21) false) (.cond (Go.Operand.tmp 89) (.seq (.region 23 (Rg Try.f3.body 22) false) .ret) .skip))))))))))) (.region 9 (Rg Try.f3.body 23) false))) := rfl
noncomputable def Alone_code : Code := (.seq (.region 0 (Rg Try.f3.body 0) false) (.seq (.region 1 (Rg Try.f3.body 1) false) (.seq (.region 2 (Rg Try.f3.body 2) false) (.seq (.seq (.region 3 (Rg Try.f3.body 3) false) (.cond (Go.Operand.tmp 25) (.seq (.region 4 (Rg Try.f3.body 4) false) .ret) .skip)) (.seq (.region 5 (Rg Try.f3.body 5) false) (.seq (.region 6 (Rg Try.f3.body 6) false) (.seq (.seq (.region 7 (Rg Try.f3.body 7) false) (.block 0 (.loop Alone_L0))) (.seq (.region 24 (Rg Try.f3.body 24) false) .ret))))))))
theorem Alone_code_def : Alone_code = (.seq (.region 0 (Rg Try.f3.body 0) false) (.seq (.region 1 (Rg Try.f3.body 1) false) (.seq (.region 2 (Rg Try.f3.body 2) false) (.seq (.seq (.region 3 (Rg Try.f3.body 3) false) (.cond (Go.Operand.tmp 25) (.seq (.region 4 (Rg Try.f3.body 4) false) .ret) .skip)) (.seq (.region 5 (Rg Try.f3.body 5) false) (.seq (.region 6 (Rg Try.f3.body 6) false) (.seq (.seq (.region 7 (Rg Try.f3.body 7) false) (.block 0 (.loop Alone_L0))) (.seq (.region 24 (Rg Try.f3.body 24) false) .ret)))))))) := rfl
theorem Alone_body : Try.f3.body = some Alone_code := by kernel_rfl
theorem Alone_fn : Try.prog.funcs[3]? = some Try.f3 := Try.func3
theorem Alone_tmps : Try.f3.ntmps = 90 := by kernel_rfl
theorem Alone_res : Try.f3.results = #[Go.ResultVar.tmp 6] := by kernel_rfl
theorem Alone_0 : (Rg Try.f3.body 0).toList.map view = [(some 6, Go.Op.assign (Go.Operand.const (Go.Value.bool false)), none)] := by kernel_rfl
theorem Alone_1 : (Rg Try.f3.body 1).toList.map view = [(some 17, Go.Op.call { callee := Go.Callee.value (Go.Operand.func 6), args := #[], argTypes := #[] }, none), (some 7, Go.Op.assign (Go.Operand.tmp 17), none)] := by kernel_rfl
theorem Alone_2 : (Rg Try.f3.body 2).toList.map view = [(some 18, Go.Op.move (Go.Operand.tmp 0), none), (some 19, Go.Op.call { callee := Go.Callee.value (Go.Operand.func 7), args := #[Go.Operand.const (Go.Value.pointer none), Go.Operand.tmp 18], argTypes := #[33, 3] }, none), (some 8, Go.Op.assign (Go.Operand.tmp 19), none)] := by kernel_rfl
theorem Alone_3 : (Rg Try.f3.body 3).toList.map view = [(some 20, Go.Op.move (Go.Operand.tmp 7), none), (some 21, Go.Op.unOp Go.UnOp.not 4 (Go.Operand.tmp 20), none), (some 22, Go.Op.move (Go.Operand.tmp 21), none), (some 23, Go.Op.move (Go.Operand.tmp 8), some (2, false)), (some 24, Go.Op.binOp Go.BinOp.eql 24 (Go.Operand.tmp 23) (Go.Operand.const (Go.Value.pointer none)) 24, some (2, false)), (some 25, Go.Op.pick (Go.Operand.tmp 22) (Go.Operand.const (Go.Value.bool true)) (Go.Operand.tmp 24), none)] := by kernel_rfl
theorem Alone_5 : (Rg Try.f3.body 5).toList.map view = [(some 26, Go.Op.move (Go.Operand.tmp 0), none), (some 27, Go.Op.call { callee := Go.Callee.builtin Go.Builtin.max, args := #[Go.Operand.tmp 26, Go.Operand.const (Go.Value.int Go.IntKind.i64 1)], argTypes := #[3, 3] }, none), (some 28, Go.Op.call { callee := Go.Callee.builtin Go.Builtin.min, args := #[Go.Operand.tmp 27, Go.Operand.const (Go.Value.int Go.IntKind.i64 16)], argTypes := #[3, 3] }, none), (some 9, Go.Op.assign (Go.Operand.tmp 28), none)] := by kernel_rfl
theorem Alone_6 : (Rg Try.f3.body 6).toList.map view = [(some 29, Go.Op.move (Go.Operand.tmp 9), none), (some 30, Go.Op.makeSlice 22 (Go.Operand.tmp 29) (Go.Operand.tmp 29), none), (some 10, Go.Op.assign (Go.Operand.tmp 30), none)] := by kernel_rfl
theorem Alone_7 : (Rg Try.f3.body 7).toList.map view = [(some 11, Go.Op.assign (Go.Operand.const (Go.Value.int Go.IntKind.i64 0)), none)] := by kernel_rfl
theorem Alone_8 : (Rg Try.f3.body 8).toList.map view = [(some 31, Go.Op.move (Go.Operand.tmp 11), none), (some 32, Go.Op.move (Go.Operand.tmp 1), none), (some 33, Go.Op.call { callee := Go.Callee.builtin Go.Builtin.len, args := #[Go.Operand.tmp 32], argTypes := #[22] }, none), (some 34, Go.Op.binOp Go.BinOp.lss 3 (Go.Operand.tmp 31) (Go.Operand.tmp 33) 3, none)] := by kernel_rfl
theorem Alone_9 : (Rg Try.f3.body 9).toList.map view = [(some 12, Go.Op.assign (Go.Operand.const (Go.Value.int Go.IntKind.i64 0)), none)] := by kernel_rfl
theorem Alone_10 : (Rg Try.f3.body 10).toList.map view = [(some 37, Go.Op.move (Go.Operand.tmp 11), none), (some 38, Go.Op.move (Go.Operand.tmp 2), none), (some 39, Go.Op.call { callee := Go.Callee.builtin Go.Builtin.len, args := #[Go.Operand.tmp 38], argTypes := #[22] }, none), (some 40, Go.Op.binOp Go.BinOp.lss 3 (Go.Operand.tmp 37) (Go.Operand.tmp 39) 3, none)] := by kernel_rfl
theorem Alone_11 : (Rg Try.f3.body 11).toList.map view = [(some 41, Go.Op.move (Go.Operand.tmp 2), none), (some 42, Go.Op.move (Go.Operand.tmp 11), none), (some 43, Go.Op.indexAddr 22 (Go.Operand.tmp 41) (Go.Operand.tmp 42), none), (some 44, Go.Op.load 3 (Go.Operand.tmp 43), none), (some 45, Go.Op.binOp Go.BinOp.and 3 (Go.Operand.tmp 44) (Go.Operand.const (Go.Value.int Go.IntKind.i64 255)) 3, none), (some 12, Go.Op.assign (Go.Operand.tmp 45), none)] := by kernel_rfl
theorem Alone_12 : (Rg Try.f3.body 12).toList.map view = [(some 46, Go.Op.move (Go.Operand.tmp 12), none), (some 47, Go.Op.call { callee := Go.Callee.value (Go.Operand.func 8), args := #[Go.Operand.tmp 46], argTypes := #[3] }, none), (some 13, Go.Op.assign (Go.Operand.tmp 47), none)] := by kernel_rfl
theorem Alone_13 : (Rg Try.f3.body 13).toList.map view = [(some 48, Go.Op.move (Go.Operand.tmp 8), none), (some 49, Go.Op.move (Go.Operand.tmp 13), none), (some 50, Go.Op.move (Go.Operand.tmp 1), none), (some 51, Go.Op.move (Go.Operand.tmp 11), none), (some 52, Go.Op.indexAddr 22 (Go.Operand.tmp 50) (Go.Operand.tmp 51), none), (some 53, Go.Op.load 3 (Go.Operand.tmp 52), none), (some 54, Go.Op.call { callee := Go.Callee.value (Go.Operand.func 9), args := #[Go.Operand.tmp 48, Go.Operand.tmp 49, Go.Operand.tmp 53], argTypes := #[24, 26, 3] }, none)] := by kernel_rfl
theorem Alone_14 : (Rg Try.f3.body 14).toList.map view = [(some 55, Go.Op.move (Go.Operand.tmp 10), none), (some 56, Go.Op.move (Go.Operand.tmp 12), none), (some 57, Go.Op.move (Go.Operand.tmp 9), none), (some 58, Go.Op.binOp Go.BinOp.rem 3 (Go.Operand.tmp 56) (Go.Operand.tmp 57) 3, none), (some 59, Go.Op.move (Go.Operand.tmp 10), none), (some 60, Go.Op.move (Go.Operand.tmp 12), none), (some 61, Go.Op.move (Go.Operand.tmp 9), none), (some 62, Go.Op.binOp Go.BinOp.rem 3 (Go.Operand.tmp 60) (Go.Operand.tmp 61) 3, none), (some 63, Go.Op.indexAddr 22 (Go.Operand.tmp 59) (Go.Operand.tmp 62), none), (some 64, Go.Op.load 3 (Go.Operand.tmp 63), none), (some 65, Go.Op.move (Go.Operand.tmp 1), none), (some 66, Go.Op.move (Go.Operand.tmp 11), none), (some 67, Go.Op.indexAddr 22 (Go.Operand.tmp 65) (Go.Operand.tmp 66), none), (some 68, Go.Op.load 3 (Go.Operand.tmp 67), none), (some 69, Go.Op.binOp Go.BinOp.rem 3 (Go.Operand.tmp 68) (Go.Operand.const (Go.Value.int Go.IntKind.i64 4294967296)) 3, none), (some 70, Go.Op.binOp Go.BinOp.add 3 (Go.Operand.tmp 64) (Go.Operand.tmp 69) 3, none), (some 71, Go.Op.call { callee := Go.Callee.value (Go.Operand.func 10), args := #[Go.Operand.tmp 70], argTypes := #[3] }, none), (some 72, Go.Op.indexAddr 22 (Go.Operand.tmp 55) (Go.Operand.tmp 58), none), (none, Go.Op.store 3 (Go.Operand.tmp 72) (Go.Operand.tmp 71), none)] := by kernel_rfl
theorem Alone_15 : (Rg Try.f3.body 15).toList.map view = [(some 14, Go.Op.assign (Go.Operand.const (Go.Value.int Go.IntKind.i64 0)), none)] := by kernel_rfl
theorem Alone_16 : (Rg Try.f3.body 16).toList.map view = [(some 15, Go.Op.assign (Go.Operand.const (Go.Value.int Go.IntKind.i64 0)), none)] := by kernel_rfl
theorem Alone_17 : (Rg Try.f3.body 17).toList.map view = [(some 73, Go.Op.move (Go.Operand.tmp 15), none), (some 74, Go.Op.move (Go.Operand.tmp 9), none), (some 75, Go.Op.binOp Go.BinOp.lss 3 (Go.Operand.tmp 73) (Go.Operand.tmp 74) 3, none)] := by kernel_rfl
theorem Alone_18 : (Rg Try.f3.body 18).toList.map view = [(some 78, Go.Op.move (Go.Operand.tmp 14), none), (some 79, Go.Op.move (Go.Operand.tmp 10), none), (some 80, Go.Op.move (Go.Operand.tmp 15), none), (some 81, Go.Op.indexAddr 22 (Go.Operand.tmp 79) (Go.Operand.tmp 80), none), (some 82, Go.Op.load 3 (Go.Operand.tmp 81), none), (some 83, Go.Op.binOp Go.BinOp.add 3 (Go.Operand.tmp 78) (Go.Operand.tmp 82) 3, none), (some 14, Go.Op.assign (Go.Operand.tmp 83), none)] := by kernel_rfl
theorem Alone_19 : (Rg Try.f3.body 19).toList.map view = [(some 76, Go.Op.move (Go.Operand.tmp 15), none), (some 77, Go.Op.binOp Go.BinOp.add 3 (Go.Operand.tmp 76) (Go.Operand.const (Go.Value.int Go.IntKind.i64 1)) 3, none), (some 15, Go.Op.assign (Go.Operand.tmp 77), none)] := by kernel_rfl
theorem Alone_20 : (Rg Try.f3.body 20).toList.map view = [(some 84, Go.Op.move (Go.Operand.tmp 8), none), (some 85, Go.Op.move (Go.Operand.tmp 13), none), (some 86, Go.Op.call { callee := Go.Callee.value (Go.Operand.func 11), args := #[Go.Operand.tmp 84, Go.Operand.tmp 85], argTypes := #[24, 26] }, none), (some 16, Go.Op.assign (Go.Operand.tmp 86), none)] := by kernel_rfl
theorem Alone_21 : (Rg Try.f3.body 21).toList.map view = [(some 87, Go.Op.move (Go.Operand.tmp 16), none), (some 88, Go.Op.move (Go.Operand.tmp 14), none), (some 89, Go.Op.binOp Go.BinOp.neq 3 (Go.Operand.tmp 87) (Go.Operand.tmp 88) 3, none)] := by kernel_rfl
theorem Alone_23 : (Rg Try.f3.body 23).toList.map view = [(some 35, Go.Op.move (Go.Operand.tmp 11), none), (some 36, Go.Op.binOp Go.BinOp.add 3 (Go.Operand.tmp 35) (Go.Operand.const (Go.Value.int Go.IntKind.i64 1)) 3, none), (some 11, Go.Op.assign (Go.Operand.tmp 36), none)] := by kernel_rfl
theorem Alone_24 : (Rg Try.f3.body 24).toList.map view = [(some 6, Go.Op.assign (Go.Operand.const (Go.Value.bool true)), none)] := by kernel_rfl
end Go.Proofs.Ytlnjmheocfbimaa

/- Infrastructure U: a region whose order is drawn, by an invariant over what is done. -/
namespace Go.Proofs.Ytlnjmheocfbimaa
open Go Go.Conc
theorem draw_inv {σ : Type} (X : σ → Goroutine → World → Prop) {ops : Array Oper} {b : Frame} {k : List Item} {cs : List Frame} (hdown : ((List.range ops.size).all fun i => (bdeps ops i).all (· < i)) = true) (Inv : (Nat → Bool) → Act → σ → World → Prop)
    (hstep : ∀ done a s w i rest, Inv done a s w → i < ops.size → done i = false → (∀ j ∈ bdeps ops i, done j = true) → (∀ a' s' w', Inv (fun x => if x = i then true else done x) a' s' w' → X s' (G (b.at a' (.inRegion ops rest :: k)) cs) w') → X s (G (b.at a (.inRegion ops (i :: rest) :: k)) cs) w)
    (hend : ∀ done a s w, (∀ i, i < ops.size → done i = true) → Inv done a s w → X s (G (b.at a (.inRegion ops [] :: k)) cs) w) :
    ∀ (fuel t : Nat) (A : Array Bool) (a : Act) (s : σ) (w : World), A.size = ops.size → unl ops.size A ≤ fuel → Inv (fun x => A.getD x false) a s w → X s (G (b.at a (.inRegion ops (Region.linearise.go .any ops fuel t A []) :: k)) cs) w := by
  simp only [List.all_eq_true, List.mem_range, decide_eq_true_eq] at hdown
  intro fuel
  induction fuel with
  | zero =>
    intro t A a s w hA hu hI
    refine hend _ a s w (fun i hi => ?_) hI
    have h0 : unl ops.size A = 0 := by omega
    unfold unl at h0
    rw [List.countP_eq_zero] at h0
    simpa using h0 i (by simpa using hi)
  | succ fuel ih =>
    intro t A a s w hA hu hI
    rcases go_next (ops := ops) (fuel := fuel) (t := t) (listed := A) with ⟨hr, h⟩ | ⟨i, t', hr, h⟩
    · rw [h]
      refine hend _ a s w (fun i hi => ?_) hI
      have hall : ∀ n i, i ≤ n → i < ops.size → A.getD i false = true := by
        intro n
        induction n with
        | zero =>
          intro i hi hlt
          obtain rfl : i = 0 := by omega
          apply Classical.byContradiction
          intro hne
          have : 0 ∈ Region.ready .any ops A := (ready_iff hA).2 ⟨hlt, by simpa using hne, fun j hj => by have := hdown 0 hlt j hj; omega⟩
          rw [hr] at this; cases this
        | succ n ihn =>
          intro i hi hlt
          apply Classical.byContradiction
          intro hne
          have : i ∈ Region.ready .any ops A := (ready_iff hA).2 ⟨hlt, by simpa using hne, fun j hj => by
            have := hdown i hlt j hj
            exact ihn j (by omega) (by omega)⟩
          rw [hr] at this; cases this
      exact hall i i (Nat.le_refl _) hi
    · obtain ⟨hi, hni, hdeps⟩ := (ready_iff hA).1 hr
      rw [h]
      refine hstep _ a s w i _ hI hi hni hdeps fun a' s' w' hI' => ih t' _ a' s' w' (by simpa using hA) ?_ ?_
      · have : unl ops.size (A.setIfInBounds i true) < unl ops.size A := by
          unfold unl
          refine countP_lt _ i (fun x hx => ?_) (by simpa using hi) (by simp [hni]) (by simp [getD_set (show i < A.size by omega)])
          rw [getD_set (by omega)] at hx
          by_cases e : x = i
          · subst e; simp [hni]
          · rw [if_neg e] at hx; exact hx
        omega
      · have : (fun x => (A.setIfInBounds i true).getD x false) = fun x => if x = i then true else A.getD x false := funext fun x => getD_set (by omega)
        rw [this]; exact hI'
theorem unl_all (n : Nat) : unl n (Array.replicate n false) ≤ n := by unfold unl; exact Nat.le_trans List.countP_le_length (by simp)
theorem none_done (n x : Nat) : (Array.replicate n false).getD x false = false := by
  simp only [Array.getD_eq_getD_getElem?]
  by_cases h : x < n <;> simp [h]
end Go.Proofs.Ytlnjmheocfbimaa
