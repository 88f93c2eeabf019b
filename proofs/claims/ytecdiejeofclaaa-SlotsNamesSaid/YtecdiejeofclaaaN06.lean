/- SlotsNames returns true. -/
import Derived.Test.YtecdiejeofclaaaN05
import Derived.KernelRfl
import Derived.Laws.StructEq
import Derived.Below
import Derived.Test.YtecdiejeofclaaaRows
import Derived.Conc.LeavingOf
import Derived.Conc.Holds
import Derived.Carry
import Derived.ChangeSlices
import Derived.Deep.Slices
import Derived.Lib.SmallJoins
import Derived.RowKit
set_option linter.all false
/- slots.New. -/
namespace Go.Proofs.Ytecdiejeofclaaa
open Go Go.Conc
/-- With what a cell begins. -/
def slInit (N c : Nat) : Nat := if c = 0 then min N 1 else if c % 2 = 1 then (if (c - 1) / 2 + 1 = N then 0 else (c - 1) / 2 + 2) else 0
/-- Slots, so far as they are made. -/
structure SlotsIn (lo N : Nat) (v : World) (C : Nat) (lN lU : Value) (cb : Nat → Nat) (i d : Nat) : Prop where
  c : v.heap[C]? = some (.cells #[.pointer (some ⟨cb 0, 0, none⟩), lN, lU] 81 (0, 0))
  nx : v.ownsRow 0 77 1 lN (i + d) (cRow (fun j => cb (1 + 2 * j)) (i + d))
  us : v.ownsRow 0 77 1 lU i (cRow (fun j => cb (2 + 2 * j)) i)
  apart : ∀ b, lN.ownBlock = some b → lU.ownBlock ≠ some b
  lows : lo ≤ C ∧ (∀ b, lN.ownBlock = some b → lo ≤ b) ∧ ∀ b, lU.ownBlock = some b → lo ≤ b
  cells : ∀ c, c < 2 * i + 1 + d → lo ≤ cb c ∧ v.heap[cb c]? = some (.cells #[.int .i64 (c : Nat), .int .i64 (slInit N c : Nat)] 100 (0, 0))
abbrev updB (cb : Nat → Nat) (m B : Nat) : Nat → Nat := fun c => if c = m then B else cb c
section
variable {lo N C i B g cap : Nat} {lN lU : Value} {cb : Nat → Nat} {v v5 : World}
theorem SlotsIn.next (h : SlotsIn lo N v C lN lU cb i 0) (hC : v5.heap[C]? = some (.cells #[.pointer (some ⟨cb 0, 0, none⟩), .slice (some ⟨g, 0, none⟩) (i + 1) cap, lU] 81 (0, 0)))
    (hr : v5.ownsRow 0 77 1 (.slice (some ⟨g, 0, none⟩) (i + 1) cap) (i + 1) (cRow (fun j => cb (1 + 2 * j)) i ++ [.pointer (some ⟨B, 0, none⟩)])) (hg : lo ≤ g) (hgw : lN.ownBlock = some g ∨ v.heap.size ≤ g)
    (hk : ∀ (x : Nat) (c : Array Value) (t : TypeId) (fr : Nat × Nat), v.heap[x]? = some (.cells c t fr) → t ≠ 74 → t ≠ 3 → t ≠ 77 → t ≠ 81 → v5.heap[x]? = some (.cells c t fr))
    (ho : ∀ lo k' row', v.ownsRow 0 77 1 lo k' row' → (∀ b, lo.ownBlock = some b → lN.ownBlock ≠ some b) → v5.ownsRow 0 77 1 lo k' row') (hB : lo ≤ B) (hBv : v5.heap[B]? = some (.cells #[.int .i64 ((0 + (2 * i + 1) : Nat) : Int), .int .i64 (slInit N (2 * i + 1) : Nat)] 100 (0, 0))) :
    SlotsIn lo N v5 C (.slice (some ⟨g, 0, none⟩) (i + 1) cap) lU (updB cb (2 * i + 1) B) i 1 := by
  have hap := h.apart
  refine ⟨by simpa [updB] using hC, ?_, ?_, fun b hb hu => ?_, ⟨h.lows.1, fun b hb => by cases hb; exact hg, h.lows.2.2⟩, fun c hc => ?_⟩
  · rw [cRow_snoc (cb := fun j => cb (1 + 2 * j)) (fun j hj => by simp only [updB]; rw [if_neg (by omega)])]
    simpa [updB, Nat.add_comm 1] using hr
  · have e : cRow (fun j => updB cb (2 * i + 1) B (2 + 2 * j)) i = cRow (fun j => cb (2 + 2 * j)) i := List.map_congr_left fun j hj => by have := List.mem_range.1 hj; simp only [updB]; rw [if_neg (by omega)]
    rw [e]
    exact ho _ _ _ h.us fun b hb hn => hap b hn hb
  · cases hb
    rcases hgw with e | e
    · exact hap g e hu
    · have h9 : g < v.heap.size := own_lt h.us hu; omega
  · by_cases e : c = 2 * i + 1
    · subst e
      simp only [updB, if_pos]
      exact ⟨hB, by simpa using hBv⟩
    · simp only [updB, if_neg e]
      obtain ⟨h1, h2⟩ := h.cells c (by omega)
      exact ⟨h1, hk _ _ _ _ h2 (by decide) (by decide) (by decide) (by decide)⟩
theorem SlotsIn.used (h : SlotsIn lo N v C lN lU cb i 1) (hC : v5.heap[C]? = some (.cells #[.pointer (some ⟨cb 0, 0, none⟩), lN, .slice (some ⟨g, 0, none⟩) (i + 1) cap] 81 (0, 0)))
    (hr : v5.ownsRow 0 77 1 (.slice (some ⟨g, 0, none⟩) (i + 1) cap) (i + 1) (cRow (fun j => cb (2 + 2 * j)) i ++ [.pointer (some ⟨B, 0, none⟩)])) (hg : lo ≤ g) (hgw : lU.ownBlock = some g ∨ v.heap.size ≤ g)
    (hk : ∀ (x : Nat) (c : Array Value) (t : TypeId) (fr : Nat × Nat), v.heap[x]? = some (.cells c t fr) → t ≠ 74 → t ≠ 3 → t ≠ 77 → t ≠ 81 → v5.heap[x]? = some (.cells c t fr))
    (ho : ∀ lo k' row', v.ownsRow 0 77 1 lo k' row' → (∀ b, lo.ownBlock = some b → lU.ownBlock ≠ some b) → v5.ownsRow 0 77 1 lo k' row') (hB : lo ≤ B) (hBv : v5.heap[B]? = some (.cells #[.int .i64 ((0 + (2 * i + 2) : Nat) : Int), .int .i64 0] 100 (0, 0))) :
    SlotsIn lo N v5 C lN (.slice (some ⟨g, 0, none⟩) (i + 1) cap) (updB cb (2 * i + 2) B) (i + 1) 0 := by
  have hap := h.apart
  refine ⟨by simpa [updB] using hC, ?_, ?_, fun b hb hu => ?_, ⟨h.lows.1, h.lows.2.1, fun b hb => by cases hb; exact hg⟩, fun c hc => ?_⟩
  · have e : cRow (fun j => updB cb (2 * i + 2) B (1 + 2 * j)) (i + 1) = cRow (fun j => cb (1 + 2 * j)) (i + 1) := List.map_congr_left fun j hj => by have := List.mem_range.1 hj; simp only [updB]; rw [if_neg (by omega)]
    show v5.ownsRow 0 _ 1 lN (i + 1) (cRow (fun j => updB cb (2 * i + 2) B (1 + 2 * j)) (i + 1))
    rw [e]
    exact ho _ _ _ h.nx fun b hb hn => hap b hb hn
  · rw [cRow_snoc (cb := fun j => cb (2 + 2 * j)) (fun j hj => by simp only [updB]; rw [if_neg (by omega)])]
    simpa [updB, Nat.add_comm 2] using hr
  · cases hu
    rcases hgw with e | e
    · exact hap g hb e
    · have h9 : g < v.heap.size := own_lt h.nx hb; omega
  · by_cases e : c = 2 * i + 2
    · subst e
      simp only [updB, if_pos]
      have e0 : slInit N (2 * i + 2) = 0 := by unfold slInit; rw [if_neg (by omega), if_neg (by omega)]
      rw [e0]
      exact ⟨hB, by simpa using hBv⟩
    · simp only [updB, if_neg e]
      obtain ⟨h1, h2⟩ := h.cells c (by omega)
      exact ⟨h1, hk _ _ _ _ h2 (by decide) (by decide) (by decide) (by decide)⟩
end
section
variable {S : Addr → Prop} {main : Bool} {Stop : Goroutine → World → Prop} {cs : List Frame} {c : Frame} {v : World}
theorem slNew_loop {b : Frame} (hbk : b.kind ≠ .early) {k : List Item} {W N C : Nat} {rv us la cv0 tv tr st ran ch : Value} {u : World} (hN : N ≤ 1000)
    (H : ∀ v a cv lN lU cb, Ready0 v → Cells W rv us la tv tr st ran ch cv0 0 [] u v cv (2 * N + 1) → SlotsIn u.heap.size N v C lN lU cb N 0 → AtE 52 [] [(5, .pointer (some ⟨C, 0, none⟩))] a → Hold Try.prog main S Stop (G (b.at a k) cs) v) :
    ∀ (r i : Nat) (v : World) (a : Act) (cv lN lU : Value) (cb : Nat → Nat), i + r = N → Ready0 v → Cells W rv us la tv tr st ran ch cv0 0 [] u v cv (2 * i + 1) → SlotsIn u.heap.size N v C lN lU cb i 0 →
      AtE 52 [] [(18, .int .i64 i), (17, .int .i64 N), (5, .pointer (some ⟨C, 0, none⟩)), (1, .int .i64 N), (0, .pointer (some ⟨W, 0, none⟩))] a → Hold Try.prog main S Stop (G (b.at a (.code slNew_L0 :: .inLoop slNew_L0 :: .inBlock 0 :: k)) cs) v := by
  intro r
  induction r with
  | zero =>
    intro i v a cv lN lU cb hi hrd hC hSh hat
    obtain rfl : i = N := by omega
    refine hold_unf slNew_L0_def <| hold_seq <| hold_region (l := [0]) rfl <| h_val noA hbk slNew_4 rfl rfl (by decide) hat (r_bool (t' := false) (r_lss rfl rfl) (by first | (simp; omega) | (simp; done) | (simp_all; done) | (simp_all; omega))) fun a hat => hold_region_end <| hold_seq <| hold_condF (hat.eval (q := .tmp 19) rfl) rfl <| hold_exit (k' := _) rfl ?_
    exact H v a cv lN lU cb hrd hC hSh (hat.sub (AtE.cons rfl (AtE.nil)))
  | succ r ih =>
    intro i v a cv lN lU cb hi hrd hC hSh hat
    refine hold_unf slNew_L0_def <| hold_seq <| hold_region (l := [0]) rfl <| h_val noA hbk slNew_4 rfl rfl (by decide) hat (r_bool (t' := true) (r_lss rfl rfl) (by first | (simp; omega) | (simp; done) | (simp_all; done) | (simp_all; omega))) fun a hat => hold_region_end <| hold_seq <| hold_condT (hat.eval (q := .tmp 19) rfl) rfl <| hold_skip <| hold_seq <| hold_block <| hold_seq <| hold_region (l := [0,1]) rfl <| h_val noA hbk slNew_5 rfl rfl (by decide) hat (r_move rfl) fun a hat => ?_
    refine h_val noA hbk slNew_5 rfl rfl (by decide) hat (r_assign rfl) fun a hat => hold_region_end <| hold_seq <| hold_region (l := [0,1,2]) rfl <| h_val noA hbk slNew_6 rfl rfl (by decide) hat (r_move rfl) fun a hat => h_val noA hbk slNew_6 rfl rfl (by decide) hat (r_add rfl rfl (by first | omega | (simp; omega))) fun a hat => h_val noA hbk slNew_6 rfl rfl (by decide) hat (r_assign rfl) fun a hat => hold_region_end <| hold_seq <| hold_seq <| hold_region (l := [0,1,2,3]) rfl <| h_val noA hbk slNew_7 rfl rfl (by decide) hat (r_move rfl) fun a hat => h_val noA hbk slNew_7 rfl rfl (by decide) hat (r_move rfl) fun a hat => ?_
    refine h_val noA hbk slNew_7 rfl rfl (by decide) hat (r_sub rfl rfl (by first | omega | (simp; omega))) fun a hat => ?_
    by_cases hl : i + 1 = N
    · have hto : (0 : Int) = ((slInit N (2 * i + 1) : Nat) : Int) := by unfold slInit; rw [if_neg (by omega), if_pos (by omega), if_pos (by omega)]; rfl
      refine h_val noA hbk slNew_7 rfl (opOk_eq (by kernel_rfl)) (by decide) hat (r_bool (t' := true) (r_eql rfl rfl) (by simp; omega)) fun a hat => hold_region_end <| hold_condT (hat.eval (q := .tmp 26) rfl) rfl <| hold_region (l := [0]) rfl <| h_val noA hbk slNew_8 rfl rfl (by decide) hat (r_assign rfl) fun a hat => hold_region_end <| hold_seq ?_
      have hCs := hSh.c
      refine hold_drawK (ts := [74, 3, 77]) (ord := [0,1,2,3,4,5,6,7,8,9,10,11,12]) (bigs := [7,8,9,12]) (by kernel_rfl) (by kernel_rfl) hat <| tk_val noA hbk slNew_9 rfl rfl rfl (fun v' hk => r_move rfl) <| tk_val noA hbk slNew_9 rfl rfl rfl (fun v' hk => r_move rfl) <| tk_val noA hbk slNew_9 rfl rfl rfl (fun v' hk => r_nil rfl) <| tk_val noA hbk slNew_9 rfl rfl rfl (fun v' hk => r_field fk_81_1 rfl) <| tk_val noA hbk slNew_9 rfl rfl rfl (fun v' hk => r_load ld_79 rfl (cell_at' (hk.same _ _ _ _ hCs (by decide)))) <| tk_val noA hbk slNew_9 rfl rfl rfl (fun v' hk => r_move rfl) <| tk_val noA hbk slNew_9 rfl rfl rfl (fun v' hk => r_move rfl) <| tk_call hbk slNew_9 rfl rfl cellNew_fn cellNew_bd cellNew_nm (vals := #[_, _]) rfl fun c K => cellNew_hold (x0 := 0) hrd hC.w hC.owns (by omega) fun v' cv' B hM hw' ho' hown' hB hB' => ?_
      have nW : ∀ (x : Nat) (arr : Array Value) (t : TypeId) (fr : Nat × Nat), v.heap[x]? = some (.cells arr t fr) → t ≠ 74 → t ≠ 3 → ¬ (x = W ∨ cv.ownBlock = some x) := fun x arr t fr hx h1 h2 h => by
        rcases h with rfl | h
        · rw [hC.w] at hx; cases hx; exact h1 rfl
        · exact own_ne hC.owns hx h2 h
      have hk : KeepT [74, 3, 77] v v' := ⟨hM.size, fun x arr t fr hx ht => hM.at (nW _ _ _ _ hx (fun e => ht (by rw [e]; decide)) (fun e => ht (by rw [e]; decide))) hx⟩
      refine K _ v' hk ?_
      have hrd' := hM.ready hrd
      refine tk_step noA hbk slNew_9 rfl rfl rfl (bs_79_1_0 rfl rfl) (Grow.keepT grow_alloc) ?_
      have hg : Grow v' (v'.alloc (.cells #[.pointer (some ⟨B, 0, none⟩)] 77 (0, 0))) := grow_alloc
      have hat2 : (v'.alloc (.cells #[.pointer (some ⟨B, 0, none⟩)] 77 (0, 0))).heap[v'.heap.size]? = some (.cells #[.pointer (some ⟨B, 0, none⟩)] 77 (0, 0)) := by show (v'.heap.push _)[_]? = _; simp
      generalize v'.alloc (.cells #[.pointer (some ⟨B, 0, none⟩)] 77 (0, 0)) = v2 at hg hat2 ⊢
      have hrd2 := hg.ready hrd'
      have hl2 := ownsRow_keep (w' := v2) hSh.nx fun x y hx hy => (hg.at (hM.at (nW _ _ _ _ hy (by decide) (by decide)) hy)).trans hy.symm
      refine tk_any noA hbk slNew_9 rfl rfl rfl hrd2 (app_runs ek_79 hl2 rfl rfl hat2 rfl (by simp [Value.oneCell']) (by decide) (Nat.le_trans (show _ ≤ 1002 by omega) (by decide)) (by omega)) (fun y w ⟨g, cap, _, hk', _⟩ => ?_) fun y w hQ hrd3 => ?_
      · refine ⟨hk'.1, fun x arr t fr hx ht => (hk'.2 x (lt_of_heap hx) (own_ne hl2 hx fun e => ht (by rw [e]; decide))).trans hx⟩
      obtain ⟨g, cap, rfl, _, hAp⟩ := hQ
      have hAp := hAp hrd3
      refine tk_val noA hbk slNew_9 rfl rfl rfl (fun v' hk => r_nil rfl) <| tk_val noA hbk slNew_9 rfl rfl rfl (fun v' hk => r_field fk_81_1 rfl) ?_
      have kp : ∀ (x : Nat) (arr : Array Value) (t : TypeId) (fr : Nat × Nat), v'.heap[x]? = some (.cells arr t fr) → t ≠ 77 → w.heap[x]? = some (.cells arr t fr) := fun x arr t fr hx ht => (hAp.same x (lt_of_heap (hg.at hx)) (own_ne hl2 (hg.at hx) ht)).trans (hg.at hx)
      have hC3 := kp _ _ _ _ (hk.same _ _ _ _ hCs (by decide)) (by decide)
      refine tk_put noA hbk slNew_9 rfl rfl rfl (by kernel_rfl) (p_store st_79 rfl rfl rfl hC3 rfl rfl) fun v5 hP => ?_
      have hlow := hSh.lows
      obtain ⟨k1, k2, k3, k4, k5, k6, k7, k8⟩ := push_state hC hM hw' ho' hown' hB hB' hg hSh.nx hlow.2.1 hAp hCs hP hlow.1
      have hC5 := hP.at_
      simp only [List.setIfInBounds_toArray, List.set_cons_zero, List.set_cons_succ] at hC5
      have hSh := hSh.next hC5 k2 k3 k4 k5 k6 k7 (by rw [← hto]; exact k8)
      have hC := k1
      have hrd := hP.ready hrd3
      clear hCs hM hw' ho' hown' hB hB' nW hk hrd' hg hat2 hrd2 hl2 hAp kp hC3 hlow k1 k2 k3 k4 k5 k6 k7 k8 hC5 hP hrd3
      refine tk_end fun a hat => ?_
      have hCs := hSh.c
      refine hold_drawK (ts := [74, 3, 77]) (ord := [0,1,2,3,4,5,6,7,8,9,10,11]) (bigs := [6,7,8,11]) (by kernel_rfl) (by kernel_rfl) hat <| tk_val noA hbk slNew_10 rfl rfl rfl (fun v' hk => r_move rfl) <| tk_val noA hbk slNew_10 rfl rfl rfl (fun v' hk => r_move rfl) <| tk_val noA hbk slNew_10 rfl rfl rfl (fun v' hk => r_nil rfl) <| tk_val noA hbk slNew_10 rfl rfl rfl (fun v' hk => r_field fk_81_2 rfl) <| tk_val noA hbk slNew_10 rfl rfl rfl (fun v' hk => r_load ld_79 rfl (cell_at' (hk.same _ _ _ _ hCs (by decide)))) <| tk_val noA hbk slNew_10 rfl rfl rfl (fun v' hk => r_move rfl) <| tk_call hbk slNew_10 rfl rfl cellNew_fn cellNew_bd cellNew_nm (vals := #[_, _]) rfl fun c K => cellNew_hold (x0 := 0) hrd hC.w hC.owns (by omega) fun v' cw B hM hw' ho' hown' hB hB' => ?_
      have nW : ∀ (x : Nat) (arr : Array Value) (t : TypeId) (fr : Nat × Nat), v5.heap[x]? = some (.cells arr t fr) → t ≠ 74 → t ≠ 3 → ¬ (x = W ∨ cv'.ownBlock = some x) := fun x arr t fr hx h1 h2 h => by
        rcases h with rfl | h
        · rw [hC.w] at hx; cases hx; exact h1 rfl
        · exact own_ne hC.owns hx h2 h
      have hk : KeepT [74, 3, 77] v5 v' := ⟨hM.size, fun x arr t fr hx ht => hM.at (nW _ _ _ _ hx (fun e => ht (by rw [e]; decide)) (fun e => ht (by rw [e]; decide))) hx⟩
      refine K _ v' hk ?_
      have hrd' := hM.ready hrd
      refine tk_step noA hbk slNew_10 rfl rfl rfl (bs_79_1_0 rfl rfl) (Grow.keepT grow_alloc) ?_
      have hg : Grow v' (v'.alloc (.cells #[.pointer (some ⟨B, 0, none⟩)] 77 (0, 0))) := grow_alloc
      have hat2 : (v'.alloc (.cells #[.pointer (some ⟨B, 0, none⟩)] 77 (0, 0))).heap[v'.heap.size]? = some (.cells #[.pointer (some ⟨B, 0, none⟩)] 77 (0, 0)) := by show (v'.heap.push _)[_]? = _; simp
      generalize v'.alloc (.cells #[.pointer (some ⟨B, 0, none⟩)] 77 (0, 0)) = v2 at hg hat2 ⊢
      have hrd2 := hg.ready hrd'
      have hl2 := ownsRow_keep (w' := v2) hSh.us fun x y hx hy => (hg.at (hM.at (nW _ _ _ _ hy (by decide) (by decide)) hy)).trans hy.symm
      refine tk_any noA hbk slNew_10 rfl rfl rfl hrd2 (app_runs ek_79 hl2 rfl rfl hat2 rfl (by simp [Value.oneCell']) (by decide) (Nat.le_trans (show _ ≤ 1002 by omega) (by decide)) (by omega)) (fun y w ⟨g, cap, _, hk', _⟩ => ?_) fun y w hQ hrd3 => ?_
      · refine ⟨hk'.1, fun x arr t fr hx ht => (hk'.2 x (lt_of_heap hx) (own_ne hl2 hx fun e => ht (by rw [e]; decide))).trans hx⟩
      obtain ⟨g, cap, rfl, _, hAp⟩ := hQ
      have hAp := hAp hrd3
      refine tk_val noA hbk slNew_10 rfl rfl rfl (fun v' hk => r_nil rfl) <| tk_val noA hbk slNew_10 rfl rfl rfl (fun v' hk => r_field fk_81_2 rfl) ?_
      have kp : ∀ (x : Nat) (arr : Array Value) (t : TypeId) (fr : Nat × Nat), v'.heap[x]? = some (.cells arr t fr) → t ≠ 77 → w.heap[x]? = some (.cells arr t fr) := fun x arr t fr hx ht => (hAp.same x (lt_of_heap (hg.at hx)) (own_ne hl2 (hg.at hx) ht)).trans (hg.at hx)
      have hC3 := kp _ _ _ _ (hk.same _ _ _ _ hCs (by decide)) (by decide)
      refine tk_put noA hbk slNew_10 rfl rfl rfl (by kernel_rfl) (p_store st_79 rfl rfl rfl hC3 rfl rfl) fun v9 hP => ?_
      have hlow := hSh.lows
      obtain ⟨k1, k2, k3, k4, k5, k6, k7, k8⟩ := push_state hC hM hw' ho' hown' hB hB' hg hSh.us hlow.2.2 hAp hCs hP hlow.1
      have hC5 := hP.at_
      simp only [List.setIfInBounds_toArray, List.set_cons_zero, List.set_cons_succ] at hC5
      have hSh := hSh.used hC5 k2 k3 k4 k5 k6 k7 k8
      have hC := k1
      have hrd := hP.ready hrd3
      clear hCs hM hw' ho' hown' hB hB' nW hk hrd' hg hat2 hrd2 hl2 hAp kp hC3 hlow k1 k2 k3 k4 k5 k6 k7 k8 hC5 hP hrd3
      refine tk_end fun a hat => hold_inBlock <| hold_region (l := [0,1]) rfl <| h_val noA hbk slNew_11 rfl rfl (by decide) hat (r_add rfl rfl (by first | omega | (simp; omega))) fun a hat => h_val noA hbk slNew_11 rfl rfl (by decide) hat (r_move rfl) fun a hat => hold_region_end <| hold_inLoop ?_
      exact ih (i + 1) _ _ _ _ _ _ (by omega) hrd hC hSh (hat.sub (AtE.cons rfl (AtE.cons rfl (AtE.cons rfl (AtE.cons rfl (AtE.cons rfl (AtE.nil)))))))
    · have hto : ((i : Int) + 2) = ((slInit N (2 * i + 1) : Nat) : Int) := by unfold slInit; rw [if_neg (by omega), if_pos (by omega), if_neg (by omega)]; omega
      refine h_val noA hbk slNew_7 rfl (opOk_eq (by kernel_rfl)) (by decide) hat (r_bool (t' := false) (r_eql rfl rfl) (by simp; omega)) fun a hat => hold_region_end <| hold_condF (hat.eval (q := .tmp 26) rfl) rfl <| hold_skip <| hold_seq ?_
      have hCs := hSh.c
      refine hold_drawK (ts := [74, 3, 77]) (ord := [0,1,2,3,4,5,6,7,8,9,10,11,12]) (bigs := [7,8,9,12]) (by kernel_rfl) (by kernel_rfl) hat <| tk_val noA hbk slNew_9 rfl rfl rfl (fun v' hk => r_move rfl) <| tk_val noA hbk slNew_9 rfl rfl rfl (fun v' hk => r_move rfl) <| tk_val noA hbk slNew_9 rfl rfl rfl (fun v' hk => r_nil rfl) <| tk_val noA hbk slNew_9 rfl rfl rfl (fun v' hk => r_field fk_81_1 rfl) <| tk_val noA hbk slNew_9 rfl rfl rfl (fun v' hk => r_load ld_79 rfl (cell_at' (hk.same _ _ _ _ hCs (by decide)))) <| tk_val noA hbk slNew_9 rfl rfl rfl (fun v' hk => r_move rfl) <| tk_val noA hbk slNew_9 rfl rfl rfl (fun v' hk => r_move rfl) <| tk_call hbk slNew_9 rfl rfl cellNew_fn cellNew_bd cellNew_nm (vals := #[_, _]) rfl fun c K => cellNew_hold (x0 := (i : Int) + 2) hrd hC.w hC.owns (by omega) fun v' cv' B hM hw' ho' hown' hB hB' => ?_
      have nW : ∀ (x : Nat) (arr : Array Value) (t : TypeId) (fr : Nat × Nat), v.heap[x]? = some (.cells arr t fr) → t ≠ 74 → t ≠ 3 → ¬ (x = W ∨ cv.ownBlock = some x) := fun x arr t fr hx h1 h2 h => by
        rcases h with rfl | h
        · rw [hC.w] at hx; cases hx; exact h1 rfl
        · exact own_ne hC.owns hx h2 h
      have hk : KeepT [74, 3, 77] v v' := ⟨hM.size, fun x arr t fr hx ht => hM.at (nW _ _ _ _ hx (fun e => ht (by rw [e]; decide)) (fun e => ht (by rw [e]; decide))) hx⟩
      refine K _ v' hk ?_
      have hrd' := hM.ready hrd
      refine tk_step noA hbk slNew_9 rfl rfl rfl (bs_79_1_0 rfl rfl) (Grow.keepT grow_alloc) ?_
      have hg : Grow v' (v'.alloc (.cells #[.pointer (some ⟨B, 0, none⟩)] 77 (0, 0))) := grow_alloc
      have hat2 : (v'.alloc (.cells #[.pointer (some ⟨B, 0, none⟩)] 77 (0, 0))).heap[v'.heap.size]? = some (.cells #[.pointer (some ⟨B, 0, none⟩)] 77 (0, 0)) := by show (v'.heap.push _)[_]? = _; simp
      generalize v'.alloc (.cells #[.pointer (some ⟨B, 0, none⟩)] 77 (0, 0)) = v2 at hg hat2 ⊢
      have hrd2 := hg.ready hrd'
      have hl2 := ownsRow_keep (w' := v2) hSh.nx fun x y hx hy => (hg.at (hM.at (nW _ _ _ _ hy (by decide) (by decide)) hy)).trans hy.symm
      refine tk_any noA hbk slNew_9 rfl rfl rfl hrd2 (app_runs ek_79 hl2 rfl rfl hat2 rfl (by simp [Value.oneCell']) (by decide) (Nat.le_trans (show _ ≤ 1002 by omega) (by decide)) (by omega)) (fun y w ⟨g, cap, _, hk', _⟩ => ?_) fun y w hQ hrd3 => ?_
      · refine ⟨hk'.1, fun x arr t fr hx ht => (hk'.2 x (lt_of_heap hx) (own_ne hl2 hx fun e => ht (by rw [e]; decide))).trans hx⟩
      obtain ⟨g, cap, rfl, _, hAp⟩ := hQ
      have hAp := hAp hrd3
      refine tk_val noA hbk slNew_9 rfl rfl rfl (fun v' hk => r_nil rfl) <| tk_val noA hbk slNew_9 rfl rfl rfl (fun v' hk => r_field fk_81_1 rfl) ?_
      have kp : ∀ (x : Nat) (arr : Array Value) (t : TypeId) (fr : Nat × Nat), v'.heap[x]? = some (.cells arr t fr) → t ≠ 77 → w.heap[x]? = some (.cells arr t fr) := fun x arr t fr hx ht => (hAp.same x (lt_of_heap (hg.at hx)) (own_ne hl2 (hg.at hx) ht)).trans (hg.at hx)
      have hC3 := kp _ _ _ _ (hk.same _ _ _ _ hCs (by decide)) (by decide)
      refine tk_put noA hbk slNew_9 rfl rfl rfl (by kernel_rfl) (p_store st_79 rfl rfl rfl hC3 rfl rfl) fun v5 hP => ?_
      have hlow := hSh.lows
      obtain ⟨k1, k2, k3, k4, k5, k6, k7, k8⟩ := push_state hC hM hw' ho' hown' hB hB' hg hSh.nx hlow.2.1 hAp hCs hP hlow.1
      have hC5 := hP.at_
      simp only [List.setIfInBounds_toArray, List.set_cons_zero, List.set_cons_succ] at hC5
      have hSh := hSh.next hC5 k2 k3 k4 k5 k6 k7 (by rw [← hto]; exact k8)
      have hC := k1
      have hrd := hP.ready hrd3
      clear hCs hM hw' ho' hown' hB hB' nW hk hrd' hg hat2 hrd2 hl2 hAp kp hC3 hlow k1 k2 k3 k4 k5 k6 k7 k8 hC5 hP hrd3
      refine tk_end fun a hat => ?_
      have hCs := hSh.c
      refine hold_drawK (ts := [74, 3, 77]) (ord := [0,1,2,3,4,5,6,7,8,9,10,11]) (bigs := [6,7,8,11]) (by kernel_rfl) (by kernel_rfl) hat <| tk_val noA hbk slNew_10 rfl rfl rfl (fun v' hk => r_move rfl) <| tk_val noA hbk slNew_10 rfl rfl rfl (fun v' hk => r_move rfl) <| tk_val noA hbk slNew_10 rfl rfl rfl (fun v' hk => r_nil rfl) <| tk_val noA hbk slNew_10 rfl rfl rfl (fun v' hk => r_field fk_81_2 rfl) <| tk_val noA hbk slNew_10 rfl rfl rfl (fun v' hk => r_load ld_79 rfl (cell_at' (hk.same _ _ _ _ hCs (by decide)))) <| tk_val noA hbk slNew_10 rfl rfl rfl (fun v' hk => r_move rfl) <| tk_call hbk slNew_10 rfl rfl cellNew_fn cellNew_bd cellNew_nm (vals := #[_, _]) rfl fun c K => cellNew_hold (x0 := 0) hrd hC.w hC.owns (by omega) fun v' cw B hM hw' ho' hown' hB hB' => ?_
      have nW : ∀ (x : Nat) (arr : Array Value) (t : TypeId) (fr : Nat × Nat), v5.heap[x]? = some (.cells arr t fr) → t ≠ 74 → t ≠ 3 → ¬ (x = W ∨ cv'.ownBlock = some x) := fun x arr t fr hx h1 h2 h => by
        rcases h with rfl | h
        · rw [hC.w] at hx; cases hx; exact h1 rfl
        · exact own_ne hC.owns hx h2 h
      have hk : KeepT [74, 3, 77] v5 v' := ⟨hM.size, fun x arr t fr hx ht => hM.at (nW _ _ _ _ hx (fun e => ht (by rw [e]; decide)) (fun e => ht (by rw [e]; decide))) hx⟩
      refine K _ v' hk ?_
      have hrd' := hM.ready hrd
      refine tk_step noA hbk slNew_10 rfl rfl rfl (bs_79_1_0 rfl rfl) (Grow.keepT grow_alloc) ?_
      have hg : Grow v' (v'.alloc (.cells #[.pointer (some ⟨B, 0, none⟩)] 77 (0, 0))) := grow_alloc
      have hat2 : (v'.alloc (.cells #[.pointer (some ⟨B, 0, none⟩)] 77 (0, 0))).heap[v'.heap.size]? = some (.cells #[.pointer (some ⟨B, 0, none⟩)] 77 (0, 0)) := by show (v'.heap.push _)[_]? = _; simp
      generalize v'.alloc (.cells #[.pointer (some ⟨B, 0, none⟩)] 77 (0, 0)) = v2 at hg hat2 ⊢
      have hrd2 := hg.ready hrd'
      have hl2 := ownsRow_keep (w' := v2) hSh.us fun x y hx hy => (hg.at (hM.at (nW _ _ _ _ hy (by decide) (by decide)) hy)).trans hy.symm
      refine tk_any noA hbk slNew_10 rfl rfl rfl hrd2 (app_runs ek_79 hl2 rfl rfl hat2 rfl (by simp [Value.oneCell']) (by decide) (Nat.le_trans (show _ ≤ 1002 by omega) (by decide)) (by omega)) (fun y w ⟨g, cap, _, hk', _⟩ => ?_) fun y w hQ hrd3 => ?_
      · refine ⟨hk'.1, fun x arr t fr hx ht => (hk'.2 x (lt_of_heap hx) (own_ne hl2 hx fun e => ht (by rw [e]; decide))).trans hx⟩
      obtain ⟨g, cap, rfl, _, hAp⟩ := hQ
      have hAp := hAp hrd3
      refine tk_val noA hbk slNew_10 rfl rfl rfl (fun v' hk => r_nil rfl) <| tk_val noA hbk slNew_10 rfl rfl rfl (fun v' hk => r_field fk_81_2 rfl) ?_
      have kp : ∀ (x : Nat) (arr : Array Value) (t : TypeId) (fr : Nat × Nat), v'.heap[x]? = some (.cells arr t fr) → t ≠ 77 → w.heap[x]? = some (.cells arr t fr) := fun x arr t fr hx ht => (hAp.same x (lt_of_heap (hg.at hx)) (own_ne hl2 (hg.at hx) ht)).trans (hg.at hx)
      have hC3 := kp _ _ _ _ (hk.same _ _ _ _ hCs (by decide)) (by decide)
      refine tk_put noA hbk slNew_10 rfl rfl rfl (by kernel_rfl) (p_store st_79 rfl rfl rfl hC3 rfl rfl) fun v9 hP => ?_
      have hlow := hSh.lows
      obtain ⟨k1, k2, k3, k4, k5, k6, k7, k8⟩ := push_state hC hM hw' ho' hown' hB hB' hg hSh.us hlow.2.2 hAp hCs hP hlow.1
      have hC5 := hP.at_
      simp only [List.setIfInBounds_toArray, List.set_cons_zero, List.set_cons_succ] at hC5
      have hSh := hSh.used hC5 k2 k3 k4 k5 k6 k7 k8
      have hC := k1
      have hrd := hP.ready hrd3
      clear hCs hM hw' ho' hown' hB hB' nW hk hrd' hg hat2 hrd2 hl2 hAp kp hC3 hlow k1 k2 k3 k4 k5 k6 k7 k8 hC5 hP hrd3
      refine tk_end fun a hat => hold_inBlock <| hold_region (l := [0,1]) rfl <| h_val noA hbk slNew_11 rfl rfl (by decide) hat (r_add rfl rfl (by first | omega | (simp; omega))) fun a hat => h_val noA hbk slNew_11 rfl rfl (by decide) hat (r_move rfl) fun a hat => hold_region_end <| hold_inLoop ?_
      exact ih (i + 1) _ _ _ _ _ _ (by omega) hrd hC hSh (hat.sub (AtE.cons rfl (AtE.cons rfl (AtE.cons rfl (AtE.cons rfl (AtE.cons rfl (AtE.nil)))))))
/-- How many slots are made. -/
def slMany (n : Int) : Nat := (if 1000 < (if 0 > n then 0 else n) then 1000 else (if 0 > n then 0 else n)).toNat
theorem slMany_is (n : Int) : ((slMany n : Nat) : Int) = if 1000 < (if 0 > n then 0 else n) then 1000 else (if 0 > n then 0 else n) := by unfold slMany; omega
theorem slMany_le (n : Int) : slMany n ≤ 1000 := by unfold slMany; omega
theorem slNew_hold {u : World} {W : Nat} {n : Int} {rv us la cv tv tr st ran ch : Value} (hr : Ready0 u) (hw : u.heap[W]? = some (.cells #[rv, us, la, cv, tv, tr, st, ran, ch] 74 (0, 0))) (hcv : u.ownsRow 0 3 1 cv 0 [])
    (H : ∀ v' cv' C lN lU cb, Ready0 v' → Cells W rv us la tv tr st ran ch cv 0 [] u v' cv' (2 * slMany n + 1) → SlotsIn u.heap.size (slMany n) v' C lN lU cb (slMany n) 0 → Hold Try.prog main S Stop (G (c.finish (.pointer (some ⟨C, 0, none⟩))) cs) v') :
    Hold Try.prog main S Stop (G (Frame.enter Try.prog 14 #[.pointer (some ⟨W, 0, none⟩), .int .i64 n] .normal) (c :: cs)) u := by
  have hG := Grow.refl u
  obtain ⟨b, a, hEq, hb, hbf, hat⟩ := enter_is slNew_fn slNew_body slNew_tmps #[.pointer (some ⟨W, 0, none⟩), .int .i64 n] [(0, .pointer (some ⟨W, 0, none⟩)), (1, .int .i64 n)] rfl (by simp)
  rw [hEq]
  have hbk := not_early hb
  refine hold_unf slNew_code_def <| hold_seq <| hold_region (l := [0]) rfl <| h_val noA hbk slNew_0 rfl rfl (by decide) hat (r_assign rfl) fun a hat => hold_region_end <| hold_seq <| hold_region (l := [0,1,2,3]) rfl <| h_val noA hbk slNew_1 rfl rfl (by decide) hat (r_move rfl) fun a hat => h_still hbk slNew_1 rfl (by decide) hat (r_max rfl rfl) fun a hat => h_still hbk slNew_1 rfl (by decide) hat (r_min rfl rfl) fun a hat => h_val noA hbk slNew_1 rfl rfl (by decide) hat (r_assign rfl) fun a hat => hold_region_end <| hold_seq ?_
  refine hold_region (l := [0,1,2,3,4,5,6]) rfl <| h_val noA hbk slNew_2 rfl rfl (by decide) hat (r_move rfl) fun a hat => h_val noA hbk slNew_2 rfl rfl (by decide) hat (r_move rfl) fun a hat => ?_
  rw [← slMany_is n] at hat
  have hm := slMany_le n
  generalize slMany n = N at *
  refine h_still hbk slNew_2 rfl (by decide) hat (r_min rfl rfl) fun a hat => h_callc hbk slNew_2 rfl (by decide) hat cellNew_fn cellNew_bd cellNew_nm (vals := #[_, _]) rfl fun c hc => ?_
  have h1 : (if (1 : Int) < (N : Int) then (1 : Int) else (N : Int)) = ((slInit N 0 : Nat) : Int) := by unfold slInit; rw [if_pos rfl]; omega
  rw [h1]
  refine cellNew_hold hr hw hcv (by decide) fun v cv' B hM hw' ho' hown' hB hB' => hold_fin hc fun a hat => ?_
  have hrd' := hM.ready hr
  have hG := Grow.refl v
  refine h_val noA hbk slNew_2 rfl rfl (by decide) hat (bu_81_0 rfl rfl) fun a hat => h_new noA hbk slNew_2 rfl rfl (by decide) hat (bx_81 rfl) fun v a B16 hB16 hsB16 hg F16 hat => ?_
  have gB16 := Nat.le_trans hG.size (Nat.le_of_eq hB16)
  replace hG := hG.trans hg
  refine h_val noA hbk slNew_2 rfl rfl (by decide) hat (r_assign rfl) fun a hat => hold_region_end <| hold_seq <| hold_seq <| hold_region (l := [0,1]) rfl <| h_val noA hbk slNew_3 rfl rfl (by decide) hat (r_move rfl) fun a hat => h_val noA hbk slNew_3 rfl rfl (by decide) hat (r_move rfl) fun a hat => hold_region_end <| hold_block <| hold_loop ?_
  refine slNew_loop hbk hm (fun v a cv2 lN lU cb hrd hC hSh hat => ?_) N 0 v a cv' (.slice none 0 0) (.slice none 0 0) (fun _ => B) (by omega) (hG.ready hrd') ⟨hM.trans hG.mods, hG.at hw', by simpa using owns_grow ho' hG, hown'⟩ ⟨F16, ⟨rfl, .inl ⟨rfl, rfl⟩⟩, ⟨rfl, .inl ⟨rfl, rfl⟩⟩, fun b hb => by (cases hb), ⟨Nat.le_trans hM.size gB16, fun b hb => by (cases hb), fun b hb => by (cases hb)⟩, fun c hc => ?_⟩ (hat.sub (AtE.cons rfl (AtE.cons rfl (AtE.cons rfl (AtE.cons rfl (AtE.cons rfl (AtE.nil)))))))
  · skip
    refine hold_seq <| hold_region (l := [0,1]) rfl <| h_val noA hbk slNew_12 rfl rfl (by decide) hat (r_move rfl) fun a hat => h_val noA hbk slNew_12 rfl rfl (by decide) hat (r_assign rfl) fun a hat => hold_region_end <| hold_retd hb hbf slNew_fn hat.defers (ret_one slNew_res hat rfl) ?_
    exact H v cv2 _ lN lU cb hrd hC hSh
  · obtain rfl : c = 0 := by omega
    exact ⟨hB, hG.at hB'⟩
end
end Go.Proofs.Ytecdiejeofclaaa


/- slots.Play, of a new world. -/
namespace Go.Proofs.Ytecdiejeofclaaa
open Go Go.Conc
theorem Hand0.ext {i Bh : Nat} {Γ Γ' : Gho} {u v : World} (h : Hand0 i Bh Γ u) (hX : Ext Γ u Γ' v) : Hand0 i Bh Γ' v :=
  ⟨⟨Nat.lt_of_lt_of_le h.row.1 hX.grow.size, (hX.own _ h.row.1).trans h.row.2⟩, (cell_same (hX.grow.same _ h.row.1)).trans h.cell, (frozen_same (hX.grow.same _ h.row.1)).trans h.open_⟩
theorem Hand0.ans {i Bh : Nat} {Γ Γ' : Gho} {u v : World} (h : Hand0 i Bh Γ u) (hX : AnsOnly i Γ u Γ' v) : Hand0 i Bh Γ' v :=
  ⟨⟨Nat.lt_of_lt_of_le h.row.1 hX.size, (hX.own _ h.row.1).trans h.row.2⟩, (cell_same (hX.mixed _ h.row.1 h.row.2)).trans h.cell, (frozen_same (hX.mixed _ h.row.1 h.row.2)).trans h.open_⟩
/-- All that a script's calls find. -/
def SEnvA (i bx bh Bh nh ch s gN gU cn cu n : Nat) (aN aU : Option Addr) (cbf : Nat → Nat) (l : List ACall) (acc : List (Int × Int)) (Γ : Gho) (v : World) : Prop :=
  PEnv i bx bh Bh nh ch s gN gU cn cu n aN aU cbf (handOf l acc) Γ v ∧ (acc = [] → Hand0 i Bh Γ v)
theorem handOf_nil (l : List ACall) : handOf l [] = [] := by simp [handOf]
section
variable {i : Nat} {Fin : List (Int × Int) → Gho → World → Prop} {bx bh Bh nh ch s gN gU cn cu n : Nat} {aN aU : Option Addr} {cbf : Nat → Nat} {l : List ACall}
theorem SEnvA.stay0 {Γ Γ' : Gho} {v v' : World} (h : SEnvA i bx bh Bh nh ch s gN gU cn cu n aN aU cbf l [] Γ v) (hS : StayC Γ v Γ' v') (h0 : Hand0 i Bh Γ v → Hand0 i Bh Γ' v') : SEnvA i bx bh Bh nh ch s gN gU cn cu n aN aU cbf l [] Γ' v' :=
  ⟨h.1.keep hS (by rw [handOf_nil]; exact (h0 (h.2 rfl)).at), fun _ => h0 (h.2 rfl)⟩
theorem slots_doA (f : Nat) (hl : l.length ≤ 64) (hin : i < nh) : DoSpec i Fin (slotsV bx bh) (fun acc => slotsP f n (handOf l acc)) (SEnvA i bx bh Bh nh ch s gN gU cn cu n aN aU cbf l) l Bh := by
  obtain ⟨f, fn, cap, h1, h2, h3, h4, h5, h6, h7⟩ := slots_do (Fin := Fin) f (bx := bx) (bh := bh) (Bh := Bh) (ch := ch) (s := s) (gN := gN) (gU := gU) (cn := cn) (cu := cu) (n := n) (aN := aN) (aU := aU) (cbf := cbf) hl hin
  refine ⟨f, fn, cap, h1, h2, h3, h4, fun acc Γ v Γ' v' h hR => ⟨h5 _ _ _ _ _ h.1 hR, fun e => (h.2 e).keepU hR.urely⟩, fun acc Γ v Γ' v' h hR => ⟨h6 _ _ _ _ _ h.1 hR, fun e => (h.2 e).ans hR⟩, fun acc x Γ0 v0 Γ A v c cs k hx hW hG hi hE hK => h7 acc x Γ0 v0 Γ A v c cs k hx hW hG hi hE.1 fun r Γ0' v0' Γ' v' A' hR hW' hi' hG' hE' => hK r Γ0' v0' Γ' v' A' hR hW' hi' hG' ⟨hE', fun e => by simp at e⟩⟩
end
open Classical in
/-- Whose is what, where each thread has a cell of its own in a row. -/
noncomputable def ownM (X : Nat → Prop) (H : Nat) : Nat → Own := fun b => if b = H then .mixed else ownOf X b
theorem ownM_sys {X : Nat → Prop} {H b : Nat} (hn : b ≠ H) (h : X b) : ownM X H b = .sys := (if_neg hn).trans (ownOf_sys h)
theorem ownM_const {X : Nat → Prop} {H b : Nat} (hn : b ≠ H) (h : ¬ X b) : ownM X H b = .const := (if_neg hn).trans (ownOf_const h)
theorem ownM_mixed {X : Nat → Prop} {H : Nat} : ownM X H H = .mixed := if_pos rfl
/-- The slots' world, ahead of the run. -/
def slSys (sl : List Int) (N : Nat) : Sys := ⟨sl, 0, -1, List.replicate (2 * N + 1) 0, (List.range (2 * N + 1)).map fun c => (slInit N c : Int), [], false, []⟩
/-- What the threads do. -/
def slProgs (f N n : Nat) (l : Nat → List ACall) : List Prog := (List.range n).map fun i => Prog.callsA (fun acc => slotsP f N (handOf (l i) acc)) false 0 (l i) [] .done
theorem slInit_le {N c : Nat} (hN : N ≤ 1000) : slInit N c ≤ 2 * c + 1000 := by
  unfold slInit
  split
  · omega
  · split
    · split <;> omega
    · omega
theorem r_make1 {P : Program} {v : World} {e : Env} {t te : TypeId} {y z : Value} {bytes : Nat} (ht : P.underlying t = some (.slice te)) (hinfo : (P.info? te).map (fun i => (i.zero, i.size, i.bytes)) = some (some z, 1, bytes)) (hz1 : z.cells = #[y]) {q0 q1 : Operand} {n : Nat} (h0 : opv e q0 = some (.int .i64 (n : Int))) (h1 : opv e q1 = some (.int .i64 (n : Int))) (hb : bytes * n ≤ 281474976710656) (h63 : n ≤ 9223372036854775807) :
    RunsTo P e (.makeSlice t q0 q1) v (.value (.slice (some ⟨v.heap.size, 0, none⟩) n n)) (v.alloc (.cells (madeCells #[y] n) te (0, 0))) := fun ρ o hρ ho tt dd => by
  obtain ⟨i, hi, hzz⟩ := Option.map_eq_some_iff.1 hinfo
  simp only [Prod.mk.injEq] at hzz
  obtain ⟨hz, hs, hbb⟩ := hzz
  have hb' : (i.bytes : Int) * (n : Int) ≤ 281474976710656 := by
    have h : ((i.bytes * n : Nat) : Int) ≤ 281474976710656 := by rw [hbb]; omega
    rwa [Int.natCast_mul] at h
  have hr := run_make (P := P) (v.re tt dd) t te i z ht hi hz .i64 .i64 n n (by omega) (Int.le_refl _) hb' (by omega)
  simp only [Int.toNat_natCast, hs, Nat.mul_one, hz1] at hr
  simp only [execOp, ho, hρ _ _ h0, hρ _ _ h1]
  exact run_then hr rfl
section
variable {Done : Goroutine → World → Prop}
theorem slPlay_run {u : World} {W ch N0 : Nat} {rv : Value} {sl : List Int} (hr : Ready0 u) (hN : NewW u W ch rv sl) (hsl : (∀ x ∈ sl, -9223372036854775808 ≤ x ∧ x ≤ 9223372036854775807) ∧ sl.length < 2 ^ 62) (hN0 : 0 < N0) {I : Inbs} (hI : ∀ x, x ≠ 0 → I x = none) {sh : Int} {sv : Value} {n : Nat} {lv : Nat → Value} {l : Nat → List ACall}
    (hS : Scripts u sv n lv fun j => (l j).length) (hsv : ∃ ad cp, sv = .slice ad n cp) (hsb : 0 < n → ∀ B O cp, sv = .slice (some ⟨B, O, none⟩) n cp → ¬ wordsOf W ch rv B) (hscr : ∀ j, j < n → ScrAt (wordsOf W ch rv) u (lv j) (l j)) {c0 : Frame} {cs : List Frame}
    (he : ∀ v', Grow u v' → mayE n (fun j => (l j).length) false ≠ 0 → Run Try.prog Done S0 0 N0 I (G (c0.finish (.tuple #[.slice none 0 0, .int .i64 (mayE n (fun j => (l j).length) false)])) cs) v')
    (hbad : ∀ v', Grow u v' → mayE n (fun j => (l j).length) false = 0 → (sh < 0 ∨ 1000 < sh) → Run Try.prog Done S0 0 N0 I (G (c0.finish (.tuple #[.slice none 0 0, .int .i64 1])) cs) v')
    {fu f : Nat} (hrun : mayE n (fun j => (l j).length) false = 0 → 0 ≤ sh → sh ≤ 1000 → ∃ res, runs f (slSys sl sh.toNat) (slProgs fu sh.toNat n l) = some res ∧
      ∀ Γ' v' I' ob, WI Γ' res.1 v' → (∀ x, x ≠ 0 → I' x = none) → res.2.length = n → (∀ i r, res.2[i]? = some r → FinOut i ob r Γ' v') → (∀ b, b < u.heap.size → ¬ wordsOf W ch rv b → v'.heap[b]? = u.heap[b]?) → Γ'.W = W → u.heap.size ≤ ob →
        Run Try.prog Done S0 0 (N0 + n) I' (G (c0.finish (.tuple #[.slice (some ⟨ob, 0, none⟩) n n, .int .i64 0])) cs) v') :
    Run Try.prog Done S0 0 N0 I (G (Frame.enter Try.prog 11 #[.pointer (some ⟨W, 0, none⟩), .int .i64 sh, sv] .normal) (c0 :: cs)) u := by
  obtain ⟨ad, cp, rfl⟩ := hsv
  have hw := hN.w
  refine Run.of_hold ?_
  obtain ⟨b, a, hEq, hb, hbf, hat⟩ := enter_is slPlay_fn slPlay_body slPlay_tmps #[.pointer (some ⟨W, 0, none⟩), .int .i64 sh, .slice ad n cp] [(0, .pointer (some ⟨W, 0, none⟩)), (1, .int .i64 sh), (2, .slice ad n cp)] rfl (by simp)
  rw [hEq]
  have hbk := not_early hb
  refine hold_unf slPlay_code_def <| hold_seq <| hold_region (l := [0,1]) rfl <| h_val noA hbk slPlay_0 rfl rfl (by decide) hat (r_assign rfl) fun a hat => h_val noA hbk slPlay_0 rfl rfl (by decide) hat (r_assign rfl) fun a hat => hold_region_end <| hold_seq <| hold_seq <| hold_region (l := [0,1,2,3]) rfl <| h_val noA hbk slPlay_1 rfl rfl (by decide) hat (r_move rfl) fun a hat => h_val noA hbk slPlay_1 rfl rfl (by decide) hat (r_move rfl) fun a hat => h_callc hbk slPlay_1 rfl (by decide) hat May_fn May_bd May_nm (vals := #[_, _, _]) rfl fun c hc => May_hold hw rfl hS ⟨_, _, rfl⟩ fun v hg0 => ?_
  refine hold_fin hc fun a hat => h_val noA hbk slPlay_1 rfl rfl (by decide) hat (r_assign rfl) fun a hat => hold_region_end <| hold_seq <| hold_region (l := [0,1]) rfl <| h_val noA hbk slPlay_2 rfl rfl (by decide) hat (r_move rfl) fun a hat => ?_
  by_cases h0 : mayE n (fun j => (l j).length) false = 0
  rotate_left
  · refine h_val noA hbk slPlay_2 rfl (opOk_eq (by kernel_rfl)) (by decide) hat (r_bool (t' := true) (r_neq rfl rfl) (by simpa using h0)) fun a hat => hold_region_end <| hold_condT (hat.eval (q := .tmp 15) rfl) rfl <| hold_seq <| hold_region (l := [0,1,2]) rfl <| h_val noA hbk slPlay_3 rfl rfl (by decide) hat (r_move rfl) fun a hat => h_val noA hbk slPlay_3 rfl rfl (by decide) hat (r_assign rfl) fun a hat => h_val noA hbk slPlay_3 rfl rfl (by decide) hat (r_assign rfl) fun a hat => hold_region_end <| hold_retd hb hbf slPlay_fn hat.defers (ret_two slPlay_res hat rfl rfl) ?_
    exact hold_run (he _ hg0 h0)
  refine h_val noA hbk slPlay_2 rfl (opOk_eq (by kernel_rfl)) (by decide) hat (r_bool (t' := false) (r_neq rfl rfl) (by simpa using h0)) fun a hat => hold_region_end <| hold_condF (hat.eval (q := .tmp 15) rfl) rfl <| hold_skip <| hold_seq <| hold_seq <| hold_region (l := [0,1,2,3,4,5]) rfl <| h_val noA hbk slPlay_4 rfl rfl (by decide) hat (r_move rfl) fun a hat => ?_
  by_cases h1 : sh < 0
  · refine h_val noA hbk slPlay_4 rfl rfl (by decide) hat (r_bool (t' := true) (r_lss rfl rfl) (by simp; omega)) fun a hat => h_val noA hbk slPlay_4 rfl rfl (by decide) hat (r_move rfl) fun a hat => hg_no slPlay_4 rfl rfl rfl rfl (by decide) hat fun a hat => hg_no slPlay_4 rfl rfl rfl rfl (by decide) hat fun a hat => h_val noA hbk slPlay_4 rfl rfl (by decide) hat (r_pick rfl rfl) fun a hat => hold_region_end <| hold_condT (hat.eval (q := .tmp 22) rfl) rfl <| hold_seq <| hold_region (l := [0,1]) rfl <| h_val noA hbk slPlay_5 rfl rfl (by decide) hat (r_assign rfl) fun a hat => h_val noA hbk slPlay_5 rfl rfl (by decide) hat (r_assign rfl) fun a hat => hold_region_end <| hold_retd hb hbf slPlay_fn hat.defers (ret_two slPlay_res hat rfl rfl) ?_
    exact hold_run (hbad _ hg0 h0 (.inl h1))
  refine h_val noA hbk slPlay_4 rfl rfl (by decide) hat (r_bool (t' := false) (r_lss rfl rfl) (by simp; omega)) fun a hat => h_val noA hbk slPlay_4 rfl rfl (by decide) hat (r_move rfl) fun a hat => hg_yes noA hbk slPlay_4 rfl rfl rfl rfl (by decide) hat (r_move rfl) fun a hat => ?_
  by_cases h2 : 1000 < sh
  · refine hg_yes noA hbk slPlay_4 rfl rfl rfl rfl (by decide) hat (r_bool (t' := true) (r_gtr rfl rfl) (by simp; omega)) fun a hat => h_val noA hbk slPlay_4 rfl rfl (by decide) hat (r_pick rfl rfl) fun a hat => hold_region_end <| hold_condT (hat.eval (q := .tmp 22) rfl) rfl <| hold_seq <| hold_region (l := [0,1]) rfl <| h_val noA hbk slPlay_5 rfl rfl (by decide) hat (r_assign rfl) fun a hat => h_val noA hbk slPlay_5 rfl rfl (by decide) hat (r_assign rfl) fun a hat => hold_region_end <| hold_retd hb hbf slPlay_fn hat.defers (ret_two slPlay_res hat rfl rfl) ?_
    exact hold_run (hbad _ hg0 h0 (.inr h2))
  refine hg_yes noA hbk slPlay_4 rfl rfl rfl rfl (by decide) hat (r_bool (t' := false) (r_gtr rfl rfl) (by simp; omega)) fun a hat => h_val noA hbk slPlay_4 rfl rfl (by decide) hat (r_pick rfl rfl) fun a hat => hold_region_end <| hold_condF (hat.eval (q := .tmp 22) rfl) rfl <| hold_skip <| hold_seq <| hold_region (l := [0,1,2,3,4]) rfl <| h_val noA hbk slPlay_6 rfl rfl (by decide) hat (r_move rfl) fun a hat => h_val noA hbk slPlay_6 rfl rfl (by decide) hat (r_move rfl) fun a hat => h_callc hbk slPlay_6 rfl (by decide) hat slNew_fn slNew_bd slNew_nm (vals := #[_, _]) rfl fun c hc => slNew_hold (hg0.ready hr) (hg0.at hw) sim_rows fun v cv C lN lU cb hr2 hC hSh => hold_fin hc fun a hat => ?_
  have hG := Grow.refl v
  have hn8 : 1 ≤ n ∧ n ≤ 8 := by
    unfold mayE at h0
    split at h0
    · cases h0
    · split at h0
      · cases h0
      · omega
  refine h_new noA hbk slPlay_6 rfl rfl (by decide) hat al_43 fun v a B9 hB9 hsB9 hg F9 hat => ?_
  have gB9 := Nat.le_trans hG.size (Nat.le_of_eq hB9)
  replace hG := hG.trans hg
  refine h_put noA hbk slPlay_6 rfl rfl hat (p_store st_43 rfl rfl rfl F9 rfl rfl) fun v a hP F9x hat => ?_
  simp only [List.setIfInBounds_toArray, List.set_cons_succ, List.set_cons_zero] at F9x
  replace hG := hG.put hP gB9
  replace F9 := F9x; clear F9x
  refine hold_region_end <| hold_seq <| hold_region (l := [0,1,2,3,4]) rfl <| h_val noA hbk slPlay_7 rfl rfl (by decide) hat (r_move rfl) fun a hat => h_val noA hbk slPlay_7 rfl rfl (by decide) hat (r_len lk_26 rfl) fun a hat => h_news noA hbk slPlay_7 rfl rfl (by decide) hat (r_make1 Try.underlying63 (y := .slice none 0 0) (z := .agg #[.slice none 0 0]) (bytes := 24) (by kernel_rfl) rfl rfl rfl (by omega) (by omega)) fun v a B28 hB28 hsB28 hg F28 hat => ?_
  have n_F28_F9 := ne_new F9 hB28
  have gB28 := Nat.le_trans hG.size (Nat.le_of_eq hB28)
  replace hG := hG.trans hg
  replace F9 := hg.at F9
  refine h_new noA hbk slPlay_7 rfl rfl (by decide) hat al_63 fun v a B10 hB10 hsB10 hg F10 hat => ?_
  have n_F10_F9 := ne_new F9 hB10
  have n_F10_F28 := ne_new F28 hB10
  have gB10 := Nat.le_trans hG.size (Nat.le_of_eq hB10)
  replace hG := hG.trans hg
  replace F9 := hg.at F9
  replace F28 := hg.at F28
  refine h_put noA hbk slPlay_7 rfl rfl hat (p_store st_63 rfl rfl rfl F10 rfl rfl) fun v a hP F10x hat => ?_
  simp only [List.setIfInBounds_toArray, List.set_cons_succ, List.set_cons_zero] at F10x
  replace F9 := hP.keep (by first | exact n_F10_F9 | exact n_F9_F10.symm | exact ne_of_types F9 F10 (by decide) | omega) F9
  replace F28 := hP.keep (by first | exact n_F10_F28 | exact n_F28_F10.symm | exact ne_of_types F28 F10 (by decide) | omega) F28
  replace hG := hG.put hP gB10
  replace F10 := F10x; clear F10x
  refine hold_region_end <| hold_seq <| hold_region (l := [0,1,2,3,4,5]) rfl <| h_val noA hbk slPlay_8 rfl rfl (by decide) hat (r_move rfl) fun a hat => h_val noA hbk slPlay_8 rfl rfl (by decide) hat (r_move rfl) fun a hat => h_val noA hbk slPlay_8 rfl rfl (by decide) hat (mf_26_2 rfl rfl) fun a hat => h_callc hbk slPlay_8 rfl (by decide) hat PRun_fn PRun_bd PRun_nm (vals := #[_, _, _]) rfl fun c hc => ?_
  have hm : slMany sh = sh.toNat := by unfold slMany; omega
  rw [hm] at hC hSh
  obtain ⟨res, hres, K⟩ := hrun h0 (by omega) (by omega)
  have hN1 : sh.toNat ≤ 1000 := by omega
  generalize hmm : sh.toNat = N at *
  clear hm
  generalize hBH : B28 = BH at *
  have hCw := hG.at hC.w
  have hCo := owns_grow hC.owns hG
  simp only [Nat.zero_add, List.nil_append] at hCo
  have hc3 := hG.at hSh.c
  have hnx := owns_grow hSh.nx hG
  have hus := owns_grow hSh.us hG
  simp only [Nat.add_zero] at hnx
  have hmods : Mods (fun b => b = W) u v := hg0.mods.trans ((hC.mods.mono fun b _ h => h.resolve_right fun h => by cases h).trans hG.mods)
  have hsz1 : u.heap.size ≤ _ := Nat.le_trans hg0.size hC.mods.size
  have hchW : ch ≠ W := fun e => by have := hN.c; rw [e, hw] at this; cases this
  have hch3 : v.heap[ch]? = some (.chan 0 #[] false 0 0 false) := hmods.at hchW hN.c
  have hrvW := own_ne hN.owns hw (by decide)
  have hrv3 : v.ownsRow 0 3 1 rv sl.length (ints sl) := ownsRow_keep hN.owns fun b c' hb hc' => (hmods.same b (lt_of_heap hc') fun e => hrvW (by rw [hb, e]))
  have hcells : ∀ j, j < 2 * N + 1 → u.heap.size ≤ cb j ∧ v.heap[cb j]? = some (.cells #[.int .i64 j, .int .i64 (slInit N j : Nat)] 100 (0, 0)) := fun j hj => by
    obtain ⟨c1, c2⟩ := hSh.cells j hj
    exact ⟨Nat.le_trans hg0.size c1, hG.at c2⟩
  have hcvn : cv.ownBlock = none ∨ ∀ b, cv.ownBlock = some b → u.heap.size ≤ b := hC.where_.imp id fun h b hb => Nat.le_trans hg0.size (h b hb)
  have hrd3 := hG.ready hr2
  obtain ⟨X, hXX⟩ : ∃ X : Nat → Prop, ∀ b, X b ↔ (wordsOf W ch rv b ∨ cv.ownBlock = some b ∨ ∃ j, j < 2 * N + 1 ∧ b = cb j) := ⟨_, fun _ => Iff.rfl⟩
  have hX1 : ∀ b, b < u.heap.size → X b → wordsOf W ch rv b := fun b hb h => by
    rcases (hXX b).1 h with h | h | ⟨j, hj, rfl⟩
    · exact h
    · rcases hcvn with h' | h'
      · rw [h'] at h; cases h
      · have := h' b h; omega
    · have := (hcells j hj).1; omega
  have hX2 : ∀ (b : Nat) (arr : Array Value) (t : TypeId) (fr : Nat × Nat), v.heap[b]? = some (.cells arr t fr) → t ≠ 74 → t ≠ 3 → t ≠ 100 → ¬ X b := fun b arr t fr hb n1 n2 n3 h => by
    rcases (hXX b).1 h with (rfl | rfl | h) | h | ⟨j, hj, rfl⟩
    · rw [hCw] at hb; cases hb; exact n1 rfl
    · rw [hch3] at hb; cases hb
    · exact own_ne hrv3 hb n2 h
    · exact own_ne hCo hb n2 h
    · rw [(hcells j hj).2] at hb; cases hb; exact n3 rfl
  have hltW := lt_of_heap hCw
  have hBHs : u.heap.size ≤ BH := Nat.le_trans hsz1 gB28
  have hBHX : ∀ b, X b → b ≠ BH := fun b h e => hX2 _ _ _ _ F28 (by decide) (by decide) (by decide) (e ▸ h)
  have hsX : ∀ b, wordsOf W ch rv b ∨ cv.ownBlock = some b ∨ (∃ j, j < 2 * N + 1 ∧ b = cb j) → ownM X BH b = .sys := fun b h => ownM_sys (hBHX b ((hXX b).2 h)) ((hXX b).2 h)
  have hcX : ∀ (b : Nat) (arr : Array Value) (t : TypeId) (fr : Nat × Nat), v.heap[b]? = some (.cells arr t fr) → t ≠ 74 → t ≠ 3 → t ≠ 100 → t ≠ 68 → ownM X BH b = .const := fun b arr t fr hb n1 n2 n3 n4 => ownM_const (fun e => by rw [e, F28] at hb; cases hb; exact n4 rfl) (hX2 b arr t fr hb n1 n2 n3)
  have hcvW := own_ne hCo hCw (by decide)
  have hWN : WNew ⟨W, ch, N0, fun _ => 0, fun _ => 0, cb, 2 * N + 1, ownM X BH⟩ (slSys sl N) v := by
    refine ⟨rv, .int .i64 0, .int .i64 (-1), cv, .slice none 0 0, .slice none 0 0, .bool false, hCw, ⟨fun r x y hr => ?_, ⟨rv, cv, .slice none 0 0, .slice none 0 0, stand_at hltW, ownsRow_keep hrv3 fun b _ hb hb' => stand_ne fun e => ?_, ?_, ⟨rfl, .inl ⟨rfl, rfl⟩⟩, ⟨rfl, .inl ⟨rfl, rfl⟩⟩, fun b hb => hsX b (.inl (.inr (.inr hb))), fun b hb => hsX b (.inr (.inl hb)), fun b hb => by (cases hb), fun b hb => by (cases hb), ?_⟩, fun j t h => by simp [slSys] at h, ⟨⟨0, (stand_ne hchW).trans hch3⟩, hsX _ (.inl (.inr (.inl rfl))), hsX _ (.inl (.inl rfl))⟩, fun c x hc => ?_, Nat.zero_le _, fun x hx => ?_, fun i j hi => by simp [slSys] at hi, fun i hi => by simp [slSys] at hi, by simp [slSys], fun x hx => ?_⟩⟩
    · by_cases e : r = W
      · rw [e, stand_at hltW] at hr; cases hr
      · rw [stand_ne e] at hr; exact hrd3 r x y hr
    · exact own_ne hrv3 hCw (by decide) (by rw [hb, e])
    · have e0 : (slSys sl N).cnt.length = 2 * N + 1 := by simp [slSys]
      have e1 : ints (slSys sl N).cnt = List.replicate (2 * N + 1) (.int .i64 0) := by simp [slSys, ints]
      rw [e0, e1]
      exact ownsRow_keep hCo fun b _ hb hb' => stand_ne fun e => hcvW (by rw [hb, e])
    · rcases hcvn with h | h
      · by_cases e : rv.ownBlock = none
        · exact .inl e
        · right; rw [h]; exact e
      · by_cases e : rv.ownBlock = none
        · exact .inl e
        · right
          intro e2
          obtain ⟨b, hb⟩ := Option.ne_none_iff_exists'.1 e
          have := own_lt hN.owns hb
          have := h b (by rw [← e2]; exact hb)
          omega
    · have hcm : c < 2 * N + 1 := by have := (List.getElem?_eq_some_iff.1 hc).1; simpa [slSys] using this
      have hx0 : x = (slInit N c : Nat) := by
        simp only [slSys, List.getElem?_map, List.getElem?_range hcm, Option.map_some, Option.some.injEq] at hc
        exact hc.symm
      subst hx0
      obtain ⟨c1, c2⟩ := hcells c hcm
      exact ⟨(stand_ne fun (e : cb c = W) => by rw [e, hCw] at c2; injection c2 with c2; injection c2 with q1 q2; exact absurd q2 (by decide)).trans c2, hsX _ (.inr (.inr ⟨c, hcm, rfl⟩))⟩
    · simp [slSys] at hx; rw [hx]; decide
    · simp only [slSys, List.mem_map, List.mem_range] at hx
      obtain ⟨c, hc, rfl⟩ := hx
      have := slInit_le (N := N) (c := c) hN1
      omega
  have hlow : ∀ j, j < 2 * N + 1 → cb j < v.heap.size := fun j hj => lt_of_heap (hcells j hj).2
  have hSE : ∃ gN gU cn cu aN aU, SEnv C gN gU cn cu N aN aU cb ⟨W, ch, N0, fun _ => 0, fun _ => 0, cb, 2 * N + 1, ownM X BH⟩ v := by
    have row : ∀ (lv : Value) (f : Nat → Nat), v.ownsRow 0 77 1 lv N (cRow f N) → ∃ g c a, lv = .slice a N c ∧ (0 < N → a = some ⟨g, 0, none⟩ ∧ CRow g N f ⟨W, ch, N0, fun _ => 0, fun _ => 0, cb, 2 * N + 1, ownM X BH⟩ v) := fun lv f h => by
      rcases h.2 with ⟨rfl, h0⟩ | ⟨g, cap', cur, rfl, _, hg', hcap, hcapm, hsz, htk⟩
      · exact ⟨0, 0, none, by rw [h0], fun h => by omega⟩
      · refine ⟨g, cap', _, rfl, fun _ => ⟨rfl, ⟨cur, _, hg', fun j hj => ?_⟩, hcX _ _ _ _ hg' (by decide) (by decide) (by decide) (by decide)⟩⟩
        have h1 : (cur.toList.take (N * 1))[j]? = some (.pointer (some ⟨f j, 0, none⟩)) := by rw [htk]; simp [cRow, hj]
        rw [List.getElem?_take_of_lt (by omega)] at h1
        simpa using h1
    obtain ⟨gN, cn, aN, rfl, hN'⟩ := row _ _ hnx
    obtain ⟨gU, cu, aU, rfl, hU'⟩ := row _ _ hus
    exact ⟨gN, gU, cn, cu, aN, aU, ⟨hc3, hcX _ _ _ _ hc3 (by decide) (by decide) (by decide) (by decide)⟩, hN', hU', fun c hc => ⟨rfl, hlow c hc⟩, hN1, Nat.le_refl _⟩
  obtain ⟨gN, gU, cn, cu, aN, aU, hSE⟩ := hSE
  have hHand : ∀ i, i < n → Hand0 i BH ⟨W, ch, N0, fun _ => 0, fun _ => 0, cb, 2 * N + 1, ownM X BH⟩ v := fun i hi => ⟨⟨lt_of_heap F28, ownM_mixed⟩, (cell_at' F28).trans (madeCells_get _ _ _ hi), by rw [frozen_at' F28]; simp⟩
  have hCE : ∀ i, i < n → SEnvA i B9 B10 BH n n C gN gU cn cu N aN aU cb (l i) [] ⟨W, ch, N0, fun _ => 0, fun _ => 0, cb, 2 * N + 1, ownM X BH⟩ v := fun i hi =>
    ⟨⟨⟨F9, hcX _ _ _ _ F9 (by decide) (by decide) (by decide) (by decide)⟩, ⟨F10, hcX _ _ _ _ F10 (by decide) (by decide) (by decide) (by decide)⟩, hSE, by rw [handOf_nil]; exact (hHand i hi).at⟩, fun _ => hHand i hi⟩
  have hlen : ∀ j, j < n → (l j).length ≤ 64 := fun j hj => by
    unfold mayE at h0
    split at h0
    · cases h0
    · rename_i hno
      by_cases h : (l j).length ≤ 64
      · exact h
      · exact absurd ⟨j, hj, (by show 64 < (l j).length; omega)⟩ hno
  obtain ⟨ad', cp', hsve, hat0⟩ := hS.at_
  cases hsve
  obtain ⟨sb, so, rfl, _⟩ := hat0 0 (by omega)
  have hsbW := hsb (by omega) sb so cp rfl
  have hkeep : ∀ b, b < u.heap.size → ¬ wordsOf W ch rv b → v.heap[b]? = u.heap[b]? := fun b hb hx => hmods.same b hb fun e => hx (.inl e)
  have hkc : ∀ B O x, u.cell? ⟨B, O, none⟩ = some x → ¬ wordsOf W ch rv B → v.cell? ⟨B, O, none⟩ = some x := fun B O x hx hn => (cell_same (hkeep B (cell_low hx) hn)).trans hx
  refine hold_run (PRun_run (Γ := ⟨W, ch, N0, fun _ => 0, fun _ => 0, cb, 2 * N + 1, ownM X BH⟩) ⟨n, fun _ => 0, fun _ => 0, 0, 0, 0, lv, slotsV B9 B10, fun i acc => slotsP fu N (handOf (l i) acc), l, fun i => SEnvA i B9 B10 BH n n C gN gU cn cu N aN aU cb (l i), BH⟩ (by show 0 < n; omega) (by show n ≤ 1000; omega) (fun ob i hi => slots_doA fu (hlen i hi) hi) (fun i Γ v Γ' v' h hR => h.stay0 hR.stay fun h => h.keepU hR) rfl hWN rfl ⟨hsl.1, hsl.2⟩ hN0 hI (lt_of_heap F28) (fun i Γ' v' hi hX => (hCE i hi).stay0 hX.stay fun h => h.ext hX) (fun j hj => ?_) (fun j hj => ?_) hres c (c0 :: cs) fun Γ' v' I' ob hWI hI' hlr hfin hM hob => ?_)
  · obtain ⟨B, O, e1, e2⟩ := hat0 j hj
    cases e1
    exact hkc _ _ _ e2 hsbW
  · obtain ⟨a', cap', e1, e2⟩ := hscr j hj
    refine ⟨a', cap', e1, hlen j hj, fun x y hx => ?_⟩
    obtain ⟨B, O, g1, g2, g3, g4, g5, g6, g7⟩ := e2 x y hx
    exact ⟨B, O, g1, Nat.lt_of_lt_of_le g2 hmods.size, ownM_const (by omega) fun h => g3 (hX1 B g2 h), hkc _ _ _ g4 g3, hkc _ _ _ g5 g3, hkc _ _ _ g6 g3, hkc _ _ _ g7 g3⟩
  · refine Run.of_hold <| hold_fin hc fun a hat => h_val noA hbk slPlay_8 rfl rfl (by decide) hat (r_assign rfl) fun a hat => h_val noA hbk slPlay_8 rfl rfl (by decide) hat (r_assign rfl) fun a hat => hold_region_end <| hold_retd hb hbf slPlay_fn hat.defers (ret_two slPlay_res hat rfl rfl) ?_
    exact hold_run (K Γ' v' I' ob hWI hI' hlr hfin (fun b hb hx => (hM.keep b (Nat.lt_of_lt_of_le hb hmods.size) (.inr (ownM_const (by omega) fun h => hx (hX1 b hb h)))).trans (hkeep b hb hx)) hM.same.1 (Nat.le_trans hmods.size hob))
end
end Go.Proofs.Ytecdiejeofclaaa


/- slots' awake. -/
namespace Go.Proofs.Ytecdiejeofclaaa
open Go Go.Conc
def awakeSl : List ACall := [⟨1, 0, 0, 0⟩, ⟨1, 0, 0, 0⟩, ⟨3, 0, 0, 0⟩, ⟨3, 0, 0, 0⟩, ⟨2, 0, 0, 0⟩]
theorem awakeSl_runs : (runs 60 (slSys [] 1) (slProgs 8 1 1 fun _ => awakeSl)).map (·.2) = some [[(0, 0), (80, 0), (0, 0), (1, 0), (81, 0)]] := by kernel_rfl
theorem r_eqAns {e : Env} {q q' : Operand} {t' : TypeId} {v : World} {x0 x1 y0 y1 : Int} (h : opv e q = some (.agg #[.int .i64 x0, .int .i64 x1])) (h' : opv e q' = some (.agg #[.int .i64 y0, .int .i64 y1])) (he : x0 = y0 ∧ x1 = y1) : RunsTo Try.prog e (.binOp .eql 37 q q' t') v (.value (.bool true)) v := fun ρ o hρ ho t d => by
  simp only [execOp, ho, hρ _ _ h, hρ _ _ h']
  simp [go_sem, he]
section
variable {Done : Goroutine → World → Prop}
theorem slAwake_run {u : World} {N : Nat} (hr : Ready0 u) (hN0 : 0 < N) {I : Inbs} (hI : ∀ x, x ≠ 0 → I x = none) {c0 : Frame} {cs : List Frame}
    (K : ∀ v' I', (∀ x, x ≠ 0 → I' x = none) → Grow u v' → Run Try.prog Done S0 0 (N + 1) I' (G (c0.finish (.bool true)) cs) v') :
    Run Try.prog Done S0 0 N I (G (Frame.enter Try.prog 7 #[] .normal) (c0 :: cs)) u := by
  refine Run.of_hold ?_
  obtain ⟨b, a, hEq, hb, hbf, hat⟩ := enter_is slAwake_fn slAwake_body slAwake_tmps #[] [] rfl (by simp)
  rw [hEq]
  have hbk := not_early hb
  refine hold_unf slAwake_code_def <| hold_seq <| hold_region (l := [0]) rfl <| h_val noA hbk slAwake_0 rfl rfl (by decide) hat (r_assign rfl) fun a hat => hold_region_end <| hold_seq <| hold_region (l := [0,1]) rfl <| h_callc hbk slAwake_1 rfl (by decide) hat wNew_fn wNew_bd wNew_nm (vals := #[_]) rfl fun c hc => wNew_hold (sl := []) hr ⟨rfl, .inl ⟨0, rfl, rfl⟩, by simp [ints]⟩ (by decide) fun v W ch rv hg1 hw hWl hcl hch hrv hrvn hrvW => hold_fin hc fun a hat => ?_
  have hG := Grow.refl v
  refine h_val noA hbk slAwake_1 rfl rfl (by decide) hat (r_assign rfl) fun a hat => hold_region_end <| hold_seq <| hold_region (l := [0,1,2,3,4,5,6,7,8,9,10,11,12,13]) rfl <| h_val noA hbk slAwake_2 rfl rfl (by decide) hat (r_move rfl) fun a hat => h_val noA hbk slAwake_2 rfl rfl (by decide) hat (bu_39_0 rfl rfl) fun a hat => h_val noA hbk slAwake_2 rfl rfl (by decide) hat (bu_39_0 rfl rfl) fun a hat => h_val noA hbk slAwake_2 rfl rfl (by decide) hat (bu_39_0 rfl rfl) fun a hat => h_val noA hbk slAwake_2 rfl rfl (by decide) hat (bu_39_0 rfl rfl) fun a hat => h_val noA hbk slAwake_2 rfl rfl (by decide) hat (bu_39_0 rfl rfl) fun a hat => h_news noA hbk slAwake_2 rfl rfl (by decide) hat (bs_25_5_0_1_2_3_4 rfl rfl rfl rfl rfl) fun v a B12 hB12 hsB12 hg F12 hat => ?_
  have gB12 := Nat.le_trans hG.size (Nat.le_of_eq hB12)
  replace hG := hG.trans hg
  refine h_news noA hbk slAwake_2 rfl rfl (by decide) hat (bs_26_1_0 rfl rfl) fun v a B13 hB13 hsB13 hg F13 hat => ?_
  have n_F13_F12 := ne_new F12 hB13
  have gB13 := Nat.le_trans hG.size (Nat.le_of_eq hB13)
  replace hG := hG.trans hg
  replace F12 := hg.at F12
  refine h_callc hbk slAwake_2 rfl (by decide) hat slPlay_fn slPlay_bd slPlay_nm (vals := #[_, _, _]) rfl fun c hc => ?_
  have hne : ∀ {b arr t fr}, v.heap[b]? = some (.cells arr t fr) → t ≠ 74 → t ≠ 3 → ¬ wordsOf W ch rv b := fun {b arr t fr} hb n1 n2 h => by
    rcases h with rfl | rfl | h
    · rw [hG.at hw] at hb; cases hb; exact n1 rfl
    · rw [hG.at hch] at hb; cases hb
    · exact own_ne (owns_grow hrv hG) hb n2 h
  have hwl : ∀ b, wordsOf W ch rv b → u.heap.size ≤ b := fun b h => by
    rcases h with rfl | rfl | h
    · exact hWl
    · exact hcl
    · exact hrvn b h
  have hm0 : mayE 1 (fun j => awakeSl.length) false = 0 := by
    unfold mayE
    rw [if_neg, if_neg (by decide)]
    rintro ⟨j, hj, h⟩
    exact absurd h (show ¬ 64 < awakeSl.length by decide)
  have hlen := hG.size
  refine hold_run (slPlay_run (fu := 8) (f := 60) (l := fun _ => awakeSl) (lv := fun _ => .slice (some ⟨B12, 0, none⟩) 5 5) (hG.ready (hg1.ready hr)) ⟨hG.at hw, hG.at hch, owns_grow hrv hG⟩ ⟨by simp, by decide⟩ hN0 hI ⟨⟨_, _, rfl, fun j hj => ⟨B13, 0, rfl, ?_⟩⟩, fun j hj => ⟨_, _, rfl⟩, by decide, fun j hj => (by decide : awakeSl.length ≤ maxLen)⟩ ⟨_, _, rfl⟩ (fun _ B O cp h => ?_) (fun j hj => ?_) (fun v' _ h => absurd hm0 h) (fun v' _ _ h => by omega) (fun _ _ _ => ?_))
  · obtain rfl : j = 0 := by omega
    exact cell_at' F13
  · cases h
    exact hne F13 (by decide) (by decide)
  · refine ⟨_, _, rfl, fun i x hx => ⟨B12, 0, rfl, lt_of_heap F12, hne F12 (by decide) (by decide), ?_⟩⟩
    have hi : i < 5 := (List.getElem?_eq_some_iff.1 hx).1
    rcases (show i = 0 ∨ i = 1 ∨ i = 2 ∨ i = 3 ∨ i = 4 by omega) with rfl | rfl | rfl | rfl | rfl <;> (cases hx; exact ⟨cell_at' F12, cell_at' F12, cell_at' F12, cell_at' F12⟩)
  · obtain ⟨⟨A', rs⟩, hA', hrs⟩ := Option.map_eq_some_iff.1 awakeSl_runs
    refine ⟨(A', rs), hA', ?_⟩
    simp only at hrs
    subst hrs
    intro Γ' v2 I' ob hWI hI' hlr hfin hkeep hW' hob
    refine Run.of_hold <| hold_fin hc fun a hat => ?_
    have hwl' : ∀ b, b < u.heap.size → ¬ wordsOf W ch rv b := fun b hb h => by have := hwl b h; omega
    have hG1 : Grow u v2 := ⟨Nat.le_trans hg1.size (Nat.le_trans hG.size (Nat.le_trans hob (Nat.le_of_lt (hfin 0 _ rfl).1.1))), fun b hb => (hkeep b (Nat.lt_of_lt_of_le hb (Nat.le_trans hg1.size hG.size)) (hwl' b hb)).trans ((hG.same b (Nat.lt_of_lt_of_le hb hg1.size)).trans (hg1.same b hb)), fun _ => hWI.ready⟩
    obtain ⟨ad, cap, hav, hA0⟩ := anssAt_fin hlr hfin
    obtain ⟨B, O, x, rfl, hx0, ad1, cap1, rfl, hA1⟩ := hA0 0 _ rfl
    simp only [Nat.add_zero] at hx0
    have hG := Grow.refl v2
    cases hav
    refine h_val noA hbk slAwake_2 rfl rfl (by decide) hat (r_move rfl) fun a hat => h_val noA hbk slAwake_2 rfl rfl (by decide) hat (r_extract rfl rfl) fun a hat => h_val noA hbk slAwake_2 rfl rfl (by decide) hat (r_extract rfl rfl) fun a hat => h_val noA hbk slAwake_2 rfl rfl (by decide) hat (r_assign rfl) fun a hat => h_val noA hbk slAwake_2 rfl rfl (by decide) hat (r_assign rfl) fun a hat => hold_region_end <| hold_seq <| hold_seq <| hold_region (l := [0,1,2,3,4,5,6,7,8,9,10,11,12,13]) rfl <| h_val noA hbk slAwake_3 rfl rfl (by decide) hat (r_move rfl) fun a hat => h_val noA hbk slAwake_3 rfl (opOk_eq (by kernel_rfl)) (by decide) hat (r_bool (t' := false) (r_neq rfl rfl) (by first | (simp; omega) | (simp; done) | (simp_all; done) | (simp_all; omega))) fun a hat => h_val noA hbk slAwake_3 rfl rfl (by decide) hat (r_move rfl) fun a hat => hg_yes noA hbk slAwake_3 rfl rfl rfl rfl (by decide) hat (r_move rfl) fun a hat => ?_
    refine hg_yes noA hbk slAwake_3 rfl rfl rfl rfl (by decide) hat (r_len lk_29 rfl) fun a hat => hg_yes noA hbk slAwake_3 rfl rfl rfl (opOk_eq (by kernel_rfl)) (by decide) hat (r_bool (t' := false) (r_neq rfl rfl) (by first | (simp; omega) | (simp; done) | (simp_all; done) | (simp_all; omega))) fun a hat => h_val noA hbk slAwake_3 rfl rfl (by decide) hat (r_pick rfl rfl) fun a hat => h_val noA hbk slAwake_3 rfl rfl (by decide) hat (r_move rfl) fun a hat => hg_yes noA hbk slAwake_3 rfl rfl rfl rfl (by decide) hat (r_move rfl) fun a hat => hg_yes noA hbk slAwake_3 rfl rfl rfl rfl (by decide) hat (r_index ix_29 rfl rfl (by decide) (by decide)) fun a hat => hg_yes noA hbk slAwake_3 rfl rfl rfl rfl (by decide) hat (r_load ld_34 rfl hx0) fun a hat => hg_yes noA hbk slAwake_3 rfl rfl rfl rfl (by decide) hat (r_len lk_34 rfl) fun a hat => hg_yes noA hbk slAwake_3 rfl rfl rfl (opOk_eq (by kernel_rfl)) (by decide) hat (r_bool (t' := false) (r_neq rfl rfl) (by first | (simp; omega) | (simp; done) | (simp_all; done) | (simp_all; omega))) fun a hat => ?_
    obtain ⟨B1, O1, rfl⟩ : ∃ B1 O1, ad1 = some ⟨B1, O1, none⟩ := by
      obtain ⟨B, O, e, _⟩ := hA1 0 (0, 0) rfl
      exact ⟨B, O, e⟩
    have hA1 : ∀ (j : Nat) (x : Int × Int), [((0 : Int), (0 : Int)), (80, 0), (0, 0), (1, 0), (81, 0)][j]? = some x → v2.cell? ⟨B1, O1 + j * 2, none⟩ = some (.int .i64 x.1) ∧ v2.cell? ⟨B1, O1 + j * 2 + 1, none⟩ = some (.int .i64 x.2) := fun j x hx => by
      obtain ⟨B, O, e, h⟩ := hA1 j x hx
      cases e
      exact h
    refine h_val noA hbk slAwake_3 rfl rfl (by decide) hat (r_pick rfl rfl) fun a hat => hold_region_end <| hold_condF (hat.eval (q := .tmp 30) rfl) rfl <| hold_skip <| hold_seq <| hold_region (l := [0,1,2,3,4,5,6,7,8,9,10,11,12,13,14,15,16,17,18,19,20,21,22,23,24,25,26,27,28,29,30,31,32,33,34,35,36,37,38,39,40,41,42,43]) rfl <| h_val noA hbk slAwake_5 rfl rfl (by decide) hat (r_move rfl) fun a hat => h_val noA hbk slAwake_5 rfl rfl (by decide) hat (r_index ix_29 rfl rfl (by decide) (by decide)) fun a hat => h_val noA hbk slAwake_5 rfl rfl (by decide) hat (r_load ld_34 rfl hx0) fun a hat => h_val noA hbk slAwake_5 rfl rfl (by decide) hat (r_index ix_34 rfl rfl (by decide) (by decide)) fun a hat => h_val noA hbk slAwake_5 rfl rfl (by decide) hat (x_load_ans rfl (hA1 0 (0, 0) rfl).1 (hA1 0 (0, 0) rfl).2) fun a hat => h_val noA hbk slAwake_5 rfl rfl (by decide) hat bu_37 fun a hat => h_val noA hbk slAwake_5 rfl (opOk_eq (by kernel_rfl)) (by decide) hat (r_eqAns rfl rfl ⟨rfl, rfl⟩) fun a hat => ?_
    refine h_val noA hbk slAwake_5 rfl rfl (by decide) hat (r_move rfl) fun a hat => hg_yes noA hbk slAwake_5 rfl rfl rfl rfl (by decide) hat (r_move rfl) fun a hat => hg_yes noA hbk slAwake_5 rfl rfl rfl rfl (by decide) hat (r_index ix_29 rfl rfl (by decide) (by decide)) fun a hat => hg_yes noA hbk slAwake_5 rfl rfl rfl rfl (by decide) hat (r_load ld_34 rfl hx0) fun a hat => hg_yes noA hbk slAwake_5 rfl rfl rfl rfl (by decide) hat (r_index ix_34 rfl rfl (by decide) (by decide)) fun a hat => hg_yes noA hbk slAwake_5 rfl rfl rfl rfl (by decide) hat (r_field fk_37_0 rfl) fun a hat => hg_yes noA hbk slAwake_5 rfl rfl rfl rfl (by decide) hat (r_load ld_24 rfl (hA1 1 (80, 0) rfl).1) fun a hat => hg_yes noA hbk slAwake_5 rfl rfl rfl (opOk_eq (by kernel_rfl)) (by decide) hat (r_bool (t' := true) (r_eql rfl rfl) (by first | (simp; omega) | (simp; done) | (simp_all; done) | (simp_all; omega))) fun a hat => ?_
    refine h_val noA hbk slAwake_5 rfl rfl (by decide) hat (r_pick rfl rfl) fun a hat => h_val noA hbk slAwake_5 rfl rfl (by decide) hat (r_move rfl) fun a hat => hg_yes noA hbk slAwake_5 rfl rfl rfl rfl (by decide) hat (r_move rfl) fun a hat => hg_yes noA hbk slAwake_5 rfl rfl rfl rfl (by decide) hat (r_index ix_29 rfl rfl (by decide) (by decide)) fun a hat => hg_yes noA hbk slAwake_5 rfl rfl rfl rfl (by decide) hat (r_load ld_34 rfl hx0) fun a hat => hg_yes noA hbk slAwake_5 rfl rfl rfl rfl (by decide) hat (r_index ix_34 rfl rfl (by decide) (by decide)) fun a hat => hg_yes noA hbk slAwake_5 rfl rfl rfl rfl (by decide) hat (x_load_ans rfl (hA1 2 (0, 0) rfl).1 (hA1 2 (0, 0) rfl).2) fun a hat => hg_yes noA hbk slAwake_5 rfl rfl rfl rfl (by decide) hat bu_37 fun a hat => hg_yes noA hbk slAwake_5 rfl rfl rfl (opOk_eq (by kernel_rfl)) (by decide) hat (r_eqAns rfl rfl ⟨rfl, rfl⟩) fun a hat => ?_
    refine h_val noA hbk slAwake_5 rfl rfl (by decide) hat (r_pick rfl rfl) fun a hat => h_val noA hbk slAwake_5 rfl rfl (by decide) hat (r_move rfl) fun a hat => hg_yes noA hbk slAwake_5 rfl rfl rfl rfl (by decide) hat (r_move rfl) fun a hat => hg_yes noA hbk slAwake_5 rfl rfl rfl rfl (by decide) hat (r_index ix_29 rfl rfl (by decide) (by decide)) fun a hat => hg_yes noA hbk slAwake_5 rfl rfl rfl rfl (by decide) hat (r_load ld_34 rfl hx0) fun a hat => hg_yes noA hbk slAwake_5 rfl rfl rfl rfl (by decide) hat (r_index ix_34 rfl rfl (by decide) (by decide)) fun a hat => hg_yes noA hbk slAwake_5 rfl rfl rfl rfl (by decide) hat (r_field fk_37_0 rfl) fun a hat => hg_yes noA hbk slAwake_5 rfl rfl rfl rfl (by decide) hat (r_load ld_24 rfl (hA1 3 (1, 0) rfl).1) fun a hat => hg_yes noA hbk slAwake_5 rfl rfl rfl (opOk_eq (by kernel_rfl)) (by decide) hat (r_bool (t' := true) (r_eql rfl rfl) (by first | (simp; omega) | (simp; done) | (simp_all; done) | (simp_all; omega))) fun a hat => ?_
    refine h_val noA hbk slAwake_5 rfl rfl (by decide) hat (r_pick rfl rfl) fun a hat => h_val noA hbk slAwake_5 rfl rfl (by decide) hat (r_move rfl) fun a hat => hg_yes noA hbk slAwake_5 rfl rfl rfl rfl (by decide) hat (r_move rfl) fun a hat => hg_yes noA hbk slAwake_5 rfl rfl rfl rfl (by decide) hat (r_index ix_29 rfl rfl (by decide) (by decide)) fun a hat => hg_yes noA hbk slAwake_5 rfl rfl rfl rfl (by decide) hat (r_load ld_34 rfl hx0) fun a hat => hg_yes noA hbk slAwake_5 rfl rfl rfl rfl (by decide) hat (r_index ix_34 rfl rfl (by decide) (by decide)) fun a hat => hg_yes noA hbk slAwake_5 rfl rfl rfl rfl (by decide) hat (r_field fk_37_0 rfl) fun a hat => hg_yes noA hbk slAwake_5 rfl rfl rfl rfl (by decide) hat (r_load ld_24 rfl (hA1 4 (81, 0) rfl).1) fun a hat => hg_yes noA hbk slAwake_5 rfl rfl rfl (opOk_eq (by kernel_rfl)) (by decide) hat (r_bool (t' := true) (r_eql rfl rfl) (by first | (simp; omega) | (simp; done) | (simp_all; done) | (simp_all; omega))) fun a hat => ?_
    refine h_val noA hbk slAwake_5 rfl rfl (by decide) hat (r_pick rfl rfl) fun a hat => h_val noA hbk slAwake_5 rfl rfl (by decide) hat (r_assign rfl) fun a hat => hold_region_end <| hold_retd hb hbf slAwake_fn hat.defers (ret_one slAwake_res hat rfl) ?_
    exact hold_run (K _ I' hI' (hG1.trans hG))
end
end Go.Proofs.Ytecdiejeofclaaa


/- SlotsNames: the law's function. -/
namespace Go.Proofs.Ytecdiejeofclaaa
open Go Go.Conc
theorem slNames_inits : Try.prog.inits.idxOf? 3 = none := by kernel_rfl
section
variable {S : Addr → Prop} {main : Bool} {Stop : Goroutine → World → Prop} {cs : List Frame} {c : Frame} {v : World}
theorem slNum_hold {x : Int} (H : Hold Try.prog main S Stop (G (c.finish (.int .i64 x)) cs) v) : Hold Try.prog main S Stop (G (Frame.enter Try.prog 8 #[.int .i64 x] .normal) (c :: cs)) v := by
  obtain ⟨b, a, hEq, hb, hbf, hat⟩ := enter_is slNum_fn slNum_body slNum_tmps #[.int .i64 x] [(0, .int .i64 x)] rfl (by simp)
  rw [hEq]
  have hbk := not_early hb
  refine hold_unf slNum_code_def <| hold_seq <| hold_region (l := [0]) rfl <| h_val noA hbk slNum_0 rfl rfl (by decide) hat (r_assign rfl) fun a hat => hold_region_end <| hold_seq <| hold_region (l := [0,1]) rfl <| h_val noA hbk slNum_1 rfl rfl (by decide) hat (r_move rfl) fun a hat => h_val noA hbk slNum_1 rfl rfl (by decide) hat (r_assign rfl) fun a hat => hold_region_end <| hold_retd hb hbf slNum_fn hat.defers (ret_one slNum_res hat rfl) ?_
  exact H
end
theorem slNames_run {u W0 : World} (hr : Ready0 u) :
    Run Try.prog (AtDone Try.prog W0 (AlonePost u W0)) S0 0 1 (fun _ => none) (G (Frame.enter Try.prog 3 #[] .normal) []) u := by
  refine Run.of_hold ?_
  obtain ⟨b, a, hEq, hb, hbf, hat⟩ := enter_is slNames_fn slNames_body slNames_tmps #[] [] rfl (by simp)
  rw [hEq]
  have hbk := not_early hb
  refine hold_unf slNames_code_def <| hold_seq <| hold_region (l := [0]) rfl <| h_val noA hbk slNames_0 rfl rfl (by decide) hat (r_assign rfl) fun a hat => hold_region_end <| hold_seq <| hold_region (l := [0,1]) rfl <| h_callc hbk slNames_1 rfl (by decide) hat slAwake_fn slAwake_bd slAwake_nm (vals := #[]) rfl fun c hc => ?_
  refine hold_run (slAwake_run hr (by decide) (fun _ _ => rfl) fun v I' hI' hG => ?_)
  refine Run.of_hold <| hold_fin hc fun a hat => h_val noA hbk slNames_1 rfl rfl (by decide) hat (r_assign rfl) fun a hat => hold_region_end <| hold_seq <| hold_region (l := [0,1,2,3,4,5,6,7,8,9,10,11,12,13,14,15,16,17,18,19,20,21,22,23]) rfl <| h_val noA hbk slNames_2 rfl rfl (by decide) hat (r_move rfl) fun a hat => h_val noA hbk slNames_2 rfl rfl (by decide) hat (r_move rfl) fun a hat => hg_callc hbk slNames_2 rfl rfl rfl (by decide) hat slNum_fn slNum_bd slNum_nm (vals := #[_]) rfl fun c hc => slNum_hold <| hold_fin hc fun a hat => hg_yes noA hbk slNames_2 rfl rfl rfl (opOk_eq (by kernel_rfl)) (by decide) hat (r_bool (t' := true) (r_eql rfl rfl) (by first | (simp; omega) | (simp; done) | (simp_all; done) | (simp_all; omega))) fun a hat => h_val noA hbk slNames_2 rfl rfl (by decide) hat (r_pick rfl rfl) fun a hat => ?_
  refine h_val noA hbk slNames_2 rfl rfl (by decide) hat (r_move rfl) fun a hat => hg_callc hbk slNames_2 rfl rfl rfl (by decide) hat slNum_fn slNum_bd slNum_nm (vals := #[_]) rfl fun c hc => slNum_hold <| hold_fin hc fun a hat => hg_yes noA hbk slNames_2 rfl rfl rfl (opOk_eq (by kernel_rfl)) (by decide) hat (r_bool (t' := true) (r_eql rfl rfl) (by first | (simp; omega) | (simp; done) | (simp_all; done) | (simp_all; omega))) fun a hat => h_val noA hbk slNames_2 rfl rfl (by decide) hat (r_pick rfl rfl) fun a hat => h_val noA hbk slNames_2 rfl rfl (by decide) hat (r_move rfl) fun a hat => hg_callc hbk slNames_2 rfl rfl rfl (by decide) hat slNum_fn slNum_bd slNum_nm (vals := #[_]) rfl fun c hc => slNum_hold <| hold_fin hc fun a hat => hg_yes noA hbk slNames_2 rfl rfl rfl (opOk_eq (by kernel_rfl)) (by decide) hat (r_bool (t' := true) (r_eql rfl rfl) (by first | (simp; omega) | (simp; done) | (simp_all; done) | (simp_all; omega))) fun a hat => ?_
  refine h_val noA hbk slNames_2 rfl rfl (by decide) hat (r_pick rfl rfl) fun a hat => h_val noA hbk slNames_2 rfl rfl (by decide) hat (r_move rfl) fun a hat => hg_callc hbk slNames_2 rfl rfl rfl (by decide) hat slNum_fn slNum_bd slNum_nm (vals := #[_]) rfl fun c hc => slNum_hold <| hold_fin hc fun a hat => hg_yes noA hbk slNames_2 rfl rfl rfl (opOk_eq (by kernel_rfl)) (by decide) hat (r_bool (t' := true) (r_eql rfl rfl) (by first | (simp; omega) | (simp; done) | (simp_all; done) | (simp_all; omega))) fun a hat => h_val noA hbk slNames_2 rfl rfl (by decide) hat (r_pick rfl rfl) fun a hat => h_val noA hbk slNames_2 rfl rfl (by decide) hat (r_move rfl) fun a hat => hg_callc hbk slNames_2 rfl rfl rfl (by decide) hat slNum_fn slNum_bd slNum_nm (vals := #[_]) rfl fun c hc => slNum_hold <| hold_fin hc fun a hat => hg_yes noA hbk slNames_2 rfl rfl rfl (opOk_eq (by kernel_rfl)) (by decide) hat (r_bool (t' := true) (r_eql rfl rfl) (by first | (simp; omega) | (simp; done) | (simp_all; done) | (simp_all; omega))) fun a hat => ?_
  refine h_val noA hbk slNames_2 rfl rfl (by decide) hat (r_pick rfl rfl) fun a hat => h_val noA hbk slNames_2 rfl rfl (by decide) hat (r_move rfl) fun a hat => h_val noA hbk slNames_2 rfl rfl (by decide) hat (r_pick rfl rfl) fun a hat => h_val noA hbk slNames_2 rfl rfl (by decide) hat (r_assign rfl) fun a hat => hold_region_end ?_
  exact law_end hI' hG hb (by rw [hbf]; exact slNames_fn) (by rw [hbf]; exact slNames_inits) slNames_res hat rfl
end Go.Proofs.Ytecdiejeofclaaa


/- What stands in an argument: a schedule; scripts. -/
namespace Go.Proofs.Ytecdiejeofclaaa
open Go Go.ChangeShapes Go.WideShapes Go.ChangeAt Go.RowKit Go.Conc Go.ConcN
theorem a_own : ownKnob Try.prog.godebug = none := by kernel_rfl
/-- Variables that are not laid yet are out of sight. -/
def unp : Obj → Obj
  | .pending _ _ => .deferred none
  | o => o
def unpend (w : World) : World := { w with heap := w.heap.map unp }
theorem unpend_at (w : World) (b : Nat) : (unpend w).heap[b]? = (w.heap[b]?).map unp := by simp [unpend]
theorem sim_unpend (w : World) : Sim false S0 (unpend w) w := by
  refine ⟨rfl, rfl, by simp [unpend], fun b => ?_, fun _ h => h.elim, fun b c e h => ?_⟩
  · rw [unpend_at]
    cases w.heap[b]? with
    | none => rfl
    | some o => cases o <;> first | exact BSim.refl _ _ | rfl
  · rw [unpend_at] at h
    cases hw : w.heap[b]? with
    | none => rw [hw] at h; cases h
    | some o => rw [hw] at h; cases o <;> simp [unp] at h
theorem below_of {W v w : World} {S : Addr → Prop} (hG : Grow (unpend W) v) (hs : Sim false S v w) (hsh : Shape W w) : Below W.heap.size W w := by
  have hsz : (unpend W).heap.size = W.heap.size := by simp [unpend]
  refine ⟨hsh.os, hsh.tape, hsh.output, by rw [← hs.size, ← hsz]; exact hG.size, fun b hb => ?_⟩
  have h1 := hs.block b
  rw [hG.same b (by rw [hsz]; exact hb), unpend_at] at h1
  obtain ⟨o, ho⟩ : ∃ o, W.heap[b]? = some o := ⟨W.heap[b], by simp [hb]⟩
  rw [ho] at h1 ⊢
  by_cases hc : ∃ c e f, o = .cells c e f
  · obtain ⟨c, e, f, rfl⟩ := hc
    obtain ⟨c', hc'⟩ := hsh.block b c e f ho
    rw [hc'] at h1 ⊢
    obtain ⟨e1, _, _⟩ := h1
    rw [e1]
  · by_cases hch : ∃ cap buf cl x y tm, o = .chan cap buf cl x y tm
    · obtain ⟨cap, buf, cl, x, y, tm, rfl⟩ := hch
      have h2 : some (Obj.chan cap buf cl x y tm) = w.heap[b]? := h1
      exact h2.symm
    · exact hsh.pend b o ho (fun c e f e1 => hc ⟨c, e, f, e1⟩) (fun cap buf cl x y tm e1 => hch ⟨cap, buf, cl, x, y, tm, e1⟩)
end Go.Proofs.Ytecdiejeofclaaa


/- SlotsNames returns true. -/
namespace Go.Proofs.Ytecdiejeofclaaa
open Go Go.ChangeShapes Go.WideShapes Go.ChangeAt Go.RowKit Go.Conc Go.ConcN
theorem slNames_params : Try.f3.params = #[] := by kernel_rfl
theorem slNames_results : Try.f3.resultTypes = #[4] := by kernel_rfl
set_option maxRecDepth 100000 in
theorem slNames_lifted (os : Os) (started : os.Started) (H : Type) (enc : TypeId × Value → H) :
    ReturnsInLeavingWide {} Try.checked os 3 .any (Rows.slotsNamesSpec.pre6 enc Try.prog Try.f3 Rows.slotsNamesRow.domain false) (Rows.slotsNamesSpec.post enc Try.prog Try.f3 false true false false) := by
  refine returnsInLeavingWide_of_change_sized (C := Try.checked) a_own started Try.func3
    (ChangeSpec.witness6 (enc := enc) (C := Try.checked) false ⟨#[], #[], []⟩ 8 (by kernel_rfl) (by kernel_rfl) (by kernel_rfl) (by kernel_rfl)) ?_
  intro W base args ds gs before hval0 hW hcnd0 hwt0 _
  clear hcnd0
  have hW' := hW
  obtain ⟨p, q, hA0, hV, rfl, _, _⟩ := hW
  have hA : DataW.TrodAll enc Try.prog W 0 (fun _ => true) true Try.f3.params.toList args.toList ds p := hA0
  rw [slNames_params] at hA
  obtain ⟨ha, rfl, rfl⟩ := trodAll_nil hA
  obtain rfl : args = #[] := Array.ext' ha
  obtain ⟨rfl, rfl⟩ := trodVars_none hV
  simp only [List.append_nil] at hW'
  obtain ⟨M, last, o, w', t', r1, r2, r3, r4⟩ := run_good (sim_unpend W) (slNames_run (W0 := W) (sim_unpend W).ready)
  refine ⟨M, last, o, w', t', r1, r2, r3, r4.mono fun x hx => ?_⟩
  obtain ⟨rfl, v, S, hG, hs, hsh⟩ := hx
  have hb := below_of hG hs hsh
  refine ⟨_, _, _, [], [], [], hW', ?_, ?_, rfl, hb.frame _, fun h => by cases h⟩
  · rw [slNames_results]
    exact trodAll_mk1 (shut_bool Try.underlying4 true)
  · rw [slNames_params]
    rfl
/-- SlotsNames: true. -/
theorem names_holds : Rows.SlotsNamesSaid :=
  OpenClaim.holds_of_wide_leaving 3 Try.f3 rfl rfl rfl rfl rfl rfl rfl ⟨rfl, rfl, rfl, rfl, rfl⟩ rfl rfl rfl rfl rfl (by kernel_rfl) Try.func3 (by kernel_rfl)
    (of_decide_eq_true (by kernel_rfl)) (by unfold Func.isWrapper; first | (rw [if_pos (by decide +kernel)]; kernel_rfl) | (rw [if_neg (by decide +kernel)]; exact ⟨rfl, rfl⟩))
    (fun os started H enc _ => slNames_lifted os started H enc)
#print axioms names_holds
end Go.Proofs.Ytecdiejeofclaaa

