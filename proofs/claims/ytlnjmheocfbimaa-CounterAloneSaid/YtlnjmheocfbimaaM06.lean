/- CounterAlone returns true, whatever the number of shards, the amounts and the threads' numbers, and leaves its arguments alone. -/
import Derived.Test.YtlnjmheocfbimaaM05
import Derived.KernelRfl
import Derived.Laws.StructEq
import Derived.Below
import Derived.Test.YtlnjmheocfbimaaRows
import Derived.Conc.LeavingOf
import Derived.Conc.Holds
import Derived.Carry
import Derived.ChangeSlices
import Derived.RowKit
/- counter.Sum as a process. -/
namespace Go.Proofs.Ytlnjmheocfbimaa
open Go Go.Conc
/-- A shard's amount. -/
def amount (v : Int) : Int := IntKind.i32.wrap (getN (u64 v) 0 32 : Nat)
def sumOf (l : List Int) : Int := (l.map amount).sum
theorem amount_range (v : Int) : -2147483648 ≤ amount v ∧ amount v ≤ 2147483647 := by
  unfold amount; rw [IntKind.wrap_i32]; omega
/-- So many tries are told. -/
def sumP (m : Nat) (k : Int → Prog) : Nat → Prog
  | 0 => .out
  | f + 1 => lookP (fun now1 => lookP (fun now2 => if diffs now2 now1 = 0 then k (sumOf now2) else sumP m k f) m []) m []
theorem sumOf_snoc (l : List Int) (x : Int) : sumOf (l ++ [x]) = sumOf l + amount x := by simp [sumOf]
theorem sumOf_range : ∀ (l : List Int), -2147483648 * (l.length : Int) ≤ sumOf l ∧ sumOf l ≤ 2147483648 * (l.length : Int)
  | [] => by simp [sumOf]
  | x :: l => by
    have h := sumOf_range l
    have h2 := amount_range x
    have e : sumOf (x :: l) = amount x + sumOf l := by simp [sumOf]
    rw [e, List.length_cons]
    omega
theorem SumS_loop {i : Nat} {Fin : List (Int × Int) → Gho → World → Prop} {p : Prog} {b : Frame} (hbk : b.kind ≠ .early) {k : List Item} {cs : List Frame} {B5 gs m : Nat} {now : List Int} (hm : m ≤ 16) (hnow : now.length = m) {Γs : Gho} {vs : World} {Γ0 : Gho} {v0 : World} {A : Sys}
    (hEnd : ∀ Γ v a, TS i Γs vs Γ0 v0 Γ A v → AtE 43 [] [(9, .int .i64 (sumOf now))] a → HP i Fin p Γ0 v0 A (G (b.at a k) cs) v) :
    ∀ (r j : Nat) (Γ : Gho) (v : World) (a : Act), j + r = m → TS i Γs vs Γ0 v0 Γ A v → v.heap[B5]? = some (.cells #[.int .i64 0, .int .i64 32] 64 (0, 0)) → Γ.own B5 = .thr i → v.heap[gs]? = some (.cells (rowI m now) 3 (0, 0)) → Γ.own gs = .thr i →
      AtE 43 [] [(30, .int .i64 j), (29, .int .i64 m), (28, .slice (some ⟨gs, 0, none⟩) m m), (9, .int .i64 (sumOf (now.take j))), (5, .pointer (some ⟨B5, 0, none⟩))] a → HP i Fin p Γ0 v0 A (G (b.at a (.code Sum_L1 :: .inLoop Sum_L1 :: .inBlock 2 :: k)) cs) v := by
  intro r
  induction r with
  | zero =>
    intro j Γ v a hj hT F5 own_F5 FS own_FS hat
    refine HP.walk ?_
    refine hold_unf Sum_L1_def ?_
    refine hold_seq ?_
    refine hold_region (l := [0]) rfl ?_
    refine h_val noA hbk Sum_8 rfl rfl (by decide) hat (r_bool (t' := false) (r_lss rfl rfl) (by first | (simp; omega) | (simp; done) | (simp_all; done) | (simp_all; omega))) fun a hat => ?_
    refine hold_region_end ?_
    refine hold_seq ?_
    refine hold_condF (hat.eval (q := .tmp 31) rfl) rfl ?_
    refine hold_exit (k' := _) rfl ?_
    have e : now.take j = now := List.take_of_length_le (by omega)
    rw [e] at hat
    exact HP.stop (hEnd _ _ _ hT (hat.sub (AtE.cons rfl (AtE.nil))))
  | succ r ih =>
    intro j Γ v a hj hT F5 own_F5 FS own_FS hat
    obtain ⟨x, hx⟩ : ∃ x, now[j]? = some x := ⟨now[j]'(by omega), by simp⟩
    have h1 := sumOf_range (now.take j)
    have h2 := amount_range x
    have h3 : (now.take j).length = j := by simp; omega
    rw [h3] at h1
    have hsn : sumOf (now.take (j + 1)) = sumOf (now.take j) + amount x := by
      rw [← sumOf_snoc]
      congr 1
      rw [List.take_add_one, hx]; rfl
    refine HP.walk ?_
    refine hold_unf Sum_L1_def ?_
    refine hold_seq ?_
    refine hold_region (l := [0]) rfl ?_
    refine h_val noA hbk Sum_8 rfl rfl (by decide) hat (r_bool (t' := true) (r_lss rfl rfl) (by first | (simp; omega) | (simp; done) | (simp_all; done) | (simp_all; omega))) fun a hat => ?_
    refine hold_region_end ?_
    refine hold_seq ?_
    refine hold_condT (hat.eval (q := .tmp 31) rfl) rfl ?_
    refine hold_skip ?_
    refine hold_seq ?_
    refine hold_block ?_
    refine hold_seq ?_
    refine hold_region (l := [0,1,2]) rfl ?_
    refine h_val noA hbk Sum_9 rfl rfl (by decide) hat (r_index ix_22 rfl rfl (by omega) (by omega)) fun a hat => ?_
    refine h_val noA hbk Sum_9 rfl rfl (by decide) hat (r_load ld_3 rfl ((cell_at' FS).trans (by rw [show 0 + (j : Int).toNat * 1 = j from by omega]; exact rowI_get hx))) fun a hat => ?_
    refine h_val noA hbk Sum_9 rfl rfl (by decide) hat (r_assign rfl) fun a hat => ?_
    refine hold_region_end ?_
    refine hold_region (l := [0,1,2,3,4,5,6,7]) rfl ?_
    refine h_val noA hbk Sum_10 rfl rfl (by decide) hat (r_move rfl) fun a hat => ?_
    refine h_val noA hbk Sum_10 rfl rfl (by decide) hat (r_move rfl) fun a hat => ?_
    refine h_val noA hbk Sum_10 rfl rfl (by decide) hat (lg_64 rfl (cell_at' F5) (cell_at' F5)) fun a hat => ?_
    refine h_callc hbk Sum_10 rfl (by decide) hat wGet_fn wGet_bd wGet_nm (vals := #[_, _]) rfl fun c hc => ?_
    refine wGet_hold (p := 0) (q := 32) (by omega) fun v hg => ?_
    obtain ⟨Γ, hT, hR, hO, hN⟩ := hT.grown hg
    replace own_F5 := hO _ _ (lt_heap F5) own_F5
    replace own_FS := hO _ _ (lt_heap FS) own_FS
    replace F5 := hg.at F5
    replace FS := hg.at FS
    refine hold_fin hc fun a hat => ?_
    refine h_val noA hbk Sum_10 rfl (by kernel_rfl) (by decide) hat (cv_3_21 rfl) fun a hat => ?_
    refine h_val noA hbk Sum_10 rfl (by kernel_rfl) (by decide) hat (r_int (cv_21_3 rfl) (show IntKind.i64.wrap (amount x) = amount x by rw [IntKind.wrap_i64]; omega)) fun a hat => ?_
    refine h_val noA hbk Sum_10 rfl rfl (by decide) hat (r_add rfl rfl (by first | omega | (simp; omega))) fun a hat => ?_
    refine h_val noA hbk Sum_10 rfl rfl (by decide) hat (r_assign rfl) fun a hat => ?_
    refine hold_region_end ?_
    refine hold_inBlock ?_
    refine hold_region (l := [0,1]) rfl ?_
    refine h_val noA hbk Sum_11 rfl rfl (by decide) hat (r_add rfl rfl (by first | omega | (simp; omega))) fun a hat => ?_
    refine h_val noA hbk Sum_11 rfl rfl (by decide) hat (r_move rfl) fun a hat => ?_
    refine hold_region_end ?_
    refine hold_inLoop ?_
    refine HP.stop ?_
    refine ih (j + 1) _ _ _ (by omega) hT F5 own_F5 FS own_FS ?_
    rw [hsn]
    exact hat.sub (AtE.cons rfl (AtE.cons rfl (AtE.cons rfl (AtE.cons rfl (AtE.cons rfl (AtE.nil))))))
theorem Sum_loop {i : Nat} {Fin : List (Int × Int) → Gho → World → Prop} {kP : Int → Prog} {b : Frame} (hbk : b.kind ≠ .early) {k : List Item} {cs : List Frame} {B2 B3 B5 B7 gs bx C g cap m T : Nat} {Γs : Gho} {As : Sys} {vs : World} (hWs : WI Γs As vs) (hTb : Γs.tb i = T) (hEs : CEnv bx C g m cap Γs vs) (hlo : vs.heap.size ≤ gs)
    (hEnd : ∀ Γ0 v0 Γ A v a now, now.length = m → TS i Γs vs Γ0 v0 Γ A v → v.heap[B5]? = some (.cells #[.int .i64 0, .int .i64 32] 64 (0, 0)) → Γ.own B5 = .thr i → v.heap[B7]? = some (.cells #[.slice (some ⟨gs, 0, none⟩) m m] 22 (0, 0)) → Γ.own B7 = .thr i → v.heap[gs]? = some (.cells (rowI m now) 3 (0, 0)) → Γ.own gs = .thr i →
      AtE 43 [] [(7, .pointer (some ⟨B7, 0, none⟩)), (5, .pointer (some ⟨B5, 0, none⟩))] a → HP i Fin (kP (sumOf now)) Γ0 v0 A (G (b.at a k) cs) v) :
    ∀ (f : Nat) (seen : List Int) (Γ0 : Gho) (v0 : World) (Γ : Gho) (A : Sys) (v : World) (a : Act), seen.length = m → TS i Γs vs Γ0 v0 Γ A v → v.heap[B2]? = some (.cells #[.pointer (some ⟨C, 0, none⟩)] 24 (0, 0)) → Γ.own B2 = .thr i → v.heap[B3]? = some (.cells #[.pointer (some ⟨T, 0, none⟩)] 26 (0, 0)) → Γ.own B3 = .thr i → v.heap[B5]? = some (.cells #[.int .i64 0, .int .i64 32] 64 (0, 0)) → Γ.own B5 = .thr i → v.heap[B7]? = some (.cells #[.slice (some ⟨gs, 0, none⟩) m m] 22 (0, 0)) → Γ.own B7 = .thr i → v.heap[gs]? = some (.cells (rowI m seen) 3 (0, 0)) → Γ.own gs = .thr i →
      AtE 43 [] [(8, .func (.func 27) #[] #[.pointer (some ⟨B2, 0, none⟩), .pointer (some ⟨B3, 0, none⟩), .pointer (some ⟨B7, 0, none⟩)]), (7, .pointer (some ⟨B7, 0, none⟩)), (5, .pointer (some ⟨B5, 0, none⟩))] a → HP i Fin (sumP m kP f) Γ0 v0 A (G (b.at a (.code Sum_L0 :: .inLoop Sum_L0 :: .inBlock 0 :: k)) cs) v := by
  intro f
  induction f with
  | zero => intro seen Γ0 v0 Γ A v a hl hT F2 own_F2 F3 own_F3 F5 own_F5 F7 own_F7 FS own_FS hat; exact trivial
  | succ f ih =>
    intro seen Γ0 v0 Γ A v a hl hT F2 own_F2 F3 own_F3 F5 own_F5 F7 own_F7 FS own_FS hat
    unfold sumP
    refine HP.walk ?_
    refine hold_unf Sum_L0_def ?_
    refine hold_block ?_
    refine hold_seq ?_
    refine hold_region (l := [0,1]) rfl ?_
    refine h_val noA hbk Sum_4 rfl rfl (by decide) hat (r_move rfl) fun a hat => ?_
    refine h_callcv hbk Sum_4 rfl (by decide) hat rfl (vals := #[]) rfl SumF_fn SumF_bd SumF_nm fun c hc => ?_
    refine HP.stop ?_
    refine look_hp hl hWs hTb hEs (fun Γ0 v0 Γ A v now1 hl1 hT F2 own_F2 F3 own_F3 F5 own_F5 F7 own_F7 FS own_FS => ?_) hT F2 own_F2 F3 own_F3 F5 own_F5 F7 own_F7 FS own_FS hlo
    refine hp_fin hc fun a hat => ?_
    refine hold_region_end ?_
    refine hold_seq ?_
    refine hold_region (l := [0,1,2]) rfl ?_
    refine h_val noA hbk Sum_5 rfl rfl (by decide) hat (r_move rfl) fun a hat => ?_
    refine h_callcv hbk Sum_5 rfl (by decide) hat rfl (vals := #[]) rfl SumF_fn SumF_bd SumF_nm fun c hc => ?_
    refine HP.stop ?_
    refine look_hp hl1 hWs hTb hEs (fun Γ0 v0 Γ A v now2 hl2 hT F2 own_F2 F3 own_F3 F5 own_F5 F7 own_F7 FS own_FS => ?_) hT F2 own_F2 F3 own_F3 F5 own_F5 F7 own_F7 FS own_FS hlo
    refine hp_fin hc fun a hat => ?_
    by_cases hd : diffs now2 now1 = 0
    · rw [if_pos hd]
      refine h_val noA hbk Sum_5 rfl (opOk_eq (by kernel_rfl)) (by decide) hat (r_bool (t' := true) (r_eql rfl rfl) (by simp [hd])) fun a hat => ?_
      refine hold_region_end ?_
      refine hold_condT (hat.eval (q := .tmp 27) rfl) rfl ?_
      refine hold_exit (k' := _) rfl ?_
      exact HP.stop (hEnd _ _ _ _ _ _ now2 hl2 hT F5 own_F5 F7 own_F7 FS own_FS (hat.sub (AtE.cons rfl (AtE.cons rfl (AtE.nil)))))
    · rw [if_neg hd]
      refine h_val noA hbk Sum_5 rfl (opOk_eq (by kernel_rfl)) (by decide) hat (r_bool (t' := false) (r_eql rfl rfl) (by simp [hd])) fun a hat => ?_
      refine hold_region_end ?_
      refine hold_condF (hat.eval (q := .tmp 27) rfl) rfl ?_
      refine hold_skip ?_
      refine hold_inBlock ?_
      refine hold_inLoop ?_
      exact HP.stop (ih now2 _ _ _ _ _ _ hl2 hT F2 own_F2 F3 own_F3 F5 own_F5 F7 own_F7 FS own_FS (hat.sub (AtE.cons rfl (AtE.cons rfl (AtE.cons rfl (AtE.nil))))))
theorem sum_hp {i : Nat} {Fin : List (Int × Int) → Gho → World → Prop} {kP : Int → Prog} {bx C g m cap : Nat} {Γ0 Γ_ : Gho} {v0 v : World} {A : Sys} (f : Nat) (hW : WI Γ_ A v) (hG : Guar i A.ths.length Γ0 v0 Γ_ v) (hi : i < A.ths.length) (hE : CEnv bx C g m cap Γ_ v) (c : Frame) (cs : List Frame) (hK : ∀ x : Int, Go1 i Fin Γ_ v (kP x) (G (c.finish (.int .i64 x)) cs)) :
    HP i Fin (sumP m kP f) Γ0 v0 A (G (Frame.enter Try.prog 11 #[.pointer (some ⟨C, 0, none⟩), .pointer (some ⟨Γ_.tb i, 0, none⟩)] .normal) (c :: cs)) v := by
  have hT := TS.start hW hG hi
  obtain ⟨F, own_F⟩ := hE.c
  obtain ⟨hm1, hm2, hm3⟩ := hE.m
  generalize hTb : Γ_.tb i = T
  refine HP.walk ?_
  obtain ⟨b, a, hEq, hb, hbf, hat⟩ := enter_is Sum_fn Sum_body Sum_tmps #[.pointer (some ⟨C, 0, none⟩), .pointer (some ⟨T, 0, none⟩)] [(0, .pointer (some ⟨C, 0, none⟩)), (1, .pointer (some ⟨T, 0, none⟩))] rfl (by simp)
  rw [hEq]
  have hbk := not_early hb
  refine hold_unf Sum_code_def ?_
  refine hold_seq ?_
  refine hold_region (l := [0,1,2]) rfl ?_
  refine h_new noA hbk Sum_0 rfl rfl (by decide) hat (bx_24 rfl rfl) fun v a B2 hB2 hsB2 hg F2 hat => ?_
  have n_F2_F := ne_new F hB2
  obtain ⟨Γ, hT, hR, own_F2, gB2, hO⟩ := hT.new hB2 hg
  replace own_F := hO _ _ (lt_heap F) own_F
  replace F := hg.at F
  refine h_new noA hbk Sum_0 rfl rfl (by decide) hat (bx_26 rfl rfl) fun v a B3 hB3 hsB3 hg F3 hat => ?_
  have n_F3_F := ne_new F hB3
  have n_F3_F2 := ne_new F2 hB3
  obtain ⟨Γ, hT, hR, own_F3, gB3, hO⟩ := hT.new hB3 hg
  replace own_F := hO _ _ (lt_heap F) own_F
  replace own_F2 := hO _ _ (lt_heap F2) own_F2
  replace F := hg.at F
  replace F2 := hg.at F2
  refine h_val noA hbk Sum_0 rfl rfl (by decide) hat (r_assign rfl) fun a hat => ?_
  refine hold_region_end ?_
  refine hold_seq ?_
  refine hold_region (l := [0,1,2,3,4,5,6,7]) rfl ?_
  refine h_callc hbk Sum_1 rfl (by decide) hat fields_fn fields_bd fields_nm (vals := #[]) rfl fun c hc => ?_
  refine fields_hold fun v hg => ?_
  obtain ⟨Γ, hT, hR, hO, hN⟩ := hT.grown hg
  replace own_F := hO _ _ (lt_heap F) own_F
  replace own_F2 := hO _ _ (lt_heap F2) own_F2
  replace own_F3 := hO _ _ (lt_heap F3) own_F3
  replace F := hg.at F
  replace F2 := hg.at F2
  replace F3 := hg.at F3
  refine hold_fin hc fun a hat => ?_
  refine h_val noA hbk Sum_1 rfl rfl (by decide) hat (r_move rfl) fun a hat => ?_
  refine h_val noA hbk Sum_1 rfl rfl (by decide) hat (r_extract rfl rfl) fun a hat => ?_
  refine h_val noA hbk Sum_1 rfl rfl (by decide) hat (r_extract rfl rfl) fun a hat => ?_
  refine h_new noA hbk Sum_1 rfl rfl (by decide) hat al_64 fun v a B5 hB5 hsB5 hg F5 hat => ?_
  have n_F5_F := ne_new F hB5
  have n_F5_F2 := ne_new F2 hB5
  have n_F5_F3 := ne_new F3 hB5
  obtain ⟨Γ, hT, hR, own_F5, gB5, hO⟩ := hT.new hB5 hg
  replace own_F := hO _ _ (lt_heap F) own_F
  replace own_F2 := hO _ _ (lt_heap F2) own_F2
  replace own_F3 := hO _ _ (lt_heap F3) own_F3
  replace F := hg.at F
  replace F2 := hg.at F2
  replace F3 := hg.at F3
  refine h_new noA hbk Sum_1 rfl rfl (by decide) hat al_64 fun v a B6 hB6 hsB6 hg F6 hat => ?_
  have n_F6_F := ne_new F hB6
  have n_F6_F2 := ne_new F2 hB6
  have n_F6_F3 := ne_new F3 hB6
  have n_F6_F5 := ne_new F5 hB6
  obtain ⟨Γ, hT, hR, own_F6, gB6, hO⟩ := hT.new hB6 hg
  replace own_F := hO _ _ (lt_heap F) own_F
  replace own_F2 := hO _ _ (lt_heap F2) own_F2
  replace own_F3 := hO _ _ (lt_heap F3) own_F3
  replace own_F5 := hO _ _ (lt_heap F5) own_F5
  replace F := hg.at F
  replace F2 := hg.at F2
  replace F3 := hg.at F3
  replace F5 := hg.at F5
  refine h_put noA hbk Sum_1 rfl rfl hat (pg_64 rfl rfl F5 rfl rfl rfl rfl rfl) fun v a hP F5x hat => ?_
  simp only [List.setIfInBounds_toArray, List.set_cons_succ, List.set_cons_zero] at F5x
  replace F := hP.keep (by first | exact n_F5_F | exact n_F_F5.symm | exact ne_of_types F F5 (by decide) | omega) F
  replace F2 := hP.keep (by first | exact n_F5_F2 | exact n_F2_F5.symm | exact ne_of_types F2 F5 (by decide) | omega) F2
  replace F3 := hP.keep (by first | exact n_F5_F3 | exact n_F3_F5.symm | exact ne_of_types F3 F5 (by decide) | omega) F3
  replace F6 := hP.keep (by first | exact n_F5_F6 | exact n_F6_F5.symm | exact ne_of_types F6 F5 (by decide) | omega) F6
  obtain ⟨Γ, hT, hΓ1, hΓ2, hΓ3, hO⟩ := hT.put hP gB5 own_F5
  replace own_F := (hO _ (hP.size ▸ lt_heap F)).trans own_F
  replace own_F2 := (hO _ (hP.size ▸ lt_heap F2)).trans own_F2
  replace own_F3 := (hO _ (hP.size ▸ lt_heap F3)).trans own_F3
  replace own_F5 := (hO _ (hP.size ▸ lt_heap F5x)).trans own_F5
  replace own_F6 := (hO _ (hP.size ▸ lt_heap F6)).trans own_F6
  replace F5 := F5x; clear F5x
  refine h_put noA hbk Sum_1 rfl rfl hat (pg_64 rfl rfl F6 rfl rfl rfl rfl rfl) fun v a hP F6x hat => ?_
  simp only [List.setIfInBounds_toArray, List.set_cons_succ, List.set_cons_zero] at F6x
  replace F := hP.keep (by first | exact n_F6_F | exact n_F_F6.symm | exact ne_of_types F F6 (by decide) | omega) F
  replace F2 := hP.keep (by first | exact n_F6_F2 | exact n_F2_F6.symm | exact ne_of_types F2 F6 (by decide) | omega) F2
  replace F3 := hP.keep (by first | exact n_F6_F3 | exact n_F3_F6.symm | exact ne_of_types F3 F6 (by decide) | omega) F3
  replace F5 := hP.keep (by first | exact n_F6_F5 | exact n_F5_F6.symm | exact ne_of_types F5 F6 (by decide) | omega) F5
  obtain ⟨Γ, hT, hΓ1, hΓ2, hΓ3, hO⟩ := hT.put hP gB6 own_F6
  replace own_F := (hO _ (hP.size ▸ lt_heap F)).trans own_F
  replace own_F2 := (hO _ (hP.size ▸ lt_heap F2)).trans own_F2
  replace own_F3 := (hO _ (hP.size ▸ lt_heap F3)).trans own_F3
  replace own_F5 := (hO _ (hP.size ▸ lt_heap F5)).trans own_F5
  replace own_F6 := (hO _ (hP.size ▸ lt_heap F6x)).trans own_F6
  replace F6 := F6x; clear F6x
  refine hold_region_end ?_
  refine hold_seq ?_
  refine hold_region (l := [0,1,2,3,4,5,6,7]) rfl ?_
  refine h_val noA hbk Sum_2 rfl rfl (by decide) hat (r_load ld_24 rfl (cell_at' F2)) fun a hat => ?_
  refine h_val noA hbk Sum_2 rfl rfl (by decide) hat (r_nil rfl) fun a hat => ?_
  refine h_val noA hbk Sum_2 rfl rfl (by decide) hat (r_field fk_57_0 rfl) fun a hat => ?_
  refine h_val noA hbk Sum_2 rfl rfl (by decide) hat (r_load ld_55 rfl (cell_at' F)) fun a hat => ?_
  refine h_val noA hbk Sum_2 rfl rfl (by decide) hat (r_len lk_55 rfl) fun a hat => ?_
  refine h_news noA hbk Sum_2 rfl rfl (by decide) hat (r_make Try.underlying22 (z := .int .i64 0) (bytes := 8) (by kernel_rfl) rfl rfl rfl (by omega) (by omega)) fun v a B21 hB21 hsB21 hg F21 hat => ?_
  have n_F21_F := ne_new F hB21
  have n_F21_F2 := ne_new F2 hB21
  have n_F21_F3 := ne_new F3 hB21
  have n_F21_F5 := ne_new F5 hB21
  have n_F21_F6 := ne_new F6 hB21
  obtain ⟨Γ, hT, hR, own_F21, gB21, hO⟩ := hT.new hB21 hg
  replace own_F := hO _ _ (lt_heap F) own_F
  replace own_F2 := hO _ _ (lt_heap F2) own_F2
  replace own_F3 := hO _ _ (lt_heap F3) own_F3
  replace own_F5 := hO _ _ (lt_heap F5) own_F5
  replace own_F6 := hO _ _ (lt_heap F6) own_F6
  replace F := hg.at F
  replace F2 := hg.at F2
  replace F3 := hg.at F3
  replace F5 := hg.at F5
  replace F6 := hg.at F6
  refine h_new noA hbk Sum_2 rfl rfl (by decide) hat al_22 fun v a B7 hB7 hsB7 hg F7 hat => ?_
  have n_F7_F := ne_new F hB7
  have n_F7_F2 := ne_new F2 hB7
  have n_F7_F3 := ne_new F3 hB7
  have n_F7_F5 := ne_new F5 hB7
  have n_F7_F6 := ne_new F6 hB7
  have n_F7_F21 := ne_new F21 hB7
  obtain ⟨Γ, hT, hR, own_F7, gB7, hO⟩ := hT.new hB7 hg
  replace own_F := hO _ _ (lt_heap F) own_F
  replace own_F2 := hO _ _ (lt_heap F2) own_F2
  replace own_F3 := hO _ _ (lt_heap F3) own_F3
  replace own_F5 := hO _ _ (lt_heap F5) own_F5
  replace own_F6 := hO _ _ (lt_heap F6) own_F6
  replace own_F21 := hO _ _ (lt_heap F21) own_F21
  replace F := hg.at F
  replace F2 := hg.at F2
  replace F3 := hg.at F3
  replace F5 := hg.at F5
  replace F6 := hg.at F6
  replace F21 := hg.at F21
  refine h_put noA hbk Sum_2 rfl rfl hat (p_store st_22 rfl rfl rfl F7 rfl rfl) fun v a hP F7x hat => ?_
  simp only [List.setIfInBounds_toArray, List.set_cons_zero] at F7x
  replace F := hP.keep (by first | exact n_F7_F | exact n_F_F7.symm | exact ne_of_types F F7 (by decide) | omega) F
  replace F2 := hP.keep (by first | exact n_F7_F2 | exact n_F2_F7.symm | exact ne_of_types F2 F7 (by decide) | omega) F2
  replace F3 := hP.keep (by first | exact n_F7_F3 | exact n_F3_F7.symm | exact ne_of_types F3 F7 (by decide) | omega) F3
  replace F5 := hP.keep (by first | exact n_F7_F5 | exact n_F5_F7.symm | exact ne_of_types F5 F7 (by decide) | omega) F5
  replace F6 := hP.keep (by first | exact n_F7_F6 | exact n_F6_F7.symm | exact ne_of_types F6 F7 (by decide) | omega) F6
  replace F21 := hP.keep (by first | exact n_F7_F21 | exact n_F21_F7.symm | exact ne_of_types F21 F7 (by decide) | omega) F21
  obtain ⟨Γ, hT, hΓ1, hΓ2, hΓ3, hO⟩ := hT.put hP gB7 own_F7
  replace own_F := (hO _ (hP.size ▸ lt_heap F)).trans own_F
  replace own_F2 := (hO _ (hP.size ▸ lt_heap F2)).trans own_F2
  replace own_F3 := (hO _ (hP.size ▸ lt_heap F3)).trans own_F3
  replace own_F5 := (hO _ (hP.size ▸ lt_heap F5)).trans own_F5
  replace own_F6 := (hO _ (hP.size ▸ lt_heap F6)).trans own_F6
  replace own_F21 := (hO _ (hP.size ▸ lt_heap F21)).trans own_F21
  replace own_F7 := (hO _ (hP.size ▸ lt_heap F7x)).trans own_F7
  replace F7 := F7x; clear F7x
  refine hold_region_end ?_
  refine hold_seq ?_
  refine hold_region (l := [0,1]) rfl ?_
  refine h_val noA hbk Sum_3 rfl rfl (by decide) hat (mf_27_3 rfl rfl rfl) fun a hat => ?_
  refine h_val noA hbk Sum_3 rfl rfl (by decide) hat (r_assign rfl) fun a hat => ?_
  refine hold_region_end ?_
  refine hold_seq ?_
  refine hold_block ?_
  refine hold_loop ?_
  refine HP.stop ?_
  rw [rowI_made] at F21
  refine Sum_loop hbk hW hTb hE gB21 (fun Γ0 v0 Γ A v a now hl hT F5 own_F5 F7 own_F7 FS own_FS hat => ?_) f (List.replicate m 0) _ _ _ _ _ _ (by simp) hT F2 own_F2 F3 own_F3 F5 own_F5 F7 own_F7 (by rw [show rowI m (List.replicate m 0) = rowI m [] from by simp [rowI]]; exact F21) own_F21 (hat.sub (AtE.cons rfl (AtE.cons rfl (AtE.cons rfl (AtE.nil)))))
  refine HP.walk ?_
  refine hold_seq ?_
  refine hold_region (l := [0]) rfl ?_
  refine h_val noA hbk Sum_6 rfl rfl (by decide) hat (r_assign rfl) fun a hat => ?_
  refine hold_region_end ?_
  refine hold_seq ?_
  refine hold_seq ?_
  refine hold_region (l := [0,1,2]) rfl ?_
  refine h_val noA hbk Sum_7 rfl rfl (by decide) hat (r_load ld_22 rfl (cell_at' F7)) fun a hat => ?_
  refine h_val noA hbk Sum_7 rfl rfl (by decide) hat (r_len lk_22 rfl) fun a hat => ?_
  refine h_val noA hbk Sum_7 rfl rfl (by decide) hat (r_move rfl) fun a hat => ?_
  refine hold_region_end ?_
  refine hold_block ?_
  refine hold_loop ?_
  refine HP.stop ?_
  refine SumS_loop hbk hm2 hl (fun Γ v a hT hat => ?_) m 0 _ _ _ (by omega) hT F5 own_F5 FS own_FS (hat.sub (AtE.cons rfl (AtE.cons rfl (AtE.cons rfl (AtE.cons rfl (AtE.cons rfl (AtE.nil)))))))
  refine HP.walk ?_
  refine hold_seq ?_
  refine hold_region (l := [0,1]) rfl ?_
  refine h_val noA hbk Sum_12 rfl rfl (by decide) hat (r_move rfl) fun a hat => ?_
  refine h_val noA hbk Sum_12 rfl rfl (by decide) hat (r_assign rfl) fun a hat => ?_
  refine hold_region_end ?_
  refine hold_retd hb hbf Sum_fn hat.defers (ret_one Sum_res hat rfl) (HP.stop ?_)
  exact hK _ _ _ _ _ _ hT.rely hT.wi hT.lt hT.guar
end Go.Proofs.Ytlnjmheocfbimaa

/- counter.Play's closure: what a call does. -/
namespace Go.Proofs.Ytlnjmheocfbimaa
open Go Go.Conc
/-- A call upon a counter of m shards, by thread i: so many tries are told. -/
def counterP (f m i : Nat) (x : ACall) (k : Int × Int → Prog) : Prog :=
  if x.op = 1 then addP (i % m) (x.a.tmod 1000) (k (0, 0)) f else if x.op = 2 then sumP m (fun s => k (0, s)) f else k (1, 0)
abbrev counterV (bx : Nat) : Value := .func (.func 30) #[] #[.pointer (some ⟨bx, 0, none⟩)]
theorem counter_do {i : Nat} {Fin : List (Int × Int) → Gho → World → Prop} (f : Nat) {bx C g m cap : Nat} : DoSpec i Fin (counterV bx) (counterP f m i) (CEnv bx C g m cap) := by
  refine ⟨_, _, _, rfl, PlayF_fn, PlayF_bd, PlayF_nm, fun Γ v Γ' v' h hR => h.keep hR, fun x Γ0 v0 Γ_ A v c cs k hW hG hi hE hK => ?_⟩
  have hT := TS.start hW hG hi
  obtain ⟨F2, own_F2⟩ := hE.bx
  unfold counterP
  have ht1 := Int.tmod_lt_of_pos x.a (show (0 : Int) < 1000 by omega)
  have ht2 : -1000 < x.a.tmod 1000 := Int.lt_tmod_of_pos x.a (by omega)
  obtain ⟨op, xa, xb, xc⟩ := x
  generalize hTb : Γ_.tb i = T
  have hargs : (#[.pointer (some ⟨T, 0, none⟩), acallV ⟨op, xa, xb, xc⟩] ++ #[.pointer (some ⟨bx, 0, none⟩)] : Array Value) = #[.pointer (some ⟨T, 0, none⟩), .agg #[.int .i64 op, .int .i64 xa, .int .i64 xb, .int .i64 xc], .pointer (some ⟨bx, 0, none⟩)] := rfl
  rw [hargs]
  refine HP.walk ?_
  obtain ⟨b, a, hEq, hb, hbf, hat⟩ := enter_is PlayF_fn PlayF_body PlayF_tmps #[.pointer (some ⟨T, 0, none⟩), .agg #[.int .i64 op, .int .i64 xa, .int .i64 xb, .int .i64 xc], .pointer (some ⟨bx, 0, none⟩)] [(0, .pointer (some ⟨T, 0, none⟩)), (1, .agg #[.int .i64 op, .int .i64 xa, .int .i64 xb, .int .i64 xc]), (2, .pointer (some ⟨bx, 0, none⟩))] rfl (by simp)
  rw [hEq]
  have hbk := not_early hb
  refine hold_unf PlayF_code_def ?_
  refine hold_seq ?_
  refine hold_region (l := [0,1]) rfl ?_
  refine h_new noA hbk PlayF_0 rfl rfl (by decide) hat (bx_50 rfl) fun v a B4 hB4 hsB4 hg F4 hat => ?_
  have n_F4_F2 := ne_new F2 hB4
  obtain ⟨Γ, hT, hR, own_F4, gB4, hO⟩ := hT.new hB4 hg
  replace own_F2 := hO _ _ (lt_heap F2) own_F2
  replace F2 := hg.at F2
  refine h_new noA hbk PlayF_0 rfl rfl (by decide) hat al_53 fun v a B5 hB5 hsB5 hg F5 hat => ?_
  have n_F5_F2 := ne_new F2 hB5
  have n_F5_F4 := ne_new F4 hB5
  obtain ⟨Γ, hT, hR, own_F5, gB5, hO⟩ := hT.new hB5 hg
  replace own_F2 := hO _ _ (lt_heap F2) own_F2
  replace own_F4 := hO _ _ (lt_heap F4) own_F4
  replace F2 := hg.at F2
  replace F4 := hg.at F4
  refine hold_region_end ?_
  refine hold_seq ?_
  refine hold_seq ?_
  refine hold_region (l := [0,1]) rfl ?_
  refine h_val noA hbk PlayF_1 rfl rfl (by decide) hat (r_field fk_50_0 rfl) fun a hat => ?_
  refine h_val noA hbk PlayF_1 rfl rfl (by decide) hat (r_load ld_3 rfl (cell_at' F4)) fun a hat => ?_
  refine hold_region_end ?_
  refine hold_block ?_
  refine hold_seq ?_
  refine hold_region (l := [0,1]) rfl ?_
  by_cases h1 : op = 1
  · rw [if_pos h1]
    refine h_val noA hbk PlayF_2 rfl (opOk_eq (by kernel_rfl)) (by decide) hat (r_bool (t' := true) (r_eql rfl rfl) (by simp [h1])) fun a hat => ?_
    refine h_val noA hbk PlayF_2 rfl rfl (by decide) hat (r_assign rfl) fun a hat => ?_
    refine hold_region_end ?_
    refine hold_condT (hat.eval (q := .tmp 8) rfl) rfl ?_
    refine hold_seq ?_
    refine hold_region (l := [0,1,2,3,4,5]) rfl ?_
    refine h_val noA hbk PlayF_3 rfl rfl (by decide) hat (r_load ld_24 rfl (cell_at' F2)) fun a hat => ?_
    refine h_val noA hbk PlayF_3 rfl rfl (by decide) hat (r_move rfl) fun a hat => ?_
    refine h_val noA hbk PlayF_3 rfl rfl (by decide) hat (r_field fk_50_1 rfl) fun a hat => ?_
    refine h_val noA hbk PlayF_3 rfl rfl (by decide) hat (r_load ld_3 rfl (cell_at' F4)) fun a hat => ?_
    refine h_val noA hbk PlayF_3 rfl rfl (by decide) hat (r_rem rfl rfl (by omega)) fun a hat => ?_
    refine h_callc hbk PlayF_3 rfl (by decide) hat Add_fn Add_bd Add_nm (vals := #[_, _, _]) rfl fun c hc => ?_
    refine HP.stop ?_
    rw [← hT.rely.same.2.2.2.1.trans hTb]
    refine add_hp (by omega) f hT.wi hT.guar hT.lt (hE.keep hT.rely) _ _ ?_
    intro Γ0 v0 Γ v A hR hW hi hG
    replace hT := hT.later hR hW hi hG
    have own_x := (hR.own _ (lt_heap F2)).trans own_F2
    replace F2 := (hR.keep _ (lt_heap F2) (.inr own_F2)).trans F2
    replace own_F2 := own_x; clear own_x
    have own_x := (hR.own _ (lt_heap F4)).trans own_F4
    replace F4 := (hR.keep _ (lt_heap F4) (.inl own_F4)).trans F4
    replace own_F4 := own_x; clear own_x
    have own_x := (hR.own _ (lt_heap F5)).trans own_F5
    replace F5 := (hR.keep _ (lt_heap F5) (.inl own_F5)).trans F5
    replace own_F5 := own_x; clear own_x
    refine hp_fin hc fun a hat => ?_
    refine hold_region_end ?_
    refine hold_seq ?_
    refine hold_region (l := [0,1]) rfl ?_
    refine h_val noA hbk PlayF_4 rfl rfl (by decide) hat bu_53 fun a hat => ?_
    refine h_put noA hbk PlayF_4 rfl rfl hat (pg_53 rfl rfl F5 rfl rfl rfl rfl rfl) fun v a hP F5x hat => ?_
    simp only [List.setIfInBounds_toArray, List.set_cons_succ, List.set_cons_zero] at F5x
    replace F2 := hP.keep (by first | exact n_F5_F2 | exact n_F2_F5.symm | exact ne_of_types F2 F5 (by decide) | omega) F2
    replace F4 := hP.keep (by first | exact n_F5_F4 | exact n_F4_F5.symm | exact ne_of_types F4 F5 (by decide) | omega) F4
    obtain ⟨Γ, hT, hΓ1, hΓ2, hΓ3, hO⟩ := hT.put hP gB5 own_F5
    replace own_F2 := (hO _ (hP.size ▸ lt_heap F2)).trans own_F2
    replace own_F4 := (hO _ (hP.size ▸ lt_heap F4)).trans own_F4
    replace own_F5 := (hO _ (hP.size ▸ lt_heap F5x)).trans own_F5
    replace F5 := F5x; clear F5x
    refine hold_region_end ?_
    refine hold_retdV hb hbf PlayF_fn hat.defers (ret_cell1 PlayF_res hat rfl (var_answer (cell_at' F5) (cell_at' F5))) (HP.stop ?_)
    exact hK (0, 0) _ _ _ _ _ hT.rely hT.wi hT.lt hT.guar
  · rw [if_neg h1]
    refine h_val noA hbk PlayF_2 rfl (opOk_eq (by kernel_rfl)) (by decide) hat (r_bool (t' := false) (r_eql rfl rfl) (by simp [h1])) fun a hat => ?_
    refine h_val noA hbk PlayF_2 rfl rfl (by decide) hat (r_assign rfl) fun a hat => ?_
    refine hold_region_end ?_
    refine hold_condF (hat.eval (q := .tmp 8) rfl) rfl ?_
    refine hold_seq ?_
    refine hold_region (l := [0,1]) rfl ?_
    by_cases h2 : op = 2
    · rw [if_pos h2]
      refine h_val noA hbk PlayF_5 rfl (opOk_eq (by kernel_rfl)) (by decide) hat (r_bool (t' := true) (r_eql rfl rfl) (by simp [h2])) fun a hat => ?_
      refine h_val noA hbk PlayF_5 rfl rfl (by decide) hat (r_assign rfl) fun a hat => ?_
      refine hold_region_end ?_
      refine hold_condT (hat.eval (q := .tmp 17) rfl) rfl ?_
      refine hold_seq ?_
      refine hold_region (l := [0,1,2,3,4]) rfl ?_
      refine h_val noA hbk PlayF_6 rfl rfl (by decide) hat (r_load ld_24 rfl (cell_at' F2)) fun a hat => ?_
      refine h_val noA hbk PlayF_6 rfl rfl (by decide) hat (r_move rfl) fun a hat => ?_
      refine h_callc hbk PlayF_6 rfl (by decide) hat Sum_fn Sum_bd Sum_nm (vals := #[_, _]) rfl fun c hc => ?_
      refine HP.stop ?_
      rw [← hT.rely.same.2.2.2.1.trans hTb]
      refine sum_hp f hT.wi hT.guar hT.lt (hE.keep hT.rely) _ _ fun s => ?_
      intro Γ0 v0 Γ v A hR hW hi hG
      replace hT := hT.later hR hW hi hG
      have own_x := (hR.own _ (lt_heap F2)).trans own_F2
      replace F2 := (hR.keep _ (lt_heap F2) (.inr own_F2)).trans F2
      replace own_F2 := own_x; clear own_x
      have own_x := (hR.own _ (lt_heap F4)).trans own_F4
      replace F4 := (hR.keep _ (lt_heap F4) (.inl own_F4)).trans F4
      replace own_F4 := own_x; clear own_x
      have own_x := (hR.own _ (lt_heap F5)).trans own_F5
      replace F5 := (hR.keep _ (lt_heap F5) (.inl own_F5)).trans F5
      replace own_F5 := own_x; clear own_x
      refine hp_fin hc fun a hat => ?_
      refine h_val noA hbk PlayF_6 rfl rfl (by decide) hat (bu_53_1 rfl rfl) fun a hat => ?_
      refine h_put noA hbk PlayF_6 rfl rfl hat (pg_53 rfl rfl F5 rfl rfl rfl rfl rfl) fun v a hP F5x hat => ?_
      simp only [List.setIfInBounds_toArray, List.set_cons_succ, List.set_cons_zero] at F5x
      replace F2 := hP.keep (by first | exact n_F5_F2 | exact n_F2_F5.symm | exact ne_of_types F2 F5 (by decide) | omega) F2
      replace F4 := hP.keep (by first | exact n_F5_F4 | exact n_F4_F5.symm | exact ne_of_types F4 F5 (by decide) | omega) F4
      obtain ⟨Γ, hT, hΓ1, hΓ2, hΓ3, hO⟩ := hT.put hP gB5 own_F5
      replace own_F2 := (hO _ (hP.size ▸ lt_heap F2)).trans own_F2
      replace own_F4 := (hO _ (hP.size ▸ lt_heap F4)).trans own_F4
      replace own_F5 := (hO _ (hP.size ▸ lt_heap F5x)).trans own_F5
      replace F5 := F5x; clear F5x
      refine hold_region_end ?_
      refine hold_retdV hb hbf PlayF_fn hat.defers (ret_cell1 PlayF_res hat rfl (var_answer (cell_at' F5) (cell_at' F5))) (HP.stop ?_)
      exact hK (0, s) _ _ _ _ _ hT.rely hT.wi hT.lt hT.guar
    · rw [if_neg h2]
      refine h_val noA hbk PlayF_5 rfl (opOk_eq (by kernel_rfl)) (by decide) hat (r_bool (t' := false) (r_eql rfl rfl) (by simp [h2])) fun a hat => ?_
      refine h_val noA hbk PlayF_5 rfl rfl (by decide) hat (r_assign rfl) fun a hat => ?_
      refine hold_region_end ?_
      refine hold_condF (hat.eval (q := .tmp 17) rfl) rfl ?_
      refine hold_skip ?_
      refine hold_inBlock ?_
      refine hold_seq ?_
      refine hold_region (l := [0,1]) rfl ?_
      refine h_val noA hbk PlayF_7 rfl rfl (by decide) hat (bu_53_0 rfl rfl) fun a hat => ?_
      refine h_put noA hbk PlayF_7 rfl rfl hat (pg_53 rfl rfl F5 rfl rfl rfl rfl rfl) fun v a hP F5x hat => ?_
      simp only [List.setIfInBounds_toArray, List.set_cons_succ, List.set_cons_zero] at F5x
      replace F2 := hP.keep (by first | exact n_F5_F2 | exact n_F2_F5.symm | exact ne_of_types F2 F5 (by decide) | omega) F2
      replace F4 := hP.keep (by first | exact n_F5_F4 | exact n_F4_F5.symm | exact ne_of_types F4 F5 (by decide) | omega) F4
      obtain ⟨Γ, hT, hΓ1, hΓ2, hΓ3, hO⟩ := hT.put hP gB5 own_F5
      replace own_F2 := (hO _ (hP.size ▸ lt_heap F2)).trans own_F2
      replace own_F4 := (hO _ (hP.size ▸ lt_heap F4)).trans own_F4
      replace own_F5 := (hO _ (hP.size ▸ lt_heap F5x)).trans own_F5
      replace F5 := F5x; clear F5x
      refine hold_region_end ?_
      refine hold_retdV hb hbf PlayF_fn hat.defers (ret_cell1 PlayF_res hat rfl (var_answer (cell_at' F5) (cell_at' F5))) (HP.stop ?_)
      exact hK (1, 0) _ _ _ _ _ hT.rely hT.wi hT.lt hT.guar
end Go.Proofs.Ytlnjmheocfbimaa

/- counter.Play, of a new world. -/
namespace Go.Proofs.Ytlnjmheocfbimaa
open Go Go.Conc
open Classical in
/-- Whose is what, ahead of the run: the system's words; all else stands. -/
noncomputable def ownOf (X : Nat → Prop) : Nat → Own := fun b => if X b then .sys else .const
theorem ownOf_sys {X : Nat → Prop} {b : Nat} (h : X b) : ownOf X b = .sys := if_pos h
theorem ownOf_const {X : Nat → Prop} {b : Nat} (h : ¬ X b) : ownOf X b = .const := if_neg h
theorem CEnv.extd {bx C g m cap : Nat} {Γ Γ' : Gho} {u v : World} (h : CEnv bx C g m cap Γ u) (hX : Ext Γ u Γ' v) : CEnv bx C g m cap Γ' v := by
  obtain ⟨_, _, _, _, _, e6, e7⟩ := hX.same
  refine ⟨⟨hX.grow.at h.bx.1, (hX.own _ (lt_of_heap h.bx.1)).trans h.bx.2⟩, ⟨hX.grow.at h.c.1, (hX.own _ (lt_of_heap h.c.1)).trans h.c.2⟩, fun j hj => ?_, ⟨Nat.lt_of_lt_of_le h.g.1 hX.grow.size, (hX.own _ h.g.1).trans h.g.2⟩, ⟨h.m.1, h.m.2.1, by rw [e7]; exact h.m.2.2⟩⟩
  obtain ⟨h1, h2⟩ := h.sh j hj
  rw [e6]
  exact ⟨grow_cell hX.grow h1, Nat.lt_of_lt_of_le h2 hX.grow.size⟩
/-- A script that lies apart from X. -/
def ScrAt (X : Nat → Prop) (v : World) (lv : Value) (l : List ACall) : Prop :=
  ∃ a cap, lv = .slice a l.length cap ∧ ∀ (j : Nat) (x : ACall), l[j]? = some x → ∃ B O, a = some ⟨B, O, none⟩ ∧ B < v.heap.size ∧ ¬ X B ∧
    v.cell? ⟨B, O + j * 4, none⟩ = some (.int .i64 x.op) ∧ v.cell? ⟨B, O + j * 4 + 1, none⟩ = some (.int .i64 x.a) ∧ v.cell? ⟨B, O + j * 4 + 2, none⟩ = some (.int .i64 x.b) ∧ v.cell? ⟨B, O + j * 4 + 3, none⟩ = some (.int .i64 x.c)
/-- A counter's world, ahead of the run. -/
def sys0 (sl : List Int) (m : Nat) : Sys := ⟨sl, 0, -1, List.replicate m 0, List.replicate m 0, [], false, []⟩
/-- What the threads do. -/
def counterProgs (f m n : Nat) (l : Nat → List ACall) : List Prog := (List.range n).map fun i => Prog.calls (counterP f m i) false 0 (l i) [] .done
/-- A new world stands. -/
structure NewW (u : World) (W ch : Nat) (rv : Value) (sl : List Int) : Prop where
  w : u.heap[W]? = some (.cells #[rv, .int .i64 0, .int .i64 (-1), .slice none 0 0, .slice none 0 0, .slice none 0 0, .bool false, .bool false, .chan (some ch)] 74 (0, 0))
  c : u.heap[ch]? = some (.chan 0 #[] false 0 0 false)
  owns : u.ownsRow 0 3 1 rv sl.length (ints sl)
/-- Its words' blocks. -/
def wordsOf (W ch : Nat) (rv : Value) (b : Nat) : Prop := b = W ∨ b = ch ∨ rv.ownBlock = some b
theorem sim_rows {v : World} : v.ownsRow 0 3 1 (.slice none 0 0) 0 [] := ⟨rfl, .inl ⟨rfl, rfl⟩⟩
section
variable {Done : Goroutine → World → Prop}
theorem Play_run {u : World} {W ch N : Nat} {rv : Value} {sl : List Int} (hr : Ready0 u) (hN : NewW u W ch rv sl) (hsl : (∀ x ∈ sl, -9223372036854775808 ≤ x ∧ x ≤ 9223372036854775807) ∧ sl.length < 2 ^ 62) (hN0 : 0 < N) {I : Inbs} (hI : ∀ x, x ≠ 0 → I x = none) {sh : Int} {sv : Value} {n : Nat} {lv : Nat → Value} {l : Nat → List ACall}
    (hS : Scripts u sv n lv fun j => (l j).length) (hsv : ∃ ad cp, sv = .slice ad n cp) (hsb : ∀ B O cp, sv = .slice (some ⟨B, O, none⟩) n cp → ¬ wordsOf W ch rv B) (hscr : ∀ j, j < n → ScrAt (wordsOf W ch rv) u (lv j) (l j)) {c0 : Frame} {cs : List Frame}
    (he : ∀ v', Grow u v' → mayE n (fun j => (l j).length) false ≠ 0 → Run Try.prog Done S0 0 N I (G (c0.finish (.tuple #[.slice none 0 0, .int .i64 (mayE n (fun j => (l j).length) false)])) cs) v')
    (hbad : ∀ v', Grow u v' → mayE n (fun j => (l j).length) false = 0 → (sh < 1 ∨ 16 < sh) → Run Try.prog Done S0 0 N I (G (c0.finish (.tuple #[.slice none 0 0, .int .i64 1])) cs) v')
    {fu f : Nat} (hrun : mayE n (fun j => (l j).length) false = 0 → 1 ≤ sh → sh ≤ 16 → ∃ res, runs f (sys0 sl sh.toNat) (counterProgs fu sh.toNat n l) = some res ∧
      ∀ Γ' v' I' ob, WI Γ' res.1 v' → (∀ x, x ≠ 0 → I' x = none) → res.2.length = n → (∀ i r, res.2[i]? = some r → FinOut i ob r Γ' v') → (∀ b, b < u.heap.size → ¬ wordsOf W ch rv b → v'.heap[b]? = u.heap[b]?) → Γ'.W = W → u.heap.size ≤ ob →
        Run Try.prog Done S0 0 (N + n) I' (G (c0.finish (.tuple #[.slice (some ⟨ob, 0, none⟩) n n, .int .i64 0])) cs) v') :
    Run Try.prog Done S0 0 N I (G (Frame.enter Try.prog 13 #[.pointer (some ⟨W, 0, none⟩), .int .i64 sh, sv] .normal) (c0 :: cs)) u := by
  obtain ⟨ad, cp, rfl⟩ := hsv
  have hw := hN.w
  refine Run.of_hold ?_
  obtain ⟨b, a, hEq, hb, hbf, hat⟩ := enter_is Play_fn Play_body Play_tmps #[.pointer (some ⟨W, 0, none⟩), .int .i64 sh, .slice ad n cp] [(0, .pointer (some ⟨W, 0, none⟩)), (1, .int .i64 sh), (2, .slice ad n cp)] rfl (by simp)
  rw [hEq]
  have hbk := not_early hb
  refine hold_unf Play_code_def ?_
  refine hold_seq ?_
  refine hold_region (l := [0,1]) rfl ?_
  refine h_val noA hbk Play_0 rfl rfl (by decide) hat (r_assign rfl) fun a hat => ?_
  refine h_val noA hbk Play_0 rfl rfl (by decide) hat (r_assign rfl) fun a hat => ?_
  refine hold_region_end ?_
  refine hold_seq ?_
  refine hold_seq ?_
  refine hold_region (l := [0,1,2,3]) rfl ?_
  refine h_val noA hbk Play_1 rfl rfl (by decide) hat (r_move rfl) fun a hat => ?_
  refine h_val noA hbk Play_1 rfl rfl (by decide) hat (r_move rfl) fun a hat => ?_
  refine h_callc hbk Play_1 rfl (by decide) hat May_fn May_bd May_nm (vals := #[_, _, _]) rfl fun c hc => ?_
  refine May_hold hw rfl hS ⟨_, _, rfl⟩ fun v hg0 => ?_
  refine hold_fin hc fun a hat => ?_
  refine h_val noA hbk Play_1 rfl rfl (by decide) hat (r_assign rfl) fun a hat => ?_
  refine hold_region_end ?_
  refine hold_seq ?_
  refine hold_region (l := [0,1]) rfl ?_
  refine h_val noA hbk Play_2 rfl rfl (by decide) hat (r_move rfl) fun a hat => ?_
  by_cases h0 : mayE n (fun j => (l j).length) false = 0
  rotate_left
  · refine h_val noA hbk Play_2 rfl (opOk_eq (by kernel_rfl)) (by decide) hat (r_bool (t' := true) (r_neq rfl rfl) (by simpa using h0)) fun a hat => ?_
    refine hold_region_end ?_
    refine hold_condT (hat.eval (q := .tmp 14) rfl) rfl ?_
    refine hold_seq ?_
    refine hold_region (l := [0,1,2]) rfl ?_
    refine h_val noA hbk Play_3 rfl rfl (by decide) hat (r_move rfl) fun a hat => ?_
    refine h_val noA hbk Play_3 rfl rfl (by decide) hat (r_assign rfl) fun a hat => ?_
    refine h_val noA hbk Play_3 rfl rfl (by decide) hat (r_assign rfl) fun a hat => ?_
    refine hold_region_end ?_
    refine hold_retd hb hbf Play_fn hat.defers (ret_two Play_res hat rfl rfl) ?_
    exact hold_run (he _ hg0 h0)
  refine h_val noA hbk Play_2 rfl (opOk_eq (by kernel_rfl)) (by decide) hat (r_bool (t' := false) (r_neq rfl rfl) (by simpa using h0)) fun a hat => ?_
  refine hold_region_end ?_
  refine hold_condF (hat.eval (q := .tmp 14) rfl) rfl ?_
  refine hold_skip ?_
  refine hold_seq ?_
  refine hold_seq ?_
  refine hold_region (l := [0,1,2,3,4,5]) rfl ?_
  refine h_val noA hbk Play_4 rfl rfl (by decide) hat (r_move rfl) fun a hat => ?_
  by_cases h1 : sh < 1
  · refine h_val noA hbk Play_4 rfl rfl (by decide) hat (r_bool (t' := true) (r_lss rfl rfl) (by simp; omega)) fun a hat => ?_
    refine h_val noA hbk Play_4 rfl rfl (by decide) hat (r_move rfl) fun a hat => ?_
    refine hg_no Play_4 rfl rfl rfl rfl (by decide) hat fun a hat => ?_
    refine hg_no Play_4 rfl rfl rfl rfl (by decide) hat fun a hat => ?_
    refine h_val noA hbk Play_4 rfl rfl (by decide) hat (r_pick rfl rfl) fun a hat => ?_
    refine hold_region_end ?_
    refine hold_condT (hat.eval (q := .tmp 21) rfl) rfl ?_
    refine hold_seq ?_
    refine hold_region (l := [0,1]) rfl ?_
    refine h_val noA hbk Play_5 rfl rfl (by decide) hat (r_assign rfl) fun a hat => ?_
    refine h_val noA hbk Play_5 rfl rfl (by decide) hat (r_assign rfl) fun a hat => ?_
    refine hold_region_end ?_
    refine hold_retd hb hbf Play_fn hat.defers (ret_two Play_res hat rfl rfl) ?_
    exact hold_run (hbad _ hg0 h0 (.inl h1))
  refine h_val noA hbk Play_4 rfl rfl (by decide) hat (r_bool (t' := false) (r_lss rfl rfl) (by simp; omega)) fun a hat => ?_
  refine h_val noA hbk Play_4 rfl rfl (by decide) hat (r_move rfl) fun a hat => ?_
  refine hg_yes noA hbk Play_4 rfl rfl rfl rfl (by decide) hat (r_move rfl) fun a hat => ?_
  by_cases h2 : 16 < sh
  · refine hg_yes noA hbk Play_4 rfl rfl rfl rfl (by decide) hat (r_bool (t' := true) (r_gtr rfl rfl) (by simp; omega)) fun a hat => ?_
    refine h_val noA hbk Play_4 rfl rfl (by decide) hat (r_pick rfl rfl) fun a hat => ?_
    refine hold_region_end ?_
    refine hold_condT (hat.eval (q := .tmp 21) rfl) rfl ?_
    refine hold_seq ?_
    refine hold_region (l := [0,1]) rfl ?_
    refine h_val noA hbk Play_5 rfl rfl (by decide) hat (r_assign rfl) fun a hat => ?_
    refine h_val noA hbk Play_5 rfl rfl (by decide) hat (r_assign rfl) fun a hat => ?_
    refine hold_region_end ?_
    refine hold_retd hb hbf Play_fn hat.defers (ret_two Play_res hat rfl rfl) ?_
    exact hold_run (hbad _ hg0 h0 (.inr h2))
  refine hg_yes noA hbk Play_4 rfl rfl rfl rfl (by decide) hat (r_bool (t' := false) (r_gtr rfl rfl) (by simp; omega)) fun a hat => ?_
  refine h_val noA hbk Play_4 rfl rfl (by decide) hat (r_pick rfl rfl) fun a hat => ?_
  refine hold_region_end ?_
  refine hold_condF (hat.eval (q := .tmp 21) rfl) rfl ?_
  refine hold_skip ?_
  refine hold_seq ?_
  refine hold_region (l := [0,1,2,3,4]) rfl ?_
  refine h_val noA hbk Play_6 rfl rfl (by decide) hat (r_move rfl) fun a hat => ?_
  refine h_val noA hbk Play_6 rfl rfl (by decide) hat (r_move rfl) fun a hat => ?_
  refine h_callc hbk Play_6 rfl (by decide) hat cNew_fn cNew_bd cNew_nm (vals := #[_, _]) rfl fun c hc => ?_
  refine cNew_hold (hg0.ready hr) (hg0.at hw) sim_rows (by decide) fun v cv C lvv cb hr2 hC hSh => ?_
  refine hold_fin hc fun a hat => ?_
  have hG := Grow.refl v
  refine h_new noA hbk Play_6 rfl rfl (by decide) hat al_24 fun v a B9 hB9 hsB9 hg F9 hat => ?_
  have gB9 := Nat.le_trans hG.size (Nat.le_of_eq hB9)
  replace hG := hG.trans hg
  refine h_put noA hbk Play_6 rfl rfl hat (p_store st_24 rfl rfl rfl F9 rfl rfl) fun v a hP F9x hat => ?_
  simp only [List.setIfInBounds_toArray, List.set_cons_zero] at F9x
  replace hG := hG.put hP gB9
  replace F9 := F9x; clear F9x
  refine hold_region_end ?_
  refine hold_seq ?_
  refine hold_region (l := [0,1,2,3,4,5]) rfl ?_
  refine h_val noA hbk Play_7 rfl rfl (by decide) hat (r_move rfl) fun a hat => ?_
  refine h_val noA hbk Play_7 rfl rfl (by decide) hat (r_move rfl) fun a hat => ?_
  refine h_val noA hbk Play_7 rfl rfl (by decide) hat (mf_30_1 rfl) fun a hat => ?_
  refine h_callc hbk Play_7 rfl (by decide) hat PRun_fn PRun_bd PRun_nm (vals := #[_, _, _]) rfl fun c hc => ?_
  have hm : many sh = sh.toNat := by unfold many; omega
  rw [hm] at hC hSh
  obtain ⟨res, hres, K⟩ := hrun h0 (by omega) (by omega)
  generalize hmm : sh.toNat = m at *
  have hm1 : 1 ≤ m := by omega
  have hm2 : m ≤ 16 := by omega
  have hCw := hG.at hC.w
  have hCo := owns_grow hC.owns hG
  simp only [Nat.zero_add, List.nil_append] at hCo
  obtain ⟨gl, capl, curl, rfl, _, hgl, hcap, hcapm, hlsz, hltk⟩ := hSh.l.2.resolve_left (fun h => by have := h.2; omega)
  have hgl3 := hG.at hgl
  have hc3 := hG.at hSh.c
  have hmods : Mods (fun b => b = W) u v := hg0.mods.trans ((hC.mods.mono fun b _ h => h.resolve_right fun h => by cases h).trans hG.mods)
  have hchW : ch ≠ W := fun e => by have := hN.c; rw [e, hw] at this; cases this
  have hch3 : v.heap[ch]? = some (.chan 0 #[] false 0 0 false) := hmods.at hchW hN.c
  have hrvW := own_ne hN.owns hw (by decide)
  have hrv3 : v.ownsRow 0 3 1 rv sl.length (ints sl) := ownsRow_keep hN.owns fun b c' hb hc' => (hmods.same b (lt_of_heap hc') fun e => hrvW (by rw [hb, e]))
  have hcells : ∀ j, j < m → u.heap.size ≤ cb j ∧ v.heap[cb j]? = some (.cells #[.int .i64 j, .int .i64 0] 89 (0, 0)) := fun j hj => by
    obtain ⟨c1, c2⟩ := hSh.cells j hj
    rw [Nat.zero_add] at c2
    exact ⟨Nat.le_trans hg0.size c1, hG.at c2⟩
  have hcvn : cv.ownBlock = none ∨ ∀ b, cv.ownBlock = some b → u.heap.size ≤ b := hC.where_.imp id fun h b hb => Nat.le_trans hg0.size (h b hb)
  have hrd3 := hG.ready hr2
  obtain ⟨X, hXX⟩ : ∃ X : Nat → Prop, ∀ b, X b ↔ (wordsOf W ch rv b ∨ cv.ownBlock = some b ∨ ∃ j, j < m ∧ b = cb j) := ⟨_, fun _ => Iff.rfl⟩
  have hX1 : ∀ b, b < u.heap.size → X b → wordsOf W ch rv b := fun b hb h => by
    rcases (hXX b).1 h with h | h | ⟨j, hj, rfl⟩
    · exact h
    · rcases hcvn with h' | h'
      · rw [h'] at h; cases h
      · have := h' b h; omega
    · have := (hcells j hj).1; omega
  have hX2 : ∀ (b : Nat) (arr : Array Value) (t : TypeId) (fr : Nat × Nat), v.heap[b]? = some (.cells arr t fr) → t ≠ 74 → t ≠ 3 → t ≠ 89 → ¬ X b := fun b arr t fr hb n1 n2 n3 h => by
    rcases (hXX b).1 h with (rfl | rfl | h) | h | ⟨j, hj, rfl⟩
    · rw [hCw] at hb; cases hb; exact n1 rfl
    · rw [hch3] at hb; cases hb
    · exact own_ne hrv3 hb n2 h
    · exact own_ne hCo hb n2 h
    · rw [(hcells j hj).2] at hb; cases hb; exact n3 rfl
  have hltW := lt_of_heap hCw
  have hsX : ∀ b, wordsOf W ch rv b ∨ cv.ownBlock = some b ∨ (∃ j, j < m ∧ b = cb j) → ownOf X b = .sys := fun b h => ownOf_sys ((hXX b).2 h)
  have hcvW := own_ne hCo hCw (by decide)
  have hWN : WNew ⟨W, ch, N, fun _ => 0, fun _ => 0, cb, m, ownOf X⟩ (sys0 sl m) v := by
    refine ⟨rv, .int .i64 0, .int .i64 (-1), cv, .slice none 0 0, .slice none 0 0, .bool false, hCw, ⟨fun r x y hr => ?_, ⟨rv, cv, .slice none 0 0, .slice none 0 0, stand_at hltW, ownsRow_keep hrv3 fun b _ hb hb' => stand_ne fun e => ?_, ?_, ⟨rfl, .inl ⟨rfl, rfl⟩⟩, ⟨rfl, .inl ⟨rfl, rfl⟩⟩, fun b hb => hsX b (.inl (.inr (.inr hb))), fun b hb => hsX b (.inr (.inl hb)), fun b hb => by (cases hb), fun b hb => by (cases hb), ?_⟩, fun j t h => by simp [sys0] at h, ⟨⟨0, (stand_ne hchW).trans hch3⟩, hsX _ (.inl (.inr (.inl rfl))), hsX _ (.inl (.inl rfl))⟩, fun c x hc => ?_, Nat.zero_le _, fun x hx => ?_, fun i j hi => by simp [sys0] at hi, fun i hi => by simp [sys0] at hi, by simp [sys0], fun x hx => ?_⟩⟩
    · by_cases e : r = W
      · rw [e, stand_at hltW] at hr; cases hr
      · rw [stand_ne e] at hr; exact hrd3 r x y hr
    · exact own_ne hrv3 hCw (by decide) (by rw [hb, e])
    · have e0 : (sys0 sl m).cnt.length = m := by simp [sys0]
      have e1 : ints (sys0 sl m).cnt = List.replicate m (.int .i64 0) := by simp [sys0, ints]
      rw [e0, e1]
      exact ownsRow_keep hCo fun b _ hb hb' => stand_ne fun e => hcvW (by rw [hb, e])
    · rcases hcvn with h | h
      · by_cases e : rv.ownBlock = none
        · exact .inl e
        · right; rw [h]; exact e
      · by_cases e : rv.ownBlock = none
        · exact .inl e
        · right
          intro e2
          obtain ⟨b, hb⟩ := Option.ne_none_iff_exists'.1 e
          have := own_lt hN.owns hb
          have := h b (by rw [← e2]; exact hb)
          omega
    · have hcm : c < m := by have := (List.getElem?_eq_some_iff.1 hc).1; simpa [sys0] using this
      have hx0 : x = 0 := by
        have := List.mem_of_getElem? hc
        simp [sys0] at this
        exact this.2
      subst hx0
      obtain ⟨c1, c2⟩ := hcells c hcm
      exact ⟨(stand_ne fun (e : cb c = W) => by rw [e, hCw] at c2; cases c2).trans c2, hsX _ (.inr (.inr ⟨c, hcm, rfl⟩))⟩
    · simp [sys0] at hx; rw [hx.2]; decide
    · simp [sys0] at hx; rw [hx.2]; decide
  have hCE : CEnv B9 C gl m capl ⟨W, ch, N, fun _ => 0, fun _ => 0, cb, m, ownOf X⟩ v := by
    refine ⟨⟨F9, ownOf_const (hX2 _ _ _ _ F9 (by decide) (by decide) (by decide))⟩, ⟨hc3, ownOf_const (hX2 _ _ _ _ hc3 (by decide) (by decide) (by decide))⟩, fun j hj => ⟨?_, lt_of_heap (hcells j hj).2⟩, ⟨lt_of_heap hgl3, ownOf_const (hX2 _ _ _ _ hgl3 (by decide) (by decide) (by decide))⟩, hm1, hm2, Nat.le_refl _⟩
    rw [cell_at' hgl3]
    have h1 : (curl.toList.take (m * 1))[j]? = some (.pointer (some ⟨cb j, 0, none⟩)) := by rw [hltk]; simp [hj]
    rw [List.getElem?_take_of_lt (by omega)] at h1
    simpa using h1
  have hn8 : 1 ≤ n ∧ n ≤ 8 := by
    unfold mayE at h0
    split at h0
    · cases h0
    · split at h0
      · cases h0
      · omega
  have hlen : ∀ j, j < n → (l j).length ≤ 64 := fun j hj => by
    unfold mayE at h0
    split at h0
    · cases h0
    · rename_i hno
      by_cases h : (l j).length ≤ 64
      · exact h
      · exact absurd ⟨j, hj, (by show 64 < (l j).length; omega)⟩ hno
  obtain ⟨ad', cp', hsve, hat0⟩ := hS.at_
  cases hsve
  obtain ⟨sb, so, rfl, _⟩ := hat0 0 (by omega)
  have hsbW := hsb sb so cp rfl
  have hkeep : ∀ b, b < u.heap.size → ¬ wordsOf W ch rv b → v.heap[b]? = u.heap[b]? := fun b hb hx => hmods.same b hb fun e => hx (.inl e)
  have hkc : ∀ B O x, u.cell? ⟨B, O, none⟩ = some x → ¬ wordsOf W ch rv B → v.cell? ⟨B, O, none⟩ = some x := fun B O x hx hn => (cell_same (hkeep B (cell_low hx) hn)).trans hx
  refine hold_run (PRun_run (Γ := ⟨W, ch, N, fun _ => 0, fun _ => 0, cb, m, ownOf X⟩) ⟨n, fun _ => 0, fun _ => 0, 0, 0, 0, lv, counterV B9, fun i => counterP fu m i, l, CEnv B9 C gl m capl⟩ (by show 0 < n; omega) (by show n ≤ 1000; omega) (fun ob i _ => counter_do fu) (fun i Γ v Γ' v' h hR => h.keepU hR) rfl hWN rfl ⟨hsl.1, hsl.2⟩ hN0 hI (fun Γ' v' hX => hCE.extd hX) (fun j hj => ?_) (fun j hj => ?_) hres c (c0 :: cs) fun Γ' v' I' ob hWI hI' hlr hfin hM hob => ?_)
  · obtain ⟨B, O, e1, e2⟩ := hat0 j hj
    cases e1
    exact hkc _ _ _ e2 hsbW
  · obtain ⟨a', cap', e1, e2⟩ := hscr j hj
    refine ⟨a', cap', e1, hlen j hj, fun x y hx => ?_⟩
    obtain ⟨B, O, g1, g2, g3, g4, g5, g6, g7⟩ := e2 x y hx
    exact ⟨B, O, g1, Nat.lt_of_lt_of_le g2 hmods.size, ownOf_const fun h => g3 (hX1 B g2 h), hkc _ _ _ g4 g3, hkc _ _ _ g5 g3, hkc _ _ _ g6 g3, hkc _ _ _ g7 g3⟩
  · refine Run.of_hold ?_
    refine hold_fin hc fun a hat => ?_
    refine h_val noA hbk Play_7 rfl rfl (by decide) hat (r_assign rfl) fun a hat => ?_
    refine h_val noA hbk Play_7 rfl rfl (by decide) hat (r_assign rfl) fun a hat => ?_
    refine hold_region_end ?_
    refine hold_retd hb hbf Play_fn hat.defers (ret_two Play_res hat rfl rfl) ?_
    exact hold_run (K Γ' v' I' ob hWI hI' hlr hfin (fun b hb hx => (hM.keep b (Nat.lt_of_lt_of_le hb hmods.size) (.inr (ownOf_const fun h => hx (hX1 b hb h)))).trans (hkeep b hb hx)) hM.same.1 (Nat.le_trans hmods.size hob))
end
end Go.Proofs.Ytlnjmheocfbimaa

/- awake. -/
namespace Go.Proofs.Ytlnjmheocfbimaa
open Go Go.Conc
def awakeL : Nat → List ACall
  | 0 => [⟨1, 5, 0, 0⟩, ⟨2, 0, 0, 0⟩]
  | _ => [⟨1, -7, 0, 0⟩]
theorem awake_runs : (runs 60 (sys0 [] 2) (counterProgs 8 2 2 awakeL)).map (·.2) = some [[(0, 0), (0, -2)], [(0, 0)]] := by kernel_rfl
end Go.Proofs.Ytlnjmheocfbimaa

/- SameAnswers. -/
namespace Go.Proofs.Ytlnjmheocfbimaa
open Go Go.Conc
theorem fields_answer : (Try.prog.fieldsOf 53).toList.map (fun f => (f.name == "_", f.type, f.offset)) = [(false, 36, 0), (false, 3, 1)] := by kernel_rfl
theorem r_neqAns {e : Env} {q q' : Operand} {t' : TypeId} {v : World} {x0 x1 y0 y1 : Int} (h : opv e q = some (.agg #[.int .i64 x0, .int .i64 x1])) (h' : opv e q' = some (.agg #[.int .i64 y0, .int .i64 y1])) : RunsTo Try.prog e (.binOp .neq 53 q q' t') v (.value (.bool (!(x0 == y0 && x1 == y1)))) v := fun ρ o hρ ho t d => by
  simp only [execOp, ho, hρ _ _ h, hρ _ _ h']
  simp [go_sem]
  by_cases h1 : x0 = y0 <;> by_cases h2 : x1 = y1 <;> simp [h1, h2]
/-- A slice of answers, as it reads. -/
def AnsAt (v : World) (av : Value) (r : List (Int × Int)) : Prop :=
  ∃ ad cap, av = .slice ad r.length cap ∧ ∀ (j : Nat) (x : Int × Int), r[j]? = some x → ∃ B O, ad = some ⟨B, O, none⟩ ∧ v.cell? ⟨B, O + j * 2, none⟩ = some (.int .i64 x.1) ∧ v.cell? ⟨B, O + j * 2 + 1, none⟩ = some (.int .i64 x.2)
def AnssAt (v : World) (av : Value) (rs : List (List (Int × Int))) : Prop :=
  ∃ ad cap, av = .slice ad rs.length cap ∧ ∀ (i : Nat) (r : List (Int × Int)), rs[i]? = some r → ∃ B O x, ad = some ⟨B, O, none⟩ ∧ v.cell? ⟨B, O + i, none⟩ = some x ∧ AnsAt v x r
theorem AnsAt.grow {v v' : World} {av : Value} {r : List (Int × Int)} (h : AnsAt v av r) (g : Grow v v') : AnsAt v' av r := by
  obtain ⟨ad, cap, h1, h2⟩ := h
  exact ⟨ad, cap, h1, fun j x hx => by obtain ⟨B, O, e1, e2, e3⟩ := h2 j x hx; exact ⟨B, O, e1, grow_cell g e2, grow_cell g e3⟩⟩
theorem AnssAt.grow {v v' : World} {av : Value} {rs : List (List (Int × Int))} (h : AnssAt v av rs) (g : Grow v v') : AnssAt v' av rs := by
  obtain ⟨ad, cap, h1, h2⟩ := h
  exact ⟨ad, cap, h1, fun j x hx => by obtain ⟨B, O, y, e1, e2, e3⟩ := h2 j x hx; exact ⟨B, O, y, e1, grow_cell g e2, e3.grow g⟩⟩
section
variable {S : Addr → Prop} {main : Bool} {Stop : Goroutine → World → Prop} {cs : List Frame} {c : Frame}
theorem Same_in {av bv : Value} {rs rs' : List (List (Int × Int))} {x y : List (Int × Int)} {i : Nat} (hx : rs[i]? = some x) (hy : rs'[i]? = some y) (hxy : x.length = y.length) (hsm : x.length < 2 ^ 62) (hsi : rs.length < 2 ^ 62) (hle : rs.length = rs'.length) {b : Frame} (hb : b.kind = .normal) (hbf : b.fn = 18) {k : List Item}
    {u : World} (Hn : x ≠ y → ∀ v, Grow u v → Hold Try.prog main S Stop (G (c.finish (.bool false)) cs) v)
    (H : x = y → ∀ v a, Grow u v → AnssAt v av rs → AnssAt v bv rs' → AtE 53 [] [(5, .int .i64 i), (1, bv), (0, av)] a → Hold Try.prog main S Stop (G (b.at a k) (c :: cs)) v) :
    ∀ (r j : Nat) (v : World) (a : Act), j + r = x.length → x.take j = y.take j → Grow u v → AnssAt v av rs → AnssAt v bv rs' → AtE 53 [] [(6, .int .i64 j), (5, .int .i64 i), (1, bv), (0, av)] a → Hold Try.prog main S Stop (G (b.at a (.code Same_L1 :: .inLoop Same_L1 :: .inBlock 2 :: k)) (c :: cs)) v := by
  have hbk := not_early hb
  have hi := (List.getElem?_eq_some_iff.1 hx).1
  intro r
  induction r with
  | zero =>
    intro j v a hj ht hg hA hB hat
    obtain ⟨ad, cap, rfl, hA2⟩ := id hA
    obtain ⟨B, O, xv, rfl, hA3, ad2, cap2, rfl, hA4⟩ := hA2 i x hx
    refine hold_unf Same_L1_def ?_
    refine hold_seq ?_
    refine hold_seq ?_
    refine hold_region (l := [0,1,2,3,4,5,6]) rfl ?_
    refine h_val noA hbk Same_8 rfl rfl (by decide) hat (r_move rfl) fun a hat => ?_
    refine h_val noA hbk Same_8 rfl rfl (by decide) hat (r_move rfl) fun a hat => ?_
    refine h_val noA hbk Same_8 rfl rfl (by decide) hat (r_move rfl) fun a hat => ?_
    refine h_val noA hbk Same_8 rfl rfl (by decide) hat (r_index ix_35 rfl rfl (by omega) (by omega)) fun a hat => ?_
    refine h_val noA hbk Same_8 rfl rfl (by decide) hat (r_load ld_48 rfl (by simpa using hA3)) fun a hat => ?_
    refine h_val noA hbk Same_8 rfl rfl (by decide) hat (r_len lk_48 rfl) fun a hat => ?_
    refine h_val noA hbk Same_8 rfl rfl (by decide) hat (r_bool (t' := false) (r_lss rfl rfl) (by first | (simp; omega) | (simp; done) | (simp_all; done) | (simp_all; omega))) fun a hat => ?_
    refine hold_region_end ?_
    refine hold_condF (hat.eval (q := .tmp 35) rfl) rfl ?_
    refine hold_exit (k' := _) rfl ?_
    have hxy2 : x = y := by
      rw [List.take_of_length_le (by omega), List.take_of_length_le (by omega)] at ht; exact ht
    exact H hxy2 v a hg hA hB (hat.sub (AtE.cons rfl (AtE.cons rfl (AtE.cons rfl (AtE.nil)))))
  | succ r ih =>
    intro j v a hj ht hg hA hB hat
    obtain ⟨ad, cap, rfl, hA2⟩ := id hA
    obtain ⟨B, O, xv, rfl, hA3, ad2, cap2, rfl, hA4⟩ := hA2 i x hx
    obtain ⟨ad', cap', rfl, hB2⟩ := id hB
    obtain ⟨B', O', yv, rfl, hB3, ad2', cap2', rfl, hB4⟩ := hB2 i y hy
    obtain ⟨p, hp⟩ : ∃ p, x[j]? = some p := ⟨x[j]'(by omega), by simp⟩
    obtain ⟨q, hq⟩ : ∃ q, y[j]? = some q := ⟨y[j]'(by omega), by simp⟩
    obtain ⟨C, P, rfl, hp1, hp2⟩ := hA4 j p hp
    obtain ⟨C', P', rfl, hq1, hq2⟩ := hB4 j q hq
    have hsi' : rs'.length < 2 ^ 62 := by omega
    refine hold_unf Same_L1_def ?_
    refine hold_seq ?_
    refine hold_seq ?_
    refine hold_region (l := [0,1,2,3,4,5,6]) rfl ?_
    refine h_val noA hbk Same_8 rfl rfl (by decide) hat (r_move rfl) fun a hat => ?_
    refine h_val noA hbk Same_8 rfl rfl (by decide) hat (r_move rfl) fun a hat => ?_
    refine h_val noA hbk Same_8 rfl rfl (by decide) hat (r_move rfl) fun a hat => ?_
    refine h_val noA hbk Same_8 rfl rfl (by decide) hat (r_index ix_35 rfl rfl (by omega) (by omega)) fun a hat => ?_
    refine h_val noA hbk Same_8 rfl rfl (by decide) hat (r_load ld_48 rfl (by simpa using hA3)) fun a hat => ?_
    refine h_val noA hbk Same_8 rfl rfl (by decide) hat (r_len lk_48 rfl) fun a hat => ?_
    refine h_val noA hbk Same_8 rfl rfl (by decide) hat (r_bool (t' := true) (r_lss rfl rfl) (by first | (simp; omega) | (simp; done) | (simp_all; done) | (simp_all; omega))) fun a hat => ?_
    refine hold_region_end ?_
    refine hold_condT (hat.eval (q := .tmp 35) rfl) rfl ?_
    refine hold_skip ?_
    refine hold_seq ?_
    refine hold_block ?_
    refine hold_seq ?_
    refine hold_draw3 (ord := [0,1,2,3,4,5,6,7,8,9,10,11,12,13,14]) (bigs := []) mixed_ok (by kernel_rfl) (by kernel_rfl) hat ?_
    refine tx_val noA hbk Same_9 rfl rfl (by decide) rfl (fun v hv => (r_move rfl)) ?_
    refine tx_val noA hbk Same_9 rfl rfl (by decide) rfl (fun v hv => (r_move rfl)) ?_
    refine tx_val noA hbk Same_9 rfl rfl (by decide) rfl (fun v hv => (r_index ix_35 rfl rfl (by omega) (by omega))) ?_
    refine tx_val noA hbk Same_9 rfl rfl (by decide) rfl (fun v hv => (r_load ld_48 rfl (by simpa using grow_cell hv hA3))) ?_
    refine tx_val noA hbk Same_9 rfl rfl (by decide) rfl (fun v hv => (r_move rfl)) ?_
    refine tx_val noA hbk Same_9 rfl rfl (by decide) rfl (fun v hv => (r_index ix_48 rfl rfl (by omega) (by omega))) ?_
    refine tx_val noA hbk Same_9 rfl rfl (by decide) rfl (fun v hv => (lg_53 rfl (by simpa using grow_cell hv hp1) (by simpa using grow_cell hv hp2))) ?_
    refine tx_val noA hbk Same_9 rfl rfl (by decide) rfl (fun v hv => (r_move rfl)) ?_
    refine tx_val noA hbk Same_9 rfl rfl (by decide) rfl (fun v hv => (r_move rfl)) ?_
    refine tx_val noA hbk Same_9 rfl rfl (by decide) rfl (fun v hv => (r_index ix_35 rfl rfl (by omega) (by omega))) ?_
    refine tx_val noA hbk Same_9 rfl rfl (by decide) rfl (fun v hv => (r_load ld_48 rfl (by simpa using grow_cell hv hB3))) ?_
    refine tx_val noA hbk Same_9 rfl rfl (by decide) rfl (fun v hv => (r_move rfl)) ?_
    refine tx_val noA hbk Same_9 rfl rfl (by decide) rfl (fun v hv => (r_index ix_48 rfl rfl (by omega) (by omega))) ?_
    refine tx_val noA hbk Same_9 rfl rfl (by decide) rfl (fun v hv => (lg_53 rfl (by simpa using grow_cell hv hq1) (by simpa using grow_cell hv hq2))) ?_
    by_cases hpq : p = q
    · refine tx_val noA hbk Same_9 rfl (opOk_eq (by kernel_rfl)) (by decide) rfl (fun v hv => (r_bool (t' := false) (r_neqAns rfl rfl) (by simp [hpq]))) ?_
      refine tx_end fun v a hv hat => ?_
      refine hold_region_end ?_
      refine hold_condF (hat.eval (q := .tmp 52) rfl) rfl ?_
      refine hold_skip ?_
      refine hold_inBlock ?_
      refine hold_region (l := [0,1,2]) rfl ?_
      refine h_val noA hbk Same_11 rfl rfl (by decide) hat (r_move rfl) fun a hat => ?_
      refine h_val noA hbk Same_11 rfl rfl (by decide) hat (r_add rfl rfl (by first | omega | (simp; omega))) fun a hat => ?_
      refine h_val noA hbk Same_11 rfl rfl (by decide) hat (r_assign rfl) fun a hat => ?_
      refine hold_region_end ?_
      refine hold_inLoop ?_
      refine ih (j + 1) v a (by omega) ?_ (hg.trans hv) (hA.grow hv) (hB.grow hv) (hat.sub (AtE.cons rfl (AtE.cons rfl (AtE.cons rfl (AtE.cons rfl (AtE.nil))))))
      rw [List.take_add_one, List.take_add_one, ht, hp, hq, hpq]
    · skip
      refine tx_val noA hbk Same_9 rfl (opOk_eq (by kernel_rfl)) (by decide) rfl (fun v hv => (r_bool (t' := true) (r_neqAns rfl rfl) (by simp; exact Classical.or_iff_not_imp_left.2 fun h1 h2 => hpq (Prod.ext (Classical.not_not.1 h1) h2)))) ?_
      refine tx_end fun v a hv hat => ?_
      refine hold_region_end ?_
      refine hold_condT (hat.eval (q := .tmp 52) rfl) rfl ?_
      refine hold_seq ?_
      refine hold_region (l := [0]) rfl ?_
      refine h_val noA hbk Same_10 rfl rfl (by decide) hat (r_assign rfl) fun a hat => ?_
      refine hold_region_end ?_
      refine hold_retd hb hbf Same_fn hat.defers (ret_one Same_res hat rfl) ?_
      exact Hn (fun e => hpq (by rw [e, hq] at hp; exact (Option.some.inj hp).symm)) _ (hg.trans hv)
theorem Same_out {av bv : Value} {rs rs' : List (List (Int × Int))} (hle : rs.length = rs'.length) (hsi : rs.length < 2 ^ 62) (hsm : ∀ (i : Nat) (x : List (Int × Int)), rs[i]? = some x → x.length < 2 ^ 62) (hsm' : ∀ (i : Nat) (x : List (Int × Int)), rs'[i]? = some x → x.length < 2 ^ 62) {b : Frame} (hb : b.kind = .normal) (hbf : b.fn = 18) {k : List Item} {u : World}
    (Hn : rs ≠ rs' → ∀ v, Grow u v → Hold Try.prog main S Stop (G (c.finish (.bool false)) cs) v)
    (H : rs = rs' → ∀ v a, Grow u v → AtE 53 [] [] a → Hold Try.prog main S Stop (G (b.at a k) (c :: cs)) v) :
    ∀ (r i : Nat) (v : World) (a : Act), i + r = rs.length → rs.take i = rs'.take i → Grow u v → AnssAt v av rs → AnssAt v bv rs' → AtE 53 [] [(5, .int .i64 i), (1, bv), (0, av)] a → Hold Try.prog main S Stop (G (b.at a (.code Same_L0 :: .inLoop Same_L0 :: .inBlock 0 :: k)) (c :: cs)) v := by
  have hbk := not_early hb
  intro r
  induction r with
  | zero =>
    intro i v a hj ht hg hA hB hat
    obtain ⟨ad, cap, rfl, hA2⟩ := id hA
    refine hold_unf Same_L0_def ?_
    refine hold_seq ?_
    refine hold_seq ?_
    refine hold_region (l := [0,1,2,3]) rfl ?_
    refine h_val noA hbk Same_4 rfl rfl (by decide) hat (r_move rfl) fun a hat => ?_
    refine h_val noA hbk Same_4 rfl rfl (by decide) hat (r_move rfl) fun a hat => ?_
    refine h_val noA hbk Same_4 rfl rfl (by decide) hat (r_len lk_35 rfl) fun a hat => ?_
    refine h_val noA hbk Same_4 rfl rfl (by decide) hat (r_bool (t' := false) (r_lss rfl rfl) (by first | (simp; omega) | (simp; done) | (simp_all; done) | (simp_all; omega))) fun a hat => ?_
    refine hold_region_end ?_
    refine hold_condF (hat.eval (q := .tmp 15) rfl) rfl ?_
    refine hold_exit (k' := _) rfl ?_
    have hxy2 : rs = rs' := by
      rw [List.take_of_length_le (by omega), List.take_of_length_le (by omega)] at ht; exact ht
    exact H hxy2 v a hg (hat.sub (AtE.nil))
  | succ r ih =>
    intro i v a hj ht hg hA hB hat
    obtain ⟨ad, cap, rfl, hA2⟩ := id hA
    obtain ⟨ad', cap', rfl, hB2⟩ := id hB
    obtain ⟨x, hx⟩ : ∃ x, rs[i]? = some x := ⟨rs[i]'(by omega), by simp⟩
    obtain ⟨y, hy⟩ : ∃ y, rs'[i]? = some y := ⟨rs'[i]'(by omega), by simp⟩
    obtain ⟨B, O, xv, rfl, hA3, ad2, cap2, rfl, hA4⟩ := hA2 i x hx
    obtain ⟨B', O', yv, rfl, hB3, ad2', cap2', rfl, hB4⟩ := hB2 i y hy
    have hx1 := hsm i x hx
    have hy1 := hsm' i y hy
    have hsi' : rs'.length < 2 ^ 62 := by omega
    refine hold_unf Same_L0_def ?_
    refine hold_seq ?_
    refine hold_seq ?_
    refine hold_region (l := [0,1,2,3]) rfl ?_
    refine h_val noA hbk Same_4 rfl rfl (by decide) hat (r_move rfl) fun a hat => ?_
    refine h_val noA hbk Same_4 rfl rfl (by decide) hat (r_move rfl) fun a hat => ?_
    refine h_val noA hbk Same_4 rfl rfl (by decide) hat (r_len lk_35 rfl) fun a hat => ?_
    refine h_val noA hbk Same_4 rfl rfl (by decide) hat (r_bool (t' := true) (r_lss rfl rfl) (by first | (simp; omega) | (simp; done) | (simp_all; done) | (simp_all; omega))) fun a hat => ?_
    refine hold_region_end ?_
    refine hold_condT (hat.eval (q := .tmp 15) rfl) rfl ?_
    refine hold_skip ?_
    refine hold_seq ?_
    refine hold_block ?_
    refine hold_seq ?_
    refine hold_seq ?_
    refine hold_draw3 (ord := [0,1,2,3,4,5,6,7,8,9,10]) (bigs := []) mixed_ok (by kernel_rfl) (by kernel_rfl) hat ?_
    refine tx_val noA hbk Same_5 rfl rfl (by decide) rfl (fun v hv => (r_move rfl)) ?_
    refine tx_val noA hbk Same_5 rfl rfl (by decide) rfl (fun v hv => (r_move rfl)) ?_
    refine tx_val noA hbk Same_5 rfl rfl (by decide) rfl (fun v hv => (r_index ix_35 rfl rfl (by omega) (by omega))) ?_
    refine tx_val noA hbk Same_5 rfl rfl (by decide) rfl (fun v hv => (r_load ld_48 rfl (by simpa using grow_cell hv hA3))) ?_
    refine tx_val noA hbk Same_5 rfl rfl (by decide) rfl (fun v hv => (r_len lk_48 rfl)) ?_
    refine tx_val noA hbk Same_5 rfl rfl (by decide) rfl (fun v hv => (r_move rfl)) ?_
    refine tx_val noA hbk Same_5 rfl rfl (by decide) rfl (fun v hv => (r_move rfl)) ?_
    refine tx_val noA hbk Same_5 rfl rfl (by decide) rfl (fun v hv => (r_index ix_35 rfl rfl (by omega) (by omega))) ?_
    refine tx_val noA hbk Same_5 rfl rfl (by decide) rfl (fun v hv => (r_load ld_48 rfl (by simpa using grow_cell hv hB3))) ?_
    refine tx_val noA hbk Same_5 rfl rfl (by decide) rfl (fun v hv => (r_len lk_48 rfl)) ?_
    by_cases hl : x.length = y.length
    · refine tx_val noA hbk Same_5 rfl (opOk_eq (by kernel_rfl)) (by decide) rfl (fun v hv => (r_bool (t' := false) (r_neq rfl rfl) (by simp [hl]))) ?_
      refine tx_end fun v a hv hat => ?_
      refine hold_region_end ?_
      refine hold_condF (hat.eval (q := .tmp 28) rfl) rfl ?_
      refine hold_skip ?_
      refine hold_seq ?_
      refine hold_region (l := [0]) rfl ?_
      refine h_val noA hbk Same_7 rfl rfl (by decide) hat (r_assign rfl) fun a hat => ?_
      refine hold_region_end ?_
      refine hold_block ?_
      refine hold_loop ?_
      have hA' := hA.grow hv
      have hB' := hB.grow hv
      refine Same_in hx hy hl hx1 hsi hle hb hbf (u := v) (fun hne w hw => Hn (fun e => hne (by rw [e, hy] at hx; exact (Option.some.inj hx).symm)) w ((hg.trans hv).trans hw)) (fun he v a hg2 hA hB hat => ?_) x.length 0 v a (by omega) rfl (Grow.refl v) hA' hB' (hat.sub (AtE.cons rfl (AtE.cons rfl (AtE.cons rfl (AtE.cons rfl (AtE.nil))))))
      refine hold_inBlock ?_
      refine hold_region (l := [0,1,2]) rfl ?_
      refine h_val noA hbk Same_12 rfl rfl (by decide) hat (r_move rfl) fun a hat => ?_
      refine h_val noA hbk Same_12 rfl rfl (by decide) hat (r_add rfl rfl (by first | omega | (simp; omega))) fun a hat => ?_
      refine h_val noA hbk Same_12 rfl rfl (by decide) hat (r_assign rfl) fun a hat => ?_
      refine hold_region_end ?_
      refine hold_inLoop ?_
      refine ih (i + 1) v a (by omega) ?_ ((hg.trans hv).trans hg2) hA hB (hat.sub (AtE.cons rfl (AtE.cons rfl (AtE.cons rfl (AtE.nil)))))
      rw [List.take_add_one, List.take_add_one, ht, hx, hy, he]
    · skip
      refine tx_val noA hbk Same_5 rfl (opOk_eq (by kernel_rfl)) (by decide) rfl (fun v hv => (r_bool (t' := true) (r_neq rfl rfl) (by simp; omega))) ?_
      refine tx_end fun v a hv hat => ?_
      refine hold_region_end ?_
      refine hold_condT (hat.eval (q := .tmp 28) rfl) rfl ?_
      refine hold_seq ?_
      refine hold_region (l := [0]) rfl ?_
      refine h_val noA hbk Same_6 rfl rfl (by decide) hat (r_assign rfl) fun a hat => ?_
      refine hold_region_end ?_
      refine hold_retd hb hbf Same_fn hat.defers (ret_one Same_res hat rfl) ?_
      exact Hn (fun e => hl (by rw [e, hy] at hx; rw [Option.some.inj hx])) _ (hg.trans hv)
theorem Same_hold {av bv : Value} {rs rs' : List (List (Int × Int))} (hsi : rs.length < 2 ^ 62) (_hsi' : rs'.length < 2 ^ 62) (hsm : ∀ (i : Nat) (x : List (Int × Int)), rs[i]? = some x → x.length < 2 ^ 62) (hsm' : ∀ (i : Nat) (x : List (Int × Int)), rs'[i]? = some x → x.length < 2 ^ 62) {v : World} (hA : AnssAt v av rs) (hB : AnssAt v bv rs')
    (H : ∀ v', Grow v v' → Hold Try.prog main S Stop (G (c.finish (.bool (decide (rs = rs')))) cs) v') :
    Hold Try.prog main S Stop (G (Frame.enter Try.prog 18 #[av, bv] .normal) (c :: cs)) v := by
  obtain ⟨ad, cap, rfl, hA2⟩ := id hA
  obtain ⟨ad', cap', rfl, hB2⟩ := id hB
  obtain ⟨b, a, hEq, hb, hbf, hat⟩ := enter_is Same_fn Same_body Same_tmps #[.slice ad rs.length cap, .slice ad' rs'.length cap'] [(0, .slice ad rs.length cap), (1, .slice ad' rs'.length cap')] rfl (by simp)
  rw [hEq]
  have hbk := not_early hb
  refine hold_unf Same_code_def ?_
  refine hold_seq ?_
  refine hold_region (l := [0]) rfl ?_
  refine h_val noA hbk Same_0 rfl rfl (by decide) hat (r_assign rfl) fun a hat => ?_
  refine hold_region_end ?_
  refine hold_seq ?_
  refine hold_seq ?_
  refine hold_region (l := [0,1,2,3,4]) rfl ?_
  refine h_val noA hbk Same_1 rfl rfl (by decide) hat (r_move rfl) fun a hat => ?_
  refine h_val noA hbk Same_1 rfl rfl (by decide) hat (r_len lk_35 rfl) fun a hat => ?_
  refine h_val noA hbk Same_1 rfl rfl (by decide) hat (r_move rfl) fun a hat => ?_
  refine h_val noA hbk Same_1 rfl rfl (by decide) hat (r_len lk_35 rfl) fun a hat => ?_
  by_cases hl : rs.length = rs'.length
  · refine h_val noA hbk Same_1 rfl (opOk_eq (by kernel_rfl)) (by decide) hat (r_bool (t' := false) (r_neq rfl rfl) (by simp [hl])) fun a hat => ?_
    refine hold_region_end ?_
    refine hold_condF (hat.eval (q := .tmp 11) rfl) rfl ?_
    refine hold_skip ?_
    refine hold_seq ?_
    refine hold_seq ?_
    refine hold_region (l := [0]) rfl ?_
    refine h_val noA hbk Same_3 rfl rfl (by decide) hat (r_assign rfl) fun a hat => ?_
    refine hold_region_end ?_
    refine hold_block ?_
    refine hold_loop ?_
    refine Same_out hl hsi hsm hsm' hb hbf (u := v) (fun hne v' hu => ?_) (fun he v' a hg hat => ?_) rs.length 0 v a (by omega) rfl (Grow.refl v) hA hB (hat.sub (AtE.cons rfl (AtE.cons rfl (AtE.cons rfl (AtE.nil)))))
    · have := H v' hu
      rw [decide_eq_false hne] at this
      exact this
    · refine hold_seq ?_
      refine hold_region (l := [0]) rfl ?_
      refine h_val noA hbk Same_13 rfl rfl (by decide) hat (r_assign rfl) fun a hat => ?_
      refine hold_region_end ?_
      refine hold_retd hb hbf Same_fn hat.defers (ret_one Same_res hat rfl) ?_
      have := H v' hg
      rw [decide_eq_true he] at this
      exact this
  · skip
    refine h_val noA hbk Same_1 rfl (opOk_eq (by kernel_rfl)) (by decide) hat (r_bool (t' := true) (r_neq rfl rfl) (by simp; omega)) fun a hat => ?_
    refine hold_region_end ?_
    refine hold_condT (hat.eval (q := .tmp 11) rfl) rfl ?_
    refine hold_seq ?_
    refine hold_region (l := [0]) rfl ?_
    refine h_val noA hbk Same_2 rfl rfl (by decide) hat (r_assign rfl) fun a hat => ?_
    refine hold_region_end ?_
    refine hold_retd hb hbf Same_fn hat.defers (ret_one Same_res hat rfl) ?_
    have := H v (Grow.refl v)
    rw [decide_eq_false fun e => hl (by rw [e])] at this
    exact this
end
end Go.Proofs.Ytlnjmheocfbimaa

/- awake, whole. -/
namespace Go.Proofs.Ytlnjmheocfbimaa
open Go Go.Conc
theorem ansFlat_get : ∀ (r : List (Int × Int)) (j : Nat) (x : Int × Int), r[j]? = some x → (ansFlat r)[j * 2]? = some (.int .i64 x.1) ∧ (ansFlat r)[j * 2 + 1]? = some (.int .i64 x.2)
  | [], j, x, h => by cases h
  | y :: r, 0, x, h => by
    simp only [List.getElem?_cons_zero, Option.some.injEq] at h
    subst h
    exact ⟨rfl, rfl⟩
  | y :: r, j + 1, x, h => by
    have := ansFlat_get r j x (by simpa using h)
    have e : ansFlat (y :: r) = .int .i64 y.1 :: .int .i64 y.2 :: ansFlat r := by simp [ansFlat]
    rw [e]
    refine ⟨?_, ?_⟩
    · rw [show (j + 1) * 2 = (j * 2 + 1) + 1 by omega, List.getElem?_cons_succ, List.getElem?_cons_succ]; exact this.1
    · rw [show (j + 1) * 2 + 1 = (j * 2 + 1 + 1) + 1 by omega, List.getElem?_cons_succ, List.getElem?_cons_succ]; exact this.2
theorem ansAt_own {v : World} {ov : Value} {r : List (Int × Int)} (h : v.ownsRow 0 53 2 ov r.length (ansFlat r)) : AnsAt v ov r := by
  rcases h.2 with ⟨rfl, h0⟩ | ⟨g, cap, cur, rfl, _, hg, _, _, _, ht⟩
  · rw [List.length_eq_zero_iff.1 h0]
    exact ⟨none, 0, rfl, fun j x hx => by cases hx⟩
  · refine ⟨_, cap, rfl, fun j x hx => ⟨g, 0, rfl, ?_⟩⟩
    obtain ⟨h1, h2⟩ := ansFlat_get r j x hx
    have hj := (List.getElem?_eq_some_iff.1 hx).1
    rw [cell_at' hg, cell_at' hg]
    rw [← ht, List.getElem?_take_of_lt (by omega)] at h1 h2
    refine ⟨?_, ?_⟩
    · rw [Nat.zero_add]; simpa using h1
    · rw [Nat.zero_add]; simpa using h2
theorem anssAt_fin {v : World} {Γ : Gho} {ob n : Nat} {rs : List (List (Int × Int))} (hl : rs.length = n) (h : ∀ i r, rs[i]? = some r → FinOut i ob r Γ v) : AnssAt v (.slice (some ⟨ob, 0, none⟩) n n) rs := by
  subst hl
  refine ⟨_, _, rfl, fun i r hr => ?_⟩
  obtain ⟨_, ov, h1, h2, _⟩ := h i r hr
  exact ⟨ob, 0, ov, rfl, by rw [Nat.zero_add]; exact h1, ansAt_own h2⟩
section
variable {Done : Goroutine → World → Prop}
theorem awake_run {u : World} {N : Nat} (hr : Ready0 u) (hN0 : 0 < N) {I : Inbs} (hI : ∀ x, x ≠ 0 → I x = none) {c0 : Frame} {cs : List Frame}
    (K : ∀ v' I', (∀ x, x ≠ 0 → I' x = none) → Grow u v' → Run Try.prog Done S0 0 (N + 2) I' (G (c0.finish (.bool true)) cs) v') :
    Run Try.prog Done S0 0 N I (G (Frame.enter Try.prog 6 #[] .normal) (c0 :: cs)) u := by
  refine Run.of_hold ?_
  obtain ⟨b, a, hEq, hb, hbf, hat⟩ := enter_is awake_fn awake_body awake_tmps #[] [] rfl (by simp)
  rw [hEq]
  have hbk := not_early hb
  refine hold_unf awake_code_def ?_
  refine hold_seq ?_
  refine hold_region (l := [0]) rfl ?_
  refine h_val noA hbk awake_0 rfl rfl (by decide) hat (r_assign rfl) fun a hat => ?_
  refine hold_region_end ?_
  refine hold_seq ?_
  refine hold_region (l := [0,1]) rfl ?_
  refine h_callc hbk awake_1 rfl (by decide) hat wNew_fn wNew_bd wNew_nm (vals := #[_]) rfl fun c hc => ?_
  refine wNew_hold (sl := []) hr ⟨rfl, .inl ⟨0, rfl, rfl⟩, by simp [ints]⟩ (by decide) fun v W ch rv hg1 hw hWl hcl hch hrv hrvn hrvW => ?_
  refine hold_fin hc fun a hat => ?_
  have hG := Grow.refl v
  refine h_val noA hbk awake_1 rfl rfl (by decide) hat (r_assign rfl) fun a hat => ?_
  refine hold_region_end ?_
  refine hold_seq ?_
  refine hold_region (l := [0,1,2,3,4,5,6,7,8,9,10,11,12]) rfl ?_
  refine h_val noA hbk awake_2 rfl rfl (by decide) hat (r_move rfl) fun a hat => ?_
  refine h_val noA hbk awake_2 rfl rfl (by decide) hat (bu_50_0_1 rfl rfl rfl rfl) fun a hat => ?_
  refine h_val noA hbk awake_2 rfl rfl (by decide) hat (bu_50_0 rfl rfl) fun a hat => ?_
  refine h_news noA hbk awake_2 rfl rfl (by decide) hat (bs_47_2_0_1 rfl rfl) fun v a B9 hB9 hsB9 hg F9 hat => ?_
  have gB9 := Nat.le_trans hG.size (Nat.le_of_eq hB9)
  replace hG := hG.trans hg
  refine h_val noA hbk awake_2 rfl rfl (by decide) hat (bu_50_0_1 rfl rfl rfl rfl) fun a hat => ?_
  refine h_news noA hbk awake_2 rfl rfl (by decide) hat (bs_47_1_0 rfl) fun v a B11 hB11 hsB11 hg F11 hat => ?_
  have n_F11_F9 := ne_new F9 hB11
  have gB11 := Nat.le_trans hG.size (Nat.le_of_eq hB11)
  replace hG := hG.trans hg
  replace F9 := hg.at F9
  refine h_news noA hbk awake_2 rfl rfl (by decide) hat (bs_32_2_0_1 rfl rfl rfl rfl) fun v a B12 hB12 hsB12 hg F12 hat => ?_
  have n_F12_F9 := ne_new F9 hB12
  have n_F12_F11 := ne_new F11 hB12
  have gB12 := Nat.le_trans hG.size (Nat.le_of_eq hB12)
  replace hG := hG.trans hg
  replace F9 := hg.at F9
  replace F11 := hg.at F11
  refine h_callc hbk awake_2 rfl (by decide) hat Play_fn Play_bd Play_nm (vals := #[_, _, _]) rfl fun c hc => ?_
  have hne : ∀ {b arr t fr}, v.heap[b]? = some (.cells arr t fr) → t ≠ 74 → t ≠ 3 → ¬ wordsOf W ch rv b := fun {b arr t fr} hb n1 n2 h => by
    rcases h with rfl | rfl | h
    · rw [hG.at hw] at hb; cases hb; exact n1 rfl
    · rw [hG.at hch] at hb; cases hb
    · exact own_ne (owns_grow hrv hG) hb n2 h
  have hwl : ∀ b, wordsOf W ch rv b → u.heap.size ≤ b := fun b h => by
    rcases h with rfl | rfl | h
    · exact hWl
    · exact hcl
    · exact hrvn b h
  have hm0 : mayE 2 (fun j => (awakeL j).length) false = 0 := by
    unfold mayE
    rw [if_neg, if_neg (by decide)]
    rintro ⟨j, hj, h⟩
    rcases (show j = 0 ∨ j = 1 by omega) with rfl | rfl <;> exact absurd h (by decide)
  have hlen := hG.size
  refine hold_run (Play_run (fu := 8) (f := 60) (l := awakeL) (lv := fun j => match j with | 0 => .slice (some ⟨B9, 0, none⟩) 2 2 | _ => .slice (some ⟨B11, 0, none⟩) 1 1) (hG.ready (hg1.ready hr)) ⟨hG.at hw, hG.at hch, owns_grow hrv hG⟩ ⟨by simp, by decide⟩ hN0 hI ⟨⟨_, _, rfl, fun j hj => ⟨B12, 0, rfl, ?_⟩⟩, fun j hj => ?_, by decide, fun j hj => ?_⟩ ⟨_, _, rfl⟩ (fun B O cp h => ?_) (fun j hj => ?_) (fun v' _ h => absurd hm0 h) (fun v' _ _ h => ?_) (fun _ _ _ => ?_))
  · rcases (show j = 0 ∨ j = 1 by omega) with rfl | rfl <;> exact cell_at' F12
  · rcases (show j = 0 ∨ j = 1 by omega) with rfl | rfl <;> exact ⟨_, _, rfl⟩
  · rcases (show j = 0 ∨ j = 1 by omega) with rfl | rfl <;> decide
  · cases h
    exact hne F12 (by decide) (by decide)
  · rcases (show j = 0 ∨ j = 1 by omega) with rfl | rfl
    · refine ⟨_, _, rfl, fun i x hx => ⟨B9, 0, rfl, lt_of_heap F9, hne F9 (by decide) (by decide), ?_⟩⟩
      have hi : i = 0 ∨ i = 1 := by have := (List.getElem?_eq_some_iff.1 hx).1; simp [awakeL] at this; omega
      rcases hi with rfl | rfl <;> (cases hx; exact ⟨cell_at' F9, cell_at' F9, cell_at' F9, cell_at' F9⟩)
    · refine ⟨_, _, rfl, fun i x hx => ⟨B11, 0, rfl, lt_of_heap F11, hne F11 (by decide) (by decide), ?_⟩⟩
      have hi : i = 0 := by have := (List.getElem?_eq_some_iff.1 hx).1; simp [awakeL] at this; omega
      subst hi
      cases hx
      exact ⟨cell_at' F11, cell_at' F11, cell_at' F11, cell_at' F11⟩
  · omega
  · obtain ⟨⟨A', rs⟩, hA', hrs⟩ := Option.map_eq_some_iff.1 awake_runs
    refine ⟨(A', rs), hA', ?_⟩
    simp only at hrs
    subst hrs
    intro Γ' v2 I' ob hWI hI' hlr hfin hkeep hW' hob
    refine Run.of_hold ?_
    refine hold_fin hc fun a hat => ?_
    have hwl' : ∀ b, b < u.heap.size → ¬ wordsOf W ch rv b := fun b hb h => by have := hwl b h; omega
    have hG1 : Grow u v2 := ⟨Nat.le_trans hg1.size (Nat.le_trans hG.size (Nat.le_trans hob (Nat.le_of_lt (hfin 0 _ rfl).1.1))), fun b hb => (hkeep b (Nat.lt_of_lt_of_le hb (Nat.le_trans hg1.size hG.size)) (hwl' b hb)).trans ((hG.same b (Nat.lt_of_lt_of_le hb hg1.size)).trans (hg1.same b hb)), fun _ => hWI.ready⟩
    have hAns := anssAt_fin hlr hfin
    have hG := Grow.refl v2
    refine h_val noA hbk awake_2 rfl rfl (by decide) hat (r_move rfl) fun a hat => ?_
    refine h_val noA hbk awake_2 rfl rfl (by decide) hat (r_extract rfl rfl) fun a hat => ?_
    refine h_val noA hbk awake_2 rfl rfl (by decide) hat (r_extract rfl rfl) fun a hat => ?_
    refine h_val noA hbk awake_2 rfl rfl (by decide) hat (r_assign rfl) fun a hat => ?_
    refine h_val noA hbk awake_2 rfl rfl (by decide) hat (r_assign rfl) fun a hat => ?_
    refine hold_region_end ?_
    refine hold_seq ?_
    refine hold_region (l := [0,1,2,3,4,5,6,7,8,9,10,11,12]) rfl ?_
    refine h_val noA hbk awake_3 rfl rfl (by decide) hat (r_move rfl) fun a hat => ?_
    refine h_val noA hbk awake_3 rfl (opOk_eq (by kernel_rfl)) (by decide) hat (r_bool (t' := true) (r_eql rfl rfl) (by first | (simp; omega) | (simp; done) | (simp_all; done) | (simp_all; omega))) fun a hat => ?_
    refine h_val noA hbk awake_3 rfl rfl (by decide) hat (r_move rfl) fun a hat => ?_
    refine hg_yes noA hbk awake_3 rfl rfl rfl rfl (by decide) hat (r_move rfl) fun a hat => ?_
    refine hg_yes noA hbk awake_3 rfl rfl rfl rfl (by decide) hat bu_53 fun a hat => ?_
    refine hg_yes noA hbk awake_3 rfl rfl rfl rfl (by decide) hat (bu_53_1 rfl rfl) fun a hat => ?_
    refine hg_news noA hbk awake_3 rfl rfl rfl rfl (by decide) hat (bs_48_2_0_1 rfl rfl) fun v a B22 hB22 hsB22 hg F22 hat => ?_
    have gB22 := Nat.le_trans hG.size (Nat.le_of_eq hB22)
    replace hG := hG.trans hg
    refine hg_yes noA hbk awake_3 rfl rfl rfl rfl (by decide) hat bu_53 fun a hat => ?_
    refine hg_news noA hbk awake_3 rfl rfl rfl rfl (by decide) hat (bs_48_1_0 rfl) fun v a B24 hB24 hsB24 hg F24 hat => ?_
    have n_F24_F22 := ne_new F22 hB24
    have gB24 := Nat.le_trans hG.size (Nat.le_of_eq hB24)
    replace hG := hG.trans hg
    replace F22 := hg.at F22
    refine hg_news noA hbk awake_3 rfl rfl rfl rfl (by decide) hat (bs_35_2_0_1 rfl rfl rfl rfl) fun v a B25 hB25 hsB25 hg F25 hat => ?_
    have n_F25_F22 := ne_new F22 hB25
    have n_F25_F24 := ne_new F24 hB25
    have gB25 := Nat.le_trans hG.size (Nat.le_of_eq hB25)
    replace hG := hG.trans hg
    replace F22 := hg.at F22
    replace F24 := hg.at F24
    refine hg_callc hbk awake_3 rfl rfl rfl (by decide) hat Same_fn Same_bd Same_nm (vals := #[_, _]) rfl fun c hc => ?_
    have hB : AnssAt v (.slice (some ⟨B25, 0, none⟩) 2 2) [[(0, 0), (0, -2)], [(0, 0)]] := by
      refine ⟨_, _, rfl, fun i r hr => ?_⟩
      have hi : i = 0 ∨ i = 1 := by have := (List.getElem?_eq_some_iff.1 hr).1; simp at this; omega
      rcases hi with rfl | rfl
      · cases hr
        refine ⟨B25, 0, _, rfl, cell_at' F25, _, _, rfl, fun j x hx => ⟨B22, 0, rfl, ?_⟩⟩
        have hj : j = 0 ∨ j = 1 := by have := (List.getElem?_eq_some_iff.1 hx).1; simp at this; omega
        rcases hj with rfl | rfl <;> (cases hx; exact ⟨cell_at' F22, cell_at' F22⟩)
      · cases hr
        refine ⟨B25, 0, _, rfl, cell_at' F25, _, _, rfl, fun j x hx => ⟨B24, 0, rfl, ?_⟩⟩
        have hj : j = 0 := by have := (List.getElem?_eq_some_iff.1 hx).1; simp at this; omega
        subst hj
        cases hx
        exact ⟨cell_at' F24, cell_at' F24⟩
    have hsm : ∀ (i : Nat) (x : List (Int × Int)), ([[(0, 0), (0, -2)], [(0, 0)]] : List (List (Int × Int)))[i]? = some x → x.length < 2 ^ 62 := fun i x hx => by
      have := List.mem_of_getElem? hx
      simp at this
      rcases this with rfl | rfl <;> decide
    refine Same_hold (by decide) (by decide) hsm hsm (hAns.grow hG) hB fun v hg => ?_
    rw [decide_eq_true rfl]
    replace F22 := hg.at F22
    replace F24 := hg.at F24
    replace F25 := hg.at F25
    replace hG := hG.trans hg
    refine hold_fin hc fun a hat => ?_
    refine h_val noA hbk awake_3 rfl rfl (by decide) hat (r_pick rfl rfl) fun a hat => ?_
    refine h_val noA hbk awake_3 rfl rfl (by decide) hat (r_assign rfl) fun a hat => ?_
    refine hold_region_end ?_
    refine hold_retd hb hbf awake_fn hat.defers (ret_one awake_res hat rfl) ?_
    exact hold_run (K _ I' hI' (hG1.trans hG))
end
end Go.Proofs.Ytlnjmheocfbimaa

/- Free threads, of no world: cells, the counter. -/
namespace Go.Proofs.Ytlnjmheocfbimaa
open Go Go.Conc
section
variable {S : Addr → Prop} {main : Bool} {Stop : Goroutine → World → Prop} {cs : List Frame} {c : Frame} {v : World}
/-- A thread of no world. -/
def FreeT (v : World) (T : Nat) (id : Int) : Prop := v.heap[T]? = some (.cells #[.pointer none, .int .i64 id, .chan none, .int .i64 0, .int .i64 0, .int .i64 0, .int .i64 0] 62 (0, 0))
theorem Free_hold {id : Int} (H : ∀ v' T, Grow v v' → v.heap.size ≤ T → FreeT v' T id → Hold Try.prog main S Stop (G (c.finish (.pointer (some ⟨T, 0, none⟩))) cs) v') :
    Hold Try.prog main S Stop (G (Frame.enter Try.prog 8 #[.int .i64 id] .normal) (c :: cs)) v := by
  have hG := Grow.refl v
  obtain ⟨b, a, hEq, hb, hbf, hat⟩ := enter_is Free_fn Free_body Free_tmps #[.int .i64 id] [(0, .int .i64 id)] rfl (by simp)
  rw [hEq]
  have hbk := not_early hb
  refine hold_unf Free_code_def ?_
  refine hold_seq ?_
  refine hold_region (l := [0]) rfl ?_
  refine h_val noA hbk Free_0 rfl rfl (by decide) hat (r_assign rfl) fun a hat => ?_
  refine hold_region_end ?_
  refine hold_seq ?_
  refine hold_region (l := [0,1,2,3]) rfl ?_
  refine h_val noA hbk Free_1 rfl rfl (by decide) hat (r_move rfl) fun a hat => ?_
  refine h_val noA hbk Free_1 rfl rfl (by decide) hat (bu_62_1 rfl rfl) fun a hat => ?_
  refine h_new noA hbk Free_1 rfl rfl (by decide) hat (bx_62 rfl) fun v a B5 hB5 hsB5 hg F5 hat => ?_
  have gB5 := Nat.le_trans hG.size (Nat.le_of_eq hB5)
  replace hG := hG.trans hg
  refine h_val noA hbk Free_1 rfl rfl (by decide) hat (r_assign rfl) fun a hat => ?_
  refine hold_region_end ?_
  refine hold_retd hb hbf Free_fn hat.defers (ret_one Free_res hat rfl) ?_
  exact H _ _ hG gB5 F5
theorem TurnF_hold {T : Nat} {id x y : Int} (F : FreeT v T id) (H : Hold Try.prog main S Stop (G (c.finish (.tuple #[])) cs) v) :
    Hold Try.prog main S Stop (G (Frame.enter Try.prog 35 #[.pointer (some ⟨T, 0, none⟩), .int .i64 x, .int .i64 y] .normal) (c :: cs)) v := by
  unfold FreeT at F
  obtain ⟨b, a, hEq, hb, hbf, hat⟩ := enter_is Turn_fn Turn_body Turn_tmps #[.pointer (some ⟨T, 0, none⟩), .int .i64 x, .int .i64 y] [(0, .pointer (some ⟨T, 0, none⟩)), (1, .int .i64 x), (2, .int .i64 y)] rfl (by simp)
  rw [hEq]
  have hbk := not_early hb
  refine hold_unf Turn_code_def ?_
  refine hold_seq ?_
  refine hold_region (l := [0,1,2,3,4]) rfl ?_
  refine h_val noA hbk Turn_0 rfl rfl (by decide) hat (r_move rfl) fun a hat => ?_
  refine h_val noA hbk Turn_0 rfl rfl (by decide) hat (r_nil rfl) fun a hat => ?_
  refine h_val noA hbk Turn_0 rfl rfl (by decide) hat (r_field fk_62_0 rfl) fun a hat => ?_
  refine h_val noA hbk Turn_0 rfl rfl (by decide) hat (r_load ld_33 rfl (cell_at' F)) fun a hat => ?_
  refine h_val noA hbk Turn_0 rfl opOk_nil (by decide) hat (r_notnil nk_33 rfl) fun a hat => ?_
  refine hold_region_end ?_
  refine hold_condF (hat.eval (q := .tmp 10) rfl) rfl ?_
  refine hold_skip ?_
  refine hold_done hb hbf Turn_fn hat.defers (ret_none Turn_res _) H
theorem DidF_hold {T : Nat} {id x y : Int} (F : FreeT v T id) (H : Hold Try.prog main S Stop (G (c.finish (.tuple #[])) cs) v) :
    Hold Try.prog main S Stop (G (Frame.enter Try.prog 37 #[.pointer (some ⟨T, 0, none⟩), .int .i64 x, .int .i64 y] .normal) (c :: cs)) v := by
  unfold FreeT at F
  obtain ⟨b, a, hEq, hb, hbf, hat⟩ := enter_is Did_fn Did_body Did_tmps #[.pointer (some ⟨T, 0, none⟩), .int .i64 x, .int .i64 y] [(0, .pointer (some ⟨T, 0, none⟩)), (1, .int .i64 x), (2, .int .i64 y)] rfl (by simp)
  rw [hEq]
  have hbk := not_early hb
  refine hold_unf Did_code_def ?_
  refine hold_seq ?_
  refine hold_seq ?_
  refine hold_region (l := [0,1,2,3,4]) rfl ?_
  refine h_val noA hbk Did_0 rfl rfl (by decide) hat (r_move rfl) fun a hat => ?_
  refine h_val noA hbk Did_0 rfl rfl (by decide) hat (r_nil rfl) fun a hat => ?_
  refine h_val noA hbk Did_0 rfl rfl (by decide) hat (r_field fk_62_0 rfl) fun a hat => ?_
  refine h_val noA hbk Did_0 rfl rfl (by decide) hat (r_load ld_33 rfl (cell_at' F)) fun a hat => ?_
  refine h_val noA hbk Did_0 rfl opOk_nil (by decide) hat (r_isnil nk_33 rfl) fun a hat => ?_
  refine hold_region_end ?_
  refine hold_condT (hat.eval (q := .tmp 10) rfl) rfl ?_
  refine hold_retd hb hbf Did_fn hat.defers (ret_none Did_res _) H
/-- A cell. -/
def CellAt (v : World) (B : Nat) (n x : Int) : Prop := v.heap[B]? = some (.cells #[.int .i64 n, .int .i64 x] 89 (0, 0))
theorem LoadF_hold {T B : Nat} {id n x : Int} (FT : FreeT v T id) (FB : CellAt v B n x) (H : Hold Try.prog main S Stop (G (c.finish (.int .i64 x)) cs) v) :
    Hold Try.prog main S Stop (G (Frame.enter Try.prog 23 #[.pointer (some ⟨B, 0, none⟩), .pointer (some ⟨T, 0, none⟩)] .normal) (c :: cs)) v := by
  unfold CellAt at FB
  obtain ⟨b, a, hEq, hb, hbf, hat⟩ := enter_is Load_fn Load_body Load_tmps #[.pointer (some ⟨B, 0, none⟩), .pointer (some ⟨T, 0, none⟩)] [(0, .pointer (some ⟨B, 0, none⟩)), (1, .pointer (some ⟨T, 0, none⟩))] rfl (by simp)
  rw [hEq]
  have hbk := not_early hb
  refine hold_unf Load_code_def ?_
  refine hold_seq ?_
  refine hold_region (l := [0]) rfl ?_
  refine h_val noA hbk Load_0 rfl rfl (by decide) hat (r_assign rfl) fun a hat => ?_
  refine hold_region_end ?_
  refine hold_seq ?_
  refine hold_region (l := [0,1,2,3,4,5]) rfl ?_
  refine h_val noA hbk Load_1 rfl rfl (by decide) hat (r_move rfl) fun a hat => ?_
  refine h_val noA hbk Load_1 rfl rfl (by decide) hat (r_move rfl) fun a hat => ?_
  refine h_val noA hbk Load_1 rfl rfl (by decide) hat (r_nil rfl) fun a hat => ?_
  refine h_val noA hbk Load_1 rfl rfl (by decide) hat (r_field fk_89_0 rfl) fun a hat => ?_
  refine h_val noA hbk Load_1 rfl rfl (by decide) hat (r_load ld_3 rfl (cell_at' FB)) fun a hat => ?_
  refine h_callc hbk Load_1 rfl (by decide) hat Turn_fn Turn_bd Turn_nm (vals := #[_, _, _]) rfl fun c hc => ?_
  refine TurnF_hold FT ?_
  refine hold_fin hc fun a hat => ?_
  refine hold_region_end ?_
  refine hold_seq ?_
  refine hold_region (l := [0,1,2,3,4]) rfl ?_
  refine h_val noA hbk Load_2 rfl rfl (by decide) hat (r_move rfl) fun a hat => ?_
  refine h_val noA hbk Load_2 rfl rfl (by decide) hat (r_nil rfl) fun a hat => ?_
  refine h_val noA hbk Load_2 rfl rfl (by decide) hat (r_field fk_89_1 rfl) fun a hat => ?_
  refine h_callc hbk Load_2 rfl (by decide) hat ALoad_fn ALoad_bd ALoad_nm (vals := #[_]) rfl fun c hc => ?_
  refine aload_hold (cell_at' FB) ?_
  refine hold_fin hc fun a hat => ?_
  refine h_val noA hbk Load_2 rfl rfl (by decide) hat (r_assign rfl) fun a hat => ?_
  refine hold_region_end ?_
  refine hold_seq ?_
  refine hold_region (l := [0,1,2,3]) rfl ?_
  refine h_val noA hbk Load_3 rfl rfl (by decide) hat (r_move rfl) fun a hat => ?_
  refine h_val noA hbk Load_3 rfl rfl (by decide) hat (r_move rfl) fun a hat => ?_
  refine h_val noA hbk Load_3 rfl rfl (by decide) hat (r_move rfl) fun a hat => ?_
  refine h_callc hbk Load_3 rfl (by decide) hat Did_fn Did_bd Did_nm (vals := #[_, _, _]) rfl fun c hc => ?_
  refine DidF_hold FT ?_
  refine hold_fin hc fun a hat => ?_
  refine hold_region_end ?_
  refine hold_seq ?_
  refine hold_region (l := [0,1]) rfl ?_
  refine h_val noA hbk Load_4 rfl rfl (by decide) hat (r_move rfl) fun a hat => ?_
  refine h_val noA hbk Load_4 rfl rfl (by decide) hat (r_assign rfl) fun a hat => ?_
  refine hold_region_end ?_
  refine hold_retd hb hbf Load_fn hat.defers (ret_one Load_res hat rfl) ?_
  exact H
theorem CasF_hold {T B : Nat} {id n x y : Int} (FT : FreeT v T id) (FB : CellAt v B n x) (H : ∀ v', Puts v v' B (.cells #[.int .i64 n, .int .i64 y] 89 (0, 0)) → Hold Try.prog main S Stop (G (c.finish (.bool true)) cs) v') :
    Hold Try.prog main S Stop (G (Frame.enter Try.prog 26 #[.pointer (some ⟨B, 0, none⟩), .pointer (some ⟨T, 0, none⟩), .int .i64 x, .int .i64 y] .normal) (c :: cs)) v := by
  unfold CellAt at FB
  obtain ⟨b, a, hEq, hb, hbf, hat⟩ := enter_is Cas_fn Cas_body Cas_tmps #[.pointer (some ⟨B, 0, none⟩), .pointer (some ⟨T, 0, none⟩), .int .i64 x, .int .i64 y] [(0, .pointer (some ⟨B, 0, none⟩)), (1, .pointer (some ⟨T, 0, none⟩)), (2, .int .i64 x), (3, .int .i64 y)] rfl (by simp)
  rw [hEq]
  have hbk := not_early hb
  refine hold_unf Cas_code_def ?_
  refine hold_seq ?_
  refine hold_region (l := [0]) rfl ?_
  refine h_val noA hbk Cas_0 rfl rfl (by decide) hat (r_assign rfl) fun a hat => ?_
  refine hold_region_end ?_
  refine hold_seq ?_
  refine hold_region (l := [0,1,2,3,4,5]) rfl ?_
  refine h_val noA hbk Cas_1 rfl rfl (by decide) hat (r_move rfl) fun a hat => ?_
  refine h_val noA hbk Cas_1 rfl rfl (by decide) hat (r_move rfl) fun a hat => ?_
  refine h_val noA hbk Cas_1 rfl rfl (by decide) hat (r_nil rfl) fun a hat => ?_
  refine h_val noA hbk Cas_1 rfl rfl (by decide) hat (r_field fk_89_0 rfl) fun a hat => ?_
  refine h_val noA hbk Cas_1 rfl rfl (by decide) hat (r_load ld_3 rfl (cell_at' FB)) fun a hat => ?_
  refine h_callc hbk Cas_1 rfl (by decide) hat Turn_fn Turn_bd Turn_nm (vals := #[_, _, _]) rfl fun c hc => ?_
  refine TurnF_hold FT ?_
  refine hold_fin hc fun a hat => ?_
  refine hold_region_end ?_
  refine hold_seq ?_
  refine hold_seq ?_
  refine hold_region (l := [0,1,2,3,4,5]) rfl ?_
  refine h_val noA hbk Cas_2 rfl rfl (by decide) hat (r_move rfl) fun a hat => ?_
  refine h_val noA hbk Cas_2 rfl rfl (by decide) hat (r_nil rfl) fun a hat => ?_
  refine h_val noA hbk Cas_2 rfl rfl (by decide) hat (r_field fk_89_1 rfl) fun a hat => ?_
  refine h_val noA hbk Cas_2 rfl rfl (by decide) hat (r_move rfl) fun a hat => ?_
  refine h_val noA hbk Cas_2 rfl rfl (by decide) hat (r_move rfl) fun a hat => ?_
  refine h_callc hbk Cas_2 rfl (by decide) hat ACas_fn ACas_bd ACas_nm (vals := #[_, _, _]) rfl fun c hc => ?_
  refine acas_hold (cell_at' FB) (frozen_at' FB) ?_
  rw [if_pos rfl]
  have hP : Puts v (v.setCell ⟨B, 0 + 1, none⟩ (.int .i64 y)) B (.cells #[.int .i64 n, .int .i64 y] 89 (0, 0)) := puts_set FB
  generalize v.setCell ⟨B, 0 + 1, none⟩ (.int .i64 y) = v2 at hP ⊢
  have FT2 : FreeT v2 T id := (hP.other T (ne_of_types FT FB (by decide))).trans FT
  refine hold_fin hc fun a hat => ?_
  refine hold_region_end ?_
  refine hold_condT (hat.eval (q := .tmp 21) rfl) rfl ?_
  refine hold_seq ?_
  refine hold_region (l := [0,1,2,3]) rfl ?_
  refine h_val noA hbk Cas_3 rfl rfl (by decide) hat (r_move rfl) fun a hat => ?_
  refine h_val noA hbk Cas_3 rfl rfl (by decide) hat (r_move rfl) fun a hat => ?_
  refine h_val noA hbk Cas_3 rfl rfl (by decide) hat (r_move rfl) fun a hat => ?_
  refine h_callc hbk Cas_3 rfl (by decide) hat Did_fn Did_bd Did_nm (vals := #[_, _, _]) rfl fun c hc => ?_
  refine DidF_hold FT2 ?_
  refine hold_fin hc fun a hat => ?_
  refine hold_region_end ?_
  refine hold_seq ?_
  refine hold_region (l := [0]) rfl ?_
  refine h_val noA hbk Cas_4 rfl rfl (by decide) hat (r_assign rfl) fun a hat => ?_
  refine hold_region_end ?_
  refine hold_retd hb hbf Cas_fn hat.defers (ret_one Cas_res hat rfl) ?_
  exact H _ hP
theorem wrap_mod32 (z : Int) : IntKind.i64.wrap z % ((2 ^ 32 : Nat) : Int) = z % ((2 ^ 32 : Nat) : Int) := by rw [IntKind.wrap_i64]; omega
theorem AddF_body {n x nn : Int} {b : Frame} (hb : b.kind = .normal) (hbf : b.fn = 9) {k : List Item} {B6 B7 T B : Nat} {id : Int} (F6 : v.heap[B6]? = some (.cells #[.int .i64 0, .int .i64 32] 64 (0, 0))) (F7 : v.heap[B7]? = some (.cells #[.int .i64 32, .int .i64 30] 64 (0, 0))) (FT : FreeT v T id) (FB : CellAt v B nn x)
    (H : ∀ v', Mods (fun b => b = B) v v' → CellAt v' B nn (addX x n) → Hold Try.prog main S Stop (G (c.finish (.tuple #[])) cs) v') {a : Act}
    (hat : AtE 52 [] [(8, .pointer (some ⟨B, 0, none⟩)), (7, .pointer (some ⟨B7, 0, none⟩)), (6, .pointer (some ⟨B6, 0, none⟩)), (2, .int .i64 n), (1, .pointer (some ⟨T, 0, none⟩))] a) : Hold Try.prog main S Stop (G (b.at a (.code Add_L0 :: .inLoop Add_L0 :: .inBlock 0 :: k)) (c :: cs)) v := by
  have hbk := not_early hb
  have hG := Grow.refl v
  refine hold_unf Add_L0_def ?_
  refine hold_block ?_
  refine hold_seq ?_
  refine hold_region (l := [0,1,2,3]) rfl ?_
  refine h_val noA hbk Add_2 rfl rfl (by decide) hat (r_move rfl) fun a hat => ?_
  refine h_val noA hbk Add_2 rfl rfl (by decide) hat (r_move rfl) fun a hat => ?_
  refine h_callc hbk Add_2 rfl (by decide) hat Load_fn Load_bd Load_nm (vals := #[_, _]) rfl fun c hc => ?_
  refine LoadF_hold FT FB ?_
  refine hold_fin hc fun a hat => ?_
  refine h_val noA hbk Add_2 rfl rfl (by decide) hat (r_assign rfl) fun a hat => ?_
  refine hold_region_end ?_
  refine hold_seq ?_
  have hg1 := getN_lt (u64 x) 0 32
  have hg2 := getN_lt (u64 x) 32 30
  refine hold_draw3 (ord := [0,1,2,3,4,5,6,7,8]) (bigs := []) mixed_ok (by kernel_rfl) (by kernel_rfl) hat ?_
  refine tx_val noA hbk Add_3 rfl rfl (by decide) rfl (fun v hv => (r_move rfl)) ?_
  refine tx_val noA hbk Add_3 rfl rfl (by decide) rfl (fun v hv => (lg_64 rfl (cell_at' (hv.at F6)) (cell_at' (hv.at F6)))) ?_
  refine tx_val noA hbk Add_3 rfl rfl (by decide) rfl (fun v hv => (r_move rfl)) ?_
  refine tx_val noA hbk Add_3 rfl rfl (by decide) rfl (fun v hv => (lg_64 rfl (cell_at' (hv.at F6)) (cell_at' (hv.at F6)))) ?_
  refine tx_call hbk Add_3 rfl (by decide) rfl wGet_fn wGet_bd wGet_nm (vals := #[_, _]) rfl (fun v c cs hv K => wGet_hold (p := 0) (q := 32) (by omega) K) ?_
  refine tx_val noA hbk Add_3 rfl rfl (by decide) rfl (fun v hv => (r_move rfl)) ?_
  refine tx_val noA hbk Add_3 rfl rfl (by decide) rfl (fun v hv => (r_addw rfl rfl)) ?_
  refine tx_call hbk Add_3 rfl (by decide) rfl cput_fn cput_bd cput_nm (vals := #[_, _, _]) rfl (fun v c cs hv K => cput_hold (p := 0) (q := 32) (by omega) K) ?_
  refine tx_val noA hbk Add_3 rfl rfl (by decide) rfl (fun v hv => (r_assign rfl)) ?_
  refine tx_end fun v a hv hat => ?_
  replace hG := hG.trans hv
  replace F6 := hv.at F6
  replace F7 := hv.at F7
  refine hold_region_end ?_
  refine hold_seq ?_
  refine hold_draw3 (ord := [0,1,2,3,4,5,6,7]) (bigs := []) mixed_ok (by kernel_rfl) (by kernel_rfl) hat ?_
  refine tx_val noA hbk Add_4 rfl rfl (by decide) rfl (fun v hv => (r_move rfl)) ?_
  refine tx_val noA hbk Add_4 rfl rfl (by decide) rfl (fun v hv => (lg_64 rfl (cell_at' (hv.at F7)) (cell_at' (hv.at F7)))) ?_
  refine tx_val noA hbk Add_4 rfl rfl (by decide) rfl (fun v hv => (r_move rfl)) ?_
  refine tx_val noA hbk Add_4 rfl rfl (by decide) rfl (fun v hv => (lg_64 rfl (cell_at' (hv.at F7)) (cell_at' (hv.at F7)))) ?_
  refine tx_call hbk Add_4 rfl (by decide) rfl wGet_fn wGet_bd wGet_nm (vals := #[_, _]) rfl (fun v c cs hv K => wGet_hold (p := 32) (q := 30) (by omega) K) ?_
  refine tx_val noA hbk Add_4 rfl rfl (by decide) rfl (fun v hv => (r_add rfl rfl (by first | omega | (simp; omega)))) ?_
  refine tx_call hbk Add_4 rfl (by decide) rfl cput_fn cput_bd cput_nm (vals := #[_, _, _]) rfl (fun v c cs hv K => cput_hold (p := 32) (q := 30) (by omega) K) ?_
  refine tx_val noA hbk Add_4 rfl rfl (by decide) rfl (fun v hv => (r_assign rfl)) ?_
  refine tx_end fun v a hv hat => ?_
  replace hG := hG.trans hv
  replace F6 := hv.at F6
  replace F7 := hv.at F7
  refine hold_region_end ?_
  refine hold_seq ?_
  refine hold_region (l := [0,1,2,3,4]) rfl ?_
  refine h_val noA hbk Add_5 rfl rfl (by decide) hat (r_move rfl) fun a hat => ?_
  refine h_val noA hbk Add_5 rfl rfl (by decide) hat (r_move rfl) fun a hat => ?_
  refine h_val noA hbk Add_5 rfl rfl (by decide) hat (r_move rfl) fun a hat => ?_
  refine h_val noA hbk Add_5 rfl rfl (by decide) hat (r_move rfl) fun a hat => ?_
  rw [wrap_mod32] at hat
  refine h_callc hbk Add_5 rfl (by decide) hat Cas_fn Cas_bd Cas_nm (vals := #[_, _, _, _]) rfl fun c hc => ?_
  refine CasF_hold (hG.at FT) (hG.at FB) fun v hP => ?_
  refine hold_fin hc fun a hat => ?_
  refine hold_region_end ?_
  refine hold_condT (hat.eval (q := .tmp 51) rfl) rfl ?_
  refine hold_retd hb hbf Add_fn hat.defers (ret_none Add_res _) ?_
  exact H _ ⟨by rw [hP.size]; exact hG.size, fun b hb hx => (hP.other b hx).trans (hG.same b hb), fun r => hP.ready (hG.ready r)⟩ hP.at_
/-- A counter of no world: its shards' words. -/
structure FreeC (v : World) (C g m cap : Nat) (cb : Nat → Nat) (xs : List Int) : Prop where
  c : v.heap[C]? = some (.cells #[.slice (some ⟨g, 0, none⟩) m cap] 57 (0, 0))
  g : ∃ cur, v.heap[g]? = some (.cells cur 58 (0, 0)) ∧ ∀ j, j < m → cur[j]? = some (.pointer (some ⟨cb j, 0, none⟩))
  cells : ∀ (j : Nat) (x : Int), xs[j]? = some x → CellAt v (cb j) 0 x
  len : xs.length = m
  bnd : 0 < m ∧ m ≤ 16
  inj : ∀ i j, i < m → j < m → cb i = cb j → i = j
theorem FreeC.sh {C g m cap : Nat} {cb : Nat → Nat} {xs : List Int} (h : FreeC v C g m cap cb xs) {j : Nat} (hj : j < m) : v.cell? ⟨g, j, none⟩ = some (.pointer (some ⟨cb j, 0, none⟩)) := by
  obtain ⟨cur, h1, h2⟩ := h.g
  exact (cell_at' h1).trans (h2 j hj)
theorem FreeC.grow {v' : World} {C g m cap : Nat} {cb : Nat → Nat} {xs : List Int} (h : FreeC v C g m cap cb xs) (hg : Grow v v') : FreeC v' C g m cap cb xs := by
  obtain ⟨cur, h1, h2⟩ := h.g
  exact ⟨hg.at h.c, ⟨cur, hg.at h1, h2⟩, fun j x hx => hg.at (h.cells j x hx), h.len, h.bnd, h.inj⟩
theorem FreeC.put {v' : World} {C g m cap j : Nat} {cb : Nat → Nat} {xs : List Int} {y : Int} (h : FreeC v C g m cap cb xs) (hj : j < m) (hM : Mods (fun b => b = cb j) v v') (hy : CellAt v' (cb j) 0 y) : FreeC v' C g m cap cb (xs.set j y) := by
  have hl := h.len
  obtain ⟨cur, h1, h2⟩ := h.g
  have hcj : ∃ x, CellAt v (cb j) 0 x := ⟨_, h.cells j (xs[j]'(by omega)) (by simp)⟩
  obtain ⟨x0, hx0⟩ := hcj
  refine ⟨hM.at (ne_of_types h.c hx0 (by decide)) h.c, ⟨cur, hM.at (ne_of_types h1 hx0 (by decide)) h1, h2⟩, fun i x hx => ?_, by simp [h.len], h.bnd, h.inj⟩
  by_cases e : i = j
  · subst e
    rw [List.getElem?_set_self (by omega)] at hx
    cases hx
    exact hy
  · rw [List.getElem?_set_ne (by omega)] at hx
    have hi := (List.getElem?_eq_some_iff.1 hx).1
    exact hM.at (fun e2 => e (h.inj i j (by omega) hj e2)) (h.cells i x hx)
theorem AddF_hold {C g m cap T : Nat} {cb : Nat → Nat} {xs : List Int} {id : Nat} {n x : Int} (hC : FreeC v C g m cap cb xs) (FT : FreeT v T id) (hx : xs[id % m]? = some x)
    (H : ∀ v', Mods (fun b => b = cb (id % m)) v v' → FreeC v' C g m cap cb (xs.set (id % m) (addX x n)) → Hold Try.prog main S Stop (G (c.finish (.tuple #[])) cs) v') :
    Hold Try.prog main S Stop (G (Frame.enter Try.prog 9 #[.pointer (some ⟨C, 0, none⟩), .pointer (some ⟨T, 0, none⟩), .int .i64 n] .normal) (c :: cs)) v := by
  have hG := Grow.refl v
  have F := hC.c
  obtain ⟨hm1, hm2⟩ := hC.bnd
  have hlt : id % m < m := Nat.mod_lt _ hm1
  have hsh := hC.sh hlt
  have hij : ((id : Int) % (m : Int)) = ((id % m : Nat) : Int) := by omega
  have hijn : ((id : Int) % (m : Int)).toNat = id % m := by omega
  obtain ⟨b, a, hEq, hb, hbf, hat⟩ := enter_is Add_fn Add_body Add_tmps #[.pointer (some ⟨C, 0, none⟩), .pointer (some ⟨T, 0, none⟩), .int .i64 n] [(0, .pointer (some ⟨C, 0, none⟩)), (1, .pointer (some ⟨T, 0, none⟩)), (2, .int .i64 n)] rfl (by simp)
  rw [hEq]
  have hbk := not_early hb
  refine hold_unf Add_code_def ?_
  refine hold_seq ?_
  refine hold_region (l := [0,1,2,3,4,5,6,7]) rfl ?_
  refine h_callc hbk Add_0 rfl (by decide) hat fields_fn fields_bd fields_nm (vals := #[]) rfl fun c hc => ?_
  refine fields_hold fun v hg => ?_
  replace F := hg.at F
  replace hG := hG.trans hg
  refine hold_fin hc fun a hat => ?_
  refine h_val noA hbk Add_0 rfl rfl (by decide) hat (r_move rfl) fun a hat => ?_
  refine h_val noA hbk Add_0 rfl rfl (by decide) hat (r_extract rfl rfl) fun a hat => ?_
  refine h_val noA hbk Add_0 rfl rfl (by decide) hat (r_extract rfl rfl) fun a hat => ?_
  refine h_new noA hbk Add_0 rfl rfl (by decide) hat al_64 fun v a B6 hB6 hsB6 hg F6 hat => ?_
  have n_F6_F := ne_new F hB6
  have gB6 := Nat.le_trans hG.size (Nat.le_of_eq hB6)
  replace hG := hG.trans hg
  replace F := hg.at F
  refine h_new noA hbk Add_0 rfl rfl (by decide) hat al_64 fun v a B7 hB7 hsB7 hg F7 hat => ?_
  have n_F7_F := ne_new F hB7
  have n_F7_F6 := ne_new F6 hB7
  have gB7 := Nat.le_trans hG.size (Nat.le_of_eq hB7)
  replace hG := hG.trans hg
  replace F := hg.at F
  replace F6 := hg.at F6
  refine h_put noA hbk Add_0 rfl rfl hat (pg_64 rfl rfl F6 rfl rfl rfl rfl rfl) fun v a hP F6x hat => ?_
  simp only [List.setIfInBounds_toArray, List.set_cons_succ, List.set_cons_zero] at F6x
  replace F := hP.keep (by first | exact n_F6_F | exact n_F_F6.symm | exact ne_of_types F F6 (by decide) | omega) F
  replace F7 := hP.keep (by first | exact n_F6_F7 | exact n_F7_F6.symm | exact ne_of_types F7 F6 (by decide) | omega) F7
  replace hG := hG.put hP gB6
  replace F6 := F6x; clear F6x
  refine h_put noA hbk Add_0 rfl rfl hat (pg_64 rfl rfl F7 rfl rfl rfl rfl rfl) fun v a hP F7x hat => ?_
  simp only [List.setIfInBounds_toArray, List.set_cons_succ, List.set_cons_zero] at F7x
  replace F := hP.keep (by first | exact n_F7_F | exact n_F_F7.symm | exact ne_of_types F F7 (by decide) | omega) F
  replace F6 := hP.keep (by first | exact n_F7_F6 | exact n_F6_F7.symm | exact ne_of_types F6 F7 (by decide) | omega) F6
  replace hG := hG.put hP gB7
  replace F7 := F7x; clear F7x
  refine hold_region_end ?_
  refine hold_seq ?_
  have hth := hG.at FT
  have hsh2 := grow_cell hG hsh
  refine hold_draw3 (ord := [0,1,2,3,4,5,6,7,8,9,10,11,12,13,14]) (bigs := []) mixed_ok (by kernel_rfl) (by kernel_rfl) hat ?_
  refine tx_val noA hbk Add_1 rfl rfl (by decide) rfl (fun v hv => (r_move rfl)) ?_
  refine tx_val noA hbk Add_1 rfl rfl (by decide) rfl (fun v hv => (r_nil rfl)) ?_
  refine tx_val noA hbk Add_1 rfl rfl (by decide) rfl (fun v hv => (r_field fk_57_0 rfl)) ?_
  refine tx_val noA hbk Add_1 rfl rfl (by decide) rfl (fun v hv => (r_load ld_55 rfl (cell_at' (hv.at F)))) ?_
  refine tx_val noA hbk Add_1 rfl rfl (by decide) rfl (fun v hv => (r_move rfl)) ?_
  refine tx_call hbk Add_1 rfl (by decide) rfl Id_fn Id_bd Id_nm (vals := #[_]) rfl (fun v c cs hv K => Id_hold (hv.at hth) rfl (K _ (Grow.refl _))) ?_
  refine tx_val noA hbk Add_1 rfl rfl (by decide) rfl (fun v hv => (r_move rfl)) ?_
  refine tx_val noA hbk Add_1 rfl rfl (by decide) rfl (fun v hv => (r_nil rfl)) ?_
  refine tx_val noA hbk Add_1 rfl rfl (by decide) rfl (fun v hv => (r_field fk_57_0 rfl)) ?_
  refine tx_val noA hbk Add_1 rfl rfl (by decide) rfl (fun v hv => (r_load ld_55 rfl (cell_at' (hv.at F)))) ?_
  refine tx_val noA hbk Add_1 rfl rfl (by decide) rfl (fun v hv => (r_len lk_55 rfl)) ?_
  refine tx_call hbk Add_1 rfl (by decide) rfl Mod_fn Mod_bd Mod_nm (vals := #[_, _]) rfl (fun v c cs hv K => Mod_hold (by omega) (by omega) (K _ (Grow.refl _))) ?_
  refine tx_val noA hbk Add_1 rfl rfl (by decide) rfl (fun v hv => (r_index ix_55 rfl rfl (by omega) (by omega))) ?_
  refine tx_val noA hbk Add_1 rfl rfl (by decide) rfl (fun v hv => (r_load ld_58 rfl (by have := grow_cell hv hsh2; simpa [hijn] using this))) ?_
  refine tx_val noA hbk Add_1 rfl rfl (by decide) rfl (fun v hv => (r_assign rfl)) ?_
  refine tx_end fun v a hv hat => ?_
  replace hG := hG.trans hv
  replace F := hv.at F
  replace F6 := hv.at F6
  replace F7 := hv.at F7
  refine hold_region_end ?_
  refine hold_block ?_
  refine hold_loop ?_
  refine AddF_body hb hbf F6 F7 (hG.at FT) (hG.at (hC.cells _ x hx)) (fun v' hM hy => ?_) (hat.sub (AtE.cons rfl (AtE.cons rfl (AtE.cons rfl (AtE.cons rfl (AtE.cons rfl (AtE.nil)))))))
  have hC2 := hC.grow hG
  exact H v' (hG.mods.trans hM) (hC2.put hlt hM hy)
end
end Go.Proofs.Ytlnjmheocfbimaa

/- counter.Sum by a free thread. -/
namespace Go.Proofs.Ytlnjmheocfbimaa
open Go Go.Conc
section
variable {S : Addr → Prop} {main : Bool} {Stop : Goroutine → World → Prop} {cs : List Frame} {c : Frame}
theorem take_snoc {xs : List Int} {j : Nat} {x : Int} (hx : xs[j]? = some x) : xs.take (j + 1) = xs.take j ++ [x] := by rw [List.take_add_one, hx]; rfl
theorem lookF_loop {b : Frame} (hbk : b.kind ≠ .early) {k : List Item} {B2 B3 B5 B7 gs gn C g cap m T : Nat} {id : Int} {cb : Nat → Nat} {xs seen : List Int} (hsl : seen.length = m) {u : World} (hC : FreeC u C g m cap cb xs) (hT : FreeT u T id) (hlo : u.heap.size ≤ gn) (hne : gn ≠ gs)
    (H : ∀ v a, Grow u v → v.heap[B2]? = some (.cells #[.pointer (some ⟨C, 0, none⟩)] 24 (0, 0)) → v.heap[B3]? = some (.cells #[.pointer (some ⟨T, 0, none⟩)] 26 (0, 0)) → v.heap[B5]? = some (.cells #[.int .i64 0, .int .i64 32] 64 (0, 0)) → v.heap[B7]? = some (.cells #[.slice (some ⟨gs, 0, none⟩) m m] 22 (0, 0)) → v.heap[gs]? = some (.cells (rowI m seen) 3 (0, 0)) → v.heap[gn]? = some (.cells (rowI m xs) 3 (0, 0)) →
      AtE 46 [] [(5, .slice (some ⟨gn, 0, none⟩) m m), (4, .int .i64 (diffs xs seen)), (2, .pointer (some ⟨B7, 0, none⟩))] a → Hold Try.prog main S Stop (G (b.at a k) cs) v) :
    ∀ (r j : Nat) (v : World) (a : Act), j + r = m → Grow u v → v.heap[B2]? = some (.cells #[.pointer (some ⟨C, 0, none⟩)] 24 (0, 0)) → v.heap[B3]? = some (.cells #[.pointer (some ⟨T, 0, none⟩)] 26 (0, 0)) → v.heap[B5]? = some (.cells #[.int .i64 0, .int .i64 32] 64 (0, 0)) → v.heap[B7]? = some (.cells #[.slice (some ⟨gs, 0, none⟩) m m] 22 (0, 0)) → v.heap[gs]? = some (.cells (rowI m seen) 3 (0, 0)) → v.heap[gn]? = some (.cells (rowI m (xs.take j)) 3 (0, 0)) →
      AtE 46 [] [(19, .int .i64 j), (18, .int .i64 m), (17, .slice (some ⟨g, 0, none⟩) m cap), (5, .slice (some ⟨gn, 0, none⟩) m m), (4, .int .i64 (diffs (xs.take j) seen)), (2, .pointer (some ⟨B7, 0, none⟩)), (1, .pointer (some ⟨B3, 0, none⟩))] a → Hold Try.prog main S Stop (G (b.at a (.code SumF_L0 :: .inLoop SumF_L0 :: .inBlock 0 :: k)) cs) v := by
  obtain ⟨hm1, hm2⟩ := hC.bnd
  have hxl := hC.len
  intro r
  induction r with
  | zero =>
    intro j v a hr hG F2 F3 F5 F7 FS FN hat
    have e : xs.take j = xs := List.take_of_length_le (by omega)
    rw [e] at FN hat
    refine hold_unf SumF_L0_def ?_
    refine hold_seq ?_
    refine hold_region (l := [0]) rfl ?_
    refine h_val noA hbk SumF_4 rfl rfl (by decide) hat (r_bool (t' := false) (r_lss rfl rfl) (by first | (simp; omega) | (simp; done) | (simp_all; done) | (simp_all; omega))) fun a hat => ?_
    refine hold_region_end ?_
    refine hold_seq ?_
    refine hold_condF (hat.eval (q := .tmp 20) rfl) rfl ?_
    refine hold_exit (k' := _) rfl ?_
    exact H v a hG F2 F3 F5 F7 FS FN (hat.sub (AtE.cons rfl (AtE.cons rfl (AtE.cons rfl (AtE.nil)))))
  | succ r ih =>
    intro j v a hr hG F2 F3 F5 F7 FS FN hat
    obtain ⟨x, hx⟩ : ∃ x, xs[j]? = some x := ⟨xs[j]'(by omega), by simp⟩
    have hjl : (xs.take j).length = j := by simp; omega
    obtain ⟨y, hy⟩ : ∃ y, seen[j]? = some y := ⟨seen[j]'(by omega), by simp⟩
    have hy' : seen[(xs.take j).length]? = some y := by rw [hjl]; exact hy
    have hsn := diffs_snoc (x := x) hy'
    have hd : diffs (xs.take j) seen ≤ j := Nat.le_trans (List.length_filter_le _ _) (by simp; omega)
    have hsh := grow_cell hG (hC.sh (show j < m by omega))
    refine hold_unf SumF_L0_def ?_
    refine hold_seq ?_
    refine hold_region (l := [0]) rfl ?_
    refine h_val noA hbk SumF_4 rfl rfl (by decide) hat (r_bool (t' := true) (r_lss rfl rfl) (by first | (simp; omega) | (simp; done) | (simp_all; done) | (simp_all; omega))) fun a hat => ?_
    refine hold_region_end ?_
    refine hold_seq ?_
    refine hold_condT (hat.eval (q := .tmp 20) rfl) rfl ?_
    refine hold_skip ?_
    refine hold_seq ?_
    refine hold_block ?_
    refine hold_seq ?_
    refine hold_region (l := [0,1,2,3,4]) rfl ?_
    refine h_val noA hbk SumF_5 rfl rfl (by decide) hat (r_move rfl) fun a hat => ?_
    refine h_val noA hbk SumF_5 rfl rfl (by decide) hat (r_index ix_55 rfl rfl (by omega) (by omega)) fun a hat => ?_
    refine h_val noA hbk SumF_5 rfl rfl (by decide) hat (r_load ld_58 rfl (by simpa using hsh)) fun a hat => ?_
    refine h_val noA hbk SumF_5 rfl rfl (by decide) hat (r_assign rfl) fun a hat => ?_
    refine h_val noA hbk SumF_5 rfl rfl (by decide) hat (r_assign rfl) fun a hat => ?_
    refine hold_region_end ?_
    refine hold_seq ?_
    refine hold_region (l := [0,1,2,3,4,5,6]) rfl ?_
    refine h_val noA hbk SumF_6 rfl rfl (by decide) hat (r_move rfl) fun a hat => ?_
    refine h_val noA hbk SumF_6 rfl rfl (by decide) hat (r_move rfl) fun a hat => ?_
    refine h_val noA hbk SumF_6 rfl rfl (by decide) hat (r_move rfl) fun a hat => ?_
    refine h_val noA hbk SumF_6 rfl rfl (by decide) hat (r_load ld_26 rfl (cell_at' F3)) fun a hat => ?_
    refine h_callc hbk SumF_6 rfl (by decide) hat Load_fn Load_bd Load_nm (vals := #[_, _]) rfl fun c hc => ?_
    refine LoadF_hold (hG.at hT) (hG.at (hC.cells j x hx)) ?_
    refine hold_fin hc fun a hat => ?_
    refine h_val noA hbk SumF_6 rfl rfl (by decide) hat (r_index ix_22 rfl rfl (by omega) (by omega)) fun a hat => ?_
    have hoff : 0 + ((j : Int)).toNat * 1 = j := by omega
    refine h_put noA hbk SumF_6 rfl rfl hat (p_store st_3 rfl rfl rfl FN (x := .int .i64 0) (by rw [hoff]; have := rowI_new (m := m) (now := xs.take j) (by omega); rw [hjl] at this; exact this) rfl) fun v a hP FNx hat => ?_
    have hst := rowI_set (m := m) (now := xs.take j) (x := x) (by omega)
    rw [hjl, ← take_snoc hx] at hst
    rw [hoff, hst] at FNx
    replace F2 := hP.keep (ne_of_types F2 FN (by decide)) F2
    replace F5 := hP.keep (ne_of_types F5 FN (by decide)) F5
    replace F3 := hP.keep (ne_of_types F3 FN (by decide)) F3
    replace F7 := hP.keep (ne_of_types F7 FN (by decide)) F7
    replace FS := hP.keep hne.symm FS
    replace hG := hG.put hP hlo
    replace FN := FNx
    refine hold_region_end ?_
    refine hold_seq ?_
    refine hold_draw3 (ord := [0,1,2,3,4,5,6,7,8]) (bigs := []) mixed_ok (by kernel_rfl) (by kernel_rfl) hat ?_
    refine tx_val noA hbk SumF_7 rfl rfl (by decide) rfl (fun v hv => (r_move rfl)) ?_
    refine tx_val noA hbk SumF_7 rfl rfl (by decide) rfl (fun v hv => (r_move rfl)) ?_
    refine tx_val noA hbk SumF_7 rfl rfl (by decide) rfl (fun v hv => (r_index ix_22 rfl rfl (by omega) (by omega))) ?_
    refine tx_val noA hbk SumF_7 rfl rfl (by decide) rfl (fun v hv => (r_load ld_3 rfl ((cell_at' (hv.at FN)).trans (by rw [hoff]; exact rowI_get (x := x) (by rw [List.getElem?_take_of_lt (by omega)]; exact hx))))) ?_
    refine tx_val noA hbk SumF_7 rfl rfl (by decide) rfl (fun v hv => (r_load ld_22 rfl (cell_at' (hv.at F7)))) ?_
    refine tx_val noA hbk SumF_7 rfl rfl (by decide) rfl (fun v hv => (r_move rfl)) ?_
    refine tx_val noA hbk SumF_7 rfl rfl (by decide) rfl (fun v hv => (r_index ix_22 rfl rfl (by omega) (by omega))) ?_
    refine tx_val noA hbk SumF_7 rfl rfl (by decide) rfl (fun v hv => (r_load ld_3 rfl ((cell_at' (hv.at FS)).trans (by rw [hoff]; exact rowI_get hy)))) ?_
    by_cases hxy : x = y
    · refine tx_val noA hbk SumF_7 rfl (opOk_eq (by kernel_rfl)) (by decide) rfl (fun v hv => (r_bool (t' := false) (r_neq rfl rfl) (by simp [hxy]))) ?_
      refine tx_end fun v a hv hat => ?_
      replace hG := hG.trans hv
      replace F3 := hv.at F3
      replace F2 := hv.at F2
      replace F5 := hv.at F5
      replace F7 := hv.at F7
      replace FS := hv.at FS
      replace FN := hv.at FN
      refine hold_region_end ?_
      refine hold_condF (hat.eval (q := .tmp 38) rfl) rfl ?_
      refine hold_skip ?_
      refine hold_inBlock ?_
      refine hold_region (l := [0,1]) rfl ?_
      refine h_val noA hbk SumF_9 rfl rfl (by decide) hat (r_add rfl rfl (by first | omega | (simp; omega))) fun a hat => ?_
      refine h_val noA hbk SumF_9 rfl rfl (by decide) hat (r_move rfl) fun a hat => ?_
      refine hold_region_end ?_
      refine hold_inLoop ?_
      refine ih (j + 1) _ _ (by omega) hG F2 F3 F5 F7 FS FN ?_
      rw [take_snoc hx, hsn, if_pos hxy]
      exact hat.sub (AtE.cons rfl (AtE.cons rfl (AtE.cons rfl (AtE.cons rfl (AtE.cons rfl (AtE.cons rfl (AtE.cons rfl (AtE.nil))))))))
    · skip
      refine tx_val noA hbk SumF_7 rfl (opOk_eq (by kernel_rfl)) (by decide) rfl (fun v hv => (r_bool (t' := true) (r_neq rfl rfl) (by simp [hxy]))) ?_
      refine tx_end fun v a hv hat => ?_
      replace hG := hG.trans hv
      replace F3 := hv.at F3
      replace F2 := hv.at F2
      replace F5 := hv.at F5
      replace F7 := hv.at F7
      replace FS := hv.at FS
      replace FN := hv.at FN
      refine hold_region_end ?_
      refine hold_condT (hat.eval (q := .tmp 38) rfl) rfl ?_
      refine hold_region (l := [0,1,2]) rfl ?_
      refine h_val noA hbk SumF_8 rfl rfl (by decide) hat (r_move rfl) fun a hat => ?_
      refine h_val noA hbk SumF_8 rfl rfl (by decide) hat (r_add rfl rfl (by first | omega | (simp; omega))) fun a hat => ?_
      refine h_val noA hbk SumF_8 rfl rfl (by decide) hat (r_assign rfl) fun a hat => ?_
      refine hold_region_end ?_
      refine hold_inBlock ?_
      refine hold_region (l := [0,1]) rfl ?_
      refine h_val noA hbk SumF_9 rfl rfl (by decide) hat (r_add rfl rfl (by first | omega | (simp; omega))) fun a hat => ?_
      refine h_val noA hbk SumF_9 rfl rfl (by decide) hat (r_move rfl) fun a hat => ?_
      refine hold_region_end ?_
      refine hold_inLoop ?_
      refine ih (j + 1) _ _ (by omega) hG F2 F3 F5 F7 FS FN ?_
      rw [take_snoc hx, hsn, if_neg hxy]
      exact hat.sub (AtE.cons rfl (AtE.cons rfl (AtE.cons rfl (AtE.cons rfl (AtE.cons rfl (AtE.cons rfl (AtE.cons rfl (AtE.nil))))))))
theorem lookF_hold {B2 B3 B5 B7 gs C g cap m T : Nat} {id : Int} {cb : Nat → Nat} {xs seen : List Int} (hsl : seen.length = m) {u v : World} (hC : FreeC u C g m cap cb xs) (hT : FreeT u T id) (hgs : u.heap.size ≤ gs) (hG : Grow u v) (F2 : v.heap[B2]? = some (.cells #[.pointer (some ⟨C, 0, none⟩)] 24 (0, 0))) (F3 : v.heap[B3]? = some (.cells #[.pointer (some ⟨T, 0, none⟩)] 26 (0, 0))) (F5 : v.heap[B5]? = some (.cells #[.int .i64 0, .int .i64 32] 64 (0, 0))) (F7 : v.heap[B7]? = some (.cells #[.slice (some ⟨gs, 0, none⟩) m m] 22 (0, 0))) (FS : v.heap[gs]? = some (.cells (rowI m seen) 3 (0, 0)))
    (H : ∀ v, Grow u v → v.heap[B2]? = some (.cells #[.pointer (some ⟨C, 0, none⟩)] 24 (0, 0)) → v.heap[B3]? = some (.cells #[.pointer (some ⟨T, 0, none⟩)] 26 (0, 0)) → v.heap[B5]? = some (.cells #[.int .i64 0, .int .i64 32] 64 (0, 0)) → v.heap[B7]? = some (.cells #[.slice (some ⟨gs, 0, none⟩) m m] 22 (0, 0)) → v.heap[gs]? = some (.cells (rowI m xs) 3 (0, 0)) → Hold Try.prog main S Stop (G (c.finish (.int .i64 (diffs xs seen))) cs) v) :
    Hold Try.prog main S Stop (G (Frame.enter Try.prog 27 #[.pointer (some ⟨B2, 0, none⟩), .pointer (some ⟨B3, 0, none⟩), .pointer (some ⟨B7, 0, none⟩)] .normal) (c :: cs)) v := by
  obtain ⟨hm1, hm2⟩ := hC.bnd
  have F := hG.at hC.c
  obtain ⟨b, a, hEq, hb, hbf, hat⟩ := enter_is SumF_fn SumF_body SumF_tmps #[.pointer (some ⟨B2, 0, none⟩), .pointer (some ⟨B3, 0, none⟩), .pointer (some ⟨B7, 0, none⟩)] [(0, .pointer (some ⟨B2, 0, none⟩)), (1, .pointer (some ⟨B3, 0, none⟩)), (2, .pointer (some ⟨B7, 0, none⟩))] rfl (by simp)
  rw [hEq]
  have hbk := not_early hb
  refine hold_unf SumF_code_def ?_
  refine hold_seq ?_
  refine hold_region (l := [0]) rfl ?_
  refine h_val noA hbk SumF_0 rfl rfl (by decide) hat (r_assign rfl) fun a hat => ?_
  refine hold_region_end ?_
  refine hold_seq ?_
  refine hold_region (l := [0]) rfl ?_
  refine h_val noA hbk SumF_1 rfl rfl (by decide) hat (r_assign rfl) fun a hat => ?_
  refine hold_region_end ?_
  refine hold_seq ?_
  refine hold_region (l := [0,1,2,3,4,5,6]) rfl ?_
  refine h_val noA hbk SumF_2 rfl rfl (by decide) hat (r_load ld_24 rfl (cell_at' F2)) fun a hat => ?_
  refine h_val noA hbk SumF_2 rfl rfl (by decide) hat (r_nil rfl) fun a hat => ?_
  refine h_val noA hbk SumF_2 rfl rfl (by decide) hat (r_field fk_57_0 rfl) fun a hat => ?_
  refine h_val noA hbk SumF_2 rfl rfl (by decide) hat (r_load ld_55 rfl (cell_at' F)) fun a hat => ?_
  refine h_val noA hbk SumF_2 rfl rfl (by decide) hat (r_len lk_55 rfl) fun a hat => ?_
  refine h_news noA hbk SumF_2 rfl rfl (by decide) hat (r_make Try.underlying22 (z := .int .i64 0) (bytes := 8) (by kernel_rfl) rfl rfl rfl (by omega) (by omega)) fun v a B13 hB13 hsB13 hg F13 hat => ?_
  have n_F13_F := ne_new F hB13
  have n_F13_F2 := ne_new F2 hB13
  have n_F13_F5 := ne_new F5 hB13
  have n_F13_F3 := ne_new F3 hB13
  have n_F13_F7 := ne_new F7 hB13
  have n_F13_FS := ne_new FS hB13
  have gB13 := Nat.le_trans hG.size (Nat.le_of_eq hB13)
  replace hG := hG.trans hg
  replace F := hg.at F
  replace F2 := hg.at F2
  replace F5 := hg.at F5
  replace F3 := hg.at F3
  replace F7 := hg.at F7
  replace FS := hg.at FS
  refine h_val noA hbk SumF_2 rfl rfl (by decide) hat (r_assign rfl) fun a hat => ?_
  refine hold_region_end ?_
  refine hold_seq ?_
  refine hold_seq ?_
  refine hold_region (l := [0,1,2,3,4,5]) rfl ?_
  refine h_val noA hbk SumF_3 rfl rfl (by decide) hat (r_load ld_24 rfl (cell_at' F2)) fun a hat => ?_
  refine h_val noA hbk SumF_3 rfl rfl (by decide) hat (r_nil rfl) fun a hat => ?_
  refine h_val noA hbk SumF_3 rfl rfl (by decide) hat (r_field fk_57_0 rfl) fun a hat => ?_
  refine h_val noA hbk SumF_3 rfl rfl (by decide) hat (r_load ld_55 rfl (cell_at' F)) fun a hat => ?_
  refine h_val noA hbk SumF_3 rfl rfl (by decide) hat (r_len lk_55 rfl) fun a hat => ?_
  refine h_val noA hbk SumF_3 rfl rfl (by decide) hat (r_move rfl) fun a hat => ?_
  refine hold_region_end ?_
  refine hold_block ?_
  refine hold_loop ?_
  rw [rowI_made] at F13
  refine lookF_loop hbk hsl hC hT gB13 n_F13_FS.symm (fun v a hG F2 F3 F5 F7 FS FN hat => ?_) m 0 _ _ (by omega) hG F2 F3 F5 F7 FS F13 (hat.sub (AtE.cons rfl (AtE.cons rfl (AtE.cons rfl (AtE.cons rfl (AtE.cons rfl (AtE.cons rfl (AtE.cons rfl (AtE.nil)))))))))
  refine hold_seq ?_
  refine hold_region (l := [0,1,2]) rfl ?_
  refine h_val noA hbk SumF_10 rfl rfl (by decide) hat (r_load ld_22 rfl (cell_at' F7)) fun a hat => ?_
  refine h_val noA hbk SumF_10 rfl rfl (by decide) hat (r_move rfl) fun a hat => ?_
  refine h_copyI hbk SumF_10 rfl (by decide) hat rfl rfl hsl hC.len FS FN fun v a hP hat => ?_
  replace F2 := hP.keep (ne_of_types F2 FS (by decide)) F2
  replace F5 := hP.keep (ne_of_types F5 FS (by decide)) F5
  replace F3 := hP.keep (ne_of_types F3 FS (by decide)) F3
  replace F7 := hP.keep (ne_of_types F7 FS (by decide)) F7
  replace hG := hG.put hP hgs
  replace FS := hP.at_
  refine hold_region_end ?_
  refine hold_seq ?_
  refine hold_region (l := [0,1]) rfl ?_
  refine h_val noA hbk SumF_11 rfl rfl (by decide) hat (r_move rfl) fun a hat => ?_
  refine h_val noA hbk SumF_11 rfl rfl (by decide) hat (r_assign rfl) fun a hat => ?_
  refine hold_region_end ?_
  refine hold_retd hb hbf SumF_fn hat.defers (ret_one SumF_res hat rfl) ?_
  exact H _ hG F2 F3 F5 F7 FS
theorem SumSF_loop {b : Frame} (hbk : b.kind ≠ .early) {k : List Item} {B5 gs m : Nat} {now : List Int} (hm : m ≤ 16) (hnow : now.length = m) {u : World}
    (H : ∀ v a, Grow u v → AtE 43 [] [(9, .int .i64 (sumOf now))] a → Hold Try.prog main S Stop (G (b.at a k) cs) v) :
    ∀ (r j : Nat) (v : World) (a : Act), j + r = m → Grow u v → v.heap[B5]? = some (.cells #[.int .i64 0, .int .i64 32] 64 (0, 0)) → v.heap[gs]? = some (.cells (rowI m now) 3 (0, 0)) →
      AtE 43 [] [(30, .int .i64 j), (29, .int .i64 m), (28, .slice (some ⟨gs, 0, none⟩) m m), (9, .int .i64 (sumOf (now.take j))), (5, .pointer (some ⟨B5, 0, none⟩))] a → Hold Try.prog main S Stop (G (b.at a (.code Sum_L1 :: .inLoop Sum_L1 :: .inBlock 2 :: k)) cs) v := by
  intro r
  induction r with
  | zero =>
    intro j v a hj hG F5 FS hat
    refine hold_unf Sum_L1_def ?_
    refine hold_seq ?_
    refine hold_region (l := [0]) rfl ?_
    refine h_val noA hbk Sum_8 rfl rfl (by decide) hat (r_bool (t' := false) (r_lss rfl rfl) (by first | (simp; omega) | (simp; done) | (simp_all; done) | (simp_all; omega))) fun a hat => ?_
    refine hold_region_end ?_
    refine hold_seq ?_
    refine hold_condF (hat.eval (q := .tmp 31) rfl) rfl ?_
    refine hold_exit (k' := _) rfl ?_
    have e : now.take j = now := List.take_of_length_le (by omega)
    rw [e] at hat
    exact H _ _ hG (hat.sub (AtE.cons rfl (AtE.nil)))
  | succ r ih =>
    intro j v a hj hG F5 FS hat
    obtain ⟨x, hx⟩ : ∃ x, now[j]? = some x := ⟨now[j]'(by omega), by simp⟩
    have h1 := sumOf_range (now.take j)
    have h2 := amount_range x
    have h3 : (now.take j).length = j := by simp; omega
    rw [h3] at h1
    have hsn : sumOf (now.take (j + 1)) = sumOf (now.take j) + amount x := by rw [← sumOf_snoc, take_snoc hx]
    refine hold_unf Sum_L1_def ?_
    refine hold_seq ?_
    refine hold_region (l := [0]) rfl ?_
    refine h_val noA hbk Sum_8 rfl rfl (by decide) hat (r_bool (t' := true) (r_lss rfl rfl) (by first | (simp; omega) | (simp; done) | (simp_all; done) | (simp_all; omega))) fun a hat => ?_
    refine hold_region_end ?_
    refine hold_seq ?_
    refine hold_condT (hat.eval (q := .tmp 31) rfl) rfl ?_
    refine hold_skip ?_
    refine hold_seq ?_
    refine hold_block ?_
    refine hold_seq ?_
    refine hold_region (l := [0,1,2]) rfl ?_
    refine h_val noA hbk Sum_9 rfl rfl (by decide) hat (r_index ix_22 rfl rfl (by omega) (by omega)) fun a hat => ?_
    refine h_val noA hbk Sum_9 rfl rfl (by decide) hat (r_load ld_3 rfl ((cell_at' FS).trans (by rw [show 0 + (j : Int).toNat * 1 = j from by omega]; exact rowI_get hx))) fun a hat => ?_
    refine h_val noA hbk Sum_9 rfl rfl (by decide) hat (r_assign rfl) fun a hat => ?_
    refine hold_region_end ?_
    refine hold_region (l := [0,1,2,3,4,5,6,7]) rfl ?_
    refine h_val noA hbk Sum_10 rfl rfl (by decide) hat (r_move rfl) fun a hat => ?_
    refine h_val noA hbk Sum_10 rfl rfl (by decide) hat (r_move rfl) fun a hat => ?_
    refine h_val noA hbk Sum_10 rfl rfl (by decide) hat (lg_64 rfl (cell_at' F5) (cell_at' F5)) fun a hat => ?_
    refine h_callc hbk Sum_10 rfl (by decide) hat wGet_fn wGet_bd wGet_nm (vals := #[_, _]) rfl fun c hc => ?_
    refine wGet_hold (p := 0) (q := 32) (by omega) fun v hg => ?_
    replace F5 := hg.at F5
    replace FS := hg.at FS
    replace hG := hG.trans hg
    refine hold_fin hc fun a hat => ?_
    refine h_val noA hbk Sum_10 rfl (by kernel_rfl) (by decide) hat (cv_3_21 rfl) fun a hat => ?_
    refine h_val noA hbk Sum_10 rfl (by kernel_rfl) (by decide) hat (r_int (cv_21_3 rfl) (show IntKind.i64.wrap (amount x) = amount x by rw [IntKind.wrap_i64]; omega)) fun a hat => ?_
    refine h_val noA hbk Sum_10 rfl rfl (by decide) hat (r_add rfl rfl (by first | omega | (simp; omega))) fun a hat => ?_
    refine h_val noA hbk Sum_10 rfl rfl (by decide) hat (r_assign rfl) fun a hat => ?_
    refine hold_region_end ?_
    refine hold_inBlock ?_
    refine hold_region (l := [0,1]) rfl ?_
    refine h_val noA hbk Sum_11 rfl rfl (by decide) hat (r_add rfl rfl (by first | omega | (simp; omega))) fun a hat => ?_
    refine h_val noA hbk Sum_11 rfl rfl (by decide) hat (r_move rfl) fun a hat => ?_
    refine hold_region_end ?_
    refine hold_inLoop ?_
    refine ih (j + 1) _ _ (by omega) hG F5 FS ?_
    rw [hsn]
    exact hat.sub (AtE.cons rfl (AtE.cons rfl (AtE.cons rfl (AtE.cons rfl (AtE.cons rfl (AtE.nil))))))
theorem diffs_self (l : List Int) : diffs l l = 0 := by simp [diffs]
theorem SumFree_body {b : Frame} (hbk : b.kind ≠ .early) {k : List Item} {B2 B3 B5 B7 gs C g cap m T : Nat} {id : Int} {cb : Nat → Nat} {xs seen : List Int} (hsl : seen.length = m) {u v : World} (hC : FreeC u C g m cap cb xs) (hT : FreeT u T id) (hgs : u.heap.size ≤ gs) (hG : Grow u v) (F2 : v.heap[B2]? = some (.cells #[.pointer (some ⟨C, 0, none⟩)] 24 (0, 0))) (F3 : v.heap[B3]? = some (.cells #[.pointer (some ⟨T, 0, none⟩)] 26 (0, 0))) (F5 : v.heap[B5]? = some (.cells #[.int .i64 0, .int .i64 32] 64 (0, 0))) (F7 : v.heap[B7]? = some (.cells #[.slice (some ⟨gs, 0, none⟩) m m] 22 (0, 0))) (FS : v.heap[gs]? = some (.cells (rowI m seen) 3 (0, 0)))
    (H : ∀ v a, Grow u v → v.heap[B5]? = some (.cells #[.int .i64 0, .int .i64 32] 64 (0, 0)) → v.heap[B7]? = some (.cells #[.slice (some ⟨gs, 0, none⟩) m m] 22 (0, 0)) → v.heap[gs]? = some (.cells (rowI m xs) 3 (0, 0)) → AtE 43 [] [(7, .pointer (some ⟨B7, 0, none⟩)), (5, .pointer (some ⟨B5, 0, none⟩))] a → Hold Try.prog main S Stop (G (b.at a k) cs) v) {a : Act}
    (hat : AtE 43 [] [(8, .func (.func 27) #[] #[.pointer (some ⟨B2, 0, none⟩), .pointer (some ⟨B3, 0, none⟩), .pointer (some ⟨B7, 0, none⟩)]), (7, .pointer (some ⟨B7, 0, none⟩)), (5, .pointer (some ⟨B5, 0, none⟩))] a) : Hold Try.prog main S Stop (G (b.at a (.code Sum_L0 :: .inLoop Sum_L0 :: .inBlock 0 :: k)) cs) v := by
  refine hold_unf Sum_L0_def ?_
  refine hold_block ?_
  refine hold_seq ?_
  refine hold_region (l := [0,1]) rfl ?_
  refine h_val noA hbk Sum_4 rfl rfl (by decide) hat (r_move rfl) fun a hat => ?_
  refine h_callcv hbk Sum_4 rfl (by decide) hat rfl (vals := #[]) rfl SumF_fn SumF_bd SumF_nm fun c hc => ?_
  refine lookF_hold hsl hC hT hgs hG F2 F3 F5 F7 FS fun v hG F2 F3 F5 F7 FS => ?_
  refine hold_fin hc fun a hat => ?_
  refine hold_region_end ?_
  refine hold_seq ?_
  refine hold_region (l := [0,1,2]) rfl ?_
  refine h_val noA hbk Sum_5 rfl rfl (by decide) hat (r_move rfl) fun a hat => ?_
  refine h_callcv hbk Sum_5 rfl (by decide) hat rfl (vals := #[]) rfl SumF_fn SumF_bd SumF_nm fun c hc => ?_
  refine lookF_hold hC.len hC hT hgs hG F2 F3 F5 F7 FS fun v hG F2 F3 F5 F7 FS => ?_
  refine hold_fin hc fun a hat => ?_
  rw [diffs_self] at hat
  refine h_val noA hbk Sum_5 rfl (opOk_eq (by kernel_rfl)) (by decide) hat (r_bool (t' := true) (r_eql rfl rfl) (by simp)) fun a hat => ?_
  refine hold_region_end ?_
  refine hold_condT (hat.eval (q := .tmp 27) rfl) rfl ?_
  refine hold_exit (k' := _) rfl ?_
  exact H _ _ hG F5 F7 FS (hat.sub (AtE.cons rfl (AtE.cons rfl (AtE.nil))))
theorem SumFree_hold {C g cap m T : Nat} {id : Int} {cb : Nat → Nat} {xs : List Int} {v : World} (hC : FreeC v C g m cap cb xs) (hT : FreeT v T id)
    (H : ∀ v', Grow v v' → Hold Try.prog main S Stop (G (c.finish (.int .i64 (sumOf xs))) cs) v') :
    Hold Try.prog main S Stop (G (Frame.enter Try.prog 11 #[.pointer (some ⟨C, 0, none⟩), .pointer (some ⟨T, 0, none⟩)] .normal) (c :: cs)) v := by
  have hG := Grow.refl v
  have F := hC.c
  obtain ⟨hm1, hm2⟩ := hC.bnd
  obtain ⟨b, a, hEq, hb, hbf, hat⟩ := enter_is Sum_fn Sum_body Sum_tmps #[.pointer (some ⟨C, 0, none⟩), .pointer (some ⟨T, 0, none⟩)] [(0, .pointer (some ⟨C, 0, none⟩)), (1, .pointer (some ⟨T, 0, none⟩))] rfl (by simp)
  rw [hEq]
  have hbk := not_early hb
  refine hold_unf Sum_code_def ?_
  refine hold_seq ?_
  refine hold_region (l := [0,1,2]) rfl ?_
  refine h_new noA hbk Sum_0 rfl rfl (by decide) hat (bx_24 rfl rfl) fun v a B2 hB2 hsB2 hg F2 hat => ?_
  have n_F2_F := ne_new F hB2
  have gB2 := Nat.le_trans hG.size (Nat.le_of_eq hB2)
  replace hG := hG.trans hg
  replace F := hg.at F
  refine h_new noA hbk Sum_0 rfl rfl (by decide) hat (bx_26 rfl rfl) fun v a B3 hB3 hsB3 hg F3 hat => ?_
  have n_F3_F := ne_new F hB3
  have n_F3_F2 := ne_new F2 hB3
  have gB3 := Nat.le_trans hG.size (Nat.le_of_eq hB3)
  replace hG := hG.trans hg
  replace F := hg.at F
  replace F2 := hg.at F2
  refine h_val noA hbk Sum_0 rfl rfl (by decide) hat (r_assign rfl) fun a hat => ?_
  refine hold_region_end ?_
  refine hold_seq ?_
  refine hold_region (l := [0,1,2,3,4,5,6,7]) rfl ?_
  refine h_callc hbk Sum_1 rfl (by decide) hat fields_fn fields_bd fields_nm (vals := #[]) rfl fun c hc => ?_
  refine fields_hold fun v hg => ?_
  replace F := hg.at F
  replace F2 := hg.at F2
  replace F3 := hg.at F3
  replace hG := hG.trans hg
  refine hold_fin hc fun a hat => ?_
  refine h_val noA hbk Sum_1 rfl rfl (by decide) hat (r_move rfl) fun a hat => ?_
  refine h_val noA hbk Sum_1 rfl rfl (by decide) hat (r_extract rfl rfl) fun a hat => ?_
  refine h_val noA hbk Sum_1 rfl rfl (by decide) hat (r_extract rfl rfl) fun a hat => ?_
  refine h_new noA hbk Sum_1 rfl rfl (by decide) hat al_64 fun v a B5 hB5 hsB5 hg F5 hat => ?_
  have n_F5_F := ne_new F hB5
  have n_F5_F2 := ne_new F2 hB5
  have n_F5_F3 := ne_new F3 hB5
  have gB5 := Nat.le_trans hG.size (Nat.le_of_eq hB5)
  replace hG := hG.trans hg
  replace F := hg.at F
  replace F2 := hg.at F2
  replace F3 := hg.at F3
  refine h_new noA hbk Sum_1 rfl rfl (by decide) hat al_64 fun v a B6 hB6 hsB6 hg F6 hat => ?_
  have n_F6_F := ne_new F hB6
  have n_F6_F2 := ne_new F2 hB6
  have n_F6_F3 := ne_new F3 hB6
  have n_F6_F5 := ne_new F5 hB6
  have gB6 := Nat.le_trans hG.size (Nat.le_of_eq hB6)
  replace hG := hG.trans hg
  replace F := hg.at F
  replace F2 := hg.at F2
  replace F3 := hg.at F3
  replace F5 := hg.at F5
  refine h_put noA hbk Sum_1 rfl rfl hat (pg_64 rfl rfl F5 rfl rfl rfl rfl rfl) fun v a hP F5x hat => ?_
  simp only [List.setIfInBounds_toArray, List.set_cons_succ, List.set_cons_zero] at F5x
  replace F := hP.keep (by first | exact n_F5_F | exact n_F_F5.symm | exact ne_of_types F F5 (by decide) | omega) F
  replace F2 := hP.keep (by first | exact n_F5_F2 | exact n_F2_F5.symm | exact ne_of_types F2 F5 (by decide) | omega) F2
  replace F3 := hP.keep (by first | exact n_F5_F3 | exact n_F3_F5.symm | exact ne_of_types F3 F5 (by decide) | omega) F3
  replace F6 := hP.keep (by first | exact n_F5_F6 | exact n_F6_F5.symm | exact ne_of_types F6 F5 (by decide) | omega) F6
  replace hG := hG.put hP gB5
  replace F5 := F5x; clear F5x
  refine h_put noA hbk Sum_1 rfl rfl hat (pg_64 rfl rfl F6 rfl rfl rfl rfl rfl) fun v a hP F6x hat => ?_
  simp only [List.setIfInBounds_toArray, List.set_cons_succ, List.set_cons_zero] at F6x
  replace F := hP.keep (by first | exact n_F6_F | exact n_F_F6.symm | exact ne_of_types F F6 (by decide) | omega) F
  replace F2 := hP.keep (by first | exact n_F6_F2 | exact n_F2_F6.symm | exact ne_of_types F2 F6 (by decide) | omega) F2
  replace F3 := hP.keep (by first | exact n_F6_F3 | exact n_F3_F6.symm | exact ne_of_types F3 F6 (by decide) | omega) F3
  replace F5 := hP.keep (by first | exact n_F6_F5 | exact n_F5_F6.symm | exact ne_of_types F5 F6 (by decide) | omega) F5
  replace hG := hG.put hP gB6
  replace F6 := F6x; clear F6x
  refine hold_region_end ?_
  refine hold_seq ?_
  refine hold_region (l := [0,1,2,3,4,5,6,7]) rfl ?_
  refine h_val noA hbk Sum_2 rfl rfl (by decide) hat (r_load ld_24 rfl (cell_at' F2)) fun a hat => ?_
  refine h_val noA hbk Sum_2 rfl rfl (by decide) hat (r_nil rfl) fun a hat => ?_
  refine h_val noA hbk Sum_2 rfl rfl (by decide) hat (r_field fk_57_0 rfl) fun a hat => ?_
  refine h_val noA hbk Sum_2 rfl rfl (by decide) hat (r_load ld_55 rfl (cell_at' F)) fun a hat => ?_
  refine h_val noA hbk Sum_2 rfl rfl (by decide) hat (r_len lk_55 rfl) fun a hat => ?_
  refine h_news noA hbk Sum_2 rfl rfl (by decide) hat (r_make Try.underlying22 (z := .int .i64 0) (bytes := 8) (by kernel_rfl) rfl rfl rfl (by omega) (by omega)) fun v a B21 hB21 hsB21 hg F21 hat => ?_
  have n_F21_F := ne_new F hB21
  have n_F21_F2 := ne_new F2 hB21
  have n_F21_F3 := ne_new F3 hB21
  have n_F21_F5 := ne_new F5 hB21
  have n_F21_F6 := ne_new F6 hB21
  have gB21 := Nat.le_trans hG.size (Nat.le_of_eq hB21)
  replace hG := hG.trans hg
  replace F := hg.at F
  replace F2 := hg.at F2
  replace F3 := hg.at F3
  replace F5 := hg.at F5
  replace F6 := hg.at F6
  refine h_new noA hbk Sum_2 rfl rfl (by decide) hat al_22 fun v a B7 hB7 hsB7 hg F7 hat => ?_
  have n_F7_F := ne_new F hB7
  have n_F7_F2 := ne_new F2 hB7
  have n_F7_F3 := ne_new F3 hB7
  have n_F7_F5 := ne_new F5 hB7
  have n_F7_F6 := ne_new F6 hB7
  have n_F7_F21 := ne_new F21 hB7
  have gB7 := Nat.le_trans hG.size (Nat.le_of_eq hB7)
  replace hG := hG.trans hg
  replace F := hg.at F
  replace F2 := hg.at F2
  replace F3 := hg.at F3
  replace F5 := hg.at F5
  replace F6 := hg.at F6
  replace F21 := hg.at F21
  refine h_put noA hbk Sum_2 rfl rfl hat (p_store st_22 rfl rfl rfl F7 rfl rfl) fun v a hP F7x hat => ?_
  simp only [List.setIfInBounds_toArray, List.set_cons_zero] at F7x
  replace F := hP.keep (by first | exact n_F7_F | exact n_F_F7.symm | exact ne_of_types F F7 (by decide) | omega) F
  replace F2 := hP.keep (by first | exact n_F7_F2 | exact n_F2_F7.symm | exact ne_of_types F2 F7 (by decide) | omega) F2
  replace F3 := hP.keep (by first | exact n_F7_F3 | exact n_F3_F7.symm | exact ne_of_types F3 F7 (by decide) | omega) F3
  replace F5 := hP.keep (by first | exact n_F7_F5 | exact n_F5_F7.symm | exact ne_of_types F5 F7 (by decide) | omega) F5
  replace F6 := hP.keep (by first | exact n_F7_F6 | exact n_F6_F7.symm | exact ne_of_types F6 F7 (by decide) | omega) F6
  replace F21 := hP.keep (by first | exact n_F7_F21 | exact n_F21_F7.symm | exact ne_of_types F21 F7 (by decide) | omega) F21
  replace hG := hG.put hP gB7
  replace F7 := F7x; clear F7x
  refine hold_region_end ?_
  refine hold_seq ?_
  refine hold_region (l := [0,1]) rfl ?_
  refine h_val noA hbk Sum_3 rfl rfl (by decide) hat (mf_27_3 rfl rfl rfl) fun a hat => ?_
  refine h_val noA hbk Sum_3 rfl rfl (by decide) hat (r_assign rfl) fun a hat => ?_
  refine hold_region_end ?_
  refine hold_seq ?_
  refine hold_block ?_
  refine hold_loop ?_
  rw [rowI_made] at F21
  refine SumFree_body hbk (seen := List.replicate m 0) (by simp) hC hT gB21 hG F2 F3 F5 F7 (by rw [show rowI m (List.replicate m 0) = rowI m [] from by simp [rowI]]; exact F21) (fun v a hG F5 F7 FS hat => ?_) (hat.sub (AtE.cons rfl (AtE.cons rfl (AtE.cons rfl (AtE.nil)))))
  refine hold_seq ?_
  refine hold_region (l := [0]) rfl ?_
  refine h_val noA hbk Sum_6 rfl rfl (by decide) hat (r_assign rfl) fun a hat => ?_
  refine hold_region_end ?_
  refine hold_seq ?_
  refine hold_seq ?_
  refine hold_region (l := [0,1,2]) rfl ?_
  refine h_val noA hbk Sum_7 rfl rfl (by decide) hat (r_load ld_22 rfl (cell_at' F7)) fun a hat => ?_
  refine h_val noA hbk Sum_7 rfl rfl (by decide) hat (r_len lk_22 rfl) fun a hat => ?_
  refine h_val noA hbk Sum_7 rfl rfl (by decide) hat (r_move rfl) fun a hat => ?_
  refine hold_region_end ?_
  refine hold_block ?_
  refine hold_loop ?_
  refine SumSF_loop hbk hm2 hC.len (fun v a hG hat => ?_) m 0 _ _ (by omega) hG F5 FS (hat.sub (AtE.cons rfl (AtE.cons rfl (AtE.cons rfl (AtE.cons rfl (AtE.cons rfl (AtE.nil)))))))
  refine hold_seq ?_
  refine hold_region (l := [0,1]) rfl ?_
  refine h_val noA hbk Sum_12 rfl rfl (by decide) hat (r_move rfl) fun a hat => ?_
  refine h_val noA hbk Sum_12 rfl rfl (by decide) hat (r_assign rfl) fun a hat => ?_
  refine hold_region_end ?_
  refine hold_retd hb hbf Sum_fn hat.defers (ret_one Sum_res hat rfl) ?_
  exact H _ hG
end
end Go.Proofs.Ytlnjmheocfbimaa

/- counter.New, of no world. -/
namespace Go.Proofs.Ytlnjmheocfbimaa
open Go Go.Conc
section
variable {S : Addr → Prop} {main : Bool} {Stop : Goroutine → World → Prop} {cs : List Frame} {c : Frame} {v : World}
theorem wCell0_hold (H : Hold Try.prog main S Stop (G (c.finish (.int .i64 0)) cs) v) : Hold Try.prog main S Stop (G (Frame.enter Try.prog 33 #[.pointer none] .normal) (c :: cs)) v := by
  obtain ⟨b, a, hEq, hb, hbf, hat⟩ := enter_is wCell_fn wCell_body wCell_tmps #[.pointer none] [(0, .pointer none)] rfl (by simp)
  rw [hEq]
  have hbk := not_early hb
  refine hold_unf wCell_code_def ?_
  refine hold_seq ?_
  refine hold_region (l := [0]) rfl ?_
  refine h_val noA hbk wCell_0 rfl rfl (by decide) hat (r_assign rfl) fun a hat => ?_
  refine hold_region_end ?_
  refine hold_seq ?_
  refine hold_seq ?_
  refine hold_region (l := [0,1]) rfl ?_
  refine h_val noA hbk wCell_1 rfl rfl (by decide) hat (r_move rfl) fun a hat => ?_
  refine h_val noA hbk wCell_1 rfl opOk_nil (by decide) hat (r_isnil nk_33 rfl) fun a hat => ?_
  refine hold_region_end ?_
  refine hold_condT (hat.eval (q := .tmp 4) rfl) rfl ?_
  refine hold_seq ?_
  refine hold_region (l := [0]) rfl ?_
  refine h_val noA hbk wCell_2 rfl rfl (by decide) hat (r_assign rfl) fun a hat => ?_
  refine hold_region_end ?_
  refine hold_retd hb hbf wCell_fn hat.defers (ret_one wCell_res hat rfl) ?_
  exact H
theorem cellNew0_hold {x0 : Int} (H : ∀ v' B, Grow v v' → v.heap.size ≤ B → CellAt v' B 0 x0 → Hold Try.prog main S Stop (G (c.finish (.pointer (some ⟨B, 0, none⟩))) cs) v') :
    Hold Try.prog main S Stop (G (Frame.enter Try.prog 19 #[.pointer none, .int .i64 x0] .normal) (c :: cs)) v := by
  have hG := Grow.refl v
  obtain ⟨b, a, hEq, hb, hbf, hat⟩ := enter_is cellNew_fn cellNew_body cellNew_tmps #[.pointer none, .int .i64 x0] [(0, .pointer none), (1, .int .i64 x0)] rfl (by simp)
  rw [hEq]
  have hbk := not_early hb
  refine hold_unf cellNew_code_def ?_
  refine hold_seq ?_
  refine hold_region (l := [0]) rfl ?_
  refine h_val noA hbk cellNew_0 rfl rfl (by decide) hat (r_assign rfl) fun a hat => ?_
  refine hold_region_end ?_
  refine hold_seq ?_
  refine hold_region (l := [0,1,2,3,4]) rfl ?_
  refine h_val noA hbk cellNew_1 rfl rfl (by decide) hat (r_move rfl) fun a hat => ?_
  refine h_callc hbk cellNew_1 rfl (by decide) hat wCell_fn wCell_bd wCell_nm (vals := #[_]) rfl fun c hc => ?_
  refine wCell0_hold ?_
  refine hold_fin hc fun a hat => ?_
  refine h_val noA hbk cellNew_1 rfl rfl (by decide) hat (bu_89_0 rfl rfl) fun a hat => ?_
  refine h_new noA hbk cellNew_1 rfl rfl (by decide) hat (bx_89 rfl) fun v a B9 hB9 hsB9 hg F9 hat => ?_
  have gB9 := Nat.le_trans hG.size (Nat.le_of_eq hB9)
  replace hG := hG.trans hg
  refine h_val noA hbk cellNew_1 rfl rfl (by decide) hat (r_assign rfl) fun a hat => ?_
  refine hold_region_end ?_
  refine hold_seq ?_
  refine hold_region (l := [0,1,2,3,4]) rfl ?_
  refine h_val noA hbk cellNew_2 rfl rfl (by decide) hat (r_move rfl) fun a hat => ?_
  refine h_val noA hbk cellNew_2 rfl rfl (by decide) hat (r_nil rfl) fun a hat => ?_
  refine h_val noA hbk cellNew_2 rfl rfl (by decide) hat (r_field fk_89_1 rfl) fun a hat => ?_
  refine h_val noA hbk cellNew_2 rfl rfl (by decide) hat (r_move rfl) fun a hat => ?_
  refine h_callc hbk cellNew_2 rfl (by decide) hat AStore_fn AStore_bd AStore_nm (vals := #[_, _]) rfl fun c hc => ?_
  refine astore_hold F9 rfl rfl fun v hP => ?_
  refine hold_fin hc fun a hat => ?_
  have F9 := hP.at_
  refine hold_region_end ?_
  refine hold_seq ?_
  refine hold_region (l := [0,1]) rfl ?_
  refine h_val noA hbk cellNew_3 rfl rfl (by decide) hat (r_move rfl) fun a hat => ?_
  refine h_val noA hbk cellNew_3 rfl rfl (by decide) hat (r_assign rfl) fun a hat => ?_
  refine hold_region_end ?_
  refine hold_retd hb hbf cellNew_fn hat.defers (ret_one cellNew_res hat rfl) ?_
  exact H _ B9 (hG.put hP gB9) gB9 F9
structure Shards0 (lo : Nat) (v : World) (C : Nat) (lv : Value) (cb : Nat → Nat) (m : Nat) : Prop where
  c : v.heap[C]? = some (.cells #[lv] 57 (0, 0))
  l : v.ownsRow 0 58 1 lv m ((List.range m).map fun j => .pointer (some ⟨cb j, 0, none⟩))
  lows : lo ≤ C ∧ ∀ b, lv.ownBlock = some b → lo ≤ b
  cells : ∀ j, j < m → lo ≤ cb j ∧ CellAt v (cb j) 0 0
  apart : ∀ i j, i < j → j < m → cb i < cb j
theorem cNew0_loop {b : Frame} (hbk : b.kind ≠ .early) {k : List Item} {m C : Nat} {u : World} (hm : m ≤ 16) (hr0 : Ready0 u)
    (H : ∀ v a lv cb, Grow u v → Shards0 u.heap.size v C lv cb m → AtE 26 [] [(5, .pointer (some ⟨C, 0, none⟩))] a → Hold Try.prog main S Stop (G (b.at a k) cs) v) :
    ∀ (r i : Nat) (v : World) (a : Act) (lv : Value) (cb : Nat → Nat), i + r = m → Grow u v → Shards0 u.heap.size v C lv cb i →
      AtE 26 [] [(11, .int .i64 i), (10, .int .i64 m), (5, .pointer (some ⟨C, 0, none⟩)), (0, .pointer none)] a → Hold Try.prog main S Stop (G (b.at a (.code cNew_L0 :: .inLoop cNew_L0 :: .inBlock 0 :: k)) cs) v := by
  intro r
  induction r with
  | zero =>
    intro i v a lv cb hi hG hSh hat
    obtain rfl : i = m := by omega
    refine hold_unf cNew_L0_def ?_
    refine hold_seq ?_
    refine hold_region (l := [0]) rfl ?_
    refine h_val noA hbk cNew_3 rfl rfl (by decide) hat (r_bool (t' := false) (r_lss rfl rfl) (by first | (simp; omega) | (simp; done) | (simp_all; done) | (simp_all; omega))) fun a hat => ?_
    refine hold_region_end ?_
    refine hold_seq ?_
    refine hold_condF (hat.eval (q := .tmp 12) rfl) rfl ?_
    refine hold_exit (k' := _) rfl ?_
    exact H v a lv cb hG hSh (hat.sub (AtE.cons rfl (AtE.nil)))
  | succ r ih =>
    intro i v a lv cb hi hG hSh hat
    refine hold_unf cNew_L0_def ?_
    refine hold_seq ?_
    refine hold_region (l := [0]) rfl ?_
    refine h_val noA hbk cNew_3 rfl rfl (by decide) hat (r_bool (t' := true) (r_lss rfl rfl) (by first | (simp; omega) | (simp; done) | (simp_all; done) | (simp_all; omega))) fun a hat => ?_
    refine hold_region_end ?_
    refine hold_seq ?_
    refine hold_condT (hat.eval (q := .tmp 12) rfl) rfl ?_
    refine hold_skip ?_
    refine hold_seq ?_
    refine hold_block ?_
    have hCs := hSh.c
    refine hold_drawK (ts := [58]) (ord := [0,1,2,3,4,5,6,7,8,9,10,11]) (bigs := [6,7,8,11]) (by kernel_rfl) (by kernel_rfl) hat ?_
    refine tk_val noA hbk cNew_4 rfl rfl rfl (fun v' hk => r_move rfl) ?_
    refine tk_val noA hbk cNew_4 rfl rfl rfl (fun v' hk => r_move rfl) ?_
    refine tk_val noA hbk cNew_4 rfl rfl rfl (fun v' hk => r_nil rfl) ?_
    refine tk_val noA hbk cNew_4 rfl rfl rfl (fun v' hk => r_field fk_57_0 rfl) ?_
    refine tk_val noA hbk cNew_4 rfl rfl rfl (fun v' hk => r_load ld_55 rfl (cell_at' (hk.same _ _ _ _ hCs (by decide)))) ?_
    refine tk_val noA hbk cNew_4 rfl rfl rfl (fun v' hk => r_move rfl) ?_
    refine tk_call hbk cNew_4 rfl rfl cellNew_fn cellNew_bd cellNew_nm (vals := #[_, _]) rfl fun c K => ?_
    refine cellNew0_hold fun v' B hg1 hB hB' => ?_
    refine K _ v' hg1.keepT ?_
    have hg1' := hG.trans hg1
    refine tk_step noA hbk cNew_4 rfl rfl rfl (bs_55_1_0 rfl rfl) (Grow.keepT grow_alloc) ?_
    have hg : Grow v' (v'.alloc (.cells #[.pointer (some ⟨B, 0, none⟩)] 58 (0, 0))) := grow_alloc
    have hat2 : (v'.alloc (.cells #[.pointer (some ⟨B, 0, none⟩)] 58 (0, 0))).heap[v'.heap.size]? = some (.cells #[.pointer (some ⟨B, 0, none⟩)] 58 (0, 0)) := by show (v'.heap.push _)[_]? = _; simp
    generalize v'.alloc (.cells #[.pointer (some ⟨B, 0, none⟩)] 58 (0, 0)) = v2 at hg hat2 ⊢
    have hg2 := hg1.trans hg
    have hl2 := owns_grow hSh.l hg2
    refine tk_any noA hbk cNew_4 rfl rfl rfl ((hG.trans hg2).ready hr0) (app_runs ek_55 hl2 rfl rfl hat2 rfl (by simp [Value.oneCell']) (by decide) (Nat.le_trans (show _ ≤ 17 by omega) (by decide)) (by omega)) (fun y w ⟨g, cap, _, hk', _⟩ => ?_) fun y w hQ hrd3 => ?_
    · refine ⟨hk'.1, fun x arr t fr hx ht => (hk'.2 x (lt_of_heap hx) (own_ne hl2 hx fun e => ht (by rw [e]; decide))).trans hx⟩
    obtain ⟨g, cap, rfl, _, hAp⟩ := hQ
    have hAp := hAp hrd3
    refine tk_val noA hbk cNew_4 rfl rfl rfl (fun v' hk => r_nil rfl) ?_
    refine tk_val noA hbk cNew_4 rfl rfl rfl (fun v' hk => r_field fk_57_0 rfl) ?_
    have kp : ∀ (x : Nat) (arr : Array Value) (t : TypeId) (fr : Nat × Nat), v2.heap[x]? = some (.cells arr t fr) → t ≠ 58 → w.heap[x]? = some (.cells arr t fr) := fun x arr t fr hx ht => (hAp.same x (lt_of_heap hx) (own_ne hl2 hx ht)).trans hx
    have hC3 : w.heap[C]? = some (.cells #[lv] 57 (0, 0)) := kp _ _ _ _ (hg2.at hCs) (by decide)
    refine tk_put noA hbk cNew_4 rfl rfl rfl (by kernel_rfl) (p_store st_55 rfl rfl rfl hC3 rfl rfl) fun v5 hP => ?_
    refine tk_end fun a hat => ?_
    refine hold_inBlock ?_
    refine hold_region (l := [0,1]) rfl ?_
    refine h_val noA hbk cNew_5 rfl rfl (by decide) hat (r_add rfl rfl (by first | omega | (simp; omega))) fun a hat => ?_
    refine h_val noA hbk cNew_5 rfl rfl (by decide) hat (r_move rfl) fun a hat => ?_
    refine hold_region_end ?_
    refine hold_inLoop ?_
    have kp5 : ∀ (x : Nat) (arr : Array Value) (t : TypeId) (fr : Nat × Nat), w.heap[x]? = some (.cells arr t fr) → t ≠ 57 → v5.heap[x]? = some (.cells arr t fr) := fun x arr t fr hx ht => (hP.other x (fun e => by rw [e, hC3] at hx; cases hx; exact ht rfl)).trans hx
    have hC5 := hP.at_
    simp only [List.setIfInBounds_toArray] at hC5
    have hlow := hSh.lows
    have hgw := hAp.grow (hG.trans hg2) hlow.2
    refine ih (i + 1) v5 a (.slice (some ⟨g, 0, none⟩) (i + 1) cap) (fun j => if j = i then B else cb j) (by omega) (hgw.1.put hP hlow.1) ⟨hC5, ?_, ⟨hlow.1, fun x hx => hgw.2 x hx⟩, fun j hj => ?_, fun a' b' hab hb => ?_⟩ (hat.sub (AtE.cons rfl (AtE.cons rfl (AtE.cons rfl (AtE.cons rfl (AtE.nil))))))
    · have e1 : ((List.range (i + 1)).map fun j => (.pointer (some ⟨if j = i then B else cb j, 0, none⟩) : Value)) = ((List.range i).map fun j => .pointer (some ⟨cb j, 0, none⟩)) ++ [.pointer (some ⟨B, 0, none⟩)] := by
        rw [List.range_succ, List.map_append, List.map_cons, List.map_nil, if_pos rfl]
        congr 1
        exact List.map_congr_left fun j hj => by
          have : j ≠ i := by have := List.mem_range.1 hj; omega
          rw [if_neg this]
      rw [e1]
      exact ownsRow_keep hAp.owns fun x y hx hy => (kp5 _ _ _ _ hy (by decide)).trans hy.symm
    · by_cases e : j = i
      · subst e
        rw [if_pos rfl]
        exact ⟨Nat.le_trans hG.size hB, kp5 _ _ _ _ (kp _ _ _ _ (hg.at hB') (by decide)) (by decide)⟩
      · rw [if_neg e]
        obtain ⟨c1, c2⟩ := hSh.cells j (by omega)
        exact ⟨c1, kp5 _ _ _ _ (kp _ _ _ _ (hg2.at c2) (by decide)) (by decide)⟩
    · by_cases e : b' = i
      · subst e
        rw [if_pos rfl, if_neg (by omega)]
        obtain ⟨_, c2⟩ := hSh.cells a' (by omega)
        exact Nat.lt_of_lt_of_le (lt_of_heap c2) hB
      · rw [if_neg e, if_neg (by omega)]
        exact hSh.apart a' b' hab (by omega)
theorem cNew0_hold {sh : Int} (hr : Ready0 v) (H : ∀ v' C g cap cb, Grow v v' → FreeC v' C g (many sh) cap cb (List.replicate (many sh) 0) → v.heap.size ≤ C → (∀ j, j < many sh → v.heap.size ≤ cb j) → Hold Try.prog main S Stop (G (c.finish (.pointer (some ⟨C, 0, none⟩))) cs) v') :
    Hold Try.prog main S Stop (G (Frame.enter Try.prog 7 #[.pointer none, .int .i64 sh] .normal) (c :: cs)) v := by
  have hG := Grow.refl v
  obtain ⟨b, a, hEq, hb, hbf, hat⟩ := enter_is cNew_fn cNew_body cNew_tmps #[.pointer none, .int .i64 sh] [(0, .pointer none), (1, .int .i64 sh)] rfl (by simp)
  rw [hEq]
  have hbk := not_early hb
  refine hold_unf cNew_code_def ?_
  refine hold_seq ?_
  refine hold_region (l := [0]) rfl ?_
  refine h_val noA hbk cNew_0 rfl rfl (by decide) hat (r_assign rfl) fun a hat => ?_
  refine hold_region_end ?_
  refine hold_seq ?_
  refine hold_region (l := [0,1,2]) rfl ?_
  refine h_val noA hbk cNew_1 rfl rfl (by decide) hat bu_57 fun a hat => ?_
  refine h_new noA hbk cNew_1 rfl rfl (by decide) hat (bx_57 rfl) fun v a B7 hB7 hsB7 hg F7 hat => ?_
  have gB7 := Nat.le_trans hG.size (Nat.le_of_eq hB7)
  replace hG := hG.trans hg
  refine h_val noA hbk cNew_1 rfl rfl (by decide) hat (r_assign rfl) fun a hat => ?_
  refine hold_region_end ?_
  refine hold_seq ?_
  refine hold_seq ?_
  refine hold_region (l := [0,1,2,3]) rfl ?_
  refine h_val noA hbk cNew_2 rfl rfl (by decide) hat (r_move rfl) fun a hat => ?_
  refine h_still hbk cNew_2 rfl (by decide) hat (r_max rfl rfl) fun a hat => ?_
  refine h_still hbk cNew_2 rfl (by decide) hat (r_min rfl rfl) fun a hat => ?_
  refine h_val noA hbk cNew_2 rfl rfl (by decide) hat (r_move rfl) fun a hat => ?_
  refine hold_region_end ?_
  refine hold_block ?_
  refine hold_loop ?_
  rw [← many_is sh] at hat
  have hm := many_le sh
  refine cNew0_loop hbk hm.2 hr (fun v a lv cb hG hSh hat => ?_) (many sh) 0 v a (.slice none 0 0) (fun _ => 0) (by omega) hG ⟨F7, ⟨rfl, .inl ⟨rfl, rfl⟩⟩, ⟨gB7, fun b hb => by cases hb⟩, fun j hj => by omega, fun i j _ hj => by omega⟩ (hat.sub (AtE.cons rfl (AtE.cons rfl (AtE.cons rfl (AtE.cons rfl (AtE.nil))))))
  obtain ⟨gl, capl, curl, rfl, _, hgl, hcap, hcapm, hlsz, hltk⟩ := hSh.l.2.resolve_left (fun h => by have := h.2; omega)
  refine hold_seq ?_
  refine hold_region (l := [0,1]) rfl ?_
  refine h_val noA hbk cNew_6 rfl rfl (by decide) hat (r_move rfl) fun a hat => ?_
  refine h_val noA hbk cNew_6 rfl rfl (by decide) hat (r_assign rfl) fun a hat => ?_
  refine hold_region_end ?_
  refine hold_retd hb hbf cNew_fn hat.defers (ret_one cNew_res hat rfl) ?_
  refine H _ _ gl capl cb hG ⟨hSh.c, ⟨curl, hgl, fun j hj => ?_⟩, fun j x hx => ?_, by simp, hm, fun i j hi hj e => ?_⟩ gB7 (fun j hj => (hSh.cells j hj).1)
  · have h1 : (curl.toList.take (many sh * 1))[j]? = some (.pointer (some ⟨cb j, 0, none⟩)) := by rw [hltk]; simp [hj]
    rw [List.getElem?_take_of_lt (by omega)] at h1
    simpa using h1
  · have hj := (List.getElem?_eq_some_iff.1 hx).1
    have hx0 := List.mem_of_getElem? hx
    simp only [List.mem_replicate] at hx0
    rw [hx0.2]
    exact (hSh.cells j (by simpa using hj)).2
  · rcases Nat.lt_trichotomy i j with h | h | h
    · have := hSh.apart i j h hj; omega
    · exact h
    · have := hSh.apart j i h hi; omega
end
end Go.Proofs.Ytlnjmheocfbimaa

/- CounterAlone: the law's function. -/
namespace Go.Proofs.Ytlnjmheocfbimaa
open Go Go.Conc
theorem getN_low (n : Nat) : getN n 0 32 = n % 4294967296 := by unfold getN; rw [Nat.pow_zero, Nat.div_one]
theorem putN_ver (n y : Nat) : putN n 32 30 y % 4294967296 = n % 4294967296 := by
  unfold putN
  show (n % 4294967296 + y % 1073741824 * 4294967296 + n / 4611686018427387904 * 4611686018427387904) % 4294967296 = n % 4294967296
  omega
theorem putN_amt {n z : Nat} (hz : z < 4294967296) : putN n 0 32 z % 4294967296 = z := by
  unfold putN
  show (n % 1 + z % 4294967296 * 1 + n / 4294967296 * 4294967296) % 4294967296 = z
  omega
theorem wrap_step {g : Nat} (_hg : g < 4294967296) (n : Int) : IntKind.i32.wrap (((g : Int) + n) % 4294967296) = IntKind.i32.wrap (IntKind.i32.wrap g + n.tmod 4294967296) := by
  have := Int.tmod_def n 4294967296
  rw [IntKind.wrap_i32, IntKind.wrap_i32, IntKind.wrap_i32]
  omega
theorem amount_addX (x n : Int) : amount (addX x n) = IntKind.i32.wrap (amount x + n.tmod 4294967296) := by
  have hX := u64_lt x
  have hg : getN (u64 x) 0 32 < 4294967296 := getN_lt _ _ _
  rw [show amount x = IntKind.i32.wrap (getN (u64 x) 0 32 : Nat) from rfl, ← wrap_step hg]
  unfold addX amount
  simp only []
  generalize ((((getN (u64 x) 32 30 : Nat) : Int) + 1) % ((2 ^ 30 : Nat) : Int)).toNat = y
  have hz2 : (((((getN (u64 x) 0 32 : Nat) : Int) + n) % ((2 ^ 32 : Nat) : Int)).toNat : Int) = (((getN (u64 x) 0 32 : Nat) : Int) + n) % 4294967296 := by omega
  generalize (((getN (u64 x) 0 32 : Nat) + n) % ((2 ^ 32 : Nat) : Int)).toNat = z at hz2 ⊢
  have h1 : putN (u64 x) 0 32 z < 2 ^ 64 := putN_lt _ hX (by omega)
  rw [u64_i64 h1]
  have h2 : putN (putN (u64 x) 0 32 z) 32 30 y < 2 ^ 64 := putN_lt _ h1 (by omega)
  rw [u64_i64 h2, getN_low, putN_ver, putN_amt (by omega), ← hz2]
section
variable {S : Addr → Prop} {main : Bool} {Stop : Goroutine → World → Prop} {cs : List Frame} {c : Frame} {v : World}
theorem wrapped_hold {n : Int} (H : Hold Try.prog main S Stop (G (c.finish (.int .i64 (IntKind.i32.wrap n))) cs) v) :
    Hold Try.prog main S Stop (G (Frame.enter Try.prog 10 #[.int .i64 n] .normal) (c :: cs)) v := by
  have h1 := Int.tmod_lt_of_pos n (show (0 : Int) < 4294967296 by omega)
  have h2 : -4294967296 < n.tmod 4294967296 := Int.lt_tmod_of_pos n (by omega)
  have h3 := Int.tmod_def n 4294967296
  generalize n.tdiv 4294967296 = q at h3
  obtain ⟨b, a, hEq, hb, hbf, hat⟩ := enter_is wrapped_fn wrapped_body wrapped_tmps #[.int .i64 n] [(0, .int .i64 n)] rfl (by simp)
  rw [hEq]
  have hbk := not_early hb
  refine hold_unf wrapped_code_def ?_
  refine hold_seq ?_
  refine hold_region (l := [0]) rfl ?_
  refine h_val noA hbk wrapped_0 rfl rfl (by decide) hat (r_assign rfl) fun a hat => ?_
  refine hold_region_end ?_
  refine hold_seq ?_
  refine hold_region (l := [0,1,2]) rfl ?_
  refine h_val noA hbk wrapped_1 rfl rfl (by decide) hat (r_move rfl) fun a hat => ?_
  refine h_val noA hbk wrapped_1 rfl rfl (by decide) hat (r_rem rfl rfl (by omega)) fun a hat => ?_
  generalize n.tmod 4294967296 = r at *
  refine h_val noA hbk wrapped_1 rfl rfl (by decide) hat (r_assign rfl) fun a hat => ?_
  refine hold_region_end ?_
  refine hold_seq ?_
  refine hold_seq ?_
  refine hold_region (l := [0,1]) rfl ?_
  refine h_val noA hbk wrapped_2 rfl rfl (by decide) hat (r_move rfl) fun a hat => ?_
  by_cases ha : r < 0
  · refine h_val noA hbk wrapped_2 rfl rfl (by decide) hat (r_bool (t' := true) (r_lss rfl rfl) (by simp; omega)) fun a hat => ?_
    refine hold_region_end ?_
    refine hold_condT (hat.eval (q := .tmp 6) rfl) rfl ?_
    refine hold_region (l := [0,1,2]) rfl ?_
    refine h_val noA hbk wrapped_3 rfl rfl (by decide) hat (r_move rfl) fun a hat => ?_
    refine h_val noA hbk wrapped_3 rfl rfl (by decide) hat (r_add rfl rfl (by first | omega | (simp; omega))) fun a hat => ?_
    refine h_val noA hbk wrapped_3 rfl rfl (by decide) hat (r_assign rfl) fun a hat => ?_
    refine hold_region_end ?_
    refine hold_seq ?_
    refine hold_seq ?_
    refine hold_region (l := [0,1]) rfl ?_
    refine h_val noA hbk wrapped_4 rfl rfl (by decide) hat (r_move rfl) fun a hat => ?_
    by_cases hb' : r + 4294967296 < 2147483648
    · refine h_val noA hbk wrapped_4 rfl rfl (by decide) hat (r_bool (t' := false) (r_geq rfl rfl) (by simp; omega)) fun a hat => ?_
      refine hold_region_end ?_
      refine hold_condF (hat.eval (q := .tmp 10) rfl) rfl ?_
      refine hold_skip ?_
      refine hold_seq ?_
      refine hold_region (l := [0,1]) rfl ?_
      refine h_val noA hbk wrapped_6 rfl rfl (by decide) hat (r_move rfl) fun a hat => ?_
      refine h_val noA hbk wrapped_6 rfl rfl (by decide) hat (r_assign rfl) fun a hat => ?_
      refine hold_region_end ?_
      refine hold_retd hb hbf wrapped_fn hat.defers (ret_one wrapped_res hat rfl) ?_
      rw [IntKind.wrap_i32] at H
      rw [show r + 4294967296 = (n + 2147483648) % 4294967296 - 2147483648 by omega]
      exact H
    · skip
      refine h_val noA hbk wrapped_4 rfl rfl (by decide) hat (r_bool (t' := true) (r_geq rfl rfl) (by simp; omega)) fun a hat => ?_
      refine hold_region_end ?_
      refine hold_condT (hat.eval (q := .tmp 10) rfl) rfl ?_
      refine hold_region (l := [0,1,2]) rfl ?_
      refine h_val noA hbk wrapped_5 rfl rfl (by decide) hat (r_move rfl) fun a hat => ?_
      refine h_val noA hbk wrapped_5 rfl rfl (by decide) hat (r_sub rfl rfl (by first | omega | (simp; omega))) fun a hat => ?_
      refine h_val noA hbk wrapped_5 rfl rfl (by decide) hat (r_assign rfl) fun a hat => ?_
      refine hold_region_end ?_
      refine hold_seq ?_
      refine hold_region (l := [0,1]) rfl ?_
      refine h_val noA hbk wrapped_6 rfl rfl (by decide) hat (r_move rfl) fun a hat => ?_
      refine h_val noA hbk wrapped_6 rfl rfl (by decide) hat (r_assign rfl) fun a hat => ?_
      refine hold_region_end ?_
      refine hold_retd hb hbf wrapped_fn hat.defers (ret_one wrapped_res hat rfl) ?_
      rw [IntKind.wrap_i32] at H
      rw [show r + 4294967296 - 4294967296 = (n + 2147483648) % 4294967296 - 2147483648 by omega]
      exact H
  · skip
    refine h_val noA hbk wrapped_2 rfl rfl (by decide) hat (r_bool (t' := false) (r_lss rfl rfl) (by simp; omega)) fun a hat => ?_
    refine hold_region_end ?_
    refine hold_condF (hat.eval (q := .tmp 6) rfl) rfl ?_
    refine hold_skip ?_
    refine hold_seq ?_
    refine hold_seq ?_
    refine hold_region (l := [0,1]) rfl ?_
    refine h_val noA hbk wrapped_4 rfl rfl (by decide) hat (r_move rfl) fun a hat => ?_
    by_cases hb' : r < 2147483648
    · refine h_val noA hbk wrapped_4 rfl rfl (by decide) hat (r_bool (t' := false) (r_geq rfl rfl) (by simp; omega)) fun a hat => ?_
      refine hold_region_end ?_
      refine hold_condF (hat.eval (q := .tmp 10) rfl) rfl ?_
      refine hold_skip ?_
      refine hold_seq ?_
      refine hold_region (l := [0,1]) rfl ?_
      refine h_val noA hbk wrapped_6 rfl rfl (by decide) hat (r_move rfl) fun a hat => ?_
      refine h_val noA hbk wrapped_6 rfl rfl (by decide) hat (r_assign rfl) fun a hat => ?_
      refine hold_region_end ?_
      refine hold_retd hb hbf wrapped_fn hat.defers (ret_one wrapped_res hat rfl) ?_
      rw [IntKind.wrap_i32] at H
      rw [show r = (n + 2147483648) % 4294967296 - 2147483648 by omega]
      exact H
    · skip
      refine h_val noA hbk wrapped_4 rfl rfl (by decide) hat (r_bool (t' := true) (r_geq rfl rfl) (by simp; omega)) fun a hat => ?_
      refine hold_region_end ?_
      refine hold_condT (hat.eval (q := .tmp 10) rfl) rfl ?_
      refine hold_region (l := [0,1,2]) rfl ?_
      refine h_val noA hbk wrapped_5 rfl rfl (by decide) hat (r_move rfl) fun a hat => ?_
      refine h_val noA hbk wrapped_5 rfl rfl (by decide) hat (r_sub rfl rfl (by first | omega | (simp; omega))) fun a hat => ?_
      refine h_val noA hbk wrapped_5 rfl rfl (by decide) hat (r_assign rfl) fun a hat => ?_
      refine hold_region_end ?_
      refine hold_seq ?_
      refine hold_region (l := [0,1]) rfl ?_
      refine h_val noA hbk wrapped_6 rfl rfl (by decide) hat (r_move rfl) fun a hat => ?_
      refine h_val noA hbk wrapped_6 rfl rfl (by decide) hat (r_assign rfl) fun a hat => ?_
      refine hold_region_end ?_
      refine hold_retd hb hbf wrapped_fn hat.defers (ret_one wrapped_res hat rfl) ?_
      rw [IntKind.wrap_i32] at H
      rw [show r - 4294967296 = (n + 2147483648) % 4294967296 - 2147483648 by omega]
      exact H
/-- A slice of ints, as it reads. -/
def IntsAt (v : World) (sv : Value) (A : List Int) : Prop :=
  ∃ ad cp, sv = .slice ad A.length cp ∧ ∀ (i : Nat) (x : Int), A[i]? = some x → ∃ B O, ad = some ⟨B, O, none⟩ ∧ v.cell? ⟨B, O + i, none⟩ = some (.int .i64 x)
theorem IntsAt.grow {v' : World} {sv : Value} {A : List Int} (h : IntsAt v sv A) (g : Grow v v') : IntsAt v' sv A := by
  obtain ⟨ad, cp, h1, h2⟩ := h
  exact ⟨ad, cp, h1, fun i x hx => by obtain ⟨B, O, e1, e2⟩ := h2 i x hx; exact ⟨B, O, e1, grow_cell g e2⟩⟩
theorem sum_take {am : List Int} {j : Nat} {y : Int} (h : am[j]? = some y) : (am.take (j + 1)).sum = (am.take j).sum + y := by
  rw [take_snoc h]; simp
theorem AloneK_loop {b : Frame} (hbk : b.kind ≠ .early) {k : List Item} {C ga m T i : Nat} {sA sW : Value} {xs : List Int} (hm : m ≤ 16) (hxl : xs.length = m) (FA : v.heap[ga]? = some (.cells (ints (xs.map amount)).toArray 3 (0, 0)))
    (H : ∀ a, AtE 90 [] [(14, .int .i64 (sumOf xs)), (13, .pointer (some ⟨T, 0, none⟩)), (11, .int .i64 i), (10, .slice (some ⟨ga, 0, none⟩) m m), (9, .int .i64 m), (8, .pointer (some ⟨C, 0, none⟩)), (2, sW), (1, sA)] a → Hold Try.prog main S Stop (G (b.at a k) cs) v) :
    ∀ (r j : Nat) (a : Act), j + r = m →
      AtE 90 [] [(15, .int .i64 j), (14, .int .i64 (sumOf (xs.take j))), (13, .pointer (some ⟨T, 0, none⟩)), (11, .int .i64 i), (10, .slice (some ⟨ga, 0, none⟩) m m), (9, .int .i64 m), (8, .pointer (some ⟨C, 0, none⟩)), (2, sW), (1, sA)] a → Hold Try.prog main S Stop (G (b.at a (.code Alone_L1 :: .inLoop Alone_L1 :: .inBlock 2 :: k)) cs) v := by
  intro r
  induction r with
  | zero =>
    intro j a hj hat
    refine hold_unf Alone_L1_def ?_
    refine hold_seq ?_
    refine hold_seq ?_
    refine hold_region (l := [0,1,2]) rfl ?_
    refine h_val noA hbk Alone_17 rfl rfl (by decide) hat (r_move rfl) fun a hat => ?_
    refine h_val noA hbk Alone_17 rfl rfl (by decide) hat (r_move rfl) fun a hat => ?_
    refine h_val noA hbk Alone_17 rfl rfl (by decide) hat (r_bool (t' := false) (r_lss rfl rfl) (by first | (simp; omega) | (simp; done) | (simp_all; done) | (simp_all; omega))) fun a hat => ?_
    refine hold_region_end ?_
    refine hold_condF (hat.eval (q := .tmp 75) rfl) rfl ?_
    refine hold_exit (k' := _) rfl ?_
    have e : xs.take j = xs := List.take_of_length_le (by omega)
    rw [e] at hat
    exact H a (hat.sub (AtE.cons rfl (AtE.cons rfl (AtE.cons rfl (AtE.cons rfl (AtE.cons rfl (AtE.cons rfl (AtE.cons rfl (AtE.cons rfl (AtE.nil))))))))))
  | succ r ih =>
    intro j a hj hat
    obtain ⟨x, hx⟩ : ∃ x, xs[j]? = some x := ⟨xs[j]'(by omega), by simp⟩
    have h1 := sumOf_range (xs.take j)
    have h2 := amount_range x
    have h3 : (xs.take j).length = j := by simp; omega
    rw [h3] at h1
    have hsn : sumOf (xs.take (j + 1)) = sumOf (xs.take j) + amount x := by rw [← sumOf_snoc, take_snoc hx]
    refine hold_unf Alone_L1_def ?_
    refine hold_seq ?_
    refine hold_seq ?_
    refine hold_region (l := [0,1,2]) rfl ?_
    refine h_val noA hbk Alone_17 rfl rfl (by decide) hat (r_move rfl) fun a hat => ?_
    refine h_val noA hbk Alone_17 rfl rfl (by decide) hat (r_move rfl) fun a hat => ?_
    refine h_val noA hbk Alone_17 rfl rfl (by decide) hat (r_bool (t' := true) (r_lss rfl rfl) (by first | (simp; omega) | (simp; done) | (simp_all; done) | (simp_all; omega))) fun a hat => ?_
    refine hold_region_end ?_
    refine hold_condT (hat.eval (q := .tmp 75) rfl) rfl ?_
    refine hold_skip ?_
    refine hold_seq ?_
    refine hold_block ?_
    refine hold_region (l := [0,1,2,3,4,5,6]) rfl ?_
    refine h_val noA hbk Alone_18 rfl rfl (by decide) hat (r_move rfl) fun a hat => ?_
    refine h_val noA hbk Alone_18 rfl rfl (by decide) hat (r_move rfl) fun a hat => ?_
    refine h_val noA hbk Alone_18 rfl rfl (by decide) hat (r_move rfl) fun a hat => ?_
    refine h_val noA hbk Alone_18 rfl rfl (by decide) hat (r_index ix_22 rfl rfl (by omega) (by omega)) fun a hat => ?_
    have hce : v.cell? ⟨ga, 0 + (j : Int).toNat * 1, none⟩ = some (.int .i64 (amount x)) := by
      rw [cell_at' FA, show 0 + (j : Int).toNat * 1 = j from by omega]; simp [ints, hx]
    refine h_val noA hbk Alone_18 rfl rfl (by decide) hat (r_load ld_3 rfl hce) fun a hat => ?_
    refine h_val noA hbk Alone_18 rfl rfl (by decide) hat (r_add rfl rfl (by first | omega | (simp; omega))) fun a hat => ?_
    refine h_val noA hbk Alone_18 rfl rfl (by decide) hat (r_assign rfl) fun a hat => ?_
    refine hold_region_end ?_
    refine hold_inBlock ?_
    refine hold_region (l := [0,1,2]) rfl ?_
    refine h_val noA hbk Alone_19 rfl rfl (by decide) hat (r_move rfl) fun a hat => ?_
    refine h_val noA hbk Alone_19 rfl rfl (by decide) hat (r_add rfl rfl (by first | omega | (simp; omega))) fun a hat => ?_
    refine h_val noA hbk Alone_19 rfl rfl (by decide) hat (r_assign rfl) fun a hat => ?_
    refine hold_region_end ?_
    refine hold_inLoop ?_
    refine ih (j + 1) _ (by omega) ?_
    rw [hsn]
    exact hat.sub (AtE.cons rfl (AtE.cons rfl (AtE.cons rfl (AtE.cons rfl (AtE.cons rfl (AtE.cons rfl (AtE.cons rfl (AtE.cons rfl (AtE.cons rfl (AtE.nil))))))))))
end
end Go.Proofs.Ytlnjmheocfbimaa

/- CounterAlone: the law's function, its loop. -/
namespace Go.Proofs.Ytlnjmheocfbimaa
open Go Go.Conc
theorem Grow.trans2 {u v w : World} {X : Nat → Prop} (h : Grow u v) (g : Mods X v w) (hx : ∀ b, b < u.heap.size → ¬ X b) : Grow u w :=
  ⟨Nat.le_trans h.size g.size, fun b hb => (g.same b (Nat.lt_of_lt_of_le hb h.size) (hx b hb)).trans (h.same b hb), fun r => g.ready (h.ready r)⟩
theorem row_set {xs : List Int} {j : Nat} {x n : Int} (_hx : xs[j]? = some x) : (ints (xs.map amount)).toArray.setIfInBounds j (.int .i64 (IntKind.i32.wrap (amount x + n.tmod 4294967296))) = (ints ((xs.set j (addX x n)).map amount)).toArray := by
  rw [← amount_addX, List.setIfInBounds_toArray]
  unfold ints
  rw [List.map_set, List.map_set]
theorem FreeC.other {v v' : World} {C g m cap ga : Nat} {cb : Nat → Nat} {xs : List Int} {o : Obj} {arr : Array Value} {fr : Nat × Nat} (h : FreeC v C g m cap cb xs) (hga : v.heap[ga]? = some (.cells arr 3 fr)) (hP : Puts v v' ga o) : FreeC v' C g m cap cb xs := by
  obtain ⟨cur, h1, h2⟩ := h.g
  exact ⟨hP.keep (ne_of_types h.c hga (by decide)) h.c, ⟨cur, hP.keep (ne_of_types h1 hga (by decide)) h1, h2⟩, fun j x hx => hP.keep (ne_of_types (h.cells j x hx) hga (by decide)) (h.cells j x hx), h.len, h.bnd, h.inj⟩
section
variable {S : Addr → Prop} {main : Bool} {Stop : Goroutine → World → Prop} {cs : List Frame}
theorem Alone_loop {b : Frame} (hbk : b.kind ≠ .early) {k : List Item} {C g cap ga m : Nat} {cb : Nat → Nat} {sA sW : Value} {A Wh : List Int} {u : World} (hA : IntsAt u sA A) (hW : IntsAt u sW Wh) (hAl : A.length ≤ 9223372036854775807) (hWl : Wh.length ≤ 9223372036854775807) (hcb : ∀ j, j < m → u.heap.size ≤ cb j) (hga : u.heap.size ≤ ga)
    (H : ∀ v a, Grow u v → AtE 90 [] [] a → Hold Try.prog main S Stop (G (b.at a k) cs) v) :
    ∀ (r i : Nat) (v : World) (a : Act) (xs : List Int), i + r = A.length → Grow u v → FreeC v C g m cap cb xs → v.heap[ga]? = some (.cells (ints (xs.map amount)).toArray 3 (0, 0)) →
      AtE 90 [] [(11, .int .i64 i), (10, .slice (some ⟨ga, 0, none⟩) m m), (9, .int .i64 m), (8, .pointer (some ⟨C, 0, none⟩)), (2, sW), (1, sA)] a → Hold Try.prog main S Stop (G (b.at a (.code Alone_L0 :: .inLoop Alone_L0 :: .inBlock 0 :: k)) cs) v := by
  obtain ⟨adA, cpA, rfl, hA2⟩ := hA
  obtain ⟨adW, cpW, rfl, hW2⟩ := hW
  intro r
  induction r with
  | zero =>
    intro i v a xs hi hG hFC FA hat
    refine hold_unf Alone_L0_def ?_
    refine hold_seq ?_
    refine hold_seq ?_
    refine hold_region (l := [0,1,2,3]) rfl ?_
    refine h_val noA hbk Alone_8 rfl rfl (by decide) hat (r_move rfl) fun a hat => ?_
    refine h_val noA hbk Alone_8 rfl rfl (by decide) hat (r_move rfl) fun a hat => ?_
    refine h_val noA hbk Alone_8 rfl rfl (by decide) hat (r_len lk_22 rfl) fun a hat => ?_
    refine h_val noA hbk Alone_8 rfl rfl (by decide) hat (r_bool (t' := false) (r_lss rfl rfl) (by first | (simp; omega) | (simp; done) | (simp_all; done) | (simp_all; omega))) fun a hat => ?_
    refine hold_region_end ?_
    refine hold_condF (hat.eval (q := .tmp 34) rfl) rfl ?_
    refine hold_exit (k' := _) rfl ?_
    exact H v a hG (hat.sub (AtE.nil))
  | succ r ih =>
    intro i v a xs hi hG hFC FA hat
    obtain ⟨hm1, hm2⟩ := hFC.bnd
    have hxl := hFC.len
    obtain ⟨nA, hnA⟩ : ∃ n, A[i]? = some n := ⟨A[i]'(by omega), by simp⟩
    obtain ⟨BA, OA, rfl, hAi⟩ := hA2 i nA hnA
    refine hold_unf Alone_L0_def ?_
    refine hold_seq ?_
    refine hold_seq ?_
    refine hold_region (l := [0,1,2,3]) rfl ?_
    refine h_val noA hbk Alone_8 rfl rfl (by decide) hat (r_move rfl) fun a hat => ?_
    refine h_val noA hbk Alone_8 rfl rfl (by decide) hat (r_move rfl) fun a hat => ?_
    refine h_val noA hbk Alone_8 rfl rfl (by decide) hat (r_len lk_22 rfl) fun a hat => ?_
    refine h_val noA hbk Alone_8 rfl rfl (by decide) hat (r_bool (t' := true) (r_lss rfl rfl) (by first | (simp; omega) | (simp; done) | (simp_all; done) | (simp_all; omega))) fun a hat => ?_
    refine hold_region_end ?_
    refine hold_condT (hat.eval (q := .tmp 34) rfl) rfl ?_
    refine hold_skip ?_
    refine hold_seq ?_
    refine hold_block ?_
    refine hold_seq ?_
    refine hold_region (l := [0]) rfl ?_
    refine h_val noA hbk Alone_9 rfl rfl (by decide) hat (r_assign rfl) fun a hat => ?_
    refine hold_region_end ?_
    refine hold_seq ?_
    refine hold_seq ?_
    refine hold_region (l := [0,1,2,3]) rfl ?_
    refine h_val noA hbk Alone_10 rfl rfl (by decide) hat (r_move rfl) fun a hat => ?_
    refine h_val noA hbk Alone_10 rfl rfl (by decide) hat (r_move rfl) fun a hat => ?_
    refine h_val noA hbk Alone_10 rfl rfl (by decide) hat (r_len lk_22 rfl) fun a hat => ?_
    by_cases hw : i < Wh.length
    · obtain ⟨nW, hnW⟩ : ∃ n, Wh[i]? = some n := ⟨Wh[i]'hw, by simp⟩
      obtain ⟨BW, OW, rfl, hWi⟩ := hW2 i nW hnW
      have hWc := grow_cell hG hWi
      obtain ⟨idn, hid⟩ : ∃ idn : Nat, nW % ((2 ^ 8 : Nat) : Int) = idn := ⟨(nW % ((2 ^ 8 : Nat) : Int)).toNat, by omega⟩
      have hjm : idn % m < m := Nat.mod_lt _ hm1
      obtain ⟨x, hx⟩ : ∃ x, xs[idn % m]? = some x := ⟨xs[idn % m]'(by omega), by simp⟩
      have htm : ((idn : Nat) : Int).tmod (m : Int) = ((idn % m : Nat) : Int) := rfl
      have har := amount_range x
      have ht1 := Int.tmod_lt_of_pos nA (show (0 : Int) < 4294967296 by omega)
      have ht2 : -4294967296 < nA.tmod 4294967296 := Int.lt_tmod_of_pos nA (by omega)
      refine h_val noA hbk Alone_10 rfl rfl (by decide) hat (r_bool (t' := true) (r_lss rfl rfl) (by simp; omega)) fun a hat => ?_
      refine hold_region_end ?_
      refine hold_condT (hat.eval (q := .tmp 40) rfl) rfl ?_
      refine hold_region (l := [0,1,2,3,4,5]) rfl ?_
      refine h_val noA hbk Alone_11 rfl rfl (by decide) hat (r_move rfl) fun a hat => ?_
      refine h_val noA hbk Alone_11 rfl rfl (by decide) hat (r_move rfl) fun a hat => ?_
      refine h_val noA hbk Alone_11 rfl rfl (by decide) hat (r_index ix_22 rfl rfl (by omega) (by omega)) fun a hat => ?_
      refine h_val noA hbk Alone_11 rfl rfl (by decide) hat (r_load ld_3 rfl (by simpa using hWc)) fun a hat => ?_
      refine h_val noA hbk Alone_11 rfl rfl (by decide) hat (r_int (r_andw rfl rfl) ((maskI (v := nW) (b := 8) (by decide)).trans hid)) fun a hat => ?_
      refine h_val noA hbk Alone_11 rfl rfl (by decide) hat (r_assign rfl) fun a hat => ?_
      refine hold_region_end ?_
      refine hold_seq ?_
      refine hold_region (l := [0,1,2]) rfl ?_
      refine h_val noA hbk Alone_12 rfl rfl (by decide) hat (r_move rfl) fun a hat => ?_
      refine h_callc hbk Alone_12 rfl (by decide) hat Free_fn Free_bd Free_nm (vals := #[_]) rfl fun c hc => ?_
      refine Free_hold fun v T hgF hTlo FT => ?_
      replace hG := hG.trans hgF
      replace FA := hgF.at FA
      replace hFC := hFC.grow hgF
      refine hold_fin hc fun a hat => ?_
      refine h_val noA hbk Alone_12 rfl rfl (by decide) hat (r_assign rfl) fun a hat => ?_
      refine hold_region_end ?_
      refine hold_seq ?_
      refine hold_region (l := [0,1,2,3,4,5,6]) rfl ?_
      refine h_val noA hbk Alone_13 rfl rfl (by decide) hat (r_move rfl) fun a hat => ?_
      refine h_val noA hbk Alone_13 rfl rfl (by decide) hat (r_move rfl) fun a hat => ?_
      refine h_val noA hbk Alone_13 rfl rfl (by decide) hat (r_move rfl) fun a hat => ?_
      refine h_val noA hbk Alone_13 rfl rfl (by decide) hat (r_move rfl) fun a hat => ?_
      refine h_val noA hbk Alone_13 rfl rfl (by decide) hat (r_index ix_22 rfl rfl (by omega) (by omega)) fun a hat => ?_
      have hAc := grow_cell hG hAi
      refine h_val noA hbk Alone_13 rfl rfl (by decide) hat (r_load ld_3 rfl (by simpa using hAc)) fun a hat => ?_
      refine h_callc hbk Alone_13 rfl (by decide) hat Add_fn Add_bd Add_nm (vals := #[_, _, _]) rfl fun c hc => ?_
      refine AddF_hold hFC FT hx fun v hM hFC' => ?_
      have hne : ga ≠ cb (idn % m) := ne_of_types FA (hFC.cells _ x hx) (by decide)
      replace FA := hM.at hne FA
      replace FT := hM.at (ne_of_types FT (hFC.cells _ x hx) (by decide)) FT
      replace hG := hG.trans2 hM (fun b hb e => by have := hcb _ hjm; omega)
      replace hAc := grow_cell hG hAi
      refine hold_fin hc fun a hat => ?_
      refine hold_region_end ?_
      refine hold_seq ?_
      refine hold_draw3 (ord := [0,1,2,3,4,5,6,7,8,9,10,11,12,13,14,15,16,17,18]) (bigs := [18]) mixed_ok (by kernel_rfl) (by kernel_rfl) hat ?_
      refine tx_val noA hbk Alone_14 rfl rfl (by decide) rfl (fun v hv => (r_move rfl)) ?_
      refine tx_val noA hbk Alone_14 rfl rfl (by decide) rfl (fun v hv => (r_move rfl)) ?_
      refine tx_val noA hbk Alone_14 rfl rfl (by decide) rfl (fun v hv => (r_move rfl)) ?_
      refine tx_val noA hbk Alone_14 rfl rfl (by decide) rfl (fun v hv => (r_int (r_rem rfl rfl (by omega)) htm)) ?_
      refine tx_val noA hbk Alone_14 rfl rfl (by decide) rfl (fun v hv => (r_move rfl)) ?_
      refine tx_val noA hbk Alone_14 rfl rfl (by decide) rfl (fun v hv => (r_move rfl)) ?_
      refine tx_val noA hbk Alone_14 rfl rfl (by decide) rfl (fun v hv => (r_move rfl)) ?_
      refine tx_val noA hbk Alone_14 rfl rfl (by decide) rfl (fun v hv => (r_int (r_rem rfl rfl (by omega)) htm)) ?_
      refine tx_val noA hbk Alone_14 rfl rfl (by decide) rfl (fun v hv => (r_index ix_22 rfl rfl (by omega) (by omega))) ?_
      have hce : v.cell? ⟨ga, 0 + ((idn % m : Nat) : Int).toNat * 1, none⟩ = some (.int .i64 (amount x)) := by
        rw [cell_at' FA, show 0 + ((idn % m : Nat) : Int).toNat * 1 = idn % m from by omega]; simp [ints, hx]
      refine tx_val noA hbk Alone_14 rfl rfl (by decide) rfl (fun v hv => (r_load ld_3 rfl (grow_cell hv hce))) ?_
      refine tx_val noA hbk Alone_14 rfl rfl (by decide) rfl (fun v hv => (r_move rfl)) ?_
      refine tx_val noA hbk Alone_14 rfl rfl (by decide) rfl (fun v hv => (r_move rfl)) ?_
      refine tx_val noA hbk Alone_14 rfl rfl (by decide) rfl (fun v hv => (r_index ix_22 rfl rfl (by omega) (by omega))) ?_
      refine tx_val noA hbk Alone_14 rfl rfl (by decide) rfl (fun v hv => (r_load ld_3 rfl (by simpa using grow_cell hv hAc))) ?_
      refine tx_val noA hbk Alone_14 rfl rfl (by decide) rfl (fun v hv => (r_rem rfl rfl (by omega))) ?_
      refine tx_val noA hbk Alone_14 rfl rfl (by decide) rfl (fun v hv => (r_add rfl rfl (by first | omega | (simp; omega)))) ?_
      refine tx_call hbk Alone_14 rfl (by decide) rfl wrapped_fn wrapped_bd wrapped_nm (vals := #[_]) rfl (fun v c cs hv K => wrapped_hold (K _ (Grow.refl _))) ?_
      refine tx_val noA hbk Alone_14 rfl rfl (by decide) rfl (fun v hv => (r_index ix_22 rfl rfl (by omega) (by omega))) ?_
      refine tx_put noA hbk Alone_14 rfl rfl rfl (by kernel_rfl) (fun v1 hv1 => p_store st_3 rfl rfl rfl (hv1.at FA) (x := .int .i64 (amount x)) (by rw [show 0 + ((idn % m : Nat) : Int).toNat * 1 = idn % m from by omega]; simp [ints, hx]) rfl) fun v1 v hv1 hP => ?_
      refine tx_end fun v a hv hat => ?_
      refine hold_region_end ?_
      refine hold_seq ?_
      refine hold_region (l := [0]) rfl ?_
      refine h_val noA hbk Alone_15 rfl rfl (by decide) hat (r_assign rfl) fun a hat => ?_
      refine hold_region_end ?_
      refine hold_seq ?_
      refine hold_seq ?_
      refine hold_region (l := [0]) rfl ?_
      refine h_val noA hbk Alone_16 rfl rfl (by decide) hat (r_assign rfl) fun a hat => ?_
      refine hold_region_end ?_
      refine hold_block ?_
      have hoff : 0 + ((idn % m : Nat) : Int).toNat * 1 = idn % m := by omega
      have FA2 := hv.at hP.at_
      rw [hoff, row_set hx] at FA2
      have hFC2 := ((hFC'.grow hv1).other (hv1.at FA) hP).grow hv
      have FT2 : FreeT v T idn := hv.at (hP.keep (ne_of_types (hv1.at FT) (hv1.at FA) (by decide)) (hv1.at FT))
      replace hG := ((hG.trans hv1).put hP hga).trans hv
      refine hold_loop ?_
      refine AloneK_loop hbk hm2 (by simp [hxl]) FA2 (i := i) (fun a hat => ?_) m 0 _ (by omega) (hat.sub (AtE.cons rfl (AtE.cons rfl (AtE.cons rfl (AtE.cons rfl (AtE.cons rfl (AtE.cons rfl (AtE.cons rfl (AtE.cons rfl (AtE.cons rfl (AtE.nil)))))))))))
      refine hold_seq ?_
      refine hold_region (l := [0,1,2,3]) rfl ?_
      refine h_val noA hbk Alone_20 rfl rfl (by decide) hat (r_move rfl) fun a hat => ?_
      refine h_val noA hbk Alone_20 rfl rfl (by decide) hat (r_move rfl) fun a hat => ?_
      refine h_callc hbk Alone_20 rfl (by decide) hat Sum_fn Sum_bd Sum_nm (vals := #[_, _]) rfl fun c hc => ?_
      refine SumFree_hold hFC2 FT2 fun v hg => ?_
      refine hold_fin hc fun a hat => ?_
      refine h_val noA hbk Alone_20 rfl rfl (by decide) hat (r_assign rfl) fun a hat => ?_
      refine hold_region_end ?_
      refine hold_seq ?_
      refine hold_region (l := [0,1,2]) rfl ?_
      refine h_val noA hbk Alone_21 rfl rfl (by decide) hat (r_move rfl) fun a hat => ?_
      refine h_val noA hbk Alone_21 rfl rfl (by decide) hat (r_move rfl) fun a hat => ?_
      refine h_val noA hbk Alone_21 rfl (opOk_eq (by kernel_rfl)) (by decide) hat (r_bool (t' := false) (r_neq rfl rfl) (by simp)) fun a hat => ?_
      refine hold_region_end ?_
      refine hold_condF (hat.eval (q := .tmp 89) rfl) rfl ?_
      refine hold_skip ?_
      refine hold_inBlock ?_
      refine hold_region (l := [0,1,2]) rfl ?_
      refine h_val noA hbk Alone_23 rfl rfl (by decide) hat (r_move rfl) fun a hat => ?_
      refine h_val noA hbk Alone_23 rfl rfl (by decide) hat (r_add rfl rfl (by first | omega | (simp; omega))) fun a hat => ?_
      refine h_val noA hbk Alone_23 rfl rfl (by decide) hat (r_assign rfl) fun a hat => ?_
      refine hold_region_end ?_
      refine hold_inLoop ?_
      exact ih (i + 1) _ _ (xs.set (idn % m) (addX x nA)) (by omega) (hG.trans hg) (hFC2.grow hg) (hg.at FA2) (hat.sub (AtE.cons rfl (AtE.cons rfl (AtE.cons rfl (AtE.cons rfl (AtE.cons rfl (AtE.cons rfl (AtE.nil))))))))
    · skip
      obtain ⟨idn, hid⟩ : ∃ idn : Nat, (0 : Int) = idn := ⟨0, rfl⟩
      have hjm : idn % m < m := Nat.mod_lt _ hm1
      obtain ⟨x, hx⟩ : ∃ x, xs[idn % m]? = some x := ⟨xs[idn % m]'(by omega), by simp⟩
      have htm : ((idn : Nat) : Int).tmod (m : Int) = ((idn % m : Nat) : Int) := rfl
      have har := amount_range x
      have ht1 := Int.tmod_lt_of_pos nA (show (0 : Int) < 4294967296 by omega)
      have ht2 : -4294967296 < nA.tmod 4294967296 := Int.lt_tmod_of_pos nA (by omega)
      refine h_val noA hbk Alone_10 rfl rfl (by decide) hat (r_bool (t' := false) (r_lss rfl rfl) (by simp; omega)) fun a hat => ?_
      refine hold_region_end ?_
      refine hold_condF (hat.eval (q := .tmp 40) rfl) rfl ?_
      refine hold_skip ?_
      refine hold_seq ?_
      refine hold_region (l := [0,1,2]) rfl ?_
      rw [hid] at hat
      refine h_val noA hbk Alone_12 rfl rfl (by decide) hat (r_move rfl) fun a hat => ?_
      refine h_callc hbk Alone_12 rfl (by decide) hat Free_fn Free_bd Free_nm (vals := #[_]) rfl fun c hc => ?_
      refine Free_hold fun v T hgF hTlo FT => ?_
      replace hG := hG.trans hgF
      replace FA := hgF.at FA
      replace hFC := hFC.grow hgF
      refine hold_fin hc fun a hat => ?_
      refine h_val noA hbk Alone_12 rfl rfl (by decide) hat (r_assign rfl) fun a hat => ?_
      refine hold_region_end ?_
      refine hold_seq ?_
      refine hold_region (l := [0,1,2,3,4,5,6]) rfl ?_
      refine h_val noA hbk Alone_13 rfl rfl (by decide) hat (r_move rfl) fun a hat => ?_
      refine h_val noA hbk Alone_13 rfl rfl (by decide) hat (r_move rfl) fun a hat => ?_
      refine h_val noA hbk Alone_13 rfl rfl (by decide) hat (r_move rfl) fun a hat => ?_
      refine h_val noA hbk Alone_13 rfl rfl (by decide) hat (r_move rfl) fun a hat => ?_
      refine h_val noA hbk Alone_13 rfl rfl (by decide) hat (r_index ix_22 rfl rfl (by omega) (by omega)) fun a hat => ?_
      have hAc := grow_cell hG hAi
      refine h_val noA hbk Alone_13 rfl rfl (by decide) hat (r_load ld_3 rfl (by simpa using hAc)) fun a hat => ?_
      refine h_callc hbk Alone_13 rfl (by decide) hat Add_fn Add_bd Add_nm (vals := #[_, _, _]) rfl fun c hc => ?_
      refine AddF_hold hFC FT hx fun v hM hFC' => ?_
      have hne : ga ≠ cb (idn % m) := ne_of_types FA (hFC.cells _ x hx) (by decide)
      replace FA := hM.at hne FA
      replace FT := hM.at (ne_of_types FT (hFC.cells _ x hx) (by decide)) FT
      replace hG := hG.trans2 hM (fun b hb e => by have := hcb _ hjm; omega)
      replace hAc := grow_cell hG hAi
      refine hold_fin hc fun a hat => ?_
      refine hold_region_end ?_
      refine hold_seq ?_
      refine hold_draw3 (ord := [0,1,2,3,4,5,6,7,8,9,10,11,12,13,14,15,16,17,18]) (bigs := [18]) mixed_ok (by kernel_rfl) (by kernel_rfl) hat ?_
      refine tx_val noA hbk Alone_14 rfl rfl (by decide) rfl (fun v hv => (r_move rfl)) ?_
      refine tx_val noA hbk Alone_14 rfl rfl (by decide) rfl (fun v hv => (r_move rfl)) ?_
      refine tx_val noA hbk Alone_14 rfl rfl (by decide) rfl (fun v hv => (r_move rfl)) ?_
      refine tx_val noA hbk Alone_14 rfl rfl (by decide) rfl (fun v hv => (r_int (r_rem rfl rfl (by omega)) htm)) ?_
      refine tx_val noA hbk Alone_14 rfl rfl (by decide) rfl (fun v hv => (r_move rfl)) ?_
      refine tx_val noA hbk Alone_14 rfl rfl (by decide) rfl (fun v hv => (r_move rfl)) ?_
      refine tx_val noA hbk Alone_14 rfl rfl (by decide) rfl (fun v hv => (r_move rfl)) ?_
      refine tx_val noA hbk Alone_14 rfl rfl (by decide) rfl (fun v hv => (r_int (r_rem rfl rfl (by omega)) htm)) ?_
      refine tx_val noA hbk Alone_14 rfl rfl (by decide) rfl (fun v hv => (r_index ix_22 rfl rfl (by omega) (by omega))) ?_
      have hce : v.cell? ⟨ga, 0 + ((idn % m : Nat) : Int).toNat * 1, none⟩ = some (.int .i64 (amount x)) := by
        rw [cell_at' FA, show 0 + ((idn % m : Nat) : Int).toNat * 1 = idn % m from by omega]; simp [ints, hx]
      refine tx_val noA hbk Alone_14 rfl rfl (by decide) rfl (fun v hv => (r_load ld_3 rfl (grow_cell hv hce))) ?_
      refine tx_val noA hbk Alone_14 rfl rfl (by decide) rfl (fun v hv => (r_move rfl)) ?_
      refine tx_val noA hbk Alone_14 rfl rfl (by decide) rfl (fun v hv => (r_move rfl)) ?_
      refine tx_val noA hbk Alone_14 rfl rfl (by decide) rfl (fun v hv => (r_index ix_22 rfl rfl (by omega) (by omega))) ?_
      refine tx_val noA hbk Alone_14 rfl rfl (by decide) rfl (fun v hv => (r_load ld_3 rfl (by simpa using grow_cell hv hAc))) ?_
      refine tx_val noA hbk Alone_14 rfl rfl (by decide) rfl (fun v hv => (r_rem rfl rfl (by omega))) ?_
      refine tx_val noA hbk Alone_14 rfl rfl (by decide) rfl (fun v hv => (r_add rfl rfl (by first | omega | (simp; omega)))) ?_
      refine tx_call hbk Alone_14 rfl (by decide) rfl wrapped_fn wrapped_bd wrapped_nm (vals := #[_]) rfl (fun v c cs hv K => wrapped_hold (K _ (Grow.refl _))) ?_
      refine tx_val noA hbk Alone_14 rfl rfl (by decide) rfl (fun v hv => (r_index ix_22 rfl rfl (by omega) (by omega))) ?_
      refine tx_put noA hbk Alone_14 rfl rfl rfl (by kernel_rfl) (fun v1 hv1 => p_store st_3 rfl rfl rfl (hv1.at FA) (x := .int .i64 (amount x)) (by rw [show 0 + ((idn % m : Nat) : Int).toNat * 1 = idn % m from by omega]; simp [ints, hx]) rfl) fun v1 v hv1 hP => ?_
      refine tx_end fun v a hv hat => ?_
      refine hold_region_end ?_
      refine hold_seq ?_
      refine hold_region (l := [0]) rfl ?_
      refine h_val noA hbk Alone_15 rfl rfl (by decide) hat (r_assign rfl) fun a hat => ?_
      refine hold_region_end ?_
      refine hold_seq ?_
      refine hold_seq ?_
      refine hold_region (l := [0]) rfl ?_
      refine h_val noA hbk Alone_16 rfl rfl (by decide) hat (r_assign rfl) fun a hat => ?_
      refine hold_region_end ?_
      refine hold_block ?_
      have hoff : 0 + ((idn % m : Nat) : Int).toNat * 1 = idn % m := by omega
      have FA2 := hv.at hP.at_
      rw [hoff, row_set hx] at FA2
      have hFC2 := ((hFC'.grow hv1).other (hv1.at FA) hP).grow hv
      have FT2 : FreeT v T idn := hv.at (hP.keep (ne_of_types (hv1.at FT) (hv1.at FA) (by decide)) (hv1.at FT))
      replace hG := ((hG.trans hv1).put hP hga).trans hv
      refine hold_loop ?_
      refine AloneK_loop hbk hm2 (by simp [hxl]) FA2 (i := i) (fun a hat => ?_) m 0 _ (by omega) (hat.sub (AtE.cons rfl (AtE.cons rfl (AtE.cons rfl (AtE.cons rfl (AtE.cons rfl (AtE.cons rfl (AtE.cons rfl (AtE.cons rfl (AtE.cons rfl (AtE.nil)))))))))))
      refine hold_seq ?_
      refine hold_region (l := [0,1,2,3]) rfl ?_
      refine h_val noA hbk Alone_20 rfl rfl (by decide) hat (r_move rfl) fun a hat => ?_
      refine h_val noA hbk Alone_20 rfl rfl (by decide) hat (r_move rfl) fun a hat => ?_
      refine h_callc hbk Alone_20 rfl (by decide) hat Sum_fn Sum_bd Sum_nm (vals := #[_, _]) rfl fun c hc => ?_
      refine SumFree_hold hFC2 FT2 fun v hg => ?_
      refine hold_fin hc fun a hat => ?_
      refine h_val noA hbk Alone_20 rfl rfl (by decide) hat (r_assign rfl) fun a hat => ?_
      refine hold_region_end ?_
      refine hold_seq ?_
      refine hold_region (l := [0,1,2]) rfl ?_
      refine h_val noA hbk Alone_21 rfl rfl (by decide) hat (r_move rfl) fun a hat => ?_
      refine h_val noA hbk Alone_21 rfl rfl (by decide) hat (r_move rfl) fun a hat => ?_
      refine h_val noA hbk Alone_21 rfl (opOk_eq (by kernel_rfl)) (by decide) hat (r_bool (t' := false) (r_neq rfl rfl) (by simp)) fun a hat => ?_
      refine hold_region_end ?_
      refine hold_condF (hat.eval (q := .tmp 89) rfl) rfl ?_
      refine hold_skip ?_
      refine hold_inBlock ?_
      refine hold_region (l := [0,1,2]) rfl ?_
      refine h_val noA hbk Alone_23 rfl rfl (by decide) hat (r_move rfl) fun a hat => ?_
      refine h_val noA hbk Alone_23 rfl rfl (by decide) hat (r_add rfl rfl (by first | omega | (simp; omega))) fun a hat => ?_
      refine h_val noA hbk Alone_23 rfl rfl (by decide) hat (r_assign rfl) fun a hat => ?_
      refine hold_region_end ?_
      refine hold_inLoop ?_
      exact ih (i + 1) _ _ (xs.set (idn % m) (addX x nA)) (by omega) (hG.trans hg) (hFC2.grow hg) (hg.at FA2) (hat.sub (AtE.cons rfl (AtE.cons rfl (AtE.cons rfl (AtE.cons rfl (AtE.cons rfl (AtE.cons rfl (AtE.nil))))))))
end
end Go.Proofs.Ytlnjmheocfbimaa

/- CounterAlone: the law's function, whole; to the end of the run. -/
namespace Go.Proofs.Ytlnjmheocfbimaa
open Go Go.Conc
theorem stepG_done {P : Program} {b : Frame} {a : Act} {td : List Item} {fn : Func} {t : Tmp} {x : Value} {w : World} (hb : b.kind = .normal) (hf : P.funcs[b.fn]? = some fn) (hi : P.inits.idxOf? b.fn = none) (hd : a.defers = []) (hr : fn.results = #[.tmp t]) (hx : a.tmps.getD t undef = x) :
    stepG P true (G { b.at a td with mode := .returning } []) w = .ended (.done x) w #[] := by
  have e2 : (results fn a.tmps).runT P w #[] = (.ok x w, #[]) := by
    rw [← hx]
    simp [results, hr]
  have hs : seen P b.fn (#[] : Array Event) = #[] := by simp [seen]
  simp only [G, stepG, Frame.at, unwind, hd, hf, e2, doReturn, hb, hi]
  simp [GStep.after, hs]
/-- How the law's run ends. -/
def AlonePost (u W0 : World) (x : Value) (w : World) : Prop := x = .bool true ∧ ∃ v S, Grow u v ∧ Sim false S v w ∧ Shape W0 w
theorem Alone_inits : Try.prog.inits.idxOf? 3 = none := by kernel_rfl
theorem Alone_run {u W0 : World} (hr : Ready0 u) {sh : Int} {sA sW : Value} {A Wh : List Int} (hA : IntsAt u sA A) (hW : IntsAt u sW Wh) (hAl : A.length ≤ 9223372036854775807) (hWl : Wh.length ≤ 9223372036854775807) :
    Run Try.prog (AtDone Try.prog W0 (AlonePost u W0)) S0 0 1 (fun _ => none) (G (Frame.enter Try.prog 3 #[.int .i64 sh, sA, sW] .normal) []) u := by
  refine Run.of_hold ?_
  obtain ⟨b, a, hEq, hb, hbf, hat⟩ := enter_is Alone_fn Alone_body Alone_tmps #[.int .i64 sh, sA, sW] [(0, .int .i64 sh), (1, sA), (2, sW)] rfl (by simp)
  rw [hEq]
  have hbk := not_early hb
  refine hold_unf Alone_code_def ?_
  refine hold_seq ?_
  refine hold_region (l := [0]) rfl ?_
  refine h_val noA hbk Alone_0 rfl rfl (by decide) hat (r_assign rfl) fun a hat => ?_
  refine hold_region_end ?_
  refine hold_seq ?_
  refine hold_region (l := [0,1]) rfl ?_
  refine h_callc hbk Alone_1 rfl (by decide) hat awake_fn awake_bd awake_nm (vals := #[]) rfl fun c hc => ?_
  refine hold_run (awake_run hr (by decide) (fun _ _ => rfl) fun v I' hI' hG => ?_)
  refine Run.of_hold ?_
  refine hold_fin hc fun a hat => ?_
  refine h_val noA hbk Alone_1 rfl rfl (by decide) hat (r_assign rfl) fun a hat => ?_
  refine hold_region_end ?_
  refine hold_seq ?_
  refine hold_region (l := [0,1,2]) rfl ?_
  refine h_val noA hbk Alone_2 rfl rfl (by decide) hat (r_move rfl) fun a hat => ?_
  refine h_callc hbk Alone_2 rfl (by decide) hat cNew_fn cNew_bd cNew_nm (vals := #[_, _]) rfl fun c hc => ?_
  refine cNew0_hold (hG.ready hr) fun v C g cap cb hg1 hFC hC hcb => ?_
  have FC := hFC.c
  refine hold_fin hc fun a hat => ?_
  have hGa := hG
  replace hG := hG.trans hg1
  refine h_val noA hbk Alone_2 rfl rfl (by decide) hat (r_assign rfl) fun a hat => ?_
  refine hold_region_end ?_
  refine hold_seq ?_
  refine hold_seq ?_
  refine hold_region (l := [0,1,2,3,4,5]) rfl ?_
  refine h_val noA hbk Alone_3 rfl rfl (by decide) hat (r_move rfl) fun a hat => ?_
  refine h_val noA hbk Alone_3 rfl rfl (by decide) hat (r_not rfl) fun a hat => ?_
  refine h_val noA hbk Alone_3 rfl rfl (by decide) hat (r_move rfl) fun a hat => ?_
  refine hg_yes noA hbk Alone_3 rfl rfl rfl rfl (by decide) hat (r_move rfl) fun a hat => ?_
  refine hg_yes noA hbk Alone_3 rfl rfl rfl opOk_nil (by decide) hat (r_isnil nk_24 rfl) fun a hat => ?_
  refine h_val noA hbk Alone_3 rfl rfl (by decide) hat (r_pick rfl rfl) fun a hat => ?_
  refine hold_region_end ?_
  refine hold_condF (hat.eval (q := .tmp 25) rfl) rfl ?_
  refine hold_skip ?_
  refine hold_seq ?_
  refine hold_region (l := [0,1,2,3]) rfl ?_
  refine h_val noA hbk Alone_5 rfl rfl (by decide) hat (r_move rfl) fun a hat => ?_
  refine h_still hbk Alone_5 rfl (by decide) hat (r_max rfl rfl) fun a hat => ?_
  refine h_still hbk Alone_5 rfl (by decide) hat (r_min rfl rfl) fun a hat => ?_
  rw [← many_is sh] at hat
  have hm := many_le sh
  refine h_val noA hbk Alone_5 rfl rfl (by decide) hat (r_assign rfl) fun a hat => ?_
  refine hold_region_end ?_
  refine hold_seq ?_
  refine hold_region (l := [0,1,2]) rfl ?_
  refine h_val noA hbk Alone_6 rfl rfl (by decide) hat (r_move rfl) fun a hat => ?_
  refine h_news noA hbk Alone_6 rfl rfl (by decide) hat (r_make Try.underlying22 (z := .int .i64 0) (bytes := 8) (by kernel_rfl) rfl rfl rfl (by omega) (by omega)) fun v a B30 hB30 hsB30 hg F30 hat => ?_
  have n_F30_FC := ne_new FC hB30
  have gB30 := Nat.le_trans hG.size (Nat.le_of_eq hB30)
  replace hG := hG.trans hg
  replace FC := hg.at FC
  refine h_val noA hbk Alone_6 rfl rfl (by decide) hat (r_assign rfl) fun a hat => ?_
  refine hold_region_end ?_
  refine hold_seq ?_
  refine hold_seq ?_
  refine hold_region (l := [0]) rfl ?_
  refine h_val noA hbk Alone_7 rfl rfl (by decide) hat (r_assign rfl) fun a hat => ?_
  refine hold_region_end ?_
  refine hold_block ?_
  refine hold_loop ?_
  have hFA : v.heap[B30]? = some (.cells (ints ((List.replicate (many sh) 0).map amount)).toArray 3 (0, 0)) := by
    rw [F30, rowI_made]
    have : amount 0 = 0 := by decide
    simp [rowI, this]
  refine Alone_loop hbk hA hW hAl hWl (fun j hj => Nat.le_trans hGa.size (hcb j hj)) gB30 (fun v a hG hat => ?_) A.length 0 v a (List.replicate (many sh) 0) (by omega) hG (hFC.grow hg) hFA (hat.sub (AtE.cons rfl (AtE.cons rfl (AtE.cons rfl (AtE.cons rfl (AtE.cons rfl (AtE.cons rfl (AtE.nil))))))))
  refine hold_seq ?_
  refine hold_region (l := [0]) rfl ?_
  refine h_val noA hbk Alone_24 rfl rfl (by decide) hat (r_assign rfl) fun a hat => ?_
  refine hold_region_end ?_
  refine hold_ret (.inl hb) ?_
  refine .stop _ _ fun t d => Run.re (Run.fin hI' fun t d => ⟨rfl, .bool true, fun S w hs hsh => ⟨stepG_done hb (by rw [hbf]; exact Alone_fn) (by rw [hbf]; exact Alone_inits) hat.defers Alone_res (hat.eval (q := .tmp 6) rfl), rfl, _, S, ?_, hs, hsh⟩⟩) t d
  exact ⟨hG.size, hG.same, hG.ready⟩
end Go.Proofs.Ytlnjmheocfbimaa

/- CounterAlone returns true, whatever the number of shards, the amounts and the threads' numbers, and leaves its arguments alone. -/
namespace Go.Proofs.Ytlnjmheocfbimaa
open Go Go.ChangeShapes Go.WideShapes Go.ChangeAt Go.RowKit Go.Conc Go.ConcN
theorem a_own : ownKnob Try.prog.godebug = none := by kernel_rfl
theorem a_laidOut : laidOutB Try.prog = true := by kernel_rfl
theorem a_cells : Try.prog.cellsOf 3 = 1 := by kernel_rfl
theorem alone_params : Try.f3.params = #[3, 22, 22] := by kernel_rfl
theorem alone_results : Try.f3.resultTypes = #[4] := by kernel_rfl
/-- Variables that are not laid yet are out of sight. -/
def unp : Obj → Obj
  | .pending _ _ => .deferred none
  | o => o
def unpend (w : World) : World := { w with heap := w.heap.map unp }
theorem unpend_at (w : World) (b : Nat) : (unpend w).heap[b]? = (w.heap[b]?).map unp := by simp [unpend]
theorem sim_unpend (w : World) : Sim false S0 (unpend w) w := by
  refine ⟨rfl, rfl, by simp [unpend], fun b => ?_, fun _ h => h.elim, fun b c e h => ?_⟩
  · rw [unpend_at]
    cases w.heap[b]? with
    | none => rfl
    | some o => cases o <;> first | exact BSim.refl _ _ | rfl
  · rw [unpend_at] at h
    cases hw : w.heap[b]? with
    | none => rw [hw] at h; cases h
    | some o => rw [hw] at h; cases o <;> simp [unp] at h
theorem unpend_cells {w : World} {b : Nat} {c : Array Value} {e : TypeId} {f : Nat × Nat} (h : w.heap[b]? = some (.cells c e f)) : (unpend w).heap[b]? = some (.cells c e f) := by rw [unpend_at, h]; rfl
theorem unpend_cell {w : World} {ad : Addr} {x : Value} (h : w.cell? ad = some x) : (unpend w).cell? ad = some x := (sim_unpend w).cell ad ▸ h
theorem IntsAt.unpend {w : World} {sv : Value} {A : List Int} (h : IntsAt w sv A) : IntsAt (unpend w) sv A := by
  obtain ⟨ad, cp, h1, h2⟩ := h
  exact ⟨ad, cp, h1, fun i x hx => by obtain ⟨B, O, e1, e2⟩ := h2 i x hx; exact ⟨B, O, e1, unpend_cell e2⟩⟩
theorem below_of {W v w : World} {S : Addr → Prop} (hG : Grow (unpend W) v) (hs : Sim false S v w) (hsh : Shape W w) : Below W.heap.size W w := by
  have hsz : (unpend W).heap.size = W.heap.size := by simp [unpend]
  refine ⟨hsh.os, hsh.tape, hsh.output, by rw [← hs.size, ← hsz]; exact hG.size, fun b hb => ?_⟩
  have h1 := hs.block b
  rw [hG.same b (by rw [hsz]; exact hb), unpend_at] at h1
  obtain ⟨o, ho⟩ : ∃ o, W.heap[b]? = some o := ⟨W.heap[b], by simp [hb]⟩
  rw [ho] at h1 ⊢
  by_cases hc : ∃ c e f, o = .cells c e f
  · obtain ⟨c, e, f, rfl⟩ := hc
    obtain ⟨c', hc'⟩ := hsh.block b c e f ho
    rw [hc'] at h1 ⊢
    obtain ⟨e1, _, _⟩ := h1
    rw [e1]
  · by_cases hch : ∃ cap buf cl x y tm, o = .chan cap buf cl x y tm
    · obtain ⟨cap, buf, cl, x, y, tm, rfl⟩ := hch
      have h2 : some (Obj.chan cap buf cl x y tm) = w.heap[b]? := h1
      exact h2.symm
    · exact hsh.pend b o ho (fun c e f e1 => hc ⟨c, e, f, e1⟩) (fun cap buf cl x y tm e1 => hch ⟨cap, buf, cl, x, y, tm, e1⟩)
set_option maxRecDepth 100000 in
/-- A slice of ints that came in, as the walk reads it. -/
theorem ints_open {H : Type} {enc : TypeId × Value → H} {W : World} {base : Nat} {v : Value} {d : DataW H} {p : List MemPlace} (hval : Value.okWide Try.prog W .any base 22 v) (h : DataW.Trod enc Try.prog W 0 (fun _ => true) true 22 v d p) : ∃ A : List Int, A.length ≤ 9223372036854775807 ∧ IntsAt W v A := by
  obtain ⟨a0, len, cap, rfl⟩ := okWide_slice Try.underlying22 hval
  obtain ⟨fuel, hf⟩ := h
  rcases open_ints Try.underlying22 Try.underlying3 a_cells hf with ⟨hcs, hx⟩ | ⟨a, len', cap', zs, hcs, _, hl, hm, hz, hx, hcell, hwz⟩
  · simp [Value.cells] at hcs
    obtain ⟨rfl, rfl, rfl⟩ := hcs
    exact ⟨[], by simp, none, 0, rfl, fun i x hx => by cases hx⟩
  · simp [Value.cells] at hcs
    obtain ⟨rfl, rfl, rfl⟩ := hcs
    simp only [if_true] at hz
    have hlen : (zs.take len).length = len := by simp; omega
    simp only [maxLen] at hm
    refine ⟨zs.take len, by omega, some a, cap, by rw [hlen], fun i x hx => ?_⟩
    have hi : i < len := by have := (List.getElem?_eq_some_iff.1 hx).1; omega
    have hc := hcell i (by omega)
    rw [List.getElem?_take_of_lt hi] at hx
    have hg : zs.getD i 0 = x := by simp [hx]
    rw [hg] at hc
    obtain ⟨B, O, sp⟩ := a
    cases sp with
    | some s =>
      exfalso
      have h0 := hcell 0 (by omega)
      have e0 : (⟨B, O, some s⟩ : Addr).add 0 = ⟨B, O, some s⟩ := by simp [Addr.add]
      rw [e0] at h0
      have : W.cell? ⟨B, O, some s⟩ = none := by
        unfold World.cell?
        split
        · simp
        · rfl
      rw [this] at h0; cases h0
    | none =>
      refine ⟨B, O, rfl, ?_⟩
      have e : (⟨B, O, none⟩ : Addr).add i = ⟨B, O + i, none⟩ := by simp [Addr.add]
      rw [← e]; exact hc
set_option maxRecDepth 100000 in
theorem alone_lifted (os : Os) (started : os.Started) (H : Type) (enc : TypeId × Value → H) :
    ReturnsInLeavingWide {} Try.checked os 3 .any (Rows.counterAloneSpec.pre6 enc Try.prog Try.f3 Rows.counterAloneRow.domain false) (Rows.counterAloneSpec.post enc Try.prog Try.f3 false true false false) := by
  refine returnsInLeavingWide_of_change_sized (C := Try.checked) a_own started Try.func3
    (ChangeSpec.witness6 (enc := enc) (C := Try.checked) false ⟨#[], #[.int .i64 0, .slice none 0 0, .slice none 0 0], []⟩ 8 (by kernel_rfl) (by kernel_rfl) (by kernel_rfl) (by kernel_rfl)) ?_
  intro W base args ds gs before hval0 hW hcnd0 _ _
  have hval : ∀ (j : Nat) t v, Try.f3.params[j]? = some t → args[j]? = some v → Value.okWide Try.prog W .any base t v := hval0
  clear hcnd0
  have hW' := hW
  obtain ⟨p, q, hA0, hV, rfl, _, _⟩ := hW
  have hA : DataW.TrodAll enc Try.prog W 0 (fun _ => true) true Try.f3.params.toList args.toList ds p := hA0
  rw [alone_params] at hA hval
  obtain ⟨v0, v1, v2, d0, d1, d2, p0, p1, p2, rfl, rfl, rfl, h0, h1, h2⟩ := trodAll_three hA
  obtain ⟨rfl, rfl⟩ := trodVars_none hV
  obtain ⟨n, rfl, rfl, rfl, hn⟩ := open_int Try.underlying3 (hval 0 3 v0 rfl rfl) h0
  obtain ⟨A, hAl, hAI⟩ := ints_open (hval 1 22 v1 rfl rfl) h1
  obtain ⟨Wh, hWl, hWI⟩ := ints_open (hval 2 22 v2 rfl rfl) h2
  simp only [List.append_nil] at hW'
  have hlt : ∀ x ∈ p1 ++ p2, x.block < W.heap.size := fun x hx => by simpa using hW'.lt x (by simpa using hx)
  obtain ⟨M, last, o, w', t', r1, r2, r3, r4⟩ := run_good (sim_unpend W) (Alone_run (W0 := W) (sim_unpend W).ready hAI.unpend hWI.unpend hAl hWl (sh := n))
  refine ⟨M, last, o, w', t', r1, r2, r3, r4.mono fun x hx => ?_⟩
  obtain ⟨rfl, v, S, hG, hs, hsh⟩ := hx
  have hb := below_of hG hs hsh
  have t0 : DataW.Trod enc Try.prog w' 0 (fun b => decide (b < W.heap.size)) true 3 (.int .i64 n) (.lit (.int .i64 n)) [] := shut_int Try.underlying3 hn
  have t1 := Below.trod a_laidOut (by kernel_rfl) (of_decide_eq_true (by kernel_rfl)) h1 hb (fun x hx => hlt x (by simp [hx]))
  have t2 := Below.trod a_laidOut (by kernel_rfl) (of_decide_eq_true (by kernel_rfl)) h2 hb (fun x hx => hlt x (by simp [hx]))
  refine ⟨_, _, _, [], [] ++ p1 ++ p2, [], hW', ?_, ?_, rfl, hb.frame _, fun h => by cases h⟩
  · rw [alone_results]
    exact trodAll_mk1 (shut_bool Try.underlying4 true)
  · rw [alone_params]
    exact trodAll_mk3 t0 t1 t2
/-- CounterAlone: whatever comes in: true; and what came in reads as it did. -/
theorem alone_holds : Rows.CounterAloneSaid :=
  OpenClaim.holds_of_wide_leaving 3 Try.f3 rfl rfl rfl rfl rfl rfl rfl ⟨rfl, rfl, rfl, rfl, rfl⟩ rfl rfl rfl rfl rfl (by kernel_rfl) Try.func3 (by kernel_rfl)
    (of_decide_eq_true (by kernel_rfl)) (by unfold Func.isWrapper; first | (rw [if_pos (by decide +kernel)]; kernel_rfl) | (rw [if_neg (by decide +kernel)]; exact ⟨rfl, rfl⟩))
    (fun os started H enc _ => alone_lifted os started H enc)
#print axioms alone_holds
end Go.Proofs.Ytlnjmheocfbimaa
