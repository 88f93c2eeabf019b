/- CounterTimes returns true, whatever the schedule, the number of shards and the scripts, and leaves its arguments alone. -/
import Derived.Test.YtlnjmheocfbimaaT06
import Derived.Test.YtlnjmheocfbimaaRows
import Derived.Conc.LeavingOf
import Derived.Conc.Holds
import Derived.Carry
import Derived.Below
import Derived.ChangeSlices
import Derived.Deep.Slices
import Derived.Lib.SmallJoins
import Derived.RowKit
import Derived.KernelRfl
set_option linter.all false
/- CounterTimes, to the end of its run. -/
namespace Go.Proofs.Ytlnjmheocfbimaa
open Go Go.Conc
theorem rowF_made (z : Value) (n : Nat) : madeCells #[z] n = rowF n fun _ => z := by
  apply Array.ext_getElem?
  intro j
  by_cases h : j < n
  · rw [madeCells_get _ _ _ h, rowF_get h]
  · rw [Array.getElem?_eq_none (by rw [size_madeCells]; omega), Array.getElem?_eq_none (by simp [rowF]; omega)]
/-- What a law's function takes: a schedule, and scripts. -/
structure PlayIn (u : World) (sv : Value) (sl : List Int) (ssv : Value) (n : Nat) (L : Nat → List ACall) : Prop where
  sched : SlAt u 1 sv sl.length (ints sl)
  len : sl.length ≤ 2 ^ 44
  s64 : ∀ x ∈ sl, -9223372036854775808 ≤ x ∧ x ≤ 9223372036854775807
  scr : ScrsAt u ssv n L
  small : n ≤ maxLen ∧ ∀ j, j < n → (L j).length ≤ maxLen
theorem CallsAt.scr {u v : World} {X : Nat → Prop} {lv : Value} {l : List ACall} (h : CallsAt u lv l) (hg : Grow u v) (hX : ∀ b, b < u.heap.size → ¬ X b) : ScrAt X v lv l := by
  obtain ⟨ad, cap, h1, h2⟩ := h
  refine ⟨ad, cap, h1, fun j x hx => ?_⟩
  obtain ⟨B, O, e1, e2, e3, e4, e5⟩ := h2 j x hx
  have hB := cell_low e2
  exact ⟨B, O, e1, Nat.lt_of_lt_of_le hB hg.size, hX B hB, grow_cell hg e2, grow_cell hg e3, grow_cell hg e4, grow_cell hg e5⟩
theorem ScrsAt.keep {u v : World} {ssv : Value} {n : Nat} {L : Nat → List ACall} (h : ScrsAt u ssv n L) (hg : Grow u v) : ScrsAt v ssv n L := by
  obtain ⟨ad, cap, h1, h2⟩ := h
  refine ⟨ad, cap, h1, fun j hj => ?_⟩
  obtain ⟨B, O, lv, e1, e2, ad', cap', e3, e4⟩ := h2 j hj
  exact ⟨B, O, lv, e1, grow_cell hg e2, ad', cap', e3, fun j x hx => by obtain ⟨B, O, f1, f2, f3, f4, f5⟩ := e4 j x hx; exact ⟨B, O, f1, grow_cell hg f2, grow_cell hg f3, grow_cell hg f4, grow_cell hg f5⟩⟩
theorem mayE_zero {n : Nat} {len : Nat → Nat} (h : mayE n len false = 0) : 1 ≤ n ∧ n ≤ 8 ∧ ∀ j, j < n → len j ≤ 64 := by
  unfold mayE at h
  split at h
  · cases h
  · rename_i h1
    split at h
    · cases h
    · rename_i h2
      refine ⟨by omega, by omega, fun j hj => ?_⟩
      rcases Nat.lt_or_ge 64 (len j) with g | g
      · exact absurd ⟨j, hj, g⟩ h1
      · exact g
theorem bound_ok {n B : Nat} (hn : n ≤ 8) (hB : B ≤ 2 ^ 36) : n * (B + 1) + 1 ≤ 2 ^ 40 := by
  have := Nat.mul_le_mul_right (B + 1) hn
  omega
theorem Times_inits : Try.prog.inits.idxOf? 5 = none := by kernel_rfl
/-- The end of a law's run. -/
theorem law_end {u W0 v : World} {N : Nat} {I : Inbs} (hI : ∀ x, x ≠ 0 → I x = none) (hG : Grow u v) {b : Frame} {a : Act} {k : List Item} {fn : Func} {t : Tmp} (hb : b.kind = .normal) (hf : Try.prog.funcs[b.fn]? = some fn) (hi : Try.prog.inits.idxOf? b.fn = none) (hr : fn.results = #[.tmp t]) {M : Nat} {e : Env} (hat : AtE M [] e a) (ht : look e t = some (.bool true)) {S : Addr → Prop} {m : Bool} :
    Hold Try.prog m S (fun g w => Run Try.prog (AtDone Try.prog W0 (AlonePost u W0)) S0 0 N I g w) (G (b.at a (.code .ret :: k)) []) v := by
  refine hold_ret (.inl hb) ?_
  refine .stop _ _ fun t' d => Run.re (Run.fin hI fun t' d => ⟨rfl, .bool true, fun S w hs hsh => ⟨stepG_done hb hf hi hat.defers hr (hat.eval (q := .tmp t) ht), rfl, _, S, ?_, hs, hsh⟩⟩) t' d
  exact ⟨hG.size, hG.same, hG.ready⟩
theorem Times_run {u W0 : World} (hr : Ready0 u) {sv ssv : Value} {sl : List Int} {sh : Int} {n : Nat} {L : Nat → List ACall} (hP : PlayIn u sv sl ssv n L) :
    Run Try.prog (AtDone Try.prog W0 (AlonePost u W0)) S0 0 1 (fun _ => none) (G (Frame.enter Try.prog 5 #[sv, .int .i64 sh, ssv] .normal) []) u := by
  obtain ⟨adS, cpS, rfl, hS2⟩ := id hP.scr
  have hlvs : ∃ lv : Nat → Value, ∀ j, j < n → ∃ B O, adS = some ⟨B, O, none⟩ ∧ u.cell? ⟨B, O + j, none⟩ = some (lv j) ∧ CallsAt u (lv j) (L j) := Classical.axiomOfChoice (r := fun j y => j < n → ∃ B O, adS = some ⟨B, O, none⟩ ∧ u.cell? ⟨B, O + j, none⟩ = some y ∧ CallsAt u y (L j)) fun j => by
    by_cases hj : j < n
    · obtain ⟨B, O, y, h1, h2, h3⟩ := hS2 j hj
      exact ⟨y, fun _ => ⟨B, O, h1, h2, h3⟩⟩
    · exact ⟨undef, fun h => absurd h hj⟩
  obtain ⟨lv, hlv⟩ := hlvs
  refine Run.of_hold ?_
  obtain ⟨b, a, hEq, hb, hbf, hat⟩ := enter_is Times_fn Times_body Times_tmps #[sv, .int .i64 sh, .slice adS n cpS] [(0, sv), (1, .int .i64 sh), (2, .slice adS n cpS)] rfl (by simp)
  rw [hEq]
  have hbk := not_early hb
  refine hold_unf Times_code_def <| hold_seq <| hold_region (l := [0]) rfl <| h_val noA hbk Times_0 rfl rfl (by decide) hat (r_assign rfl) fun a hat => hold_region_end <| hold_seq <| hold_region (l := [0,1]) rfl <| h_callc hbk Times_1 rfl (by decide) hat awake_fn awake_bd awake_nm (vals := #[]) rfl fun c hc => ?_
  refine hold_run (awake_run hr (by decide) (fun _ _ => rfl) fun v I' hI' hG => ?_)
  refine Run.of_hold <| hold_fin hc fun a hat => h_val noA hbk Times_1 rfl rfl (by decide) hat (r_assign rfl) fun a hat => hold_region_end <| hold_seq <| hold_region (l := [0,1,2]) rfl <| h_val noA hbk Times_2 rfl rfl (by decide) hat (r_move rfl) fun a hat => h_callc hbk Times_2 rfl (by decide) hat wNew_fn wNew_bd wNew_nm (vals := #[_]) rfl fun c hc => wNew_hold (hG.ready hr) (hP.sched.grow hG) hP.len fun v W ch rv hg1 hw hWl hcl hch hrv hrvn hrvW => hold_fin hc fun a hat => ?_
  have hG1 := hG.trans hg1
  refine h_val noA hbk Times_2 rfl rfl (by decide) hat (r_assign rfl) fun a hat => hold_region_end <| hold_seq <| hold_region (l := [0,1,2,3,4,5,6,7,8]) rfl <| h_val noA hbk Times_3 rfl rfl (by decide) hat (r_move rfl) fun a hat => h_val noA hbk Times_3 rfl rfl (by decide) hat (r_move rfl) fun a hat => h_val noA hbk Times_3 rfl rfl (by decide) hat (r_move rfl) fun a hat => h_callc hbk Times_3 rfl (by decide) hat Play_fn Play_bd Play_nm (vals := #[_, _, _]) rfl fun c hc => ?_
  have hwl : ∀ b, wordsOf W ch rv b → u.heap.size ≤ b := fun b h => by
    rcases h with rfl | rfl | h
    · exact Nat.le_trans hG.size hWl
    · exact Nat.le_trans hG.size hcl
    · exact Nat.le_trans hG.size (hrvn b h)
  have hwn : ∀ b, b < u.heap.size → ¬ wordsOf W ch rv b := fun b hb h => by have := hwl b h; omega
  obtain ⟨f, hf⟩ : ∃ f, mayE n (fun j => (L j).length) false = 0 → 1 ≤ sh → sh ≤ 16 → ∃ res S, runs f (sys0 sl sh.toNat) (counterProgs 600 sh.toNat n L) = some res ∧ res.2.length = n ∧ res.1.stuck = false ∧ res.1.trace.length ≤ 2 ^ 40 ∧ (∀ i, i < n → (res.2.getD i []).length = (L i).length) ∧
      timeAll n sh.toNat L (fun i => res.2.getD i []) res.1.trace = some S := by
    by_cases h : mayE n (fun j => (L j).length) false = 0 ∧ 1 ≤ sh ∧ sh ≤ 16
    · obtain ⟨h1, h2, h3⟩ := h
      obtain ⟨g1, g2, g3⟩ := mayE_zero h1
      obtain ⟨f, res, S, hf⟩ := counter_times (fu := 600) (B := 3686528) (m := sh.toNat) (L := L) sl (by omega) g2 g3 (Nat.le_refl _) (by decide) (bound_ok g2 (by decide))
      exact ⟨f, fun _ _ _ => ⟨res, S, hf⟩⟩
    · exact ⟨0, fun h1 h2 h3 => absurd ⟨h1, h2, h3⟩ h⟩
  have hbad : ∀ (v' : World) (x : Int), Grow v v' → x ≠ 0 → Run Try.prog (AtDone Try.prog W0 (AlonePost u W0)) S0 0 (1 + 2) I' (G (c.finish (.tuple #[.slice none 0 0, .int .i64 x])) []) v' := fun v' x hg hx => by
    refine Run.of_hold <| hold_fin hc fun a hat => h_val noA hbk Times_3 rfl rfl (by decide) hat (r_move rfl) fun a hat => h_val noA hbk Times_3 rfl rfl (by decide) hat (r_extract rfl rfl) fun a hat => h_val noA hbk Times_3 rfl rfl (by decide) hat (r_extract rfl rfl) fun a hat => h_val noA hbk Times_3 rfl rfl (by decide) hat (r_assign rfl) fun a hat => h_val noA hbk Times_3 rfl rfl (by decide) hat (r_assign rfl) fun a hat => hold_region_end <| hold_seq <| hold_seq <| hold_region (l := [0,1,2,3,4,5]) rfl <| h_val noA hbk Times_4 rfl rfl (by decide) hat (r_move rfl) fun a hat => h_val noA hbk Times_4 rfl rfl (by decide) hat (r_not rfl) fun a hat => ?_
    refine h_val noA hbk Times_4 rfl rfl (by decide) hat (r_move rfl) fun a hat => hg_yes noA hbk Times_4 rfl rfl rfl rfl (by decide) hat (r_move rfl) fun a hat => hg_yes noA hbk Times_4 rfl rfl rfl (opOk_eq (by kernel_rfl)) (by decide) hat (r_bool (t' := true) (r_neq rfl rfl) (by simpa using hx)) fun a hat => h_val noA hbk Times_4 rfl rfl (by decide) hat (r_pick rfl rfl) fun a hat => hold_region_end <| hold_condT (hat.eval (q := .tmp 40) rfl) rfl <| hold_seq <| hold_region (l := [0,1]) rfl <| h_val noA hbk Times_5 rfl rfl (by decide) hat (r_move rfl) fun a hat => h_val noA hbk Times_5 rfl rfl (by decide) hat (r_assign rfl) fun a hat => hold_region_end ?_
    exact law_end hI' (hG1.trans hg) hb (by rw [hbf]; exact Times_fn) (by rw [hbf]; exact Times_inits) Times_res hat rfl
  refine hold_run (Play_run (fu := 600) (f := f) (l := L) (lv := lv) (hG1.ready hr) ⟨hw, hch, hrv⟩ ⟨hP.s64, by have := hP.len; omega⟩ (by decide) hI' ⟨⟨_, _, rfl, fun j hj => ?_⟩, fun j hj => ?_, hP.small.1, fun j hj => hP.small.2 j hj⟩ ⟨_, _, rfl⟩ (fun hn0 B O cp h => ?_) (fun j hj => ?_) (fun v' hg h0 => hbad v' _ hg h0) (fun v' hg h0 h1 => hbad v' 1 hg (by decide)) (fun h0 h1 h2 => ?_))
  · obtain ⟨B, O, e1, e2, _⟩ := hlv j hj
    exact ⟨B, O, e1, grow_cell hG1 e2⟩
  · obtain ⟨_, _, _, _, ad, cap, e, _⟩ := hlv j hj
    exact ⟨ad, cap, e⟩
  · cases h
    obtain ⟨_, _, e1, e2, _⟩ := hlv 0 hn0
    cases e1
    exact hwn _ (cell_low e2)
  · obtain ⟨_, _, _, _, hC⟩ := hlv j hj
    exact hC.scr hG1 hwn
  · obtain ⟨res, St, hrun, hl, hst, htl, hlen, htm⟩ := hf h0 h1 h2
    obtain ⟨g1, g2, g3⟩ := mayE_zero h0
    refine ⟨res, hrun, fun Γ' v2 I2 ob hWI hI2 hlr hfin hkeep hW' hob => ?_⟩
    refine Run.of_hold ?_
    have hG2 : Grow u v2 := ⟨Nat.le_trans hG1.size (Nat.le_trans hob (Nat.le_of_lt (hfin 0 (res.2[0]'(by omega)) (by simp)).1.1)), fun b hb => (hkeep b (Nat.lt_of_lt_of_le hb hG1.size) (hwn b hb)).trans (hG1.same b hb), fun _ => hWI.ready⟩
    have hAns := anssAt_fin hlr hfin
    obtain ⟨wsv, wcv, wtv, wrv, hww, _, _, _, hwr, _⟩ := hWI.world
    rw [hW'] at hww
    refine hold_fin hc fun a hat => h_val noA hbk Times_3 rfl rfl (by decide) hat (r_move rfl) fun a hat => h_val noA hbk Times_3 rfl rfl (by decide) hat (r_extract rfl rfl) fun a hat => h_val noA hbk Times_3 rfl rfl (by decide) hat (r_extract rfl rfl) fun a hat => h_val noA hbk Times_3 rfl rfl (by decide) hat (r_assign rfl) fun a hat => h_val noA hbk Times_3 rfl rfl (by decide) hat (r_assign rfl) fun a hat => hold_region_end <| hold_seq <| hold_seq <| hold_region (l := [0,1,2,3,4,5]) rfl <| h_val noA hbk Times_4 rfl rfl (by decide) hat (r_move rfl) fun a hat => h_val noA hbk Times_4 rfl rfl (by decide) hat (r_not rfl) fun a hat => h_val noA hbk Times_4 rfl rfl (by decide) hat (r_move rfl) fun a hat => ?_
    refine hg_yes noA hbk Times_4 rfl rfl rfl rfl (by decide) hat (r_move rfl) fun a hat => hg_yes noA hbk Times_4 rfl rfl rfl (opOk_eq (by kernel_rfl)) (by decide) hat (r_bool (t' := false) (r_neq rfl rfl) (by first | (simp; omega) | (simp; done) | (simp_all; done) | (simp_all; omega))) fun a hat => h_val noA hbk Times_4 rfl rfl (by decide) hat (r_pick rfl rfl) fun a hat => hold_region_end <| hold_condF (hat.eval (q := .tmp 40) rfl) rfl <| hold_skip <| hold_seq <| hold_region (l := [0,1,2]) rfl <| h_val noA hbk Times_6 rfl rfl (by decide) hat (r_move rfl) fun a hat => h_callc hbk Times_6 rfl (by decide) hat Stuck_fn Stuck_bd Stuck_nm (vals := #[_]) rfl fun c hc => Stuck_hold hww rfl ?_
    rw [hst]
    refine hold_fin hc fun a hat => h_val noA hbk Times_6 rfl rfl (by decide) hat (r_assign rfl) fun a hat => hold_region_end <| hold_seq <| hold_seq <| hold_region (l := [0,1,2,3,4,5,6,7]) rfl <| h_val noA hbk Times_7 rfl rfl (by decide) hat (r_move rfl) fun a hat => h_val noA hbk Times_7 rfl rfl (by decide) hat (r_move rfl) fun a hat => hg_yes noA hbk Times_7 rfl rfl rfl rfl (by decide) hat (r_move rfl) fun a hat => hg_yes noA hbk Times_7 rfl rfl rfl rfl (by decide) hat (r_len lk_35 rfl) fun a hat => hg_yes noA hbk Times_7 rfl rfl rfl rfl (by decide) hat (r_move rfl) fun a hat => hg_yes noA hbk Times_7 rfl rfl rfl rfl (by decide) hat (r_len lk_32 rfl) fun a hat => hg_yes noA hbk Times_7 rfl rfl rfl (opOk_eq (by kernel_rfl)) (by decide) hat (r_bool (t' := false) (r_neq rfl rfl) (by simp)) fun a hat => ?_
    refine h_val noA hbk Times_7 rfl rfl (by decide) hat (r_pick rfl rfl) fun a hat => hold_region_end <| hold_condF (hat.eval (q := .tmp 51) rfl) rfl <| hold_skip <| hold_seq <| hold_region (l := [0,1,2]) rfl <| h_val noA hbk Times_9 rfl rfl (by decide) hat (r_move rfl) fun a hat => h_callc hbk Times_9 rfl (by decide) hat Trace_fn Trace_bd Trace_nm (vals := #[_]) rfl fun c hc => Trace_hold hWI.ready hww rfl hwr htl fun v tv hg3 hTr => hold_fin hc fun a hat => ?_
    have hG := Grow.refl v
    refine h_val noA hbk Times_9 rfl rfl (by decide) hat (r_assign rfl) fun a hat => hold_region_end <| hold_seq <| hold_region (l := [0]) rfl <| h_val noA hbk Times_10 rfl rfl (by decide) hat (r_assign rfl) fun a hat => hold_region_end <| hold_seq <| hold_region (l := [0]) rfl <| h_val noA hbk Times_11 rfl rfl (by decide) hat (r_assign rfl) fun a hat => hold_region_end <| hold_seq <| hold_region (l := [0,1,2,3]) rfl <| h_val noA hbk Times_12 rfl rfl (by decide) hat (r_move rfl) fun a hat => ?_
    refine h_val noA hbk Times_12 rfl rfl (by decide) hat (r_len lk_32 rfl) fun a hat => h_news noA hbk Times_12 rfl rfl (by decide) hat (r_make Try.underlying22 (z := .int .i64 0) (bytes := 8) (by kernel_rfl) rfl rfl rfl (by omega) (by omega)) fun v a B56 hB56 hsB56 hg F56 hat => ?_
    have gB56 := Nat.le_trans hG.size (Nat.le_of_eq hB56)
    replace hG := hG.trans hg
    refine h_val noA hbk Times_12 rfl rfl (by decide) hat (r_assign rfl) fun a hat => hold_region_end <| hold_seq <| hold_region (l := [0,1,2,3]) rfl <| h_val noA hbk Times_13 rfl rfl (by decide) hat (r_move rfl) fun a hat => h_val noA hbk Times_13 rfl rfl (by decide) hat (r_len lk_32 rfl) fun a hat => h_news noA hbk Times_13 rfl rfl (by decide) hat (r_make Try.underlying43 (z := .slice none 0 0) (bytes := 24) (by kernel_rfl) rfl rfl rfl (by omega) (by omega)) fun v a B59 hB59 hsB59 hg F59 hat => ?_
    have n_F59_F56 := ne_new F56 hB59
    have gB59 := Nat.le_trans hG.size (Nat.le_of_eq hB59)
    replace hG := hG.trans hg
    replace F56 := hg.at F56
    refine h_val noA hbk Times_13 rfl rfl (by decide) hat (r_assign rfl) fun a hat => hold_region_end <| hold_seq <| hold_region (l := [0,1,2,3]) rfl <| h_val noA hbk Times_14 rfl rfl (by decide) hat (r_move rfl) fun a hat => h_val noA hbk Times_14 rfl rfl (by decide) hat (r_len lk_32 rfl) fun a hat => h_news noA hbk Times_14 rfl rfl (by decide) hat (r_make Try.underlying44 (z := .bool false) (bytes := 1) (by kernel_rfl) rfl rfl rfl (by omega) (by omega)) fun v a B62 hB62 hsB62 hg F62 hat => ?_
    have n_F62_F56 := ne_new F56 hB62
    have n_F62_F59 := ne_new F59 hB62
    have gB62 := Nat.le_trans hG.size (Nat.le_of_eq hB62)
    replace hG := hG.trans hg
    replace F56 := hg.at F56
    replace F59 := hg.at F59
    refine h_val noA hbk Times_14 rfl rfl (by decide) hat (r_assign rfl) fun a hat => hold_region_end <| hold_seq <| hold_region (l := [0,1,2,3]) rfl <| h_val noA hbk Times_15 rfl rfl (by decide) hat (r_move rfl) fun a hat => h_val noA hbk Times_15 rfl rfl (by decide) hat (r_len lk_32 rfl) fun a hat => h_news noA hbk Times_15 rfl rfl (by decide) hat (r_make Try.underlying22 (z := .int .i64 0) (bytes := 8) (by kernel_rfl) rfl rfl rfl (by omega) (by omega)) fun v a B65 hB65 hsB65 hg F65 hat => ?_
    have n_F65_F56 := ne_new F56 hB65
    have n_F65_F59 := ne_new F59 hB65
    have n_F65_F62 := ne_new F62 hB65
    have gB65 := Nat.le_trans hG.size (Nat.le_of_eq hB65)
    replace hG := hG.trans hg
    replace F56 := hg.at F56
    replace F59 := hg.at F59
    replace F62 := hg.at F62
    refine h_val noA hbk Times_15 rfl rfl (by decide) hat (r_assign rfl) fun a hat => hold_region_end <| hold_seq <| hold_seq <| hold_region (l := [0]) rfl <| h_val noA hbk Times_16 rfl rfl (by decide) hat (r_assign rfl) fun a hat => hold_region_end <| hold_block <| hold_loop ?_
    rw [rowF_made] at F56 F59 F62 F65
    have hm : ((sh.toNat : Nat) : Int) = sh := by omega
    rw [hm] at htm
    have hG3 := hG2.trans hg3
    refine Times_loop hbk (hG3.ready hr) (hP.scr.keep hG3) (hAns.grow hg3) hl hTr htl g2 ⟨h1, h2⟩ g3 gB56 gB59 gB62 gB65 n_F65_F56 (fun v a hG' hat => ?_) res.1.trace.length 0 v _ .init (fun _ => .slice none 0 0) (by omega) (by rw [List.drop_zero]; exact htm) TB.init hG F56 F62 F65 F59 ⟨fun j hj => ⟨rfl, .inl ⟨rfl, rfl⟩⟩, fun j hj b hb => (by cases hb), fun i j _ _ _ b hb => (by cases hb)⟩ (hat.sub (AtE.cons rfl (AtE.cons rfl (AtE.cons rfl (AtE.cons rfl (AtE.cons rfl (AtE.cons rfl (AtE.cons rfl (AtE.cons rfl (AtE.cons rfl (AtE.cons rfl (AtE.cons rfl (AtE.nil)))))))))))))
    refine hold_seq <| hold_region (l := [0]) rfl <| h_val noA hbk Times_53 rfl rfl (by decide) hat (r_assign rfl) fun a hat => hold_region_end ?_
    exact law_end hI2 (hG3.trans hG') hb (by rw [hbf]; exact Times_fn) (by rw [hbf]; exact Times_inits) Times_res hat rfl
end Go.Proofs.Ytlnjmheocfbimaa


/- What stands in an argument: a schedule; scripts. -/
namespace Go.Proofs.Ytlnjmheocfbimaa
open Go Go.ChangeShapes Go.WideShapes Go.ChangeAt Go.RowKit Go.Conc Go.ConcN
theorem a_own : ownKnob Try.prog.godebug = none := by kernel_rfl
theorem a_laidOut : laidOutB Try.prog = true := by kernel_rfl
theorem a_cells : Try.prog.cellsOf 3 = 1 := by kernel_rfl
/-- Variables that are not laid yet are out of sight. -/
def unp : Obj → Obj
  | .pending _ _ => .deferred none
  | o => o
def unpend (w : World) : World := { w with heap := w.heap.map unp }
theorem unpend_at (w : World) (b : Nat) : (unpend w).heap[b]? = (w.heap[b]?).map unp := by simp [unpend]
theorem sim_unpend (w : World) : Sim false S0 (unpend w) w := by
  refine ⟨rfl, rfl, by simp [unpend], fun b => ?_, fun _ h => h.elim, fun b c e h => ?_⟩
  · rw [unpend_at]
    cases w.heap[b]? with
    | none => rfl
    | some o => cases o <;> first | exact BSim.refl _ _ | rfl
  · rw [unpend_at] at h
    cases hw : w.heap[b]? with
    | none => rw [hw] at h; cases h
    | some o => rw [hw] at h; cases o <;> simp [unp] at h
theorem unpend_cell {w : World} {ad : Addr} {x : Value} (h : w.cell? ad = some x) : (unpend w).cell? ad = some x := (sim_unpend w).cell ad ▸ h
theorem below_of {W v w : World} {S : Addr → Prop} (hG : Grow (unpend W) v) (hs : Sim false S v w) (hsh : Shape W w) : Below W.heap.size W w := by
  have hsz : (unpend W).heap.size = W.heap.size := by simp [unpend]
  refine ⟨hsh.os, hsh.tape, hsh.output, by rw [← hs.size, ← hsz]; exact hG.size, fun b hb => ?_⟩
  have h1 := hs.block b
  rw [hG.same b (by rw [hsz]; exact hb), unpend_at] at h1
  obtain ⟨o, ho⟩ : ∃ o, W.heap[b]? = some o := ⟨W.heap[b], by simp [hb]⟩
  rw [ho] at h1 ⊢
  by_cases hc : ∃ c e f, o = .cells c e f
  · obtain ⟨c, e, f, rfl⟩ := hc
    obtain ⟨c', hc'⟩ := hsh.block b c e f ho
    rw [hc'] at h1 ⊢
    obtain ⟨e1, _, _⟩ := h1
    rw [e1]
  · by_cases hch : ∃ cap buf cl x y tm, o = .chan cap buf cl x y tm
    · obtain ⟨cap, buf, cl, x, y, tm, rfl⟩ := hch
      have h2 : some (Obj.chan cap buf cl x y tm) = w.heap[b]? := h1
      exact h2.symm
    · exact hsh.pend b o ho (fun c e f e1 => hc ⟨c, e, f, e1⟩) (fun cap buf cl x y tm e1 => hch ⟨cap, buf, cl, x, y, tm, e1⟩)
theorem no_sub {w : World} {B O s : Nat} {x : Value} (h : w.cell? ⟨B, O, some s⟩ = some x) : False := by
  have : w.cell? ⟨B, O, some s⟩ = none := by
    unfold World.cell?
    split
    · simp
    · rfl
  rw [this] at h; cases h
theorem add_plain (B O i : Nat) : (⟨B, O, none⟩ : Addr).add i = ⟨B, O + i, none⟩ := by simp [Addr.add]
/-- An address at which something stands is plain. -/
theorem plain_of {w : World} {a : Addr} {x : Value} (h : w.cell? (a.add 0) = some x) : ∃ B O, a = ⟨B, O, none⟩ := by
  obtain ⟨B, O, sp⟩ := a
  cases sp with
  | none => exact ⟨B, O, rfl⟩
  | some s =>
    have e0 : (⟨B, O, some s⟩ : Addr).add 0 = ⟨B, O, some s⟩ := by simp [Addr.add]
    rw [e0] at h
    exact (no_sub h).elim
set_option maxRecDepth 100000 in
/-- A schedule that came in. -/
theorem sched_open {H : Type} {enc : TypeId × Value → H} {W : World} {base : Nat} {v : Value} {d : DataW H} {p : List MemPlace} (hval : Value.okWide Try.prog W .any base 22 v) (h : DataW.Trod enc Try.prog W 0 (fun _ => true) true 22 v d p) :
    ∃ A : List Int, SlAt (unpend W) 1 v A.length (ints A) ∧ (∀ x ∈ A, -9223372036854775808 ≤ x ∧ x ≤ 9223372036854775807) ∧ (A = [] ∨ ∃ el sp, d = .slice el sp ∧ A.length ≤ el.length) := by
  obtain ⟨a0, len, cap, rfl⟩ := okWide_slice Try.underlying22 hval
  obtain ⟨fuel, hf⟩ := h
  rcases open_ints Try.underlying22 Try.underlying3 a_cells hf with ⟨hcs, hx⟩ | ⟨a, len', cap', zs, hcs, _, hl, hm, hz, hx, hcell, hwz⟩
  · simp [Value.cells] at hcs
    obtain ⟨rfl, rfl, rfl⟩ := hcs
    exact ⟨[], ⟨rfl, .inl ⟨0, rfl, rfl⟩, fun u hu => by cases hu⟩, fun x hx => (by cases hx), .inl rfl⟩
  · simp [Value.cells] at hcs
    obtain ⟨rfl, rfl, rfl⟩ := hcs
    simp only [if_true] at hz
    have hlen : (zs.take len).length = len := by simp; omega
    refine ⟨zs.take len, ⟨by simp [ints], .inr ⟨a, cap, by rw [hlen], fun j u hu => ?_⟩, fun u hu => ?_⟩, fun x hx => ?_, ?_⟩
    · have hj : j < len := by have := (List.getElem?_eq_some_iff.1 hu).1; simp [ints] at this; omega
      have hc := hcell j (by omega)
      have hg : zs[j]? = some (zs.getD j 0) := by rw [List.getD_eq_getElem?_getD, List.getElem?_eq_getElem (by omega)]; rfl
      simp only [ints, List.getElem?_map, List.getElem?_take_of_lt hj, hg, Option.map_some, Option.some.injEq] at hu
      rw [← hu]
      exact unpend_cell hc
    · simp only [ints, List.mem_map] at hu
      obtain ⟨x, _, rfl⟩ := hu
      rfl
    · have := hwz x (List.mem_of_mem_take hx)
      simpa [Lit.wf, IntKind.min, IntKind.max, IntKind.signed, IntKind.bits] using this
    · simp only [Prod.mk.injEq] at hx
      exact .inr ⟨_, _, hx.1, by simp [lits]⟩
theorem a_cells4 : Try.prog.cellsOf 50 = 4 := by kernel_rfl
theorem a_cells1 : Try.prog.cellsOf 47 = 1 := by kernel_rfl
set_option maxRecDepth 100000 in
theorem calls_open {H : Type} {enc : TypeId × Value → H} {W : World} {base fuel : Nat} {v : Value} {x : DataW H × List MemPlace} (h : DataW.trod enc Try.prog W 0 (fun _ => true) true fuel 47 [v] = some x) :
    ∃ l : List ACall, CallsAt (unpend W) v l ∧ l.length ≤ maxLen := by
  rcases Go.Deep.open_slice Try.underlying47 h with ⟨hcs, _⟩ | ⟨a, len, cap, m, n, D, Pl, hcs, _, hl, hm, hmm, _, hx⟩
  · obtain rfl : v = .slice none 0 0 := by simpa using hcs
    exact ⟨[], ⟨none, 0, rfl, fun j y hy => by cases hy⟩, Nat.zero_le _⟩
  · obtain rfl : v = .slice (some a) len cap := by simpa using hcs
    simp only [if_true] at hmm
    subst hmm
    rw [a_cells4] at hx
    have hall : ∀ j, j < len → ∃ y : ACall, W.cell? (a.add (j * 4)) = some (.int .i64 y.op) ∧ W.cell? (a.add (j * 4 + 1)) = some (.int .i64 y.a) ∧ W.cell? (a.add (j * 4 + 2)) = some (.int .i64 y.b) ∧ W.cell? (a.add (j * 4 + 3)) = some (.int .i64 y.c) := fun j hj => by
      obtain ⟨cs', h1, h2⟩ := hx j (by omega)
      obtain ⟨_, h3, h4⟩ := World.cells?_some h1
      obtain ⟨y0, y1, y2, y3, q, _, _, g0, g1, g2, g3⟩ := Go.Joins.trod_struct4 Try.underlying50 h2
      match cs', h3 with
      | [c0, c1, c2, c3], _ =>
        obtain ⟨n0, e0, _, _⟩ := DataW.trod_int Try.underlying3 (by simpa [a_cells] using g0)
        obtain ⟨n1, e1, _, _⟩ := DataW.trod_int Try.underlying3 (by simpa [a_cells] using g1)
        obtain ⟨n2, e2, _, _⟩ := DataW.trod_int Try.underlying3 (by simpa [a_cells] using g2)
        obtain ⟨n3, e3, _, _⟩ := DataW.trod_int Try.underlying3 (by simpa [a_cells] using g3)
        simp only [List.cons.injEq, and_true] at e0 e1 e2 e3
        subst e0 e1 e2 e3
        have k0 := h4 0 (by omega)
        have k1 := h4 1 (by omega)
        have k2 := h4 2 (by omega)
        have k3 := h4 3 (by omega)
        rw [Go.Deep.add_add] at k0 k1 k2 k3
        exact ⟨⟨n0, n1, n2, n3⟩, by simpa using k0, by simpa using k1, by simpa using k2, by simpa using k3⟩
    obtain ⟨F, hF⟩ := Classical.axiomOfChoice (r := fun (j : Nat) (y : ACall) => j < len → W.cell? (a.add (j * 4)) = some (.int .i64 y.op) ∧ W.cell? (a.add (j * 4 + 1)) = some (.int .i64 y.a) ∧ W.cell? (a.add (j * 4 + 2)) = some (.int .i64 y.b) ∧ W.cell? (a.add (j * 4 + 3)) = some (.int .i64 y.c)) fun j => by
      by_cases hj : j < len
      · obtain ⟨y, hy⟩ := hall j hj
        exact ⟨y, fun _ => hy⟩
      · exact ⟨⟨0, 0, 0, 0⟩, fun h => absurd h hj⟩
    refine ⟨(List.range len).map F, ⟨some a, m, by simp, fun j y hy => ?_⟩, by simp; omega⟩
    have hj : j < len := by have := (List.getElem?_eq_some_iff.1 hy).1; simpa using this
    have e : y = F j := by simp [hj] at hy; exact hy.symm
    subst e
    obtain ⟨f0, f1, f2, f3⟩ := hF j hj
    obtain ⟨g0, _⟩ := hF 0 (by omega)
    obtain ⟨B, O, rfl⟩ := plain_of (by simpa using g0)
    rw [add_plain] at f0 f1 f2 f3
    exact ⟨B, O, rfl, unpend_cell f0, unpend_cell f1, unpend_cell f2, unpend_cell f3⟩
set_option maxRecDepth 100000 in
/-- Scripts that came in. -/
theorem scrs_open {H : Type} {enc : TypeId × Value → H} {W : World} {base : Nat} {v : Value} {d : DataW H} {p : List MemPlace} (hval : Value.okWide Try.prog W .any base 32 v) (h : DataW.Trod enc Try.prog W 0 (fun _ => true) true 32 v d p) :
    ∃ (n : Nat) (L : Nat → List ACall), ScrsAt (unpend W) v n L ∧ n ≤ maxLen ∧ ∀ j, j < n → (L j).length ≤ maxLen := by
  obtain ⟨a0, len, cap, rfl⟩ := okWide_slice Try.underlying32 hval
  obtain ⟨fuel, hf⟩ := h
  rcases Go.Deep.open_slice1 Try.underlying32 a_cells1 hf with ⟨hcs, _⟩ | ⟨a, len', cap', m, n, V, D, Pl, hcs, _, hl, hm, hmm, _, hx⟩
  · simp [Value.cells] at hcs
    obtain ⟨rfl, rfl, rfl⟩ := hcs
    exact ⟨0, fun _ => [], ⟨none, 0, rfl, fun j hj => by omega⟩, Nat.zero_le _, fun j hj => by omega⟩
  · simp [Value.cells] at hcs
    obtain ⟨rfl, rfl, rfl⟩ := hcs
    simp only [if_true] at hmm
    subst hmm
    obtain ⟨L, hL⟩ := Classical.axiomOfChoice (r := fun (j : Nat) (l : List ACall) => j < len → CallsAt (unpend W) (V j) l ∧ l.length ≤ maxLen) fun j => by
      by_cases hj : j < len
      · obtain ⟨l, hl⟩ := calls_open (base := base) (hx j (by omega)).2
        exact ⟨l, fun _ => hl⟩
      · exact ⟨[], fun h => absurd h hj⟩
    refine ⟨len, L, ⟨some a, m, rfl, fun j hj => ?_⟩, by omega, fun j hj => (hL j hj).2⟩
    have h0 := (hx 0 (by omega)).1
    obtain ⟨B, O, rfl⟩ := plain_of h0
    have hj1 := (hx j (by omega)).1
    rw [add_plain] at hj1
    exact ⟨B, O, V j, rfl, unpend_cell hj1, (hL j hj).1⟩
end Go.Proofs.Ytlnjmheocfbimaa


/- CounterTimes returns true, whatever the schedule, the number of shards and the scripts, and leaves its arguments alone. -/
namespace Go.Proofs.Ytlnjmheocfbimaa
open Go Go.ChangeShapes Go.WideShapes Go.ChangeAt Go.RowKit Go.Conc Go.ConcN
theorem times_params : Try.f5.params = #[22, 3, 32] := by kernel_rfl
theorem times_results : Try.f5.resultTypes = #[4] := by kernel_rfl
theorem a_bytes : Try.prog.bytesOf 3 = 8 := by kernel_rfl
set_option maxRecDepth 100000 in
theorem times_lifted (os : Os) (started : os.Started) (H : Type) (enc : TypeId × Value → H) :
    ReturnsInLeavingWide {} Try.checked os 5 .any (Rows.counterTimesSpec.pre6 enc Try.prog Try.f5 Rows.counterTimesRow.domain false) (Rows.counterTimesSpec.post enc Try.prog Try.f5 false true false false) := by
  refine returnsInLeavingWide_of_change_sized (C := Try.checked) a_own started Try.func5
    (ChangeSpec.witness6 (enc := enc) (C := Try.checked) false ⟨#[], #[.slice none 0 0, .int .i64 0, .slice none 0 0], []⟩ 8 (by kernel_rfl) (by kernel_rfl) (by kernel_rfl) (by kernel_rfl)) ?_
  intro W base args ds gs before hval0 hW hcnd0 hwt0 _
  have hval : ∀ (j : Nat) t v, Try.f5.params[j]? = some t → args[j]? = some v → Value.okWide Try.prog W .any base t v := hval0
  clear hcnd0
  have hW' := hW
  obtain ⟨p, q, hA0, hV, rfl, _, _⟩ := hW
  have hA : DataW.TrodAll enc Try.prog W 0 (fun _ => true) true Try.f5.params.toList args.toList ds p := hA0
  have hwt : (DataW.weightsEach Try.prog (Try.f5.params.toList ++ Rows.counterTimesSpec.plain.varTypes Try.prog) (ds ++ gs)).all (· ≤ reachBytes) = true := hwt0
  rw [times_params] at hA hval hwt
  obtain ⟨v0, v1, v2, d0, d1, d2, p0, p1, p2, rfl, rfl, rfl, h0, h1, h2⟩ := trodAll_three hA
  obtain ⟨rfl, rfl⟩ := trodVars_none hV
  obtain ⟨A, hA1, hA2, hA3⟩ := sched_open (hval 0 22 v0 rfl rfl) h0
  obtain ⟨z, rfl, rfl, rfl, hz⟩ := open_int Try.underlying3 (hval 1 3 v1 rfl rfl) h1
  obtain ⟨n, L, hL1, hL2, hL3⟩ := scrs_open (hval 2 32 v2 rfl rfl) h2
  have hlen : A.length ≤ 2 ^ 44 := by
    rcases hA3 with rfl | ⟨el, sp, rfl, hel⟩
    · exact Nat.zero_le _
    · have h := sized_slice hwt (j := 0) (t := 22) (e := 3) rfl rfl Try.underlying22
      rw [a_bytes] at h
      have hr : reachBytes = 140737488351232 := by decide
      rw [hr] at h
      omega
  simp only [List.append_nil] at hW'
  have hlt : ∀ x ∈ p0 ++ p2, x.block < W.heap.size := fun x hx => by simpa using hW'.lt x (by simpa using hx)
  obtain ⟨M, last, o, w', t', r1, r2, r3, r4⟩ := run_good (sim_unpend W) (Times_run (W0 := W) (sim_unpend W).ready (sh := z) ⟨hA1, hlen, hA2, hL1, hL2, hL3⟩)
  refine ⟨M, last, o, w', t', r1, r2, r3, r4.mono fun x hx => ?_⟩
  obtain ⟨rfl, v, S, hG, hs, hsh⟩ := hx
  have hb := below_of hG hs hsh
  have t0 := Below.trod a_laidOut (by kernel_rfl) (of_decide_eq_true (by kernel_rfl)) h0 hb (fun x hx => hlt x (by simp [hx]))
  have t1 : DataW.Trod enc Try.prog w' 0 (fun b => decide (b < W.heap.size)) true 3 (.int .i64 z) (.lit (.int .i64 z)) [] := shut_int Try.underlying3 hz
  have t2 := Below.trod a_laidOut (by kernel_rfl) (of_decide_eq_true (by kernel_rfl)) h2 hb (fun x hx => hlt x (by simp [hx]))
  refine ⟨_, _, _, [], p0 ++ ([] ++ p2), [], hW', ?_, ?_, rfl, hb.frame _, fun h => by cases h⟩
  · rw [times_results]
    exact trodAll_mk1 (shut_bool Try.underlying4 true)
  · rw [times_params]
    exact trodAll_mk3 t0 t1 t2
/-- CounterTimes: whatever comes in: true; and what came in reads as it did. -/
theorem times_holds : Rows.CounterTimesSaid :=
  OpenClaim.holds_of_wide_leaving 5 Try.f5 rfl rfl rfl rfl rfl rfl rfl ⟨rfl, rfl, rfl, rfl, rfl⟩ rfl rfl rfl rfl rfl (by kernel_rfl) Try.func5 (by kernel_rfl)
    (of_decide_eq_true (by kernel_rfl)) (by unfold Func.isWrapper; first | (rw [if_pos (by decide +kernel)]; kernel_rfl) | (rw [if_neg (by decide +kernel)]; exact ⟨rfl, rfl⟩))
    (fun os started H enc _ => times_lifted os started H enc)
#print axioms times_holds
end Go.Proofs.Ytlnjmheocfbimaa

