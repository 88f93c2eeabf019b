/- Joined texts: WrnO WrnP WrnQ WrnR WrnS WrnT WrnU WrnV PlnA PlnB PlnC PlnD PlnE PlnF PlnG TimA WrnW PlnH TimB TimC WrnX. -/
import Derived.Test.YtlnjmheocfbimaaT05
import Derived.KernelRfl
import Derived.Laws.StructEq
import Derived.Below
set_option linter.all false
/- counter.Play, of a new world. -/
namespace Go.Proofs.Ytlnjmheocfbimaa
open Go Go.Conc
open Classical in
/-- Whose is what, ahead of the run: the system's words; all else stands. -/
noncomputable def ownOf (X : Nat → Prop) : Nat → Own := fun b => if X b then .sys else .const
theorem ownOf_sys {X : Nat → Prop} {b : Nat} (h : X b) : ownOf X b = .sys := if_pos h
theorem ownOf_const {X : Nat → Prop} {b : Nat} (h : ¬ X b) : ownOf X b = .const := if_neg h
theorem CEnv.extd {bx C g m cap : Nat} {Γ Γ' : Gho} {u v : World} (h : CEnv bx C g m cap Γ u) (hX : Ext Γ u Γ' v) : CEnv bx C g m cap Γ' v := by
  obtain ⟨_, _, _, _, _, e6, e7⟩ := hX.same
  refine ⟨⟨hX.grow.at h.bx.1, (hX.own _ (lt_of_heap h.bx.1)).trans h.bx.2⟩, ⟨hX.grow.at h.c.1, (hX.own _ (lt_of_heap h.c.1)).trans h.c.2⟩, fun j hj => ?_, ⟨Nat.lt_of_lt_of_le h.g.1 hX.grow.size, (hX.own _ h.g.1).trans h.g.2⟩, ⟨h.m.1, h.m.2.1, by rw [e7]; exact h.m.2.2⟩⟩
  obtain ⟨h1, h2⟩ := h.sh j hj
  rw [e6]
  exact ⟨grow_cell hX.grow h1, Nat.lt_of_lt_of_le h2 hX.grow.size⟩
/-- A script that lies apart from X. -/
def ScrAt (X : Nat → Prop) (v : World) (lv : Value) (l : List ACall) : Prop :=
  ∃ a cap, lv = .slice a l.length cap ∧ ∀ (j : Nat) (x : ACall), l[j]? = some x → ∃ B O, a = some ⟨B, O, none⟩ ∧ B < v.heap.size ∧ ¬ X B ∧
    v.cell? ⟨B, O + j * 4, none⟩ = some (.int .i64 x.op) ∧ v.cell? ⟨B, O + j * 4 + 1, none⟩ = some (.int .i64 x.a) ∧ v.cell? ⟨B, O + j * 4 + 2, none⟩ = some (.int .i64 x.b) ∧ v.cell? ⟨B, O + j * 4 + 3, none⟩ = some (.int .i64 x.c)
/-- A counter's world, ahead of the run. -/
def sys0 (sl : List Int) (m : Nat) : Sys := ⟨sl, 0, -1, List.replicate m 0, List.replicate m 0, [], false, []⟩
/-- What the threads do. -/
def counterProgs (f m n : Nat) (l : Nat → List ACall) : List Prog := (List.range n).map fun i => Prog.calls (counterP f m i) false 0 (l i) [] .done
/-- A new world stands. -/
structure NewW (u : World) (W ch : Nat) (rv : Value) (sl : List Int) : Prop where
  w : u.heap[W]? = some (.cells #[rv, .int .i64 0, .int .i64 (-1), .slice none 0 0, .slice none 0 0, .slice none 0 0, .bool false, .bool false, .chan (some ch)] 74 (0, 0))
  c : u.heap[ch]? = some (.chan 0 #[] false 0 0 false)
  owns : u.ownsRow 0 3 1 rv sl.length (ints sl)
/-- Its words' blocks. -/
def wordsOf (W ch : Nat) (rv : Value) (b : Nat) : Prop := b = W ∨ b = ch ∨ rv.ownBlock = some b
theorem sim_rows {v : World} : v.ownsRow 0 3 1 (.slice none 0 0) 0 [] := ⟨rfl, .inl ⟨rfl, rfl⟩⟩
section
variable {Done : Goroutine → World → Prop}
theorem Play_run {u : World} {W ch N : Nat} {rv : Value} {sl : List Int} (hr : Ready0 u) (hN : NewW u W ch rv sl) (hsl : (∀ x ∈ sl, -9223372036854775808 ≤ x ∧ x ≤ 9223372036854775807) ∧ sl.length < 2 ^ 62) (hN0 : 0 < N) {I : Inbs} (hI : ∀ x, x ≠ 0 → I x = none) {sh : Int} {sv : Value} {n : Nat} {lv : Nat → Value} {l : Nat → List ACall}
    (hS : Scripts u sv n lv fun j => (l j).length) (hsv : ∃ ad cp, sv = .slice ad n cp) (hsb : 0 < n → ∀ B O cp, sv = .slice (some ⟨B, O, none⟩) n cp → ¬ wordsOf W ch rv B) (hscr : ∀ j, j < n → ScrAt (wordsOf W ch rv) u (lv j) (l j)) {c0 : Frame} {cs : List Frame}
    (he : ∀ v', Grow u v' → mayE n (fun j => (l j).length) false ≠ 0 → Run Try.prog Done S0 0 N I (G (c0.finish (.tuple #[.slice none 0 0, .int .i64 (mayE n (fun j => (l j).length) false)])) cs) v')
    (hbad : ∀ v', Grow u v' → mayE n (fun j => (l j).length) false = 0 → (sh < 1 ∨ 16 < sh) → Run Try.prog Done S0 0 N I (G (c0.finish (.tuple #[.slice none 0 0, .int .i64 1])) cs) v')
    {fu f : Nat} (hrun : mayE n (fun j => (l j).length) false = 0 → 1 ≤ sh → sh ≤ 16 → ∃ res, runs f (sys0 sl sh.toNat) (counterProgs fu sh.toNat n l) = some res ∧
      ∀ Γ' v' I' ob, WI Γ' res.1 v' → (∀ x, x ≠ 0 → I' x = none) → res.2.length = n → (∀ i r, res.2[i]? = some r → FinOut i ob r Γ' v') → (∀ b, b < u.heap.size → ¬ wordsOf W ch rv b → v'.heap[b]? = u.heap[b]?) → Γ'.W = W → u.heap.size ≤ ob →
        Run Try.prog Done S0 0 (N + n) I' (G (c0.finish (.tuple #[.slice (some ⟨ob, 0, none⟩) n n, .int .i64 0])) cs) v') :
    Run Try.prog Done S0 0 N I (G (Frame.enter Try.prog 13 #[.pointer (some ⟨W, 0, none⟩), .int .i64 sh, sv] .normal) (c0 :: cs)) u := by
  obtain ⟨ad, cp, rfl⟩ := hsv
  have hw := hN.w
  refine Run.of_hold ?_
  obtain ⟨b, a, hEq, hb, hbf, hat⟩ := enter_is Play_fn Play_body Play_tmps #[.pointer (some ⟨W, 0, none⟩), .int .i64 sh, .slice ad n cp] [(0, .pointer (some ⟨W, 0, none⟩)), (1, .int .i64 sh), (2, .slice ad n cp)] rfl (by simp)
  rw [hEq]
  have hbk := not_early hb
  refine hold_unf Play_code_def <| hold_seq <| hold_region (l := [0,1]) rfl <| h_val noA hbk Play_0 rfl rfl (by decide) hat (r_assign rfl) fun a hat => h_val noA hbk Play_0 rfl rfl (by decide) hat (r_assign rfl) fun a hat => hold_region_end <| hold_seq <| hold_seq <| hold_region (l := [0,1,2,3]) rfl <| h_val noA hbk Play_1 rfl rfl (by decide) hat (r_move rfl) fun a hat => h_val noA hbk Play_1 rfl rfl (by decide) hat (r_move rfl) fun a hat => h_callc hbk Play_1 rfl (by decide) hat May_fn May_bd May_nm (vals := #[_, _, _]) rfl fun c hc => May_hold hw rfl hS ⟨_, _, rfl⟩ fun v hg0 => ?_
  refine hold_fin hc fun a hat => h_val noA hbk Play_1 rfl rfl (by decide) hat (r_assign rfl) fun a hat => hold_region_end <| hold_seq <| hold_region (l := [0,1]) rfl <| h_val noA hbk Play_2 rfl rfl (by decide) hat (r_move rfl) fun a hat => ?_
  by_cases h0 : mayE n (fun j => (l j).length) false = 0
  rotate_left
  · refine h_val noA hbk Play_2 rfl (opOk_eq (by kernel_rfl)) (by decide) hat (r_bool (t' := true) (r_neq rfl rfl) (by simpa using h0)) fun a hat => hold_region_end <| hold_condT (hat.eval (q := .tmp 14) rfl) rfl <| hold_seq <| hold_region (l := [0,1,2]) rfl <| h_val noA hbk Play_3 rfl rfl (by decide) hat (r_move rfl) fun a hat => h_val noA hbk Play_3 rfl rfl (by decide) hat (r_assign rfl) fun a hat => h_val noA hbk Play_3 rfl rfl (by decide) hat (r_assign rfl) fun a hat => hold_region_end <| hold_retd hb hbf Play_fn hat.defers (ret_two Play_res hat rfl rfl) ?_
    exact hold_run (he _ hg0 h0)
  refine h_val noA hbk Play_2 rfl (opOk_eq (by kernel_rfl)) (by decide) hat (r_bool (t' := false) (r_neq rfl rfl) (by simpa using h0)) fun a hat => hold_region_end <| hold_condF (hat.eval (q := .tmp 14) rfl) rfl <| hold_skip <| hold_seq <| hold_seq <| hold_region (l := [0,1,2,3,4,5]) rfl <| h_val noA hbk Play_4 rfl rfl (by decide) hat (r_move rfl) fun a hat => ?_
  by_cases h1 : sh < 1
  · refine h_val noA hbk Play_4 rfl rfl (by decide) hat (r_bool (t' := true) (r_lss rfl rfl) (by simp; omega)) fun a hat => h_val noA hbk Play_4 rfl rfl (by decide) hat (r_move rfl) fun a hat => hg_no Play_4 rfl rfl rfl rfl (by decide) hat fun a hat => hg_no Play_4 rfl rfl rfl rfl (by decide) hat fun a hat => h_val noA hbk Play_4 rfl rfl (by decide) hat (r_pick rfl rfl) fun a hat => hold_region_end <| hold_condT (hat.eval (q := .tmp 21) rfl) rfl <| hold_seq <| hold_region (l := [0,1]) rfl <| h_val noA hbk Play_5 rfl rfl (by decide) hat (r_assign rfl) fun a hat => h_val noA hbk Play_5 rfl rfl (by decide) hat (r_assign rfl) fun a hat => hold_region_end <| hold_retd hb hbf Play_fn hat.defers (ret_two Play_res hat rfl rfl) ?_
    exact hold_run (hbad _ hg0 h0 (.inl h1))
  refine h_val noA hbk Play_4 rfl rfl (by decide) hat (r_bool (t' := false) (r_lss rfl rfl) (by simp; omega)) fun a hat => h_val noA hbk Play_4 rfl rfl (by decide) hat (r_move rfl) fun a hat => hg_yes noA hbk Play_4 rfl rfl rfl rfl (by decide) hat (r_move rfl) fun a hat => ?_
  by_cases h2 : 16 < sh
  · refine hg_yes noA hbk Play_4 rfl rfl rfl rfl (by decide) hat (r_bool (t' := true) (r_gtr rfl rfl) (by simp; omega)) fun a hat => h_val noA hbk Play_4 rfl rfl (by decide) hat (r_pick rfl rfl) fun a hat => hold_region_end <| hold_condT (hat.eval (q := .tmp 21) rfl) rfl <| hold_seq <| hold_region (l := [0,1]) rfl <| h_val noA hbk Play_5 rfl rfl (by decide) hat (r_assign rfl) fun a hat => h_val noA hbk Play_5 rfl rfl (by decide) hat (r_assign rfl) fun a hat => hold_region_end <| hold_retd hb hbf Play_fn hat.defers (ret_two Play_res hat rfl rfl) ?_
    exact hold_run (hbad _ hg0 h0 (.inr h2))
  refine hg_yes noA hbk Play_4 rfl rfl rfl rfl (by decide) hat (r_bool (t' := false) (r_gtr rfl rfl) (by simp; omega)) fun a hat => h_val noA hbk Play_4 rfl rfl (by decide) hat (r_pick rfl rfl) fun a hat => hold_region_end <| hold_condF (hat.eval (q := .tmp 21) rfl) rfl <| hold_skip <| hold_seq <| hold_region (l := [0,1,2,3,4]) rfl <| h_val noA hbk Play_6 rfl rfl (by decide) hat (r_move rfl) fun a hat => h_val noA hbk Play_6 rfl rfl (by decide) hat (r_move rfl) fun a hat => h_callc hbk Play_6 rfl (by decide) hat cNew_fn cNew_bd cNew_nm (vals := #[_, _]) rfl fun c hc => cNew_hold (hg0.ready hr) (hg0.at hw) sim_rows (by decide) fun v cv C lvv cb hr2 hC hSh => hold_fin hc fun a hat => ?_
  have hG := Grow.refl v
  refine h_new noA hbk Play_6 rfl rfl (by decide) hat al_24 fun v a B9 hB9 hsB9 hg F9 hat => ?_
  have gB9 := Nat.le_trans hG.size (Nat.le_of_eq hB9)
  replace hG := hG.trans hg
  refine h_put noA hbk Play_6 rfl rfl hat (p_store st_24 rfl rfl rfl F9 rfl rfl) fun v a hP F9x hat => ?_
  simp only [List.setIfInBounds_toArray, List.set_cons_succ, List.set_cons_zero] at F9x
  replace hG := hG.put hP gB9
  replace F9 := F9x; clear F9x
  refine hold_region_end <| hold_seq <| hold_region (l := [0,1,2,3,4,5]) rfl <| h_val noA hbk Play_7 rfl rfl (by decide) hat (r_move rfl) fun a hat => h_val noA hbk Play_7 rfl rfl (by decide) hat (r_move rfl) fun a hat => h_val noA hbk Play_7 rfl rfl (by decide) hat (mf_30_1 rfl) fun a hat => h_callc hbk Play_7 rfl (by decide) hat PRun_fn PRun_bd PRun_nm (vals := #[_, _, _]) rfl fun c hc => ?_
  have hm : many sh = sh.toNat := by unfold many; omega
  rw [hm] at hC hSh
  obtain ⟨res, hres, K⟩ := hrun h0 (by omega) (by omega)
  generalize hmm : sh.toNat = m at *
  have hm1 : 1 ≤ m := by omega
  have hm2 : m ≤ 16 := by omega
  have hCw := hG.at hC.w
  have hCo := owns_grow hC.owns hG
  simp only [Nat.zero_add, List.nil_append] at hCo
  obtain ⟨gl, capl, curl, rfl, _, hgl, hcap, hcapm, hlsz, hltk⟩ := hSh.l.2.resolve_left (fun h => by have := h.2; omega)
  have hgl3 := hG.at hgl
  have hc3 := hG.at hSh.c
  have hmods : Mods (fun b => b = W) u v := hg0.mods.trans ((hC.mods.mono fun b _ h => h.resolve_right fun h => by cases h).trans hG.mods)
  have hchW : ch ≠ W := fun e => by have := hN.c; rw [e, hw] at this; cases this
  have hch3 : v.heap[ch]? = some (.chan 0 #[] false 0 0 false) := hmods.at hchW hN.c
  have hrvW := own_ne hN.owns hw (by decide)
  have hrv3 : v.ownsRow 0 3 1 rv sl.length (ints sl) := ownsRow_keep hN.owns fun b c' hb hc' => (hmods.same b (lt_of_heap hc') fun e => hrvW (by rw [hb, e]))
  have hcells : ∀ j, j < m → u.heap.size ≤ cb j ∧ v.heap[cb j]? = some (.cells #[.int .i64 j, .int .i64 0] 89 (0, 0)) := fun j hj => by
    obtain ⟨c1, c2⟩ := hSh.cells j hj
    rw [Nat.zero_add] at c2
    exact ⟨Nat.le_trans hg0.size c1, hG.at c2⟩
  have hcvn : cv.ownBlock = none ∨ ∀ b, cv.ownBlock = some b → u.heap.size ≤ b := hC.where_.imp id fun h b hb => Nat.le_trans hg0.size (h b hb)
  have hrd3 := hG.ready hr2
  obtain ⟨X, hXX⟩ : ∃ X : Nat → Prop, ∀ b, X b ↔ (wordsOf W ch rv b ∨ cv.ownBlock = some b ∨ ∃ j, j < m ∧ b = cb j) := ⟨_, fun _ => Iff.rfl⟩
  have hX1 : ∀ b, b < u.heap.size → X b → wordsOf W ch rv b := fun b hb h => by
    rcases (hXX b).1 h with h | h | ⟨j, hj, rfl⟩
    · exact h
    · rcases hcvn with h' | h'
      · rw [h'] at h; cases h
      · have := h' b h; omega
    · have := (hcells j hj).1; omega
  have hX2 : ∀ (b : Nat) (arr : Array Value) (t : TypeId) (fr : Nat × Nat), v.heap[b]? = some (.cells arr t fr) → t ≠ 74 → t ≠ 3 → t ≠ 89 → ¬ X b := fun b arr t fr hb n1 n2 n3 h => by
    rcases (hXX b).1 h with (rfl | rfl | h) | h | ⟨j, hj, rfl⟩
    · rw [hCw] at hb; cases hb; exact n1 rfl
    · rw [hch3] at hb; cases hb
    · exact own_ne hrv3 hb n2 h
    · exact own_ne hCo hb n2 h
    · rw [(hcells j hj).2] at hb; cases hb; exact n3 rfl
  have hltW := lt_of_heap hCw
  have hsX : ∀ b, wordsOf W ch rv b ∨ cv.ownBlock = some b ∨ (∃ j, j < m ∧ b = cb j) → ownOf X b = .sys := fun b h => ownOf_sys ((hXX b).2 h)
  have hcvW := own_ne hCo hCw (by decide)
  have hWN : WNew ⟨W, ch, N, fun _ => 0, fun _ => 0, cb, m, ownOf X⟩ (sys0 sl m) v := by
    refine ⟨rv, .int .i64 0, .int .i64 (-1), cv, .slice none 0 0, .slice none 0 0, .bool false, hCw, ⟨fun r x y hr => ?_, ⟨rv, cv, .slice none 0 0, .slice none 0 0, stand_at hltW, ownsRow_keep hrv3 fun b _ hb hb' => stand_ne fun e => ?_, ?_, ⟨rfl, .inl ⟨rfl, rfl⟩⟩, ⟨rfl, .inl ⟨rfl, rfl⟩⟩, fun b hb => hsX b (.inl (.inr (.inr hb))), fun b hb => hsX b (.inr (.inl hb)), fun b hb => by (cases hb), fun b hb => by (cases hb), ?_⟩, fun j t h => by simp [sys0] at h, ⟨⟨0, (stand_ne hchW).trans hch3⟩, hsX _ (.inl (.inr (.inl rfl))), hsX _ (.inl (.inl rfl))⟩, fun c x hc => ?_, Nat.zero_le _, fun x hx => ?_, fun i j hi => by simp [sys0] at hi, fun i hi => by simp [sys0] at hi, by simp [sys0], fun x hx => ?_⟩⟩
    · by_cases e : r = W
      · rw [e, stand_at hltW] at hr; cases hr
      · rw [stand_ne e] at hr; exact hrd3 r x y hr
    · exact own_ne hrv3 hCw (by decide) (by rw [hb, e])
    · have e0 : (sys0 sl m).cnt.length = m := by simp [sys0]
      have e1 : ints (sys0 sl m).cnt = List.replicate m (.int .i64 0) := by simp [sys0, ints]
      rw [e0, e1]
      exact ownsRow_keep hCo fun b _ hb hb' => stand_ne fun e => hcvW (by rw [hb, e])
    · rcases hcvn with h | h
      · by_cases e : rv.ownBlock = none
        · exact .inl e
        · right; rw [h]; exact e
      · by_cases e : rv.ownBlock = none
        · exact .inl e
        · right
          intro e2
          obtain ⟨b, hb⟩ := Option.ne_none_iff_exists'.1 e
          have := own_lt hN.owns hb
          have := h b (by rw [← e2]; exact hb)
          omega
    · have hcm : c < m := by have := (List.getElem?_eq_some_iff.1 hc).1; simpa [sys0] using this
      have hx0 : x = 0 := by
        have := List.mem_of_getElem? hc
        simp [sys0] at this
        exact this.2
      subst hx0
      obtain ⟨c1, c2⟩ := hcells c hcm
      exact ⟨(stand_ne fun (e : cb c = W) => by rw [e, hCw] at c2; cases c2).trans c2, hsX _ (.inr (.inr ⟨c, hcm, rfl⟩))⟩
    · simp [sys0] at hx; rw [hx.2]; decide
    · simp [sys0] at hx; rw [hx.2]; decide
  have hCE : CEnv B9 C gl m capl ⟨W, ch, N, fun _ => 0, fun _ => 0, cb, m, ownOf X⟩ v := by
    refine ⟨⟨F9, ownOf_const (hX2 _ _ _ _ F9 (by decide) (by decide) (by decide))⟩, ⟨hc3, ownOf_const (hX2 _ _ _ _ hc3 (by decide) (by decide) (by decide))⟩, fun j hj => ⟨?_, lt_of_heap (hcells j hj).2⟩, ⟨lt_of_heap hgl3, ownOf_const (hX2 _ _ _ _ hgl3 (by decide) (by decide) (by decide))⟩, hm1, hm2, Nat.le_refl _⟩
    rw [cell_at' hgl3]
    have h1 : (curl.toList.take (m * 1))[j]? = some (.pointer (some ⟨cb j, 0, none⟩)) := by rw [hltk]; simp [hj]
    rw [List.getElem?_take_of_lt (by omega)] at h1
    simpa using h1
  have hn8 : 1 ≤ n ∧ n ≤ 8 := by
    unfold mayE at h0
    split at h0
    · cases h0
    · split at h0
      · cases h0
      · omega
  have hlen : ∀ j, j < n → (l j).length ≤ 64 := fun j hj => by
    unfold mayE at h0
    split at h0
    · cases h0
    · rename_i hno
      by_cases h : (l j).length ≤ 64
      · exact h
      · exact absurd ⟨j, hj, (by show 64 < (l j).length; omega)⟩ hno
  obtain ⟨ad', cp', hsve, hat0⟩ := hS.at_
  cases hsve
  obtain ⟨sb, so, rfl, _⟩ := hat0 0 (by omega)
  have hsbW := hsb (by omega) sb so cp rfl
  have hkeep : ∀ b, b < u.heap.size → ¬ wordsOf W ch rv b → v.heap[b]? = u.heap[b]? := fun b hb hx => hmods.same b hb fun e => hx (.inl e)
  have hkc : ∀ B O x, u.cell? ⟨B, O, none⟩ = some x → ¬ wordsOf W ch rv B → v.cell? ⟨B, O, none⟩ = some x := fun B O x hx hn => (cell_same (hkeep B (cell_low hx) hn)).trans hx
  refine hold_run (PRun_run (Γ := ⟨W, ch, N, fun _ => 0, fun _ => 0, cb, m, ownOf X⟩) ⟨n, fun _ => 0, fun _ => 0, 0, 0, 0, lv, counterV B9, fun i => counterP fu m i, l, CEnv B9 C gl m capl⟩ (by show 0 < n; omega) (by show n ≤ 1000; omega) (fun ob i _ => counter_do fu) (fun i Γ v Γ' v' h hR => h.keepU hR) rfl hWN rfl ⟨hsl.1, hsl.2⟩ hN0 hI (fun Γ' v' hX => hCE.extd hX) (fun j hj => ?_) (fun j hj => ?_) hres c (c0 :: cs) fun Γ' v' I' ob hWI hI' hlr hfin hM hob => ?_)
  · obtain ⟨B, O, e1, e2⟩ := hat0 j hj
    cases e1
    exact hkc _ _ _ e2 hsbW
  · obtain ⟨a', cap', e1, e2⟩ := hscr j hj
    refine ⟨a', cap', e1, hlen j hj, fun x y hx => ?_⟩
    obtain ⟨B, O, g1, g2, g3, g4, g5, g6, g7⟩ := e2 x y hx
    exact ⟨B, O, g1, Nat.lt_of_lt_of_le g2 hmods.size, ownOf_const fun h => g3 (hX1 B g2 h), hkc _ _ _ g4 g3, hkc _ _ _ g5 g3, hkc _ _ _ g6 g3, hkc _ _ _ g7 g3⟩
  · refine Run.of_hold <| hold_fin hc fun a hat => h_val noA hbk Play_7 rfl rfl (by decide) hat (r_assign rfl) fun a hat => h_val noA hbk Play_7 rfl rfl (by decide) hat (r_assign rfl) fun a hat => hold_region_end <| hold_retd hb hbf Play_fn hat.defers (ret_two Play_res hat rfl rfl) ?_
    exact hold_run (K Γ' v' I' ob hWI hI' hlr hfin (fun b hb hx => (hM.keep b (Nat.lt_of_lt_of_le hb hmods.size) (.inr (ownOf_const fun h => hx (hX1 b hb h)))).trans (hkeep b hb hx)) hM.same.1 (Nat.le_trans hmods.size hob))
end
end Go.Proofs.Ytlnjmheocfbimaa


/- awake. -/
namespace Go.Proofs.Ytlnjmheocfbimaa
open Go Go.Conc
def awakeL : Nat → List ACall
  | 0 => [⟨1, 5, 0, 0⟩, ⟨2, 0, 0, 0⟩]
  | _ => [⟨1, -7, 0, 0⟩]
theorem awake_runs : (runs 60 (sys0 [] 2) (counterProgs 8 2 2 awakeL)).map (·.2) = some [[(0, 0), (0, -2)], [(0, 0)]] := by kernel_rfl
end Go.Proofs.Ytlnjmheocfbimaa


/- SameAnswers. -/
namespace Go.Proofs.Ytlnjmheocfbimaa
open Go Go.Conc
theorem r_neqAns {e : Env} {q q' : Operand} {t' : TypeId} {v : World} {x0 x1 y0 y1 : Int} (h : opv e q = some (.agg #[.int .i64 x0, .int .i64 x1])) (h' : opv e q' = some (.agg #[.int .i64 y0, .int .i64 y1])) : RunsTo Try.prog e (.binOp .neq 53 q q' t') v (.value (.bool (!(x0 == y0 && x1 == y1)))) v := fun ρ o hρ ho t d => by
  simp only [execOp, ho, hρ _ _ h, hρ _ _ h']
  simp [go_sem]
  by_cases h1 : x0 = y0 <;> by_cases h2 : x1 = y1 <;> simp [h1, h2]
/-- A slice of answers, as it reads. -/
def AnsAt (v : World) (av : Value) (r : List (Int × Int)) : Prop :=
  ∃ ad cap, av = .slice ad r.length cap ∧ ∀ (j : Nat) (x : Int × Int), r[j]? = some x → ∃ B O, ad = some ⟨B, O, none⟩ ∧ v.cell? ⟨B, O + j * 2, none⟩ = some (.int .i64 x.1) ∧ v.cell? ⟨B, O + j * 2 + 1, none⟩ = some (.int .i64 x.2)
def AnssAt (v : World) (av : Value) (rs : List (List (Int × Int))) : Prop :=
  ∃ ad cap, av = .slice ad rs.length cap ∧ ∀ (i : Nat) (r : List (Int × Int)), rs[i]? = some r → ∃ B O x, ad = some ⟨B, O, none⟩ ∧ v.cell? ⟨B, O + i, none⟩ = some x ∧ AnsAt v x r
theorem AnsAt.grow {v v' : World} {av : Value} {r : List (Int × Int)} (h : AnsAt v av r) (g : Grow v v') : AnsAt v' av r := by
  obtain ⟨ad, cap, h1, h2⟩ := h
  exact ⟨ad, cap, h1, fun j x hx => by obtain ⟨B, O, e1, e2, e3⟩ := h2 j x hx; exact ⟨B, O, e1, grow_cell g e2, grow_cell g e3⟩⟩
theorem AnssAt.grow {v v' : World} {av : Value} {rs : List (List (Int × Int))} (h : AnssAt v av rs) (g : Grow v v') : AnssAt v' av rs := by
  obtain ⟨ad, cap, h1, h2⟩ := h
  exact ⟨ad, cap, h1, fun j x hx => by obtain ⟨B, O, y, e1, e2, e3⟩ := h2 j x hx; exact ⟨B, O, y, e1, grow_cell g e2, e3.grow g⟩⟩
section
variable {S : Addr → Prop} {main : Bool} {Stop : Goroutine → World → Prop} {cs : List Frame} {c : Frame}
theorem Same_in {av bv : Value} {rs rs' : List (List (Int × Int))} {x y : List (Int × Int)} {i : Nat} (hx : rs[i]? = some x) (hy : rs'[i]? = some y) (hxy : x.length = y.length) (hsm : x.length < 2 ^ 62) (hsi : rs.length < 2 ^ 62) (hle : rs.length = rs'.length) {b : Frame} (hb : b.kind = .normal) (hbf : b.fn = 18) {k : List Item}
    {u : World} (Hn : x ≠ y → ∀ v, Grow u v → Hold Try.prog main S Stop (G (c.finish (.bool false)) cs) v)
    (H : x = y → ∀ v a, Grow u v → AnssAt v av rs → AnssAt v bv rs' → AtE 53 [] [(5, .int .i64 i), (1, bv), (0, av)] a → Hold Try.prog main S Stop (G (b.at a k) (c :: cs)) v) :
    ∀ (r j : Nat) (v : World) (a : Act), j + r = x.length → x.take j = y.take j → Grow u v → AnssAt v av rs → AnssAt v bv rs' → AtE 53 [] [(6, .int .i64 j), (5, .int .i64 i), (1, bv), (0, av)] a → Hold Try.prog main S Stop (G (b.at a (.code Same_L1 :: .inLoop Same_L1 :: .inBlock 2 :: k)) (c :: cs)) v := by
  have hbk := not_early hb
  have hi := (List.getElem?_eq_some_iff.1 hx).1
  intro r
  induction r with
  | zero =>
    intro j v a hj ht hg hA hB hat
    obtain ⟨ad, cap, rfl, hA2⟩ := id hA
    obtain ⟨B, O, xv, rfl, hA3, ad2, cap2, rfl, hA4⟩ := hA2 i x hx
    refine hold_unf Same_L1_def <| hold_seq <| hold_seq <| hold_region (l := [0,1,2,3,4,5,6]) rfl <| h_val noA hbk Same_8 rfl rfl (by decide) hat (r_move rfl) fun a hat => h_val noA hbk Same_8 rfl rfl (by decide) hat (r_move rfl) fun a hat => h_val noA hbk Same_8 rfl rfl (by decide) hat (r_move rfl) fun a hat => h_val noA hbk Same_8 rfl rfl (by decide) hat (r_index ix_35 rfl rfl (by omega) (by omega)) fun a hat => h_val noA hbk Same_8 rfl rfl (by decide) hat (r_load ld_48 rfl (by simpa using hA3)) fun a hat => h_val noA hbk Same_8 rfl rfl (by decide) hat (r_len lk_48 rfl) fun a hat => h_val noA hbk Same_8 rfl rfl (by decide) hat (r_bool (t' := false) (r_lss rfl rfl) (by first | (simp; omega) | (simp; done) | (simp_all; done) | (simp_all; omega))) fun a hat => hold_region_end <| hold_condF (hat.eval (q := .tmp 35) rfl) rfl ?_
    refine hold_exit (k' := _) rfl ?_
    have hxy2 : x = y := by
      rw [List.take_of_length_le (by omega), List.take_of_length_le (by omega)] at ht; exact ht
    exact H hxy2 v a hg hA hB (hat.sub (AtE.cons rfl (AtE.cons rfl (AtE.cons rfl (AtE.nil)))))
  | succ r ih =>
    intro j v a hj ht hg hA hB hat
    obtain ⟨ad, cap, rfl, hA2⟩ := id hA
    obtain ⟨B, O, xv, rfl, hA3, ad2, cap2, rfl, hA4⟩ := hA2 i x hx
    obtain ⟨ad', cap', rfl, hB2⟩ := id hB
    obtain ⟨B', O', yv, rfl, hB3, ad2', cap2', rfl, hB4⟩ := hB2 i y hy
    obtain ⟨p, hp⟩ : ∃ p, x[j]? = some p := ⟨x[j]'(by omega), by simp⟩
    obtain ⟨q, hq⟩ : ∃ q, y[j]? = some q := ⟨y[j]'(by omega), by simp⟩
    obtain ⟨C, P, rfl, hp1, hp2⟩ := hA4 j p hp
    obtain ⟨C', P', rfl, hq1, hq2⟩ := hB4 j q hq
    have hsi' : rs'.length < 2 ^ 62 := by omega
    refine hold_unf Same_L1_def <| hold_seq <| hold_seq <| hold_region (l := [0,1,2,3,4,5,6]) rfl <| h_val noA hbk Same_8 rfl rfl (by decide) hat (r_move rfl) fun a hat => h_val noA hbk Same_8 rfl rfl (by decide) hat (r_move rfl) fun a hat => h_val noA hbk Same_8 rfl rfl (by decide) hat (r_move rfl) fun a hat => h_val noA hbk Same_8 rfl rfl (by decide) hat (r_index ix_35 rfl rfl (by omega) (by omega)) fun a hat => h_val noA hbk Same_8 rfl rfl (by decide) hat (r_load ld_48 rfl (by simpa using hA3)) fun a hat => h_val noA hbk Same_8 rfl rfl (by decide) hat (r_len lk_48 rfl) fun a hat => h_val noA hbk Same_8 rfl rfl (by decide) hat (r_bool (t' := true) (r_lss rfl rfl) (by first | (simp; omega) | (simp; done) | (simp_all; done) | (simp_all; omega))) fun a hat => hold_region_end <| hold_condT (hat.eval (q := .tmp 35) rfl) rfl ?_
    refine hold_skip <| hold_seq <| hold_block <| hold_seq <| hold_draw3 (ord := [0,1,2,3,4,5,6,7,8,9,10,11,12,13,14]) (bigs := []) mixed_ok (by kernel_rfl) (by kernel_rfl) hat <| tx_val noA hbk Same_9 rfl rfl (by decide) rfl (fun v hv => (r_move rfl)) <| tx_val noA hbk Same_9 rfl rfl (by decide) rfl (fun v hv => (r_move rfl)) <| tx_val noA hbk Same_9 rfl rfl (by decide) rfl (fun v hv => (r_index ix_35 rfl rfl (by omega) (by omega))) <| tx_val noA hbk Same_9 rfl rfl (by decide) rfl (fun v hv => (r_load ld_48 rfl (by simpa using grow_cell hv hA3))) <| tx_val noA hbk Same_9 rfl rfl (by decide) rfl (fun v hv => (r_move rfl)) <| tx_val noA hbk Same_9 rfl rfl (by decide) rfl (fun v hv => (r_index ix_48 rfl rfl (by omega) (by omega))) <| tx_val noA hbk Same_9 rfl rfl (by decide) rfl (fun v hv => (lg_53 rfl (by simpa using grow_cell hv hp1) (by simpa using grow_cell hv hp2))) <| tx_val noA hbk Same_9 rfl rfl (by decide) rfl (fun v hv => (r_move rfl)) ?_
    refine tx_val noA hbk Same_9 rfl rfl (by decide) rfl (fun v hv => (r_move rfl)) <| tx_val noA hbk Same_9 rfl rfl (by decide) rfl (fun v hv => (r_index ix_35 rfl rfl (by omega) (by omega))) <| tx_val noA hbk Same_9 rfl rfl (by decide) rfl (fun v hv => (r_load ld_48 rfl (by simpa using grow_cell hv hB3))) <| tx_val noA hbk Same_9 rfl rfl (by decide) rfl (fun v hv => (r_move rfl)) <| tx_val noA hbk Same_9 rfl rfl (by decide) rfl (fun v hv => (r_index ix_48 rfl rfl (by omega) (by omega))) <| tx_val noA hbk Same_9 rfl rfl (by decide) rfl (fun v hv => (lg_53 rfl (by simpa using grow_cell hv hq1) (by simpa using grow_cell hv hq2))) ?_
    by_cases hpq : p = q
    · refine tx_val noA hbk Same_9 rfl (opOk_eq (by kernel_rfl)) (by decide) rfl (fun v hv => (r_bool (t' := false) (r_neqAns rfl rfl) (by simp [hpq]))) <| tx_end fun v a hv hat => hold_region_end <| hold_condF (hat.eval (q := .tmp 52) rfl) rfl <| hold_skip <| hold_inBlock <| hold_region (l := [0,1,2]) rfl <| h_val noA hbk Same_11 rfl rfl (by decide) hat (r_move rfl) fun a hat => h_val noA hbk Same_11 rfl rfl (by decide) hat (r_add rfl rfl (by first | omega | (simp; omega))) fun a hat => h_val noA hbk Same_11 rfl rfl (by decide) hat (r_assign rfl) fun a hat => hold_region_end <| hold_inLoop ?_
      refine ih (j + 1) v a (by omega) ?_ (hg.trans hv) (hA.grow hv) (hB.grow hv) (hat.sub (AtE.cons rfl (AtE.cons rfl (AtE.cons rfl (AtE.cons rfl (AtE.nil))))))
      rw [List.take_add_one, List.take_add_one, ht, hp, hq, hpq]
    · skip
      refine tx_val noA hbk Same_9 rfl (opOk_eq (by kernel_rfl)) (by decide) rfl (fun v hv => (r_bool (t' := true) (r_neqAns rfl rfl) (by simp; exact Classical.or_iff_not_imp_left.2 fun h1 h2 => hpq (Prod.ext (Classical.not_not.1 h1) h2)))) <| tx_end fun v a hv hat => hold_region_end <| hold_condT (hat.eval (q := .tmp 52) rfl) rfl <| hold_seq <| hold_region (l := [0]) rfl <| h_val noA hbk Same_10 rfl rfl (by decide) hat (r_assign rfl) fun a hat => hold_region_end <| hold_retd hb hbf Same_fn hat.defers (ret_one Same_res hat rfl) ?_
      exact Hn (fun e => hpq (by rw [e, hq] at hp; exact (Option.some.inj hp).symm)) _ (hg.trans hv)
theorem Same_out {av bv : Value} {rs rs' : List (List (Int × Int))} (hle : rs.length = rs'.length) (hsi : rs.length < 2 ^ 62) (hsm : ∀ (i : Nat) (x : List (Int × Int)), rs[i]? = some x → x.length < 2 ^ 62) (hsm' : ∀ (i : Nat) (x : List (Int × Int)), rs'[i]? = some x → x.length < 2 ^ 62) {b : Frame} (hb : b.kind = .normal) (hbf : b.fn = 18) {k : List Item} {u : World}
    (Hn : rs ≠ rs' → ∀ v, Grow u v → Hold Try.prog main S Stop (G (c.finish (.bool false)) cs) v)
    (H : rs = rs' → ∀ v a, Grow u v → AtE 53 [] [] a → Hold Try.prog main S Stop (G (b.at a k) (c :: cs)) v) :
    ∀ (r i : Nat) (v : World) (a : Act), i + r = rs.length → rs.take i = rs'.take i → Grow u v → AnssAt v av rs → AnssAt v bv rs' → AtE 53 [] [(5, .int .i64 i), (1, bv), (0, av)] a → Hold Try.prog main S Stop (G (b.at a (.code Same_L0 :: .inLoop Same_L0 :: .inBlock 0 :: k)) (c :: cs)) v := by
  have hbk := not_early hb
  intro r
  induction r with
  | zero =>
    intro i v a hj ht hg hA hB hat
    obtain ⟨ad, cap, rfl, hA2⟩ := id hA
    refine hold_unf Same_L0_def <| hold_seq <| hold_seq <| hold_region (l := [0,1,2,3]) rfl <| h_val noA hbk Same_4 rfl rfl (by decide) hat (r_move rfl) fun a hat => h_val noA hbk Same_4 rfl rfl (by decide) hat (r_move rfl) fun a hat => h_val noA hbk Same_4 rfl rfl (by decide) hat (r_len lk_35 rfl) fun a hat => h_val noA hbk Same_4 rfl rfl (by decide) hat (r_bool (t' := false) (r_lss rfl rfl) (by first | (simp; omega) | (simp; done) | (simp_all; done) | (simp_all; omega))) fun a hat => hold_region_end <| hold_condF (hat.eval (q := .tmp 15) rfl) rfl <| hold_exit (k' := _) rfl ?_
    have hxy2 : rs = rs' := by
      rw [List.take_of_length_le (by omega), List.take_of_length_le (by omega)] at ht; exact ht
    exact H hxy2 v a hg (hat.sub (AtE.nil))
  | succ r ih =>
    intro i v a hj ht hg hA hB hat
    obtain ⟨ad, cap, rfl, hA2⟩ := id hA
    obtain ⟨ad', cap', rfl, hB2⟩ := id hB
    obtain ⟨x, hx⟩ : ∃ x, rs[i]? = some x := ⟨rs[i]'(by omega), by simp⟩
    obtain ⟨y, hy⟩ : ∃ y, rs'[i]? = some y := ⟨rs'[i]'(by omega), by simp⟩
    obtain ⟨B, O, xv, rfl, hA3, ad2, cap2, rfl, hA4⟩ := hA2 i x hx
    obtain ⟨B', O', yv, rfl, hB3, ad2', cap2', rfl, hB4⟩ := hB2 i y hy
    have hx1 := hsm i x hx
    have hy1 := hsm' i y hy
    have hsi' : rs'.length < 2 ^ 62 := by omega
    refine hold_unf Same_L0_def <| hold_seq <| hold_seq <| hold_region (l := [0,1,2,3]) rfl <| h_val noA hbk Same_4 rfl rfl (by decide) hat (r_move rfl) fun a hat => h_val noA hbk Same_4 rfl rfl (by decide) hat (r_move rfl) fun a hat => h_val noA hbk Same_4 rfl rfl (by decide) hat (r_len lk_35 rfl) fun a hat => h_val noA hbk Same_4 rfl rfl (by decide) hat (r_bool (t' := true) (r_lss rfl rfl) (by first | (simp; omega) | (simp; done) | (simp_all; done) | (simp_all; omega))) fun a hat => hold_region_end <| hold_condT (hat.eval (q := .tmp 15) rfl) rfl <| hold_skip <| hold_seq <| hold_block ?_
    refine hold_seq <| hold_seq <| hold_draw3 (ord := [0,1,2,3,4,5,6,7,8,9,10]) (bigs := []) mixed_ok (by kernel_rfl) (by kernel_rfl) hat <| tx_val noA hbk Same_5 rfl rfl (by decide) rfl (fun v hv => (r_move rfl)) <| tx_val noA hbk Same_5 rfl rfl (by decide) rfl (fun v hv => (r_move rfl)) <| tx_val noA hbk Same_5 rfl rfl (by decide) rfl (fun v hv => (r_index ix_35 rfl rfl (by omega) (by omega))) <| tx_val noA hbk Same_5 rfl rfl (by decide) rfl (fun v hv => (r_load ld_48 rfl (by simpa using grow_cell hv hA3))) <| tx_val noA hbk Same_5 rfl rfl (by decide) rfl (fun v hv => (r_len lk_48 rfl)) <| tx_val noA hbk Same_5 rfl rfl (by decide) rfl (fun v hv => (r_move rfl)) <| tx_val noA hbk Same_5 rfl rfl (by decide) rfl (fun v hv => (r_move rfl)) <| tx_val noA hbk Same_5 rfl rfl (by decide) rfl (fun v hv => (r_index ix_35 rfl rfl (by omega) (by omega))) <| tx_val noA hbk Same_5 rfl rfl (by decide) rfl (fun v hv => (r_load ld_48 rfl (by simpa using grow_cell hv hB3))) ?_
    refine tx_val noA hbk Same_5 rfl rfl (by decide) rfl (fun v hv => (r_len lk_48 rfl)) ?_
    by_cases hl : x.length = y.length
    · refine tx_val noA hbk Same_5 rfl (opOk_eq (by kernel_rfl)) (by decide) rfl (fun v hv => (r_bool (t' := false) (r_neq rfl rfl) (by simp [hl]))) <| tx_end fun v a hv hat => hold_region_end <| hold_condF (hat.eval (q := .tmp 28) rfl) rfl <| hold_skip <| hold_seq <| hold_region (l := [0]) rfl <| h_val noA hbk Same_7 rfl rfl (by decide) hat (r_assign rfl) fun a hat => hold_region_end <| hold_block <| hold_loop ?_
      have hA' := hA.grow hv
      have hB' := hB.grow hv
      refine Same_in hx hy hl hx1 hsi hle hb hbf (u := v) (fun hne w hw => Hn (fun e => hne (by rw [e, hy] at hx; exact (Option.some.inj hx).symm)) w ((hg.trans hv).trans hw)) (fun he v a hg2 hA hB hat => ?_) x.length 0 v a (by omega) rfl (Grow.refl v) hA' hB' (hat.sub (AtE.cons rfl (AtE.cons rfl (AtE.cons rfl (AtE.cons rfl (AtE.nil))))))
      refine hold_inBlock <| hold_region (l := [0,1,2]) rfl <| h_val noA hbk Same_12 rfl rfl (by decide) hat (r_move rfl) fun a hat => h_val noA hbk Same_12 rfl rfl (by decide) hat (r_add rfl rfl (by first | omega | (simp; omega))) fun a hat => h_val noA hbk Same_12 rfl rfl (by decide) hat (r_assign rfl) fun a hat => hold_region_end <| hold_inLoop ?_
      refine ih (i + 1) v a (by omega) ?_ ((hg.trans hv).trans hg2) hA hB (hat.sub (AtE.cons rfl (AtE.cons rfl (AtE.cons rfl (AtE.nil)))))
      rw [List.take_add_one, List.take_add_one, ht, hx, hy, he]
    · skip
      refine tx_val noA hbk Same_5 rfl (opOk_eq (by kernel_rfl)) (by decide) rfl (fun v hv => (r_bool (t' := true) (r_neq rfl rfl) (by simp; omega))) <| tx_end fun v a hv hat => hold_region_end <| hold_condT (hat.eval (q := .tmp 28) rfl) rfl <| hold_seq <| hold_region (l := [0]) rfl <| h_val noA hbk Same_6 rfl rfl (by decide) hat (r_assign rfl) fun a hat => hold_region_end <| hold_retd hb hbf Same_fn hat.defers (ret_one Same_res hat rfl) ?_
      exact Hn (fun e => hl (by rw [e, hy] at hx; rw [Option.some.inj hx])) _ (hg.trans hv)
theorem Same_hold {av bv : Value} {rs rs' : List (List (Int × Int))} (hsi : rs.length < 2 ^ 62) (hsi' : rs'.length < 2 ^ 62) (hsm : ∀ (i : Nat) (x : List (Int × Int)), rs[i]? = some x → x.length < 2 ^ 62) (hsm' : ∀ (i : Nat) (x : List (Int × Int)), rs'[i]? = some x → x.length < 2 ^ 62) {v : World} (hA : AnssAt v av rs) (hB : AnssAt v bv rs')
    (H : ∀ v', Grow v v' → Hold Try.prog main S Stop (G (c.finish (.bool (decide (rs = rs')))) cs) v') :
    Hold Try.prog main S Stop (G (Frame.enter Try.prog 18 #[av, bv] .normal) (c :: cs)) v := by
  obtain ⟨ad, cap, rfl, hA2⟩ := id hA
  obtain ⟨ad', cap', rfl, hB2⟩ := id hB
  obtain ⟨b, a, hEq, hb, hbf, hat⟩ := enter_is Same_fn Same_body Same_tmps #[.slice ad rs.length cap, .slice ad' rs'.length cap'] [(0, .slice ad rs.length cap), (1, .slice ad' rs'.length cap')] rfl (by simp)
  rw [hEq]
  have hbk := not_early hb
  refine hold_unf Same_code_def <| hold_seq <| hold_region (l := [0]) rfl <| h_val noA hbk Same_0 rfl rfl (by decide) hat (r_assign rfl) fun a hat => hold_region_end <| hold_seq <| hold_seq <| hold_region (l := [0,1,2,3,4]) rfl <| h_val noA hbk Same_1 rfl rfl (by decide) hat (r_move rfl) fun a hat => h_val noA hbk Same_1 rfl rfl (by decide) hat (r_len lk_35 rfl) fun a hat => h_val noA hbk Same_1 rfl rfl (by decide) hat (r_move rfl) fun a hat => h_val noA hbk Same_1 rfl rfl (by decide) hat (r_len lk_35 rfl) fun a hat => ?_
  by_cases hl : rs.length = rs'.length
  · refine h_val noA hbk Same_1 rfl (opOk_eq (by kernel_rfl)) (by decide) hat (r_bool (t' := false) (r_neq rfl rfl) (by simp [hl])) fun a hat => hold_region_end <| hold_condF (hat.eval (q := .tmp 11) rfl) rfl <| hold_skip <| hold_seq <| hold_seq <| hold_region (l := [0]) rfl <| h_val noA hbk Same_3 rfl rfl (by decide) hat (r_assign rfl) fun a hat => hold_region_end <| hold_block <| hold_loop ?_
    refine Same_out hl hsi hsm hsm' hb hbf (u := v) (fun hne v' hu => ?_) (fun he v' a hg hat => ?_) rs.length 0 v a (by omega) rfl (Grow.refl v) hA hB (hat.sub (AtE.cons rfl (AtE.cons rfl (AtE.cons rfl (AtE.nil)))))
    · have := H v' hu
      rw [decide_eq_false hne] at this
      exact this
    · refine hold_seq <| hold_region (l := [0]) rfl <| h_val noA hbk Same_13 rfl rfl (by decide) hat (r_assign rfl) fun a hat => hold_region_end <| hold_retd hb hbf Same_fn hat.defers (ret_one Same_res hat rfl) ?_
      have := H v' hg
      rw [decide_eq_true he] at this
      exact this
  · skip
    refine h_val noA hbk Same_1 rfl (opOk_eq (by kernel_rfl)) (by decide) hat (r_bool (t' := true) (r_neq rfl rfl) (by simp; omega)) fun a hat => hold_region_end <| hold_condT (hat.eval (q := .tmp 11) rfl) rfl <| hold_seq <| hold_region (l := [0]) rfl <| h_val noA hbk Same_2 rfl rfl (by decide) hat (r_assign rfl) fun a hat => hold_region_end <| hold_retd hb hbf Same_fn hat.defers (ret_one Same_res hat rfl) ?_
    have := H v (Grow.refl v)
    rw [decide_eq_false fun e => hl (by rw [e])] at this
    exact this
end
end Go.Proofs.Ytlnjmheocfbimaa


/- awake, whole. -/
namespace Go.Proofs.Ytlnjmheocfbimaa
open Go Go.Conc
theorem ansFlat_get : ∀ (r : List (Int × Int)) (j : Nat) (x : Int × Int), r[j]? = some x → (ansFlat r)[j * 2]? = some (.int .i64 x.1) ∧ (ansFlat r)[j * 2 + 1]? = some (.int .i64 x.2)
  | [], j, x, h => by cases h
  | y :: r, 0, x, h => by
    simp only [List.getElem?_cons_zero, Option.some.injEq] at h
    subst h
    exact ⟨rfl, rfl⟩
  | y :: r, j + 1, x, h => by
    have := ansFlat_get r j x (by simpa using h)
    have e : ansFlat (y :: r) = .int .i64 y.1 :: .int .i64 y.2 :: ansFlat r := by simp [ansFlat]
    rw [e]
    refine ⟨?_, ?_⟩
    · rw [show (j + 1) * 2 = (j * 2 + 1) + 1 by omega, List.getElem?_cons_succ, List.getElem?_cons_succ]; exact this.1
    · rw [show (j + 1) * 2 + 1 = (j * 2 + 1 + 1) + 1 by omega, List.getElem?_cons_succ, List.getElem?_cons_succ]; exact this.2
theorem ansAt_own {v : World} {ov : Value} {r : List (Int × Int)} (h : v.ownsRow 0 53 2 ov r.length (ansFlat r)) : AnsAt v ov r := by
  rcases h.2 with ⟨rfl, h0⟩ | ⟨g, cap, cur, rfl, _, hg, _, _, _, ht⟩
  · rw [List.length_eq_zero_iff.1 h0]
    exact ⟨none, 0, rfl, fun j x hx => by cases hx⟩
  · refine ⟨_, cap, rfl, fun j x hx => ⟨g, 0, rfl, ?_⟩⟩
    obtain ⟨h1, h2⟩ := ansFlat_get r j x hx
    have hj := (List.getElem?_eq_some_iff.1 hx).1
    rw [cell_at' hg, cell_at' hg]
    rw [← ht, List.getElem?_take_of_lt (by omega)] at h1 h2
    refine ⟨?_, ?_⟩
    · rw [Nat.zero_add]; simpa using h1
    · rw [Nat.zero_add]; simpa using h2
theorem anssAt_fin {v : World} {Γ : Gho} {ob n : Nat} {rs : List (List (Int × Int))} (hl : rs.length = n) (h : ∀ i r, rs[i]? = some r → FinOut i ob r Γ v) : AnssAt v (.slice (some ⟨ob, 0, none⟩) n n) rs := by
  subst hl
  refine ⟨_, _, rfl, fun i r hr => ?_⟩
  obtain ⟨_, ov, h1, h2, _⟩ := h i r hr
  exact ⟨ob, 0, ov, rfl, by rw [Nat.zero_add]; exact h1, ansAt_own h2⟩
section
variable {Done : Goroutine → World → Prop}
theorem awake_run {u : World} {N : Nat} (hr : Ready0 u) (hN0 : 0 < N) {I : Inbs} (hI : ∀ x, x ≠ 0 → I x = none) {c0 : Frame} {cs : List Frame}
    (K : ∀ v' I', (∀ x, x ≠ 0 → I' x = none) → Grow u v' → Run Try.prog Done S0 0 (N + 2) I' (G (c0.finish (.bool true)) cs) v') :
    Run Try.prog Done S0 0 N I (G (Frame.enter Try.prog 6 #[] .normal) (c0 :: cs)) u := by
  refine Run.of_hold ?_
  obtain ⟨b, a, hEq, hb, hbf, hat⟩ := enter_is awake_fn awake_body awake_tmps #[] [] rfl (by simp)
  rw [hEq]
  have hbk := not_early hb
  refine hold_unf awake_code_def <| hold_seq <| hold_region (l := [0]) rfl <| h_val noA hbk awake_0 rfl rfl (by decide) hat (r_assign rfl) fun a hat => hold_region_end <| hold_seq <| hold_region (l := [0,1]) rfl <| h_callc hbk awake_1 rfl (by decide) hat wNew_fn wNew_bd wNew_nm (vals := #[_]) rfl fun c hc => wNew_hold (sl := []) hr ⟨rfl, .inl ⟨0, rfl, rfl⟩, by simp [ints]⟩ (by decide) fun v W ch rv hg1 hw hWl hcl hch hrv hrvn hrvW => hold_fin hc fun a hat => ?_
  have hG := Grow.refl v
  refine h_val noA hbk awake_1 rfl rfl (by decide) hat (r_assign rfl) fun a hat => hold_region_end <| hold_seq <| hold_region (l := [0,1,2,3,4,5,6,7,8,9,10,11,12]) rfl <| h_val noA hbk awake_2 rfl rfl (by decide) hat (r_move rfl) fun a hat => h_val noA hbk awake_2 rfl rfl (by decide) hat (bu_50_0_1 rfl rfl rfl rfl) fun a hat => h_val noA hbk awake_2 rfl rfl (by decide) hat (bu_50_0 rfl rfl) fun a hat => h_news noA hbk awake_2 rfl rfl (by decide) hat (bs_47_2_0_1 rfl rfl) fun v a B9 hB9 hsB9 hg F9 hat => ?_
  have gB9 := Nat.le_trans hG.size (Nat.le_of_eq hB9)
  replace hG := hG.trans hg
  refine h_val noA hbk awake_2 rfl rfl (by decide) hat (bu_50_0_1 rfl rfl rfl rfl) fun a hat => h_news noA hbk awake_2 rfl rfl (by decide) hat (bs_47_1_0 rfl) fun v a B11 hB11 hsB11 hg F11 hat => ?_
  have n_F11_F9 := ne_new F9 hB11
  have gB11 := Nat.le_trans hG.size (Nat.le_of_eq hB11)
  replace hG := hG.trans hg
  replace F9 := hg.at F9
  refine h_news noA hbk awake_2 rfl rfl (by decide) hat (bs_32_2_0_1 rfl rfl rfl rfl) fun v a B12 hB12 hsB12 hg F12 hat => ?_
  have n_F12_F9 := ne_new F9 hB12
  have n_F12_F11 := ne_new F11 hB12
  have gB12 := Nat.le_trans hG.size (Nat.le_of_eq hB12)
  replace hG := hG.trans hg
  replace F9 := hg.at F9
  replace F11 := hg.at F11
  refine h_callc hbk awake_2 rfl (by decide) hat Play_fn Play_bd Play_nm (vals := #[_, _, _]) rfl fun c hc => ?_
  have hne : ∀ {b arr t fr}, v.heap[b]? = some (.cells arr t fr) → t ≠ 74 → t ≠ 3 → ¬ wordsOf W ch rv b := fun {b arr t fr} hb n1 n2 h => by
    rcases h with rfl | rfl | h
    · rw [hG.at hw] at hb; cases hb; exact n1 rfl
    · rw [hG.at hch] at hb; cases hb
    · exact own_ne (owns_grow hrv hG) hb n2 h
  have hwl : ∀ b, wordsOf W ch rv b → u.heap.size ≤ b := fun b h => by
    rcases h with rfl | rfl | h
    · exact hWl
    · exact hcl
    · exact hrvn b h
  have hm0 : mayE 2 (fun j => (awakeL j).length) false = 0 := by
    unfold mayE
    rw [if_neg, if_neg (by decide)]
    rintro ⟨j, hj, h⟩
    rcases (show j = 0 ∨ j = 1 by omega) with rfl | rfl <;> exact absurd h (by decide)
  have hlen := hG.size
  refine hold_run (Play_run (fu := 8) (f := 60) (l := awakeL) (lv := fun j => match j with | 0 => .slice (some ⟨B9, 0, none⟩) 2 2 | _ => .slice (some ⟨B11, 0, none⟩) 1 1) (hG.ready (hg1.ready hr)) ⟨hG.at hw, hG.at hch, owns_grow hrv hG⟩ ⟨by simp, by decide⟩ hN0 hI ⟨⟨_, _, rfl, fun j hj => ⟨B12, 0, rfl, ?_⟩⟩, fun j hj => ?_, by decide, fun j hj => ?_⟩ ⟨_, _, rfl⟩ (fun _ B O cp h => ?_) (fun j hj => ?_) (fun v' _ h => absurd hm0 h) (fun v' _ _ h => ?_) (fun _ _ _ => ?_))
  · rcases (show j = 0 ∨ j = 1 by omega) with rfl | rfl <;> exact cell_at' F12
  · rcases (show j = 0 ∨ j = 1 by omega) with rfl | rfl <;> exact ⟨_, _, rfl⟩
  · rcases (show j = 0 ∨ j = 1 by omega) with rfl | rfl <;> decide
  · cases h
    exact hne F12 (by decide) (by decide)
  · rcases (show j = 0 ∨ j = 1 by omega) with rfl | rfl
    · refine ⟨_, _, rfl, fun i x hx => ⟨B9, 0, rfl, lt_of_heap F9, hne F9 (by decide) (by decide), ?_⟩⟩
      have hi : i = 0 ∨ i = 1 := by have := (List.getElem?_eq_some_iff.1 hx).1; simp [awakeL] at this; omega
      rcases hi with rfl | rfl <;> (cases hx; exact ⟨cell_at' F9, cell_at' F9, cell_at' F9, cell_at' F9⟩)
    · refine ⟨_, _, rfl, fun i x hx => ⟨B11, 0, rfl, lt_of_heap F11, hne F11 (by decide) (by decide), ?_⟩⟩
      have hi : i = 0 := by have := (List.getElem?_eq_some_iff.1 hx).1; simp [awakeL] at this; omega
      subst hi
      cases hx
      exact ⟨cell_at' F11, cell_at' F11, cell_at' F11, cell_at' F11⟩
  · omega
  · obtain ⟨⟨A', rs⟩, hA', hrs⟩ := Option.map_eq_some_iff.1 awake_runs
    refine ⟨(A', rs), hA', ?_⟩
    simp only at hrs
    subst hrs
    intro Γ' v2 I' ob hWI hI' hlr hfin hkeep hW' hob
    refine Run.of_hold <| hold_fin hc fun a hat => ?_
    have hwl' : ∀ b, b < u.heap.size → ¬ wordsOf W ch rv b := fun b hb h => by have := hwl b h; omega
    have hG1 : Grow u v2 := ⟨Nat.le_trans hg1.size (Nat.le_trans hG.size (Nat.le_trans hob (Nat.le_of_lt (hfin 0 _ rfl).1.1))), fun b hb => (hkeep b (Nat.lt_of_lt_of_le hb (Nat.le_trans hg1.size hG.size)) (hwl' b hb)).trans ((hG.same b (Nat.lt_of_lt_of_le hb hg1.size)).trans (hg1.same b hb)), fun _ => hWI.ready⟩
    have hAns := anssAt_fin hlr hfin
    have hG := Grow.refl v2
    refine h_val noA hbk awake_2 rfl rfl (by decide) hat (r_move rfl) fun a hat => h_val noA hbk awake_2 rfl rfl (by decide) hat (r_extract rfl rfl) fun a hat => h_val noA hbk awake_2 rfl rfl (by decide) hat (r_extract rfl rfl) fun a hat => h_val noA hbk awake_2 rfl rfl (by decide) hat (r_assign rfl) fun a hat => h_val noA hbk awake_2 rfl rfl (by decide) hat (r_assign rfl) fun a hat => hold_region_end <| hold_seq <| hold_region (l := [0,1,2,3,4,5,6,7,8,9,10,11,12]) rfl <| h_val noA hbk awake_3 rfl rfl (by decide) hat (r_move rfl) fun a hat => h_val noA hbk awake_3 rfl (opOk_eq (by kernel_rfl)) (by decide) hat (r_bool (t' := true) (r_eql rfl rfl) (by first | (simp; omega) | (simp; done) | (simp_all; done) | (simp_all; omega))) fun a hat => h_val noA hbk awake_3 rfl rfl (by decide) hat (r_move rfl) fun a hat => hg_yes noA hbk awake_3 rfl rfl rfl rfl (by decide) hat (r_move rfl) fun a hat => ?_
    refine hg_yes noA hbk awake_3 rfl rfl rfl rfl (by decide) hat bu_53 fun a hat => hg_yes noA hbk awake_3 rfl rfl rfl rfl (by decide) hat (bu_53_1 rfl rfl) fun a hat => hg_news noA hbk awake_3 rfl rfl rfl rfl (by decide) hat (bs_48_2_0_1 rfl rfl) fun v a B22 hB22 hsB22 hg F22 hat => ?_
    have gB22 := Nat.le_trans hG.size (Nat.le_of_eq hB22)
    replace hG := hG.trans hg
    refine hg_yes noA hbk awake_3 rfl rfl rfl rfl (by decide) hat bu_53 fun a hat => hg_news noA hbk awake_3 rfl rfl rfl rfl (by decide) hat (bs_48_1_0 rfl) fun v a B24 hB24 hsB24 hg F24 hat => ?_
    have n_F24_F22 := ne_new F22 hB24
    have gB24 := Nat.le_trans hG.size (Nat.le_of_eq hB24)
    replace hG := hG.trans hg
    replace F22 := hg.at F22
    refine hg_news noA hbk awake_3 rfl rfl rfl rfl (by decide) hat (bs_35_2_0_1 rfl rfl rfl rfl) fun v a B25 hB25 hsB25 hg F25 hat => ?_
    have n_F25_F22 := ne_new F22 hB25
    have n_F25_F24 := ne_new F24 hB25
    have gB25 := Nat.le_trans hG.size (Nat.le_of_eq hB25)
    replace hG := hG.trans hg
    replace F22 := hg.at F22
    replace F24 := hg.at F24
    refine hg_callc hbk awake_3 rfl rfl rfl (by decide) hat Same_fn Same_bd Same_nm (vals := #[_, _]) rfl fun c hc => ?_
    have hB : AnssAt v (.slice (some ⟨B25, 0, none⟩) 2 2) [[(0, 0), (0, -2)], [(0, 0)]] := by
      refine ⟨_, _, rfl, fun i r hr => ?_⟩
      have hi : i = 0 ∨ i = 1 := by have := (List.getElem?_eq_some_iff.1 hr).1; simp at this; omega
      rcases hi with rfl | rfl
      · cases hr
        refine ⟨B25, 0, _, rfl, cell_at' F25, _, _, rfl, fun j x hx => ⟨B22, 0, rfl, ?_⟩⟩
        have hj : j = 0 ∨ j = 1 := by have := (List.getElem?_eq_some_iff.1 hx).1; simp at this; omega
        rcases hj with rfl | rfl <;> (cases hx; exact ⟨cell_at' F22, cell_at' F22⟩)
      · cases hr
        refine ⟨B25, 0, _, rfl, cell_at' F25, _, _, rfl, fun j x hx => ⟨B24, 0, rfl, ?_⟩⟩
        have hj : j = 0 := by have := (List.getElem?_eq_some_iff.1 hx).1; simp at this; omega
        subst hj
        cases hx
        exact ⟨cell_at' F24, cell_at' F24⟩
    have hsm : ∀ (i : Nat) (x : List (Int × Int)), ([[(0, 0), (0, -2)], [(0, 0)]] : List (List (Int × Int)))[i]? = some x → x.length < 2 ^ 62 := fun i x hx => by
      have := List.mem_of_getElem? hx
      simp at this
      rcases this with rfl | rfl <;> decide
    refine Same_hold (by decide) (by decide) hsm hsm (hAns.grow hG) hB fun v hg => ?_
    rw [decide_eq_true rfl]
    replace F22 := hg.at F22
    replace F24 := hg.at F24
    replace F25 := hg.at F25
    replace hG := hG.trans hg
    refine hold_fin hc fun a hat => h_val noA hbk awake_3 rfl rfl (by decide) hat (r_pick rfl rfl) fun a hat => h_val noA hbk awake_3 rfl rfl (by decide) hat (r_assign rfl) fun a hat => hold_region_end <| hold_retd hb hbf awake_fn hat.defers (ret_one awake_res hat rfl) ?_
    exact hold_run (K _ I' hI' (hG1.trans hG))
end
end Go.Proofs.Ytlnjmheocfbimaa


/- Free threads, of no world: cells, the counter. -/
namespace Go.Proofs.Ytlnjmheocfbimaa
open Go Go.Conc
section
variable {S : Addr → Prop} {main : Bool} {Stop : Goroutine → World → Prop} {cs : List Frame} {c : Frame} {v : World}
/-- A cell. -/
def CellAt (v : World) (B : Nat) (n x : Int) : Prop := v.heap[B]? = some (.cells #[.int .i64 n, .int .i64 x] 89 (0, 0))
/-- A counter of no world: its shards' words. -/
structure FreeC (v : World) (C g m cap : Nat) (cb : Nat → Nat) (xs : List Int) : Prop where
  c : v.heap[C]? = some (.cells #[.slice (some ⟨g, 0, none⟩) m cap] 57 (0, 0))
  g : ∃ cur, v.heap[g]? = some (.cells cur 58 (0, 0)) ∧ ∀ j, j < m → cur[j]? = some (.pointer (some ⟨cb j, 0, none⟩))
  cells : ∀ (j : Nat) (x : Int), xs[j]? = some x → CellAt v (cb j) 0 x
  len : xs.length = m
  bnd : 0 < m ∧ m ≤ 16
  inj : ∀ i j, i < m → j < m → cb i = cb j → i = j
theorem FreeC.sh {C g m cap : Nat} {cb : Nat → Nat} {xs : List Int} (h : FreeC v C g m cap cb xs) {j : Nat} (hj : j < m) : v.cell? ⟨g, j, none⟩ = some (.pointer (some ⟨cb j, 0, none⟩)) := by
  obtain ⟨cur, h1, h2⟩ := h.g
  exact (cell_at' h1).trans (h2 j hj)
theorem FreeC.grow {v' : World} {C g m cap : Nat} {cb : Nat → Nat} {xs : List Int} (h : FreeC v C g m cap cb xs) (hg : Grow v v') : FreeC v' C g m cap cb xs := by
  obtain ⟨cur, h1, h2⟩ := h.g
  exact ⟨hg.at h.c, ⟨cur, hg.at h1, h2⟩, fun j x hx => hg.at (h.cells j x hx), h.len, h.bnd, h.inj⟩
theorem FreeC.put {v' : World} {C g m cap j : Nat} {cb : Nat → Nat} {xs : List Int} {y : Int} (h : FreeC v C g m cap cb xs) (hj : j < m) (hM : Mods (fun b => b = cb j) v v') (hy : CellAt v' (cb j) 0 y) : FreeC v' C g m cap cb (xs.set j y) := by
  have hl := h.len
  obtain ⟨cur, h1, h2⟩ := h.g
  have hcj : ∃ x, CellAt v (cb j) 0 x := ⟨_, h.cells j (xs[j]'(by omega)) (by simp)⟩
  obtain ⟨x0, hx0⟩ := hcj
  refine ⟨hM.at (ne_of_types h.c hx0 (by decide)) h.c, ⟨cur, hM.at (ne_of_types h1 hx0 (by decide)) h1, h2⟩, fun i x hx => ?_, by simp [h.len], h.bnd, h.inj⟩
  by_cases e : i = j
  · subst e
    rw [List.getElem?_set_self (by omega)] at hx
    cases hx
    exact hy
  · rw [List.getElem?_set_ne (by omega)] at hx
    have hi := (List.getElem?_eq_some_iff.1 hx).1
    exact hM.at (fun e2 => e (h.inj i j (by omega) hj e2)) (h.cells i x hx)
end
end Go.Proofs.Ytlnjmheocfbimaa


/- counter.Sum by a free thread. -/
namespace Go.Proofs.Ytlnjmheocfbimaa
open Go Go.Conc
section
variable {S : Addr → Prop} {main : Bool} {Stop : Goroutine → World → Prop} {cs : List Frame} {c : Frame}
end
end Go.Proofs.Ytlnjmheocfbimaa


/- counter.New, of no world. -/
namespace Go.Proofs.Ytlnjmheocfbimaa
open Go Go.Conc
section
variable {S : Addr → Prop} {main : Bool} {Stop : Goroutine → World → Prop} {cs : List Frame} {c : Frame} {v : World}
end
end Go.Proofs.Ytlnjmheocfbimaa


/- CounterAlone: the law's function. -/
namespace Go.Proofs.Ytlnjmheocfbimaa
open Go Go.Conc
theorem getN_low (n : Nat) : getN n 0 32 = n % 4294967296 := by unfold getN; rw [Nat.pow_zero, Nat.div_one]
theorem putN_ver (n y : Nat) : putN n 32 30 y % 4294967296 = n % 4294967296 := by
  unfold putN
  show (n % 4294967296 + y % 1073741824 * 4294967296 + n / 4611686018427387904 * 4611686018427387904) % 4294967296 = n % 4294967296
  omega
theorem putN_amt {n z : Nat} (hz : z < 4294967296) : putN n 0 32 z % 4294967296 = z := by
  unfold putN
  show (n % 1 + z % 4294967296 * 1 + n / 4294967296 * 4294967296) % 4294967296 = z
  omega
theorem wrap_step {g : Nat} (hg : g < 4294967296) (n : Int) : IntKind.i32.wrap (((g : Int) + n) % 4294967296) = IntKind.i32.wrap (IntKind.i32.wrap g + n.tmod 4294967296) := by
  have := Int.tmod_def n 4294967296
  rw [IntKind.wrap_i32, IntKind.wrap_i32, IntKind.wrap_i32]
  omega
theorem amount_addX (x n : Int) : amount (addX x n) = IntKind.i32.wrap (amount x + n.tmod 4294967296) := by
  have hX := u64_lt x
  have hg : getN (u64 x) 0 32 < 4294967296 := getN_lt _ _ _
  rw [show amount x = IntKind.i32.wrap (getN (u64 x) 0 32 : Nat) from rfl, ← wrap_step hg]
  unfold addX amount
  simp only []
  generalize ((((getN (u64 x) 32 30 : Nat) : Int) + 1) % ((2 ^ 30 : Nat) : Int)).toNat = y
  have hz2 : (((((getN (u64 x) 0 32 : Nat) : Int) + n) % ((2 ^ 32 : Nat) : Int)).toNat : Int) = (((getN (u64 x) 0 32 : Nat) : Int) + n) % 4294967296 := by omega
  generalize (((getN (u64 x) 0 32 : Nat) + n) % ((2 ^ 32 : Nat) : Int)).toNat = z at hz2 ⊢
  have h1 : putN (u64 x) 0 32 z < 2 ^ 64 := putN_lt _ hX (by omega)
  rw [u64_i64 h1]
  have h2 : putN (putN (u64 x) 0 32 z) 32 30 y < 2 ^ 64 := putN_lt _ h1 (by omega)
  rw [u64_i64 h2, getN_low, putN_ver, putN_amt (by omega), ← hz2]
section
variable {S : Addr → Prop} {main : Bool} {Stop : Goroutine → World → Prop} {cs : List Frame} {c : Frame} {v : World}
/-- A slice of ints, as it reads. -/
def IntsAt (v : World) (sv : Value) (A : List Int) : Prop :=
  ∃ ad cp, sv = .slice ad A.length cp ∧ ∀ (i : Nat) (x : Int), A[i]? = some x → ∃ B O, ad = some ⟨B, O, none⟩ ∧ v.cell? ⟨B, O + i, none⟩ = some (.int .i64 x)
theorem IntsAt.grow {v' : World} {sv : Value} {A : List Int} (h : IntsAt v sv A) (g : Grow v v') : IntsAt v' sv A := by
  obtain ⟨ad, cp, h1, h2⟩ := h
  exact ⟨ad, cp, h1, fun i x hx => by obtain ⟨B, O, e1, e2⟩ := h2 i x hx; exact ⟨B, O, e1, grow_cell g e2⟩⟩
end
end Go.Proofs.Ytlnjmheocfbimaa


/- Plain: a run comes to an end, and keeps what each go keeps. -/
namespace Go.Proofs.Ytlnjmheocfbimaa
open Go
/-- What a thread's going comes to, limits left aside. -/
def Prog.wp (i : Nat) : Prog → Sys → (Sys → Left → Prop) → Prop
  | .done r, A, Q => Q (A.setSt i 3) (.inr r)
  | .out, _, _ => False
  | .wait st op c k, A, Q => Q (A.park i st op c) (.inl k)
  | .rd c k, A, Q => (k (A.get c)).wp i A Q
  | .wr c x k, A, Q => k.wp i (A.put c x) Q
  | .note op c a b k, A, Q => k.wp i (A.note i op c a b) Q
  | .bump c k, A, Q => k.wp i (A.bump c) Q
  | .stk k, A, Q => (k A.stuck).wp i A Q
/-- So many stops and notes at most. -/
def Prog.bd : Prog → Nat → Prop
  | .done _, _ => True
  | .out, _ => True
  | .wait _ _ _ k, n => ∃ m, n = m + 1 ∧ k.bd m
  | .rd _ k, n => ∀ x, (k x).bd n
  | .wr _ _ k, n => k.bd n
  | .note _ _ _ _ k, n => ∃ m, n = m + 1 ∧ k.bd m
  | .bump _ k, n => ∃ m, n = m + 1 ∧ k.bd m
  | .stk k, n => ∀ b, (k b).bd n
theorem Prog.bd_mono : ∀ {p : Prog} {n n' : Nat}, p.bd n → n ≤ n' → p.bd n'
  | .done _, _, _, _, _ => trivial
  | .out, _, _, _, _ => trivial
  | .wait _ _ _ k, n, n', ⟨m, e, h⟩, hn => ⟨n' - 1, by omega, Prog.bd_mono (p := k) h (by omega)⟩
  | .rd _ k, n, n', h, hn => fun x => Prog.bd_mono (p := k x) (h x) hn
  | .wr _ _ k, n, n', h, hn => Prog.bd_mono (p := k) h hn
  | .note _ _ _ _ k, n, n', ⟨m, e, h⟩, hn => ⟨n' - 1, by omega, Prog.bd_mono (p := k) h (by omega)⟩
  | .bump _ k, n, n', ⟨m, e, h⟩, hn => ⟨n' - 1, by omega, Prog.bd_mono (p := k) h (by omega)⟩
  | .stk k, n, n', h, hn => fun b => Prog.bd_mono (p := k b) (h b) hn
/-- What the limits look at is at most t. -/
def Lim (A : Sys) (t : Nat) : Prop := A.trace.length ≤ t ∧ ∀ c, A.changed c ≤ (t : Int)
theorem changed_bump (A : Sys) (c : Nat) (d : Int) : (A.bump c).changed d ≤ A.changed d + 1 := by
  unfold Sys.changed Sys.bump
  split
  · omega
  · simp only [List.getElem?_modify]
    by_cases h : c = d.toNat
    · simp only [h, if_true]
      cases A.cnt[d.toNat]? with
      | none => simp
      | some x => simp
    · simp only [h, if_false]
      cases A.cnt[d.toNat]? with
      | none => simp
      | some x => simp; omega
/-- A left one, and its weight. -/
def Left.wt : Left → Nat → Prop
  | .inl k, b => ∃ n, b = n + 1 ∧ k.bd n
  | .inr _, _ => True
theorem go_wp {i : Nat} {Q : Sys → Left → Prop} : ∀ {p : Prog} {A : Sys} {n t : Nat}, p.wp i A Q → p.bd n → Lim A t → t + n ≤ 2 ^ 40 → ∃ A' q b' t', p.go i A = some (A', q) ∧ Q A' q ∧ Left.wt q b' ∧ Lim A' t' ∧ b' ≤ n ∧ t' + b' ≤ t + n ∧ (A'.stuck = A.stuck ∧ A'.ths.length = A.ths.length)
  | .done r, A, n, t, h, _, hL, ht => ⟨_, _, 0, t, rfl, h, trivial, ⟨hL.1, hL.2⟩, by omega, by omega, rfl, by simp [Sys.setSt]⟩
  | .out, _, _, _, h, _, _, _ => h.elim
  | .wait st op c k, A, n, t, h, hb, hL, ht => by
    obtain ⟨m, e, hk⟩ := hb
    exact ⟨_, _, n, t, rfl, h, ⟨m, e, hk⟩, ⟨hL.1, hL.2⟩, Nat.le_refl _, Nat.le_refl _, rfl, by simp [Sys.park]⟩
  | .rd c k, A, n, t, h, hb, hL, ht => go_wp (p := k (A.get c)) h (hb _) hL ht
  | .wr c x k, A, n, t, h, hb, hL, ht => go_wp (p := k) (A := A.put c x) h hb ⟨hL.1, hL.2⟩ ht
  | .note op c a b k, A, n, t, h, hb, hL, ht => by
    obtain ⟨m, e, hk⟩ := hb
    have hl : A.trace.length < traceMax := by have := hL.1; unfold traceMax; omega
    obtain ⟨A', q, b', t', h1, h2, h3, h4, h5, h6, h7⟩ := go_wp (p := k) (A := A.note i op c a b) (n := m) (t := t + 1) h hk ⟨by simp [Sys.note]; exact hL.1, fun d => by have := hL.2 d; show A.changed d ≤ _; omega⟩ (by omega)
    exact ⟨A', q, b', t', by simp only [Prog.go, if_pos hl]; exact h1, h2, h3, h4, by omega, by omega, h7⟩
  | .bump c k, A, n, t, h, hb, hL, ht => by
    obtain ⟨m, e, hk⟩ := hb
    have hl : A.changed c < 2 ^ 40 := by have := hL.2 c; omega
    obtain ⟨A', q, b', t', h1, h2, h3, h4, h5, h6, h7⟩ := go_wp (p := k) (A := A.bump c) (n := m) (t := t + 1) h hk ⟨by have := hL.1; simp [Sys.bump]; omega, fun d => by have := hL.2 d; have := changed_bump A c d; omega⟩ (by omega)
    exact ⟨A', q, b', t', by simp only [Prog.go, if_pos hl]; exact h1, h2, h3, h4, by omega, by omega, h7⟩
  | .stk k, A, n, t, h, hb, hL, ht => go_wp (p := k A.stuck) h (hb _) hL ht
theorem sum_set : ∀ {l : List Nat} {j b b' : Nat}, l[j]? = some b → (l.set j b').sum + b = l.sum + b'
  | [], _, _, _, h => by cases h
  | x :: l, 0, b, b', h => by
    simp only [List.getElem?_cons_zero, Option.some.injEq] at h
    subst h
    simp only [List.set_cons_zero, List.sum_cons]
    omega
  | x :: l, j + 1, b, b', h => by
    have := sum_set (l := l) (j := j) (b := b) (b' := b') (by simpa using h)
    simp only [List.set_cons_succ, List.sum_cons]
    omega
/-- All that are left, and their weights. -/
def Wts (ps : List Left) (bs : List Nat) : Prop := bs.length = ps.length ∧ ∀ (i : Nat) (q : Left) (b : Nat), ps[i]? = some q → bs[i]? = some b → Left.wt q b
theorem Wts.set {ps : List Left} {bs : List Nat} (h : Wts ps bs) {j : Nat} {q : Left} {b : Nat} (hq : Left.wt q b) : Wts (ps.set j q) (bs.set j b) := by
  refine ⟨by simpa using h.1, fun i q' b' h1 h2 => ?_⟩
  rw [List.getElem?_set] at h1 h2
  by_cases e : j = i
  · simp only [e, if_true] at h1 h2
    split at h1
    · split at h2
      · cases h1; cases h2; exact hq
      · cases h2
    · cases h1
  · simp only [e, if_false] at h1 h2
    exact h.2 i q' b' h1 h2
theorem mem_readyL {A : Sys} {j : Nat} : j ∈ A.readyL ↔ ∃ t, A.ths[j]? = some t ∧ A.readyB t = true := by
  unfold Sys.readyL
  rw [List.mem_filter, List.mem_range]
  constructor
  · rintro ⟨h1, h2⟩
    cases h : A.ths[j]? with
    | none => rw [h] at h2; cases h2
    | some t => rw [h] at h2; exact ⟨t, rfl, h2⟩
  · rintro ⟨t, h1, h2⟩
    exact ⟨(List.getElem?_eq_some_iff.1 h1).1, by rw [h1]; exact h2⟩
theorem pick_mem (A : Sys) (x : Nat) (l : List Nat) : (A.pick (x :: l)).1 ∈ x :: l := by
  unfold Sys.pick
  split
  · rename_i s hs
    show (x :: l).getD (s % ((x :: l).length : Int)).toNat 0 ∈ x :: l
    have hpos : (0 : Int) < ((x :: l).length : Int) := by simp only [List.length_cons]; omega
    have h1 := Int.emod_nonneg s (show ((x :: l).length : Int) ≠ 0 by omega)
    have h2 := Int.emod_lt_of_pos s hpos
    have hlt : (s % ((x :: l).length : Int)).toNat < (x :: l).length := by omega
    rw [List.getD_eq_getElem?_getD, List.getElem?_eq_getElem hlt, Option.getD_some]
    exact List.getElem_mem hlt
  · show ((x :: l).find? _).getD ((x :: l).headD 0) ∈ x :: l
    cases h : (x :: l).find? fun (j : Nat) => decide (A.last < (j : Int)) with
    | none => simp
    | some y => exact List.mem_of_find?_eq_some h
theorem pick_same (A : Sys) (l : List Nat) : (A.pick l).2.trace = A.trace ∧ (A.pick l).2.cnt = A.cnt ∧ (A.pick l).2.vals = A.vals ∧ (A.pick l).2.ths = A.ths ∧ (A.pick l).2.stuck = A.stuck := by
  unfold Sys.pick
  split <;> exact ⟨rfl, rfl, rfl, rfl, rfl⟩
/-- When nobody can go, and somebody waits, it was not stuck. -/
theorem waits_not_stuck {A : Sys} (h : A.readyL = []) (hw : A.waits = true) : A.stuck = false := by
  cases hs : A.stuck with
  | false => rfl
  | true =>
    unfold Sys.waits at hw
    rw [List.any_eq_true] at hw
    obtain ⟨t, ht, h2⟩ := hw
    obtain ⟨j, hj, e⟩ := List.getElem_of_mem ht
    have : j ∈ A.readyL := mem_readyL.2 ⟨t, by rw [List.getElem?_eq_getElem hj, e], by unfold Sys.readyB; simp [hs, h2]⟩
    rw [h] at this
    cases this
section
variable {N : Nat} {Inv : Sys → List Left → Prop}
  (hEnd : ∀ A ps, Inv A ps → ps.length = N → A.ths.length = N → A.readyL = [] → A.waits = false → ∀ q ∈ ps, ∃ r, q = .inr r)
  (hStk : ∀ A ps, Inv A ps → ps.length = N → A.ths.length = N → A.readyL = [] → A.waits = true → A.stuck = false → Inv A.setStuck ps)
  (hGo : ∀ A ps x l, Inv A ps → ps.length = N → A.ths.length = N → A.readyL = x :: l → ∃ k, ps[(A.pick (x :: l)).1]? = some (.inl k) ∧
    k.wp (A.pick (x :: l)).1 ((A.pick (x :: l)).2.letGo (A.pick (x :: l)).1) fun A' q => Inv A' (ps.set (A.pick (x :: l)).1 q))
include hEnd hStk hGo
theorem turns_inv : ∀ (n : Nat) (A : Sys) (ps : List Left) (t : Nat) (bs : List Nat), Inv A ps → ps.length = N → A.ths.length = N → Wts ps bs → bs.sum + (if A.stuck then 0 else 1) ≤ n → Lim A t → t + bs.sum + (if A.stuck then 0 else 1) ≤ 2 ^ 40 →
    ∃ res, turns (n + 1) A ps = some res ∧ res.2.length = N ∧ Inv res.1 (res.2.map .inr) ∧ res.1.trace.length ≤ 2 ^ 40 := by
  intro n
  induction n with
  | zero =>
    intro A ps t bs hI hN hA hW hn hL ht
    have hst : A.stuck = true := by cases h : A.stuck with
      | true => rfl
      | false => rw [h] at hn; simp at hn
    cases hr : A.readyL with
    | nil =>
      have hwf : A.waits = false := by
        cases hw : A.waits with
        | false => rfl
        | true => rw [waits_not_stuck hr hw] at hst; cases hst
      exact turns_end hEnd hI hN hA hr hwf (by have := hL.1; omega)
    | cons x l =>
      obtain ⟨k, hk, _⟩ := hGo A ps x l hI hN hA hr
      obtain ⟨b, hb⟩ : ∃ b, bs[(A.pick (x :: l)).1]? = some b := ⟨bs[(A.pick (x :: l)).1]'(by rw [hW.1]; exact (List.getElem?_eq_some_iff.1 hk).1), by simp⟩
      obtain ⟨m, e, _⟩ := hW.2 _ _ _ hk hb
      have := sum_set (b' := 0) hb
      omega
  | succ n ih =>
    intro A ps t bs hI hN hA hW hn hL ht
    cases hr : A.readyL with
    | nil =>
      cases hw : A.waits with
      | false => exact turns_end hEnd hI hN hA hr hw (by have := hL.1; omega)
      | true =>
        have hst := waits_not_stuck hr hw
        have hlt : A.trace.length < traceMax := by have := hL.1; rw [hst] at ht; simp at ht; unfold traceMax; omega
        rw [hst] at hn
        obtain ⟨res, h1, h2⟩ := ih A.setStuck ps (t + 1) bs (hStk A ps hI hN hA hr hw hst) hN hA hW (by simp [Sys.setStuck] at hn ⊢; omega) ⟨by have := hL.1; simp [Sys.setStuck]; omega, fun d => by have := hL.2 d; show A.changed d ≤ _; omega⟩ (by rw [hst] at ht; simp [Sys.setStuck] at ht ⊢; omega)
        refine ⟨res, ?_, h2⟩
        rw [turns, hr]
        simp only [hw, if_true, if_pos hlt]
        exact h1
    | cons x l =>
      obtain ⟨k, hk, hwp⟩ := hGo A ps x l hI hN hA hr
      obtain ⟨b, hb⟩ : ∃ b, bs[(A.pick (x :: l)).1]? = some b := ⟨bs[(A.pick (x :: l)).1]'(by rw [hW.1]; exact (List.getElem?_eq_some_iff.1 hk).1), by simp⟩
      obtain ⟨m, e, hkb⟩ := hW.2 _ _ _ hk hb
      have hsum := sum_set (b' := 0) hb
      obtain ⟨p1, p2, p3, p4, p5⟩ := pick_same A (x :: l)
      obtain ⟨A', q, b', t', g1, g2, g3, g4, g5, g6, g7, g8⟩ := go_wp (t := t) hwp hkb ⟨by show (A.pick (x :: l)).2.trace.length ≤ t; rw [p1]; exact hL.1, fun d => by
        have := hL.2 d
        unfold Sys.changed at this ⊢
        show (if d < 0 then 0 else ((A.pick (x :: l)).2.cnt[d.toNat]?).getD 0) ≤ _
        rw [p2]
        exact this⟩ (by omega)
      have hsum' := sum_set (b' := b') hb
      have e1 : A'.stuck = A.stuck := g7.trans p5
      have e2 : A'.ths.length = N := by rw [g8]; simp [Sys.letGo, Sys.setSt, p4, hA]
      obtain ⟨res, h1, h2⟩ := ih A' (ps.set (A.pick (x :: l)).1 q) t' (bs.set (A.pick (x :: l)).1 b') g2 (by simpa using hN) e2 (hW.set g3) (by rw [e1]; omega) g4 (by rw [e1]; omega)
      refine ⟨res, ?_, h2⟩
      rw [turns, hr]
      simp only [hk, g1]
      exact h1
where
  turns_end {N n : Nat} {Inv : Sys → List Left → Prop} {A : Sys} {ps : List Left} (hEnd : ∀ A ps, Inv A ps → ps.length = N → A.ths.length = N → A.readyL = [] → A.waits = false → ∀ q ∈ ps, ∃ r, q = .inr r) (hI : Inv A ps) (hN : ps.length = N) (hA : A.ths.length = N) (hr : A.readyL = []) (hw : A.waits = false) (htl : A.trace.length ≤ 2 ^ 40) :
      ∃ res, turns (n + 1) A ps = some res ∧ res.2.length = N ∧ Inv res.1 (res.2.map .inr) ∧ res.1.trace.length ≤ 2 ^ 40 := by
    have h := hEnd A ps hI hN hA hr hw
    have hm : ∀ l : List Left, (∀ q ∈ l, ∃ r, q = .inr r) → ∃ rs, l.mapM leftOver = some rs ∧ l = rs.map .inr := by
      intro l
      induction l with
      | nil => intro _; exact ⟨[], rfl, rfl⟩
      | cons q l ih =>
        intro h
        obtain ⟨r, rfl⟩ := h q (by simp)
        obtain ⟨rs, h1, h2⟩ := ih fun q hq => h q (by simp [hq])
        refine ⟨r :: rs, ?_, by rw [h2]; rfl⟩
        rw [List.mapM_cons, h1]
        rfl
    obtain ⟨rs, h1, h2⟩ := hm ps h
    refine ⟨(A, rs), ?_, ?_, ?_, htl⟩
    · rw [turns, hr]
      simp only [hw, h1]
      rfl
    · rw [h2] at hN; simpa using hN
    · rw [← h2]; exact hI
theorem runs_inv {progs : List Prog} (hpN : progs.length = N) {B : Nat} (hbd : ∀ p ∈ progs, p.bd B) (hB : N * (B + 1) + 1 ≤ 2 ^ 40)
    (hSp : ∀ A ps p, Inv A ps → A.ths.length = ps.length → progs[ps.length]? = some p → p.wp ps.length { A with ths := A.ths ++ [⟨0, 0, 0, 0⟩] } fun A' q => Inv A' (ps ++ [q]))
    {A0 : Sys} (h0 : Inv A0 []) (hths : A0.ths = []) (hL0 : Lim A0 0) : ∃ res, runs (N * (B + 1) + 2) A0 progs = some res ∧ res.2.length = N ∧ Inv res.1 (res.2.map .inr) ∧ res.1.trace.length ≤ 2 ^ 40 := by
  have hsp : ∀ (l : List Prog) (A : Sys) (ps : List Left) (t : Nat) (bs : List Nat), progs = progs.take ps.length ++ l → Inv A ps → A.ths.length = ps.length → Wts ps bs → Lim A t → t + bs.sum + l.length * (B + 1) ≤ N * (B + 1) →
      ∃ A' ps' t' bs', spawns l A ps = some (A', ps') ∧ Inv A' ps' ∧ A'.ths.length = ps'.length ∧ ps'.length = ps.length + l.length ∧ Wts ps' bs' ∧ Lim A' t' ∧ t' + bs'.sum ≤ N * (B + 1) := by
    intro l
    induction l with
    | nil => intro A ps t bs hp h1 h2 h3 h4 h5; exact ⟨A, ps, t, bs, rfl, h1, h2, rfl, h3, h4, by simpa using h5⟩
    | cons p l ih =>
      intro A ps t bs hp h1 h2 h3 h4 h5
      have hlen : ps.length < progs.length := by
        rcases Nat.lt_or_ge ps.length progs.length with h | h
        · exact h
        · have e := congrArg List.length hp
          rw [List.take_of_length_le h] at e
          simp at e
      have hpp : progs[ps.length]? = some p := by
        rw [hp, List.getElem?_append_right (by simp [Nat.le_of_lt hlen])]
        simp [Nat.min_eq_left (Nat.le_of_lt hlen)]
      simp only [List.length_cons, Nat.succ_mul] at h5
      obtain ⟨A', q, b', t', g1, g2, g3, g4, g5, g6, g7, g8⟩ := go_wp (t := t) (hSp A ps p h1 h2 hpp) (hbd p (List.mem_of_getElem? hpp)) ⟨h4.1, h4.2⟩ (by omega)
      have hW' : Wts (ps ++ [q]) (bs ++ [b']) := by
        refine ⟨by simp [h3.1], fun i q' b'' e1 e2 => ?_⟩
        rcases Nat.lt_or_ge i ps.length with hi | hi
        · rw [List.getElem?_append_left hi] at e1
          rw [List.getElem?_append_left (by rw [h3.1]; exact hi)] at e2
          exact h3.2 i q' b'' e1 e2
        · rw [List.getElem?_append_right hi] at e1
          rw [List.getElem?_append_right (by rw [h3.1]; exact hi), h3.1] at e2
          cases hd : i - ps.length with
          | zero => rw [hd] at e1 e2; cases e1; cases e2; exact g3
          | succ d => rw [hd] at e1; simp at e1
      have htk : progs.take (ps ++ [q]).length ++ l = progs := by
        rw [List.length_append, List.length_singleton, List.take_add_one, hpp]
        simp only [Option.toList_some, List.append_assoc, List.singleton_append]
        exact hp.symm
      obtain ⟨A2, ps2, t2, bs2, f1, f2, f3, f4, f5, f6, f7⟩ := ih A' (ps ++ [q]) t' (bs ++ [b']) htk.symm g2 (by rw [g8]; simp [h2]) hW' g4 (by simp only [List.sum_append, List.sum_cons, List.sum_nil]; omega)
      refine ⟨A2, ps2, t2, bs2, ?_, f2, f3, by rw [f4]; simp; omega, f5, f6, f7⟩
      rw [spawns, g1]
      exact f1
  obtain ⟨A', ps', t', bs', e1, e2, e3, e4, e5, e6, e7⟩ := hsp progs A0 [] 0 [] (by simp) h0 (by rw [hths]; rfl) ⟨rfl, fun i q b h => by cases h⟩ hL0 (by simp [hpN])
  have hN' : ps'.length = N := by rw [e4]; simpa using hpN
  have hb' : bs'.sum + (if A'.stuck then 0 else 1) ≤ bs'.sum + 1 := by split <;> omega
  obtain ⟨res, r1, r2, r3⟩ := turns_inv hEnd hStk hGo (N * (B + 1) + 1) A' ps' t' bs' e2 hN' (by rw [e3]; exact hN') e5 (by omega) e6 (by omega)
  refine ⟨res, ?_, r2, r3⟩
  unfold runs
  rw [e1]
  exact r1
end
end Go.Proofs.Ytlnjmheocfbimaa


/- Plain: a run of threads that never await. -/
namespace Go.Proofs.Ytlnjmheocfbimaa
open Go
structure Mem where
  vals : List Int
  cnt : List Int
  trace : List TStep
namespace Mem
def get (M : Mem) (c : Nat) : Int := (M.vals[c]?).getD 0
def put (M : Mem) (c : Nat) (x : Int) : Mem := { M with vals := M.vals.set c x }
def note (M : Mem) (i : Int) (op c a b : Int) : Mem := { M with trace := M.trace ++ [⟨i, c, op, a, b⟩] }
def bump (M : Mem) (c : Nat) : Mem := { M with cnt := M.cnt.modify c (· + 1) }
end Mem
def Sys.mem (A : Sys) : Mem := ⟨A.vals, A.cnt, A.trace⟩
/-- As 'wp', of threads that want steps alone. -/
def Prog.wq (i : Nat) : Prog → Mem → (Mem → Left → Prop) → Prop
  | .done r, M, Q => Q M (.inr r)
  | .out, _, _ => False
  | .wait st _ _ k, M, Q => st = 1 ∧ Q M (.inl k)
  | .rd c k, M, Q => (k (M.get c)).wq i M Q
  | .wr c x k, M, Q => k.wq i (M.put c x) Q
  | .note op c a b k, M, Q => k.wq i (M.note i op c a b) Q
  | .bump c k, M, Q => k.wq i (M.bump c) Q
  | .stk k, M, Q => (k false).wq i M Q
/-- A thread stands as what is left of it says. -/
def StOk (t : TSt) : Left → Prop
  | .inl _ => t.st = 1
  | .inr _ => t.st = 3
theorem wp_of_wq {i : Nat} {Q : Mem → Left → Prop} {R : Sys → Left → Prop} : ∀ {p : Prog} {A : Sys}, p.wq i A.mem Q → A.stuck = false → i < A.ths.length →
    (∀ A' q, Q A'.mem q → A'.stuck = false → A'.ths.length = A.ths.length → (∀ j, j ≠ i → A'.ths[j]? = A.ths[j]?) → (∃ t, A'.ths[i]? = some t ∧ StOk t q) → R A' q) → p.wp i A R
  | .done r, A, h, hs, hi, K => K (A.setSt i 3) (.inr r) h hs (by simp [Sys.setSt]) (fun j hj => by simp only [Sys.setSt, List.getElem?_modify, if_neg (fun e => hj e.symm : ¬ i = j)]; simp) ⟨{ A.ths[i] with st := 3 }, by simp [Sys.setSt, hi], rfl⟩
  | .out, _, h, _, _, _ => h.elim
  | .wait st op c k, A, h, hs, hi, K => K (A.park i st op c) (.inl k) h.2 hs (by simp [Sys.park]) (fun j hj => by simp only [Sys.park]; rw [List.getElem?_set_ne (fun e => hj e.symm)]) ⟨⟨st, c, op, A.changed c⟩, by simp [Sys.park, hi], h.1⟩
  | .rd c k, A, h, hs, hi, K => wp_of_wq (p := k (A.get c)) h hs hi K
  | .wr c x k, A, h, hs, hi, K => wp_of_wq (p := k) (A := A.put c x) h hs hi K
  | .note op c a b k, A, h, hs, hi, K => wp_of_wq (p := k) (A := A.note i op c a b) h hs hi K
  | .bump c k, A, h, hs, hi, K => wp_of_wq (p := k) (A := A.bump c) h hs hi K
  | .stk k, A, h, hs, hi, K => by
    show (k A.stuck).wp i A _
    rw [hs]
    exact wp_of_wq (p := k false) h hs hi K
theorem runs_mem {N : Nat} {Inv : Mem → List Left → Prop} {progs : List Prog} (hpN : progs.length = N) {B : Nat} (hbd : ∀ p ∈ progs, p.bd B) (hB : N * (B + 1) + 1 ≤ 2 ^ 40)
    (hSp : ∀ (M : Mem) (ps : List Left) (p : Prog), Inv M ps → progs[ps.length]? = some p → p.wq ps.length M fun M' q => Inv M' (ps ++ [q]))
    (hGo : ∀ (M : Mem) (ps : List Left) (j : Nat) (k : Prog), Inv M ps → ps.length = N → ps[j]? = some (.inl k) → k.wq j M fun M' q => Inv M' (ps.set j q))
    {A0 : Sys} (h0 : Inv A0.mem []) (hths : A0.ths = []) (hL0 : Lim A0 0) (hst : A0.stuck = false) :
    ∃ res, runs (N * (B + 1) + 2) A0 progs = some res ∧ res.2.length = N ∧ Inv res.1.mem (res.2.map .inr) ∧ res.1.stuck = false ∧ res.1.trace.length ≤ 2 ^ 40 := by
  suffices h : ∃ res, runs (N * (B + 1) + 2) A0 progs = some res ∧ res.2.length = N ∧ (Inv res.1.mem (res.2.map .inr) ∧ res.1.stuck = false ∧ (res.1.ths.length = (res.2.map (Sum.inr : _ → Left)).length ∧ ∀ (i : Nat) (t : TSt) (q : Left), res.1.ths[i]? = some t → (res.2.map (Sum.inr : _ → Left))[i]? = some q → StOk t q)) ∧ res.1.trace.length ≤ 2 ^ 40 by
    obtain ⟨res, h1, h2, ⟨h3, h4, _⟩, h5⟩ := h
    exact ⟨res, h1, h2, h3, h4, h5⟩
  refine runs_inv (N := N) (Inv := fun A ps => Inv A.mem ps ∧ A.stuck = false ∧ (A.ths.length = ps.length ∧ ∀ (i : Nat) (t : TSt) (q : Left), A.ths[i]? = some t → ps[i]? = some q → StOk t q))
    (fun A ps hI hN hA hr hw q hq => ?_) (fun A ps hI hN hA hr hw hs => ?_) (fun A ps x l hI hN hA hr => ?_) hpN hbd hB (fun A ps p hI hA hp => ?_) ⟨h0, hst, by simp [hths], fun i t q h => by rw [hths] at h; cases h⟩ hths hL0
  · obtain ⟨_, _, h3, h4⟩ := hI
    obtain ⟨i, hi, e⟩ := List.getElem_of_mem hq
    have hi' : i < A.ths.length := by omega
    have := h4 i A.ths[i] q (by simp) (by rw [List.getElem?_eq_getElem hi, e])
    cases q with
    | inr r => exact ⟨r, rfl⟩
    | inl k =>
      have hmem : i ∈ A.readyL := mem_readyL.2 ⟨A.ths[i], by simp, by unfold Sys.readyB; rw [show A.ths[i].st = 1 from this]; rfl⟩
      rw [hr] at hmem
      cases hmem
  · exfalso
    obtain ⟨_, _, h3, h4⟩ := hI
    unfold Sys.waits at hw
    rw [List.any_eq_true] at hw
    obtain ⟨t, ht, h2⟩ := hw
    obtain ⟨i, hi, e⟩ := List.getElem_of_mem ht
    have hi' : i < ps.length := by omega
    have := h4 i t ps[i] (by rw [List.getElem?_eq_getElem hi, e]) (by simp)
    cases hq : ps[i] with
    | inl k => rw [hq] at this; have h5 : t.st = 1 := this; rw [h5] at h2; simp at h2
    | inr r => rw [hq] at this; have h5 : t.st = 3 := this; rw [h5] at h2; simp at h2
  · obtain ⟨g1, g2, g3, g4⟩ := hI
    obtain ⟨p1, p2, p3, p4, p5⟩ := pick_same A (x :: l)
    have hmem := pick_mem A x l
    rw [← hr] at hmem
    obtain ⟨t, ht, hrd⟩ := mem_readyL.1 hmem
    rw [hr] at ht
    generalize hj : (A.pick (x :: l)).1 = j at *
    have hjl := (List.getElem?_eq_some_iff.1 ht).1
    have hjp : j < ps.length := by omega
    have hso := g4 j t ps[j] ht (by simp)
    cases hq : ps[j] with
    | inr r =>
      rw [hq] at hso
      have h5 : t.st = 3 := hso
      unfold Sys.readyB at hrd
      rw [h5] at hrd
      simp at hrd
    | inl k =>
      have hpj : ps[j]? = some (.inl k) := by rw [List.getElem?_eq_getElem hjp, hq]
      refine ⟨k, hpj, wp_of_wq (Q := fun M' q => Inv M' (ps.set j q)) ?_ (p5.trans g2) (by simp [Sys.letGo, Sys.setSt, p4, hjl]) fun A' q hQ hs hl hoth hown => ⟨hQ, hs, ?_, fun i t' q' e1 e2 => ?_⟩⟩
      · have e : ((A.pick (x :: l)).2.letGo j).mem = A.mem := by
          unfold Sys.mem Sys.letGo Sys.setSt
          simp only [p1, p2, p3]
        rw [e]
        exact hGo _ _ _ _ g1 hN hpj
      · rw [hl]; simp [Sys.letGo, Sys.setSt, p4, g3]
      · by_cases e : i = j
        · subst e
          obtain ⟨t2, ht2, ht3⟩ := hown
          rw [ht2] at e1
          cases e1
          rw [List.getElem?_set_self hjp] at e2
          cases e2
          exact ht3
        · rw [List.getElem?_set_ne (fun x => e x.symm)] at e2
          have := hoth i e
          simp only [Sys.letGo, Sys.setSt, List.getElem?_modify, p4, if_neg (fun x => e x.symm : ¬ j = i)] at this
          rw [this] at e1
          exact g4 i t' q' (by simpa using e1) e2
  · obtain ⟨g1, g2, g3, g4⟩ := hI
    refine wp_of_wq (Q := fun M' q => Inv M' (ps ++ [q])) (hSp A.mem ps p g1 hp) g2 (by simp [hA]) fun A' q hQ hs hl hoth hown => ⟨hQ, hs, by rw [hl]; simp [hA], fun i t' q' e1 e2 => ?_⟩
    by_cases e : i = ps.length
    · subst e
      obtain ⟨t2, ht2, ht3⟩ := hown
      rw [ht2] at e1
      cases e1
      simp at e2
      subst e2
      exact ht3
    · rw [hoth i e] at e1
      have hi : i < ps.length := by have := (List.getElem?_eq_some_iff.1 e2).1; simp at this; omega
      rw [List.getElem?_append_left hi] at e2
      refine g4 i t' q' ?_ e2
      simp only at e1
      rw [List.getElem?_append_left (by omega)] at e1
      exact e1
end Go.Proofs.Ytlnjmheocfbimaa


/- Plain: what CounterTimes looks for in a trace; words of a shard by versions. -/
namespace Go.Proofs.Ytlnjmheocfbimaa
open Go
def fup {α : Type} (f : Nat → α) (i : Nat) (x : α) : Nat → α := fun j => if j = i then x else f j
theorem fup_same {α : Type} (f : Nat → α) (i : Nat) (x : α) : fup f i x i = x := if_pos rfl
theorem fup_ne {α : Type} (f : Nat → α) {i j : Nat} (x : α) (h : j ≠ i) : fup f i x j = f j := if_neg h
/-- A sum over threads. -/
def rsum (n : Nat) (f : Nat → Nat) : Nat := ((List.range n).map f).sum
theorem rsum_succ (n : Nat) (f : Nat → Nat) : rsum (n + 1) f = rsum n f + f n := by simp [rsum, List.range_succ]
theorem rsum_congr {n : Nat} {f g : Nat → Nat} (h : ∀ j, j < n → f j = g j) : rsum n f = rsum n g := by
  unfold rsum
  rw [List.map_congr_left fun j hj => h j (List.mem_range.1 hj)]
theorem rsum_upd {n i : Nat} {f g : Nat → Nat} (hi : i < n) (h : ∀ j, j ≠ i → g j = f j) : rsum n g + f i = rsum n f + g i := by
  induction n with
  | zero => omega
  | succ n ih =>
    rw [rsum_succ, rsum_succ]
    by_cases e : i = n
    · subst e
      rw [rsum_congr fun j hj => h j (by omega)]
      omega
    · have := ih (by omega)
      have := h n (fun x => e x.symm)
      omega
theorem rsum_le {n b : Nat} {f : Nat → Nat} (h : ∀ j, j < n → f j ≤ b) : rsum n f ≤ n * b := by
  induction n with
  | zero => simp [rsum]
  | succ n ih =>
    rw [rsum_succ, Nat.succ_mul]
    have := ih fun j hj => h j (by omega)
    have := h n (by omega)
    omega
theorem rsum_pos {n i : Nat} {f : Nat → Nat} (hi : i < n) : f i ≤ rsum n f := by
  induction n with
  | zero => omega
  | succ n ih =>
    rw [rsum_succ]
    by_cases e : i = n
    · subst e; omega
    · have := ih (by omega); omega
theorem rsum_le_rsum {n : Nat} {f g : Nat → Nat} (h : ∀ j, j < n → f j ≤ g j) : rsum n f ≤ rsum n g := by
  induction n with
  | zero => exact Nat.le_refl _
  | succ n ih =>
    rw [rsum_succ, rsum_succ]
    have := ih fun j hj => h j (by omega)
    have := h n (by omega)
    omega
theorem rsum_lt_rsum {n i : Nat} {f g : Nat → Nat} (h : ∀ j, j < n → f j ≤ g j) (hi : i < n) (hl : f i < g i) : rsum n f < rsum n g := by
  induction n with
  | zero => omega
  | succ n ih =>
    rw [rsum_succ, rsum_succ]
    have h1 := h n (by omega)
    by_cases e : i = n
    · subst e
      have := rsum_le_rsum (n := i) (f := f) (g := g) fun j hj => h j (by omega)
      omega
    · have := ih (fun j hj => h j (by omega)) (by omega)
      omega
/-- A shard's version. -/
def ver (v : Int) : Nat := getN (u64 v) 32 30
theorem ver_addX (x n : Int) : ver (addX x n) = (ver x + 1) % 1073741824 := by
  have hX := u64_lt x
  have hg : getN (u64 x) 32 30 < 1073741824 := getN_lt _ _ _
  unfold ver addX
  simp only []
  have hy2 : (((((getN (u64 x) 32 30 : Nat) : Int) + 1) % ((2 ^ 30 : Nat) : Int)).toNat) = (getN (u64 x) 32 30 + 1) % 1073741824 := by omega
  rw [hy2]
  generalize (((getN (u64 x) 0 32 : Nat) + n) % ((2 ^ 32 : Nat) : Int)).toNat = z
  have h1 : putN (u64 x) 0 32 z < 2 ^ 64 := putN_lt _ hX (by omega)
  rw [u64_i64 h1]
  generalize hy : (getN (u64 x) 32 30 + 1) % 1073741824 = y
  have hyl : y < 1073741824 := by omega
  have h2 : putN (putN (u64 x) 0 32 z) 32 30 y < 2 ^ 64 := putN_lt _ h1 (by omega)
  rw [u64_i64 h2]
  generalize putN (u64 x) 0 32 z = w
  unfold getN putN
  show (w % 4294967296 + y % 1073741824 * 4294967296 + w / 4611686018427387904 * 4611686018427387904) / 4294967296 % 1073741824 = y
  omega
/-- Came before, of one shard. -/
def le1 (x y : Int) : Prop := ver x < ver y ∨ x = y
theorem le1.refl (x : Int) : le1 x x := .inr rfl
theorem le1.trans {x y z : Int} (h : le1 x y) (g : le1 y z) : le1 x z := by
  rcases h with h | rfl
  · rcases g with g | rfl
    · exact .inl (Nat.lt_trans h g)
    · exact .inl h
  · exact g
theorem le1.ver {x y : Int} (h : le1 x y) : ver x ≤ ver y := by
  rcases h with h | rfl
  · exact Nat.le_of_lt h
  · exact Nat.le_refl _
theorem le1.mid {x y : Int} (h : le1 x y) (g : le1 y x) : x = y := by
  rcases h with h | h
  · have := g.ver; omega
  · exact h
/-- One shard's word in a row. -/
def at0 (l : List Int) (j : Nat) : Int := l.getD j 0
/-- Came before, shard by shard, of the first so many. -/
def leS (n : Nat) (a b : List Int) : Prop := ∀ j, j < n → le1 (at0 a j) (at0 b j)
theorem leS.refl (n : Nat) (a : List Int) : leS n a a := fun _ _ => .inr rfl
theorem leS.trans {n : Nat} {a b c : List Int} (h : leS n a b) (g : leS n b c) : leS n a c := fun j hj => (h j hj).trans (g j hj)
theorem leS.mono {n n' : Nat} {a b : List Int} (h : leS n a b) (hn : n' ≤ n) : leS n' a b := fun j hj => h j (by omega)
def verS (m : Nat) (a : List Int) : Nat := rsum m fun j => ver (at0 a j)
theorem leS.verS {m : Nat} {a b : List Int} (h : leS m a b) : verS m a ≤ verS m b := rsum_le_rsum fun j hj => (h j hj).ver
theorem at0_snoc_lt {l : List Int} {x : Int} {j : Nat} (h : j < l.length) : at0 (l ++ [x]) j = at0 l j := by
  unfold at0; rw [List.getD_eq_getElem?_getD, List.getD_eq_getElem?_getD, List.getElem?_append_left h]
theorem at0_snoc (l : List Int) (x : Int) : at0 (l ++ [x]) l.length = x := by
  unfold at0; simp
theorem at0_set {l : List Int} {c : Nat} {x : Int} (hc : c < l.length) : at0 (l.set c x) c = x := by
  unfold at0; simp [hc]
theorem at0_set_ne {l : List Int} {c j : Nat} {x : Int} (h : j ≠ c) : at0 (l.set c x) j = at0 l j := by
  unfold at0
  rw [List.getD_eq_getElem?_getD, List.getD_eq_getElem?_getD, List.getElem?_set_ne (fun e => h e.symm)]
theorem ext0 {a b : List Int} (hl : a.length = b.length) (h : ∀ j, j < a.length → at0 a j = at0 b j) : a = b := by
  apply List.ext_getElem hl
  intro j h1 h2
  have := h j h1
  unfold at0 at this
  simpa [h1, h2] using this
theorem sumOf_set : ∀ {l : List Int} {c : Nat} {x : Int}, c < l.length → sumOf (l.set c x) + amount (at0 l c) = sumOf l + amount x
  | [], _, _, h => by simp at h
  | y :: l, 0, x, _ => by simp [sumOf, at0]; omega
  | y :: l, c + 1, x, h => by
    have := sumOf_set (l := l) (c := c) (x := x) (by simpa using h)
    simp only [List.set_cons_succ, sumOf, List.map_cons, List.sum_cons, at0, List.getD_cons_succ] at this ⊢
    omega
theorem diffs_zero {a b : List Int} (hl : a.length = b.length) (h : diffs a b = 0) : a = b := by
  unfold diffs at h
  rw [List.length_eq_zero_iff, List.filter_eq_nil_iff] at h
  apply List.ext_getElem?
  intro j
  by_cases hj : j < a.length
  · have := h j (List.mem_range.2 hj)
    simpa using this
  · rw [List.getElem?_eq_none (by omega), List.getElem?_eq_none (by omega)]
theorem diffs_same (a : List Int) : diffs a a = 0 := by
  unfold diffs
  rw [List.length_eq_zero_iff, List.filter_eq_nil_iff]
  intro j _
  simp
/-- CounterTimes's words. -/
structure TimeS where
  total : Int
  busy : Int
  call : Nat → Nat
  seen : Nat → List Int
  quiet : Nat → Bool
  count : Nat → Int
def TimeS.init : TimeS := ⟨0, 0, fun _ => 0, fun _ => [], fun _ => false, fun _ => 0⟩
def opAt (L : List ACall) (k : Nat) : Int := match L[k]? with
  | some x => x.op
  | none => 0
def aAt (L : List ACall) (k : Nat) : Int := match L[k]? with
  | some x => x.a
  | none => 0
def isBE (s : TStep) : Prop := s.op = 9 ∨ s.op = 10
instance (s : TStep) : Decidable (isBE s) := inferInstanceAs (Decidable (_ ∨ _))
/-- Behind its first words: which call the thread is in. -/
def TimeS.in_ (S : TimeS) (s : TStep) : TimeS := if isBE s then { S with call := fup S.call s.th.toNat s.old.toNat } else S
def TimeS.begin_ (S : TimeS) (t : Nat) (op : Int) : TimeS :=
  let S := if op = 1 then { S with busy := S.busy + 1, quiet := fun _ => false } else S
  { S with quiet := fup S.quiet t (S.busy == 0), count := fup S.count t 0, seen := fup S.seen t [S.total] }
def TimeS.step_ (S : TimeS) (t : Nat) (op a : Int) (s : TStep) : TimeS :=
  let S := { S with count := fup S.count t (S.count t + 1) }
  if s.op = 4 ∧ op = 1 ∧ s.new ≠ s.old then { S with total := S.total + a.tmod 1000, seen := fun k => S.seen k ++ [S.total + a.tmod 1000] } else S
/-- May a call end so? -/
def TimeS.endOk (S : TimeS) (sh : Int) (R : List (Int × Int)) (t : Nat) (op : Int) (k : Nat) : Prop :=
  op = 2 → ∃ r, R[k]? = some r ∧ r.2 ∈ S.seen t ∧ (S.quiet t = true → S.count t = 2 * sh)
open Classical in
/-- One step of CounterTimes's loop. -/
noncomputable def timeStep (n : Nat) (sh : Int) (L : Nat → List ACall) (R : Nat → List (Int × Int)) (S : TimeS) (s : TStep) : Option TimeS :=
  if s.th < 0 ∨ (n : Int) ≤ s.th then none
  else if isBE s ∧ (s.old < 0 ∨ ((L s.th.toNat).length : Int) ≤ s.old ∨ ((R s.th.toNat).length : Int) ≤ s.old) then none
  else if s.op = 9 then some ((S.in_ s).begin_ s.th.toNat (opAt (L s.th.toNat) ((S.in_ s).call s.th.toNat)))
  else if s.op = 10 then
    if (S.in_ s).endOk sh (R s.th.toNat) s.th.toNat (opAt (L s.th.toNat) ((S.in_ s).call s.th.toNat)) s.old.toNat then
      some (if opAt (L s.th.toNat) ((S.in_ s).call s.th.toNat) = 1 then { S.in_ s with busy := (S.in_ s).busy - 1 } else S.in_ s)
    else none
  else some ((S.in_ s).step_ s.th.toNat (opAt (L s.th.toNat) ((S.in_ s).call s.th.toNat)) (aAt (L s.th.toNat) ((S.in_ s).call s.th.toNat)) s)
noncomputable def timeAll (n : Nat) (sh : Int) (L : Nat → List ACall) (R : Nat → List (Int × Int)) (T : List TStep) : Option TimeS := T.foldl (fun o s => o.bind fun S => timeStep n sh L R S s) (some .init)
theorem timeAll_snoc {n : Nat} {sh : Int} {L : Nat → List ACall} {R : Nat → List (Int × Int)} (T : List TStep) (s : TStep) : timeAll n sh L R (T ++ [s]) = (timeAll n sh L R T).bind fun S => timeStep n sh L R S s := by
  unfold timeAll; rw [List.foldl_append]; rfl
end Go.Proofs.Ytlnjmheocfbimaa


/- Plain: a counter's run, as CounterTimes looks at it: what stands at each turn. -/
namespace Go.Proofs.Ytlnjmheocfbimaa
open Go
/-- Where a thread is. -/
inductive Ph
  | off
  | addL (f : Nat)
  | addC (f : Nat) (v : Int)
  | s1 (f : Nat) (now : List Int)
  | s2 (f : Nat) (now1 now : List Int)
def Ph.isAdd : Ph → Bool
  | .addL _ => true
  | .addC _ _ => true
  | _ => false
/-- What comes behind a call. -/
def contK (fu m : Nat) (L : Nat → List ACall) (i : Nat) (acc : List (Int × Int)) (r : Int × Int) : Prog := .note 10 (-1) acc.length r.1 (Prog.calls (counterP fu m i) (r.1 == 4) (acc.length + 1) ((L i).drop (acc.length + 1)) (acc ++ [r]) .done)
def look2 (fu m : Nat) (L : Nat → List ACall) (i : Nat) (acc : List (Int × Int)) (f : Nat) (now1 now2 : List Int) : Prog := if diffs now2 now1 = 0 then contK fu m L i acc (0, sumOf now2) else sumP m (fun s => contK fu m L i acc (0, s)) f
def leftP (fu m : Nat) (L : Nat → List ACall) (i : Nat) (acc : List (Int × Int)) : Ph → Left
  | .off => .inr acc
  | .addL f => .inl (.rd (i % m) fun x => .did 1 (i % m) x x (.cas (i % m) x (addX x ((aAt (L i) acc.length).tmod 1000)) fun b => if b then contK fu m L i acc (0, 0) else addP (i % m) ((aAt (L i) acc.length).tmod 1000) (contK fu m L i acc (0, 0)) f))
  | .addC f v => .inl (.rd (i % m) fun x => if x = v then .wr (i % m) (addX v ((aAt (L i) acc.length).tmod 1000)) (.did 4 (i % m) v (addX v ((aAt (L i) acc.length).tmod 1000)) (if true = true then contK fu m L i acc (0, 0) else addP (i % m) ((aAt (L i) acc.length).tmod 1000) (contK fu m L i acc (0, 0)) f)) else .did 4 (i % m) x x (if false = true then contK fu m L i acc (0, 0) else addP (i % m) ((aAt (L i) acc.length).tmod 1000) (contK fu m L i acc (0, 0)) f))
  | .s1 f now => .inl (.rd now.length fun x => .did 1 now.length x x (lookP (fun now1 => lookP (look2 fu m L i acc f now1) m []) (m - now.length - 1) (now ++ [x])))
  | .s2 f now1 now => .inl (.rd now.length fun x => .did 1 now.length x x (lookP (look2 fu m L i acc f now1) (m - now.length - 1) (now ++ [x])))
def InCall (L : Nat → List ACall) (S : TimeS) (i : Nat) (acc : List (Int × Int)) (op : Int) : Prop := S.call i = acc.length ∧ acc.length < (L i).length ∧ opAt (L i) acc.length = op
def noAdd (n : Nat) (ph : Nat → Ph) : Prop := ∀ j, j < n → (ph j).isAdd = false
/-- What stands of a thread. -/
def ThI (fu m n : Nat) (L : Nat → List ACall) (V : List Int) (S : TimeS) (ph : Nat → Ph) (i : Nat) (acc : List (Int × Int)) : Ph → Prop
  | .off => True
  | .addL f => InCall L S i acc 1 ∧ fu ≤ f + 1 + ver (at0 V (i % m))
  | .addC f v => InCall L S i acc 1 ∧ le1 v (at0 V (i % m)) ∧ fu ≤ f + 1 + ver v
  | .s1 f now => InCall L S i acc 2 ∧ S.total ∈ S.seen i ∧ now.length < m ∧ (∃ Z, leS m Z V ∧ leS now.length Z now ∧ leS now.length now V ∧ fu ≤ f + 1 + verS m Z) ∧
      (S.quiet i = true → noAdd n ph ∧ f + 1 = fu ∧ (∀ j, j < now.length → at0 now j = at0 V j) ∧ S.count i = now.length)
  | .s2 f now1 now => InCall L S i acc 2 ∧ S.total ∈ S.seen i ∧ now.length < m ∧ now1.length = m ∧ (∃ Z T, leS m Z now1 ∧ leS m now1 T ∧ leS m T V ∧ leS now.length T now ∧ leS now.length now V ∧ T.length = m ∧ sumOf T ∈ S.seen i ∧ fu ≤ f + 1 + verS m Z) ∧
      (S.quiet i = true → noAdd n ph ∧ f + 1 = fu ∧ now1 = V ∧ (∀ j, j < now.length → at0 now j = at0 V j) ∧ S.count i = m + now.length)
theorem ThI.keep {fu m n : Nat} {L : Nat → List ACall} {V V' : List Int} {S S' : TimeS} {ph ph' : Nat → Ph} {i : Nat} {acc : List (Int × Int)} {p : Ph} (hm : 0 < m) (h : ThI fu m n L V S ph i acc p) (hV : leS m V V') (hc : S'.call i = S.call i) (hs : ∀ x ∈ S.seen i, x ∈ S'.seen i)
    (ht : S'.total = S.total ∨ S'.total ∈ S'.seen i) (hq : S'.quiet i = true → S.quiet i = true ∧ (noAdd n ph → V' = V ∧ noAdd n ph')) (hn : S'.count i = S.count i) : ThI fu m n L V' S' ph' i acc p := by
  have hIn : ∀ {op}, InCall L S i acc op → InCall L S' i acc op := fun h => ⟨hc.trans h.1, h.2⟩
  have htot : S.total ∈ S.seen i → S'.total ∈ S'.seen i := fun h => by
    rcases ht with e | e
    · rw [e]; exact hs _ h
    · exact e
  have hmod : i % m < m := Nat.mod_lt _ hm
  cases p with
  | off => trivial
  | addL f => exact ⟨hIn h.1, Nat.le_trans h.2 (by have := (hV _ hmod).ver; omega)⟩
  | addC f v => exact ⟨hIn h.1, h.2.1.trans (hV _ hmod), h.2.2⟩
  | s1 f now =>
    obtain ⟨h1, h2, h3, ⟨Z, h4, h5, h6, h7⟩, h8⟩ := h
    refine ⟨hIn h1, htot h2, h3, ⟨Z, h4.trans hV, h5, h6.trans (hV.mono (by omega)), h7⟩, fun hq' => ?_⟩
    obtain ⟨e1, e3⟩ := hq hq'
    obtain ⟨f1, f2, f3, f4⟩ := h8 e1
    obtain ⟨e2, e3⟩ := e3 f1
    exact ⟨e3, f2, by rw [e2]; exact f3, hn.trans f4⟩
  | s2 f now1 now =>
    obtain ⟨h1, h2, h3, h4, ⟨Z, T, g1, g2, g3, g4, g5, g6, g7, g8⟩, h8⟩ := h
    refine ⟨hIn h1, htot h2, h3, h4, ⟨Z, T, g1, g2, g3.trans hV, g4, g5.trans (hV.mono (by omega)), g6, hs _ g7, g8⟩, fun hq' => ?_⟩
    obtain ⟨e1, e3⟩ := hq hq'
    obtain ⟨f1, f2, f3, f4, f5⟩ := h8 e1
    obtain ⟨e2, e3⟩ := e3 f1
    exact ⟨e3, f2, by rw [e2]; exact f3, by rw [e2]; exact f4, hn.trans f5⟩
/-- ████ WHAT STANDS AT EACH TURN. ████ -/
structure CI (fu m n : Nat) (L : Nat → List ACall) (M : Mem) (ph : Nat → Ph) (acc : Nat → List (Int × Int)) (S : TimeS) : Prop where
  tr : ∀ R : Nat → List (Int × Int), (∀ i, i < n → (R i).length = (L i).length ∧ acc i <+: R i) → timeAll n m L R M.trace = some S
  vlen : M.vals.length = m
  vs : verS m M.vals ≤ rsum n fun i => (acc i).length
  al : ∀ i, i < n → (acc i).length ≤ (L i).length
  amt : ∀ j, j < m → -(999 * (ver (at0 M.vals j) : Int)) ≤ amount (at0 M.vals j) ∧ amount (at0 M.vals j) ≤ 999 * (ver (at0 M.vals j) : Int)
  tot : S.total = sumOf M.vals
  busy : S.busy = (rsum n fun i => if (ph i).isAdd then 1 else 0 : Nat)
  th : ∀ i, i < n → ThI fu m n L M.vals S ph i (acc i) (ph i)
section
variable {fu m n : Nat} {L : Nat → List ACall}
theorem timeStep_op {sh : Int} {R : Nat → List (Int × Int)} {S : TimeS} {s : TStep} {i : Nat} (hi : i < n) (ht : s.th = i) (h9 : s.op ≠ 9) (h10 : s.op ≠ 10) : timeStep n sh L R S s = some (S.step_ i (opAt (L i) (S.call i)) (aAt (L i) (S.call i)) s) := by
  have hb : ¬ isBE s := fun h => h.elim h9 h10
  unfold timeStep
  rw [if_neg (by omega), if_neg (fun h => hb h.1), if_neg h9, if_neg h10, ht]
  unfold TimeS.in_
  rw [if_neg hb]
  simp only [Int.toNat_natCast]
def TimeS.cnt1 (S : TimeS) (i : Nat) : TimeS := { S with count := fup S.count i (S.count i + 1) }
theorem timeStep_same {sh : Int} {R : Nat → List (Int × Int)} {S : TimeS} {i : Nat} (hi : i < n) (c op x : Int) (h9 : op ≠ 9) (h10 : op ≠ 10) : timeStep n sh L R S ⟨i, c, op, x, x⟩ = some (S.cnt1 i) := by
  rw [timeStep_op hi rfl h9 h10]
  unfold TimeS.step_
  rw [if_neg fun h => h.2.2 rfl]
  rfl
theorem tr_snoc {M : Mem} {acc : Nat → List (Int × Int)} {S S' : TimeS} {s : TStep} (h : ∀ R : Nat → List (Int × Int), (∀ i, i < n → (R i).length = (L i).length ∧ acc i <+: R i) → timeAll n m L R M.trace = some S)
    (hs : ∀ R : Nat → List (Int × Int), (∀ i, i < n → (R i).length = (L i).length ∧ acc i <+: R i) → timeStep n m L R S s = some S') : ∀ R : Nat → List (Int × Int), (∀ i, i < n → (R i).length = (L i).length ∧ acc i <+: R i) → timeAll n m L R (M.trace ++ [s]) = some S' := fun R hR => by
  rw [timeAll_snoc, h R hR]
  exact hs R hR
/-- A thread looks at a cell, or fails to change it: only its own words change. -/
theorem CI.quietly {M : Mem} {ph : Nat → Ph} {acc : Nat → List (Int × Int)} {S : TimeS} (h : CI fu m n L M ph acc S) (hm : 0 < m) {i : Nat} (hi : i < n) (c op x : Int) (h9 : op ≠ 9) (h10 : op ≠ 10) {p : Ph} (hp : p.isAdd = (ph i).isAdd)
    (hT : (∀ ph' : Nat → Ph, (∀ j, (ph' j).isAdd = (ph j).isAdd) → ThI fu m n L M.vals (S.cnt1 i) ph' i (acc i) p)) :
    CI fu m n L (M.note i op c x x) (fup ph i p) acc (S.cnt1 i) := by
  have hadd : ∀ j, ((fup ph i p) j).isAdd = (ph j).isAdd := fun j => by
    by_cases e : j = i
    · subst e; rw [fup_same, hp]
    · rw [fup_ne _ _ e]
  refine ⟨tr_snoc h.tr fun R _ => timeStep_same hi c op x h9 h10, h.vlen, h.vs, h.al, h.amt, h.tot, ?_, fun j hj => ?_⟩
  · rw [show (S.cnt1 i).busy = S.busy from rfl, h.busy]
    congr 1
    exact rsum_congr fun j _ => by rw [hadd]
  · by_cases e : j = i
    · subst e
      rw [fup_same]
      exact hT _ hadd
    · rw [fup_ne _ _ e]
      exact (h.th j hj).keep hm (leS.refl _ _) rfl (fun _ h => h) (.inl rfl) (fun hq => ⟨hq, fun hn => ⟨rfl, fun j hj => by rw [hadd]; exact hn j hj⟩⟩) (by show fup S.count i _ j = _; rw [fup_ne _ _ e])
theorem at0_get {V : List Int} {M : Mem} (h : M.vals = V) (c : Nat) : M.get c = at0 V c := by
  unfold Mem.get at0; rw [h, List.getD_eq_getElem?_getD]
theorem ver_lt {M : Mem} {ph : Nat → Ph} {acc : Nat → List (Int × Int)} {S : TimeS} (h : CI fu m n L M ph acc S) (hn : n ≤ 8) (hL : ∀ i, i < n → (L i).length ≤ 64) : verS m M.vals ≤ 512 := by
  have h1 := h.vs
  have h2 : (rsum n fun i => (acc i).length) ≤ n * 64 := rsum_le fun j hj => Nat.le_trans (h.al j hj) (hL j hj)
  omega
theorem ver_at {M : Mem} {ph : Nat → Ph} {acc : Nat → List (Int × Int)} {S : TimeS} (h : CI fu m n L M ph acc S) (hn : n ≤ 8) (hL : ∀ i, i < n → (L i).length ≤ 64) {j : Nat} (hj : j < m) : ver (at0 M.vals j) ≤ 512 := by
  have h1 := ver_lt h hn hL
  have h2 : ver (at0 M.vals j) ≤ verS m M.vals := rsum_pos (f := fun j => ver (at0 M.vals j)) hj
  omega
/-- What a thread's going comes to. -/
def CQ (fu m n : Nat) (L : Nat → List ACall) (i : Nat) (ph0 : Nat → Ph) (acc0 : Nat → List (Int × Int)) (M : Mem) (q : Left) : Prop :=
  ∃ ph acc S, CI fu m n L M ph acc S ∧ q = leftP fu m L i (acc i) (ph i) ∧ (ph i = .off → (acc i).length = (L i).length) ∧ ∀ j, j ≠ i → ph j = ph0 j ∧ acc j = acc0 j
theorem CQ.trans {i : Nat} {ph0 ph1 : Nat → Ph} {acc0 acc1 : Nat → List (Int × Int)} {M : Mem} {q : Left} (h : CQ fu m n L i ph1 acc1 M q) (g : ∀ j, j ≠ i → ph1 j = ph0 j ∧ acc1 j = acc0 j) : CQ fu m n L i ph0 acc0 M q := by
  obtain ⟨ph, acc, S, h1, h2, h3, h4⟩ := h
  exact ⟨ph, acc, S, h1, h2, h3, fun j hj => ⟨(h4 j hj).1.trans (g j hj).1, (h4 j hj).2.trans (g j hj).2⟩⟩
theorem wq_mono {i : Nat} {Q R : Mem → Left → Prop} (hQ : ∀ M q, Q M q → R M q) : ∀ {p : Prog} {M : Mem}, p.wq i M Q → p.wq i M R
  | .done _, _, h => hQ _ _ h
  | .out, _, h => h.elim
  | .wait .., _, h => ⟨h.1, hQ _ _ h.2⟩
  | .rd _ k, _, h => wq_mono hQ (p := k _) h
  | .wr _ _ k, _, h => wq_mono hQ (p := k) h
  | .note _ _ _ _ k, _, h => wq_mono hQ (p := k) h
  | .bump _ k, _, h => wq_mono hQ (p := k) h
  | .stk k, _, h => wq_mono hQ (p := k _) h
end
end Go.Proofs.Ytlnjmheocfbimaa


/- Plain: a counter's threads, step by step. -/
namespace Go.Proofs.Ytlnjmheocfbimaa
open Go
section
variable {fu m n : Nat} {L : Nat → List ACall}
theorem in_be {S : TimeS} {s : TStep} (h : isBE s) : S.in_ s = { S with call := fup S.call s.th.toNat s.old.toNat } := by unfold TimeS.in_; rw [if_pos h]
/-- A call ends. -/
theorem timeStep_end {sh : Int} {R : Nat → List (Int × Int)} {S : TimeS} {i k : Nat} (hi : i < n) (hk : k < (L i).length) (hR : k < (R i).length) (c w : Int) (hE : TimeS.endOk { S with call := fup S.call i k } sh (R i) i (opAt (L i) k) k) :
    timeStep n sh L R S ⟨i, c, 10, k, w⟩ = some (if opAt (L i) k = 1 then { S with call := fup S.call i k, busy := S.busy - 1 } else { S with call := fup S.call i k }) := by
  have hb : isBE ⟨i, c, 10, k, w⟩ := .inr rfl
  have h1 : ¬ ((i : Int) < 0 ∨ (n : Int) ≤ i) := by omega
  have h2 : ¬ ((k : Int) < 0 ∨ ((L i).length : Int) ≤ k ∨ ((R i).length : Int) ≤ k) := by omega
  unfold timeStep
  rw [in_be hb]
  simp only [Int.toNat_natCast, h1, if_false, h2, and_false, fup_same, show ¬ ((10 : Int) = 9) by decide, if_true]
  have e : fup S.call i k i = k := fup_same _ _ _
  rw [if_pos (by rw [e]; exact hE)]
/-- A call begins. -/
theorem timeStep_begin {sh : Int} {R : Nat → List (Int × Int)} {S : TimeS} {i k : Nat} (hi : i < n) (hk : k < (L i).length) (hR : k < (R i).length) (c w : Int) :
    timeStep n sh L R S ⟨i, c, 9, k, w⟩ = some (TimeS.begin_ { S with call := fup S.call i k } i (opAt (L i) k)) := by
  have hb : isBE ⟨i, c, 9, k, w⟩ := .inl rfl
  have h1 : ¬ ((i : Int) < 0 ∨ (n : Int) ≤ i) := by omega
  have h2 : ¬ ((k : Int) < 0 ∨ ((L i).length : Int) ≤ k ∨ ((R i).length : Int) ≤ k) := by omega
  unfold timeStep
  rw [in_be hb]
  simp only [Int.toNat_natCast, h1, if_false, h2, and_false, fup_same, if_true]
theorem ok_at {acc : Nat → List (Int × Int)} {R : Nat → List (Int × Int)} (hR : ∀ i, i < n → (R i).length = (L i).length ∧ acc i <+: R i) {i : Nat} (hi : i < n) {l : List (Int × Int)} {r : Int × Int} (h : acc i = l ++ [r]) : (R i)[l.length]? = some r := by
  obtain ⟨t, ht⟩ := (hR i hi).2
  rw [← ht, h, List.append_assoc, List.getElem?_append_right (Nat.le_refl _)]
  simp
theorem ok_less {acc : Nat → List (Int × Int)} {R : Nat → List (Int × Int)} {i : Nat} {l : List (Int × Int)} {r : Int × Int} (hR : ∀ j, j < n → (R j).length = (L j).length ∧ fup acc i (l ++ [r]) j <+: R j) (hl : acc i = l) : ∀ j, j < n → (R j).length = (L j).length ∧ acc j <+: R j := fun j hj => by
  obtain ⟨h1, h2⟩ := hR j hj
  refine ⟨h1, ?_⟩
  by_cases e : j = i
  · subst e
    rw [fup_same] at h2
    rw [hl]
    exact (List.prefix_append l [r]).trans h2
  · rwa [fup_ne _ _ e] at h2
/-- The threads that add, one less, or one more, or as many. -/
theorem busy_upd {ph : Nat → Ph} {i : Nat} (hi : i < n) (p : Ph) : (rsum n fun j => if (fup ph i p j).isAdd then 1 else 0) + (if (ph i).isAdd then 1 else 0) = (rsum n fun j => if (ph j).isAdd then 1 else 0) + (if p.isAdd then 1 else 0) := by
  have := rsum_upd (n := n) (f := fun j => if (ph j).isAdd then 1 else 0) (g := fun j => if (fup ph i p j).isAdd then 1 else 0) hi fun j hj => by simp only [fup_ne _ _ hj]
  simpa only [fup_same] using this
theorem acc_upd {acc : Nat → List (Int × Int)} {i : Nat} (hi : i < n) (r : Int × Int) : (rsum n fun j => (fup acc i (acc i ++ [r]) j).length) = (rsum n fun j => (acc j).length) + 1 := by
  have := rsum_upd (n := n) (f := fun j => (acc j).length) (g := fun j => (fup acc i (acc i ++ [r]) j).length) hi fun j hj => by simp only [fup_ne _ _ hj]
  simp only [fup_same, List.length_append, List.length_singleton] at this
  omega
/-- A call ends that changed nothing now: of an Op that is none, or a Sum. -/
theorem CI.ends {M : Mem} {ph : Nat → Ph} {acc : Nat → List (Int × Int)} {S : TimeS} (h : CI fu m n L M ph acc S) (hm : 0 < m) {i : Nat} (hi : i < n) (hna : (ph i).isAdd = false) (hlt : (acc i).length < (L i).length) (hop : opAt (L i) (acc i).length ≠ 1) (r : Int × Int)
    (hE : opAt (L i) (acc i).length = 2 → r.2 ∈ S.seen i ∧ (S.quiet i = true → S.count i = 2 * m)) :
    CI fu m n L (M.note i 10 (-1) (acc i).length r.1) (fup ph i .off) (fup acc i (acc i ++ [r])) { S with call := fup S.call i (acc i).length } := by
  have hadd : ∀ j, ((fup ph i .off) j).isAdd = (ph j).isAdd := fun j => by
    by_cases e : j = i
    · subst e; rw [fup_same, hna]; rfl
    · rw [fup_ne _ _ e]
  refine ⟨fun R hR => ?_, h.vlen, by rw [acc_upd hi]; have := h.vs; show verS m M.vals ≤ _; omega, fun j hj => ?_, h.amt, h.tot, ?_, fun j hj => ?_⟩
  · have hR0 := ok_less hR rfl
    show timeAll n m L R (M.trace ++ [_]) = _
    rw [timeAll_snoc, h.tr R hR0, Option.bind_some, timeStep_end hi hlt (by rw [(hR i hi).1]; exact hlt) (-1) r.1 ?_, if_neg hop]
    intro h2
    obtain ⟨e1, e2⟩ := hE h2
    exact ⟨r, ok_at hR hi (fup_same _ _ _), e1, e2⟩
  · by_cases e : j = i
    · subst e; rw [fup_same]; simp; omega
    · rw [fup_ne _ _ e]; exact h.al j hj
  · show S.busy = _
    rw [h.busy]
    congr 1
    exact rsum_congr fun j _ => by rw [hadd]
  · by_cases e : j = i
    · subst e; rw [fup_same, fup_same]; trivial
    · rw [fup_ne _ _ e, fup_ne _ _ e]
      exact (h.th j hj).keep hm (leS.refl _ _) (by show fup S.call i _ j = _; rw [fup_ne _ _ e]) (fun _ h => h) (.inl rfl) (fun hq => ⟨hq, fun hn => ⟨rfl, fun j hj => by rw [hadd]; exact hn j hj⟩⟩) rfl
/-- A call begins, of an Op that is no Add. -/
theorem CI.begins {M : Mem} {ph : Nat → Ph} {acc : Nat → List (Int × Int)} {S : TimeS} (h : CI fu m n L M ph acc S) (hm : 0 < m) {i : Nat} (hi : i < n) (hoff : ph i = .off) (hlt : (acc i).length < (L i).length) (hop : opAt (L i) (acc i).length ≠ 1) {p : Ph} (hp : p.isAdd = false)
    (hT : (∀ (S' : TimeS) (ph' : Nat → Ph), S'.call i = (acc i).length → S'.total ∈ S'.seen i → S'.count i = 0 → (S'.quiet i = true → noAdd n ph') → ThI fu m n L M.vals S' ph' i (acc i) p)) :
    CI fu m n L (M.note i 9 (-1) (acc i).length 0) (fup ph i p) acc (TimeS.begin_ { S with call := fup S.call i (acc i).length } i (opAt (L i) (acc i).length)) := by
  have hadd : ∀ j, ((fup ph i p) j).isAdd = (ph j).isAdd := fun j => by
    by_cases e : j = i
    · subst e; rw [fup_same, hoff, hp]; rfl
    · rw [fup_ne _ _ e]
  have hS : TimeS.begin_ { S with call := fup S.call i (acc i).length } i (opAt (L i) (acc i).length) = { S with call := fup S.call i (acc i).length, quiet := fup S.quiet i (S.busy == 0), count := fup S.count i 0, seen := fup S.seen i [S.total] } := by
    unfold TimeS.begin_
    rw [if_neg hop]
  have htr : ∀ R : Nat → List (Int × Int), (∀ i, i < n → (R i).length = (L i).length ∧ acc i <+: R i) → timeAll n m L R (M.trace ++ [⟨i, -1, 9, (acc i).length, 0⟩]) = some (TimeS.begin_ { S with call := fup S.call i (acc i).length } i (opAt (L i) (acc i).length)) :=
    tr_snoc h.tr fun R hR => timeStep_begin hi hlt (by rw [(hR i hi).1]; exact hlt) _ _
  rw [hS] at htr ⊢
  refine ⟨htr, h.vlen, h.vs, h.al, h.amt, h.tot, ?_, fun j hj => ?_⟩
  · show S.busy = _
    rw [h.busy]
    congr 1
    exact rsum_congr fun j _ => by rw [hadd]
  · by_cases e : j = i
    · subst e
      rw [fup_same]
      refine hT _ _ (fup_same _ _ _) (by show S.total ∈ fup S.seen j _ j; rw [fup_same]; simp) (fup_same _ _ _) fun hq => ?_
      have hq' : fup S.quiet j (S.busy == 0) j = true := hq
      rw [fup_same] at hq'
      have hb0 : S.busy = 0 := by simpa using hq'
      intro k hk
      rw [hadd]
      have := h.busy
      rw [hb0] at this
      have h0 : (rsum n fun i => if (ph i).isAdd then 1 else 0) = 0 := by omega
      have h1 := rsum_pos (f := fun i => if (ph i).isAdd then 1 else 0) hk
      rw [h0] at h1
      cases hh : (ph k).isAdd with
      | false => rfl
      | true => simp [hh] at h1
    · rw [fup_ne _ _ e]
      exact (h.th j hj).keep hm (leS.refl _ _) (by show fup S.call i _ j = _; rw [fup_ne _ _ e]) (fun x hx => by show x ∈ fup S.seen i _ j; rw [fup_ne _ _ e]; exact hx) (.inl rfl) (fun hq => ⟨by have hq' : fup S.quiet i _ j = true := hq; rw [fup_ne _ _ e] at hq'; exact hq', fun hn => ⟨rfl, fun j hj => by rw [hadd]; exact hn j hj⟩⟩) (by show fup S.count i _ j = _; rw [fup_ne _ _ e])
/-- An Add begins. -/
theorem CI.beginsAdd {M : Mem} {ph : Nat → Ph} {acc : Nat → List (Int × Int)} {S : TimeS} (h : CI fu m n L M ph acc S) (hm : 0 < m) {i : Nat} (hi : i < n) (hoff : ph i = .off) (hlt : (acc i).length < (L i).length) (hop : opAt (L i) (acc i).length = 1) {f : Nat} (hf : fu = f + 1) :
    CI fu m n L (M.note i 9 (-1) (acc i).length 0) (fup ph i (.addL f)) acc (TimeS.begin_ { S with call := fup S.call i (acc i).length } i (opAt (L i) (acc i).length)) := by
  have hS : TimeS.begin_ { S with call := fup S.call i (acc i).length } i (opAt (L i) (acc i).length) = { S with call := fup S.call i (acc i).length, busy := S.busy + 1, quiet := fup (fun _ => false) i (S.busy + 1 == 0), count := fup S.count i 0, seen := fup S.seen i [S.total] } := by
    unfold TimeS.begin_
    rw [if_pos hop]
  have htr : ∀ R : Nat → List (Int × Int), (∀ i, i < n → (R i).length = (L i).length ∧ acc i <+: R i) → timeAll n m L R (M.trace ++ [⟨i, -1, 9, (acc i).length, 0⟩]) = some (TimeS.begin_ { S with call := fup S.call i (acc i).length } i (opAt (L i) (acc i).length)) :=
    tr_snoc h.tr fun R hR => timeStep_begin hi hlt (by rw [(hR i hi).1]; exact hlt) _ _
  rw [hS] at htr ⊢
  refine ⟨htr, h.vlen, h.vs, h.al, h.amt, h.tot, ?_, fun j hj => ?_⟩
  · have := busy_upd (ph := ph) hi (.addL f)
    have e1 : (ph i).isAdd = false := by rw [hoff]; rfl
    have e2 : (Ph.addL f).isAdd = true := rfl
    rw [e1, e2] at this
    simp only [if_true, Bool.false_eq_true, if_false] at this
    show S.busy + 1 = _
    rw [h.busy]
    omega
  · by_cases e : j = i
    · subst e
      rw [fup_same]
      exact ⟨⟨fup_same _ _ _, hlt, hop⟩, by omega⟩
    · rw [fup_ne _ _ e]
      exact (h.th j hj).keep hm (leS.refl _ _) (by show fup S.call i _ j = _; rw [fup_ne _ _ e]) (fun x hx => by show x ∈ fup S.seen i _ j; rw [fup_ne _ _ e]; exact hx) (.inl rfl) (fun hq => by have hq' : fup (fun _ => false) i _ j = true := hq; rw [fup_ne _ _ e] at hq'; cases hq') (by show fup S.count i _ j = _; rw [fup_ne _ _ e])
/-- From between two calls a thread goes on. -/
theorem calls_wq (hm : 0 < m) (hfu : 600 ≤ fu) {i : Nat} (hi : i < n) : ∀ (r : Nat) (M : Mem) (ph : Nat → Ph) (acc : Nat → List (Int × Int)) (S : TimeS), CI fu m n L M ph acc S → ph i = .off → (acc i).length + r = (L i).length →
    (Prog.calls (counterP fu m i) false (acc i).length ((L i).drop (acc i).length) (acc i) .done).wq i M (CQ fu m n L i ph acc) := by
  intro r
  induction r with
  | zero =>
    intro M ph acc S h hoff hr
    rw [List.drop_of_length_le (by omega)]
    refine ⟨ph, acc, S, h, ?_, fun _ => by omega, fun j _ => ⟨rfl, rfl⟩⟩
    rw [hoff]
    rfl
  | succ r ih =>
    intro M ph acc S h hoff hr
    have hlt : (acc i).length < (L i).length := by omega
    rw [List.drop_eq_getElem_cons hlt]
    have hop : opAt (L i) (acc i).length = (L i)[(acc i).length].op := by unfold opAt; rw [List.getElem?_eq_getElem hlt]
    have ha : aAt (L i) (acc i).length = (L i)[(acc i).length].a := by unfold aAt; rw [List.getElem?_eq_getElem hlt]
    generalize hx : (L i)[(acc i).length] = x at hop ha ⊢
    obtain ⟨f, hf⟩ : ∃ f, fu = f + 1 := ⟨fu - 1, by omega⟩
    show (counterP fu m i x (contK fu m L i (acc i))).wq i (M.note i 9 (-1) (acc i).length 0) _
    unfold counterP
    by_cases h1 : x.op = 1
    · rw [if_pos h1]
      have hB := h.beginsAdd hm hi hoff hlt (by rw [hop, h1]) hf
      have hadd : addP (i % m) (x.a.tmod 1000) (contK fu m L i (acc i) (0, 0)) fu = .load (i % m) fun v => .cas (i % m) v (addX v (x.a.tmod 1000)) fun b => if b then contK fu m L i (acc i) (0, 0) else addP (i % m) (x.a.tmod 1000) (contK fu m L i (acc i) (0, 0)) f := by rw [hf]; rfl
      rw [hadd]
      refine ⟨rfl, _, _, _, hB, ?_, fun e => ?_, fun j hj => ⟨fup_ne _ _ hj, rfl⟩⟩
      · rw [fup_same]
        show _ = leftP fu m L i (acc i) (.addL f)
        unfold leftP
        rw [ha]
      · rw [fup_same] at e; cases e
    · rw [if_neg h1]
      by_cases h2 : x.op = 2
      · rw [if_pos h2]
        have hB := h.begins hm hi hoff hlt (by rw [hop]; exact h1) (p := .s1 f []) rfl fun S' ph' e1 e2 e3 e4 => ⟨⟨e1, hlt, by rw [hop, h2]⟩, e2, hm, ⟨M.vals, leS.refl _ _, fun _ h => by simp at h, fun _ h => by simp at h, by omega⟩, fun hq => ⟨e4 hq, by omega, fun _ h => by simp at h, by rw [e3]; rfl⟩⟩
        obtain ⟨m', hm'⟩ : ∃ m', m = m' + 1 := ⟨m - 1, by omega⟩
        have hsum : sumP m (fun s => contK fu m L i (acc i) (0, s)) fu = .load 0 fun v => lookP (fun now1 => lookP (look2 fu m L i (acc i) f now1) m []) (m - 0 - 1) ([] ++ [v]) := by
          rw [hf, hm']; rfl
        rw [hsum]
        refine ⟨rfl, _, _, _, hB, ?_, fun e => ?_, fun j hj => ⟨fup_ne _ _ hj, rfl⟩⟩
        · rw [fup_same]; rfl
        · rw [fup_same] at e; cases e
      · rw [if_neg h2]
        have hB := h.begins hm hi hoff hlt (by rw [hop]; exact h1) (p := .off) rfl fun S' ph' _ _ _ _ => trivial
        have hoff' : fup ph i Ph.off i = .off := fup_same _ _ _
        have hE := hB.ends hm hi (by rw [hoff']; rfl) hlt (by rw [hop]; exact h1) (1, 0) fun h3 => absurd (hop.symm.trans h3) h2
        have := ih _ _ _ _ hE (fup_same _ _ _) (by rw [fup_same]; simp; omega)
        rw [fup_same] at this
        show (contK fu m L i (acc i) (1, 0)).wq i _ _
        unfold contK
        show (Prog.calls _ false _ _ _ _).wq i _ _
        rw [List.length_append, List.length_singleton] at this
        exact wq_mono (fun M q hq => hq.trans fun j hj => ⟨(fup_ne _ _ hj).trans (fup_ne _ _ hj), fup_ne _ _ hj⟩) this
end
end Go.Proofs.Ytlnjmheocfbimaa


/- Plain: a counter's run ends, and is as CounterTimes wants it. -/
namespace Go.Proofs.Ytlnjmheocfbimaa
open Go
section
variable {fu m n : Nat} {L : Nat → List ACall}
theorem did_same {i : Nat} {op x : Int} {c : Nat} {k : Prog} {M : Mem} {Q : Mem → Left → Prop} (h : k.wq i (M.note i op c x x) Q) : (Prog.did op c x x k).wq i M Q := by
  unfold Prog.did
  rw [if_pos rfl]
  exact h
theorem leS_snoc {now V : List Int} {x : Int} (h : leS now.length now V) (hx : le1 x (at0 V now.length)) : leS (now ++ [x]).length (now ++ [x]) V := fun j hj => by
  rw [List.length_append, List.length_singleton] at hj
  by_cases e : j = now.length
  · subst e; rw [at0_snoc]; exact hx
  · rw [at0_snoc_lt (by omega)]; exact h j (by omega)
theorem leS_snoc' {now Z : List Int} {x : Int} (h : leS now.length Z now) (hx : le1 (at0 Z now.length) x) : leS (now ++ [x]).length Z (now ++ [x]) := fun j hj => by
  rw [List.length_append, List.length_singleton] at hj
  by_cases e : j = now.length
  · subst e; rw [at0_snoc]; exact hx
  · rw [at0_snoc_lt (by omega)]; exact h j (by omega)
theorem at0_snoc_eq {now V : List Int} (h : ∀ j, j < now.length → at0 now j = at0 V j) : ∀ j, j < (now ++ [at0 V now.length]).length → at0 (now ++ [at0 V now.length]) j = at0 V j := fun j hj => by
  rw [List.length_append, List.length_singleton] at hj
  by_cases e : j = now.length
  · subst e; rw [at0_snoc]
  · rw [at0_snoc_lt (by omega)]; exact h j (by omega)
theorem verS_lt {m : Nat} {a b : List Int} (h : leS m a b) {j : Nat} (hj : j < m) (hl : ver (at0 a j) < ver (at0 b j)) : verS m a < verS m b := rsum_lt_rsum (f := fun j => ver (at0 a j)) (g := fun j => ver (at0 b j)) (fun j hj => (h j hj).ver) hj hl
/-- A thread goes from one step to the next. -/
theorem left_wq (hm : 0 < m) (hn : n ≤ 8) (hL : ∀ i, i < n → (L i).length ≤ 64) (hfu : 600 ≤ fu) {i : Nat} (hi : i < n) {M : Mem} {ph : Nat → Ph} {acc : Nat → List (Int × Int)} {S : TimeS} (h : CI fu m n L M ph acc S) {k : Prog} (hk : leftP fu m L i (acc i) (ph i) = .inl k) :
    k.wq i M (CQ fu m n L i ph acc) := by
  have hmod : i % m < m := Nat.mod_lt _ hm
  have hT := h.th i hi
  have hc1 : (S.cnt1 i).count i = S.count i + 1 := fup_same _ _ _
  cases hp : ph i with
  | off => rw [hp] at hk; cases hk
  | addL f =>
    rw [hp] at hk hT
    cases hk
    obtain ⟨g1, g2⟩ := hT
    show Prog.wq i (Prog.did _ _ _ _ _) M _
    refine did_same ?_
    have := h.quietly hm hi (i % m : Nat) 1 (M.get (i % m)) (by decide) (by decide) (p := .addC f (M.get (i % m))) (by rw [hp]; rfl) fun ph' _ => ⟨⟨g1.1, g1.2⟩, by rw [at0_get rfl]; exact .inr rfl, by rw [at0_get rfl]; exact g2⟩
    exact ⟨rfl, _, _, _, this, by rw [fup_same]; rfl, fun e => (by rw [fup_same] at e; cases e), fun j hj => ⟨fup_ne _ _ hj, rfl⟩⟩
  | addC f v =>
    rw [hp] at hk hT
    cases hk
    obtain ⟨⟨g1, g2, g3⟩, g4, g5⟩ := hT
    have hv512 := ver_at h hn hL hmod
    by_cases hx : M.get (i % m) = v
    · -- it is done
      show Prog.wq i (if _ then _ else _) M _
      rw [if_pos hx]
      have hvx : at0 M.vals (i % m) = v := by rw [← at0_get rfl]; exact hx
      generalize hnn : (aAt (L i) (acc i).length).tmod 1000 = nn
      have hnr : -999 ≤ nn ∧ nn ≤ 999 := by
        have h1 := Int.tmod_lt_of_pos (aAt (L i) (acc i).length) (show (0 : Int) < 1000 by omega)
        have h2 : -1000 < (aAt (L i) (acc i).length).tmod 1000 := Int.lt_tmod_of_pos _ (by omega)
        omega
      have hver : ver (addX v nn) = ver v + 1 := by rw [ver_addX, Nat.mod_eq_of_lt (by rw [← hvx]; omega)]
      have hne : v ≠ addX v nn := fun e => by rw [← e] at hver; omega
      have hamt0 := h.amt _ hmod
      rw [hvx] at hamt0
      rw [hvx] at hv512
      have hamt1 : -(999 * ((ver v + 1 : Nat) : Int)) ≤ amount v + nn ∧ amount v + nn ≤ 999 * ((ver v + 1 : Nat) : Int) := by omega
      have htm : nn.tmod 4294967296 = nn := by
        have := Int.tmod_def nn 4294967296
        have h1 := Int.tmod_lt_of_pos nn (show (0 : Int) < 4294967296 by omega)
        have h2 : -4294967296 < nn.tmod 4294967296 := Int.lt_tmod_of_pos _ (by omega)
        rcases Int.le_total 0 nn with h0 | h0
        · exact Int.tmod_eq_of_lt h0 (by omega)
        · have e : nn = -(-nn) := by omega
          rw [e, Int.neg_tmod, Int.tmod_eq_of_lt (by omega) (by omega)]
      have hamt : amount (addX v nn) = amount v + nn := by rw [amount_addX, htm, IntKind.wrap_i32]; omega
      have hle : leS m M.vals (M.vals.set (i % m) (addX v nn)) := fun j hj => by
        by_cases e : j = i % m
        · subst e; rw [at0_set (by rw [h.vlen]; exact hmod), hvx]; exact .inl (by rw [hver]; omega)
        · rw [at0_set_ne e]; exact .inr rfl
      have hsum := sumOf_set (l := M.vals) (x := addX v nn) (show i % m < M.vals.length by rw [h.vlen]; exact hmod)
      rw [hvx, hamt] at hsum
      have hlt := g2
      have hst : ∀ R : Nat → List (Int × Int), timeStep n m L R S ⟨i, (i % m : Nat), 4, v, addX v nn⟩ = some { S with total := S.total + nn, count := fup S.count i (S.count i + 1), seen := fun k => S.seen k ++ [S.total + nn] } := fun R => by
        rw [timeStep_op hi rfl (show (4 : Int) ≠ 9 by decide) (show (4 : Int) ≠ 10 by decide), g1, g3, hnn.symm]
        unfold TimeS.step_
        rw [if_pos ⟨rfl, rfl, by rw [hnn]; exact hne.symm⟩]
      have hC : CI fu m n L (((((M.put (i % m) (addX v nn)).note i 4 (i % m : Nat) v (addX v nn)).bump (i % m))).note i 10 (-1) (acc i).length 0) (fup ph i .off) (fup acc i (acc i ++ [(0, 0)]))
          { S with total := S.total + nn, busy := S.busy - 1, count := fup S.count i (S.count i + 1), seen := fun k => S.seen k ++ [S.total + nn], call := fup S.call i (acc i).length } := by
        refine ⟨fun R hR => ?_, by show (M.vals.set _ _).length = m; rw [List.length_set, h.vlen], ?_, fun j hj => ?_, fun j hj => ?_, ?_, ?_, fun j hj => ?_⟩
        · show timeAll n m L R ((M.trace ++ [_]) ++ [_]) = _
          rw [timeAll_snoc, timeAll_snoc, h.tr R (ok_less hR rfl), Option.bind_some, hst R, Option.bind_some, timeStep_end hi hlt (by rw [(hR i hi).1]; exact hlt) (-1) 0 (fun e => by rw [g3] at e; cases e), if_pos g3]
        · rw [acc_upd hi]
          have h1 := rsum_upd (n := m) (f := fun j => ver (at0 M.vals j)) (g := fun j => ver (at0 (M.vals.set (i % m) (addX v nn)) j)) hmod fun j hj => by simp only [at0_set_ne hj]
          simp only [at0_set (show i % m < M.vals.length by rw [h.vlen]; exact hmod), hvx, hver] at h1
          have h2 := h.vs
          unfold verS at h2
          show verS m (M.vals.set (i % m) (addX v nn)) ≤ _
          unfold verS
          omega
        · by_cases e : j = i
          · subst e; rw [fup_same]; simp; omega
          · rw [fup_ne _ _ e]; exact h.al j hj
        · show _ ≤ amount (at0 (M.vals.set (i % m) (addX v nn)) j) ∧ _
          by_cases e : j = i % m
          · subst e
            rw [show (((((M.put (i % m) (addX v nn)).note i 4 (i % m : Nat) v (addX v nn)).bump (i % m))).note i 10 (-1) (acc i).length 0).vals = M.vals.set (i % m) (addX v nn) from rfl, at0_set (by rw [h.vlen]; exact hmod), hver, hamt]
            exact hamt1
          · rw [show (((((M.put (i % m) (addX v nn)).note i 4 (i % m : Nat) v (addX v nn)).bump (i % m))).note i 10 (-1) (acc i).length 0).vals = M.vals.set (i % m) (addX v nn) from rfl, at0_set_ne e]
            exact h.amt j hj
        · show S.total + nn = sumOf (M.vals.set (i % m) (addX v nn))
          rw [h.tot]; omega
        · have := busy_upd (ph := ph) hi .off
          have e1 : (ph i).isAdd = true := by rw [hp]; rfl
          have e2 : (Ph.off).isAdd = false := rfl
          rw [e1, e2] at this
          simp only [if_true, Bool.false_eq_true, if_false] at this
          show S.busy - 1 = _
          rw [h.busy]
          omega
        · by_cases e : j = i
          · subst e; rw [fup_same, fup_same]; trivial
          · rw [fup_ne _ _ e, fup_ne _ _ e]
            refine (h.th j hj).keep hm hle (by show fup S.call i _ j = _; rw [fup_ne _ _ e]) (fun x hx => List.mem_append_left _ hx) (.inr (by simp)) (fun hq => ?_) (by show fup S.count i _ j = _; rw [fup_ne _ _ e])
            have hadd : (ph i).isAdd = true := by rw [hp]; rfl
            exact ⟨hq, fun hn => by rw [hn i hi] at hadd; cases hadd⟩
      have hd : Prog.did 4 (i % m) v (addX v nn) (if true = true then contK fu m L i (acc i) (0, 0) else addP (i % m) nn (contK fu m L i (acc i) (0, 0)) f) = .note 4 (i % m : Nat) v (addX v nn) (.bump (i % m) (contK fu m L i (acc i) (0, 0))) := by
        unfold Prog.did
        rw [if_neg hne, if_pos rfl]
      rw [hd]
      have := calls_wq hm hfu hi ((L i).length - ((acc i).length + 1)) _ _ _ _ hC (fup_same _ _ _) (by rw [fup_same]; simp; omega)
      rw [fup_same, List.length_append, List.length_singleton] at this
      show (Prog.calls _ false _ _ _ _).wq i _ _
      exact wq_mono (fun M q hq => hq.trans fun j hj => ⟨fup_ne _ _ hj, fup_ne _ _ hj⟩) this
    · show Prog.wq i (if _ then _ else _) M _
      rw [if_neg hx]
      refine did_same ?_
      rw [if_neg (by decide)]
      have hlv : ver v < ver (at0 M.vals (i % m)) := g4.resolve_right fun e => hx (by rw [e]; exact at0_get rfl _)
      obtain ⟨f', rfl⟩ : ∃ f', f = f' + 1 := ⟨f - 1, by omega⟩
      have := h.quietly hm hi (i % m : Nat) 4 (M.get (i % m)) (by decide) (by decide) (p := .addL f') (by rw [hp]; rfl) fun ph' _ => ⟨⟨g1, g2, g3⟩, by omega⟩
      exact ⟨rfl, _, _, _, this, by rw [fup_same]; rfl, fun e => (by rw [fup_same] at e; cases e), fun j hj => ⟨fup_ne _ _ hj, rfl⟩⟩
  | s1 f now =>
    rw [hp] at hk hT
    cases hk
    obtain ⟨g1, g2, g3, ⟨Z, g4, g5, g6, g7⟩, g8⟩ := hT
    show Prog.wq i (Prog.did _ _ _ _ _) M _
    refine did_same ?_
    have hg : M.get now.length = at0 M.vals now.length := at0_get rfl _
    rw [hg]
    have hq1 : ∀ ph' : Nat → Ph, (∀ j, (ph' j).isAdd = (ph j).isAdd) → noAdd n ph → noAdd n ph' := fun ph' h1 h2 j hj => by rw [h1]; exact h2 j hj
    by_cases hl : now.length + 1 < m
    · obtain ⟨r, hr⟩ : ∃ r, m - now.length - 1 = r + 1 := ⟨m - now.length - 2, by omega⟩
      rw [hr]
      have := h.quietly hm hi now.length 1 (at0 M.vals now.length) (by decide) (by decide) (p := .s1 f (now ++ [at0 M.vals now.length])) (by rw [hp]; rfl) fun ph' hadd =>
        ⟨g1, g2, by simp; omega, ⟨Z, g4, leS_snoc' g5 (g4 _ (by omega)), leS_snoc g6 (.inr rfl), g7⟩, fun hq => by
          obtain ⟨f1, f2, f3, f4⟩ := g8 hq
          exact ⟨hq1 ph' hadd f1, f2, at0_snoc_eq f3, by rw [hc1, f4]; simp⟩⟩
      refine ⟨rfl, _, _, _, this, ?_, fun e => (by rw [fup_same] at e; cases e), fun j hj => ⟨fup_ne _ _ hj, rfl⟩⟩
      rw [fup_same]
      show _ = leftP fu m L i (acc i) (.s1 f (now ++ [at0 M.vals now.length]))
      simp only [leftP]
      rw [show m - (now ++ [at0 M.vals now.length]).length - 1 = r by simp; omega]
    · have hlm : (now ++ [at0 M.vals now.length]).length = m := by simp; omega
      rw [show m - now.length - 1 = 0 by omega]
      have := h.quietly hm hi now.length 1 (at0 M.vals now.length) (by decide) (by decide) (p := .s2 f (now ++ [at0 M.vals now.length]) []) (by rw [hp]; rfl) fun ph' hadd =>
        ⟨g1, g2, hm, hlm, ⟨Z, M.vals, by have := leS_snoc' g5 (g4 now.length (by omega)); rwa [hlm] at this, by have := leS_snoc g6 (.inr rfl : le1 (at0 M.vals now.length) (at0 M.vals now.length)); rwa [hlm] at this, leS.refl _ _, fun _ h => by simp at h, fun _ h => by simp at h, h.vlen, by rw [← h.tot]; exact g2, g7⟩, fun hq => by
          obtain ⟨f1, f2, f3, f4⟩ := g8 hq
          refine ⟨hq1 ph' hadd f1, f2, ext0 (by rw [hlm, h.vlen]) (at0_snoc_eq f3), fun _ h => by simp at h, ?_⟩
          rw [hc1, f4]
          simp only [List.length_nil]
          rw [List.length_append, List.length_singleton] at hlm
          omega⟩
      obtain ⟨m', hm'⟩ : ∃ m', m = m' + 1 := ⟨m - 1, by omega⟩
      have hlk : lookP (fun now1 => lookP (look2 fu m L i (acc i) f now1) m []) 0 (now ++ [at0 M.vals now.length]) = .load 0 fun x => lookP (look2 fu m L i (acc i) f (now ++ [at0 M.vals now.length])) (m - 0 - 1) ([] ++ [x]) := by
        show lookP (look2 fu m L i (acc i) f (now ++ [at0 M.vals now.length])) m [] = _
        generalize look2 fu m L i (acc i) f (now ++ [at0 M.vals now.length]) = K
        rw [hm']
        rfl
      rw [hlk]
      exact ⟨rfl, _, _, _, this, by rw [fup_same]; rfl, fun e => (by rw [fup_same] at e; cases e), fun j hj => ⟨fup_ne _ _ hj, rfl⟩⟩
  | s2 f now1 now =>
    rw [hp] at hk hT
    cases hk
    obtain ⟨g1, g2, g3, g0, ⟨Z, T, g4, g5, g6, g7, g9, g10, g11, g12⟩, g8⟩ := hT
    show Prog.wq i (Prog.did _ _ _ _ _) M _
    refine did_same ?_
    have hg : M.get now.length = at0 M.vals now.length := at0_get rfl _
    rw [hg]
    have hq1 : ∀ ph' : Nat → Ph, (∀ j, (ph' j).isAdd = (ph j).isAdd) → noAdd n ph → noAdd n ph' := fun ph' h1 h2 j hj => by rw [h1]; exact h2 j hj
    by_cases hl : now.length + 1 < m
    · obtain ⟨r, hr⟩ : ∃ r, m - now.length - 1 = r + 1 := ⟨m - now.length - 2, by omega⟩
      rw [hr]
      have := h.quietly hm hi now.length 1 (at0 M.vals now.length) (by decide) (by decide) (p := .s2 f now1 (now ++ [at0 M.vals now.length])) (by rw [hp]; rfl) fun ph' hadd =>
        ⟨g1, g2, by simp; omega, g0, ⟨Z, T, g4, g5, g6, leS_snoc' g7 (g6 _ (by omega)), leS_snoc g9 (.inr rfl), g10, g11, g12⟩, fun hq => by
          obtain ⟨f1, f2, f3, f4, f5⟩ := g8 hq
          exact ⟨hq1 ph' hadd f1, f2, f3, at0_snoc_eq f4, by rw [hc1, f5]; simp; omega⟩⟩
      refine ⟨rfl, _, _, _, this, ?_, fun e => (by rw [fup_same] at e; cases e), fun j hj => ⟨fup_ne _ _ hj, rfl⟩⟩
      rw [fup_same]
      show _ = leftP fu m L i (acc i) (.s2 f now1 (now ++ [at0 M.vals now.length]))
      simp only [leftP]
      rw [show m - (now ++ [at0 M.vals now.length]).length - 1 = r by simp; omega]
    · have hlm : (now ++ [at0 M.vals now.length]).length = m := by simp; omega
      rw [show m - now.length - 1 = 0 by omega]
      show (look2 fu m L i (acc i) f now1 (now ++ [at0 M.vals now.length])).wq i _ _
      have hT2 : leS m T (now ++ [at0 M.vals now.length]) := by have := leS_snoc' g7 (g6 now.length (by omega)); rwa [hlm] at this
      have hV2 : leS m (now ++ [at0 M.vals now.length]) M.vals := by have := leS_snoc g9 (.inr rfl : le1 (at0 M.vals now.length) (at0 M.vals now.length)); rwa [hlm] at this
      have hquiet : S.quiet i = true → now1 = now ++ [at0 M.vals now.length] ∧ S.count i + 1 = 2 * m := fun hq => by
        obtain ⟨f1, f2, f3, f4, f5⟩ := g8 hq
        rw [List.length_append, List.length_singleton] at hlm
        exact ⟨by rw [f3]; exact (ext0 (by rw [List.length_append, List.length_singleton, h.vlen, hlm]) (at0_snoc_eq f4)).symm, by rw [f5]; omega⟩
      generalize now ++ [at0 M.vals now.length] = now2 at *
      unfold look2
      by_cases hd : diffs now2 now1 = 0
      · rw [if_pos hd]
        have he := diffs_zero (by rw [g0, hlm]) hd
        have hTe : T = now2 := ext0 (by rw [g10, hlm]) fun j hj => by
          rw [g10] at hj
          have h1 := hT2 j hj
          have h2 := g5 j hj
          rw [← he] at h2
          exact h1.mid h2
        have hB := h.quietly hm hi now.length 1 (at0 M.vals now.length) (by decide) (by decide) (p := .off) (by rw [hp]; rfl) fun ph' _ => trivial
        have hE := hB.ends hm hi (by rw [fup_same]; rfl) g1.2.1 (by rw [g1.2.2]; decide) (0, sumOf now2) fun _ => ⟨by rw [← hTe]; exact g11, fun hq => by rw [hc1]; exact (hquiet hq).2⟩
        have := calls_wq hm hfu hi ((L i).length - ((acc i).length + 1)) _ _ _ _ hE (fup_same _ _ _) (by rw [fup_same]; have := g1.2.1; simp; omega)
        rw [fup_same, List.length_append, List.length_singleton] at this
        show (Prog.calls _ false _ _ _ _).wq i _ _
        exact wq_mono (fun M q hq => hq.trans fun j hj => ⟨(fup_ne _ _ hj).trans (fup_ne _ _ hj), fup_ne _ _ hj⟩) this
      · rw [if_neg hd]
        have hne : now1 ≠ now2 := fun e => hd (by rw [e]; exact diffs_same _)
        obtain ⟨j, hj, hjn⟩ : ∃ j, j < m ∧ at0 now1 j ≠ at0 now2 j := by
          refine Classical.byContradiction fun hno => hne (ext0 (by rw [g0, hlm]) fun j hj => ?_)
          refine Classical.byContradiction fun hj' => hno ⟨j, by omega, hj'⟩
        have hlv : verS m Z < verS m M.vals := by
          have h1 := (g4 j hj).ver
          have h2 : le1 (at0 now1 j) (at0 now2 j) := (g5 j hj).trans (hT2 j hj)
          have h3 := (hV2 j hj).ver
          have h4 : ver (at0 now1 j) < ver (at0 now2 j) := h2.resolve_right hjn
          exact verS_lt ((g4.trans g5).trans g6) hj (by omega)
        have h512 := ver_lt h hn hL
        obtain ⟨f', rfl⟩ : ∃ f', f = f' + 1 := ⟨f - 1, by omega⟩
        have := h.quietly hm hi now.length 1 (at0 M.vals now.length) (by decide) (by decide) (p := .s1 f' []) (by rw [hp]; rfl) fun ph' hadd =>
          ⟨g1, g2, hm, ⟨M.vals, leS.refl _ _, fun _ h => by simp at h, fun _ h => by simp at h, by omega⟩, fun hq => absurd (hquiet hq).1 hne⟩
        obtain ⟨m', hm'⟩ : ∃ m', m = m' + 1 := ⟨m - 1, by omega⟩
        have hsum : sumP m (fun s => contK fu m L i (acc i) (0, s)) (f' + 1) = .load 0 fun v => lookP (fun now1 => lookP (look2 fu m L i (acc i) f' now1) m []) (m - 0 - 1) ([] ++ [v]) := by
          rw [hm']; rfl
        rw [hsum]
        exact ⟨rfl, _, _, _, this, by rw [fup_same]; rfl, fun e => (by rw [fup_same] at e; cases e), fun j hj => ⟨fup_ne _ _ hj, rfl⟩⟩
end
end Go.Proofs.Ytlnjmheocfbimaa


/- Plain: a counter's run ends, and CounterTimes finds nothing wrong in it. -/
namespace Go.Proofs.Ytlnjmheocfbimaa
open Go
theorem bdm {p : Prog} {n n' : Nat} (h : p.bd n) (hn : n ≤ n') : p.bd n' := Prog.bd_mono h hn
theorem did_bd {k : Prog} {b : Nat} (h : k.bd b) (op : Int) (c : Nat) (x y : Int) : (Prog.did op c x y k).bd (b + 2) := by
  refine ⟨b + 1, rfl, ?_⟩
  by_cases e : x = y
  · rw [if_pos e]; exact bdm h (by omega)
  · rw [if_neg e]; exact ⟨b, rfl, h⟩
theorem load_bd {k : Int → Prog} {b : Nat} (h : ∀ x, (k x).bd b) (c : Nat) : (Prog.load c k).bd (b + 3) := ⟨b + 2, rfl, fun x => did_bd (h x) _ _ _ _⟩
theorem cas_bd {k : Bool → Prog} {b : Nat} (h : ∀ x, (k x).bd b) (c : Nat) (o n : Int) : (Prog.cas c o n k).bd (b + 3) := ⟨b + 2, rfl, fun x => by
  by_cases e : x = o
  · show Prog.bd (if x = o then _ else _) _
    rw [if_pos e]; exact did_bd (h true) 4 c o n
  · show Prog.bd (if x = o then _ else _) _
    rw [if_neg e]; exact did_bd (h false) 4 c x x⟩
theorem addP_bd {c : Nat} {n : Int} {k : Prog} {b : Nat} (h : k.bd b) : ∀ f, (addP c n k f).bd (6 * f + b)
  | 0 => trivial
  | f + 1 => by
    have := load_bd (b := 6 * f + b + 3) (fun v => cas_bd (b := 6 * f + b) (k := fun b => if b then k else addP c n k f) (fun x => by
      cases x with
      | true => exact bdm h (by omega)
      | false => exact addP_bd h f) c v (addX v n)) c
    exact Prog.bd_mono (p := addP c n k (f + 1)) this (by omega)
theorem lookP_bd {k : List Int → Prog} {b : Nat} (h : ∀ l, (k l).bd b) : ∀ r now, (lookP k r now).bd (3 * r + b)
  | 0, now => by simpa [lookP] using h now
  | r + 1, now => by
    have := load_bd (b := 3 * r + b) (fun x => lookP_bd h r (now ++ [x])) now.length
    exact Prog.bd_mono (p := lookP k (r + 1) now) this (by omega)
theorem sumP_bd {m : Nat} {k : Int → Prog} {b : Nat} (h : ∀ s, (k s).bd b) : ∀ f, (sumP m k f).bd (6 * m * f + b)
  | 0 => trivial
  | f + 1 => by
    have := lookP_bd (b := 3 * m + (6 * m * f + b)) (k := fun now1 => lookP (fun now2 => if diffs now2 now1 = 0 then k (sumOf now2) else sumP m k f) m []) (fun now1 => lookP_bd (b := 6 * m * f + b) (fun now2 => by
      by_cases e : diffs now2 now1 = 0
      · rw [if_pos e]; exact bdm (h _) (by omega)
      · rw [if_neg e]; exact sumP_bd h f) m []) m []
    exact Prog.bd_mono (p := sumP m k (f + 1)) this (by rw [Nat.mul_succ]; omega)
theorem calls_bd {dop : ACall → (Int × Int → Prog) → Prog} {C : Nat} (hd : ∀ x K b, (∀ r, (K r).bd b) → (dop x K).bd (C + b)) {K : List (Int × Int) → Prog} {b : Nat} (hK : ∀ l, (K l).bd b) :
    ∀ (l : List ACall) (st : Bool) (k : Nat) (acc : List (Int × Int)), (Prog.calls dop st k l acc K).bd (l.length * (C + 2) + b)
  | [], st, k, acc => by cases st <;> simpa [Prog.calls] using hK acc
  | x :: l, true, k, acc => Prog.bd_mono (p := Prog.calls dop true (k + 1) l (acc ++ [(4, 0)]) K) (calls_bd hd hK l true (k + 1) _) (by simp only [List.length_cons, Nat.succ_mul]; omega)
  | x :: l, false, k, acc => by
    refine ⟨(l.length * (C + 2) + b) + 1 + C, by simp only [List.length_cons, Nat.succ_mul]; omega, ?_⟩
    refine Prog.bd_mono (hd x _ (l.length * (C + 2) + b + 1) fun r => ⟨_, rfl, calls_bd hd hK l _ (k + 1) _⟩) (by omega)
theorem counterP_bd {fu m i : Nat} (hm : 1 ≤ m ∧ m ≤ 16) (x : ACall) (K : Int × Int → Prog) (b : Nat) (h : ∀ r, (K r).bd b) : (counterP fu m i x K).bd (96 * fu + b) := by
  unfold counterP
  split
  · exact bdm (addP_bd (h _) fu) (by omega)
  · split
    · refine bdm (sumP_bd (fun s => h _) fu) ?_
      have : 6 * m * fu ≤ 96 * fu := Nat.mul_le_mul_right _ (by omega)
      omega
    · exact bdm (h _) (by omega)
/-- ████ EVERY RUN OF A COUNTER ENDS, AND IS AS CounterTimes WANTS IT. ████ -/
theorem counter_times {fu B m n : Nat} {L : Nat → List ACall} (sl : List Int) (hm : 1 ≤ m ∧ m ≤ 16) (hn : n ≤ 8) (hL : ∀ i, i < n → (L i).length ≤ 64) (hfu : 600 ≤ fu) (hB1 : 64 * (96 * fu + 2) ≤ B) (hB : n * (B + 1) + 1 ≤ 2 ^ 40) :
    ∃ f res S, runs f (sys0 sl m) (counterProgs fu m n L) = some res ∧ res.2.length = n ∧ res.1.stuck = false ∧ res.1.trace.length ≤ 2 ^ 40 ∧ (∀ i, i < n → (res.2.getD i []).length = (L i).length) ∧
      timeAll n m L (fun i => res.2.getD i []) res.1.trace = some S := by
  have hpl : (counterProgs fu m n L).length = n := by simp [counterProgs]
  have hcp : ∀ (i : Nat) (p : Prog), (counterProgs fu m n L)[i]? = some p → i < n ∧ p = Prog.calls (counterP fu m i) false 0 (L i) [] .done := fun i p h => by
    have hi : i < n := by have := (List.getElem?_eq_some_iff.1 h).1; omega
    refine ⟨hi, ?_⟩
    simp [counterProgs, hi] at h
    exact h.symm
  have hbd : ∀ p ∈ counterProgs fu m n L, p.bd B := fun p hp => by
    obtain ⟨i, hi, e⟩ := List.getElem_of_mem hp
    obtain ⟨h1, h2⟩ := hcp i p (by rw [List.getElem?_eq_getElem hi, e])
    rw [h2]
    refine bdm (calls_bd (C := 96 * fu) (b := 0) (fun x K b h => counterP_bd hm x K b h) (K := .done) (fun l => trivial) (L i) false 0 []) ?_
    exact Nat.le_trans (Nat.mul_le_mul_right (96 * fu + 2) (hL i h1)) hB1
  have key : ∃ res, runs (n * (B + 1) + 2) (sys0 sl m) (counterProgs fu m n L) = some res ∧ res.2.length = n ∧ (fun M ps => ∃ ph acc S, CI fu m n L M ph acc S ∧ ∀ i, (∀ q, ps[i]? = some q → q = leftP fu m L i (acc i) (ph i) ∧ (ph i = .off → (acc i).length = (L i).length)) ∧ (ps.length ≤ i → ph i = .off ∧ acc i = [])) res.1.mem (res.2.map .inr) ∧ res.1.stuck = false ∧ res.1.trace.length ≤ 2 ^ 40 := by
    refine runs_mem (N := n) (Inv := fun M ps => ∃ ph acc S, CI fu m n L M ph acc S ∧ ∀ i, (∀ q, ps[i]? = some q → q = leftP fu m L i (acc i) (ph i) ∧ (ph i = .off → (acc i).length = (L i).length)) ∧ (ps.length ≤ i → ph i = .off ∧ acc i = []))
      hpl hbd hB (fun M ps p hI hp => ?_) (fun M ps j k hI hN hk => ?_) (A0 := sys0 sl m) ⟨fun _ => .off, fun _ => [], .init, ⟨fun R hR => rfl, by simp [sys0, Sys.mem], ?_, fun i _ => Nat.zero_le _, fun j hj => ?_, ?_, ?_, fun i hi => trivial⟩, fun i => ⟨fun q h => by simp at h, fun _ => ⟨rfl, rfl⟩⟩⟩ rfl ⟨Nat.le_refl _, fun c => ?_⟩ rfl
    · obtain ⟨ph, acc, S, g1, g2⟩ := hI
      obtain ⟨hi, rfl⟩ := hcp _ _ hp
      obtain ⟨o1, o2⟩ := (g2 ps.length).2 (Nat.le_refl _)
      have := calls_wq (fu := fu) (by omega) hfu hi (L ps.length).length M ph acc S g1 o1 (by rw [o2]; simp)
      rw [o2] at this
      refine wq_mono (fun M' q hq => ?_) this
      obtain ⟨ph', acc', S', c1, c2, c3, c4⟩ := hq
      refine ⟨ph', acc', S', c1, fun i => ⟨fun q' hq' => ?_, fun hi' => ?_⟩⟩
      · by_cases e : i = ps.length
        · subst e
          simp at hq'
          subst hq'
          exact ⟨c2, c3⟩
        · have hil : i < ps.length := by have := (List.getElem?_eq_some_iff.1 hq').1; simp at this; omega
          rw [List.getElem?_append_left hil] at hq'
          rw [(c4 i e).1, (c4 i e).2]
          exact (g2 i).1 q' hq'
      · rw [List.length_append, List.length_singleton] at hi'
        rw [(c4 i (by omega)).1, (c4 i (by omega)).2]
        exact (g2 i).2 (by omega)
    · obtain ⟨ph, acc, S, g1, g2⟩ := hI
      have hj : j < n := by have := (List.getElem?_eq_some_iff.1 hk).1; omega
      obtain ⟨e1, _⟩ := (g2 j).1 _ hk
      refine wq_mono (fun M' q hq => ?_) (left_wq (by omega) hn hL hfu hj g1 e1.symm)
      obtain ⟨ph', acc', S', c1, c2, c3, c4⟩ := hq
      refine ⟨ph', acc', S', c1, fun i => ⟨fun q' hq' => ?_, fun hi' => ?_⟩⟩
      · by_cases e : i = j
        · subst e
          rw [List.getElem?_set_self (by omega)] at hq'
          cases hq'
          exact ⟨c2, c3⟩
        · rw [List.getElem?_set_ne (fun x => e x.symm)] at hq'
          rw [(c4 i e).1, (c4 i e).2]
          exact (g2 i).1 q' hq'
      · rw [List.length_set] at hi'
        rw [(c4 i (by omega)).1, (c4 i (by omega)).2]
        exact (g2 i).2 hi'
    · have : verS m (sys0 sl m).mem.vals = 0 := by
        have h := rsum_le (n := m) (b := 0) (f := fun j => ver (at0 (List.replicate m 0) j)) fun j hj => by
          simp [at0, hj]; decide
        show rsum m (fun j => ver (at0 (List.replicate m 0) j)) = 0
        omega
      omega
    · have : at0 (sys0 sl m).mem.vals j = 0 := by simp [sys0, Sys.mem, at0, hj]
      rw [this]
      decide
    · show (0 : Int) = sumOf (List.replicate m 0)
      unfold sumOf
      rw [List.map_replicate, show amount 0 = 0 by decide]
      simp
    · have h := rsum_le (n := n) (b := 0) (f := fun i => if (Ph.off).isAdd then 1 else 0) fun j hj => by simp [Ph.isAdd]
      show (0 : Int) = _
      have h0 : (rsum n fun i => if (Ph.off).isAdd then 1 else 0) = 0 := by omega
      rw [h0]
      rfl
    · unfold Sys.changed
      split
      · simp
      · simp only [sys0, List.getElem?_replicate]
        split <;> simp
  obtain ⟨res, h1, h2, ⟨ph, acc, S, h3, h4⟩, h5, h6⟩ := key
  have hra : ∀ i, i < n → res.2.getD i [] = acc i ∧ (acc i).length = (L i).length := fun i hi => by
    have hi' : i < res.2.length := by omega
    obtain ⟨e1, e2⟩ := (h4 i).1 (.inr res.2[i]) (by simp [hi'])
    cases hp : ph i with
    | off =>
      rw [hp] at e1
      simp only [leftP, Sum.inr.injEq] at e1
      exact ⟨by rw [List.getD_eq_getElem?_getD, List.getElem?_eq_getElem hi', Option.getD_some, e1], e2 hp⟩
    | addL f => rw [hp] at e1; simp [leftP] at e1
    | addC f v => rw [hp] at e1; simp [leftP] at e1
    | s1 f now => rw [hp] at e1; simp [leftP] at e1
    | s2 f a b => rw [hp] at e1; simp [leftP] at e1
  refine ⟨_, res, S, h1, h2, h5, h6, fun i hi => by rw [(hra i hi).1]; exact (hra i hi).2, h3.tr _ fun i hi => ?_⟩
  rw [(hra i hi).1]
  exact ⟨(hra i hi).2, List.prefix_refl _⟩
end Go.Proofs.Ytlnjmheocfbimaa


/- World.Trace, World.Stuck, within; rows in memory. -/
namespace Go.Proofs.Ytlnjmheocfbimaa
open Go Go.Conc
/-- A row of n cells. -/
def rowF (n : Nat) (f : Nat → Value) : Array Value := ((List.range n).map f).toArray
theorem rowF_get {n i : Nat} {f : Nat → Value} (h : i < n) : (rowF n f)[i]? = some (f i) := by simp [rowF, h]
theorem rowF_set (n i : Nat) (f : Nat → Value) (x : Value) : (rowF n f).setIfInBounds i x = rowF n (fup f i x) := by
  unfold rowF
  rw [List.setIfInBounds_toArray]
  congr 1
  apply List.ext_getElem?
  intro j
  rw [List.getElem?_set]
  simp only [List.length_map, List.length_range, List.getElem?_map]
  by_cases e : i = j
  · subst e
    simp only [if_true]
    by_cases h : i < n
    · rw [if_pos h, List.getElem?_range h, Option.map_some, fup_same]
    · rw [if_neg h, List.getElem?_eq_none (by simpa using h)]; rfl
  · simp only [e, if_false]
    by_cases h : j < n
    · rw [List.getElem?_range h, Option.map_some, Option.map_some, fup_ne _ _ (fun x => e x.symm)]
    · rw [List.getElem?_eq_none (by simpa using h)]; rfl
theorem rowF_congr {n : Nat} {f g : Nat → Value} (h : ∀ j, j < n → f j = g j) : rowF n f = rowF n g := by
  unfold rowF
  rw [List.map_congr_left fun j hj => h j (List.mem_range.1 hj)]
theorem fup_map {α : Type} (f : Nat → α) (i : Nat) (x : α) (g : α → Value) : (fup (fun j => g (f j)) i (g x)) = fun j => g (fup f i x j) := by
  funext j
  unfold fup
  split <;> rfl
/-- A trace, as it reads. -/
def TrAt (v : World) (tv : Value) (T : List TStep) : Prop :=
  ∃ ad cap, tv = .slice ad T.length cap ∧ ∀ (j : Nat) (x : TStep), T[j]? = some x → ∃ B O, ad = some ⟨B, O, none⟩ ∧ v.cell? ⟨B, O + j * 5, none⟩ = some (.int .i64 x.th) ∧ v.cell? ⟨B, O + j * 5 + 1, none⟩ = some (.int .i64 x.cell) ∧ v.cell? ⟨B, O + j * 5 + 2, none⟩ = some (.int .i64 x.op) ∧
    v.cell? ⟨B, O + j * 5 + 3, none⟩ = some (.int .i64 x.old) ∧ v.cell? ⟨B, O + j * 5 + 4, none⟩ = some (.int .i64 x.new)
theorem TrAt.grow {v v' : World} {tv : Value} {T : List TStep} (h : TrAt v tv T) (g : Grow v v') : TrAt v' tv T := by
  obtain ⟨ad, cap, h1, h2⟩ := h
  exact ⟨ad, cap, h1, fun j x hx => by obtain ⟨B, O, e1, e2, e3, e4, e5, e6⟩ := h2 j x hx; exact ⟨B, O, e1, grow_cell g e2, grow_cell g e3, grow_cell g e4, grow_cell g e5, grow_cell g e6⟩⟩
theorem flat_get : ∀ (T : List TStep) (j : Nat) (x : TStep), T[j]? = some x → (flat T)[j * 5]? = some (.int .i64 x.th) ∧ (flat T)[j * 5 + 1]? = some (.int .i64 x.cell) ∧ (flat T)[j * 5 + 2]? = some (.int .i64 x.op) ∧ (flat T)[j * 5 + 3]? = some (.int .i64 x.old) ∧ (flat T)[j * 5 + 4]? = some (.int .i64 x.new)
  | [], j, x, h => by cases h
  | y :: T, 0, x, h => by
    simp only [List.getElem?_cons_zero, Option.some.injEq] at h
    subst h
    exact ⟨rfl, rfl, rfl, rfl, rfl⟩
  | y :: T, j + 1, x, h => by
    have := flat_get T j x (by simpa using h)
    have e : flat (y :: T) = .int .i64 y.th :: .int .i64 y.cell :: .int .i64 y.op :: .int .i64 y.old :: .int .i64 y.new :: flat T := by simp [flat]
    rw [e]
    rw [show (j + 1) * 5 = j * 5 + 1 + 1 + 1 + 1 + 1 by omega]
    refine ⟨this.1, ?_, ?_, ?_, ?_⟩
    · rw [show j * 5 + 1 + 1 + 1 + 1 + 1 + 1 = (j * 5 + 1) + 1 + 1 + 1 + 1 + 1 by omega]; exact this.2.1
    · rw [show j * 5 + 1 + 1 + 1 + 1 + 1 + 2 = (j * 5 + 2) + 1 + 1 + 1 + 1 + 1 by omega]; exact this.2.2.1
    · rw [show j * 5 + 1 + 1 + 1 + 1 + 1 + 3 = (j * 5 + 3) + 1 + 1 + 1 + 1 + 1 by omega]; exact this.2.2.2.1
    · rw [show j * 5 + 1 + 1 + 1 + 1 + 1 + 4 = (j * 5 + 4) + 1 + 1 + 1 + 1 + 1 by omega]; exact this.2.2.2.2
theorem slAt_own {v : World} {te : TypeId} {sz n : Nat} {xs : List Value} {rv : Value} (h : v.ownsRow 0 te sz rv n xs) (hl : xs.length = n * sz) (h1 : ∀ u ∈ xs, u.oneCell' = true) : SlAt v sz rv n xs := by
  rcases h.2 with ⟨rfl, rfl⟩ | ⟨g, cap, cur, rfl, _, hg, _, _, _, ht⟩
  · exact ⟨hl, .inl ⟨0, rfl, rfl⟩, h1⟩
  · refine ⟨hl, .inr ⟨_, cap, rfl, fun j u hu => ?_⟩, h1⟩
    have hj := (List.getElem?_eq_some_iff.1 hu).1
    have e : ∀ O : Nat, (⟨g, O, none⟩ : Addr).add j = ⟨g, O + j, none⟩ := fun O => by simp [Addr.add]
    rw [e 0, cell_at' hg, Nat.zero_add]
    rw [← ht, List.getElem?_take_of_lt (by omega)] at hu
    simpa using hu
theorem trAt_own {v : World} {tv : Value} {T : List TStep} (h : v.ownsRow 0 46 5 tv T.length (flat T)) : TrAt v tv T := by
  rcases h.2 with ⟨rfl, h0⟩ | ⟨g, cap, cur, rfl, _, hg, _, _, _, ht⟩
  · rw [List.length_eq_zero_iff.1 h0]
    exact ⟨none, 0, rfl, fun j x hx => by cases hx⟩
  · refine ⟨_, cap, rfl, fun j x hx => ⟨g, 0, rfl, ?_⟩⟩
    obtain ⟨h1, h2, h3, h4, h5⟩ := flat_get T j x hx
    have hj := (List.getElem?_eq_some_iff.1 hx).1
    rw [cell_at' hg, cell_at' hg, cell_at' hg, cell_at' hg, cell_at' hg]
    rw [← ht, List.getElem?_take_of_lt (by omega)] at h1 h2 h3 h4 h5
    simp only [Nat.zero_add]
    exact ⟨by simpa using h1, by simpa using h2, by simpa using h3, by simpa using h4, by simpa using h5⟩
section
variable {S : Addr → Prop} {main : Bool} {Stop : Goroutine → World → Prop} {cs : List Frame} {c : Frame} {v : World}
theorem Stuck_hold {W : Nat} {arr : Array Value} {fr : Nat × Nat} {x : Bool} (hw : v.heap[W]? = some (.cells arr 74 fr)) (hr : arr[6]? = some (.bool x)) (H : Hold Try.prog main S Stop (G (c.finish (.bool x)) cs) v) :
    Hold Try.prog main S Stop (G (Frame.enter Try.prog 16 #[.pointer (some ⟨W, 0, none⟩)] .normal) (c :: cs)) v := by
  obtain ⟨b, a, hEq, hb, hbf, hat⟩ := enter_is Stuck_fn Stuck_body Stuck_tmps #[.pointer (some ⟨W, 0, none⟩)] [(0, .pointer (some ⟨W, 0, none⟩))] rfl (by simp)
  rw [hEq]
  have hbk := not_early hb
  refine hold_unf Stuck_code_def <| hold_seq <| hold_region (l := [0]) rfl <| h_val noA hbk Stuck_0 rfl rfl (by decide) hat (r_assign rfl) fun a hat => hold_region_end <| hold_seq <| hold_region (l := [0,1,2,3,4,5,6,7,8]) rfl <| h_val noA hbk Stuck_1 rfl rfl (by decide) hat (r_move rfl) fun a hat => h_val noA hbk Stuck_1 rfl opOk_nil (by decide) hat (r_notnil nk_33 rfl) fun a hat => h_val noA hbk Stuck_1 rfl rfl (by decide) hat (r_move rfl) fun a hat => hg_yes noA hbk Stuck_1 rfl rfl rfl rfl (by decide) hat (r_move rfl) fun a hat => hg_yes noA hbk Stuck_1 rfl rfl rfl rfl (by decide) hat (r_nil rfl) fun a hat => hg_yes noA hbk Stuck_1 rfl rfl rfl rfl (by decide) hat (r_field fk_74_6 rfl) fun a hat => ?_
  refine hg_yes noA hbk Stuck_1 rfl rfl rfl rfl (by decide) hat (r_load ld_4 rfl ((cell_at' hw).trans hr)) fun a hat => h_val noA hbk Stuck_1 rfl rfl (by decide) hat (r_pick rfl rfl) fun a hat => h_val noA hbk Stuck_1 rfl rfl (by decide) hat (r_assign rfl) fun a hat => hold_region_end <| hold_retd hb hbf Stuck_fn hat.defers (ret_one Stuck_res hat rfl) ?_
  exact H
theorem Trace_hold {W : Nat} {arr : Array Value} {fr : Nat × Nat} {rv : Value} {T : List TStep} (hrd : Ready0 v) (hw : v.heap[W]? = some (.cells arr 74 fr)) (hr : arr[5]? = some rv) (hown : v.ownsRow 0 46 5 rv T.length (flat T)) (hT : T.length ≤ 2 ^ 40)
    (H : ∀ v' tv, Grow v v' → TrAt v' tv T → Hold Try.prog main S Stop (G (c.finish tv) cs) v') :
    Hold Try.prog main S Stop (G (Frame.enter Try.prog 14 #[.pointer (some ⟨W, 0, none⟩)] .normal) (c :: cs)) v := by
  obtain ⟨b, a, hEq, hb, hbf, hat⟩ := enter_is Trace_fn Trace_body Trace_tmps #[.pointer (some ⟨W, 0, none⟩)] [(0, .pointer (some ⟨W, 0, none⟩))] rfl (by simp)
  rw [hEq]
  have hbk := not_early hb
  refine hold_unf Trace_code_def <| hold_seq <| hold_region (l := [0]) rfl <| h_val noA hbk Trace_0 rfl rfl (by decide) hat (r_assign rfl) fun a hat => hold_region_end <| hold_seq <| hold_seq <| hold_region (l := [0,1]) rfl <| h_val noA hbk Trace_1 rfl rfl (by decide) hat (r_move rfl) fun a hat => h_val noA hbk Trace_1 rfl opOk_nil (by decide) hat (r_isnil nk_33 rfl) fun a hat => hold_region_end <| hold_condF (hat.eval (q := .tmp 4) rfl) rfl <| hold_skip ?_
  refine hold_seq <| hold_region (l := [0,1,2,3,4,5]) rfl <| h_val noA hbk Trace_3 rfl rfl (by decide) hat (r_move rfl) fun a hat => h_val noA hbk Trace_3 rfl rfl (by decide) hat (r_nil rfl) fun a hat => h_val noA hbk Trace_3 rfl rfl (by decide) hat (r_field fk_74_5 rfl) fun a hat => h_val noA hbk Trace_3 rfl rfl (by decide) hat (r_load ld_39 rfl ((cell_at' hw).trans hr)) fun a hat => h_copy noA hbk Trace_3 rfl (by decide) hat ek_39 hrd (sz := 5) (n := T.length) (xs := flat T) (sv := rv) (slAt_own hown (flat_len _) (fun u hu => by simp [flat] at hu; obtain ⟨s, _, h⟩ := hu; rcases h with rfl | rfl | rfl | rfl | rfl <;> rfl)) rfl (Nat.le_trans hT (by decide)) (by omega) fun rv' v' a hC hat => h_val noA hbk Trace_3 rfl rfl (by decide) hat (r_assign rfl) fun a hat => hold_region_end <| hold_retd hb hbf Trace_fn hat.defers (ret_one Trace_res hat rfl) ?_
  exact H _ _ hC.grow (trAt_own hC.owns)
/-- within: whether a number is in the list. -/
theorem within_loop {lv : Value} {l : List Int} {x : Int} (hl : IntsAt v lv l) (h62 : l.length < 2 ^ 62) {b : Frame} (hb : b.kind = .normal) (hbf : b.fn = 17) {k : List Item}
    (H1 : Hold Try.prog main S Stop (G (c.finish (.bool true)) cs) v) :
    ∀ (r i : Nat) (a : Act), i + r = l.length → x ∈ l.drop i → AtE 18 [] [(5, .int .i64 i), (1, .int .i64 x), (0, lv)] a →
      Hold Try.prog main S Stop (G (b.at a (.code within_L0 :: .inLoop within_L0 :: .inBlock 0 :: k)) (c :: cs)) v := by
  have hbk := not_early hb
  obtain ⟨ad, cp, rfl, hl2⟩ := hl
  intro r
  induction r with
  | zero =>
    intro i a hi hx hat
    exfalso
    rw [List.drop_of_length_le (by omega)] at hx
    cases hx
  | succ r ih =>
    intro i a hi hx hat
    obtain ⟨y, hy⟩ : ∃ y, l[i]? = some y := ⟨l[i]'(by omega), by simp⟩
    obtain ⟨B, O, rfl, hc⟩ := hl2 i y hy
    refine hold_unf within_L0_def <| hold_seq <| hold_seq <| hold_region (l := [0,1,2,3]) rfl <| h_val noA hbk within_2 rfl rfl (by decide) hat (r_move rfl) fun a hat => h_val noA hbk within_2 rfl rfl (by decide) hat (r_move rfl) fun a hat => h_val noA hbk within_2 rfl rfl (by decide) hat (r_len lk_22 rfl) fun a hat => h_val noA hbk within_2 rfl rfl (by decide) hat (r_bool (t' := true) (r_lss rfl rfl) (by first | (simp; omega) | (simp; done) | (simp_all; done) | (simp_all; omega))) fun a hat => hold_region_end <| hold_condT (hat.eval (q := .tmp 9) rfl) rfl <| hold_skip <| hold_seq <| hold_block ?_
    refine hold_seq <| hold_region (l := [0,1,2,3,4,5]) rfl <| h_val noA hbk within_3 rfl rfl (by decide) hat (r_move rfl) fun a hat => h_val noA hbk within_3 rfl rfl (by decide) hat (r_move rfl) fun a hat => h_val noA hbk within_3 rfl rfl (by decide) hat (r_index ix_22 rfl rfl (by omega) (by omega)) fun a hat => h_val noA hbk within_3 rfl rfl (by decide) hat (r_load ld_3 rfl (by simpa using hc)) fun a hat => h_val noA hbk within_3 rfl rfl (by decide) hat (r_move rfl) fun a hat => ?_
    by_cases hxy : y = x
    · refine h_val noA hbk within_3 rfl (opOk_eq (by kernel_rfl)) (by decide) hat (r_bool (t' := true) (r_eql rfl rfl) (by simp [hxy])) fun a hat => hold_region_end <| hold_condT (hat.eval (q := .tmp 17) rfl) rfl <| hold_seq <| hold_region (l := [0]) rfl <| h_val noA hbk within_4 rfl rfl (by decide) hat (r_assign rfl) fun a hat => hold_region_end <| hold_retd hb hbf within_fn hat.defers (ret_one within_res hat rfl) ?_
      exact H1
    · skip
      refine h_val noA hbk within_3 rfl (opOk_eq (by kernel_rfl)) (by decide) hat (r_bool (t' := false) (r_eql rfl rfl) (by simp [hxy])) fun a hat => hold_region_end <| hold_condF (hat.eval (q := .tmp 17) rfl) rfl <| hold_skip <| hold_inBlock <| hold_region (l := [0,1,2]) rfl <| h_val noA hbk within_5 rfl rfl (by decide) hat (r_move rfl) fun a hat => h_val noA hbk within_5 rfl rfl (by decide) hat (r_add rfl rfl (by first | omega | (simp; omega))) fun a hat => h_val noA hbk within_5 rfl rfl (by decide) hat (r_assign rfl) fun a hat => hold_region_end <| hold_inLoop ?_
      refine ih (i + 1) _ (by omega) ?_ (hat.sub (AtE.cons rfl (AtE.cons rfl (AtE.cons rfl (AtE.nil)))))
      have h := hx
      rw [List.drop_eq_getElem_cons (by omega)] at h
      have e : l[i] = y := by rw [List.getElem?_eq_getElem (by omega)] at hy; exact Option.some.inj hy
      rw [e] at h
      exact (List.mem_cons.1 h).resolve_left fun h => hxy h.symm
theorem within_hold {lv : Value} {l : List Int} {x : Int} (hl : IntsAt v lv l) (h62 : l.length < 2 ^ 62) (hx : x ∈ l) (H : Hold Try.prog main S Stop (G (c.finish (.bool true)) cs) v) :
    Hold Try.prog main S Stop (G (Frame.enter Try.prog 17 #[lv, .int .i64 x] .normal) (c :: cs)) v := by
  have hl' := hl
  obtain ⟨ad, cp, rfl, _⟩ := hl'
  obtain ⟨b, a, hEq, hb, hbf, hat⟩ := enter_is within_fn within_body within_tmps #[.slice ad l.length cp, .int .i64 x] [(0, .slice ad l.length cp), (1, .int .i64 x)] rfl (by simp)
  rw [hEq]
  have hbk := not_early hb
  refine hold_unf within_code_def <| hold_seq <| hold_region (l := [0]) rfl <| h_val noA hbk within_0 rfl rfl (by decide) hat (r_assign rfl) fun a hat => hold_region_end <| hold_seq <| hold_seq <| hold_region (l := [0]) rfl <| h_val noA hbk within_1 rfl rfl (by decide) hat (r_assign rfl) fun a hat => hold_region_end <| hold_block <| hold_loop ?_
  exact within_loop hl h62 hb hbf H l.length 0 a (by omega) (by simpa using hx) (hat.sub (AtE.cons rfl (AtE.cons rfl (AtE.cons rfl (AtE.nil)))))
end
end Go.Proofs.Ytlnjmheocfbimaa


/- CounterAlone: the law's function, its loop. -/
namespace Go.Proofs.Ytlnjmheocfbimaa
open Go Go.Conc
theorem FreeC.other {v v' : World} {C g m cap ga : Nat} {cb : Nat → Nat} {xs : List Int} {o : Obj} {arr : Array Value} {fr : Nat × Nat} (h : FreeC v C g m cap cb xs) (hga : v.heap[ga]? = some (.cells arr 3 fr)) (hP : Puts v v' ga o) : FreeC v' C g m cap cb xs := by
  obtain ⟨cur, h1, h2⟩ := h.g
  exact ⟨hP.keep (ne_of_types h.c hga (by decide)) h.c, ⟨cur, hP.keep (ne_of_types h1 hga (by decide)) h1, h2⟩, fun j x hx => hP.keep (ne_of_types (h.cells j x hx) hga (by decide)) (h.cells j x hx), h.len, h.bnd, h.inj⟩
section
variable {S : Addr → Prop} {main : Bool} {Stop : Goroutine → World → Prop} {cs : List Frame}
end
end Go.Proofs.Ytlnjmheocfbimaa


/- Plain: CounterTimes's steps, case by case; its words stay small. -/
namespace Go.Proofs.Ytlnjmheocfbimaa
open Go
theorem timeStep_cases {n : Nat} {sh : Int} {L : Nat → List ACall} {R : Nat → List (Int × Int)} {S S' : TimeS} {s : TStep} (h : timeStep n sh L R S s = some S') :
    ∃ t : Nat, s.th = t ∧ t < n ∧ ((∃ k : Nat, s.old = k ∧ k < (L t).length ∧ k < (R t).length ∧
      (s.op = 9 ∧ S' = TimeS.begin_ { S with call := fup S.call t k } t (opAt (L t) k) ∨
        s.op = 10 ∧ TimeS.endOk { S with call := fup S.call t k } sh (R t) t (opAt (L t) k) k ∧ S' = if opAt (L t) k = 1 then { S with call := fup S.call t k, busy := S.busy - 1 } else { S with call := fup S.call t k })) ∨
      (s.op ≠ 9 ∧ s.op ≠ 10 ∧ S' = S.step_ t (opAt (L t) (S.call t)) (aAt (L t) (S.call t)) s)) := by
  unfold timeStep at h
  by_cases h1 : s.th < 0 ∨ (n : Int) ≤ s.th
  · rw [if_pos h1] at h; cases h
  rw [if_neg h1] at h
  obtain ⟨t, ht⟩ : ∃ t : Nat, s.th = t := ⟨s.th.toNat, by omega⟩
  refine ⟨t, ht, by omega, ?_⟩
  rw [ht] at h
  simp only [Int.toNat_natCast] at h
  by_cases hb : isBE s
  · by_cases h2 : s.old < 0 ∨ ((L t).length : Int) ≤ s.old ∨ ((R t).length : Int) ≤ s.old
    · rw [if_pos ⟨hb, h2⟩] at h; cases h
    · rw [if_neg fun x => h2 x.2] at h
      obtain ⟨k, hk⟩ : ∃ k : Nat, s.old = k := ⟨s.old.toNat, by omega⟩
      have hin : S.in_ s = { S with call := fup S.call t k } := by rw [in_be hb, ht, hk]; rfl
      have hck : fup S.call t k t = k := fup_same _ _ _
      refine .inl ⟨k, hk, by omega, by omega, ?_⟩
      rw [hin, hk] at h
      simp only [Int.toNat_natCast, hck] at h
      by_cases h9 : s.op = 9
      · rw [if_pos h9] at h
        exact .inl ⟨h9, (Option.some.inj h).symm⟩
      · rw [if_neg h9] at h
        have h10 : s.op = 10 := hb.resolve_left h9
        rw [if_pos h10] at h
        by_cases hE : TimeS.endOk { S with call := fup S.call t k } sh (R t) t (opAt (L t) (fup S.call t k t)) k
        · rw [if_pos hE] at h
          rw [hck] at hE
          exact .inr ⟨h10, hE, (Option.some.inj h).symm⟩
        · rw [if_neg hE] at h; cases h
  · have hin : S.in_ s = S := by unfold TimeS.in_; rw [if_neg hb]
    rw [if_neg fun x => hb x.1, hin] at h
    have h9 : s.op ≠ 9 := fun e => hb (.inl e)
    have h10 : s.op ≠ 10 := fun e => hb (.inr e)
    rw [if_neg h9, if_neg h10] at h
    exact .inr ⟨h9, h10, (Option.some.inj h).symm⟩
/-- Behind i steps nothing is large. -/
structure TB (i : Nat) (S : TimeS) : Prop where
  total : -(1000 * (i : Int)) ≤ S.total ∧ S.total ≤ 1000 * (i : Int)
  busy : -(i : Int) ≤ S.busy ∧ S.busy ≤ i
  count : ∀ j, 0 ≤ S.count j ∧ S.count j ≤ i
  seen : ∀ j, (S.seen j).length ≤ i + 1
theorem TB.init : TB 0 .init := ⟨⟨Int.le_refl _, Int.le_refl _⟩, ⟨Int.le_refl _, Int.le_refl _⟩, fun _ => ⟨Int.le_refl _, Int.le_refl _⟩, fun _ => Nat.zero_le _⟩
theorem TB.step {i n : Nat} {sh : Int} {L : Nat → List ACall} {R : Nat → List (Int × Int)} {S S' : TimeS} {s : TStep} (hT : TB i S) (h : timeStep n sh L R S s = some S') : TB (i + 1) S' := by
  obtain ⟨⟨a1, a2⟩, ⟨b1, b2⟩, hc, hs⟩ := hT
  obtain ⟨t, _, _, h⟩ := timeStep_cases h
  rcases h with ⟨k, _, _, _, h⟩ | ⟨_, _, rfl⟩
  · rcases h with ⟨_, rfl⟩ | ⟨_, _, rfl⟩
    · unfold TimeS.begin_
      refine ⟨?_, ?_, fun j => ?_, fun j => ?_⟩
      · split <;> exact ⟨by show _ ≤ S.total; omega, by show S.total ≤ _; omega⟩
      · split <;> exact ⟨by first | omega | (simp only; omega), by first | omega | (simp only; omega)⟩
      · have := hc j
        have h1 : 0 ≤ fup S.count t 0 j ∧ fup S.count t 0 j ≤ ((i + 1 : Nat) : Int) := by unfold fup; split <;> omega
        split <;> exact h1
      · have := hs j
        have h1 : (fup S.seen t [S.total] j).length ≤ i + 1 + 1 := by
          unfold fup
          split
          · simp
          · omega
        split <;> exact h1
    · split <;> exact ⟨⟨by first | omega | (simp only; omega), by first | omega | (simp only; omega)⟩, ⟨by first | omega | (simp only; omega), by first | omega | (simp only; omega)⟩, fun j => ⟨(hc j).1, by have := (hc j).2; show S.count j ≤ _; omega⟩, fun j => Nat.le_trans (hs j) (by omega)⟩
  · unfold TimeS.step_
    have h1 := Int.tmod_lt_of_pos (aAt (L t) (S.call t)) (show (0 : Int) < 1000 by omega)
    have h2 : -1000 < (aAt (L t) (S.call t)).tmod 1000 := Int.lt_tmod_of_pos _ (by omega)
    have hcc : ∀ j, 0 ≤ fup S.count t (S.count t + 1) j ∧ fup S.count t (S.count t + 1) j ≤ ((i + 1 : Nat) : Int) := fun j => by
      have := hc j
      have := hc t
      unfold fup; split <;> omega
    split
    · refine ⟨⟨by first | omega | (simp only; omega), by first | omega | (simp only; omega)⟩, ⟨by first | omega | (simp only; omega), by first | omega | (simp only; omega)⟩, hcc, fun j => ?_⟩
      have := hs j
      simp only [List.length_append, List.length_singleton]
      omega
    · exact ⟨⟨by first | omega | (simp only; omega), by first | omega | (simp only; omega)⟩, ⟨by first | omega | (simp only; omega), by first | omega | (simp only; omega)⟩, hcc, fun j => Nat.le_trans (hs j) (by omega)⟩
end Go.Proofs.Ytlnjmheocfbimaa


/- CounterTimes: its words in memory; its inner loops. -/
namespace Go.Proofs.Ytlnjmheocfbimaa
open Go Go.Conc
/-- One may first show what comes behind. -/
theorem hold_cut {P : Program} {main : Bool} {S : Addr → Prop} {Stop : Goroutine → World → Prop} {b : Frame} {a0 : Act} {k0 : Item} {ks : List Item} {cs : List Frame} {v0 : World} (Q : Act → World → Prop) (h1 : ∀ a v, Q a v → Hold P main S Stop (G (b.at a ks) cs) v)
    (h2 : (∀ a v, Q a v → Hold P main S Stop (G (b.at a ks) cs) v) → Hold P main S Stop (G (b.at a0 (k0 :: ks)) cs) v0) : Hold P main S Stop (G (b.at a0 (k0 :: ks)) cs) v0 := h2 h1
theorem hold_cut2 {P : Program} {main : Bool} {S : Addr → Prop} {Stop : Goroutine → World → Prop} {b : Frame} {a0 : Act} {k0 k1 : Item} {ks : List Item} {cs : List Frame} {v0 : World} (Q : Act → World → Prop) (h1 : ∀ a v, Q a v → Hold P main S Stop (G (b.at a ks) cs) v)
    (h2 : (∀ a v, Q a v → Hold P main S Stop (G (b.at a ks) cs) v) → Hold P main S Stop (G (b.at a0 (k0 :: k1 :: ks)) cs) v0) : Hold P main S Stop (G (b.at a0 (k0 :: k1 :: ks)) cs) v0 := h2 h1
/-- Rows that grow, each its own. -/
structure Rows2 (v : World) (lo gc gn n : Nat) (sv : Nat → Value) (seen : Nat → List Int) : Prop where
  own : ∀ j, j < n → v.ownsRow 0 3 1 (sv j) (seen j).length (ints (seen j))
  new : ∀ j, j < n → ∀ b, (sv j).ownBlock = some b → lo ≤ b ∧ b ≠ gc ∧ b ≠ gn
  apart : ∀ i j, i < n → j < n → i ≠ j → ∀ b, (sv i).ownBlock = some b → (sv j).ownBlock ≠ some b
theorem Rows2.grow {v v' : World} {lo gc gn n : Nat} {sv : Nat → Value} {seen : Nat → List Int} (h : Rows2 v lo gc gn n sv seen) (g : Grow v v') : Rows2 v' lo gc gn n sv seen := ⟨fun j hj => owns_grow (h.own j hj) g, h.new, h.apart⟩
theorem Rows2.put {v v' : World} {lo gc gn n : Nat} {sv : Nat → Value} {seen : Nat → List Int} (h : Rows2 v lo gc gn n sv seen) {B : Nat} {o : Obj} (hP : Puts v v' B o) (hB : ∀ j, j < n → (sv j).ownBlock ≠ some B) : Rows2 v' lo gc gn n sv seen :=
  ⟨fun j hj => ownsRow_keep (h.own j hj) fun b _ hb _ => hP.other b fun e => hB j hj (by rw [hb, e]), h.new, h.apart⟩
theorem Rows2.put_t {v v' : World} {lo gc gn n : Nat} {sv : Nat → Value} {seen : Nat → List Int} (h : Rows2 v lo gc gn n sv seen) {B : Nat} {o : Obj} (hP : Puts v v' B o) {arr : Array Value} {t : TypeId} {fr : Nat × Nat} (hb : v.heap[B]? = some (.cells arr t fr)) (hne : t ≠ 3) : Rows2 v' lo gc gn n sv seen :=
  h.put hP fun j hj => own_ne (h.own j hj) hb hne
theorem intsAt_own {v : World} {sv : Value} {l : List Int} (h : v.ownsRow 0 3 1 sv l.length (ints l)) : IntsAt v sv l := by
  rcases h.2 with ⟨rfl, h0⟩ | ⟨g, cap, cur, rfl, _, hg, _, _, _, ht⟩
  · rw [List.length_eq_zero_iff.1 h0]
    exact ⟨none, 0, rfl, fun j x hx => by cases hx⟩
  · refine ⟨_, cap, rfl, fun j x hx => ⟨g, 0, rfl, ?_⟩⟩
    have hj := (List.getElem?_eq_some_iff.1 hx).1
    rw [cell_at' hg, Nat.zero_add]
    have h1 : (ints l)[j]? = some (.int .i64 x) := by simp [ints, hx]
    rw [← ht, List.getElem?_take_of_lt (by omega)] at h1
    simpa using h1
section
variable {S : Addr → Prop} {main : Bool} {Stop : Goroutine → World → Prop} {cs : List Frame}
/-- CounterTimes's variables in its loop. -/
abbrev tE (i total busy : Int) (gc gs gq gn n : Nat) (tv av sv : Value) (sh : Int) : Env :=
  [(19, .int .i64 i), (18, .slice (some ⟨gn, 0, none⟩) n n), (17, .slice (some ⟨gq, 0, none⟩) n n), (16, .slice (some ⟨gs, 0, none⟩) n n), (15, .slice (some ⟨gc, 0, none⟩) n n), (14, .int .i64 busy), (13, .int .i64 total), (12, tv), (9, av), (2, sv), (1, .int .i64 sh)]
theorem zoff (j : Nat) : 0 + ((j : Nat) : Int).toNat * 1 = j := by omega
/-- All are told that it is not quiet. -/
theorem Times_quiet {b : Frame} (hbk : b.kind ≠ .early) {k : List Item} {i total busy sh : Int} {gc gs gq gn n t B20 : Nat} {op : Int} {tv av sv : Value} (hn : n ≤ 8) (q : Nat → Bool) {u : World}
    (H : ∀ v a, Puts u v gq (.cells (rowF n fun _ => .bool false) 4 (0, 0)) → AtE 267 [] ((22, .int .i64 op) :: (21, .int .i64 t) :: (20, .pointer (some ⟨B20, 0, none⟩)) :: tE i total busy gc gs gq gn n tv av sv sh) a → Hold Try.prog main S Stop (G (b.at a k) cs) v) :
    ∀ (r j : Nat) (v : World) (a : Act), j + r = n → Puts u v gq (.cells (rowF n fun x => .bool (if x < j then false else q x)) 4 (0, 0)) → AtE 267 [] ((23, .int .i64 j) :: (22, .int .i64 op) :: (21, .int .i64 t) :: (20, .pointer (some ⟨B20, 0, none⟩)) :: tE i total busy gc gs gq gn n tv av sv sh) a →
      Hold Try.prog main S Stop (G (b.at a (.code Times_L1 :: .inLoop Times_L1 :: .inBlock 5 :: k)) cs) v := by
  intro r
  induction r with
  | zero =>
    intro j v a hj hU hat
    refine hold_unf Times_L1_def <| hold_seq <| hold_seq <| hold_region (l := [0,1,2,3]) rfl <| h_val noA hbk Times_34 rfl rfl (by decide) hat (r_move rfl) fun a hat => h_val noA hbk Times_34 rfl rfl (by decide) hat (r_move rfl) fun a hat => h_val noA hbk Times_34 rfl rfl (by decide) hat (r_len lk_44 rfl) fun a hat => h_val noA hbk Times_34 rfl rfl (by decide) hat (r_bool (t' := false) (r_lss rfl rfl) (by first | (simp; omega) | (simp; done) | (simp_all; done) | (simp_all; omega))) fun a hat => hold_region_end <| hold_condF (hat.eval (q := .tmp 204) rfl) rfl <| hold_exit (k' := _) rfl ?_
    have e : (rowF n fun x => .bool (if x < j then false else q x)) = rowF n fun _ => .bool false := rowF_congr fun x hx => by rw [if_pos (by omega)]
    rw [e] at hU
    exact H v a hU (hat.sub (AtE.cons rfl (AtE.cons rfl (AtE.cons rfl (AtE.cons rfl (AtE.cons rfl (AtE.cons rfl (AtE.cons rfl (AtE.cons rfl (AtE.cons rfl (AtE.cons rfl (AtE.cons rfl (AtE.cons rfl (AtE.cons rfl (AtE.cons rfl (AtE.nil))))))))))))))))
  | succ r ih =>
    intro j v a hj hU hat
    have FQ := hU.at_
    refine hold_unf Times_L1_def <| hold_seq <| hold_seq <| hold_region (l := [0,1,2,3]) rfl <| h_val noA hbk Times_34 rfl rfl (by decide) hat (r_move rfl) fun a hat => h_val noA hbk Times_34 rfl rfl (by decide) hat (r_move rfl) fun a hat => h_val noA hbk Times_34 rfl rfl (by decide) hat (r_len lk_44 rfl) fun a hat => h_val noA hbk Times_34 rfl rfl (by decide) hat (r_bool (t' := true) (r_lss rfl rfl) (by first | (simp; omega) | (simp; done) | (simp_all; done) | (simp_all; omega))) fun a hat => hold_region_end <| hold_condT (hat.eval (q := .tmp 204) rfl) rfl <| hold_skip <| hold_seq <| hold_block ?_
    refine hold_region (l := [0,1,2,3]) rfl <| h_val noA hbk Times_35 rfl rfl (by decide) hat (r_move rfl) fun a hat => h_val noA hbk Times_35 rfl rfl (by decide) hat (r_move rfl) fun a hat => h_val noA hbk Times_35 rfl rfl (by decide) hat (r_index ix_44 rfl rfl (by omega) (by omega)) fun a hat => h_put noA hbk Times_35 rfl rfl hat (p_store st_4 rfl rfl rfl FQ (x := .bool (if j < j then false else q j)) (by rw [zoff, rowF_get (by omega)]) rfl) fun v' a hP FQx hat => hold_region_end <| hold_inBlock <| hold_region (l := [0,1,2]) rfl <| h_val noA hbk Times_36 rfl rfl (by decide) hat (r_move rfl) fun a hat => h_val noA hbk Times_36 rfl rfl (by decide) hat (r_add rfl rfl (by first | omega | (simp; omega))) fun a hat => h_val noA hbk Times_36 rfl rfl (by decide) hat (r_assign rfl) fun a hat => hold_region_end <| hold_inLoop ?_
    refine ih (j + 1) _ _ (by omega) ⟨hP.size.trans hU.size, ?_, fun b hb => (hP.other b hb).trans (hU.other b hb), fun h => hP.ready (hU.ready h)⟩ (hat.sub (AtE.cons rfl (AtE.cons rfl (AtE.cons rfl (AtE.cons rfl (AtE.cons rfl (AtE.cons rfl (AtE.cons rfl (AtE.cons rfl (AtE.cons rfl (AtE.cons rfl (AtE.cons rfl (AtE.cons rfl (AtE.cons rfl (AtE.cons rfl (AtE.cons rfl (AtE.nil)))))))))))))))))
    rw [FQx, zoff, rowF_set]
    congr 3
    funext x
    unfold fup
    by_cases e : x = j
    · rw [if_pos e, if_pos (by omega)]
    · rw [if_neg e]
      show Value.bool (if x < j then false else q x) = _
      by_cases e2 : x < j
      · rw [if_pos e2, if_pos (by omega)]
      · rw [if_neg e2, if_neg (by omega)]
/-- What the rows' growing leaves alone. -/
def KB (gs gc gn : Nat) (v0 v : World) : Prop := ∀ (b : Nat) (arr : Array Value) (t : TypeId) (fr : Nat × Nat), v0.heap[b]? = some (.cells arr t fr) → t ≠ 3 ∨ b = gc ∨ b = gn → b ≠ gs → v.heap[b]? = some (.cells arr t fr)
theorem KB.refl (gs gc gn : Nat) (v : World) : KB gs gc gn v v := fun _ _ _ _ h _ _ => h
theorem Rows2.app {v v' : World} {lo gc gn n j g cap : Nat} {sv : Nat → Value} {seen : Nat → List Int} {x : Int} (h : Rows2 v lo gc gn n sv seen) (hj : j < n) (hlo : lo ≤ v.heap.size) (hgc : gc < v.heap.size) (hgn : gn < v.heap.size) (hA : Apped v (sv j) 3 1 ((seen j).length + 1) (ints (seen j) ++ [.int .i64 x]) g cap v') :
    Rows2 v' lo gc gn n (fup sv j (.slice (some ⟨g, 0, none⟩) ((seen j).length + 1) cap)) (fup seen j (seen j ++ [x])) ∧ lo ≤ g ∧ g ≠ gc ∧ g ≠ gn := by
  have hg : lo ≤ g ∧ g ≠ gc ∧ g ≠ gn := by
    rcases hA.where_ with e | e
    · exact h.new j hj g e
    · omega
  refine ⟨⟨fun i hi => ?_, fun i hi b hb => ?_, fun i i' hi hi' hne b hb hb' => ?_⟩, hg⟩
  · by_cases e : i = j
    · subst e
      rw [fup_same, fup_same, List.length_append, List.length_singleton]
      have e2 : ints (seen i ++ [x]) = ints (seen i) ++ [.int .i64 x] := by simp [ints]
      rw [e2]
      exact hA.owns
    · rw [fup_ne _ _ e, fup_ne _ _ e]
      exact ownsRow_keep (h.own i hi) fun b _ hb hb' => hA.same b (lt_of_heap hb') fun hjb => h.apart j i hj hi (fun x => e x.symm) b hjb hb
  · by_cases e : i = j
    · subst e
      rw [fup_same] at hb
      cases hb
      exact hg
    · rw [fup_ne _ _ e] at hb
      exact h.new i hi b hb
  · by_cases e : i = j
    · subst e
      rw [fup_same] at hb
      cases hb
      rw [fup_ne _ _ (fun x => hne x.symm)] at hb'
      rcases hA.where_ with e | e
      · exact h.apart i i' hi hi' hne g e hb'
      · have h9 := own_lt (h.own i' hi') hb'
        rw [e] at h9
        exact absurd h9 (Nat.lt_irrefl _)
    · rw [fup_ne _ _ e] at hb
      by_cases e' : i' = j
      · subst e'
        rw [fup_same] at hb'
        cases hb'
        rcases hA.where_ with e2 | e2
        · exact h.apart i' i hi' hi (fun x => hne x.symm) g e2 hb
        · have h9 := own_lt (h.own i hi) hb
          rw [e2] at h9
          exact absurd h9 (Nat.lt_irrefl _)
      · rw [fup_ne _ _ e'] at hb'
        exact h.apart i i' hi hi' hne b hb hb'
theorem Rows2.fresh {v : World} {lo gc gn n j B : Nat} {sv : Nat → Value} {seen : Nat → List Int} {x : Int} (h : Rows2 v lo gc gn n sv seen) (hlo : lo ≤ B) (hB : v.heap[B]? = some (.cells #[.int .i64 x] 3 (0, 0))) (hgc : B ≠ gc) (hgn : B ≠ gn) (hne : ∀ i, i < n → (sv i).ownBlock ≠ some B) :
    Rows2 v lo gc gn n (fup sv j (.slice (some ⟨B, 0, none⟩) 1 1)) (fup seen j [x]) := by
  refine ⟨fun i hi => ?_, fun i hi b hb => ?_, fun i i' hi hi' hn b hb hb' => ?_⟩
  · by_cases e : i = j
    · subst e
      rw [fup_same, fup_same]
      exact ⟨rfl, .inr ⟨B, 1, _, rfl, Nat.zero_le _, hB, Nat.le_refl _, by decide, rfl, rfl⟩⟩
    · rw [fup_ne _ _ e, fup_ne _ _ e]; exact h.own i hi
  · by_cases e : i = j
    · subst e
      rw [fup_same] at hb
      cases hb
      exact ⟨hlo, hgc, hgn⟩
    · rw [fup_ne _ _ e] at hb; exact h.new i hi b hb
  · by_cases e : i = j
    · subst e
      rw [fup_same] at hb
      cases hb
      rw [fup_ne _ _ (fun x => hn x.symm)] at hb'
      exact hne i' hi' hb'
    · rw [fup_ne _ _ e] at hb
      by_cases e' : i' = j
      · subst e'
        rw [fup_same] at hb'
        cases hb'
        exact hne i hi hb
      · rw [fup_ne _ _ e'] at hb'
        exact h.apart i i' hi hi' hn b hb hb'
/-- All are told of a new total. -/
theorem Times_seen {b : Frame} (hbk : b.kind ≠ .early) {k : List Item} {i busy sh : Int} {gc gs gq gn n t B20 : Nat} {op total : Int} {tv av sv : Value} (hn : n ≤ 8) (seen : Nat → List Int) (hsl : ∀ j, (seen j).length ≤ 2 ^ 41) {u v0 : World} (hr : Ready0 u) (hgs : u.heap.size ≤ gs) (hgc : gc < v0.heap.size) (hgn : gn < v0.heap.size)
    (H : ∀ v a svs, Grow u v → KB gs gc gn v0 v → v.heap[gs]? = some (.cells (rowF n svs) 22 (0, 0)) → Rows2 v u.heap.size gc gn n svs (fun x => seen x ++ [total]) → AtE 267 [] ((22, .int .i64 op) :: (21, .int .i64 t) :: (20, .pointer (some ⟨B20, 0, none⟩)) :: tE i total busy gc gs gq gn n tv av sv sh) a → Hold Try.prog main S Stop (G (b.at a k) cs) v) :
    ∀ (r j : Nat) (v : World) (a : Act) (svs : Nat → Value), j + r = n → Grow u v → v0.heap.size ≤ v.heap.size → KB gs gc gn v0 v → v.heap[gs]? = some (.cells (rowF n svs) 22 (0, 0)) → Rows2 v u.heap.size gc gn n svs (fun x => if x < j then seen x ++ [total] else seen x) →
      AtE 267 [] ((24, .int .i64 j) :: (22, .int .i64 op) :: (21, .int .i64 t) :: (20, .pointer (some ⟨B20, 0, none⟩)) :: tE i total busy gc gs gq gn n tv av sv sh) a →
      Hold Try.prog main S Stop (G (b.at a (.code Times_L2 :: .inLoop Times_L2 :: .inBlock 3 :: k)) cs) v := by
  intro r
  induction r with
  | zero =>
    intro j v a svs hj hG hsz hK FS hRw hat
    refine hold_unf Times_L2_def <| hold_seq <| hold_seq <| hold_region (l := [0,1,2,3]) rfl <| h_val noA hbk Times_49 rfl rfl (by decide) hat (r_move rfl) fun a hat => h_val noA hbk Times_49 rfl rfl (by decide) hat (r_move rfl) fun a hat => h_val noA hbk Times_49 rfl rfl (by decide) hat (r_len lk_43 rfl) fun a hat => h_val noA hbk Times_49 rfl rfl (by decide) hat (r_bool (t' := false) (r_lss rfl rfl) (by first | (simp; omega) | (simp; done) | (simp_all; done) | (simp_all; omega))) fun a hat => hold_region_end <| hold_condF (hat.eval (q := .tmp 182) rfl) rfl <| hold_exit (k' := _) rfl ?_
    refine H v a svs hG hK FS ⟨fun x hx => ?_, hRw.new, hRw.apart⟩ (hat.sub (AtE.cons rfl (AtE.cons rfl (AtE.cons rfl (AtE.cons rfl (AtE.cons rfl (AtE.cons rfl (AtE.cons rfl (AtE.cons rfl (AtE.cons rfl (AtE.cons rfl (AtE.cons rfl (AtE.cons rfl (AtE.cons rfl (AtE.cons rfl (AtE.nil))))))))))))))))
    have := hRw.own x hx
    rwa [if_pos (by omega : x < j)] at this
  | succ r ih =>
    intro j v a svs hj hG hsz hK FS hRw hat
    have ggs := hgs
    refine hold_unf Times_L2_def <| hold_seq <| hold_seq <| hold_region (l := [0,1,2,3]) rfl <| h_val noA hbk Times_49 rfl rfl (by decide) hat (r_move rfl) fun a hat => h_val noA hbk Times_49 rfl rfl (by decide) hat (r_move rfl) fun a hat => h_val noA hbk Times_49 rfl rfl (by decide) hat (r_len lk_43 rfl) fun a hat => h_val noA hbk Times_49 rfl rfl (by decide) hat (r_bool (t' := true) (r_lss rfl rfl) (by first | (simp; omega) | (simp; done) | (simp_all; done) | (simp_all; omega))) fun a hat => hold_region_end <| hold_condT (hat.eval (q := .tmp 182) rfl) rfl <| hold_skip <| hold_seq <| hold_block ?_
    refine hold_region (l := [0,1,2,3,4,5,6,7,8,9,10]) rfl <| h_val noA hbk Times_50 rfl rfl (by decide) hat (r_move rfl) fun a hat => h_val noA hbk Times_50 rfl rfl (by decide) hat (r_move rfl) fun a hat => h_val noA hbk Times_50 rfl rfl (by decide) hat (r_move rfl) fun a hat => h_val noA hbk Times_50 rfl rfl (by decide) hat (r_move rfl) fun a hat => h_val noA hbk Times_50 rfl rfl (by decide) hat (r_index ix_43 rfl rfl (by omega) (by omega)) fun a hat => h_val noA hbk Times_50 rfl rfl (by decide) hat (r_load ld_22 rfl (by rw [cell_at' FS, zoff]; exact rowF_get (by omega))) fun a hat => h_val noA hbk Times_50 rfl rfl (by decide) hat (r_move rfl) fun a hat => h_news noA hbk Times_50 rfl rfl (by decide) hat (bs_22_1_0 rfl rfl) fun v a B192 hB192 hsB192 hg F192 hat => ?_
    have n_F192_FS := ne_new FS hB192
    have gB192 := Nat.le_trans hG.size (Nat.le_of_eq hB192)
    replace hG := hG.trans hg
    replace FS := hg.at FS
    replace hRw := hRw.grow hg
    replace hK : KB gs gc gn v0 v := fun b arr t fr h1 h2 h3 => hg.at (hK b arr t fr h1 h2 h3)
    replace hsz := Nat.le_trans hsz hg.size
    have hrd := hG.ready hr
    have hown := hRw.own j (by omega)
    have hif : (if j < j then seen j ++ [total] else seen j) = seen j := if_neg (by omega)
    rw [hif] at hown
    have hl41 := hsl j
    refine h_app noA hbk Times_50 rfl (by decide) hat ek_22 hrd hown rfl rfl F192 rfl (by simp [Value.oneCell']) (by decide) (Nat.le_trans (Nat.add_le_add_right hl41 1) (by decide)) (by omega) fun g cap v' a hAp hat => ?_
    have hgcv : gc < v.heap.size := Nat.lt_of_lt_of_le hgc hsz
    have hgnv : gn < v.heap.size := Nat.lt_of_lt_of_le hgn hsz
    have hRw0 : Rows2 v u.heap.size gc gn n svs (fun x => if x < j then seen x ++ [total] else seen x) := hRw
    have hAp' : Apped v (svs j) 3 1 (((fun x => if x < j then seen x ++ [total] else seen x) j).length + 1) (ints ((fun x => if x < j then seen x ++ [total] else seen x) j) ++ [.int .i64 total]) g cap v' := by
      simp only [hif]; exact hAp
    obtain ⟨hRw2, hg1, hg2, hg3⟩ := hRw0.app (by omega) hG.size hgcv hgnv hAp'
    simp only [hif] at hRw2
    have FS2 : v'.heap[gs]? = some (.cells (rowF n svs) 22 (0, 0)) := (hAp.same gs (lt_of_heap FS) (own_ne hown FS (by decide))).trans FS
    have hG2 := (hAp.grow hG fun b hb => (hRw.new j (by omega) b hb).1).1
    have hK2 : KB gs gc gn v0 v' := fun b arr t fr h1 h2 h3 => by
      have h4 := hK b arr t fr h1 h2 h3
      refine (hAp.same b (lt_of_heap h4) ?_).trans h4
      rcases h2 with h2 | h2 | h2
      · exact own_ne hown h4 h2
      · exact fun e => (hRw.new j (by omega) b e).2.1 h2
      · exact fun e => (hRw.new j (by omega) b e).2.2 h2
    refine h_val noA hbk Times_50 rfl rfl (by decide) hat (r_index ix_43 rfl rfl (by omega) (by omega)) fun a hat => h_put noA hbk Times_50 rfl rfl hat (p_store st_22 rfl rfl rfl FS2 (x := svs j) (by rw [zoff, rowF_get (by omega)]) rfl) fun v3 a hP FSx hat => hold_region_end <| hold_inBlock <| hold_region (l := [0,1,2]) rfl <| h_val noA hbk Times_51 rfl rfl (by decide) hat (r_move rfl) fun a hat => h_val noA hbk Times_51 rfl rfl (by decide) hat (r_add rfl rfl (by first | omega | (simp; omega))) fun a hat => h_val noA hbk Times_51 rfl rfl (by decide) hat (r_assign rfl) fun a hat => hold_region_end <| hold_inLoop ?_
    rw [zoff, rowF_set] at FSx
    refine ih (j + 1) _ _ _ (by omega) (hG2.put hP hgs) (by rw [hP.size]; exact Nat.le_trans hsz hAp.size) (fun b arr t fr h1 h2 h3 => (hP.other b h3).trans (hK2 b arr t fr h1 h2 h3)) FSx ?_ (hat.sub (AtE.cons rfl (AtE.cons rfl (AtE.cons rfl (AtE.cons rfl (AtE.cons rfl (AtE.cons rfl (AtE.cons rfl (AtE.cons rfl (AtE.cons rfl (AtE.cons rfl (AtE.cons rfl (AtE.cons rfl (AtE.cons rfl (AtE.cons rfl (AtE.cons rfl (AtE.nil)))))))))))))))))
    have h5 := hRw2.put_t hP FS2 (by decide)
    have h6 : fup (fun x => if x < j then seen x ++ [total] else seen x) j (seen j ++ [total]) = fun x => if x < j + 1 then seen x ++ [total] else seen x := by
      funext x
      unfold fup
      by_cases e : x = j
      · subst e; rw [if_pos rfl, if_pos (by omega)]
      · rw [if_neg e]
        show (if x < j then seen x ++ [total] else seen x) = _
        by_cases e2 : x < j
        · rw [if_pos e2, if_pos (by omega)]
        · rw [if_neg e2, if_neg (by omega)]
    rw [h6] at h5
    exact h5
end
end Go.Proofs.Ytlnjmheocfbimaa


/- CounterTimes: its loop. -/
namespace Go.Proofs.Ytlnjmheocfbimaa
open Go Go.Conc
/-- Scripts, as they read. -/
def CallsAt (v : World) (lv : Value) (l : List ACall) : Prop :=
  ∃ ad cap, lv = .slice ad l.length cap ∧ ∀ (j : Nat) (x : ACall), l[j]? = some x → ∃ B O, ad = some ⟨B, O, none⟩ ∧ v.cell? ⟨B, O + j * 4, none⟩ = some (.int .i64 x.op) ∧ v.cell? ⟨B, O + j * 4 + 1, none⟩ = some (.int .i64 x.a) ∧ v.cell? ⟨B, O + j * 4 + 2, none⟩ = some (.int .i64 x.b) ∧ v.cell? ⟨B, O + j * 4 + 3, none⟩ = some (.int .i64 x.c)
def ScrsAt (v : World) (sv : Value) (n : Nat) (L : Nat → List ACall) : Prop :=
  ∃ ad cap, sv = .slice ad n cap ∧ ∀ j, j < n → ∃ B O lv, ad = some ⟨B, O, none⟩ ∧ v.cell? ⟨B, O + j, none⟩ = some lv ∧ CallsAt v lv (L j)
theorem fold_none {n : Nat} {sh : Int} {L : Nat → List ACall} {R : Nat → List (Int × Int)} : ∀ T : List TStep, T.foldl (fun o s => o.bind fun S => timeStep n sh L R S s) none = none
  | [] => rfl
  | s :: T => by rw [List.foldl_cons, Option.bind_none]; exact fold_none T
section
variable {S : Addr → Prop} {main : Bool} {Stop : Goroutine → World → Prop} {cs : List Frame}
theorem Times_loop {b : Frame} (hbk : b.kind ≠ .early) {k : List Item} {sh : Int} {gc gs gq gn n : Nat} {tv av sv : Value} {L : Nat → List ACall} {rs : List (List (Int × Int))} {T : List TStep} {Sf : TimeS} {u : World}
    (hr : Ready0 u) (hS : ScrsAt u sv n L) (hA : AnssAt u av rs) (hrs : rs.length = n) (hT : TrAt u tv T) (hTl : T.length ≤ 2 ^ 40) (hn : n ≤ 8) (hsh : 1 ≤ sh ∧ sh ≤ 16) (hL : ∀ i, i < n → (L i).length ≤ 64)
    (ggc : u.heap.size ≤ gc) (ggs : u.heap.size ≤ gs) (ggq : u.heap.size ≤ gq) (ggn : u.heap.size ≤ gn) (n_FC_FN : gc ≠ gn)
    (H : ∀ v a, Grow u v → AtE 267 [] [] a → Hold Try.prog main S Stop (G (b.at a k) cs) v) :
    ∀ (r i : Nat) (v : World) (a : Act) (St : TimeS) (svs : Nat → Value), i + r = T.length → (T.drop i).foldl (fun o s => o.bind fun S => timeStep n sh L (fun i => rs.getD i []) S s) (some St) = some Sf → TB i St → Grow u v →
      v.heap[gc]? = some (.cells (rowF n fun j => .int .i64 (St.call j : Nat)) 3 (0, 0)) → v.heap[gq]? = some (.cells (rowF n fun j => .bool (St.quiet j)) 4 (0, 0)) → v.heap[gn]? = some (.cells (rowF n fun j => .int .i64 (St.count j)) 3 (0, 0)) →
      v.heap[gs]? = some (.cells (rowF n svs) 22 (0, 0)) → Rows2 v u.heap.size gc gn n svs St.seen → AtE 267 [] (tE i St.total St.busy gc gs gq gn n tv av sv sh) a →
      Hold Try.prog main S Stop (G (b.at a (.code Times_L0 :: .inLoop Times_L0 :: .inBlock 0 :: k)) cs) v := by
  obtain ⟨adS, cpS, rfl, hS2⟩ := hS
  obtain ⟨adA, cpA, rfl, hA2⟩ := hA
  obtain ⟨adT, cpT, rfl, hT2⟩ := hT
  intro r
  induction r with
  | zero =>
    intro i v a St svs hi hf hB hG FC FQ FN FS hRw hat
    refine hold_unf Times_L0_def <| hold_seq <| hold_seq <| hold_region (l := [0,1,2,3]) rfl <| h_val noA hbk Times_17 rfl rfl (by decide) hat (r_move rfl) fun a hat => h_val noA hbk Times_17 rfl rfl (by decide) hat (r_move rfl) fun a hat => h_val noA hbk Times_17 rfl rfl (by decide) hat (r_len lk_39 rfl) fun a hat => h_val noA hbk Times_17 rfl rfl (by decide) hat (r_bool (t' := false) (r_lss rfl rfl) (by first | (simp; omega) | (simp; done) | (simp_all; done) | (simp_all; omega))) fun a hat => hold_region_end <| hold_condF (hat.eval (q := .tmp 69) rfl) rfl <| hold_exit (k' := _) rfl ?_
    exact H v a hG (hat.sub (AtE.nil))
  | succ r ih =>
    intro i v a St svs hi hf hB hG FC FQ FN FS hRw hat
    have hlt : i < T.length := by omega
    obtain ⟨x, hx⟩ : ∃ x, T[i]? = some x := ⟨T[i], by simp⟩
    rw [List.drop_eq_getElem_cons hlt, List.foldl_cons] at hf
    have hxe : T[i] = x := by rw [List.getElem?_eq_getElem hlt] at hx; exact Option.some.inj hx
    rw [hxe, Option.bind_some] at hf
    obtain ⟨S', hst⟩ : ∃ S', timeStep n sh L (fun i => rs.getD i []) St x = some S' := by
      cases h : timeStep n sh L (fun i => rs.getD i []) St x with
      | none => rw [h, fold_none] at hf; cases hf
      | some S' => exact ⟨S', rfl⟩
    rw [hst] at hf
    have hB' := hB.step hst
    obtain ⟨t, hth, htn, hcase⟩ := timeStep_cases hst
    obtain ⟨th, cl, op, old, new⟩ := x
    simp only at hth hcase
    subst hth
    obtain ⟨BT, OT, rfl, ht1, ht2, ht3, ht4, ht5⟩ := hT2 i _ hx
    obtain ⟨BS, OS, lvt, rfl, hs1, adL, cpL, rfl, hs2⟩ := hS2 t htn
    have hrl : t < rs.length := by omega
    obtain ⟨BA, OA, xv, rfl, ha1, adR, cpR, rfl, ha2⟩ := hA2 t rs[t] (by simp)
    have hRt : rs.getD t [] = rs[t] := by rw [List.getD_eq_getElem?_getD, List.getElem?_eq_getElem hrl, Option.getD_some]
    rw [hRt] at hcase
    generalize hrt : rs[t] = Rt at *
    obtain ⟨call', hcall⟩ : ∃ call' : Nat → Nat, ((op = 9 ∨ op = 10) ∧ ∃ k : Nat, old = k ∧ k < (L t).length ∧ k < Rt.length ∧ call' = fup St.call t k) ∨ ((op ≠ 9 ∧ op ≠ 10) ∧ call' = St.call) := by
      rcases hcase with ⟨k, e1, e2, e3, e4⟩ | ⟨e1, e2, _⟩
      · exact ⟨_, .inl ⟨e4.imp (·.1) (·.1), k, e1, e2, e3, rfl⟩⟩
      · exact ⟨_, .inr ⟨⟨e1, e2⟩, rfl⟩⟩
    refine hold_unf Times_L0_def <| hold_seq <| hold_seq <| hold_region (l := [0,1,2,3]) rfl <| h_val noA hbk Times_17 rfl rfl (by decide) hat (r_move rfl) fun a hat => h_val noA hbk Times_17 rfl rfl (by decide) hat (r_move rfl) fun a hat => h_val noA hbk Times_17 rfl rfl (by decide) hat (r_len lk_39 rfl) fun a hat => h_val noA hbk Times_17 rfl rfl (by decide) hat (r_bool (t' := true) (r_lss rfl rfl) (by first | (simp; omega) | (simp; done) | (simp_all; done) | (simp_all; omega))) fun a hat => hold_region_end <| hold_condT (hat.eval (q := .tmp 69) rfl) rfl <| hold_skip <| hold_seq <| hold_block ?_
    refine hold_seq <| hold_region (l := [0,1,2,3,4,5]) rfl <| h_val noA hbk Times_18 rfl rfl (by decide) hat (r_move rfl) fun a hat => h_val noA hbk Times_18 rfl rfl (by decide) hat (r_move rfl) fun a hat => h_val noA hbk Times_18 rfl rfl (by decide) hat (r_index ix_39 rfl rfl (by omega) (by omega)) fun a hat => h_val noA hbk Times_18 rfl rfl (by decide) hat (lg_46 rfl (by simpa using grow_cell hG ht1) (by simpa using grow_cell hG ht2) (by simpa using grow_cell hG ht3) (by simpa using grow_cell hG ht4) (by simpa using grow_cell hG ht5)) fun a hat => h_new noA hbk Times_18 rfl rfl (by decide) hat al_46 fun v a B20 hB20 hsB20 hg F20 hat => ?_
    have n_F20_FC := ne_new FC hB20
    have n_F20_FQ := ne_new FQ hB20
    have n_F20_FN := ne_new FN hB20
    have n_F20_FS := ne_new FS hB20
    have gB20 := Nat.le_trans hG.size (Nat.le_of_eq hB20)
    replace hG := hG.trans hg
    replace FC := hg.at FC
    replace FQ := hg.at FQ
    replace FN := hg.at FN
    replace FS := hg.at FS
    replace hRw := hRw.grow hg
    have F20o := F20
    refine h_put noA hbk Times_18 rfl rfl hat (pg_46 rfl rfl F20 rfl rfl rfl rfl rfl rfl rfl rfl rfl rfl rfl) fun v a hP F20x hat => ?_
    simp only [List.setIfInBounds_toArray, List.set_cons_succ, List.set_cons_zero] at F20x
    replace FC := hP.keep (by first | exact n_F20_FC | exact n_FC_F20.symm | exact ne_of_types FC F20 (by decide) | omega) FC
    replace FQ := hP.keep (by first | exact n_F20_FQ | exact n_FQ_F20.symm | exact ne_of_types FQ F20 (by decide) | omega) FQ
    replace FN := hP.keep (by first | exact n_F20_FN | exact n_FN_F20.symm | exact ne_of_types FN F20 (by decide) | omega) FN
    replace FS := hP.keep (by first | exact n_F20_FS | exact n_FS_F20.symm | exact ne_of_types FS F20 (by decide) | omega) FS
    replace hG := hG.put hP gB20
    replace F20 := F20x; clear F20x
    refine hold_region_end <| hold_seq <| hold_region (l := [0,1,2]) rfl <| h_val noA hbk Times_19 rfl rfl (by decide) hat (r_field fk_46_0 rfl) fun a hat => h_val noA hbk Times_19 rfl rfl (by decide) hat (r_load ld_3 rfl (cell_at' F20)) fun a hat => h_val noA hbk Times_19 rfl rfl (by decide) hat (r_assign rfl) fun a hat => hold_region_end <| hold_seq <| hold_seq <| hold_region (l := [0,1,2,3,4,5,6,7]) rfl <| h_val noA hbk Times_20 rfl rfl (by decide) hat (r_move rfl) fun a hat => ?_
    replace hRw := hRw.put_t hP F20o (by decide)
    refine h_val noA hbk Times_20 rfl rfl (by decide) hat (r_bool (t' := false) (r_lss rfl rfl) (by first | (simp; omega) | (simp; done) | (simp_all; done) | (simp_all; omega))) fun a hat => h_val noA hbk Times_20 rfl rfl (by decide) hat (r_move rfl) fun a hat => hg_yes noA hbk Times_20 rfl rfl rfl rfl (by decide) hat (r_move rfl) fun a hat => hg_yes noA hbk Times_20 rfl rfl rfl rfl (by decide) hat (r_move rfl) fun a hat => hg_yes noA hbk Times_20 rfl rfl rfl rfl (by decide) hat (r_len lk_32 rfl) fun a hat => hg_yes noA hbk Times_20 rfl rfl rfl rfl (by decide) hat (r_bool (t' := false) (r_geq rfl rfl) (by first | (simp; omega) | (simp; done) | (simp_all; done) | (simp_all; omega))) fun a hat => h_val noA hbk Times_20 rfl rfl (by decide) hat (r_pick rfl rfl) fun a hat => hold_region_end <| hold_condF (hat.eval (q := .tmp 85) rfl) rfl <| hold_skip <| hold_seq <| hold_seq <| hold_region (l := [0,1,2,3,4,5,6,7]) rfl ?_
    refine h_val noA hbk Times_22 rfl rfl (by decide) hat (r_field fk_46_2 rfl) fun a hat => h_val noA hbk Times_22 rfl rfl (by decide) hat (r_load ld_3 rfl (cell_at' F20)) fun a hat => ?_
    refine hold_cut2 (fun a v => Grow u v ∧ v.heap[gc]? = some (.cells (rowF n fun j => .int .i64 (call' j : Nat)) 3 (0, 0)) ∧ v.heap[gq]? = some (.cells (rowF n fun j => .bool (St.quiet j)) 4 (0, 0)) ∧ v.heap[gn]? = some (.cells (rowF n fun j => .int .i64 (St.count j)) 3 (0, 0)) ∧
      v.heap[gs]? = some (.cells (rowF n svs) 22 (0, 0)) ∧ Rows2 v u.heap.size gc gn n svs St.seen ∧ v.heap[B20]? = some (.cells #[.int .i64 (t : Nat), .int .i64 cl, .int .i64 op, .int .i64 old, .int .i64 new] 46 (0, 0)) ∧ AtE 267 [] ((21, .int .i64 (t : Nat)) :: (20, .pointer (some ⟨B20, 0, none⟩)) :: tE i St.total St.busy gc gs gq gn n (.slice (some ⟨BT, OT, none⟩) T.length cpT) (.slice (some ⟨BA, OA, none⟩) rs.length cpA) (.slice (some ⟨BS, OS, none⟩) n cpS) sh) a) (fun a v hQ => ?_) (fun K => ?_)
    rotate_left
    · rcases hcall with ⟨hop, k', rfl, hk1, hk2, rfl⟩ | ⟨⟨hop1, hop2⟩, rfl⟩
      · refine hold_cut (fun a' v' => v' = v ∧ AtE 267 [] ((93, .bool true) :: (21, .int .i64 (t : Nat)) :: (20, .pointer (some ⟨B20, 0, none⟩)) :: tE i St.total St.busy gc gs gq gn n (.slice (some ⟨BT, OT, none⟩) T.length cpT) (.slice (some ⟨BA, OA, none⟩) rs.length cpA) (.slice (some ⟨BS, OS, none⟩) n cpS) sh) a') (fun a' v' hq => ?_) (fun K1 => ?_)
        · obtain ⟨rfl, hat⟩ := hq
          refine hold_condT (hat.eval (q := .tmp 93) rfl) rfl <| hold_seq <| hold_seq <| hold_draw3 (ord := [0,1,2,3,4,5,6,7,8,9,10,11,12,13,14,15,16,17,18,19,20,21,22]) (bigs := []) mixed_ok (by kernel_rfl) (by kernel_rfl) hat <| tx_val noA hbk Times_23 rfl rfl (by decide) rfl (fun v hv => (r_field fk_46_3 rfl)) <| tx_val noA hbk Times_23 rfl rfl (by decide) rfl (fun v hv => (r_load ld_3 rfl (cell_at' (hv.at F20)))) <| tx_val noA hbk Times_23 rfl rfl (by decide) rfl (fun v hv => (r_bool (t' := false) (r_lss rfl rfl) (by simp))) <| tx_val noA hbk Times_23 rfl rfl (by decide) rfl (fun v hv => (r_move rfl)) <| tx_yes noA hbk Times_23 rfl rfl (by decide) rfl rfl rfl (fun v hv => (r_field fk_46_3 rfl)) <| tx_yes noA hbk Times_23 rfl rfl (by decide) rfl rfl rfl (fun v hv => (r_load ld_3 rfl (cell_at' (hv.at F20)))) <| tx_yes noA hbk Times_23 rfl rfl (by decide) rfl rfl rfl (fun v hv => (r_move rfl)) ?_
          refine tx_yes noA hbk Times_23 rfl rfl (by decide) rfl rfl rfl (fun v hv => (r_move rfl)) <| tx_yes noA hbk Times_23 rfl rfl (by decide) rfl rfl rfl (fun v hv => (r_index ix_32 rfl rfl (by omega) (by omega))) <| tx_yes noA hbk Times_23 rfl rfl (by decide) rfl rfl rfl (fun v hv => (r_load ld_47 rfl (by simpa using grow_cell (hG.trans hv) hs1))) <| tx_yes noA hbk Times_23 rfl rfl (by decide) rfl rfl rfl (fun v hv => (r_len lk_47 rfl)) <| tx_yes noA hbk Times_23 rfl rfl (by decide) rfl rfl rfl (fun v hv => (r_bool (t' := false) (r_geq rfl rfl) (by simp; omega))) <| tx_val noA hbk Times_23 rfl rfl (by decide) rfl (fun v hv => (r_pick rfl rfl)) <| tx_val noA hbk Times_23 rfl rfl (by decide) rfl (fun v hv => (r_move rfl)) <| tx_yes noA hbk Times_23 rfl rfl (by decide) rfl rfl rfl (fun v hv => (r_field fk_46_3 rfl)) <| tx_yes noA hbk Times_23 rfl rfl (by decide) rfl rfl rfl (fun v hv => (r_load ld_3 rfl (cell_at' (hv.at F20)))) ?_
          refine tx_yes noA hbk Times_23 rfl rfl (by decide) rfl rfl rfl (fun v hv => (r_move rfl)) <| tx_yes noA hbk Times_23 rfl rfl (by decide) rfl rfl rfl (fun v hv => (r_move rfl)) <| tx_yes noA hbk Times_23 rfl rfl (by decide) rfl rfl rfl (fun v hv => (r_index ix_35 rfl rfl (by omega) (by omega))) <| tx_yes noA hbk Times_23 rfl rfl (by decide) rfl rfl rfl (fun v hv => (r_load ld_48 rfl (by simpa using grow_cell (hG.trans hv) ha1))) <| tx_yes noA hbk Times_23 rfl rfl (by decide) rfl rfl rfl (fun v hv => (r_len lk_48 rfl)) <| tx_yes noA hbk Times_23 rfl rfl (by decide) rfl rfl rfl (fun v hv => (r_bool (t' := false) (r_geq rfl rfl) (by simp; omega))) <| tx_val noA hbk Times_23 rfl rfl (by decide) rfl (fun v hv => (r_pick rfl rfl)) <| tx_end fun v a hv hat => ?_
          replace hG := hG.trans hv
          replace FC := hv.at FC
          replace FQ := hv.at FQ
          replace FN := hv.at FN
          replace FS := hv.at FS
          replace F20 := hv.at F20
          refine hold_region_end <| hold_condF (hat.eval (q := .tmp 116) rfl) rfl <| hold_skip <| hold_region (l := [0,1,2,3,4,5]) rfl <| h_val noA hbk Times_25 rfl rfl (by decide) hat (r_move rfl) fun a hat => h_val noA hbk Times_25 rfl rfl (by decide) hat (r_move rfl) fun a hat => h_val noA hbk Times_25 rfl rfl (by decide) hat (r_field fk_46_3 rfl) fun a hat => h_val noA hbk Times_25 rfl rfl (by decide) hat (r_load ld_3 rfl (cell_at' F20)) fun a hat => ?_
          replace hRw := hRw.grow hv
          refine h_val noA hbk Times_25 rfl rfl (by decide) hat (r_index ix_22 rfl rfl (by omega) (by omega)) fun a hat => h_put noA hbk Times_25 rfl rfl hat (p_store st_3 rfl rfl rfl FC (x := .int .i64 (St.call t : Nat)) (by rw [zoff, rowF_get htn]) rfl) fun v a hP FCx hat => ?_
          rw [zoff, rowF_set] at FCx
          replace FCx : v.heap[gc]? = some (.cells (rowF n fun j => .int .i64 (fup St.call t k' j : Nat)) 3 (0, 0)) := by
            rw [← fup_map St.call t k' fun z => .int .i64 (z : Nat)]; exact FCx
          replace hRw := hRw.put hP fun j hj e => (hRw.new j hj _ e).2.1 rfl
          replace FQ := hP.keep (by first | exact n_FC_FQ | exact n_FQ_FC.symm | exact ne_of_types FQ FC (by decide) | omega) FQ
          replace FN := hP.keep (by first | exact n_FC_FN | exact n_FN_FC.symm | exact ne_of_types FN FC (by decide) | omega) FN
          replace FS := hP.keep (by first | exact n_FC_FS | exact n_FS_FC.symm | exact ne_of_types FS FC (by decide) | omega) FS
          replace F20 := hP.keep (by first | exact n_FC_F20 | exact n_F20_FC.symm | exact ne_of_types F20 FC (by decide) | omega) F20
          replace hG := hG.put hP ggc
          replace FC := FCx; clear FCx
          refine hold_region_end ?_
          exact K _ _ ⟨hG, FC, FQ, FN, FS, hRw, F20, hat.sub (AtE.cons rfl (AtE.cons rfl (AtE.cons rfl (AtE.cons rfl (AtE.cons rfl (AtE.cons rfl (AtE.cons rfl (AtE.cons rfl (AtE.cons rfl (AtE.cons rfl (AtE.cons rfl (AtE.cons rfl (AtE.cons rfl (AtE.nil))))))))))))))⟩
        · rcases hop with rfl | rfl
          · skip
            refine h_val noA hbk Times_22 rfl (opOk_eq (by kernel_rfl)) (by decide) hat (r_bool (t' := true) (r_eql rfl rfl) (by simp)) fun a hat => h_val noA hbk Times_22 rfl rfl (by decide) hat (r_move rfl) fun a hat => hg_no Times_22 rfl rfl rfl rfl (by decide) hat fun a hat => hg_no Times_22 rfl rfl rfl rfl (by decide) hat fun a hat => hg_no Times_22 rfl rfl rfl rfl (by decide) hat fun a hat => h_val noA hbk Times_22 rfl rfl (by decide) hat (r_pick rfl rfl) fun a hat => hold_region_end ?_
            exact K1 _ _ ⟨rfl, hat.sub (AtE.cons rfl (AtE.cons rfl (AtE.cons rfl (AtE.cons rfl (AtE.cons rfl (AtE.cons rfl (AtE.cons rfl (AtE.cons rfl (AtE.cons rfl (AtE.cons rfl (AtE.cons rfl (AtE.cons rfl (AtE.cons rfl (AtE.cons rfl (AtE.nil)))))))))))))))⟩
          · skip
            refine h_val noA hbk Times_22 rfl (opOk_eq (by kernel_rfl)) (by decide) hat (r_bool (t' := false) (r_eql rfl rfl) (by simp)) fun a hat => h_val noA hbk Times_22 rfl rfl (by decide) hat (r_move rfl) fun a hat => hg_yes noA hbk Times_22 rfl rfl rfl rfl (by decide) hat (r_field fk_46_2 rfl) fun a hat => hg_yes noA hbk Times_22 rfl rfl rfl rfl (by decide) hat (r_load ld_3 rfl (cell_at' F20)) fun a hat => hg_yes noA hbk Times_22 rfl rfl rfl (opOk_eq (by kernel_rfl)) (by decide) hat (r_bool (t' := true) (r_eql rfl rfl) (by simp)) fun a hat => h_val noA hbk Times_22 rfl rfl (by decide) hat (r_pick rfl rfl) fun a hat => hold_region_end ?_
            exact K1 _ _ ⟨rfl, hat.sub (AtE.cons rfl (AtE.cons rfl (AtE.cons rfl (AtE.cons rfl (AtE.cons rfl (AtE.cons rfl (AtE.cons rfl (AtE.cons rfl (AtE.cons rfl (AtE.cons rfl (AtE.cons rfl (AtE.cons rfl (AtE.cons rfl (AtE.cons rfl (AtE.nil)))))))))))))))⟩
      · skip
        refine h_val noA hbk Times_22 rfl (opOk_eq (by kernel_rfl)) (by decide) hat (r_bool (t' := false) (r_eql rfl rfl) (by simp [hop1])) fun a hat => h_val noA hbk Times_22 rfl rfl (by decide) hat (r_move rfl) fun a hat => hg_yes noA hbk Times_22 rfl rfl rfl rfl (by decide) hat (r_field fk_46_2 rfl) fun a hat => hg_yes noA hbk Times_22 rfl rfl rfl rfl (by decide) hat (r_load ld_3 rfl (cell_at' F20)) fun a hat => hg_yes noA hbk Times_22 rfl rfl rfl (opOk_eq (by kernel_rfl)) (by decide) hat (r_bool (t' := false) (r_eql rfl rfl) (by simp [hop2])) fun a hat => h_val noA hbk Times_22 rfl rfl (by decide) hat (r_pick rfl rfl) fun a hat => hold_region_end <| hold_condF (hat.eval (q := .tmp 93) rfl) rfl <| hold_skip ?_
        exact K _ _ ⟨hG, FC, FQ, FN, FS, hRw, F20, hat.sub (AtE.cons rfl (AtE.cons rfl (AtE.cons rfl (AtE.cons rfl (AtE.cons rfl (AtE.cons rfl (AtE.cons rfl (AtE.cons rfl (AtE.cons rfl (AtE.cons rfl (AtE.cons rfl (AtE.cons rfl (AtE.cons rfl (AtE.nil))))))))))))))⟩
    obtain ⟨hG, FC, FQ, FN, FS, hRw, F20, hat⟩ := hQ
    refine hold_seq <| hold_region (l := [0]) rfl <| h_val noA hbk Times_26 rfl rfl (by decide) hat (r_assign rfl) fun a hat => hold_region_end <| hold_seq <| hold_seq ?_
    refine hold_cut2 (fun a v => Grow u v ∧ v.heap[gc]? = some (.cells (rowF n fun j => .int .i64 (call' j : Nat)) 3 (0, 0)) ∧ v.heap[gq]? = some (.cells (rowF n fun j => .bool (St.quiet j)) 4 (0, 0)) ∧ v.heap[gn]? = some (.cells (rowF n fun j => .int .i64 (St.count j)) 3 (0, 0)) ∧
      v.heap[gs]? = some (.cells (rowF n svs) 22 (0, 0)) ∧ Rows2 v u.heap.size gc gn n svs St.seen ∧ v.heap[B20]? = some (.cells #[.int .i64 (t : Nat), .int .i64 cl, .int .i64 op, .int .i64 old, .int .i64 new] 46 (0, 0)) ∧ AtE 267 [] ((22, .int .i64 (opAt (L t) (call' t))) :: (21, .int .i64 (t : Nat)) :: (20, .pointer (some ⟨B20, 0, none⟩)) :: tE i St.total St.busy gc gs gq gn n (.slice (some ⟨BT, OT, none⟩) T.length cpT) (.slice (some ⟨BA, OA, none⟩) rs.length cpA) (.slice (some ⟨BS, OS, none⟩) n cpS) sh) a) (fun a v hQ => ?_) (fun K => ?_)
    rotate_left
    · refine hold_draw3 (ord := [0,1,2,3,4,5,6,7,8,9]) (bigs := []) mixed_ok (by kernel_rfl) (by kernel_rfl) hat <| tx_val noA hbk Times_27 rfl rfl (by decide) rfl (fun v hv => (r_move rfl)) <| tx_val noA hbk Times_27 rfl rfl (by decide) rfl (fun v hv => (r_move rfl)) <| tx_val noA hbk Times_27 rfl rfl (by decide) rfl (fun v hv => (r_index ix_22 rfl rfl (by omega) (by omega))) <| tx_val noA hbk Times_27 rfl rfl (by decide) rfl (fun v hv => (r_load ld_3 rfl (by rw [cell_at' (hv.at FC), zoff]; exact rowF_get htn))) <| tx_val noA hbk Times_27 rfl rfl (by decide) rfl (fun v hv => (r_move rfl)) <| tx_val noA hbk Times_27 rfl rfl (by decide) rfl (fun v hv => (r_move rfl)) <| tx_val noA hbk Times_27 rfl rfl (by decide) rfl (fun v hv => (r_index ix_32 rfl rfl (by omega) (by omega))) <| tx_val noA hbk Times_27 rfl rfl (by decide) rfl (fun v hv => (r_load ld_47 rfl (by simpa using grow_cell (hG.trans hv) hs1))) ?_
      refine tx_val noA hbk Times_27 rfl rfl (by decide) rfl (fun v hv => (r_len lk_47 rfl)) ?_
      have hop0 : ¬ call' t < (L t).length → opAt (L t) (call' t) = 0 := fun h => by unfold opAt; rw [List.getElem?_eq_none (by omega)]
      by_cases hc : call' t < (L t).length
      · refine tx_val noA hbk Times_27 rfl rfl (by decide) rfl (fun v hv => (r_bool (t' := true) (r_lss rfl rfl) (by simp; omega))) <| tx_end fun v a hv hat => ?_
        replace hG := hG.trans hv
        replace FC := hv.at FC
        replace FQ := hv.at FQ
        replace FN := hv.at FN
        replace FS := hv.at FS
        replace F20 := hv.at F20
        refine hold_region_end <| hold_condT (hat.eval (q := .tmp 131) rfl) rfl ?_
        obtain ⟨y, hy⟩ : ∃ y, (L t)[call' t]? = some y := ⟨(L t)[call' t], by simp⟩
        have hopy : opAt (L t) (call' t) = y.op := by unfold opAt; rw [hy]
        obtain ⟨BL, OL, rfl, hy1, hy2, hy3, hy4⟩ := hs2 _ y hy
        replace hRw := hRw.grow hv
        refine hold_draw3 (ord := [0,1,2,3,4,5,6,7,8,9,10,11]) (bigs := []) mixed_ok (by kernel_rfl) (by kernel_rfl) hat <| tx_val noA hbk Times_28 rfl rfl (by decide) rfl (fun v hv => (r_move rfl)) <| tx_val noA hbk Times_28 rfl rfl (by decide) rfl (fun v hv => (r_move rfl)) <| tx_val noA hbk Times_28 rfl rfl (by decide) rfl (fun v hv => (r_index ix_32 rfl rfl (by omega) (by omega))) <| tx_val noA hbk Times_28 rfl rfl (by decide) rfl (fun v hv => (r_load ld_47 rfl (by simpa using grow_cell (hG.trans hv) hs1))) <| tx_val noA hbk Times_28 rfl rfl (by decide) rfl (fun v hv => (r_move rfl)) <| tx_val noA hbk Times_28 rfl rfl (by decide) rfl (fun v hv => (r_move rfl)) <| tx_val noA hbk Times_28 rfl rfl (by decide) rfl (fun v hv => (r_index ix_22 rfl rfl (by omega) (by omega))) <| tx_val noA hbk Times_28 rfl rfl (by decide) rfl (fun v hv => (r_load ld_3 rfl (by rw [cell_at' (hv.at FC), zoff]; exact rowF_get htn))) ?_
        refine tx_val noA hbk Times_28 rfl rfl (by decide) rfl (fun v hv => (r_index ix_47 rfl rfl (by omega) (by omega))) <| tx_val noA hbk Times_28 rfl rfl (by decide) rfl (fun v hv => (r_field fk_50_0 rfl)) <| tx_val noA hbk Times_28 rfl rfl (by decide) rfl (fun v hv => (r_load ld_3 rfl (by simpa using grow_cell (hG.trans hv) hy1))) <| tx_val noA hbk Times_28 rfl rfl (by decide) rfl (fun v hv => (r_assign rfl)) <| tx_end fun v a hv hat => ?_
        replace hG := hG.trans hv
        replace FC := hv.at FC
        replace FQ := hv.at FQ
        replace FN := hv.at FN
        replace FS := hv.at FS
        replace F20 := hv.at F20
        refine hold_region_end ?_
        replace hRw := hRw.grow hv
        rw [hopy] at K
        exact K _ _ ⟨hG, FC, FQ, FN, FS, hRw, F20, hat.sub (AtE.cons rfl (AtE.cons rfl (AtE.cons rfl (AtE.cons rfl (AtE.cons rfl (AtE.cons rfl (AtE.cons rfl (AtE.cons rfl (AtE.cons rfl (AtE.cons rfl (AtE.cons rfl (AtE.cons rfl (AtE.cons rfl (AtE.cons rfl (AtE.nil)))))))))))))))⟩
      · skip
        refine tx_val noA hbk Times_27 rfl rfl (by decide) rfl (fun v hv => (r_bool (t' := false) (r_lss rfl rfl) (by simp; omega))) <| tx_end fun v a hv hat => ?_
        replace hG := hG.trans hv
        replace FC := hv.at FC
        replace FQ := hv.at FQ
        replace FN := hv.at FN
        replace FS := hv.at FS
        replace F20 := hv.at F20
        refine hold_region_end <| hold_condF (hat.eval (q := .tmp 131) rfl) rfl <| hold_skip ?_
        replace hRw := hRw.grow hv
        rw [hop0 hc] at K
        exact K _ _ ⟨hG, FC, FQ, FN, FS, hRw, F20, hat.sub (AtE.cons rfl (AtE.cons rfl (AtE.cons rfl (AtE.cons rfl (AtE.cons rfl (AtE.cons rfl (AtE.cons rfl (AtE.cons rfl (AtE.cons rfl (AtE.cons rfl (AtE.cons rfl (AtE.cons rfl (AtE.cons rfl (AtE.cons rfl (AtE.nil)))))))))))))))⟩
    obtain ⟨hG, FC, FQ, FN, FS, hRw, F20, hat⟩ := hQ
    generalize hopk : opAt (L t) (call' t) = opk at *
    obtain ⟨⟨hb1, hb2⟩, ⟨hb3, hb4⟩, hb5, hb6⟩ := hB
    refine hold_seq <| hold_region (l := [0,1]) rfl <| h_val noA hbk Times_29 rfl rfl (by decide) hat (r_field fk_46_2 rfl) fun a hat => h_val noA hbk Times_29 rfl rfl (by decide) hat (r_load ld_3 rfl (cell_at' F20)) fun a hat => hold_region_end <| hold_block <| hold_seq <| hold_region (l := [0,1]) rfl ?_
    rcases hcase with ⟨k', rfl, hk1, hk2, hcase⟩ | ⟨h9, h10, hS'⟩
    · have hcl : call' = fup St.call t k' := by
        rcases hcall with ⟨_, k2, e1, _, _, e2⟩ | ⟨e1, _⟩
        · have : k2 = k' := by omega
          rw [e2, this]
        · rcases hcase with ⟨e, _⟩ | ⟨e, _⟩
          · exact absurd e e1.1
          · exact absurd e e1.2
      have hopk' : opAt (L t) k' = opk := by rw [← hopk, hcl, fup_same]
      rw [hopk', ← hcl] at hcase
      rcases hcase with ⟨rfl, hS'⟩ | ⟨rfl, hE, hS'⟩
      · -- a call begins
        refine h_val noA hbk Times_30 rfl (opOk_eq (by kernel_rfl)) (by decide) hat (r_bool (t' := true) (r_eql rfl rfl) (by simp)) fun a hat => h_val noA hbk Times_30 rfl rfl (by decide) hat (r_assign rfl) fun a hat => hold_region_end <| hold_condT (hat.eval (q := .tmp 195) rfl) rfl <| hold_seq <| hold_seq <| hold_region (l := [0,1]) rfl <| h_val noA hbk Times_31 rfl rfl (by decide) hat (r_move rfl) fun a hat => ?_
        obtain ⟨bz, qz, hbz, hqz, hSz⟩ : ∃ (bz : Int) (qz : Nat → Bool), (bz = if opk = 1 then St.busy + 1 else St.busy) ∧ (qz = if opk = 1 then fun _ => false else St.quiet) ∧ S' = { St with call := call', busy := bz, quiet := fup qz t (bz == 0), count := fup St.count t 0, seen := fup St.seen t [St.total] } := by
          refine ⟨_, _, rfl, rfl, ?_⟩
          rw [hS']
          unfold TimeS.begin_
          by_cases e : opk = 1
          · simp only [if_pos e]
          · simp only [if_neg e]
        refine hold_cut2 (fun a v => Grow u v ∧ v.heap[gc]? = some (.cells (rowF n fun j => .int .i64 (call' j : Nat)) 3 (0, 0)) ∧ v.heap[gq]? = some (.cells (rowF n fun j => .bool (qz j)) 4 (0, 0)) ∧ v.heap[gn]? = some (.cells (rowF n fun j => .int .i64 (St.count j)) 3 (0, 0)) ∧ v.heap[gs]? = some (.cells (rowF n svs) 22 (0, 0)) ∧ Rows2 v u.heap.size gc gn n svs St.seen ∧ v.heap[B20]? = some (.cells #[.int .i64 (t : Nat), .int .i64 cl, .int .i64 9, .int .i64 (k' : Nat), .int .i64 new] 46 (0, 0)) ∧ AtE 267 [] ((22, .int .i64 opk) :: (21, .int .i64 (t : Nat)) :: (20, .pointer (some ⟨B20, 0, none⟩)) :: tE i St.total bz gc gs gq gn n (.slice (some ⟨BT, OT, none⟩) T.length cpT) (.slice (some ⟨BA, OA, none⟩) rs.length cpA) (.slice (some ⟨BS, OS, none⟩) n cpS) sh) a) (fun a v hQ => ?_) (fun K => ?_)
        rotate_left
        · by_cases e : opk = 1
          · rw [if_pos e] at hbz hqz
            subst hbz hqz
            refine h_val noA hbk Times_31 rfl (opOk_eq (by kernel_rfl)) (by decide) hat (r_bool (t' := true) (r_eql rfl rfl) (by simp [e])) fun a hat => hold_region_end <| hold_condT (hat.eval (q := .tmp 198) rfl) rfl <| hold_seq <| hold_region (l := [0,1,2]) rfl <| h_val noA hbk Times_32 rfl rfl (by decide) hat (r_move rfl) fun a hat => h_val noA hbk Times_32 rfl rfl (by decide) hat (r_add rfl rfl (by first | omega | (simp; omega))) fun a hat => h_val noA hbk Times_32 rfl rfl (by decide) hat (r_assign rfl) fun a hat => hold_region_end <| hold_seq <| hold_region (l := [0]) rfl <| h_val noA hbk Times_33 rfl rfl (by decide) hat (r_assign rfl) fun a hat => hold_region_end ?_
            refine hold_block <| hold_loop ?_
            refine Times_quiet hbk hn St.quiet (u := v) (fun v' a hP hat => ?_) n 0 _ _ (by omega) ⟨rfl, by rw [FQ]; simp, fun _ _ => rfl, fun h => h⟩ (hat.sub (AtE.cons rfl (AtE.cons rfl (AtE.cons rfl (AtE.cons rfl (AtE.cons rfl (AtE.cons rfl (AtE.cons rfl (AtE.cons rfl (AtE.cons rfl (AtE.cons rfl (AtE.cons rfl (AtE.cons rfl (AtE.cons rfl (AtE.cons rfl (AtE.cons rfl (AtE.nil)))))))))))))))))
            have hG' : Grow u v' := hG.put hP ggq
            replace FC := hP.keep (ne_of_types FC FQ (by decide)) FC
            replace FN := hP.keep (ne_of_types FN FQ (by decide)) FN
            replace FS := hP.keep (ne_of_types FS FQ (by decide)) FS
            replace F20 := hP.keep (ne_of_types F20 FQ (by decide)) F20
            replace hRw := hRw.put_t hP FQ (by decide)
            exact K _ _ ⟨hG', FC, hP.at_, FN, FS, hRw, F20, hat.sub (AtE.cons rfl (AtE.cons rfl (AtE.cons rfl (AtE.cons rfl (AtE.cons rfl (AtE.cons rfl (AtE.cons rfl (AtE.cons rfl (AtE.cons rfl (AtE.cons rfl (AtE.cons rfl (AtE.cons rfl (AtE.cons rfl (AtE.cons rfl (AtE.nil)))))))))))))))⟩
          · rw [if_neg e] at hbz hqz
            subst hbz hqz
            refine h_val noA hbk Times_31 rfl (opOk_eq (by kernel_rfl)) (by decide) hat (r_bool (t' := false) (r_eql rfl rfl) (by simp [e])) fun a hat => hold_region_end <| hold_condF (hat.eval (q := .tmp 198) rfl) rfl <| hold_skip ?_
            exact K _ _ ⟨hG, FC, FQ, FN, FS, hRw, F20, hat.sub (AtE.cons rfl (AtE.cons rfl (AtE.cons rfl (AtE.cons rfl (AtE.cons rfl (AtE.cons rfl (AtE.cons rfl (AtE.cons rfl (AtE.cons rfl (AtE.cons rfl (AtE.cons rfl (AtE.cons rfl (AtE.cons rfl (AtE.cons rfl (AtE.nil)))))))))))))))⟩
        obtain ⟨hG, FC, FQ, FN, FS, hRw, F20, hat⟩ := hQ
        refine hold_seq <| hold_region (l := [0,1,2,3,4,5]) rfl <| h_val noA hbk Times_37 rfl rfl (by decide) hat (r_move rfl) fun a hat => h_val noA hbk Times_37 rfl rfl (by decide) hat (r_move rfl) fun a hat => h_val noA hbk Times_37 rfl rfl (by decide) hat (r_move rfl) fun a hat => h_val noA hbk Times_37 rfl (opOk_eq (by kernel_rfl)) (by decide) hat (r_eql rfl rfl) fun a hat => h_val noA hbk Times_37 rfl rfl (by decide) hat (r_index ix_44 rfl rfl (by omega) (by omega)) fun a hat => h_put noA hbk Times_37 rfl rfl hat (p_store st_4 rfl rfl rfl FQ (x := .bool (qz t)) (by rw [zoff, rowF_get htn]) rfl) fun v a hP FQx hat => ?_
        rw [zoff, rowF_set] at FQx
        replace FQx : v.heap[gq]? = some (.cells (rowF n fun j => .bool (fup qz t (bz == 0) j)) 4 (0, 0)) := by
          rw [← fup_map qz t (bz == 0) fun z => .bool z]; exact FQx
        replace hRw := hRw.put_t hP FQ (by decide)
        replace FC := hP.keep (by first | exact n_FQ_FC | exact n_FC_FQ.symm | exact ne_of_types FC FQ (by decide) | omega) FC
        replace FN := hP.keep (by first | exact n_FQ_FN | exact n_FN_FQ.symm | exact ne_of_types FN FQ (by decide) | omega) FN
        replace FS := hP.keep (by first | exact n_FQ_FS | exact n_FS_FQ.symm | exact ne_of_types FS FQ (by decide) | omega) FS
        replace F20 := hP.keep (by first | exact n_FQ_F20 | exact n_F20_FQ.symm | exact ne_of_types F20 FQ (by decide) | omega) F20
        replace hG := hG.put hP ggq
        replace FQ := FQx; clear FQx
        refine hold_region_end <| hold_seq <| hold_region (l := [0,1,2,3]) rfl <| h_val noA hbk Times_38 rfl rfl (by decide) hat (r_move rfl) fun a hat => h_val noA hbk Times_38 rfl rfl (by decide) hat (r_move rfl) fun a hat => h_val noA hbk Times_38 rfl rfl (by decide) hat (r_index ix_22 rfl rfl (by omega) (by omega)) fun a hat => h_put noA hbk Times_38 rfl rfl hat (p_store st_3 rfl rfl rfl FN (x := .int .i64 (St.count t)) (by rw [zoff, rowF_get htn]) rfl) fun v a hP FNx hat => ?_
        rw [zoff, rowF_set] at FNx
        replace FNx : v.heap[gn]? = some (.cells (rowF n fun j => .int .i64 (fup St.count t 0 j)) 3 (0, 0)) := by
          rw [← fup_map St.count t 0 fun z => .int .i64 z]; exact FNx
        replace hRw := hRw.put hP fun j hj e => (hRw.new j hj _ e).2.2 rfl
        replace FC := hP.keep (by first | exact n_FN_FC | exact n_FC_FN.symm | exact ne_of_types FC FN (by decide) | omega) FC
        replace FQ := hP.keep (by first | exact n_FN_FQ | exact n_FQ_FN.symm | exact ne_of_types FQ FN (by decide) | omega) FQ
        replace FS := hP.keep (by first | exact n_FN_FS | exact n_FS_FN.symm | exact ne_of_types FS FN (by decide) | omega) FS
        replace F20 := hP.keep (by first | exact n_FN_F20 | exact n_F20_FN.symm | exact ne_of_types F20 FN (by decide) | omega) F20
        replace hG := hG.put hP ggn
        replace FN := FNx; clear FNx
        refine hold_region_end <| hold_region (l := [0,1,2,3,4,5]) rfl <| h_val noA hbk Times_39 rfl rfl (by decide) hat (r_move rfl) fun a hat => h_val noA hbk Times_39 rfl rfl (by decide) hat (r_move rfl) fun a hat => h_val noA hbk Times_39 rfl rfl (by decide) hat (r_move rfl) fun a hat => h_news noA hbk Times_39 rfl rfl (by decide) hat (bs_22_1_0 rfl rfl) fun v a B221 hB221 hsB221 hg F221 hat => ?_
        have n_F221_FC := ne_new FC hB221
        have n_F221_FQ := ne_new FQ hB221
        have n_F221_FN := ne_new FN hB221
        have n_F221_FS := ne_new FS hB221
        have n_F221_F20 := ne_new F20 hB221
        have gB221 := Nat.le_trans hG.size (Nat.le_of_eq hB221)
        replace hG := hG.trans hg
        replace FC := hg.at FC
        replace FQ := hg.at FQ
        replace FN := hg.at FN
        replace FS := hg.at FS
        replace F20 := hg.at F20
        have hRw1 := hRw.grow hg
        have hRw2 := hRw1.fresh (j := t) gB221 F221 n_F221_FC.symm n_F221_FN.symm fun j hj e => by have := own_lt (hRw.own j hj) e; omega
        refine h_val noA hbk Times_39 rfl rfl (by decide) hat (r_index ix_43 rfl rfl (by omega) (by omega)) fun a hat => h_put noA hbk Times_39 rfl rfl hat (p_store st_22 rfl rfl rfl FS (x := svs t) (by rw [zoff, rowF_get htn]) rfl) fun v a hP FSx hat => ?_
        rw [zoff, rowF_set] at FSx
        replace hRw2 := hRw2.put_t hP FS (by decide)
        replace FC := hP.keep (by first | exact n_FS_FC | exact n_FC_FS.symm | exact ne_of_types FC FS (by decide) | omega) FC
        replace FQ := hP.keep (by first | exact n_FS_FQ | exact n_FQ_FS.symm | exact ne_of_types FQ FS (by decide) | omega) FQ
        replace FN := hP.keep (by first | exact n_FS_FN | exact n_FN_FS.symm | exact ne_of_types FN FS (by decide) | omega) FN
        replace F20 := hP.keep (by first | exact n_FS_F20 | exact n_F20_FS.symm | exact ne_of_types F20 FS (by decide) | omega) F20
        replace F221 := hP.keep (by first | exact n_FS_F221 | exact n_F221_FS.symm | exact ne_of_types F221 FS (by decide) | omega) F221
        replace hG := hG.put hP ggs
        replace FS := FSx; clear FSx
        refine hold_region_end <| hold_inBlock <| hold_inBlock <| hold_region (l := [0,1,2]) rfl <| h_val noA hbk Times_52 rfl rfl (by decide) hat (r_move rfl) fun a hat => h_val noA hbk Times_52 rfl rfl (by decide) hat (r_add rfl rfl (by first | omega | (simp; omega))) fun a hat => h_val noA hbk Times_52 rfl rfl (by decide) hat (r_assign rfl) fun a hat => hold_region_end <| hold_inLoop ?_
        rw [hSz] at hf hB'
        exact ih (i + 1) _ _ _ _ (by omega) hf hB' hG FC FQ FN FS hRw2 (hat.sub (AtE.cons rfl (AtE.cons rfl (AtE.cons rfl (AtE.cons rfl (AtE.cons rfl (AtE.cons rfl (AtE.cons rfl (AtE.cons rfl (AtE.cons rfl (AtE.cons rfl (AtE.cons rfl (AtE.nil)))))))))))))
      · -- a call ends
        refine h_val noA hbk Times_30 rfl (opOk_eq (by kernel_rfl)) (by decide) hat (r_bool (t' := false) (r_eql rfl rfl) (by simp)) fun a hat => h_val noA hbk Times_30 rfl rfl (by decide) hat (r_assign rfl) fun a hat => hold_region_end <| hold_condF (hat.eval (q := .tmp 195) rfl) rfl <| hold_seq <| hold_region (l := [0,1]) rfl <| h_val noA hbk Times_40 rfl (opOk_eq (by kernel_rfl)) (by decide) hat (r_bool (t' := true) (r_eql rfl rfl) (by simp)) fun a hat => h_val noA hbk Times_40 rfl rfl (by decide) hat (r_assign rfl) fun a hat => hold_region_end <| hold_condT (hat.eval (q := .tmp 223) rfl) rfl <| hold_seq <| hold_seq <| hold_region (l := [0,1]) rfl ?_
        refine h_val noA hbk Times_41 rfl rfl (by decide) hat (r_move rfl) fun a hat => ?_
        obtain ⟨bz, hbz, hSz⟩ : ∃ bz : Int, (bz = if opk = 1 then St.busy - 1 else St.busy) ∧ S' = { St with call := call', busy := bz } := by
          refine ⟨_, rfl, ?_⟩
          rw [hS']
          by_cases e : opk = 1
          · simp only [if_pos e]
          · simp only [if_neg e]
        refine hold_cut2 (fun a v' => v' = v ∧ AtE 267 [] ((22, .int .i64 opk) :: (21, .int .i64 (t : Nat)) :: (20, .pointer (some ⟨B20, 0, none⟩)) :: tE i St.total bz gc gs gq gn n (.slice (some ⟨BT, OT, none⟩) T.length cpT) (.slice (some ⟨BA, OA, none⟩) rs.length cpA) (.slice (some ⟨BS, OS, none⟩) n cpS) sh) a) (fun a v' hQ => ?_) (fun K => ?_)
        rotate_left
        · by_cases e : opk = 1
          · rw [if_pos e] at hbz
            subst hbz
            refine h_val noA hbk Times_41 rfl (opOk_eq (by kernel_rfl)) (by decide) hat (r_bool (t' := true) (r_eql rfl rfl) (by simp [e])) fun a hat => hold_region_end <| hold_condT (hat.eval (q := .tmp 226) rfl) rfl <| hold_region (l := [0,1,2]) rfl <| h_val noA hbk Times_42 rfl rfl (by decide) hat (r_move rfl) fun a hat => h_val noA hbk Times_42 rfl rfl (by decide) hat (r_sub rfl rfl (by first | omega | (simp; omega))) fun a hat => h_val noA hbk Times_42 rfl rfl (by decide) hat (r_assign rfl) fun a hat => hold_region_end ?_
            exact K _ _ ⟨rfl, hat.sub (AtE.cons rfl (AtE.cons rfl (AtE.cons rfl (AtE.cons rfl (AtE.cons rfl (AtE.cons rfl (AtE.cons rfl (AtE.cons rfl (AtE.cons rfl (AtE.cons rfl (AtE.cons rfl (AtE.cons rfl (AtE.cons rfl (AtE.cons rfl (AtE.nil)))))))))))))))⟩
          · rw [if_neg e] at hbz
            subst hbz
            refine h_val noA hbk Times_41 rfl (opOk_eq (by kernel_rfl)) (by decide) hat (r_bool (t' := false) (r_eql rfl rfl) (by simp [e])) fun a hat => hold_region_end <| hold_condF (hat.eval (q := .tmp 226) rfl) rfl <| hold_skip ?_
            exact K _ _ ⟨rfl, hat.sub (AtE.cons rfl (AtE.cons rfl (AtE.cons rfl (AtE.cons rfl (AtE.cons rfl (AtE.cons rfl (AtE.cons rfl (AtE.cons rfl (AtE.cons rfl (AtE.cons rfl (AtE.cons rfl (AtE.cons rfl (AtE.cons rfl (AtE.cons rfl (AtE.nil)))))))))))))))⟩
        obtain ⟨rfl, hat⟩ := hQ
        refine hold_seq <| hold_draw3 (ord := [0,1,2,3,4,5,6,7,8,9,10,11,12,13,14,15,16,17,18,19,20,21,22,23,24,25,26,27,28,29,30,31,32,33,34,35,36,37]) (bigs := []) mixed_ok (by kernel_rfl) (by kernel_rfl) hat <| tx_val noA hbk Times_43 rfl rfl (by decide) rfl (fun v hv => (r_move rfl)) ?_
        have hR43 : ∀ v a, Grow u v → v.heap[gc]? = some (.cells (rowF n fun j => .int .i64 (call' j : Nat)) 3 (0, 0)) → v.heap[gq]? = some (.cells (rowF n fun j => .bool (St.quiet j)) 4 (0, 0)) → v.heap[gn]? = some (.cells (rowF n fun j => .int .i64 (St.count j)) 3 (0, 0)) → v.heap[gs]? = some (.cells (rowF n svs) 22 (0, 0)) → Rows2 v u.heap.size gc gn n svs St.seen → AtE 267 [] (tE ((i + 1 : Nat) : Int) St.total bz gc gs gq gn n (.slice (some ⟨BT, OT, none⟩) T.length cpT) (.slice (some ⟨BA, OA, none⟩) rs.length cpA) (.slice (some ⟨BS, OS, none⟩) n cpS) sh) a →
            Hold Try.prog main S Stop (G (b.at a (.code Times_L0 :: .inLoop Times_L0 :: .inBlock 0 :: k)) cs) v := fun v a g1 g2 g3 g4 g5 g6 g7 => by
          rw [hSz] at hf hB'
          exact ih (i + 1) _ _ _ _ (by omega) hf hB' g1 g2 g3 g4 g5 g6 g7
        by_cases h2 : opk = 2
        · obtain ⟨rr, hrr, hrs', hq⟩ := hE h2
          obtain ⟨BR, OR, rfl, hr1, hr2⟩ := ha2 k' rr hrr
          refine tx_val noA hbk Times_43 rfl (opOk_eq (by kernel_rfl)) (by decide) rfl (fun v hv => (r_bool (t' := true) (r_eql rfl rfl) (by simp [h2]))) <| tx_val noA hbk Times_43 rfl rfl (by decide) rfl (fun v hv => (r_move rfl)) <| tx_yes noA hbk Times_43 rfl rfl (by decide) rfl rfl rfl (fun v hv => (r_move rfl)) <| tx_yes noA hbk Times_43 rfl rfl (by decide) rfl rfl rfl (fun v hv => (r_move rfl)) <| tx_yes noA hbk Times_43 rfl rfl (by decide) rfl rfl rfl (fun v hv => (r_index ix_43 rfl rfl (by omega) (by omega))) <| tx_yes noA hbk Times_43 rfl rfl (by decide) rfl rfl rfl (fun v hv => (r_load ld_22 rfl (by rw [cell_at' (hv.at FS), zoff]; exact rowF_get htn))) <| tx_yes noA hbk Times_43 rfl rfl (by decide) rfl rfl rfl (fun v hv => (r_move rfl)) <| tx_yes noA hbk Times_43 rfl rfl (by decide) rfl rfl rfl (fun v hv => (r_move rfl)) <| tx_yes noA hbk Times_43 rfl rfl (by decide) rfl rfl rfl (fun v hv => (r_index ix_35 rfl rfl (by omega) (by omega))) ?_
          refine tx_yes noA hbk Times_43 rfl rfl (by decide) rfl rfl rfl (fun v hv => (r_load ld_48 rfl (by simpa using grow_cell (hG.trans hv) ha1))) <| tx_yes noA hbk Times_43 rfl rfl (by decide) rfl rfl rfl (fun v hv => (r_field fk_46_3 rfl)) <| tx_yes noA hbk Times_43 rfl rfl (by decide) rfl rfl rfl (fun v hv => (r_load ld_3 rfl (cell_at' (hv.at F20)))) <| tx_yes noA hbk Times_43 rfl rfl (by decide) rfl rfl rfl (fun v hv => (r_index ix_48 rfl rfl (by omega) (by omega))) <| tx_yes noA hbk Times_43 rfl rfl (by decide) rfl rfl rfl (fun v hv => (r_field fk_53_1 rfl)) <| tx_yes noA hbk Times_43 rfl rfl (by decide) rfl rfl rfl (fun v hv => (r_load ld_3 rfl (by simpa using grow_cell (hG.trans hv) hr2))) ?_
          have hsx := hb6 t
          refine tx_yes_call hbk Times_43 rfl rfl rfl rfl (by decide) within_fn within_bd within_nm (vals := #[_, _]) rfl (fun v c cs hv K => within_hold (intsAt_own (owns_grow (hRw.own t htn) hv)) (Nat.lt_of_le_of_lt hsx (by omega)) hrs' (K _ (Grow.refl _))) <| tx_yes noA hbk Times_43 rfl rfl (by decide) rfl rfl rfl (fun v hv => (r_not rfl)) <| tx_val noA hbk Times_43 rfl rfl (by decide) rfl (fun v hv => (r_pick rfl rfl)) <| tx_val noA hbk Times_43 rfl rfl (by decide) rfl (fun v hv => (r_move rfl)) <| tx_yes noA hbk Times_43 rfl rfl (by decide) rfl rfl rfl (fun v hv => (r_move rfl)) <| tx_yes noA hbk Times_43 rfl (opOk_eq (by kernel_rfl)) (by decide) rfl rfl rfl (fun v hv => (r_bool (t' := true) (r_eql rfl rfl) (by simp [h2]))) <| tx_yes noA hbk Times_43 rfl rfl (by decide) rfl rfl rfl (fun v hv => (r_move rfl)) <| tx_yes noA hbk Times_43 rfl rfl (by decide) rfl rfl rfl (fun v hv => (r_move rfl)) ?_
          refine tx_yes noA hbk Times_43 rfl rfl (by decide) rfl rfl rfl (fun v hv => (r_move rfl)) <| tx_yes noA hbk Times_43 rfl rfl (by decide) rfl rfl rfl (fun v hv => (r_index ix_44 rfl rfl (by omega) (by omega))) ?_
          cases hqt : St.quiet t with
          | true =>
            refine tx_yes noA hbk Times_43 rfl rfl (by decide) rfl rfl rfl (fun v hv => (r_load ld_4 rfl (by rw [cell_at' (hv.at FQ), zoff, rowF_get htn, hqt]))) <| tx_yes noA hbk Times_43 rfl rfl (by decide) rfl rfl rfl (fun v hv => (r_pick rfl rfl)) <| tx_yes noA hbk Times_43 rfl rfl (by decide) rfl rfl rfl (fun v hv => (r_move rfl)) <| tx_yes noA hbk Times_43 rfl rfl (by decide) rfl rfl rfl (fun v hv => (r_move rfl)) <| tx_yes noA hbk Times_43 rfl rfl (by decide) rfl rfl rfl (fun v hv => (r_move rfl)) <| tx_yes noA hbk Times_43 rfl rfl (by decide) rfl rfl rfl (fun v hv => (r_index ix_22 rfl rfl (by omega) (by omega))) <| tx_yes noA hbk Times_43 rfl rfl (by decide) rfl rfl rfl (fun v hv => (r_load ld_3 rfl (by rw [cell_at' (hv.at FN), zoff]; exact rowF_get htn))) <| tx_yes noA hbk Times_43 rfl rfl (by decide) rfl rfl rfl (fun v hv => (r_move rfl)) <| tx_yes noA hbk Times_43 rfl rfl (by decide) rfl rfl rfl (fun v hv => (r_int (r_mulw rfl rfl) (show IntKind.i64.wrap (2 * sh) = 2 * sh by rw [IntKind.wrap_i64]; omega))) ?_
            refine tx_yes noA hbk Times_43 rfl (opOk_eq (by kernel_rfl)) (by decide) rfl rfl rfl (fun v hv => (r_bool (t' := false) (r_neq rfl rfl) (by have := hq hqt; simp only at this; simp [this]))) <| tx_yes noA hbk Times_43 rfl rfl (by decide) rfl rfl rfl (fun v hv => (r_pick rfl rfl)) <| tx_val noA hbk Times_43 rfl rfl (by decide) rfl (fun v hv => (r_pick rfl rfl)) <| tx_end fun v a hv hat => ?_
            replace hG := hG.trans hv
            replace FC := hv.at FC
            replace FQ := hv.at FQ
            replace FN := hv.at FN
            replace FS := hv.at FS
            replace F20 := hv.at F20
            refine hold_region_end <| hold_condF (hat.eval (q := .tmp 266) rfl) rfl <| hold_skip <| hold_inBlock <| hold_inBlock <| hold_region (l := [0,1,2]) rfl <| h_val noA hbk Times_52 rfl rfl (by decide) hat (r_move rfl) fun a hat => h_val noA hbk Times_52 rfl rfl (by decide) hat (r_add rfl rfl (by first | omega | (simp; omega))) fun a hat => h_val noA hbk Times_52 rfl rfl (by decide) hat (r_assign rfl) fun a hat => hold_region_end <| hold_inLoop ?_
            exact hR43 _ _ hG FC FQ FN FS (hRw.grow hv) (hat.sub (AtE.cons rfl (AtE.cons rfl (AtE.cons rfl (AtE.cons rfl (AtE.cons rfl (AtE.cons rfl (AtE.cons rfl (AtE.cons rfl (AtE.cons rfl (AtE.cons rfl (AtE.cons rfl (AtE.nil)))))))))))))
          | false =>
            refine tx_yes noA hbk Times_43 rfl rfl (by decide) rfl rfl rfl (fun v hv => (r_load ld_4 rfl (by rw [cell_at' (hv.at FQ), zoff, rowF_get htn, hqt]))) <| tx_yes noA hbk Times_43 rfl rfl (by decide) rfl rfl rfl (fun v hv => (r_pick rfl rfl)) <| tx_yes noA hbk Times_43 rfl rfl (by decide) rfl rfl rfl (fun v hv => (r_move rfl)) <| tx_no Times_43 rfl (by decide) rfl rfl rfl rfl <| tx_no Times_43 rfl (by decide) rfl rfl rfl rfl <| tx_no Times_43 rfl (by decide) rfl rfl rfl rfl <| tx_no Times_43 rfl (by decide) rfl rfl rfl rfl <| tx_no Times_43 rfl (by decide) rfl rfl rfl rfl <| tx_no Times_43 rfl (by decide) rfl rfl rfl rfl <| tx_no Times_43 rfl (by decide) rfl rfl rfl rfl <| tx_yes noA hbk Times_43 rfl rfl (by decide) rfl rfl rfl (fun v hv => (r_pick rfl rfl)) <| tx_val noA hbk Times_43 rfl rfl (by decide) rfl (fun v hv => (r_pick rfl rfl)) <| tx_end fun v a hv hat => ?_
            replace hG := hG.trans hv
            replace FC := hv.at FC
            replace FQ := hv.at FQ
            replace FN := hv.at FN
            replace FS := hv.at FS
            replace F20 := hv.at F20
            refine hold_region_end <| hold_condF (hat.eval (q := .tmp 266) rfl) rfl <| hold_skip <| hold_inBlock <| hold_inBlock <| hold_region (l := [0,1,2]) rfl <| h_val noA hbk Times_52 rfl rfl (by decide) hat (r_move rfl) fun a hat => h_val noA hbk Times_52 rfl rfl (by decide) hat (r_add rfl rfl (by first | omega | (simp; omega))) fun a hat => h_val noA hbk Times_52 rfl rfl (by decide) hat (r_assign rfl) fun a hat => hold_region_end <| hold_inLoop ?_
            exact hR43 _ _ hG FC FQ FN FS (hRw.grow hv) (hat.sub (AtE.cons rfl (AtE.cons rfl (AtE.cons rfl (AtE.cons rfl (AtE.cons rfl (AtE.cons rfl (AtE.cons rfl (AtE.cons rfl (AtE.cons rfl (AtE.cons rfl (AtE.cons rfl (AtE.nil)))))))))))))
        · skip
          refine tx_val noA hbk Times_43 rfl (opOk_eq (by kernel_rfl)) (by decide) rfl (fun v hv => (r_bool (t' := false) (r_eql rfl rfl) (by simp [h2]))) <| tx_val noA hbk Times_43 rfl rfl (by decide) rfl (fun v hv => (r_move rfl)) <| tx_no Times_43 rfl (by decide) rfl rfl rfl rfl <| tx_no Times_43 rfl (by decide) rfl rfl rfl rfl <| tx_no Times_43 rfl (by decide) rfl rfl rfl rfl <| tx_no Times_43 rfl (by decide) rfl rfl rfl rfl <| tx_no Times_43 rfl (by decide) rfl rfl rfl rfl <| tx_no Times_43 rfl (by decide) rfl rfl rfl rfl <| tx_no Times_43 rfl (by decide) rfl rfl rfl rfl <| tx_no Times_43 rfl (by decide) rfl rfl rfl rfl <| tx_no Times_43 rfl (by decide) rfl rfl rfl rfl <| tx_no Times_43 rfl (by decide) rfl rfl rfl rfl <| tx_no Times_43 rfl (by decide) rfl rfl rfl rfl ?_
          refine tx_no Times_43 rfl (by decide) rfl rfl rfl rfl <| tx_no Times_43 rfl (by decide) rfl rfl rfl rfl <| tx_no Times_43 rfl (by decide) rfl rfl rfl rfl <| tx_no Times_43 rfl (by decide) rfl rfl rfl rfl <| tx_val noA hbk Times_43 rfl rfl (by decide) rfl (fun v hv => (r_pick rfl rfl)) <| tx_val noA hbk Times_43 rfl rfl (by decide) rfl (fun v hv => (r_move rfl)) <| tx_yes noA hbk Times_43 rfl rfl (by decide) rfl rfl rfl (fun v hv => (r_move rfl)) <| tx_yes noA hbk Times_43 rfl (opOk_eq (by kernel_rfl)) (by decide) rfl rfl rfl (fun v hv => (r_bool (t' := false) (r_eql rfl rfl) (by simp [h2]))) <| tx_yes noA hbk Times_43 rfl rfl (by decide) rfl rfl rfl (fun v hv => (r_move rfl)) <| tx_no Times_43 rfl (by decide) rfl rfl rfl rfl <| tx_no Times_43 rfl (by decide) rfl rfl rfl rfl <| tx_no Times_43 rfl (by decide) rfl rfl rfl rfl <| tx_no Times_43 rfl (by decide) rfl rfl rfl rfl ?_
          refine tx_yes noA hbk Times_43 rfl rfl (by decide) rfl rfl rfl (fun v hv => (r_pick rfl rfl)) <| tx_yes noA hbk Times_43 rfl rfl (by decide) rfl rfl rfl (fun v hv => (r_move rfl)) <| tx_no Times_43 rfl (by decide) rfl rfl rfl rfl <| tx_no Times_43 rfl (by decide) rfl rfl rfl rfl <| tx_no Times_43 rfl (by decide) rfl rfl rfl rfl <| tx_no Times_43 rfl (by decide) rfl rfl rfl rfl <| tx_no Times_43 rfl (by decide) rfl rfl rfl rfl <| tx_no Times_43 rfl (by decide) rfl rfl rfl rfl <| tx_no Times_43 rfl (by decide) rfl rfl rfl rfl <| tx_yes noA hbk Times_43 rfl rfl (by decide) rfl rfl rfl (fun v hv => (r_pick rfl rfl)) <| tx_val noA hbk Times_43 rfl rfl (by decide) rfl (fun v hv => (r_pick rfl rfl)) <| tx_end fun v a hv hat => ?_
          replace hG := hG.trans hv
          replace FC := hv.at FC
          replace FQ := hv.at FQ
          replace FN := hv.at FN
          replace FS := hv.at FS
          replace F20 := hv.at F20
          refine hold_region_end <| hold_condF (hat.eval (q := .tmp 266) rfl) rfl <| hold_skip <| hold_inBlock <| hold_inBlock <| hold_region (l := [0,1,2]) rfl <| h_val noA hbk Times_52 rfl rfl (by decide) hat (r_move rfl) fun a hat => h_val noA hbk Times_52 rfl rfl (by decide) hat (r_add rfl rfl (by first | omega | (simp; omega))) fun a hat => h_val noA hbk Times_52 rfl rfl (by decide) hat (r_assign rfl) fun a hat => hold_region_end <| hold_inLoop ?_
          exact hR43 _ _ hG FC FQ FN FS (hRw.grow hv) (hat.sub (AtE.cons rfl (AtE.cons rfl (AtE.cons rfl (AtE.cons rfl (AtE.cons rfl (AtE.cons rfl (AtE.cons rfl (AtE.cons rfl (AtE.cons rfl (AtE.cons rfl (AtE.cons rfl (AtE.nil)))))))))))))
    · -- a step
      have hcl : call' = St.call := by
        rcases hcall with ⟨e, _⟩ | ⟨_, e⟩
        · rcases e with e | e
          · exact absurd e h9
          · exact absurd e h10
        · exact e
      rw [← hcl, hopk] at hS'
      refine h_val noA hbk Times_30 rfl (opOk_eq (by kernel_rfl)) (by decide) hat (r_bool (t' := false) (r_eql rfl rfl) (by simp [h9])) fun a hat => h_val noA hbk Times_30 rfl rfl (by decide) hat (r_assign rfl) fun a hat => hold_region_end <| hold_condF (hat.eval (q := .tmp 195) rfl) rfl <| hold_seq <| hold_region (l := [0,1]) rfl <| h_val noA hbk Times_40 rfl (opOk_eq (by kernel_rfl)) (by decide) hat (r_bool (t' := false) (r_eql rfl rfl) (by simp [h10])) fun a hat => h_val noA hbk Times_40 rfl rfl (by decide) hat (r_assign rfl) fun a hat => hold_region_end <| hold_condF (hat.eval (q := .tmp 223) rfl) rfl <| hold_seq <| hold_region (l := [0,1,2,3,4,5,6]) rfl <| h_val noA hbk Times_45 rfl rfl (by decide) hat (r_move rfl) fun a hat => ?_
      refine h_val noA hbk Times_45 rfl rfl (by decide) hat (r_move rfl) fun a hat => h_val noA hbk Times_45 rfl rfl (by decide) hat (r_index ix_22 rfl rfl (by omega) (by omega)) fun a hat => h_val noA hbk Times_45 rfl rfl (by decide) hat (r_load ld_3 rfl (by rw [cell_at' FN, zoff]; exact rowF_get htn)) fun a hat => ?_
      have hct := hb5 t
      refine h_val noA hbk Times_45 rfl rfl (by decide) hat (r_add rfl rfl (by first | omega | (simp; omega))) fun a hat => h_val noA hbk Times_45 rfl rfl (by decide) hat (r_index ix_22 rfl rfl (by omega) (by omega)) fun a hat => h_put noA hbk Times_45 rfl rfl hat (p_store st_3 rfl rfl rfl FN (x := .int .i64 (St.count t)) (by rw [zoff, rowF_get htn]) rfl) fun v a hP FNx hat => ?_
      rw [zoff, rowF_set] at FNx
      replace FNx : v.heap[gn]? = some (.cells (rowF n fun j => .int .i64 (fup St.count t (St.count t + 1) j)) 3 (0, 0)) := by
        rw [← fup_map St.count t (St.count t + 1) fun z => .int .i64 z]; exact FNx
      replace hRw := hRw.put hP fun j hj e => (hRw.new j hj _ e).2.2 rfl
      replace FC := hP.keep (by first | exact n_FN_FC | exact n_FC_FN.symm | exact ne_of_types FC FN (by decide) | omega) FC
      replace FQ := hP.keep (by first | exact n_FN_FQ | exact n_FQ_FN.symm | exact ne_of_types FQ FN (by decide) | omega) FQ
      replace FS := hP.keep (by first | exact n_FN_FS | exact n_FS_FN.symm | exact ne_of_types FS FN (by decide) | omega) FS
      replace F20 := hP.keep (by first | exact n_FN_F20 | exact n_F20_FN.symm | exact ne_of_types F20 FN (by decide) | omega) F20
      replace hG := hG.put hP ggn
      replace FN := FNx; clear FNx
      refine hold_region_end <| hold_seq <| hold_region (l := [0,1,2,3,4,5,6,7,8,9,10,11,12,13]) rfl <| h_val noA hbk Times_46 rfl rfl (by decide) hat (r_field fk_46_2 rfl) fun a hat => h_val noA hbk Times_46 rfl rfl (by decide) hat (r_load ld_3 rfl (cell_at' F20)) fun a hat => ?_
      have hR : ∀ v a svs, Grow u v → v.heap[gc]? = some (.cells (rowF n fun j => .int .i64 (S'.call j : Nat)) 3 (0, 0)) → v.heap[gq]? = some (.cells (rowF n fun j => .bool (S'.quiet j)) 4 (0, 0)) → v.heap[gn]? = some (.cells (rowF n fun j => .int .i64 (S'.count j)) 3 (0, 0)) → v.heap[gs]? = some (.cells (rowF n svs) 22 (0, 0)) → Rows2 v u.heap.size gc gn n svs S'.seen → AtE 267 [] (tE ((i + 1 : Nat) : Int) S'.total S'.busy gc gs gq gn n (.slice (some ⟨BT, OT, none⟩) T.length cpT) (.slice (some ⟨BA, OA, none⟩) rs.length cpA) (.slice (some ⟨BS, OS, none⟩) n cpS) sh) a →
          Hold Try.prog main S Stop (G (b.at a (.code Times_L0 :: .inLoop Times_L0 :: .inBlock 0 :: k)) cs) v := fun v a svs g1 g2 g3 g4 g5 g6 g7 => ih (i + 1) _ _ _ _ (by omega) hf hB' g1 g2 g3 g4 g5 g6 g7
      clear ih
      by_cases hc : op = 4 ∧ opk = 1 ∧ new ≠ old
      · obtain ⟨c1, c2, c3⟩ := hc
        have hSz : S' = { St with count := fup St.count t (St.count t + 1), total := St.total + (aAt (L t) (call' t)).tmod 1000, seen := fun k => St.seen k ++ [St.total + (aAt (L t) (call' t)).tmod 1000] } := by
          rw [hS']; unfold TimeS.step_; rw [if_pos ⟨c1, c2, c3⟩]
        have hcl2 : call' t < (L t).length := by
          refine Classical.byContradiction fun h => ?_
          rw [c2] at hopk
          unfold opAt at hopk
          rw [List.getElem?_eq_none (by omega)] at hopk
          cases hopk
        obtain ⟨y, hy⟩ : ∃ y, (L t)[call' t]? = some y := ⟨(L t)[call' t], by simp⟩
        have hay : aAt (L t) (call' t) = y.a := by unfold aAt; rw [hy]
        obtain ⟨BL, OL, rfl, hy1, hy2, hy3, hy4⟩ := hs2 _ y hy
        have ht1' := Int.tmod_lt_of_pos y.a (show (0 : Int) < 1000 by omega)
        have ht2' : -1000 < y.a.tmod 1000 := Int.lt_tmod_of_pos y.a (by omega)
        refine h_val noA hbk Times_46 rfl (opOk_eq (by kernel_rfl)) (by decide) hat (r_bool (t' := true) (r_eql rfl rfl) (by simp [c1])) fun a hat => h_val noA hbk Times_46 rfl rfl (by decide) hat (r_move rfl) fun a hat => hg_yes noA hbk Times_46 rfl rfl rfl rfl (by decide) hat (r_move rfl) fun a hat => hg_yes noA hbk Times_46 rfl rfl rfl (opOk_eq (by kernel_rfl)) (by decide) hat (r_bool (t' := true) (r_eql rfl rfl) (by simp [c2])) fun a hat => h_val noA hbk Times_46 rfl rfl (by decide) hat (r_pick rfl rfl) fun a hat => h_val noA hbk Times_46 rfl rfl (by decide) hat (r_move rfl) fun a hat => hg_yes noA hbk Times_46 rfl rfl rfl rfl (by decide) hat (r_field fk_46_4 rfl) fun a hat => hg_yes noA hbk Times_46 rfl rfl rfl rfl (by decide) hat (r_load ld_3 rfl (cell_at' F20)) fun a hat => hg_yes noA hbk Times_46 rfl rfl rfl rfl (by decide) hat (r_field fk_46_3 rfl) fun a hat => hg_yes noA hbk Times_46 rfl rfl rfl rfl (by decide) hat (r_load ld_3 rfl (cell_at' F20)) fun a hat => ?_
        refine hg_yes noA hbk Times_46 rfl rfl rfl (opOk_eq (by kernel_rfl)) (by decide) hat (r_bool (t' := true) (r_neq rfl rfl) (by simp; exact c3)) fun a hat => h_val noA hbk Times_46 rfl rfl (by decide) hat (r_pick rfl rfl) fun a hat => hold_region_end <| hold_condT (hat.eval (q := .tmp 164) rfl) rfl <| hold_seq <| hold_draw3 (ord := [0,1,2,3,4,5,6,7,8,9,10,11,12,13,14]) (bigs := []) mixed_ok (by kernel_rfl) (by kernel_rfl) hat <| tx_val noA hbk Times_47 rfl rfl (by decide) rfl (fun v hv => (r_move rfl)) <| tx_val noA hbk Times_47 rfl rfl (by decide) rfl (fun v hv => (r_move rfl)) <| tx_val noA hbk Times_47 rfl rfl (by decide) rfl (fun v hv => (r_move rfl)) <| tx_val noA hbk Times_47 rfl rfl (by decide) rfl (fun v hv => (r_index ix_32 rfl rfl (by omega) (by omega))) <| tx_val noA hbk Times_47 rfl rfl (by decide) rfl (fun v hv => (r_load ld_47 rfl (by simpa using grow_cell (hG.trans hv) hs1))) ?_
        refine tx_val noA hbk Times_47 rfl rfl (by decide) rfl (fun v hv => (r_move rfl)) <| tx_val noA hbk Times_47 rfl rfl (by decide) rfl (fun v hv => (r_move rfl)) <| tx_val noA hbk Times_47 rfl rfl (by decide) rfl (fun v hv => (r_index ix_22 rfl rfl (by omega) (by omega))) <| tx_val noA hbk Times_47 rfl rfl (by decide) rfl (fun v hv => (r_load ld_3 rfl (by rw [cell_at' (hv.at FC), zoff]; exact rowF_get htn))) <| tx_val noA hbk Times_47 rfl rfl (by decide) rfl (fun v hv => (r_index ix_47 rfl rfl (by omega) (by omega))) <| tx_val noA hbk Times_47 rfl rfl (by decide) rfl (fun v hv => (r_field fk_50_1 rfl)) <| tx_val noA hbk Times_47 rfl rfl (by decide) rfl (fun v hv => (r_load ld_3 rfl (by simpa using grow_cell (hG.trans hv) hy2))) <| tx_val noA hbk Times_47 rfl rfl (by decide) rfl (fun v hv => (r_rem rfl rfl (by omega))) <| tx_val noA hbk Times_47 rfl rfl (by decide) rfl (fun v hv => (r_add rfl rfl (by first | omega | (simp; omega)))) ?_
        refine tx_val noA hbk Times_47 rfl rfl (by decide) rfl (fun v hv => (r_assign rfl)) <| tx_end fun v a hv hat => ?_
        replace hG := hG.trans hv
        replace FC := hv.at FC
        replace FQ := hv.at FQ
        replace FN := hv.at FN
        replace FS := hv.at FS
        replace F20 := hv.at F20
        refine hold_region_end <| hold_seq <| hold_region (l := [0]) rfl <| h_val noA hbk Times_48 rfl rfl (by decide) hat (r_assign rfl) fun a hat => hold_region_end <| hold_block ?_
        replace hRw := hRw.grow hv
        rw [hay] at hSz
        refine hold_loop ?_
        refine Times_seen hbk hn St.seen (fun j => Nat.le_trans (hb6 j) (by omega)) hr ggs (lt_of_heap FC) (lt_of_heap FN) (fun v' a svs' hG' hK FS' hRw' hat => ?_) n 0 v _ svs (by omega) hG (Nat.le_refl _) (KB.refl _ _ _ _) FS (by simpa using hRw) (hat.sub (AtE.cons rfl (AtE.cons rfl (AtE.cons rfl (AtE.cons rfl (AtE.cons rfl (AtE.cons rfl (AtE.cons rfl (AtE.cons rfl (AtE.cons rfl (AtE.cons rfl (AtE.cons rfl (AtE.cons rfl (AtE.cons rfl (AtE.cons rfl (AtE.cons rfl (AtE.nil)))))))))))))))))
        have FC' := hK _ _ _ _ FC (.inr (.inl rfl)) (ne_of_types FC FS (by decide))
        have FN' := hK _ _ _ _ FN (.inr (.inr rfl)) (ne_of_types FN FS (by decide))
        have FQ' := hK _ _ _ _ FQ (.inl (by decide)) (ne_of_types FQ FS (by decide))
        refine hold_inBlock <| hold_inBlock <| hold_region (l := [0,1,2]) rfl <| h_val noA hbk Times_52 rfl rfl (by decide) hat (r_move rfl) fun a hat => h_val noA hbk Times_52 rfl rfl (by decide) hat (r_add rfl rfl (by first | omega | (simp; omega))) fun a hat => h_val noA hbk Times_52 rfl rfl (by decide) hat (r_assign rfl) fun a hat => hold_region_end <| hold_inLoop ?_
        subst hSz
        exact hR _ _ _ hG' (by rw [← hcl]; exact FC') FQ' FN' FS' hRw' (hat.sub (AtE.cons rfl (AtE.cons rfl (AtE.cons rfl (AtE.cons rfl (AtE.cons rfl (AtE.cons rfl (AtE.cons rfl (AtE.cons rfl (AtE.cons rfl (AtE.cons rfl (AtE.cons rfl (AtE.nil)))))))))))))
      · have hSz : S' = { St with count := fup St.count t (St.count t + 1) } := by
          rw [hS']; unfold TimeS.step_; rw [if_neg hc]
        subst hSz
        rw [hcl] at FC
        by_cases c1 : op = 4
        · by_cases c2 : opk = 1
          · skip
            refine h_val noA hbk Times_46 rfl (opOk_eq (by kernel_rfl)) (by decide) hat (r_bool (t' := true) (r_eql rfl rfl) (by simp [c1])) fun a hat => h_val noA hbk Times_46 rfl rfl (by decide) hat (r_move rfl) fun a hat => hg_yes noA hbk Times_46 rfl rfl rfl rfl (by decide) hat (r_move rfl) fun a hat => hg_yes noA hbk Times_46 rfl rfl rfl (opOk_eq (by kernel_rfl)) (by decide) hat (r_bool (t' := true) (r_eql rfl rfl) (by simp [c2])) fun a hat => h_val noA hbk Times_46 rfl rfl (by decide) hat (r_pick rfl rfl) fun a hat => h_val noA hbk Times_46 rfl rfl (by decide) hat (r_move rfl) fun a hat => hg_yes noA hbk Times_46 rfl rfl rfl rfl (by decide) hat (r_field fk_46_4 rfl) fun a hat => hg_yes noA hbk Times_46 rfl rfl rfl rfl (by decide) hat (r_load ld_3 rfl (cell_at' F20)) fun a hat => hg_yes noA hbk Times_46 rfl rfl rfl rfl (by decide) hat (r_field fk_46_3 rfl) fun a hat => hg_yes noA hbk Times_46 rfl rfl rfl rfl (by decide) hat (r_load ld_3 rfl (cell_at' F20)) fun a hat => ?_
            refine hg_yes noA hbk Times_46 rfl rfl rfl (opOk_eq (by kernel_rfl)) (by decide) hat (r_bool (t' := false) (r_neq rfl rfl) (by simp; exact Classical.byContradiction fun h => hc ⟨c1, c2, h⟩)) fun a hat => h_val noA hbk Times_46 rfl rfl (by decide) hat (r_pick rfl rfl) fun a hat => hold_region_end <| hold_condF (hat.eval (q := .tmp 164) rfl) rfl <| hold_skip <| hold_inBlock <| hold_inBlock <| hold_region (l := [0,1,2]) rfl <| h_val noA hbk Times_52 rfl rfl (by decide) hat (r_move rfl) fun a hat => h_val noA hbk Times_52 rfl rfl (by decide) hat (r_add rfl rfl (by first | omega | (simp; omega))) fun a hat => h_val noA hbk Times_52 rfl rfl (by decide) hat (r_assign rfl) fun a hat => hold_region_end <| hold_inLoop ?_
            exact hR _ _ _ hG FC FQ FN FS hRw (hat.sub (AtE.cons rfl (AtE.cons rfl (AtE.cons rfl (AtE.cons rfl (AtE.cons rfl (AtE.cons rfl (AtE.cons rfl (AtE.cons rfl (AtE.cons rfl (AtE.cons rfl (AtE.cons rfl (AtE.nil)))))))))))))
          · skip
            refine h_val noA hbk Times_46 rfl (opOk_eq (by kernel_rfl)) (by decide) hat (r_bool (t' := true) (r_eql rfl rfl) (by simp [c1])) fun a hat => h_val noA hbk Times_46 rfl rfl (by decide) hat (r_move rfl) fun a hat => hg_yes noA hbk Times_46 rfl rfl rfl rfl (by decide) hat (r_move rfl) fun a hat => hg_yes noA hbk Times_46 rfl rfl rfl (opOk_eq (by kernel_rfl)) (by decide) hat (r_bool (t' := false) (r_eql rfl rfl) (by simp [c2])) fun a hat => h_val noA hbk Times_46 rfl rfl (by decide) hat (r_pick rfl rfl) fun a hat => h_val noA hbk Times_46 rfl rfl (by decide) hat (r_move rfl) fun a hat => hg_no Times_46 rfl rfl rfl rfl (by decide) hat fun a hat => hg_no Times_46 rfl rfl rfl rfl (by decide) hat fun a hat => hg_no Times_46 rfl rfl rfl rfl (by decide) hat fun a hat => hg_no Times_46 rfl rfl rfl rfl (by decide) hat fun a hat => hg_no Times_46 rfl rfl rfl rfl (by decide) hat fun a hat => ?_
            refine h_val noA hbk Times_46 rfl rfl (by decide) hat (r_pick rfl rfl) fun a hat => hold_region_end <| hold_condF (hat.eval (q := .tmp 164) rfl) rfl <| hold_skip <| hold_inBlock <| hold_inBlock <| hold_region (l := [0,1,2]) rfl <| h_val noA hbk Times_52 rfl rfl (by decide) hat (r_move rfl) fun a hat => h_val noA hbk Times_52 rfl rfl (by decide) hat (r_add rfl rfl (by first | omega | (simp; omega))) fun a hat => h_val noA hbk Times_52 rfl rfl (by decide) hat (r_assign rfl) fun a hat => hold_region_end <| hold_inLoop ?_
            exact hR _ _ _ hG FC FQ FN FS hRw (hat.sub (AtE.cons rfl (AtE.cons rfl (AtE.cons rfl (AtE.cons rfl (AtE.cons rfl (AtE.cons rfl (AtE.cons rfl (AtE.cons rfl (AtE.cons rfl (AtE.cons rfl (AtE.cons rfl (AtE.nil)))))))))))))
        · skip
          refine h_val noA hbk Times_46 rfl (opOk_eq (by kernel_rfl)) (by decide) hat (r_bool (t' := false) (r_eql rfl rfl) (by simp [c1])) fun a hat => h_val noA hbk Times_46 rfl rfl (by decide) hat (r_move rfl) fun a hat => hg_no Times_46 rfl rfl rfl rfl (by decide) hat fun a hat => hg_no Times_46 rfl rfl rfl rfl (by decide) hat fun a hat => h_val noA hbk Times_46 rfl rfl (by decide) hat (r_pick rfl rfl) fun a hat => h_val noA hbk Times_46 rfl rfl (by decide) hat (r_move rfl) fun a hat => hg_no Times_46 rfl rfl rfl rfl (by decide) hat fun a hat => hg_no Times_46 rfl rfl rfl rfl (by decide) hat fun a hat => hg_no Times_46 rfl rfl rfl rfl (by decide) hat fun a hat => hg_no Times_46 rfl rfl rfl rfl (by decide) hat fun a hat => hg_no Times_46 rfl rfl rfl rfl (by decide) hat fun a hat => h_val noA hbk Times_46 rfl rfl (by decide) hat (r_pick rfl rfl) fun a hat => hold_region_end ?_
          refine hold_condF (hat.eval (q := .tmp 164) rfl) rfl <| hold_skip <| hold_inBlock <| hold_inBlock <| hold_region (l := [0,1,2]) rfl <| h_val noA hbk Times_52 rfl rfl (by decide) hat (r_move rfl) fun a hat => h_val noA hbk Times_52 rfl rfl (by decide) hat (r_add rfl rfl (by first | omega | (simp; omega))) fun a hat => h_val noA hbk Times_52 rfl rfl (by decide) hat (r_assign rfl) fun a hat => hold_region_end <| hold_inLoop ?_
          exact hR _ _ _ hG FC FQ FN FS hRw (hat.sub (AtE.cons rfl (AtE.cons rfl (AtE.cons rfl (AtE.cons rfl (AtE.cons rfl (AtE.cons rfl (AtE.cons rfl (AtE.cons rfl (AtE.cons rfl (AtE.cons rfl (AtE.cons rfl (AtE.nil)))))))))))))
end
end Go.Proofs.Ytlnjmheocfbimaa


/- CounterAlone: the law's function, whole; to the end of the run. -/
namespace Go.Proofs.Ytlnjmheocfbimaa
open Go Go.Conc
theorem stepG_done {P : Program} {b : Frame} {a : Act} {td : List Item} {fn : Func} {t : Tmp} {x : Value} {w : World} (hb : b.kind = .normal) (hf : P.funcs[b.fn]? = some fn) (hi : P.inits.idxOf? b.fn = none) (hd : a.defers = []) (hr : fn.results = #[.tmp t]) (hx : a.tmps.getD t undef = x) :
    stepG P true (G { b.at a td with mode := .returning } []) w = .ended (.done x) w #[] := by
  have e2 : (results fn a.tmps).runT P w #[] = (.ok x w, #[]) := by
    rw [← hx]
    simp [results, hr]
  have hs : seen P b.fn (#[] : Array Event) = #[] := by simp [seen]
  simp only [G, stepG, Frame.at, unwind, hd, hf, e2, doReturn, hb, hi]
  simp [GStep.after, hs]
/-- How the law's run ends. -/
def AlonePost (u W0 : World) (x : Value) (w : World) : Prop := x = .bool true ∧ ∃ v S, Grow u v ∧ Sim false S v w ∧ Shape W0 w
end Go.Proofs.Ytlnjmheocfbimaa

