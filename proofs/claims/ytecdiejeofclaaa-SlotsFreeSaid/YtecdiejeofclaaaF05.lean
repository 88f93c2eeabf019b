/- Joined texts: WrnA WrnB WrnC InfZ WrnD WrnE WrnF WrnG WrnH WrnI WrnJ FunA GenA BitA FunB FunC SltA SltB SltC SltD SltE SltF. -/
import Derived.Test.YtecdiejeofclaaaF04
import Derived.Deep.Upon
import Derived.Deep.OwnRows
import GoSem.Core.Next
import Derived.Laws.BitsLemmas
set_option linter.all false
/- Main begins the threads: the loop. -/
namespace Go.Proofs.Ytecdiejeofclaaa
open Go Go.Conc
open Go.ConcN (upd upd_ne upd_same)
/-- What a Play hands to its threads. -/
structure Spec where
  nT : Nat
  lb : Nat → Nat
  ib : Nat → Nat
  db : Nat
  vb : Nat
  ob : Nat
  lv : Nat → Value
  dov : Value
  dop : Nat → List (Int × Int) → ACall → (Int × Int → Prog) → Prog
  l : Nat → List ACall
  E : Nat → List (Int × Int) → Gho → World → Prop
  H : Nat
namespace Spec
abbrev fin (sp : Spec) (i : Nat) : Answers → Gho → World → Prop := FinOut i sp.ob
abbrev prog (sp : Spec) (i : Nat) : Prog := Prog.callsA (sp.dop i) false 0 (sp.l i) [] .done
abbrev body (sp : Spec) (i : Nat) : Value := .func (.func 37) #[] #[.pointer (some ⟨sp.lb i, 0, none⟩), .pointer (some ⟨sp.db, 0, none⟩), .pointer (some ⟨sp.vb, 0, none⟩), .pointer (some ⟨sp.ib i, 0, none⟩)]
abbrev bodyE (sp : Spec) (i : Nat) (Γ : Gho) (v : World) : Prop := BodyE i (sp.lb i) sp.db sp.vb (sp.ib i) sp.ob sp.nT (sp.lv i) sp.dov (sp.l i) (sp.E i []) Γ v
abbrev progs (sp : Spec) : List Prog := (List.range sp.nT).map sp.prog
structure Ok (sp : Spec) : Prop where
  do_ : ∀ i, i < sp.nT → DoSpec i (FinOut i sp.ob) sp.dov (sp.dop i) (sp.E i) (sp.l i) sp.H
  ne : sp.ob ≠ sp.H
  env : ∀ i Γ v Γ' v', sp.E i [] Γ v → URely i Γ v Γ' v' → sp.E i [] Γ' v'
end Spec
theorem finOut_stable (sp : Spec) : Stable sp.fin := ⟨fun i r Γ v Γ' v' h hR => by
  obtain ⟨⟨h1, h2⟩, ov, h3, h4, h5⟩ := h
  refine ⟨⟨Nat.lt_of_lt_of_le h1 hR.size, (hR.own _ h1).trans h2⟩, ov, (hR.mixed _ h1 h2).trans h3, ownsRow_keep h4 fun b c hb _ => hR.keep b (h5 b hb).1 (.inl (h5 b hb).2), fun b hb => ⟨Nat.lt_of_lt_of_le (h5 b hb).1 hR.size, (hR.own b (h5 b hb).1).trans (h5 b hb).2⟩⟩⟩
/-- The bodies, in memory that nobody writes. -/
structure Bodies (sp : Spec) (gB : Nat) (Γ : Gho) (v : World) : Prop where
  cell : ∀ j, j < sp.nT → v.cell? ⟨gB, j, none⟩ = some (sp.body j)
  lt : gB < v.heap.size
  own : Γ.own gB = .main
theorem Bodies.keep {sp : Spec} {gB : Nat} {Γ Γ' : Gho} {v v' : World} (h : Bodies sp gB Γ v) (hR : MRely Γ v Γ' v') : Bodies sp gB Γ' v' :=
  ⟨fun j hj => (cell_same (hR.keep gB h.lt (.inl h.own))).trans (h.cell j hj), Nat.lt_of_lt_of_le h.lt hR.size, (hR.own gB h.lt).trans h.own⟩
theorem spawn_loop {Done : Goroutine → World → Prop} (sp : Spec) (hok : sp.Ok) {b : Frame} (hbk : b.kind ≠ .early) {k : List Item} {cs : List Frame} {gB capB W n0 : Nat} (hT8 : sp.nT ≤ 1000) {res : Sys × List Left} {Γm : Gho} {vm : World}
    (K : ∀ Γ v I a, Ring1 sp.fin Γ res.1 v I res.2 none → res.2.length = sp.nT → res.1.ths.length = sp.nT → MRely Γm vm Γ v → Γ.W = W → Γ.n0 = n0 → AtE 62 [] [(0, .pointer (some ⟨W, 0, none⟩))] a → Run Try.prog Done (SS Γ sp.nT) 0 (n0 + sp.nT) I (G (b.at a k) cs) v) :
    ∀ (m i : Nat) (Γ : Gho) (A : Sys) (u : World) (I : Inbs) (ps : List Left) (a : Act), i + m = sp.nT → ps.length = i → A.ths.length = i → Ring1 sp.fin Γ A u I ps none → (∀ j, i ≤ j → j < sp.nT → sp.bodyE j Γ u) → Bodies sp gB Γ u → MRely Γm vm Γ u → Γ.W = W → Γ.n0 = n0 → spawns (sp.progs.drop i) A ps = some res →
    AtE 62 [] [(32, .int .i64 i), (31, .int .i64 sp.nT), (30, .slice (some ⟨gB, 0, none⟩) sp.nT capB), (0, .pointer (some ⟨W, 0, none⟩))] a → Run Try.prog Done (SS Γ i) 0 (n0 + i) I (G (b.at a (.code WRun_L1 :: .inLoop WRun_L1 :: .inBlock 2 :: k)) cs) u := by
  intro m
  induction m with
  | zero =>
    intro i Γ A u I ps a hm hps hA hR hX hBo hM hWe hn0 hsp hat
    obtain rfl : i = sp.nT := by omega
    rw [List.drop_eq_nil_of_le (by simp)] at hsp
    simp only [spawns, Option.some.injEq] at hsp
    subst hsp
    refine Run.of_hold <| hold_unf WRun_L1_def <| hold_seq <| hold_region (l := [0]) rfl <| h_val noA hbk WRun_12 rfl rfl (by decide) hat (r_bool (t' := false) (r_lss rfl rfl) (by first | (simp; omega) | (simp; done) | (simp_all; done) | (simp_all; omega))) fun a hat => hold_region_end <| hold_seq <| hold_condF (hat.eval (q := .tmp 33) rfl) rfl <| hold_exit (k' := _) rfl ?_
    exact hold_run (K Γ u I a hR hps hA hM hWe hn0 (hat.sub (AtE.cons rfl (AtE.nil))))
  | succ m ih =>
    intro i Γ A u I ps a hm hps hA hR hX hBo hM hWe hn0 hsp hat
    have hi : i < sp.nT := by omega
    have hXi := hX i (Nat.le_refl _) hi
    have hW := hR.wi
    have hdrop : sp.progs.drop i = sp.prog i :: sp.progs.drop (i + 1) := by
      rw [List.drop_eq_getElem_cons (by simpa using hi)]
      simp
    rw [hdrop] at hsp
    unfold spawns at hsp
    cases hgo : (sp.prog i).go ps.length { A with ths := A.ths ++ [⟨0, 0, 0, 0⟩] } with
    | none => rw [hgo] at hsp; cases hsp
    | some r =>
      obtain ⟨A', q⟩ := r
      rw [hgo] at hsp
      simp only [] at hsp
      subst hWe hA hn0
      obtain ⟨sv, cv, tv, rv, hw, r1, r2, r3, r4, o1, o2, o3, o4, o5⟩ := id hW.world
      refine Run.of_hold <| hold_unf WRun_L1_def <| hold_seq <| hold_region (l := [0]) rfl <| h_val noA hbk WRun_12 rfl rfl (by decide) hat (r_bool (t' := true) (r_lss rfl rfl) (by first | (simp; omega) | (simp; done) | (simp_all; done) | (simp_all; omega))) fun a hat => hold_region_end <| hold_seq <| hold_condT (hat.eval (q := .tmp 33) rfl) rfl <| hold_skip <| hold_seq <| hold_block <| hold_seq <| hold_region (l := [0,1,2,3,4]) rfl ?_
      refine h_val noA hbk WRun_13 rfl rfl (by decide) hat (r_move rfl) fun a hat => h_val noA hbk WRun_13 rfl rfl (by decide) hat (r_index ix_90 rfl rfl (by omega) (by omega)) fun a hat => h_val noA hbk WRun_13 rfl rfl (by decide) hat (r_load ld_92 rfl (by simpa using hBo.cell _ hi)) fun a hat => h_val noA hbk WRun_13 rfl rfl (by decide) hat (r_assign rfl) fun a hat => h_val noA hbk WRun_13 rfl rfl (by decide) hat (r_assign rfl) fun a hat => hold_region_end <| hold_seq <| hold_region (l := [0,1,2,3,4,5]) rfl <| h_val noA hbk WRun_14 rfl rfl (by decide) hat (r_move rfl) fun a hat => h_val noA hbk WRun_14 rfl rfl (by decide) hat (r_move rfl) fun a hat => h_val noA hbk WRun_14 rfl rfl (by decide) hat mc_chan fun a hat => h_val noA hbk WRun_14 rfl rfl (by decide) hat (bu_76_0_1_2 rfl rfl rfl rfl rfl rfl) fun a hat => ?_
      have hgc : Grow u (u.alloc (.chan 0 #[] false 0 0 false)) := grow_chan
      have hcat : (u.alloc (.chan 0 #[] false 0 0 false)).heap[u.heap.size]? = some (.chan 0 #[] false 0 0 false) := by show (u.heap.push _)[_]? = _; simp
      have hcsz : (u.alloc (.chan 0 #[] false 0 0 false)).heap.size = u.heap.size + 1 := by show (u.heap.push _).size = _; simp
      generalize u.alloc (.chan 0 #[] false 0 0 false) = v1 at hgc hcat hcsz ⊢
      refine .stop _ _ fun td dd => Run.re ?_ td dd
      refine run_box (S' := SS (Γ.more u A.ths.length v1.heap.size u.heap.size) (A.ths.length + 1)) (o := 2) hbk WRun_14 rfl (by decide) hat rfl (box_thread _ _ _ _ _ _ _) (by simp) (fun y => ?_) (hgc.ready hW.ready) fun a hat => ?_
      · simp only [SS, Gho.more, Gho.ext]
        constructor
        · rintro (rfl | ⟨j, hj, rfl⟩)
          · exact .inl (.inl rfl)
          · by_cases hji : j = A.ths.length
            · exact .inr (by simp [hji])
            · exact .inl (.inr ⟨j, by omega, by simp [hji]⟩)
        · rintro ((rfl | ⟨j, hj, rfl⟩) | rfl)
          · exact .inl rfl
          · exact .inr ⟨j, by omega, by simp [show j ≠ A.ths.length by omega]⟩
          · exact .inr ⟨A.ths.length, by omega, by simp⟩
      have hgt : Grow v1 (v1.alloc (.cells #[.pointer (some ⟨Γ.W, 0, none⟩), .int .i64 A.ths.length, .chan (some u.heap.size), .int .i64 0, .int .i64 0, .int .i64 0, .int .i64 0] 76 (2, 2 + 1))) := grow_alloc
      have htat : (v1.alloc (.cells #[.pointer (some ⟨Γ.W, 0, none⟩), .int .i64 A.ths.length, .chan (some u.heap.size), .int .i64 0, .int .i64 0, .int .i64 0, .int .i64 0] 76 (2, 2 + 1))).heap[v1.heap.size]? = some (.cells #[.pointer (some ⟨Γ.W, 0, none⟩), .int .i64 A.ths.length, .chan (some u.heap.size), .int .i64 0, .int .i64 0, .int .i64 0, .int .i64 0] 76 (2, 2 + 1)) := by show (v1.heap.push _)[_]? = _; simp
      generalize v1.alloc (.cells #[.pointer (some ⟨Γ.W, 0, none⟩), .int .i64 A.ths.length, .chan (some u.heap.size), .int .i64 0, .int .i64 0, .int .i64 0, .int .i64 0] 76 (2, 2 + 1)) = v2 at hgt htat ⊢
      have hG : Grow u v2 := hgc.trans hgt
      generalize hBt : v1.heap.size = Bt at *
      refine Run.of_hold <| h_val noA hbk WRun_14 rfl rfl (by decide) hat (r_assign rfl) fun a hat => hold_region_end <| hold_seq <| hold_region (l := [0,1,2,3,4,5,6,7,8,9,10]) rfl <| h_val noA hbk WRun_15 rfl rfl (by decide) hat (r_move rfl) fun a hat => h_val noA hbk WRun_15 rfl rfl (by decide) hat (r_move rfl) fun a hat => h_val noA hbk WRun_15 rfl rfl (by decide) hat (r_nil rfl) fun a hat => h_val noA hbk WRun_15 rfl rfl (by decide) hat (r_field fk_74_4 rfl) fun a hat => h_val noA hbk WRun_15 rfl rfl (by decide) hat (r_load ld_72 rfl (cell_at' (hG.at hw))) fun a hat => h_val noA hbk WRun_15 rfl rfl (by decide) hat (r_move rfl) fun a hat => h_news noA hbk WRun_15 rfl rfl (by decide) hat (bs_72_1_0 rfl rfl) fun v a B48 hB48 hsB48 hg F48 hat => ?_
      have n_F48_htat := ne_new htat hB48
      have gB48 := Nat.le_trans hG.size (Nat.le_of_eq hB48)
      replace hG := hG.trans hg
      replace htat := hg.at htat
      have r3' := ownsRow_keep r3 fun b _ _ hb => hG.same b (lt_of_heap hb)
      have htvW : tv.ownBlock ≠ some Γ.W := fun h => by
        rcases r3.2 with ⟨rfl, _⟩ | ⟨g, cap', cur, rfl, _, hg', _⟩
        · cases h
        · cases h; exact ne_of_types hg' hw (by decide) rfl
      have h63 : A.ths.length + 1 ≤ maxLen := Nat.le_trans (show _ ≤ 1001 by omega) (by decide)
      have hrdv := hG.ready hW.ready
      refine h_app noA hbk WRun_15 rfl (by decide) hat ek_72 hrdv r3' rfl rfl F48 rfl (by simp [Value.oneCell']) (by decide) h63 (by omega) fun g2 cap2 v4 a hAp hat => ?_
      have hWlt := lt_of_heap (hG.at hw)
      have hw4 := (hAp.same Γ.W hWlt htvW).trans (hG.at hw)
      refine h_val noA hbk WRun_15 rfl rfl (by decide) hat (r_nil rfl) fun a hat => h_val noA hbk WRun_15 rfl rfl (by decide) hat (r_field fk_74_4 rfl) fun a hat => h_skip noA hbk WRun_15 rfl rfl hat (r_store st_72 rfl rfl rfl (cell_at' hw4) (frozen_at' hw4)) fun a hat => ?_
      obtain ⟨kW, kR, kU, kM⟩ := hW.spawned (tv := tv) (v' := v4.setCell ⟨Γ.W, 4, none⟩ (.slice (some ⟨g2, 0, none⟩) (A.ths.length + 1) cap2)) hG (Bt := Bt) (Bc := u.heap.size) (by rw [← hBt]; exact hgc.size) (Nat.le_refl _) ⟨0, hg.at (hgt.at hcat)⟩ (lt_of_heap htat) htat (hG.at hw) rfl hAp.owns (hAp.where_.imp id fun h => by rw [h]; exact Nat.le_refl _) (fun k hk hne => hAp.same k hk hne) hAp.size rfl (ready_set hAp.ready)
      generalize v4.setCell ⟨Γ.W, 4, none⟩ (.slice (some ⟨g2, 0, none⟩) (A.ths.length + 1) cap2) = v5 at kW kR kU kM ⊢
      refine hold_region_end <| hold_seq <| hold_region (l := [0,1,2]) rfl <| h_val noA hbk WRun_16 rfl rfl (by decide) hat (r_move rfl) fun a hat => h_val noA hbk WRun_16 rfl rfl (by decide) hat (r_move rfl) fun a hat => ?_
      have hn0p := hR.n0
      have hpl : (ps ++ [Sum.inl (sp.prog A.ths.length)] : List Left).length = A.ths.length + 1 := by simp [hps]
      have hAl : (A.ths ++ [⟨0, 0, 0, 0⟩] : List TSt).length = A.ths.length + 1 := by simp
      have hXn := hXi.keepU (hok.env _) (kU A.ths.length)
      have kWf := kW.world
      obtain ⟨sv5, cv5, tv5, rv5, hw5, _⟩ := kWf
      have hSS5 : ∀ y, SS (Γ.more u A.ths.length Bt u.heap.size) (A.ths.length + 1) y → y.block < v5.heap.size := by
        have := SS_still kW
        rw [show (({ A with ths := A.ths ++ [⟨0, 0, 0, 0⟩] } : Sys).ths.length) = A.ths.length + 1 from hAl] at this
        exact this
      refine .stop _ _ fun td dd => Run.re ?_ td dd
      refine Run.hire rfl _ _ #[] (some (Seat.one Γ.back (.agg #[]) false fun g => ∃ a e, AtE 62 [] e a ∧ look e 32 = some (.int .i64 A.ths.length) ∧ look e 31 = some (.int .i64 sp.nT) ∧ look e 30 = some (.slice (some ⟨gB, 0, none⟩) sp.nT capB) ∧ look e 0 = some (.pointer (some ⟨Γ.W, 0, none⟩)) ∧
        g = G (b.at a (.inRegion (Rg Try.f39.body 17) [4] :: .inBlock 3 :: .code (.region 18 (Rg Try.f39.body 18) false) :: .inLoop WRun_L1 :: .inBlock 2 :: k)) cs)) (fun wa _ => spawn_step (vals := #[.pointer (some ⟨Bt, 0, none⟩), sp.body A.ths.length]) hbk WRun_16 rfl hat rfl wa) (by simp) (hR.none_ _ (by omega) (.inr (Nat.le_refl _))) ?_ ?_ ?_
      · refine ⟨Seat.one_wf _ _ _ _, fun c' hc' => ?_, fun y s' c' hy hs hc' hb' => ?_⟩
        · obtain ⟨kb, hkb⟩ := kW.back.1
          exact ⟨0, kb, by rw [Seat.one_has.1 hc']; exact hkb⟩
        · have e1 := Seat.one_has.1 hb'
          by_cases hr : y < Γ.n0 ∨ Γ.n0 + A.ths.length ≤ y
          · rw [hR.none_ y hy hr] at hs; cases hs
          · obtain ⟨i, rfl⟩ : ∃ i, y = Γ.n0 + i := ⟨y - Γ.n0, by omega⟩
            obtain ⟨q, hq⟩ : ∃ q, ps[i]? = some q := ⟨ps[i]'(by omega), by simp⟩
            rcases (hR.parked i q (by simp) hq).seat with h | ⟨z', home', h⟩
            · rw [h] at hs; cases hs
            · rw [h] at hs; cases hs
              exact hW.backApart i (by omega) ((Seat.one_has.1 hc').symm.trans e1)
      · refine iw_rests (n := 6) hSS5 ?_
        refine iw_region_end (iw_region (l := [0,1,2,3,4]) rfl ?_)
        refine iw_val hbk WRun_17 rfl (by decide) hat (s_move rfl) fun a hat => iw_val hbk WRun_17 rfl (by decide) hat (s_nil rfl) fun a hat => iw_val hbk WRun_17 rfl (by decide) hat (s_field ft_w_8 rfl) fun a hat => iw_val hbk WRun_17 rfl (by decide) hat (s_load lt_chan rfl (.inl rfl) (cell_at' hw5)) fun a hat => ?_
        exact iw_recv (el := 0) hbk WRun_17 rfl hat rfl (fun ρ h w => by simp [go_sem, h]; rfl) ⟨_, _, hat, rfl, rfl, rfl, rfl, rfl⟩
      · have hk1 : (Γ.more u A.ths.length Bt u.heap.size).tb A.ths.length = Bt := by simp [Gho.more]
        have hthr := thrun_hp (i := A.ths.length) (A := { A with ths := A.ths ++ [⟨0, 0, 0, 0⟩] }) (hok.do_ _ hi) hok.ne kW (Guar.refl _ _ _ _) (by simp) hXn
        rw [hk1] at hthr
        have hSe : SS (Γ.more u A.ths.length Bt u.heap.size) (A.ths.length + 1) = SS (Γ.more u A.ths.length Bt u.heap.size) (ps ++ [Sum.inl (sp.prog A.ths.length)] : List Left).length := by rw [hpl]
        rw [hSe]
        refine resume (Γ0 := Γ.more u A.ths.length Bt u.heap.size) (v0 := v5) (n := Γ.n0 + A.ths.length + 1) (i := A.ths.length) (A0 := { A with ths := A.ths ++ [⟨0, 0, 0, 0⟩] }) (A' := A') (q := q) (finOut_stable sp) (upd_same _ _ _) (fun j q' hj hq => ?_) (fun y hy hr => ?_) hn0p ?_ (by rw [hpl]; omega) kM ?_ (sp.prog A.ths.length) { A with ths := A.ths ++ [⟨0, 0, 0, 0⟩] } _ _ (by rw [hpl]; exact hAl) (fun _ _ => rfl) (by rw [hps] at hgo; exact hgo) hthr
        · have hjl : j < ps.length := by
            have := (List.getElem?_eq_some_iff.1 hq).1
            rw [hpl] at this; omega
          rw [List.getElem?_append_left hjl] at hq
          refine (hR.parked j q' (by simp) hq).keep (finOut_stable sp) (kR j (by omega)) (upd_ne _ _ (by omega)) ?_
          exact List.getElem?_append_left (by omega)
        · rw [upd_ne _ _ hy]
          refine hR.none_ y hy ?_
          rw [hpl] at hr
          rcases hr with hr | hr
          · exact .inl hr
          · refine .inr ?_
            have : (Γ.more u A.ths.length Bt u.heap.size).n0 = Γ.n0 := rfl
            omega
        · rw [hpl]; rfl
        · rintro Γ' v' I' g₂ y ⟨a, e, hat, h32, h31, h30, h0, rfl⟩ hR' hM' hl' hU'
          have hset : (ps ++ [Sum.inl (sp.prog A.ths.length)] : List Left).set A.ths.length q = ps ++ [q] := by
            rw [List.set_append_right _ _ (by omega), hps]; simp
          rw [hset] at hR'
          have hl2 : A'.ths.length = A.ths.length + 1 := by rw [hl', hpl]
          obtain ⟨a', hat', hfin⟩ := back_val (b := b) (a := a) (i := 4) (d := 58) (rest := []) WRun_17 rfl (by decide) hat y (k := .inBlock 3 :: .code (.region 18 (Rg Try.f39.body 18) false) :: .inLoop WRun_L1 :: .inBlock 2 :: k)
          have hsv : Conc.served (G (b.at a (.inRegion (Rg Try.f39.body 17) [4] :: .inBlock 3 :: .code (.region 18 (Rg Try.f39.body 18) false) :: .inLoop WRun_L1 :: .inBlock 2 :: k)) cs) y = G (b.at a' (.inRegion (Rg Try.f39.body 17) [] :: .inBlock 3 :: .code (.region 18 (Rg Try.f39.body 18) false) :: .inLoop WRun_L1 :: .inBlock 2 :: k)) cs := by
            simp only [Conc.served, G, hfin]
          rw [hsv]
          refine Run.of_hold ?_
          have hat2 : AtE 62 [] [(32, .int .i64 A.ths.length), (31, .int .i64 sp.nT), (30, .slice (some ⟨gB, 0, none⟩) sp.nT capB), (0, .pointer (some ⟨Γ.W, 0, none⟩))] a' := hat'.sub (AtE.cons h32 (AtE.cons h31 (AtE.cons h30 (AtE.cons h0 AtE.nil))))
          refine hold_region_end (hold_inBlock (hold_region (l := [0,1]) rfl ?_))
          refine h_val noA hbk WRun_18 rfl rfl (by decide) hat2 (r_add rfl rfl (by omega)) fun a hat => h_val noA hbk WRun_18 rfl rfl (by decide) hat (r_move rfl) fun a hat => ?_
          refine hold_region_end (hold_inLoop ?_)
          have hih := ih (A.ths.length + 1) Γ' A' v' I' (ps ++ [q]) a (by omega) (by simp [hps]) hl2 hR' (fun j hj hjn => ((hX j (by omega) hjn).keepU (hok.env _) (kU j)).keepU (hok.env _) (hU' j (by omega))) (hBo.keep hM') (hM.trans hM') hM'.same.1 hM'.same.2.2 hsp (hat.sub (AtE.cons rfl (AtE.cons rfl (AtE.cons rfl (AtE.cons rfl (AtE.nil))))))
          rw [hl2]
          exact hold_run hih
end Go.Proofs.Ytecdiejeofclaaa


/- World.Run: the turns, to the end. -/
namespace Go.Proofs.Ytecdiejeofclaaa
open Go Go.Conc
open Go.ConcN (upd upd_ne upd_same)
theorem leftOver_all : ∀ {ps : List Left} {rs : List Answers}, ps.mapM leftOver = some rs → rs.length = ps.length ∧ ∀ (i : Nat) (r : Answers), rs[i]? = some r → ps[i]? = some (Sum.inr r : Left)
  | [], rs, h => by
    cases h
    exact ⟨rfl, fun i r h => by simp at h⟩
  | q :: ps, rs, h => by
    rw [List.mapM_cons] at h
    cases q with
    | inl k => cases h
    | inr r0 =>
      cases h2 : ps.mapM leftOver with
      | none => simp [leftOver, h2] at h
      | some rs' =>
        simp [leftOver, h2] at h
        subst h
        obtain ⟨h3, h4⟩ := leftOver_all h2
        refine ⟨by simp [h3], fun i r hi => ?_⟩
        cases i with
        | zero => simp at hi; subst hi; rfl
        | succ i => simpa using h4 i r (by simpa using hi)
section
variable {Done : Goroutine → World → Prop}
/-- What is known when all threads have ended. -/
structure AllDone (Fin : Nat → Answers → Gho → World → Prop) (Γ : Gho) (A : Sys) (v : World) (I : Inbs) (rs : List Answers) : Prop where
  wi : WI Γ A v
  none_ : ∀ x, x ≠ 0 → I x = none
  len : rs.length = A.ths.length
  fin : ∀ i r, rs[i]? = some r → Fin i r Γ v
theorem turns_loop {Fin : Nat → Answers → Gho → World → Prop} (hF : Stable Fin) {b : Frame} (hbk : b.kind ≠ .early) {k : List Item} {cs : List Frame} {W n0 n nT : Nat} (hnT : 0 < nT) (hT8 : nT ≤ 1000) {res : Sys × List Answers} {Γm : Gho} {vm : World}
    (K : ∀ Γ v I a, AllDone Fin Γ res.1 v I res.2 → res.1.ths.length = nT → MRely Γm vm Γ v → Γ.W = W → Γ.n0 = n0 → AtE 62 [] [(0, .pointer (some ⟨W, 0, none⟩))] a → Run Try.prog Done (SS Γ nT) 0 n I (G (b.at a k) cs) v) :
    ∀ (f : Nat) (Γ : Gho) (A : Sys) (v : World) (I : Inbs) (ps : List Left) (a : Act), A.ths.length = nT → Γ.n0 + nT = n → Ring1 Fin Γ A v I ps none → SchedOk A → MRely Γm vm Γ v → Γ.W = W → Γ.n0 = n0 → turns f A ps = some res →
    AtE 62 [] [(0, .pointer (some ⟨W, 0, none⟩))] a → Run Try.prog Done (SS Γ nT) 0 n I (G (b.at a (.code WRun_L2 :: .inLoop WRun_L2 :: .inBlock 4 :: k)) cs) v := by
  intro f
  induction f with
  | zero => intro Γ A v I ps a hA hn hR hs hM hW hn0 ht; cases ht
  | succ f ih =>
    intro Γ A v I ps a hA hn hR hs hM hW hn0 ht hat
    refine Run.of_hold <| hold_unf WRun_L2_def <| hold_seq <| hold_seq <| hold_region (l := [0,1]) rfl <| h_val noA hbk WRun_19 rfl rfl (by decide) hat (r_move rfl) fun a hat => h_callc hbk WRun_19 rfl (by decide) hat turn_fn turn_bd turn_nm (vals := #[_]) rfl fun c hc => ?_
    subst hW
    rw [← hA]
    refine hold_run (turn_run (Γm := Γm) (vm := vm) hF hR hs (by omega) (by omega) (by rw [hR.len, hA]; exact hn) hM ht c cs (fun Γ' A' v' I' ps' hR' ht' hM' hl' hs' => ?_) fun Γ' v' hR' hM' hres hw => ?_)
    · have hA' : A'.ths.length = nT := by rw [← hR'.len, hl', hR.len, hA]
      refine Run.of_hold <| hold_fin hc fun a hat => hold_region_end <| hold_condT (hat.eval (q := .tmp 61) rfl) rfl <| hold_skip <| hold_block <| hold_skip <| hold_inBlock <| hold_inLoop ?_
      rw [hA']
      exact hold_run (ih Γ' A' v' I' ps' a hA' (by rw [(hM'.same.2.2.trans hM.same.2.2.symm), hn]) hR' ⟨by rw [hs']; exact hs.i64, by rw [hs']; exact hs.short⟩ hM' (hM'.same.1.trans hM.same.1.symm) ((hM'.same.2.2.trans hM.same.2.2.symm).trans hn0) ht' (hat.sub (AtE.cons rfl (AtE.nil))))
    · refine Run.of_hold ?_
      cases hmm : ps.mapM leftOver with
      | none => rw [hmm] at hres; cases hres
      | some rs =>
        rw [hmm] at hres
        simp only [Option.map_some, Option.some.injEq] at hres
        subst hres
        obtain ⟨hl, hrs⟩ := leftOver_all hmm
        refine hold_fin hc fun a hat => hold_region_end <| hold_condF (hat.eval (q := .tmp 61) rfl) rfl <| hold_exit (k' := _) rfl ?_
        rw [hA]
        refine hold_run (K Γ' v' I a ⟨hR'.wi, fun x hx => ?_, by rw [hl, hR.len], fun i r hr => ?_⟩ hA hM' (hM'.same.1.trans hM.same.1.symm) ((hM'.same.2.2.trans hM.same.2.2.symm).trans hn0) (hat.sub (AtE.cons rfl (AtE.nil))))
        · by_cases h : x < Γ'.n0 ∨ Γ'.n0 + A.ths.length ≤ x
          · exact hR'.none_ x hx h
          · obtain ⟨i, rfl⟩ : ∃ i, x = Γ'.n0 + i := ⟨x - Γ'.n0, by omega⟩
            have hi : i < rs.length := by rw [hl, hR.len]; omega
            have := hR'.parked i (.inr rs[i]) (by simp) (hrs i _ (by simp [hi]))
            obtain ⟨t, _, _, h3, _⟩ := this
            exact h3
        · obtain ⟨t, _, _, _, h4⟩ := hR'.parked i (.inr r) (by simp) (hrs i r hr)
          exact h4
end
end Go.Proofs.Ytecdiejeofclaaa


/- World.Run, whole. -/
namespace Go.Proofs.Ytecdiejeofclaaa
open Go Go.Conc
open Go.ConcN (upd upd_ne upd_same)
/-- No still cells. -/
abbrev S0 : Addr → Prop := fun _ => False
/-- Block b stands so. -/
abbrev World.stand (v : World) (b : Nat) (o : Obj) : World := { v with heap := v.heap.setIfInBounds b o }
theorem stand_at {v : World} {b : Nat} {o : Obj} (h : b < v.heap.size) : (World.stand v b o).heap[b]? = some o := by simp [World.stand, h]
theorem stand_ne {v : World} {b x : Nat} {o : Obj} (h : x ≠ b) : (World.stand v b o).heap[x]? = v.heap[x]? := by simp [World.stand, Array.getElem?_setIfInBounds, Ne.symm h]
theorem stand_size {v : World} {b : Nat} {o : Obj} : (World.stand v b o).heap.size = v.heap.size := by simp [World.stand]
/-- A world that is not run yet. -/
structure WNew (Γ : Gho) (A : Sys) (v : World) : Prop where
  ex : ∃ sv us la cv tv rv st, v.heap[Γ.W]? = some (.cells #[sv, us, la, cv, tv, rv, st, .bool false, .chan (some Γ.back)] 74 (0, 0)) ∧
    WI Γ A (World.stand v Γ.W (.cells #[sv, us, la, cv, tv, rv, st, .bool true, .chan (some Γ.back)] 74 (8, 9)))
theorem sim_freeze {v : World} {W : Nat} {arr : Array Value} {ty : TypeId} {o : Nat} {S' : Addr → Prop} (hw : v.heap[W]? = some (.cells arr ty (0, 0))) (ho : o < arr.size) (hS : ∀ y, S' y → y = ⟨W, o, none⟩) (wa : World) (hs : Sim false S0 v wa) : Sim false S' (World.stand v W (.cells arr ty (o, o + 1))) wa := by
  have hlt := lt_of_heap hw
  refine ⟨hs.os, hs.output, by rw [stand_size]; exact hs.size, fun x => ?_, fun y hy => ?_, fun x c e => ?_⟩
  · by_cases hx : x = W
    · subst hx
      rw [stand_at hlt]
      have := hs.block x
      rw [hw] at this
      revert this
      cases wa.heap[x]? with
      | none => exact fun h => by cases h
      | some ob =>
        cases ob <;> intro h <;> first
          | (cases h; done)
          | (obtain ⟨h1, h2, h3⟩ := h
             refine ⟨h1, h2, ?_⟩
             simp only [Bool.false_eq_true, if_false] at h3 ⊢
             intro i h4 h5
             have := h3 i h4 h5
             omega)
    · rw [stand_ne hx]; exact hs.block x
  · obtain rfl := hS y hy
    refine ⟨rfl, ?_, arr[o], ?_⟩
    · unfold World.frozen?; rw [show (⟨W, o, none⟩ : Addr).block = W from rfl, stand_at hlt]; simp
    · unfold World.cell?; rw [show (⟨W, o, none⟩ : Addr).block = W from rfl, stand_at hlt]; simp [ho]
  · by_cases hx : x = W
    · subst hx; rw [stand_at hlt]; simp
    · rw [stand_ne hx]; exact hs.ready x c e
theorem sim_thaw {S : Addr → Prop} {v wa : World} (hs : Sim false S v wa) : Sim false S0 v wa := ⟨hs.os, hs.output, hs.size, hs.block, fun _ h => h.elim, hs.ready⟩
theorem WI.heap {Γ : Gho} {A : Sys} {v v' : World} (h : WI Γ A v) (e : v.heap = v'.heap) : WI Γ A v' := by
  have e1 : ∀ b : Nat, v'.heap[b]? = v.heap[b]? := fun b => by rw [e]
  obtain ⟨sv, cv, tv, rv, hw, r1, r2, r3, r4, o⟩ := h.world
  refine ⟨fun r x y hr => h.ready r x y ((e1 r).symm.trans hr), ⟨sv, cv, tv, rv, (e1 _).trans hw, ownsRow_keep r1 fun b _ _ _ => e1 b, ownsRow_keep r2 fun b _ _ _ => e1 b, ownsRow_keep r3 fun b _ _ _ => e1 b, ownsRow_keep r4 fun b _ _ _ => e1 b, o⟩, fun j t hj => ?_, ⟨?_, h.back.2⟩, fun c x hc => ?_, h.used, h.ints64, h.chansApart, h.backApart, h.nc, h.vals64⟩
  · obtain ⟨h1, ⟨k, h2⟩, h3, h4⟩ := h.th j t hj
    exact ⟨(e1 _).trans h1, ⟨k, (e1 _).trans h2⟩, h3, h4⟩
  · obtain ⟨k, h2⟩ := h.back.1
    exact ⟨k, (e1 _).trans h2⟩
  · obtain ⟨h1, h2⟩ := h.cells c x hc
    exact ⟨(e1 _).trans h1, h2⟩
theorem spawns_sched : ∀ (l : List Prog) (A : Sys) (ps : List Left) (r : Sys × List Left), spawns l A ps = some r → r.1.sched = A.sched
  | [], A, ps, r, h => by
    simp only [spawns, Option.some.injEq] at h
    rw [← h]
  | p :: l, A, ps, r, h => by
    unfold spawns at h
    cases hgo : p.go ps.length { A with ths := A.ths ++ [⟨0, 0, 0, 0⟩] } with
    | none => rw [hgo] at h; cases h
    | some x =>
      obtain ⟨A', q⟩ := x
      rw [hgo] at h
      exact (spawns_sched l A' _ r h).trans (go_sched p { A with ths := A.ths ++ [⟨0, 0, 0, 0⟩] } hgo)
section
variable {Done : Goroutine → World → Prop}
theorem WRun_run (sp : Spec) (hok : sp.Ok) (hT0 : 0 < sp.nT) (hT8 : sp.nT ≤ 1000) {f : Nat} {res : Sys × List Answers} {Γ : Gho} {A : Sys} {u : World} {I : Inbs} (hN : WNew Γ A u) (hth : A.ths = []) (hs : SchedOk A) (hn0 : 0 < Γ.n0) (hI : ∀ x, x ≠ 0 → I x = none)
    (hX : ∀ j, j < sp.nT → sp.bodyE j Γ u) {gB capB : Nat} (hBo : Bodies sp gB Γ u) (hres : runs f A sp.progs = some res) (c0 : Frame) (cs : List Frame)
    (K : ∀ Γ' v' I', AllDone sp.fin Γ' res.1 v' I' res.2 → res.1.ths.length = sp.nT → MRely Γ u Γ' v' → Run Try.prog Done S0 0 (Γ.n0 + sp.nT) I' (G (c0.finish (.tuple #[])) cs) v') :
    Run Try.prog Done S0 0 Γ.n0 I (G (Frame.enter Try.prog 39 #[.pointer (some ⟨Γ.W, 0, none⟩), .slice (some ⟨gB, 0, none⟩) sp.nT capB] .normal) (c0 :: cs)) u := by
  obtain ⟨sv, us, la, cv, tv, rv, st, hw, hWI⟩ := hN.ex
  have hback := hWI.back
  generalize hA : (#[sv, us, la, cv, tv, rv, st, .bool false, .chan (some Γ.back)] : Array Value) = arr at hw
  have hA7 : arr[7]? = some (.bool false) := by rw [← hA]; rfl
  have hAs : arr.size = 9 := by rw [← hA]; rfl
  have hAset : arr.set! 7 (.bool true) = #[sv, us, la, cv, tv, rv, st, .bool true, .chan (some Γ.back)] := by rw [← hA]; rfl
  have hlt := lt_of_heap hw
  unfold runs at hres
  cases hsp : spawns sp.progs A [] with
  | none => rw [hsp] at hres; cases hres
  | some r =>
    rw [hsp] at hres
    simp only [Option.bind_some] at hres
    refine Run.of_hold ?_
    obtain ⟨b, a, hEq, hb, hbf, hat⟩ := enter_is WRun_fn WRun_body WRun_tmps #[.pointer (some ⟨Γ.W, 0, none⟩), .slice (some ⟨gB, 0, none⟩) sp.nT capB] [(0, .pointer (some ⟨Γ.W, 0, none⟩)), (1, .slice (some ⟨gB, 0, none⟩) sp.nT capB)] rfl (by simp)
    rw [hEq]
    have hbk := not_early hb
    refine hold_unf WRun_code_def <| hold_seq <| hold_seq <| hold_region (l := [0,1]) rfl <| h_val noA hbk WRun_0 rfl rfl (by decide) hat (r_move rfl) fun a hat => h_val noA hbk WRun_0 rfl opOk_nil (by decide) hat (r_isnil nk_32 rfl) fun a hat => hold_region_end <| hold_condF (hat.eval (q := .tmp 11) rfl) rfl <| hold_skip <| hold_seq <| hold_seq <| hold_region (l := [0,1,2,3]) rfl <| h_val noA hbk WRun_9 rfl rfl (by decide) hat (r_move rfl) fun a hat => ?_
    refine h_val noA hbk WRun_9 rfl rfl (by decide) hat (r_nil rfl) fun a hat => h_val noA hbk WRun_9 rfl rfl (by decide) hat (r_field fk_74_7 rfl) fun a hat => h_val noA hbk WRun_9 rfl rfl (by decide) hat (r_load ld_4 rfl (by rw [cell_at' hw]; exact hA7)) fun a hat => hold_region_end <| hold_condF (hat.eval (q := .tmp 26) rfl) rfl <| hold_skip <| hold_seq <| hold_region (l := [0,1,2,3]) rfl <| h_val noA hbk WRun_10 rfl rfl (by decide) hat (r_move rfl) fun a hat => h_val noA hbk WRun_10 rfl rfl (by decide) hat (r_nil rfl) fun a hat => h_val noA hbk WRun_10 rfl rfl (by decide) hat (r_field fk_74_7 rfl) fun a hat => h_put noA hbk WRun_10 rfl rfl hat (p_store st_4 rfl rfl rfl hw hA7 rfl) fun v1 a hP hw1 hat => ?_
    rw [← Array.set!_eq_setIfInBounds, hAset] at hw1
    have hst : (World.stand v1 Γ.W (.cells #[sv, us, la, cv, tv, rv, st, .bool true, .chan (some Γ.back)] 74 (8, 9))).heap = (World.stand u Γ.W (.cells #[sv, us, la, cv, tv, rv, st, .bool true, .chan (some Γ.back)] 74 (8, 9))).heap := by
      refine Array.ext_getElem? fun x => ?_
      by_cases hx : x = Γ.W
      · rw [hx, stand_at hlt, stand_at (by rw [hP.size]; exact hlt)]
      · rw [stand_ne hx, stand_ne hx]; exact hP.other x hx
    have hWI1 := hWI.heap hst.symm
    have hsm := fun wa => sim_freeze (S' := SS Γ 0) hw1 (o := 8) (by simp) (fun y hy => by rcases hy with h | ⟨j, hj, _⟩; exact h; omega) wa
    have hsz2 : (World.stand v1 Γ.W (.cells #[sv, us, la, cv, tv, rv, st, .bool true, .chan (some Γ.back)] 74 (8, 9))).heap.size = u.heap.size := by rw [stand_size, hP.size]
    have hot2 : ∀ x, x ≠ Γ.W → (World.stand v1 Γ.W (.cells #[sv, us, la, cv, tv, rv, st, .bool true, .chan (some Γ.back)] 74 (8, 9))).heap[x]? = u.heap[x]? := fun x hx => (stand_ne hx).trans (hP.other x hx)
    generalize World.stand v1 Γ.W (.cells #[sv, us, la, cv, tv, rv, st, .bool true, .chan (some Γ.back)] 74 (8, 9)) = v2 at hWI1 hsm hsz2 hot2
    have hns : ∀ b, b < u.heap.size → Γ.own b ≠ .sys → v2.heap[b]? = u.heap[b]? := fun b _ ho => hot2 b fun e => ho (by rw [e]; exact hback.2.2)
    have hMR : MRely Γ u Γ v2 := mrely_sysg (Nat.le_of_eq hsz2.symm) hns
    refine hold_region_end <| hold_seq <| hold_seq <| hold_region (l := [0,1,2]) rfl <| h_val noA hbk WRun_11 rfl rfl (by decide) hat (r_move rfl) fun a hat => h_val noA hbk WRun_11 rfl rfl (by decide) hat (r_len lk_90 rfl) fun a hat => h_val noA hbk WRun_11 rfl rfl (by decide) hat (r_move rfl) fun a hat => hold_region_end <| hold_block <| hold_loop ?_
    refine .stop _ _ fun td dd => Run.re ?_ td dd
    refine Run.swap (SS Γ 0) v2 (fun x hx => hI x hx) hsm ?_
    refine spawn_loop sp hok hbk (Γm := Γ) (vm := u) (res := r) (W := Γ.W) (n0 := Γ.n0) hT8 (fun Γ3 v3 I3 a hR3 hl3 hA3 hM3 hW3 hn3 hat => ?_) sp.nT 0 Γ A v2 I [] a (by omega) rfl (by rw [hth]; rfl) ?_ ?_ ?_ hMR rfl rfl hsp (hat.sub (AtE.cons rfl (AtE.cons rfl (AtE.cons rfl (AtE.cons rfl (AtE.nil))))))
    · refine Run.of_hold <| hold_block <| hold_loop ?_
      refine .stop _ _ fun td dd => Run.re ?_ td dd
      refine turns_loop (finOut_stable sp) hbk (Γm := Γ) (vm := u) (W := Γ.W) (n0 := Γ.n0) (res := res) hT0 hT8 (fun Γ4 v4 I4 a hD hl4 hM4 hW4 hn4 hat => ?_) f Γ3 r.1 v3 I3 r.2 a hA3 (by rw [hn3]) hR3 ?_ hM3 hW3 hn3 hres hat
      · refine Run.swap S0 v4 (fun x hx => hD.none_ x hx) (fun wa hs => sim_thaw hs) <| Run.of_hold <| hold_done hb hbf WRun_fn hat.defers (ret_none WRun_res _) ?_
        exact hold_run (K Γ4 v4 I4 hD hl4 hM4)
      · have e := spawns_sched sp.progs A [] r hsp
        exact ⟨by rw [e]; exact hs.i64, by rw [e]; exact hs.short⟩
    · exact ⟨hWI1, by rw [hth]; rfl, hn0, fun i q _ hq => by simp at hq, fun x hx _ => hI x hx⟩
    · exact fun j _ hj => (hX j hj).keepU (hok.env _) ⟨Nat.le_of_eq hsz2.symm, ⟨rfl, rfl, rfl⟩, fun _ _ => rfl, fun _ _ => rfl, fun b hb ho => hns b hb (by rw [ho]; simp), fun b hb ho => cell_same (hns b hb (by rw [ho]; simp)), Nat.le_refl _, fun b j hb ho => frozen_same (hns b hb (by rw [ho]; simp))⟩
    · exact hBo.keep hMR
end
end Go.Proofs.Ytecdiejeofclaaa


/- Infrastructure Z: a slice is copied onto nil. -/
namespace Go.Proofs.Ytecdiejeofclaaa
open Go Go.Conc
/-- A slice value, as it reads. -/
structure SlAt (v : World) (sz : Nat) (sv : Value) (n : Nat) (xs : List Value) : Prop where
  len : xs.length = n * sz
  at_ : (∃ c, sv = .slice none 0 c ∧ n = 0) ∨ ∃ ad c, sv = .slice (some ad) n c ∧ ∀ j u, xs[j]? = some u → v.cell? (ad.add j) = some u
  one : ∀ u ∈ xs, u.oneCell' = true
/-- What is known behind it. -/
structure Copied (v : World) (te : TypeId) (sz n : Nat) (xs : List Value) (rv : Value) (v' : World) : Prop where
  grow : Grow v v'
  owns : v'.ownsRow 0 te sz rv n xs
  new : ∀ b, rv.ownBlock = some b → v.heap.size ≤ b ∧ b < v'.heap.size
section
variable {P : Program} {S : Addr → Prop} {main : Bool} {Stop : Goroutine → World → Prop} {N : Nat} {D : List Deferred} {e : Env}
variable {b : Frame} {a : Act} {k : List Item} {cs : List Frame} {v : World}
variable {L : Allow} {ops : Array Oper} {Lv : List (Option Nat × Op × Option (Nat × Bool))} {i : Nat} {rest : List Nat} {d : Nat} {op : Op}
theorem SlAt.grow {v' : World} {sz : Nat} {sv : Value} {n : Nat} {xs : List Value} (h : SlAt v sz sv n xs) (g : Grow v v') : SlAt v' sz sv n xs :=
  ⟨h.len, h.at_.imp id fun ⟨ad, c, h1, h2⟩ => ⟨ad, c, h1, fun j u hj => by
    have h3 := h2 j u hj
    have hlt : (ad.add j).block < v.heap.size := cell_low h3
    unfold World.cell? at h3 ⊢
    rw [g.same _ hlt]; exact h3⟩, h.one⟩
theorem h_copy (hA : ∀ f ∈ L.A, AtomOk P f) (hb : b.kind ≠ .early) (hl : ops.toList.map view = Lv) {q1 : Operand} {t te : TypeId} (hi : Lv[i]? = some (some d, .call { callee := .builtin .append, args := #[.const (.slice none 0 0), q1], argTypes := #[t, t] }, none)) (hd : d < N) (hat : AtE N D e a) {sz bytes : Nat} (hE : ElemK P t te sz bytes) (hr : Ready0 v)
    {sv : Value} {n : Nat} {xs : List Value} (hs : SlAt v sz sv n xs) (hq1 : opv e q1 = some sv) (h63 : n ≤ maxLen) (hbytes : n * bytes ≤ 140737488355328)
    (H : ∀ rv v' a', Copied v te sz n xs rv v' → AtE N D ((d, rv) :: e) a' → Hold P main S Stop (G (b.at a' (.inRegion ops rest :: k)) cs) v') :
    Hold P main S Stop (G (b.at a (.inRegion ops (i :: rest) :: k)) cs) v := by
  obtain ⟨i0, z, h1, h2, h3, h4, h5, h6, h7⟩ := hE
  refine h_any (L := L) hA hb hl hi (by rfl) hd hat hr (Q := fun y v' => v'.ownsRow 0 te sz y n xs ∧ (∀ k, k < v.heap.size → v'.heap[k]? = v.heap[k]?) ∧ v.heap.size ≤ v'.heap.size ∧ (∀ b, y.ownBlock = some b → v.heap.size ≤ b ∧ b < v'.heap.size)) (fun ρ o hρ ho tt dd => ?_) ?_
  · have g1 := hρ q1 _ hq1
    have g0 : ρ (.const (.slice none 0 0)) = .slice none 0 0 := hρ _ _ rfl
    by_cases hn : n = 0
    · subst hn
      obtain rfl : xs = [] := List.length_eq_zero_iff.1 (by have := hs.len; omega)
      have hsrc : Src P i0.size t sv 0 [] (v.re tt dd) := by
        rcases hs.at_ with ⟨c, rfl, _⟩ | ⟨ad, c, rfl, _⟩
        · exact Src.ofNil _ h1 c
        · exact Src.ofSlice _ h1 ad 0 c [] (by simp) (fun j u hj => by simp at hj) (fun u hu => by simp at hu)
      have := run_append_nothing (P := P) (v.re tt dd) t t o.type te i0 h1 h2 none 0 0 (Nat.le_refl _) sv hsrc
      refine ⟨.slice none 0 0, v.re tt dd, ?_, ⟨by simp, .inl ⟨rfl, rfl⟩⟩, fun _ _ => rfl, Nat.le_refl _, fun b hb => by cases hb⟩
      simp only [execOp, ho, resolve, invoke, builtin, Sem.run_bind, Sem.run_pure, Result.andThen_ok, List.map_toArray, List.map_cons, List.map_nil, g0, g1, this]
    · rcases hs.at_ with ⟨c, rfl, h⟩ | ⟨ad, c, rfl, hc⟩
      · exact absurd h hn
      · obtain ⟨g, cap, w', hr', k3, k4, k5, k6⟩ := run_append_lies (P := P) (v.re tt dd) t o.type 0 te i0 z sz bytes h1 h2 h3 h4 h5 h6 h7 (.slice none 0 0) 0 [] ⟨by simp, .inl ⟨rfl, rfl⟩⟩ ad n c xs hs.len hc hs.one (by omega) (by omega) (by rw [Nat.zero_add]; exact hbytes) (Nat.zero_le _) v.heap.size rfl
        rw [Nat.zero_add] at hr' k3
        have kg : g = v.heap.size := by
          rcases k5 with k5 | k5
          · cases k5
          · exact k5
        refine ⟨_, w', ?_, k3, fun k hk => k4.block k hk (by intro e; cases e), k4.size, fun b hb => ?_⟩
        · simp only [execOp, ho, resolve, invoke, builtin, Sem.run_bind, Sem.run_pure, Result.andThen_ok, List.map_toArray, List.map_cons, List.map_nil, g0, g1, hr']
        · cases hb
          exact ⟨Nat.le_of_eq kg.symm, k6⟩
  · rintro y v2 ⟨k1, k2, k3, k4⟩ hrd2 a2 hat2
    exact H y v2 a2 ⟨⟨k3, k2, fun _ => hrd2⟩, k1, k4⟩ hat2
theorem madeCells_get (z : Value) (n j : Nat) (h : j < n) : (madeCells #[z] n)[j]? = some z := by
  simp [madeCells, h, Nat.mod_one]
theorem r_make {v : World} {e : Env} {t te : TypeId} {z : Value} {bytes : Nat} (ht : P.underlying t = some (.slice te)) (hinfo : (P.info? te).map (fun i => (i.zero, i.size, i.bytes)) = some (some z, 1, bytes)) (hz1 : z.cells = #[z]) {q0 q1 : Operand} {n : Nat} (h0 : opv e q0 = some (.int .i64 (n : Int))) (h1 : opv e q1 = some (.int .i64 (n : Int))) (hb : bytes * n ≤ 281474976710656) (h63 : n ≤ 9223372036854775807) :
    RunsTo P e (.makeSlice t q0 q1) v (.value (.slice (some ⟨v.heap.size, 0, none⟩) n n)) (v.alloc (.cells (madeCells #[z] n) te (0, 0))) := fun ρ o hρ ho tt dd => by
  have hr := run_make_row' (P := P) t te z bytes ht hinfo hz1 .i64 .i64 n hb h63 (v.re tt dd)
  simp only [execOp, ho, hρ _ _ h0, hρ _ _ h1]
  exact run_then hr rfl
/-- A call under a guard that holds. -/
theorem hg_callc (hb : b.kind ≠ .early) (hl : ops.toList.map view = Lv) {f : FuncId} {qs : Array Operand} {ats : Array TypeId} {g dg : Nat} {gw : Bool} (hi : Lv[i]? = some (some d, .call { callee := .value (.func f), args := qs, argTypes := ats }, some (g, gw))) (hg : (Lv[g]?).bind (·.1) = some dg) (hlk : look e dg = some (.bool gw)) (hd : d < N) (hat : AtE N D e a)
    {fn : Func} (hf : P.funcs[f]? = some fn) (hbd : fn.body.isSome = true) (hn : (fn.name == "runtime.NumGoroutine") = false) {vals : Array Value} (ha : qs.toList.map (opv e) = vals.toList.map some)
    (H : ∀ c : Frame, (∀ x, ∃ a', AtE N D ((d, x) :: e) a' ∧ c.finish x = b.at a' (.inRegion ops rest :: k)) → Hold P main S Stop (G (Frame.enter P f vals .normal) (c :: cs)) v) : Hold P main S Stop (G (b.at a (.inRegion ops (i :: rest) :: k)) cs) v := by
  obtain ⟨o, ho, hdst, hop, hgd⟩ := at_viewg hl hi
  have hw : Region.wanted o (yielded ops a.tmps) = true := by simp [Region.wanted, hgd, yielded_of hl hg hat hlk]
  have hbk : ∀ td, ((b.at a td).kind == CallKind.early) = false := fun td => by simpa [Frame.at] using hb
  have hargs : qs.map a.eval = vals := by
    apply Array.ext'
    rw [Array.toList_map]
    have : ∀ (l : List Operand) (m : List Value), l.map (opv e) = m.map some → l.map a.eval = m := by
      intro l
      induction l with
      | nil => intro m h; cases m with
        | nil => rfl
        | cons _ _ => cases h
      | cons x l ih => intro m h; cases m with
        | nil => cases h
        | cons y m =>
          simp only [List.map_cons, List.cons.injEq] at h ⊢
          exact ⟨hat.eval h.1, ih m h.2⟩
    exact this _ _ ha
  refine hold_same (g' := G (Frame.enter P f vals .normal) (b.at a (.inRegion ops (i :: rest) :: k) :: cs)) rfl (fun w => ?_) (H _ fun x => ⟨_, hat.put hd x, by rw [fin_at ho, hdst]⟩)
  rw [stepG_oper ho hw]
  unfold stepG.apply
  have hr : (execOp a.eval o).runT P w #[] = (.ok (.enter f vals) w, #[]) := by
    have hn' : ¬ fn.name = "runtime.NumGoroutine" := by simpa using hn
    have hb' : fn.body.isNone = false := by cases h : fn.body <;> simp_all
    simp only [execOp, hop, resolve, act_func, hargs, Deferred.ofValue]
    show (invoke (.fn (.func f) #[]) (#[] ++ vals)).runT P w #[] = _
    simp only [invoke, callFunc]
    refine (Sem.runT_bind' P _ _ w #[]).trans ?_
    simp only [program, Sem.runT, hf, beq_iff_eq, hn', if_false, hb', Bool.false_eq_true]
    simp [pure, Sem.runT]
  simp only [if_true, hr, hbk, Bool.false_eq_true, if_false]
  have hs : seen P b.fn (#[] : Array Event) = #[] := by simp [seen]
  show GStep.after (seen P b.fn #[]) _ = _
  rw [hs]; rfl
end
end Go.Proofs.Ytecdiejeofclaaa


/- turn.New. -/
namespace Go.Proofs.Ytecdiejeofclaaa
open Go Go.Conc
theorem flat_own {v : World} {te : TypeId} {sz n : Nat} {xs : List Value} {rv : Value} (h : v.ownsRow 0 te sz rv n xs) : flatK rv = true := by
  rcases h.2 with ⟨rfl, _⟩ | ⟨g, cap, cur, rfl, _⟩ <;> rfl
theorem owns_grow {v v' : World} {te : TypeId} {sz n : Nat} {xs : List Value} {rv : Value} (h : v.ownsRow 0 te sz rv n xs) (g : Grow v v') : v'.ownsRow 0 te sz rv n xs := ownsRow_keep h fun b _ _ hb => g.same b (lt_of_heap hb)
section
variable {S : Addr → Prop} {main : Bool} {Stop : Goroutine → World → Prop} {cs : List Frame} {c : Frame} {v : World}
structure NewI (v : World) (sv : Value) (sl : List Int) (done : Nat → Bool) (a : Act) (w : World) : Prop where
  ex : ∃ e rv ch W, Grow v w ∧ AtE 8 [] e a ∧ look e 0 = some sv ∧ (done 0 = true → look e 3 = some sv) ∧
    (done 1 = true → look e 4 = some rv ∧ w.ownsRow 0 3 1 rv sl.length (ints sl) ∧ (∀ b, rv.ownBlock = some b → v.heap.size ≤ b ∧ b < w.heap.size)) ∧
    (done 2 = true → look e 5 = some (.chan (some ch)) ∧ w.heap[ch]? = some (.chan 0 #[] false 0 0 false) ∧ v.heap.size ≤ ch) ∧
    (done 3 = true → done 1 = true ∧ done 2 = true ∧ look e 6 = some (.agg #[rv, .int .i64 0, .int .i64 (-1), .slice none 0 0, .slice none 0 0, .slice none 0 0, .bool false, .bool false, .chan (some ch)])) ∧
    (done 4 = true → done 3 = true ∧ look e 7 = some (.pointer (some ⟨W, 0, none⟩)) ∧ w.heap[W]? = some (.cells #[rv, .int .i64 0, .int .i64 (-1), .slice none 0 0, .slice none 0 0, .slice none 0 0, .bool false, .bool false, .chan (some ch)] 74 (0, 0)) ∧ v.heap.size ≤ W ∧ rv.ownBlock ≠ some W) ∧
    (done 5 = true → done 4 = true ∧ look e 2 = some (.pointer (some ⟨W, 0, none⟩)))
theorem wNew_hold {sv : Value} {sl : List Int} (hr : Ready0 v) (hs : SlAt v 1 sv sl.length (ints sl)) (hlen : sl.length ≤ 2 ^ 44)
    (H : ∀ v' W ch rv, Grow v v' → v'.heap[W]? = some (.cells #[rv, .int .i64 0, .int .i64 (-1), .slice none 0 0, .slice none 0 0, .slice none 0 0, .bool false, .bool false, .chan (some ch)] 74 (0, 0)) → v.heap.size ≤ W → v.heap.size ≤ ch → v'.heap[ch]? = some (.chan 0 #[] false 0 0 false) →
      v'.ownsRow 0 3 1 rv sl.length (ints sl) → (∀ b, rv.ownBlock = some b → v.heap.size ≤ b) → rv.ownBlock ≠ some W → Hold Try.prog main S Stop (G (c.finish (.pointer (some ⟨W, 0, none⟩))) cs) v') :
    Hold Try.prog main S Stop (G (Frame.enter Try.prog 12 #[sv] .normal) (c :: cs)) v := by
  obtain ⟨b, a, hEq, hb, hbf, hat⟩ := enter_is wNew_fn wNew_body wNew_tmps #[sv] [(0, sv)] rfl (by simp)
  rw [hEq]
  have hbk := not_early hb
  refine hold_unf wNew_code_def <| hold_seq <| hold_region (l := [0]) rfl <| h_val noA hbk wNew_0 rfl rfl (by decide) hat (r_assign rfl) fun a hat => hold_region_end <| hold_seq <| hold_region_draw mixed_ok fun t => ?_
  refine draw_inv (σ := Unit) (fun _ g w => Hold Try.prog main S Stop g w) (by kernel_rfl) (fun done a _ w => NewI v sv sl done a w) ?_ ?_ _ t _ a () v (by simp) (unl_all _) ⟨_, .slice none 0 0, 0, 0, Grow.refl v, hat, rfl, fun h => ?_, fun h => ?_, fun h => ?_, fun h => ?_, fun h => ?_, fun h => ?_⟩
  · intro done a _ w i rest hI hi hdn hdeps K
    obtain ⟨e, rv, ch, W, hG, hat, q0, q3, q4, q5, q6, q7, q2⟩ := hI.ex
    have hsz := congrArg List.length wNew_1
    simp only [List.length_map, Array.length_toList, List.length_cons, List.length_nil] at hsz
    rw [hsz] at hi
    have hdep : ∀ j, (bdeps _ i).contains j = true → done j = true := fun j hj => hdeps j (by simpa using hj)
    rcases (show i = 0 ∨ i = 1 ∨ i = 2 ∨ i = 3 ∨ i = 4 ∨ i = 5 by omega) with rfl | rfl | rfl | rfl | rfl | rfl
    · refine h_val noA hbk wNew_1 rfl rfl (by decide) hat (r_move q0) fun a hat => ?_
      refine K a () w ⟨_, rv, ch, W, hG, hat, q0, fun h => rfl, fun h => q4 h, fun h => q5 h, fun h => q6 h, fun h => q7 h, fun h => q2 h⟩
    · have d0 := q3 (hdep 0 (by kernel_rfl))
      refine h_copy noA hbk wNew_1 rfl (by decide) hat ek_35 (hG.ready hr) (hs.grow hG) d0 (Nat.le_trans hlen (by decide)) (by omega) fun rv' w' a hC hat => ?_
      have n3 : done 3 = true → False := fun h => by have := (q6 h).1; rw [hdn] at this; cases this
      have n4 : done 4 = true → False := fun h => n3 (q7 h).1
      refine K a () w' ⟨_, rv', ch, W, hG.trans hC.grow, hat, q0, fun h => q3 h, fun h => ⟨rfl, hC.owns, fun b hb => ⟨Nat.le_trans hG.size (hC.new b hb).1, (hC.new b hb).2⟩⟩, fun h => ?_, fun h => (n3 h).elim, fun h => (n4 h).elim, fun h => (n4 (q2 h).1).elim⟩
      obtain ⟨x1, x2, x3⟩ := q5 h
      exact ⟨x1, hC.grow.at x2, x3⟩
    · refine h_val noA hbk wNew_1 rfl rfl (by decide) hat mc_chan fun a hat => ?_
      have hg : Grow w (w.alloc (.chan 0 #[] false 0 0 false)) := grow_chan
      have n3 : done 3 = true → False := fun h => by have := (q6 h).2.1; rw [hdn] at this; cases this
      have n4 : done 4 = true → False := fun h => n3 (q7 h).1
      refine K a () _ ⟨_, rv, w.heap.size, W, hG.trans hg, hat, q0, fun h => q3 h, fun h => ?_, fun h => ⟨rfl, ?_, hG.size⟩, fun h => (n3 h).elim, fun h => (n4 h).elim, fun h => (n4 (q2 h).1).elim⟩
      · obtain ⟨x1, x2, x3⟩ := q4 h
        exact ⟨x1, owns_grow x2 hg, fun b hb => ⟨(x3 b hb).1, Nat.lt_of_lt_of_le (x3 b hb).2 hg.size⟩⟩
      · show (w.heap.push _)[_]? = _; simp
    · have d1 := hdep 1 (by kernel_rfl)
      have d2 := hdep 2 (by kernel_rfl)
      obtain ⟨x1, x2, x3⟩ := q4 d1
      obtain ⟨y1, y2, y3⟩ := q5 d2
      refine h_val noA hbk wNew_1 rfl rfl (by decide) hat (bu_74_0_2_8 x1 (flat_own x2) rfl rfl y1 rfl) fun a hat => ?_
      have n4 : done 4 = true → False := fun h => by have := (q7 h).1; rw [hdn] at this; cases this
      refine K a () w ⟨_, rv, ch, W, hG, hat, q0, fun h => q3 h, fun h => q4 h, fun h => q5 h, fun h => ⟨d1, d2, rfl⟩, fun h => (n4 h).elim, fun h => (n4 (q2 h).1).elim⟩
    · have d3 := hdep 3 (by kernel_rfl)
      obtain ⟨d1, d2, x6⟩ := q6 d3
      obtain ⟨x1, x2, x3⟩ := q4 d1
      obtain ⟨y1, y2, y3⟩ := q5 d2
      refine h_val noA hbk wNew_1 rfl rfl (by decide) hat (bx_74 x6) fun a hat => ?_
      have hg : ∀ o, Grow w (w.alloc (.cells o 74 (0, 0))) := fun _ => grow_alloc
      refine K a () _ ⟨_, rv, ch, w.heap.size, hG.trans (hg _), hat, q0, fun h => q3 h, fun h => ⟨x1, owns_grow x2 (hg _), fun b hb => ⟨(x3 b hb).1, Nat.lt_of_lt_of_le (x3 b hb).2 (hg _).size⟩⟩, fun h => ⟨y1, (hg _).at y2, y3⟩, fun h => q6 h, fun h => ⟨d3, rfl, ?_, hG.size, fun hb => ?_⟩, fun h => ?_⟩
      · show (w.heap.push _)[_]? = _; simp
      · have := (x3 _ hb).2; omega
      · have := (q2 h).1; rw [hdn] at this; cases this
    · have d4 := hdep 4 (by kernel_rfl)
      refine h_val noA hbk wNew_1 rfl rfl (by decide) hat (r_assign (q7 d4).2.1) fun a hat => ?_
      refine K a () w ⟨_, rv, ch, W, hG, hat, q0, fun h => q3 h, fun h => q4 h, fun h => q5 h, fun h => q6 h, fun h => q7 h, fun h => ⟨d4, rfl⟩⟩
  · intro done a _ w hall hI
    obtain ⟨e, rv, ch, W, hG, hat, q0, q3, q4, q5, q6, q7, q2⟩ := hI.ex
    have hsz := congrArg List.length wNew_1
    simp only [List.length_map, Array.length_toList, List.length_cons, List.length_nil] at hsz
    rw [hsz] at hall
    obtain ⟨_, x7, x8, x9, x10⟩ := q7 (hall 4 (by omega))
    obtain ⟨_, x2⟩ := q2 (hall 5 (by omega))
    obtain ⟨_, z2, z3⟩ := q4 (hall 1 (by omega))
    obtain ⟨_, y2, y3⟩ := q5 (hall 2 (by omega))
    refine hold_region_end <| hold_retd hb hbf wNew_fn hat.defers (ret_one wNew_res hat x2) ?_
    exact H w W ch rv hG x8 x9 y3 y2 z2 (fun b hb => (z3 b hb).1) x10
  all_goals (simp only [none_done] at h; cases h)
end
end Go.Proofs.Ytecdiejeofclaaa


/- play.Run: the bodies. -/
namespace Go.Proofs.Ytecdiejeofclaaa
open Go Go.Conc
/-- The closure that is a thread's body. -/
abbrev bodyV (db vb : Nat) (lb ib : Nat) : Value := .func (.func 37) #[] #[.pointer (some ⟨lb, 0, none⟩), .pointer (some ⟨db, 0, none⟩), .pointer (some ⟨vb, 0, none⟩), .pointer (some ⟨ib, 0, none⟩)]
/-- The boxes of thread j. -/
structure BoxAt (lv : Nat → Value) (lo : Nat) (w : World) (lb ib : Nat → Nat) (j : Nat) : Prop where
  l : w.heap[lb j]? = some (.cells #[lv j] 25 (0, 0))
  i : w.heap[ib j]? = some (.cells #[.int .i64 j] 3 (0, 0))
  lo : lo ≤ lb j ∧ lo ≤ ib j
section
variable {S : Addr → Prop} {main : Bool} {Stop : Goroutine → World → Prop} {cs : List Frame} {c : Frame} {u : World}
theorem grow_cell {v v' : World} (g : Grow v v') {ad : Addr} {x : Value} (h : v.cell? ad = some x) : v'.cell? ad = some x := by
  have hlt : ad.block < v.heap.size := cell_low h
  unfold World.cell? at h ⊢
  rw [g.same _ hlt]; exact h
theorem BoxAt.grow {lv : Nat → Value} {lo : Nat} {v v' : World} {lb ib : Nat → Nat} {j : Nat} (h : BoxAt lv lo v lb ib j) (g : Grow v v') : BoxAt lv lo v' lb ib j := ⟨g.at h.l, g.at h.i, h.lo⟩
theorem PRun_loop {b : Frame} (hbk : b.kind ≠ .early) {k : List Item} {sb so cap0 nT : Nat} {lv : Nat → Value} (hT8 : nT ≤ 1000) (hr0 : Ready0 u) (hlv : ∀ j, j < nT → ∃ ad n cp, lv j = .slice ad n cp) {db vb : Nat} {wv : Value} (hsc : ∀ j, j < nT → u.cell? ⟨sb, so + j, none⟩ = some (lv j))
    (H : ∀ v a lb ib bv, Grow u v → (∀ j, j < nT → BoxAt lv u.heap.size v lb ib j) → v.ownsRow 0 92 1 bv nT ((List.range nT).map fun j => bodyV db vb (lb j) (ib j)) → (∀ b, bv.ownBlock = some b → u.heap.size ≤ b) →
      AtE 30 [] [(8, bv), (7, .pointer (some ⟨vb, 0, none⟩)), (0, wv)] a → Hold Try.prog main S Stop (G (b.at a k) cs) v) :
    ∀ (m i : Nat) (v : World) (a : Act) (lb ib : Nat → Nat) (bv : Value), i + m = nT → Grow u v → (∀ j, j < i → BoxAt lv u.heap.size v lb ib j) → v.ownsRow 0 92 1 bv i ((List.range i).map fun j => bodyV db vb (lb j) (ib j)) → (∀ b, bv.ownBlock = some b → u.heap.size ≤ b) →
      AtE 30 [] [(16, .int .i64 i), (15, .int .i64 nT), (14, .slice (some ⟨sb, so, none⟩) nT cap0), (8, bv), (7, .pointer (some ⟨vb, 0, none⟩)), (5, .pointer (some ⟨db, 0, none⟩)), (0, wv)] a →
      Hold Try.prog main S Stop (G (b.at a (.code PRun_L0 :: .inLoop PRun_L0 :: .inBlock 0 :: k)) cs) v := by
  intro m
  induction m with
  | zero =>
    intro i v a lb ib bv hm hG hB hO hbv hat
    obtain rfl : i = nT := by omega
    refine hold_unf PRun_L0_def <| hold_seq <| hold_region (l := [0]) rfl <| h_val noA hbk PRun_4 rfl rfl (by decide) hat (r_bool (t' := false) (r_lss rfl rfl) (by first | (simp; omega) | (simp; done) | (simp_all; done) | (simp_all; omega))) fun a hat => hold_region_end <| hold_seq <| hold_condF (hat.eval (q := .tmp 17) rfl) rfl <| hold_exit (k' := _) rfl ?_
    exact H v a lb ib bv hG hB hO hbv (hat.sub (AtE.cons rfl (AtE.cons rfl (AtE.cons rfl (AtE.nil)))))
  | succ m ih =>
    intro i u1 a lb ib bv hm hG1 hB hO hbv hat
    have hi : i < nT := by omega
    obtain ⟨ad, nn, cp, hl⟩ := hlv i hi
    have hci := grow_cell hG1 (hsc i hi)
    rw [hl] at hci
    have hG := Grow.refl u1
    refine hold_unf PRun_L0_def <| hold_seq <| hold_region (l := [0]) rfl <| h_val noA hbk PRun_4 rfl rfl (by decide) hat (r_bool (t' := true) (r_lss rfl rfl) (by first | (simp; omega) | (simp; done) | (simp_all; done) | (simp_all; omega))) fun a hat => hold_region_end <| hold_seq <| hold_condT (hat.eval (q := .tmp 17) rfl) rfl <| hold_skip <| hold_seq <| hold_block <| hold_seq <| hold_region (l := [0,1,2,3,4,5,6]) rfl <| h_val noA hbk PRun_5 rfl rfl (by decide) hat (r_move rfl) fun a hat => ?_
    refine h_val noA hbk PRun_5 rfl rfl (by decide) hat (r_index ix_26 rfl rfl (by omega) (by omega)) fun a hat => h_val noA hbk PRun_5 rfl rfl (by decide) hat (r_load ld_25 rfl (by simpa using hci)) fun a hat => h_new noA hbk PRun_5 rfl rfl (by decide) hat al_3 fun v a B9 hB9 hsB9 hg F9 hat => ?_
    have gB9 := Nat.le_trans hG.size (Nat.le_of_eq hB9)
    replace hG := hG.trans hg
    refine h_new noA hbk PRun_5 rfl rfl (by decide) hat al_25 fun v a B10 hB10 hsB10 hg F10 hat => ?_
    have n_F10_F9 := ne_new F9 hB10
    have gB10 := Nat.le_trans hG.size (Nat.le_of_eq hB10)
    replace hG := hG.trans hg
    replace F9 := hg.at F9
    refine h_put noA hbk PRun_5 rfl rfl hat (p_store st_3 rfl rfl rfl F9 rfl rfl) fun v a hP F9x hat => ?_
    simp only [List.setIfInBounds_toArray, List.set_cons_succ, List.set_cons_zero] at F9x
    replace F10 := hP.keep (by first | exact n_F9_F10 | exact n_F10_F9.symm | exact ne_of_types F10 F9 (by decide) | omega) F10
    replace hG := hG.put hP gB9
    replace F9 := F9x; clear F9x
    refine h_put noA hbk PRun_5 rfl rfl hat (p_store st_25 rfl rfl rfl F10 rfl rfl) fun v a hP F10x hat => ?_
    simp only [List.setIfInBounds_toArray, List.set_cons_succ, List.set_cons_zero] at F10x
    replace F9 := hP.keep (by first | exact n_F10_F9 | exact n_F9_F10.symm | exact ne_of_types F9 F10 (by decide) | omega) F9
    replace hG := hG.put hP gB10
    replace F10 := F10x; clear F10x
    refine hold_region_end <| hold_region (l := [0,1,2,3,4]) rfl <| h_val noA hbk PRun_6 rfl rfl (by decide) hat (r_move rfl) fun a hat => h_val noA hbk PRun_6 rfl rfl (by decide) hat (mf_37_4 rfl rfl rfl rfl) fun a hat => h_news noA hbk PRun_6 rfl rfl (by decide) hat (bs_90_1_0 rfl rfl) fun v a B23 hB23 hsB23 hg F23 hat => ?_
    have n_F23_F9 := ne_new F9 hB23
    have n_F23_F10 := ne_new F10 hB23
    have gB23 := Nat.le_trans hG.size (Nat.le_of_eq hB23)
    replace hG := hG.trans hg
    replace F9 := hg.at F9
    replace F10 := hg.at F10
    have hO' := owns_grow hO hG
    refine h_app noA hbk PRun_6 rfl (by decide) hat ek_90 ((hG1.trans hG).ready hr0) hO' rfl rfl F23 rfl (by simp [Value.oneCell']) (by decide) (Nat.le_trans (show _ ≤ 1001 by omega) (by decide)) (by omega) fun g cap v a hAp hat => ?_
    have hlt := fun b hb => (show bv.ownBlock = some b → b < u1.heap.size from fun h => by
      rcases hO.2 with ⟨rfl, _⟩ | ⟨g, cap', cur, rfl, _, hg', _⟩
      · cases h
      · cases h; exact lt_of_heap hg') hb
    refine h_val noA hbk PRun_6 rfl rfl (by decide) hat (r_assign rfl) fun a hat => hold_region_end <| hold_inBlock <| hold_region (l := [0,1]) rfl <| h_val noA hbk PRun_7 rfl rfl (by decide) hat (r_add rfl rfl (by first | omega | (simp; omega))) fun a hat => h_val noA hbk PRun_7 rfl rfl (by decide) hat (r_move rfl) fun a hat => hold_region_end <| hold_inLoop ?_
    refine ih (i + 1) v a (fun j => if j = i then B10 else lb j) (fun j => if j = i then B9 else ib j) _ (by omega) ?_ ?_ ?_ ?_ (hat.sub (AtE.cons rfl (AtE.cons rfl (AtE.cons rfl (AtE.cons rfl (AtE.cons rfl (AtE.cons rfl (AtE.cons rfl (AtE.nil)))))))))
    · exact (hAp.grow (hG1.trans hG) hbv).1
    · intro j hj
      by_cases e : j = i
      · subst e
        refine ⟨?_, ?_, ?_⟩
        · rw [if_pos rfl, hAp.same _ (lt_of_heap F10) fun e => by have := hlt _ e; omega, hl]; exact F10
        · rw [if_pos rfl, hAp.same _ (lt_of_heap F9) fun e => by have := hlt _ e; omega]; exact F9
        · rw [if_pos rfl, if_pos rfl]; have := hG1.size; omega
      · have hBj := (hB j (by omega)).grow hG
        have hno : ∀ x arr t fr, t ≠ 92 → u1.heap[x]? = some (.cells arr t fr) → bv.ownBlock ≠ some x := fun x arr t fr ht hx hb => by
          rcases hO.2 with ⟨rfl, _⟩ | ⟨g, cap', cur, rfl, _, hg', _⟩
          · cases hb
          · cases hb
            rw [hg'] at hx; cases hx; exact ht rfl
        have hB0 := hB j (by omega)
        refine ⟨?_, ?_, ?_⟩
        · rw [if_neg e, hAp.same _ (lt_of_heap hBj.l) (hno _ _ _ _ (by decide) hB0.l)]; exact hBj.l
        · rw [if_neg e, hAp.same _ (lt_of_heap hBj.i) (hno _ _ _ _ (by decide) hB0.i)]; exact hBj.i
        · rw [if_neg e, if_neg e]; exact hBj.lo
    · have := hAp.owns
      rw [List.range_succ, List.map_append, List.map_cons, List.map_nil, if_pos rfl, if_pos rfl]
      have e : ((List.range i).map fun j => bodyV db vb (if j = i then B10 else lb j) (if j = i then B9 else ib j)) = (List.range i).map fun j => bodyV db vb (lb j) (ib j) := List.map_congr_left fun j hj => by
        have : j ≠ i := by have := List.mem_range.1 hj; omega
        rw [if_neg this, if_neg this]
      rw [e]; exact this
    · exact (hAp.grow (hG1.trans hG) hbv).2
end
end Go.Proofs.Ytecdiejeofclaaa


/- play.Run, whole. -/
namespace Go.Proofs.Ytecdiejeofclaaa
open Go Go.Conc
/-- New memory alone; what was stands, and whose it was. -/
structure Ext (Γ : Gho) (u : World) (Γ' : Gho) (v : World) : Prop where
  grow : Grow u v
  same : Γ'.W = Γ.W ∧ Γ'.back = Γ.back ∧ Γ'.n0 = Γ.n0 ∧ Γ'.tb = Γ.tb ∧ Γ'.goes = Γ.goes ∧ Γ'.cb = Γ.cb ∧ Γ'.nc = Γ.nc
  own : ∀ b, b < u.heap.size → Γ'.own b = Γ.own b
theorem WI.extd {Γ Γ' : Gho} {A : Sys} {u v : World} (hW : WI Γ A u) (h : Ext Γ u Γ' v) : WI Γ' A v := by
  obtain ⟨W', back', n0', tb', goes', cb', nc', own'⟩ := Γ'
  obtain ⟨hg, ⟨e1, e2, e3, e4, e5, e6, e7⟩, ho⟩ := h
  simp only at e1 e2 e3 e4 e5 e6 e7 ho
  subst e1 e2 e3 e4 e5 e6 e7
  obtain ⟨sv, cv, tv, rv, hw, r1, r2, r3, r4, o1, o2, o3, o4, o5⟩ := hW.world
  have ow : ∀ {te : TypeId} {sz n : Nat} {x : Value} {xs : List Value}, u.ownsRow 0 te sz x n xs → v.ownsRow 0 te sz x n xs := fun r => owns_grow r hg
  have oi : ∀ {te : TypeId} {sz n : Nat} {x : Value} {xs : List Value}, u.ownsRow 0 te sz x n xs → isys Γ x → isys { Γ with own := own' } x := fun r hi b hb => by
    have hlt : b < u.heap.size := by
      rcases r.2 with ⟨rfl, _⟩ | ⟨g, cap', cur, rfl, _, hg', _⟩
      · cases hb
      · cases hb; exact lt_of_heap hg'
    exact (ho b hlt).trans (hi b hb)
  refine ⟨hg.ready hW.ready, ⟨sv, cv, tv, rv, hg.at hw, ow r1, ow r2, ow r3, ow r4, oi r1 o1, oi r2 o2, oi r3 o3, oi r4 o4, o5⟩, fun j t hj => ?_, ⟨?_, ?_, ?_⟩, fun c x hc => ?_, hW.used, hW.ints64, hW.chansApart, hW.backApart, hW.nc, hW.vals64⟩
  · obtain ⟨h1, ⟨k, h2⟩, h3, h4⟩ := hW.th j t hj
    exact ⟨hg.at h1, ⟨k, hg.at h2⟩, (ho _ (lt_of_heap h1)).trans h3, (ho _ (lt_of_heap h2)).trans h4⟩
  · obtain ⟨k, h2⟩ := hW.back.1
    exact ⟨k, hg.at h2⟩
  · obtain ⟨k, h2⟩ := hW.back.1
    exact (ho _ (lt_of_heap h2)).trans hW.back.2.1
  · exact (ho _ (lt_of_heap hw)).trans hW.back.2.2
  · obtain ⟨h1, h2⟩ := hW.cells c x hc
    exact ⟨hg.at h1, (ho _ (lt_of_heap h1)).trans h2⟩
theorem WNew.ready {Γ : Gho} {A : Sys} {u : World} (hN : WNew Γ A u) : Ready0 u := by
  obtain ⟨sv, us, la, cv, tv, rv, st, hw, hWI⟩ := hN.ex
  intro b x y hb
  by_cases e : b = Γ.W
  · rw [e, hw] at hb; cases hb
  · exact hWI.ready b x y ((stand_ne e).trans hb)
theorem WNew.extd {Γ Γ' : Gho} {A : Sys} {u v : World} (hN : WNew Γ A u) (h : Ext Γ u Γ' v) : WNew Γ' A v := by
  have hr := hN.ready
  obtain ⟨sv, us, la, cv, tv, rv, st, hw, hWI⟩ := hN.ex
  have hlt := lt_of_heap hw
  have e1 := h.same.1
  have e2 := h.same.2.1
  refine ⟨sv, us, la, cv, tv, rv, st, by rw [e1, e2]; exact h.grow.at hw, ?_⟩
  rw [e1, e2]
  refine hWI.extd ⟨⟨by rw [stand_size, stand_size]; exact h.grow.size, fun b hb => ?_, fun _ r x y hr' => ?_⟩, h.same, fun b hb => h.own b (by rw [stand_size] at hb; exact hb)⟩
  · rw [stand_size] at hb
    by_cases e : b = Γ.W
    · rw [e, stand_at hlt, stand_at (Nat.lt_of_lt_of_le hlt h.grow.size)]
    · rw [stand_ne e, stand_ne e]; exact h.grow.same b hb
  · by_cases e : r = Γ.W
    · rw [e, stand_at (Nat.lt_of_lt_of_le hlt h.grow.size)] at hr'; cases hr'
    · rw [stand_ne e] at hr'; exact h.grow.ready hr r x y hr'
section
variable {Done : Goroutine → World → Prop}
theorem PRun_run (sp : Spec) (hT0 : 0 < sp.nT) (hT8 : sp.nT ≤ 1000) (hdo : ∀ ob i, i < sp.nT → DoSpec i (FinOut i ob) sp.dov (sp.dop i) (sp.E i) (sp.l i) sp.H) (henv : ∀ i Γ v Γ' v', sp.E i [] Γ v → URely i Γ v Γ' v' → sp.E i [] Γ' v') {dvf : FuncId} {dvc : Array Value} (hdv : sp.dov = .func (.func dvf) #[] dvc)
    {f : Nat} {res : Sys × List Answers} {Γ : Gho} {A : Sys} {u : World} {I : Inbs} (hN : WNew Γ A u) (hth : A.ths = []) (hs : SchedOk A) (hn0 : 0 < Γ.n0) (hI : ∀ x, x ≠ 0 → I x = none) (hH : sp.H < u.heap.size) (hE : ∀ i Γ' v, i < sp.nT → Ext Γ u Γ' v → sp.E i [] Γ' v)
    {sb so cap0 : Nat} (hsc : ∀ j, j < sp.nT → u.cell? ⟨sb, so + j, none⟩ = some (sp.lv j)) (hscr : ∀ j, j < sp.nT → ScriptAt Γ u (sp.lv j) (sp.l j)) (hres : runs f A sp.progs = some res) (c0 : Frame) (cs : List Frame)
    (K : ∀ Γ' v' I' ob, WI Γ' res.1 v' → (∀ x, x ≠ 0 → I' x = none) → res.2.length = sp.nT → (∀ i r, res.2[i]? = some r → FinOut i ob r Γ' v') → MRely Γ u Γ' v' → u.heap.size ≤ ob → Run Try.prog Done S0 0 (Γ.n0 + sp.nT) I' (G (c0.finish (.slice (some ⟨ob, 0, none⟩) sp.nT sp.nT)) cs) v') :
    Run Try.prog Done S0 0 Γ.n0 I (G (Frame.enter Try.prog 25 #[.pointer (some ⟨Γ.W, 0, none⟩), .slice (some ⟨sb, so, none⟩) sp.nT cap0, sp.dov] .normal) (c0 :: cs)) u := by
  have hr0 := hN.ready
  have hG := Grow.refl u
  rw [hdv]
  refine Run.of_hold ?_
  obtain ⟨b, a, hEq, hb, hbf, hat⟩ := enter_is PRun_fn PRun_body PRun_tmps #[.pointer (some ⟨Γ.W, 0, none⟩), .slice (some ⟨sb, so, none⟩) sp.nT cap0, .func (.func dvf) #[] dvc] [(0, .pointer (some ⟨Γ.W, 0, none⟩)), (1, .slice (some ⟨sb, so, none⟩) sp.nT cap0), (2, .func (.func dvf) #[] dvc)] rfl (by simp)
  rw [hEq]
  have hbk := not_early hb
  refine hold_unf PRun_code_def <| hold_seq <| hold_region (l := [0,1]) rfl <| h_new noA hbk PRun_0 rfl rfl (by decide) hat (bx_70 rfl rfl) fun v a B5 hB5 hsB5 hg F5 hat => ?_
  have gB5 := Nat.le_trans hG.size (Nat.le_of_eq hB5)
  replace hG := hG.trans hg
  refine h_val noA hbk PRun_0 rfl rfl (by decide) hat (r_assign rfl) fun a hat => hold_region_end <| hold_seq <| hold_region (l := [0,1,2,3,4]) rfl <| h_val noA hbk PRun_1 rfl rfl (by decide) hat (r_move rfl) fun a hat => h_val noA hbk PRun_1 rfl rfl (by decide) hat (r_len lk_26 rfl) fun a hat => h_news noA hbk PRun_1 rfl rfl (by decide) hat (r_make Try.underlying29 (z := .slice none 0 0) (bytes := 24) (by kernel_rfl) rfl rfl rfl (by omega) (by omega)) fun v a B13 hB13 hsB13 hg F13 hat => ?_
  have n_F13_F5 := ne_new F5 hB13
  have gB13 := Nat.le_trans hG.size (Nat.le_of_eq hB13)
  replace hG := hG.trans hg
  replace F5 := hg.at F5
  refine h_new noA hbk PRun_1 rfl rfl (by decide) hat al_29 fun v a B7 hB7 hsB7 hg F7 hat => ?_
  have n_F7_F5 := ne_new F5 hB7
  have n_F7_F13 := ne_new F13 hB7
  have gB7 := Nat.le_trans hG.size (Nat.le_of_eq hB7)
  replace hG := hG.trans hg
  replace F5 := hg.at F5
  replace F13 := hg.at F13
  refine h_put noA hbk PRun_1 rfl rfl hat (p_store st_29 rfl rfl rfl F7 rfl rfl) fun v a hP F7x hat => ?_
  simp only [List.setIfInBounds_toArray, List.set_cons_succ, List.set_cons_zero] at F7x
  replace F5 := hP.keep (by first | exact n_F7_F5 | exact n_F5_F7.symm | exact ne_of_types F5 F7 (by decide) | omega) F5
  replace F13 := hP.keep (by first | exact n_F7_F13 | exact n_F13_F7.symm | exact ne_of_types F13 F7 (by decide) | omega) F13
  replace hG := hG.put hP gB7
  replace F7 := F7x; clear F7x
  refine hold_region_end <| hold_seq <| hold_region (l := [0]) rfl <| h_val noA hbk PRun_2 rfl rfl (by decide) hat (r_assign rfl) fun a hat => hold_region_end <| hold_seq <| hold_seq <| hold_region (l := [0,1,2]) rfl <| h_val noA hbk PRun_3 rfl rfl (by decide) hat (r_move rfl) fun a hat => h_val noA hbk PRun_3 rfl rfl (by decide) hat (r_len lk_26 rfl) fun a hat => h_val noA hbk PRun_3 rfl rfl (by decide) hat (r_move rfl) fun a hat => hold_region_end <| hold_block ?_
  refine hold_loop ?_
  refine PRun_loop hbk hT8 (hG.ready hr0) (fun j hj => ?_) (fun j hj => grow_cell hG (hsc j hj)) (fun v2 a lb ib bv hg hBx hbo hbn hat => ?_) sp.nT 0 v a (fun _ => 0) (fun _ => 0) (.slice none 0 0) (by omega) (Grow.refl v) (fun j hj => by omega) ⟨rfl, .inl ⟨rfl, rfl⟩⟩ (fun b hb => by cases hb) (hat.sub (AtE.cons rfl (AtE.cons rfl (AtE.cons rfl (AtE.cons rfl (AtE.cons rfl (AtE.cons rfl (AtE.cons rfl (AtE.nil)))))))))
  · obtain ⟨a, cap, h1, _⟩ := hscr j hj
    exact ⟨_, _, _, h1⟩
  have l5 := lt_of_heap F5
  have l7 := lt_of_heap F7
  have l13 := lt_of_heap F13
  obtain ⟨gB, capB, cur, rfl, _, hgB, hcap, hcapm, hcsz, htake⟩ := hbo.2.resolve_left (fun h => by have := h.2; omega)
  have hgBn := hbn gB rfl
  have szs := hG.size
  replace F5 := hg.at F5
  replace F13 := hg.at F13
  replace F7 := hg.at F7
  replace hG := hG.trans hg
  refine hold_seq <| hold_region (l := [0,1,2]) rfl <| h_val noA hbk PRun_8 rfl rfl (by decide) hat (r_move rfl) fun a hat => h_val noA hbk PRun_8 rfl rfl (by decide) hat (r_move rfl) fun a hat => h_callc hbk PRun_8 rfl (by decide) hat WRun_fn WRun_bd WRun_nm (vals := #[_, _]) rfl fun c hc => ?_
  have hX : Ext Γ u { Γ with own := fun b => if b < u.heap.size then Γ.own b else if b = B13 then .mixed else if b = gB then .main else .const } v2 := ⟨hG, ⟨rfl, rfl, rfl, rfl, rfl, rfl, rfl⟩, fun b hb => if_pos hb⟩
  have own13 : (fun b => if b < u.heap.size then Γ.own b else if b = B13 then .mixed else if b = gB then .main else Own.const) B13 = .mixed := by
    show (if B13 < u.heap.size then Γ.own B13 else if B13 = B13 then .mixed else if B13 = gB then .main else Own.const) = _
    rw [if_neg (by omega), if_pos rfl]
  have ownB : (fun b => if b < u.heap.size then Γ.own b else if b = B13 then .mixed else if b = gB then .main else Own.const) gB = .main := by
    show (if gB < u.heap.size then Γ.own gB else if gB = B13 then .mixed else if gB = gB then .main else Own.const) = _
    rw [if_neg (by omega), if_neg (by omega), if_pos rfl]
  have ownC : ∀ b, u.heap.size ≤ b → b ≠ B13 → b ≠ gB → (fun b => if b < u.heap.size then Γ.own b else if b = B13 then .mixed else if b = gB then .main else Own.const) b = .const := fun b h1 h2 h3 => by
    show (if b < u.heap.size then Γ.own b else if b = B13 then .mixed else if b = gB then .main else Own.const) = _
    rw [if_neg (by omega), if_neg h2, if_neg h3]
  generalize hown : (fun b => if b < u.heap.size then Γ.own b else if b = B13 then .mixed else if b = gB then .main else Own.const) = own' at hX own13 ownB ownC
  have hmr : MRely Γ u { Γ with own := own' } v2 := ⟨hG.size, ⟨rfl, rfl, rfl⟩, fun _ _ => rfl, fun b hb => hX.own b hb, fun b hb _ => hG.same b hb, fun b j hb _ => frozen_same (hG.same b hb), Nat.le_refl _⟩
  have c5 := ownC B5 (by omega) n_F13_F5 (by omega)
  have c7 := ownC B7 (by omega) n_F7_F13.symm (by omega)
  have cj : ∀ j, j < sp.nT → own' (lb j) = .const ∧ own' (ib j) = .const := fun j hj => by
    have hb := hBx j hj
    have hlo := hb.lo
    exact ⟨ownC _ (by omega) (by omega) (ne_of_types hb.l hgB (by decide)), ownC _ (by omega) (by omega) (ne_of_types hb.i hgB (by decide))⟩
  refine hold_run (WRun_run { sp with lb := lb, ib := ib, db := B5, vb := B7, ob := B13 } ⟨fun i hi => hdo B13 i hi, by show B13 ≠ sp.H; omega, henv⟩ hT0 hT8 (Γ := { Γ with own := own' }) (hN.extd hX) hth hs hn0 hI (fun j hj => ?_) (gB := gB) (capB := capB) ⟨fun j hj => ?_, lt_of_heap hgB, ownB⟩ hres c (c0 :: cs) fun Γ' v' I' hD hl hM => ?_)
  · have hb := hBx j hj
    refine ⟨⟨⟨cell_at' hb.l, lt_of_heap hb.l, (cj j hj).1⟩, ⟨(cell_at' F5).trans (by rw [hdv]; rfl), lt_of_heap F5, c5⟩, ⟨cell_at' F7, lt_of_heap F7, c7⟩, ⟨cell_at' hb.i, lt_of_heap hb.i, (cj j hj).2⟩, hj, ⟨lt_of_heap F13, own13⟩⟩, ⟨⟨_, (cell_at' F13).trans (madeCells_get _ _ _ hj)⟩, frozen_at' F13⟩, ?_, hE _ _ _ hj hX⟩
    obtain ⟨a, cap, h1, h2, h3⟩ := hscr j hj
    refine ⟨a, cap, h1, h2, fun x y hx => ?_⟩
    obtain ⟨B, O, g1, g2, g3, g4, g5, g6, g7⟩ := h3 x y hx
    exact ⟨B, O, g1, Nat.lt_of_lt_of_le g2 hG.size, (hX.own B g2).trans g3, grow_cell hG g4, grow_cell hG g5, grow_cell hG g6, grow_cell hG g7⟩
  · rw [cell_at' hgB]
    replace hj : j < sp.nT := hj
    have : cur.toList[j]? = some (bodyV B5 B7 (lb j) (ib j)) := by
      have h1 : (cur.toList.take (sp.nT * 1))[j]? = some (bodyV B5 B7 (lb j) (ib j)) := by rw [htake]; simp [hj]
      rw [List.getElem?_take_of_lt (by omega)] at h1; exact h1
    simpa using this
  · refine Run.of_hold <| hold_fin hc fun a hat => ?_
    replace F7 := (hM.keep B7 (lt_of_heap F7) (.inr c7)).trans F7
    refine hold_region_end <| hold_seq <| hold_region (l := [0,1]) rfl <| h_val noA hbk PRun_9 rfl rfl (by decide) hat (r_load ld_29 rfl (cell_at' F7)) fun a hat => h_val noA hbk PRun_9 rfl rfl (by decide) hat (r_assign rfl) fun a hat => hold_region_end <| hold_retd hb hbf PRun_fn hat.defers (ret_one PRun_res hat rfl) ?_
    exact hold_run (K Γ' v' I' B13 hD.wi hD.none_ (hD.len.trans hl) hD.fin (hmr.trans hM) (by omega))
end
end Go.Proofs.Ytecdiejeofclaaa


/- play.May. -/
namespace Go.Proofs.Ytecdiejeofclaaa
open Go Go.Conc
section
variable {S : Addr → Prop} {main : Bool} {Stop : Goroutine → World → Prop} {cs : List Frame} {c : Frame} {v : World}
/-- World.Ran, of a world. -/
theorem Ran_hold {W : Nat} {arr : Array Value} {fr : Nat × Nat} {ran : Bool} (hw : v.heap[W]? = some (.cells arr 74 fr)) (hr : arr[7]? = some (.bool ran)) (H : Hold Try.prog main S Stop (G (c.finish (.bool ran)) cs) v) :
    Hold Try.prog main S Stop (G (Frame.enter Try.prog 36 #[.pointer (some ⟨W, 0, none⟩)] .normal) (c :: cs)) v := by
  obtain ⟨b, a, hEq, hb, hbf, hat⟩ := enter_is Ran_fn Ran_body Ran_tmps #[.pointer (some ⟨W, 0, none⟩)] [(0, .pointer (some ⟨W, 0, none⟩))] rfl (by simp)
  rw [hEq]
  have hbk := not_early hb
  refine hold_unf Ran_code_def <| hold_seq <| hold_region (l := [0]) rfl <| h_val noA hbk Ran_0 rfl rfl (by decide) hat (r_assign rfl) fun a hat => hold_region_end <| hold_seq <| hold_region (l := [0,1,2,3,4,5,6,7,8]) rfl <| h_val noA hbk Ran_1 rfl rfl (by decide) hat (r_move rfl) fun a hat => h_val noA hbk Ran_1 rfl opOk_nil (by decide) hat (r_notnil nk_32 rfl) fun a hat => h_val noA hbk Ran_1 rfl rfl (by decide) hat (r_move rfl) fun a hat => hg_yes noA hbk Ran_1 rfl rfl rfl rfl (by decide) hat (r_move rfl) fun a hat => hg_yes noA hbk Ran_1 rfl rfl rfl rfl (by decide) hat (r_nil rfl) fun a hat => hg_yes noA hbk Ran_1 rfl rfl rfl rfl (by decide) hat (r_field fk_74_7 rfl) fun a hat => ?_
  refine hg_yes noA hbk Ran_1 rfl rfl rfl rfl (by decide) hat (r_load ld_4 rfl ((cell_at' hw).trans hr)) fun a hat => h_val noA hbk Ran_1 rfl rfl (by decide) hat (r_pick rfl rfl) fun a hat => h_val noA hbk Ran_1 rfl rfl (by decide) hat (r_assign rfl) fun a hat => hold_region_end <| hold_retd hb hbf Ran_fn hat.defers (ret_one Ran_res hat rfl) ?_
  exact H
/-- How May judges. -/
def mayE (n : Nat) (len : Nat → Nat) (ran : Bool) : Int := if ∃ j, j < n ∧ 64 < len j then 2 else if n < 1 ∨ 8 < n ∨ ran = true then 1 else 0
/-- The scripts' slice, as May reads it: their lengths. -/
structure Scripts (v : World) (sv : Value) (n : Nat) (lv : Nat → Value) (len : Nat → Nat) : Prop where
  at_ : ∃ ad cp, sv = .slice ad n cp ∧ ∀ j, j < n → ∃ B O, ad = some ⟨B, O, none⟩ ∧ v.cell? ⟨B, O + j, none⟩ = some (lv j)
  lens : ∀ j, j < n → ∃ ad cp, lv j = .slice ad (len j) cp
  small : n ≤ maxLen ∧ ∀ j, j < n → len j ≤ maxLen
theorem May_loop {sv wv fv : Value} {n : Nat} {lv : Nat → Value} {len : Nat → Nat} (hS : Scripts v sv n lv len) {b : Frame} (hb : b.kind = .normal) (hbf : b.fn = 24) {k : List Item}
    (H2 : (∃ j, j < n ∧ 64 < len j) → Hold Try.prog main S Stop (G (c.finish (.int .i64 2)) cs) v)
    (H : (¬ ∃ j, j < n ∧ 64 < len j) → ∀ a, AtE 43 [] [(0, wv), (1, sv), (2, fv)] a → Hold Try.prog main S Stop (G (b.at a k) (c :: cs)) v) :
    ∀ (m i : Nat) (a : Act), i + m = n → (∀ j, j < i → len j ≤ 64) → AtE 43 [] [(11, .int .i64 i), (10, .int .i64 n), (9, sv), (0, wv), (1, sv), (2, fv)] a →
      Hold Try.prog main S Stop (G (b.at a (.code May_L0 :: .inLoop May_L0 :: .inBlock 0 :: k)) (c :: cs)) v := by
  have hbk := not_early hb
  intro m
  induction m with
  | zero =>
    intro i a hm hj hat
    obtain rfl : i = n := by omega
    refine hold_unf May_L0_def <| hold_seq <| hold_region (l := [0]) rfl <| h_val noA hbk May_2 rfl rfl (by decide) hat (r_bool (t' := false) (r_lss rfl rfl) (by first | (simp; omega) | (simp; done) | (simp_all; done) | (simp_all; omega))) fun a hat => hold_region_end <| hold_seq <| hold_condF (hat.eval (q := .tmp 12) rfl) rfl <| hold_exit (k' := _) rfl ?_
    exact H (fun ⟨j, h1, h2⟩ => by have := hj j h1; omega) a (hat.sub (AtE.cons rfl (AtE.cons rfl (AtE.cons rfl (AtE.nil)))))
  | succ m ih =>
    intro i a hm hj hat
    have hi : i < n := by omega
    obtain ⟨ad, cp, rfl, hc⟩ := hS.at_
    obtain ⟨B, O, rfl, hci⟩ := hc i hi
    obtain ⟨ad2, cp2, hl⟩ := hS.lens i hi
    have hs1 := hS.small.1
    have hs2 := hS.small.2 i hi
    simp only [maxLen] at hs1 hs2
    rw [hl] at hci
    refine hold_unf May_L0_def <| hold_seq <| hold_region (l := [0]) rfl <| h_val noA hbk May_2 rfl rfl (by decide) hat (r_bool (t' := true) (r_lss rfl rfl) (by first | (simp; omega) | (simp; done) | (simp_all; done) | (simp_all; omega))) fun a hat => hold_region_end <| hold_seq <| hold_condT (hat.eval (q := .tmp 12) rfl) rfl <| hold_skip <| hold_seq <| hold_block <| hold_seq <| hold_region (l := [0,1,2]) rfl <| h_val noA hbk May_3 rfl rfl (by decide) hat (r_index ix_26 rfl rfl (by omega) (by omega)) fun a hat => ?_
    refine h_val noA hbk May_3 rfl rfl (by decide) hat (r_load ld_25 rfl (by simpa using hci)) fun a hat => h_val noA hbk May_3 rfl rfl (by decide) hat (r_assign rfl) fun a hat => hold_region_end <| hold_seq <| hold_region (l := [0,1,2]) rfl <| h_val noA hbk May_4 rfl rfl (by decide) hat (r_move rfl) fun a hat => h_val noA hbk May_4 rfl rfl (by decide) hat (r_len lk_25 rfl) fun a hat => ?_
    by_cases h : 64 < len i
    · refine h_val noA hbk May_4 rfl rfl (by decide) hat (r_bool (t' := true) (r_gtr rfl rfl) (by simp; omega)) fun a hat => hold_region_end <| hold_condT (hat.eval (q := .tmp 17) rfl) rfl <| hold_seq <| hold_region (l := [0]) rfl <| h_val noA hbk May_5 rfl rfl (by decide) hat (r_assign rfl) fun a hat => hold_region_end <| hold_retd hb hbf May_fn hat.defers (ret_one May_res hat rfl) ?_
      exact H2 ⟨i, hi, h⟩
    · skip
      refine h_val noA hbk May_4 rfl rfl (by decide) hat (r_bool (t' := false) (r_gtr rfl rfl) (by simp; omega)) fun a hat => hold_region_end <| hold_condF (hat.eval (q := .tmp 17) rfl) rfl <| hold_skip <| hold_inBlock <| hold_region (l := [0,1]) rfl <| h_val noA hbk May_6 rfl rfl (by decide) hat (r_add rfl rfl (by first | omega | (simp; omega))) fun a hat => h_val noA hbk May_6 rfl rfl (by decide) hat (r_move rfl) fun a hat => hold_region_end <| hold_inLoop ?_
      exact ih (i + 1) a (by omega) (fun j hj' => by
        by_cases e : j = i
        · subst e; omega
        · exact hj j (by omega)) (hat.sub (AtE.cons rfl (AtE.cons rfl (AtE.cons rfl (AtE.cons rfl (AtE.cons rfl (AtE.cons rfl (AtE.nil))))))))
/-- play.May, of a world. -/
theorem May_hold {W : Nat} {arr : Array Value} {fr : Nat × Nat} {ran : Bool} (hw : v.heap[W]? = some (.cells arr 74 fr)) (hr : arr[7]? = some (.bool ran)) {sv : Value} {n : Nat} {lv : Nat → Value} {len : Nat → Nat} (hS : Scripts v sv n lv len) (hsv : ∃ ad cp, sv = .slice ad n cp) {fv : Bool}
    (H : ∀ v', Grow v v' → Hold Try.prog main S Stop (G (c.finish (.int .i64 (mayE n len ran))) cs) v') :
    Hold Try.prog main S Stop (G (Frame.enter Try.prog 24 #[.pointer (some ⟨W, 0, none⟩), sv, .bool fv] .normal) (c :: cs)) v := by
  obtain ⟨ad, cp, rfl⟩ := hsv
  have hs1 := hS.small.1
  simp only [maxLen] at hs1
  have hG := Grow.refl v
  obtain ⟨b, a, hEq, hb, hbf, hat⟩ := enter_is May_fn May_body May_tmps #[.pointer (some ⟨W, 0, none⟩), .slice ad n cp, .bool fv] [(0, .pointer (some ⟨W, 0, none⟩)), (1, .slice ad n cp), (2, .bool fv)] rfl (by simp)
  rw [hEq]
  have hbk := not_early hb
  refine hold_unf May_code_def <| hold_seq <| hold_region (l := [0]) rfl <| h_val noA hbk May_0 rfl rfl (by decide) hat (r_assign rfl) fun a hat => hold_region_end <| hold_seq <| hold_seq <| hold_region (l := [0,1,2]) rfl <| h_val noA hbk May_1 rfl rfl (by decide) hat (r_move rfl) fun a hat => h_val noA hbk May_1 rfl rfl (by decide) hat (r_len lk_26 rfl) fun a hat => h_val noA hbk May_1 rfl rfl (by decide) hat (r_move rfl) fun a hat => hold_region_end <| hold_block ?_
  refine hold_loop ?_
  refine May_loop hS hb hbf (fun h => by have := H v (Grow.refl v); unfold mayE at this; rw [if_pos h] at this; exact this) (fun hno a hat => ?_) n 0 a (by omega) (fun j hj => by omega) (hat.sub (AtE.cons rfl (AtE.cons rfl (AtE.cons rfl (AtE.cons rfl (AtE.cons rfl (AtE.cons rfl (AtE.nil))))))))
  have hH : ∀ x, (if n < 1 ∨ 8 < n ∨ ran = true then (1 : Int) else 0) = x → Hold Try.prog main S Stop (G (c.finish (.int .i64 x)) cs) v := fun x hx => by
    have := H v (Grow.refl v); unfold mayE at this; rw [if_neg hno, hx] at this; exact this
  refine hold_seq <| hold_seq <| hold_region (l := [0,1,2,3,4,5,6,7,8,9,10,11,12,13,14,15,16,17,18,19,20,21,22,23]) rfl <| h_val noA hbk May_7 rfl rfl (by decide) hat (r_move rfl) fun a hat => h_val noA hbk May_7 rfl rfl (by decide) hat (r_len lk_26 rfl) fun a hat => ?_
  by_cases h1 : n < 1
  · refine h_val noA hbk May_7 rfl rfl (by decide) hat (r_bool (t' := true) (r_lss rfl rfl) (by simp; omega)) fun a hat => h_val noA hbk May_7 rfl rfl (by decide) hat (r_move rfl) fun a hat => hg_no May_7 rfl rfl rfl rfl (by decide) hat fun a hat => hg_no May_7 rfl rfl rfl rfl (by decide) hat fun a hat => hg_no May_7 rfl rfl rfl rfl (by decide) hat fun a hat => h_val noA hbk May_7 rfl rfl (by decide) hat (r_pick rfl rfl) fun a hat => h_val noA hbk May_7 rfl rfl (by decide) hat (r_move rfl) fun a hat => hg_no May_7 rfl rfl rfl rfl (by decide) hat fun a hat => hg_no May_7 rfl rfl rfl rfl (by decide) hat fun a hat => hg_no May_7 rfl rfl rfl rfl (by decide) hat fun a hat => hg_no May_7 rfl rfl rfl rfl (by decide) hat fun a hat => hg_no May_7 rfl rfl rfl rfl (by decide) hat fun a hat => hg_no May_7 rfl rfl rfl rfl (by decide) hat fun a hat => ?_
    refine h_val noA hbk May_7 rfl rfl (by decide) hat (r_pick rfl rfl) fun a hat => h_val noA hbk May_7 rfl rfl (by decide) hat (r_move rfl) fun a hat => hg_no May_7 rfl rfl rfl rfl (by decide) hat fun a hat => hg_no May_7 rfl rfl rfl rfl (by decide) hat fun a hat => hg_no May_7 rfl rfl rfl rfl (by decide) hat fun a hat => hg_no May_7 rfl rfl rfl rfl (by decide) hat fun a hat => hg_no May_7 rfl rfl rfl rfl (by decide) hat fun a hat => hg_no May_7 rfl rfl rfl rfl (by decide) hat fun a hat => h_val noA hbk May_7 rfl rfl (by decide) hat (r_pick rfl rfl) fun a hat => hold_region_end <| hold_condT (hat.eval (q := .tmp 42) rfl) rfl <| hold_seq <| hold_region (l := [0]) rfl ?_
    refine h_val noA hbk May_8 rfl rfl (by decide) hat (r_assign rfl) fun a hat => hold_region_end <| hold_retd hb hbf May_fn hat.defers (ret_one May_res hat rfl) ?_
    exact hH _ (if_pos (.inl h1))
  · skip
    refine h_val noA hbk May_7 rfl rfl (by decide) hat (r_bool (t' := false) (r_lss rfl rfl) (by simp; omega)) fun a hat => h_val noA hbk May_7 rfl rfl (by decide) hat (r_move rfl) fun a hat => hg_yes noA hbk May_7 rfl rfl rfl rfl (by decide) hat (r_move rfl) fun a hat => hg_yes noA hbk May_7 rfl rfl rfl rfl (by decide) hat (r_len lk_26 rfl) fun a hat => ?_
    by_cases h8 : 8 < n
    · refine hg_yes noA hbk May_7 rfl rfl rfl rfl (by decide) hat (r_bool (t' := true) (r_gtr rfl rfl) (by simp; omega)) fun a hat => h_val noA hbk May_7 rfl rfl (by decide) hat (r_pick rfl rfl) fun a hat => h_val noA hbk May_7 rfl rfl (by decide) hat (r_move rfl) fun a hat => hg_no May_7 rfl rfl rfl rfl (by decide) hat fun a hat => hg_no May_7 rfl rfl rfl rfl (by decide) hat fun a hat => hg_no May_7 rfl rfl rfl rfl (by decide) hat fun a hat => hg_no May_7 rfl rfl rfl rfl (by decide) hat fun a hat => hg_no May_7 rfl rfl rfl rfl (by decide) hat fun a hat => hg_no May_7 rfl rfl rfl rfl (by decide) hat fun a hat => h_val noA hbk May_7 rfl rfl (by decide) hat (r_pick rfl rfl) fun a hat => h_val noA hbk May_7 rfl rfl (by decide) hat (r_move rfl) fun a hat => hg_no May_7 rfl rfl rfl rfl (by decide) hat fun a hat => hg_no May_7 rfl rfl rfl rfl (by decide) hat fun a hat => ?_
      refine hg_no May_7 rfl rfl rfl rfl (by decide) hat fun a hat => hg_no May_7 rfl rfl rfl rfl (by decide) hat fun a hat => hg_no May_7 rfl rfl rfl rfl (by decide) hat fun a hat => hg_no May_7 rfl rfl rfl rfl (by decide) hat fun a hat => h_val noA hbk May_7 rfl rfl (by decide) hat (r_pick rfl rfl) fun a hat => hold_region_end <| hold_condT (hat.eval (q := .tmp 42) rfl) rfl <| hold_seq <| hold_region (l := [0]) rfl <| h_val noA hbk May_8 rfl rfl (by decide) hat (r_assign rfl) fun a hat => hold_region_end <| hold_retd hb hbf May_fn hat.defers (ret_one May_res hat rfl) ?_
      exact hH _ (if_pos (.inr (.inl h8)))
    · skip
      refine hg_yes noA hbk May_7 rfl rfl rfl rfl (by decide) hat (r_bool (t' := false) (r_gtr rfl rfl) (by simp; omega)) fun a hat => h_val noA hbk May_7 rfl rfl (by decide) hat (r_pick rfl rfl) fun a hat => h_val noA hbk May_7 rfl rfl (by decide) hat (r_move rfl) fun a hat => hg_yes noA hbk May_7 rfl rfl rfl rfl (by decide) hat (r_move rfl) fun a hat => hg_yes noA hbk May_7 rfl rfl rfl opOk_nil (by decide) hat (r_isnil nk_32 rfl) fun a hat => hg_yes noA hbk May_7 rfl rfl rfl rfl (by decide) hat (r_move rfl) fun a hat => hg_no May_7 rfl rfl rfl rfl (by decide) hat fun a hat => hg_no May_7 rfl rfl rfl rfl (by decide) hat fun a hat => hg_yes noA hbk May_7 rfl rfl rfl rfl (by decide) hat (r_pick rfl rfl) fun a hat => h_val noA hbk May_7 rfl rfl (by decide) hat (r_pick rfl rfl) fun a hat => h_val noA hbk May_7 rfl rfl (by decide) hat (r_move rfl) fun a hat => hg_yes noA hbk May_7 rfl rfl rfl rfl (by decide) hat (r_move rfl) fun a hat => ?_
      refine hg_yes noA hbk May_7 rfl rfl rfl opOk_nil (by decide) hat (r_notnil nk_32 rfl) fun a hat => hg_yes noA hbk May_7 rfl rfl rfl rfl (by decide) hat (r_move rfl) fun a hat => hg_yes noA hbk May_7 rfl rfl rfl rfl (by decide) hat (r_move rfl) fun a hat => hg_callc hbk May_7 rfl rfl rfl (by decide) hat Ran_fn Ran_bd Ran_nm (vals := #[_]) rfl fun c hc => Ran_hold hw hr ?_
      cases ran with
      | true =>
        refine hold_fin hc fun a hat => hg_yes noA hbk May_7 rfl rfl rfl rfl (by decide) hat (r_pick rfl rfl) fun a hat => h_val noA hbk May_7 rfl rfl (by decide) hat (r_pick rfl rfl) fun a hat => hold_region_end <| hold_condT (hat.eval (q := .tmp 42) rfl) rfl <| hold_seq <| hold_region (l := [0]) rfl <| h_val noA hbk May_8 rfl rfl (by decide) hat (r_assign rfl) fun a hat => hold_region_end <| hold_retd hb hbf May_fn hat.defers (ret_one May_res hat rfl) ?_
        exact hH _ (if_pos (.inr (.inr rfl)))
      | false =>
        refine hold_fin hc fun a hat => hg_yes noA hbk May_7 rfl rfl rfl rfl (by decide) hat (r_pick rfl rfl) fun a hat => h_val noA hbk May_7 rfl rfl (by decide) hat (r_pick rfl rfl) fun a hat => hold_region_end <| hold_condF (hat.eval (q := .tmp 42) rfl) rfl <| hold_skip <| hold_seq <| hold_region (l := [0]) rfl <| h_val noA hbk May_9 rfl rfl (by decide) hat (r_assign rfl) fun a hat => hold_region_end <| hold_retd hb hbf May_fn hat.defers (ret_one May_res hat rfl) ?_
        exact hH _ (if_neg (by simp; omega))
end
end Go.Proofs.Ytecdiejeofclaaa


/- World.Cell, cell.New, counter.New: of a world. -/
namespace Go.Proofs.Ytecdiejeofclaaa
open Go Go.Conc
/-- All stands but X. -/
structure Mods (X : Nat → Prop) (v v' : World) : Prop where
  size : v.heap.size ≤ v'.heap.size
  same : ∀ b, b < v.heap.size → ¬ X b → v'.heap[b]? = v.heap[b]?
  ready : Ready0 v → Ready0 v'
theorem Mods.trans {X : Nat → Prop} {u v w : World} (h : Mods X u v) (g : Mods X v w) : Mods X u w :=
  ⟨Nat.le_trans h.size g.size, fun b hb hx => (g.same b (Nat.lt_of_lt_of_le hb h.size) hx).trans (h.same b hb hx), fun r => g.ready (h.ready r)⟩
theorem Mods.at {X : Nat → Prop} {v v' : World} (h : Mods X v v') {b : Nat} {o : Obj} (hx : ¬ X b) (hb : v.heap[b]? = some o) : v'.heap[b]? = some o := (h.same b (lt_of_heap hb) hx).trans hb
theorem Grow.mods {X : Nat → Prop} {v v' : World} (h : Grow v v') : Mods X v v' := ⟨h.size, fun b hb _ => h.same b hb, h.ready⟩
theorem Mods.mono {X Y : Nat → Prop} {v v' : World} (h : Mods X v v') (hx : ∀ b, b < v.heap.size → X b → Y b) : Mods Y v v' := ⟨h.size, fun b hb hy => h.same b hb fun x => hy (hx b hb x), h.ready⟩
theorem Mods.grow {X : Nat → Prop} {v v' : World} (h : Mods X v v') (hx : ∀ b, b < v.heap.size → ¬ X b) : Grow v v' := ⟨h.size, fun b hb => h.same b hb (hx b hb), h.ready⟩
theorem own_lt {v : World} {te : TypeId} {sz n : Nat} {xs : List Value} {rv : Value} (h : v.ownsRow 0 te sz rv n xs) {b : Nat} (hb : rv.ownBlock = some b) : b < v.heap.size := by
  rcases h.2 with ⟨rfl, _⟩ | ⟨g, cap', cur, rfl, _, hg', _⟩
  · cases hb
  · cases hb; exact lt_of_heap hg'
theorem own_ne {v : World} {te : TypeId} {sz n : Nat} {xs : List Value} {rv : Value} (h : v.ownsRow 0 te sz rv n xs) {b : Nat} {arr : Array Value} {t : TypeId} {fr : Nat × Nat} (hb : v.heap[b]? = some (.cells arr t fr)) (hne : t ≠ te) : rv.ownBlock ≠ some b := fun e => by
  rcases h.2 with ⟨rfl, _⟩ | ⟨g, cap', cur, rfl, _, hg', _⟩
  · cases e
  · cases e; rw [hg'] at hb; cases hb; exact hne rfl
section
variable {S : Addr → Prop} {main : Bool} {Stop : Goroutine → World → Prop} {cs : List Frame} {c : Frame} {v : World}
theorem wCell_hold {W n : Nat} {rv us la cv tv tr st ran ch : Value} {xs : List Value} (hr : Ready0 v) (hw : v.heap[W]? = some (.cells #[rv, us, la, cv, tv, tr, st, ran, ch] 74 (0, 0))) (hcv : v.ownsRow 0 3 1 cv n xs) (hn : n ≤ 2 ^ 40)
    (H : ∀ v' cv', Mods (fun b => b = W ∨ cv.ownBlock = some b) v v' → v'.heap[W]? = some (.cells #[rv, us, la, cv', tv, tr, st, ran, ch] 74 (0, 0)) → v'.ownsRow 0 3 1 cv' (n + 1) (xs ++ [.int .i64 0]) → (cv'.ownBlock = cv.ownBlock ∨ ∀ b, cv'.ownBlock = some b → v.heap.size ≤ b) → Hold Try.prog main S Stop (G (c.finish (.int .i64 n)) cs) v') :
    Hold Try.prog main S Stop (G (Frame.enter Try.prog 40 #[.pointer (some ⟨W, 0, none⟩)] .normal) (c :: cs)) v := by
  have hG := Grow.refl v
  obtain ⟨b, a, hEq, hb, hbf, hat⟩ := enter_is wCell_fn wCell_body wCell_tmps #[.pointer (some ⟨W, 0, none⟩)] [(0, .pointer (some ⟨W, 0, none⟩))] rfl (by simp)
  rw [hEq]
  have hbk := not_early hb
  refine hold_unf wCell_code_def <| hold_seq <| hold_region (l := [0]) rfl <| h_val noA hbk wCell_0 rfl rfl (by decide) hat (r_assign rfl) fun a hat => hold_region_end <| hold_seq <| hold_seq <| hold_region (l := [0,1]) rfl <| h_val noA hbk wCell_1 rfl rfl (by decide) hat (r_move rfl) fun a hat => h_val noA hbk wCell_1 rfl opOk_nil (by decide) hat (r_isnil nk_32 rfl) fun a hat => hold_region_end <| hold_condF (hat.eval (q := .tmp 4) rfl) rfl <| hold_skip ?_
  refine hold_seq <| hold_region (l := [0,1,2,3,4,5,6,7,8,9]) rfl <| h_val noA hbk wCell_3 rfl rfl (by decide) hat (r_move rfl) fun a hat => h_val noA hbk wCell_3 rfl rfl (by decide) hat (r_move rfl) fun a hat => h_val noA hbk wCell_3 rfl rfl (by decide) hat (r_nil rfl) fun a hat => h_val noA hbk wCell_3 rfl rfl (by decide) hat (r_field fk_74_3 rfl) fun a hat => h_val noA hbk wCell_3 rfl rfl (by decide) hat (r_load ld_35 rfl (cell_at' (hG.at hw))) fun a hat => h_news noA hbk wCell_3 rfl rfl (by decide) hat (bs_35_1_0 rfl rfl) fun v a B10 hB10 hsB10 hg F10 hat => ?_
  have gB10 := Nat.le_trans hG.size (Nat.le_of_eq hB10)
  replace hG := hG.trans hg
  have hne := own_ne (owns_grow hcv hG) (hG.at hw) (by decide)
  refine h_app noA hbk wCell_3 rfl (by decide) hat ek_35 (hG.ready hr) (owns_grow hcv hG) rfl rfl F10 rfl (by simp [Value.oneCell']) (by decide) (Nat.le_trans (show n + 1 ≤ 2 ^ 40 + 1 by omega) (by decide)) (by omega) fun g cap v a hAp hat => ?_
  have hw4 := (hAp.same W (lt_of_heap (hG.at hw)) hne).trans (hG.at hw)
  refine h_val noA hbk wCell_3 rfl rfl (by decide) hat (r_nil rfl) fun a hat => h_val noA hbk wCell_3 rfl rfl (by decide) hat (r_field fk_74_3 rfl) fun a hat => ?_
  have hgW : g ≠ W := fun e => by
    rcases hAp.owns.2 with ⟨h, _⟩ | ⟨g', cap', cur, h, _, hg', _⟩
    · cases h
    · cases h; rw [e, hw4] at hg'; cases hg'
  refine h_put noA hbk wCell_3 rfl rfl hat (p_store st_35 rfl rfl rfl hw4 rfl rfl) fun v a hP hw5 hat => ?_
  simp only [List.setIfInBounds_toArray, List.set_cons_succ, List.set_cons_zero] at hw5
  refine hold_region_end <| hold_seq <| hold_region (l := [0,1,2,3,4,5,6]) rfl <| h_val noA hbk wCell_4 rfl rfl (by decide) hat (r_move rfl) fun a hat => h_val noA hbk wCell_4 rfl rfl (by decide) hat (r_nil rfl) fun a hat => h_val noA hbk wCell_4 rfl rfl (by decide) hat (r_field fk_74_3 rfl) fun a hat => h_val noA hbk wCell_4 rfl rfl (by decide) hat (r_load ld_35 rfl (cell_at' hw5)) fun a hat => h_val noA hbk wCell_4 rfl rfl (by decide) hat (r_len lk_35 rfl) fun a hat => h_val noA hbk wCell_4 rfl rfl (by decide) hat (r_sub rfl rfl (by first | omega | (simp; omega))) fun a hat => h_val noA hbk wCell_4 rfl rfl (by decide) hat (r_assign rfl) fun a hat => hold_region_end <| hold_retd hb hbf wCell_fn hat.defers (ret_one wCell_res hat rfl) ?_
  have e : ((n + 1 : Nat) : Int) - 1 = n := by omega
  rw [e]
  refine H _ _ ⟨?_, fun b hb hx => ?_, fun r => hP.ready hAp.ready⟩ hw5 ?_ ?_
  · rw [hP.size]; exact Nat.le_trans hG.size hAp.size
  · exact (hP.other b fun e => hx (.inl e)).trans ((hAp.same b (Nat.lt_of_lt_of_le hb hG.size) fun e => hx (.inr e)).trans (hG.same b hb))
  · exact ownsRow_keep hAp.owns fun b _ hb hb' => hP.other b fun e => by cases hb; exact hgW e
  · rcases hAp.where_ with h | h
    · exact .inl h.symm
    · exact .inr fun b hb => by cases hb; rw [h]; exact hG.size
theorem astore_hold {B O : Nat} {y : Int} {arr : Array Value} {t : TypeId} {fr : Nat × Nat} (hB : v.heap[B]? = some (.cells arr t fr)) {x : Value} (hc : arr[O]? = some x) (hf : (decide (fr.1 ≤ O) && decide (O < fr.2)) = false)
    (H : ∀ v', Puts v v' B (.cells (arr.setIfInBounds O (.int .i64 y)) t fr) → Hold Try.prog main S Stop (G (c.finish (.tuple #[])) cs) v') :
    Hold Try.prog main S Stop (G (Frame.enter Try.prog 41 #[.pointer (some ⟨B, O, none⟩), .int .i64 y] .normal) (c :: cs)) v := by
  obtain ⟨b, a, hE, hb, hbf, hat⟩ := enter_is AStore_fn AStore_body AStore_tmps #[.pointer (some ⟨B, O, none⟩), .int .i64 y] [(0, .pointer (some ⟨B, O, none⟩)), (1, .int .i64 y)] rfl (by simp)
  rw [hE]
  have hbk := not_early hb
  unfold AStore_code
  refine hold_region (l := [0,1,2,3,4]) rfl <| h_val lt_ok hbk AStore_0 rfl rfl (by decide) hat (r_move rfl) fun a hat => h_val lt_ok hbk AStore_0 rfl rfl (by decide) hat (r_nil rfl) fun a hat => h_val lt_ok hbk AStore_0 rfl rfl (by decide) hat (r_field fk_ai rfl) fun a hat => h_val lt_ok hbk AStore_0 rfl rfl (by decide) hat (r_move rfl) fun a hat => h_val (L := Lt) (v' := v.setCell ⟨B, O, none⟩ (.int .i64 y)) lt_ok hbk AStore_0 rfl (opOk_atom (by simp)) (by decide) hat (r_atom (vals := #[.pointer (some ⟨B, O, none⟩), .int .i64 y]) rfl (fun t d => run_call_store Try.func58 (by decide) rfl rfl rfl (show (v.re t d).cell? _ = _ from (cell_at' hB).trans hc) (show (v.re t d).frozen? _ = _ from (frozen_at' hB).trans hf))) fun a hat => hold_region_end <| hold_done hb hbf AStore_fn hat.defers (ret_none AStore_res _) ?_
  exact H _ (puts_set hB)
/-- cell.New, of a world. -/
theorem cellNew_hold {W n : Nat} {x0 : Int} {rv us la cv tv tr st ran ch : Value} {xs : List Value} (hr : Ready0 v) (hw : v.heap[W]? = some (.cells #[rv, us, la, cv, tv, tr, st, ran, ch] 74 (0, 0))) (hcv : v.ownsRow 0 3 1 cv n xs) (hn : n ≤ 2 ^ 40)
    (H : ∀ v' cv' B, Mods (fun b => b = W ∨ cv.ownBlock = some b) v v' → v'.heap[W]? = some (.cells #[rv, us, la, cv', tv, tr, st, ran, ch] 74 (0, 0)) → v'.ownsRow 0 3 1 cv' (n + 1) (xs ++ [.int .i64 0]) → (cv'.ownBlock = cv.ownBlock ∨ ∀ b, cv'.ownBlock = some b → v.heap.size ≤ b) →
      v.heap.size ≤ B → v'.heap[B]? = some (.cells #[.int .i64 n, .int .i64 x0] 100 (0, 0)) → Hold Try.prog main S Stop (G (c.finish (.pointer (some ⟨B, 0, none⟩))) cs) v') :
    Hold Try.prog main S Stop (G (Frame.enter Try.prog 29 #[.pointer (some ⟨W, 0, none⟩), .int .i64 x0] .normal) (c :: cs)) v := by
  obtain ⟨b, a, hEq, hb, hbf, hat⟩ := enter_is cellNew_fn cellNew_body cellNew_tmps #[.pointer (some ⟨W, 0, none⟩), .int .i64 x0] [(0, .pointer (some ⟨W, 0, none⟩)), (1, .int .i64 x0)] rfl (by simp)
  rw [hEq]
  have hbk := not_early hb
  refine hold_unf cellNew_code_def <| hold_seq <| hold_region (l := [0]) rfl <| h_val noA hbk cellNew_0 rfl rfl (by decide) hat (r_assign rfl) fun a hat => hold_region_end <| hold_seq <| hold_region (l := [0,1,2,3,4]) rfl <| h_val noA hbk cellNew_1 rfl rfl (by decide) hat (r_move rfl) fun a hat => h_callc hbk cellNew_1 rfl (by decide) hat wCell_fn wCell_bd wCell_nm (vals := #[_]) rfl fun c hc => wCell_hold hr hw hcv hn fun v cv' hM hw' hcv' hown => hold_fin hc fun a hat => ?_
  have hG := Grow.refl v
  refine h_val noA hbk cellNew_1 rfl rfl (by decide) hat (bu_100_0 rfl rfl) fun a hat => h_new noA hbk cellNew_1 rfl rfl (by decide) hat (bx_100 rfl) fun v a B9 hB9 hsB9 hg F9 hat => ?_
  have gB9 := Nat.le_trans hG.size (Nat.le_of_eq hB9)
  replace hG := hG.trans hg
  refine h_val noA hbk cellNew_1 rfl rfl (by decide) hat (r_assign rfl) fun a hat => hold_region_end <| hold_seq <| hold_region (l := [0,1,2,3,4]) rfl <| h_val noA hbk cellNew_2 rfl rfl (by decide) hat (r_move rfl) fun a hat => h_val noA hbk cellNew_2 rfl rfl (by decide) hat (r_nil rfl) fun a hat => h_val noA hbk cellNew_2 rfl rfl (by decide) hat (r_field fk_100_1 rfl) fun a hat => h_val noA hbk cellNew_2 rfl rfl (by decide) hat (r_move rfl) fun a hat => h_callc hbk cellNew_2 rfl (by decide) hat AStore_fn AStore_bd AStore_nm (vals := #[_, _]) rfl fun c hc => astore_hold F9 rfl rfl fun v hP => hold_fin hc fun a hat => ?_
  have F9 := hP.at_
  refine hold_region_end <| hold_seq <| hold_region (l := [0,1]) rfl <| h_val noA hbk cellNew_3 rfl rfl (by decide) hat (r_move rfl) fun a hat => h_val noA hbk cellNew_3 rfl rfl (by decide) hat (r_assign rfl) fun a hat => hold_region_end <| hold_retd hb hbf cellNew_fn hat.defers (ret_one cellNew_res hat rfl) ?_
  have hG2 := hG.put hP gB9
  refine H _ cv' B9 (hM.trans hG2.mods) (hG2.at hw') (owns_grow hcv' hG2) hown (Nat.le_trans hM.size gB9) F9
end
end Go.Proofs.Ytecdiejeofclaaa


/- Drawn regions whose great operations follow each other and change words of a world alone; counter.New. -/
namespace Go.Proofs.Ytecdiejeofclaaa
open Go Go.Conc
/-- Blocks of other types than a world's words stand. -/
structure KeepT (ts : List TypeId) (v v' : World) : Prop where
  size : v.heap.size ≤ v'.heap.size
  same : ∀ (b : Nat) (arr : Array Value) (t : TypeId) (fr : Nat × Nat), v.heap[b]? = some (.cells arr t fr) → t ∉ ts → v'.heap[b]? = some (.cells arr t fr)
theorem KeepT.refl (ts : List TypeId) (v : World) : KeepT ts v v := ⟨Nat.le_refl _, fun _ _ _ _ h _ => h⟩
theorem KeepT.trans {ts : List TypeId} {u v w : World} (h : KeepT ts u v) (g : KeepT ts v w) : KeepT ts u w := ⟨Nat.le_trans h.size g.size, fun b arr t fr hb h1 => g.same b arr t fr (h.same b arr t fr hb h1) h1⟩
theorem Grow.keepT {ts : List TypeId} {v v' : World} (h : Grow v v') : KeepT ts v v' := ⟨h.size, fun b arr t fr hb _ => h.at hb⟩
section
variable {S : Addr → Prop} {main : Bool} {Stop : Goroutine → World → Prop} {N : Nat} {D : List Deferred} {e : Env} {b : Frame} {a : Act} {k : List Item} {cs : List Frame} {v : World}
variable {ts : List TypeId} {L : Allow} {ops : Array Oper} {Lv : List (Option Nat × Op × Option (Nat × Bool))} {j d : Nat} {op : Op} {ord bigs l : List Nat}
abbrev TK (ts : List TypeId) (main : Bool) (S : Addr → Prop) (Stop : Goroutine → World → Prop) (N : Nat) (D : List Deferred) (b : Frame) (k : List Item) (cs : List Frame) (ops : Array Oper) (ord bigs l : List Nat) (e : Env) (v : World) : Prop :=
  Tx (fun w g => Hold Try.prog main S Stop g w) (KeepT ts) Eq N D b k cs ops ord bigs l e v
theorem hold_drawK {id : Nat} (hok : draw3Ok ops ord bigs = true) (hN : ((List.range ops.size).all fun i => (dstOf ops i).all (· < N)) = true) (hat : AtE N D e a) (H : TK ts main S Stop N D b k cs ops ord bigs ord e v) :
    Hold Try.prog main S Stop (G (b.at a (.code (.region id ops true) :: k)) cs) v :=
  hold_region_draw mixed_ok fun t => draw3 (P := Try.prog) (main := main) (X := fun w g => Hold Try.prog main S Stop g w) (R := KeepT ts) (Rs := Eq) (s := v) (KeepT.refl ts) (fun _ _ _ => KeepT.trans) (fun _ => rfl) (fun _ _ _ => Eq.trans) (fun _ _ h => by subst h; exact KeepT.refl ts _) (fun s g g' hr h => hold_same hr h) hok hat hN H t
theorem tk_val (hA : ∀ f ∈ L.A, AtomOk Try.prog f) (hb : b.kind ≠ .early) (hl : ops.toList.map view = Lv) (hi : Lv[j]? = some (some d, op, none)) (hok : opOk Try.prog L op = true) (hbig : bigs.contains j = false) {y : Value} (hrun : ∀ v', KeepT ts v v' → RunsTo Try.prog (restr e op) op v' (.value y) v')
    (H : TK ts main S Stop N D b k cs ops ord bigs l ((d, y) :: e) v) : TK ts main S Stop N D b k cs ops ord bigs (j :: l) e v := by
  obtain ⟨o, ho, hdst, hop, hgd⟩ := at_viewg hl hi
  unfold TK Tx
  rw [if_neg (by simpa using hbig)]
  refine ⟨y, ⟨o, d, ho, hdst, fun _ => ?_, fun g w h => by rw [hgd] at h; cases h⟩, by rw [dst_view hl, hi]; exact H⟩
  intro s' a rest hR hat hw K
  rw [hop] at hat
  refine hold_valW hA hb ho hw (by rw [hop]; exact hok) fun t dd => ⟨_, _, hrun s' hR _ o (fun q z hz => hat.eval hz) hop t dd, ?_⟩
  rw [hdst]
  exact (K s' rfl).re t dd
theorem tk_any (hA : ∀ f ∈ L.A, AtomOk Try.prog f) (hb : b.kind ≠ .early) (hl : ops.toList.map view = Lv) (hi : Lv[j]? = some (some d, op, none)) (hok : opOk Try.prog L op = true) (hbig : bigs.contains j = true) (hr : Ready0 v) {Q : Value → World → Prop}
    (hrun : ∀ (ρ : Operand → Value) (o : Oper), (∀ q z, opv (restr e op) q = some z → ρ q = z) → o.op = op → ∀ t dd, ∃ y v', (execOp ρ o).run Try.prog (v.re t dd) = .ok (.value y) v' ∧ Q y v')
    (hQ : ∀ y v', Q y v' → KeepT ts v v')
    (H : ∀ y v', Q y v' → Ready0 v' → TK ts main S Stop N D b k cs ops ord bigs l ((d, y) :: e) v') : TK ts main S Stop N D b k cs ops ord bigs (j :: l) e v := by
  obtain ⟨o, ho, hdst, hop, hgd⟩ := at_viewg hl hi
  unfold TK Tx
  rw [if_pos hbig]
  refine ⟨o, ho, hgd, ?_⟩
  rintro _ a rest rfl hat K
  rw [hop] at hat
  refine hold_valW hA hb ho (wanted_of hgd _) (by rw [hop]; exact hok) fun t dd => ?_
  obtain ⟨y, v', h1, h2⟩ := hrun a.eval o (fun q z hz => hat.eval hz) hop t dd
  refine ⟨y, v', h1, K v' y (.inr (hQ y v' h2)) ?_⟩
  rw [hdst]
  exact H y v' h2 (tame_ready (execOp_tame hA a.eval (act_const a) (act_func a) o (by rw [hop]; exact hok)) (w := v.re t dd) hr h1)
theorem tk_step (hA : ∀ f ∈ L.A, AtomOk Try.prog f) (hb : b.kind ≠ .early) (hl : ops.toList.map view = Lv) (hi : Lv[j]? = some (some d, op, none)) (hok : opOk Try.prog L op = true) (hbig : bigs.contains j = true) {y : Value} {v' : World} (hrun : RunsTo Try.prog (restr e op) op v (.value y) v') (hk : KeepT ts v v')
    (H : TK ts main S Stop N D b k cs ops ord bigs l ((d, y) :: e) v') : TK ts main S Stop N D b k cs ops ord bigs (j :: l) e v := by
  obtain ⟨o, ho, hdst, hop, hgd⟩ := at_viewg hl hi
  unfold TK Tx
  rw [if_pos hbig]
  refine ⟨o, ho, hgd, ?_⟩
  rintro _ a rest rfl hat K
  rw [hop] at hat
  refine hold_valW hA hb ho (wanted_of hgd _) (by rw [hop]; exact hok) fun t dd => ⟨_, _, hrun a.eval o (fun q z hz => hat.eval hz) hop t dd, Hold.re (K v' y (.inr hk) ?_) t dd⟩
  rw [hdst]
  exact H
theorem tk_put (hA : ∀ f ∈ L.A, AtomOk Try.prog f) (hb : b.kind ≠ .early) (hl : ops.toList.map view = Lv) (hi : Lv[j]? = some (none, op, none)) (hok : opOk Try.prog L op = true) (hbig : bigs.contains j = true) (hfull : fullB ops ord j = true) {B : Nat} {o : Obj} (hrun : ∃ v', RunsTo Try.prog (restr e op) op v .skip v' ∧ Puts v v' B o)
    (H : ∀ v', Puts v v' B o → TK ts main S Stop N D b k cs ops ord bigs l e v') : TK ts main S Stop N D b k cs ops ord bigs (j :: l) e v := by
  obtain ⟨o', ho, hdst, hop, hgd⟩ := at_viewg hl hi
  obtain ⟨v', h1, h2⟩ := hrun
  unfold TK Tx
  rw [if_pos hbig]
  refine ⟨o', ho, hgd, ?_⟩
  rintro _ a rest rfl hat K
  rw [hop] at hat
  refine hold_unitW hA hb ho (wanted_of hgd _) (by rw [hop]; exact hok) fun t dd => ?_
  refine ⟨v'.re t dd, h1 a.eval o' (fun q z hz => hat.eval hz) hop t dd, ?_⟩
  refine Hold.re (K v' undef (.inl hfull) ?_) t dd
  rw [hdst]
  exact H v' h2
theorem tk_call (hb : b.kind ≠ .early) (hl : ops.toList.map view = Lv) {f : FuncId} {qs : Array Operand} {ats : Array TypeId} (hi : Lv[j]? = some (some d, .call { callee := .value (.func f), args := qs, argTypes := ats }, none)) (hbig : bigs.contains j = true)
    {fn : Func} (hf : Try.prog.funcs[f]? = some fn) (hbd : fn.body.isSome = true) (hn : (fn.name == "runtime.NumGoroutine") = false) {vals : Array Value} (ha : qs.toList.map (opv (restr e (.call { callee := .value (.func f), args := qs, argTypes := ats }))) = vals.toList.map some)
    (H : ∀ c : Frame, (∀ y v', KeepT ts v v' → TK ts main S Stop N D b k cs ops ord bigs l ((d, y) :: e) v' → Hold Try.prog main S Stop (G (c.finish y) cs) v') → Hold Try.prog main S Stop (G (Frame.enter Try.prog f vals .normal) (c :: cs)) v) :
    TK ts main S Stop N D b k cs ops ord bigs (j :: l) e v := by
  obtain ⟨o, ho, hdst, hop, hgd⟩ := at_viewg hl hi
  unfold TK Tx
  rw [if_pos hbig]
  refine ⟨o, ho, hgd, ?_⟩
  rintro _ a rest rfl hat K
  rw [hop] at hat
  refine h_callv hb hl hi hat (f := f) (cap := #[]) rfl ha hf hbd hn ?_
  rw [Array.append_empty]
  refine H _ fun y v' hk ht => ?_
  rw [fin_at ho]
  refine K v' y (.inr hk) ?_
  rw [hdst]; exact ht
theorem tk_end (H : ∀ a, AtE N D e a → Hold Try.prog main S Stop (G (b.at a k) cs) v) : TK ts main S Stop N D b k cs ops ord bigs [] e v := by
  unfold TK Tx
  rintro _ a rfl hat
  exact hold_region_end (H a hat)
theorem app_runs {q0 q1 : Operand} {t te : TypeId} {sz bytes : Nat} (hE : ElemK Try.prog t te sz bytes) {ov : Value} {n : Nat} {xs : List Value} (hown : v.ownsRow 0 te sz ov n xs) (hq0 : opv e q0 = some ov) {B m c : Nat} {news : List Value} {fr : Nat × Nat} (hq1 : opv e q1 = some (.slice (some ⟨B, 0, none⟩) m c)) (hB : v.heap[B]? = some (.cells news.toArray te fr)) (hlen : news.length = m * sz) (hone : ∀ u ∈ news, u.oneCell' = true)
    (hm : 0 < m) (h63 : n + m ≤ maxLen) (hbytes : (n + m) * bytes ≤ 140737488355328) (ρ : Operand → Value) (o : Oper) (hρ : ∀ q z, opv e q = some z → ρ q = z) (ho : o.op = .call { callee := .builtin .append, args := #[q0, q1], argTypes := #[t, t] }) (tt : Tp) (dd : Nat) :
    ∃ y v', (execOp ρ o).run Try.prog (v.re tt dd) = .ok (.value y) v' ∧ ∃ g cap, y = .slice (some ⟨g, 0, none⟩) (n + m) cap ∧ (v.heap.size ≤ v'.heap.size ∧ ∀ b, b < v.heap.size → ov.ownBlock ≠ some b → v'.heap[b]? = v.heap[b]?) ∧ (Ready0 v' → Apped v ov te sz (n + m) (xs ++ news) g cap v') := by
  obtain ⟨i0, z, h1, h2, h3, h4, h5, h6, h7⟩ := hE
  have g1 := hρ q0 _ hq0
  have g2 := hρ q1 _ hq1
  obtain ⟨g, cap, w', hr', k3, k4, k5, k6⟩ := run_append_lies (P := Try.prog) (v.re tt dd) t o.type 0 te i0 z sz bytes h1 h2 h3 h4 h5 h6 h7 ov n xs hown ⟨B, 0, none⟩ m c news hlen (fun j u hj => (World.news_of_block (w := v.re tt dd) hB) j u (by simpa using hj)) hone hm h63 hbytes (Nat.zero_le _) v.heap.size rfl
  refine ⟨_, w', ?_, g, cap, rfl, ⟨k4.size, fun b hb hne => k4.block b hb fun e => hne e.symm⟩, fun hrd => ⟨k3, fun b hb hne => k4.block b hb fun e => hne e.symm, k4.size, k5, k6, hrd⟩⟩
  simp only [execOp, ho, resolve, invoke, builtin, Sem.run_bind, Sem.run_pure, Result.andThen_ok, List.map_toArray, List.map_cons, List.map_nil, g1, g2, hr']
end
section
variable {S : Addr → Prop} {main : Bool} {Stop : Goroutine → World → Prop} {N : Nat} {D : List Deferred} {e : Env} {b : Frame} {a : Act} {k : List Item} {cs : List Frame} {c : Frame} {v : World}
variable {ops : Array Oper} {Lv : List (Option Nat × Op × Option (Nat × Bool))} {i d : Nat} {rest : List Nat} {op : Op}
/-- An operation that yields a value, and neither reads nor writes. -/
theorem h_still {P : Program} (hb : b.kind ≠ .early) (hl : ops.toList.map view = Lv) (hi : Lv[i]? = some (some d, op, none)) (hd : d < N) (hat : AtE N D e a) {y : Value} (hrun : ∀ (ρ : Operand → Value) (o : Oper), (∀ q z, opv e q = some z → ρ q = z) → o.op = op → ∀ w, (execOp ρ o).runT P w #[] = (.ok (.value y) w, #[]))
    (H : ∀ a', AtE N D ((d, y) :: e) a' → Hold P main S Stop (G (b.at a' (.inRegion ops rest :: k)) cs) v) : Hold P main S Stop (G (b.at a (.inRegion ops (i :: rest) :: k)) cs) v := by
  obtain ⟨o, ho, hdst, hop, hg⟩ := at_view hl hi
  have hw : Region.wanted o (yielded ops a.tmps) = true := wanted_of hg _
  have hk' : (b.kind == CallKind.early) = false := by simpa using hb
  refine hold_same (g' := G (b.at (a.put (some d) y) (.inRegion ops rest :: k)) cs) rfl (fun w => ?_) (H _ (hat.put hd _))
  have hr := hrun a.eval o (fun q z hz => hat.eval hz) hop w
  have hfin : (b.at a (.inRegion ops (i :: rest) :: k)).finish y = b.at (a.put (some d) y) (.inRegion ops rest :: k) := by
    rw [Frame.finish_at, ho]; simp only [Option.bind_some, hdst]
  rw [stepG_oper ho hw, ← hfin]
  unfold stepG.apply
  have hs : seen P b.fn (#[] : Array Event) = #[] := by simp [seen]
  simp only [if_true, hr, show ((b.at a (.inRegion ops (i :: rest) :: k)).kind == CallKind.early) = false from hk', Bool.false_eq_true, if_false]
  show GStep.after (seen P b.fn #[]) _ = _
  rw [hs]; rfl
theorem r_max {P : Program} {q0 q1 : Operand} {ats : Array TypeId} {x y : Int} (h0 : opv e q0 = some (.int .i64 x)) (h1 : opv e q1 = some (.int .i64 y)) (ρ : Operand → Value) (o : Oper) (hρ : ∀ q z, opv e q = some z → ρ q = z) (ho : o.op = .call { callee := .builtin .max, args := #[q0, q1], argTypes := ats }) (w : World) :
    (execOp ρ o).runT P w #[] = (.ok (.value (.int .i64 (if y > x then y else x))) w, #[]) := by
  have e0 := hρ q0 _ h0
  have e1 := hρ q1 _ h1
  simp only [execOp, ho, resolve, List.map_toArray, List.map_cons, List.map_nil, e0, e1, invoke, builtin]
  simp [Builtin.max_, Builtin.max2, Sem.runT_eq]
theorem r_min {P : Program} {q0 q1 : Operand} {ats : Array TypeId} {x y : Int} (h0 : opv e q0 = some (.int .i64 x)) (h1 : opv e q1 = some (.int .i64 y)) (ρ : Operand → Value) (o : Oper) (hρ : ∀ q z, opv e q = some z → ρ q = z) (ho : o.op = .call { callee := .builtin .min, args := #[q0, q1], argTypes := ats }) (w : World) :
    (execOp ρ o).runT P w #[] = (.ok (.value (.int .i64 (if y < x then y else x))) w, #[]) := by
  have e0 := hρ q0 _ h0
  have e1 := hρ q1 _ h1
  simp only [execOp, ho, resolve, List.map_toArray, List.map_cons, List.map_nil, e0, e1, invoke, builtin]
  simp [Builtin.min_, Builtin.min2, Sem.runT_eq]
/-- A world's words for its cells are written; and new memory. -/
structure Cells (W : Nat) (rv us la tv tr st ran ch : Value) (cv0 : Value) (n : Nat) (xs : List Value) (u v : World) (cv : Value) (m : Nat) : Prop where
  mods : Mods (fun b => b = W ∨ cv0.ownBlock = some b) u v
  w : v.heap[W]? = some (.cells #[rv, us, la, cv, tv, tr, st, ran, ch] 74 (0, 0))
  owns : v.ownsRow 0 3 1 cv (n + m) (xs ++ List.replicate m (.int .i64 0))
  where_ : cv.ownBlock = cv0.ownBlock ∨ ∀ b, cv.ownBlock = some b → u.heap.size ≤ b
end
end Go.Proofs.Ytecdiejeofclaaa


/- counter's fields; functions whose results lie in memory. -/
namespace Go.Proofs.Ytecdiejeofclaaa
open Go Go.Conc
section
variable {P : Program} {S : Addr → Prop} {main : Bool} {Stop : Goroutine → World → Prop} {b : Frame} {a : Act} {k : List Item} {cs : List Frame} {v : World}
theorem hold_returnV {c : Frame} {fn : Func} {td : List Item} {x : Value} (hb : b.kind = .normal) (hf : P.funcs[b.fn]? = some fn) (hd : a.defers = []) (hx : ∀ t d, (results fn a.tmps).run P (v.re t d) = .ok x (v.re t d)) (H : Hold P main S Stop (G (c.finish x) cs) v) :
    Hold P main S Stop (G { b.at a td with mode := .returning } (c :: cs)) v :=
  .step _ v rfl fun t d => ⟨_, v.re t d, fun wa hs ht hd' => by
    have h := stepG_return (P := P) (m := main) (x := { b.at a td with mode := .returning }) (c := c) (cs := cs) (w := wa) rfl hd hb hf
    have hT := tame_results (P := P) fn a.tmps
    obtain ⟨w1, new, A⟩ := tame_sim hT #[] hs (hx t d) (fun c _ => by rw [ht, hd'])
    refine ⟨w1, seen P b.fn (#[] ++ new), ?_, A.sim, A.kept, A.tape, A.drawn, fun e he => A.evs e (by simpa using mem_seen he)⟩
    rw [h]
    have e : (results fn ({ b.at a td with mode := .returning } : Frame).tmps).runT P wa #[] = (.ok x w1, #[] ++ new) := A.run
    rw [e]
    simp [GStep.after, Frame.at], H.re t d⟩
theorem hold_retdV {c : Frame} {fn : Func} {f : FuncId} {x : Value} (hb : b.kind = .normal) (hbf : b.fn = f) (hf : P.funcs[f]? = some fn) (hd : a.defers = []) (hx : ∀ t d, (results fn a.tmps).run P (v.re t d) = .ok x (v.re t d)) (H : Hold P main S Stop (G (c.finish x) cs) v) :
    Hold P main S Stop (G (b.at a (.code .ret :: k)) (c :: cs)) v := hold_ret (.inl hb) (hold_returnV hb (by rw [hbf]; exact hf) hd hx H)
end
/-- What a variable holds. -/
def VarIs (P : Program) (v : World) (t : TypeId) (ad : Addr) (y : Value) : Prop := ∀ tt dd, (loadVar t ad).run P (v.re tt dd) = .ok y (v.re tt dd)
theorem var_field {v : World} {B O : Nat} {x0 x1 : Value} (h0 : v.cell? ⟨B, O, none⟩ = some x0) (h1 : v.cell? ⟨B, O + 1, none⟩ = some x1) : VarIs Try.prog v 85 ⟨B, O, none⟩ (.agg #[x0, x1]) := fun tt dd => by
  simp [go_sem, cell_re, h0, h1]
theorem var_answer {v : World} {B O : Nat} {x0 x1 : Value} (h0 : v.cell? ⟨B, O, none⟩ = some x0) (h1 : v.cell? ⟨B, O + 1, none⟩ = some x1) : VarIs Try.prog v 37 ⟨B, O, none⟩ (.agg #[x0, x1]) := fun tt dd => by
  simp [go_sem, cell_re, h0, h1]
theorem ret_cell1 {P : Program} {v : World} {fn : Func} {t : TypeId} {s N : Nat} {D : List Deferred} {e : Env} {a : Act} {ad : Addr} {y : Value} (h : fn.results = #[.cell s t]) (hat : AtE N D e a) (hs : look e s = some (.pointer (some ad))) (hv : VarIs P v t ad y) (tt : Tp) (dd : Nat) : (results fn a.tmps).run P (v.re tt dd) = .ok y (v.re tt dd) := by
  have e1 : a.tmps[s]?.getD undef = .pointer (some ad) := by rw [← Array.getD_eq_getD_getElem?]; exact hat.eval (q := .tmp s) hs
  simp [results, h, e1, asAddr, hv tt dd]
end Go.Proofs.Ytecdiejeofclaaa


/- Pure functions, walked: Mod, Id, fields, may. -/
namespace Go.Proofs.Ytecdiejeofclaaa
open Go Go.Conc
section
variable {S : Addr → Prop} {main : Bool} {Stop : Goroutine → World → Prop} {cs : List Frame} {c : Frame} {v : World}
theorem Id_hold {B : Nat} {arr : Array Value} {t : TypeId} {fr : Nat × Nat} {x : Value} (hB : v.heap[B]? = some (.cells arr t fr)) (hx : arr[1]? = some x) (H : Hold Try.prog main S Stop (G (c.finish x) cs) v) :
    Hold Try.prog main S Stop (G (Frame.enter Try.prog 28 #[.pointer (some ⟨B, 0, none⟩)] .normal) (c :: cs)) v := by
  obtain ⟨b, a, hEq, hb, hbf, hat⟩ := enter_is Id_fn Id_body Id_tmps #[.pointer (some ⟨B, 0, none⟩)] [(0, .pointer (some ⟨B, 0, none⟩))] rfl (by simp)
  rw [hEq]
  have hbk := not_early hb
  refine hold_unf Id_code_def <| hold_seq <| hold_region (l := [0]) rfl <| h_val noA hbk Id_0 rfl rfl (by decide) hat (r_assign rfl) fun a hat => hold_region_end <| hold_seq <| hold_region (l := [0,1,2,3,4]) rfl <| h_val noA hbk Id_1 rfl rfl (by decide) hat (r_move rfl) fun a hat => h_val noA hbk Id_1 rfl rfl (by decide) hat (r_nil rfl) fun a hat => h_val noA hbk Id_1 rfl rfl (by decide) hat (r_field fk_76_1 rfl) fun a hat => h_val noA hbk Id_1 rfl rfl (by decide) hat (r_load ld_3 rfl ((cell_at' hB).trans hx)) fun a hat => h_val noA hbk Id_1 rfl rfl (by decide) hat (r_assign rfl) fun a hat => hold_region_end ?_
  exact hold_retd hb hbf Id_fn hat.defers (ret_one Id_res hat rfl) H
end
end Go.Proofs.Ytecdiejeofclaaa


/- What the laws' functions share: how arguments, answers and traces read; the end of a run. -/
namespace Go.Proofs.Ytecdiejeofclaaa
open Go Go.Conc
open Classical in
/-- Whose is what, ahead of the run: the system's words; all else stands. -/
noncomputable def ownOf (X : Nat → Prop) : Nat → Own := fun b => if X b then .sys else .const
theorem ownOf_sys {X : Nat → Prop} {b : Nat} (h : X b) : ownOf X b = .sys := if_pos h
theorem ownOf_const {X : Nat → Prop} {b : Nat} (h : ¬ X b) : ownOf X b = .const := if_neg h
/-- A script that lies apart from X. -/
def ScrAt (X : Nat → Prop) (v : World) (lv : Value) (l : List ACall) : Prop :=
  ∃ a cap, lv = .slice a l.length cap ∧ ∀ (j : Nat) (x : ACall), l[j]? = some x → ∃ B O, a = some ⟨B, O, none⟩ ∧ B < v.heap.size ∧ ¬ X B ∧
    v.cell? ⟨B, O + j * 4, none⟩ = some (.int .i64 x.op) ∧ v.cell? ⟨B, O + j * 4 + 1, none⟩ = some (.int .i64 x.a) ∧ v.cell? ⟨B, O + j * 4 + 2, none⟩ = some (.int .i64 x.b) ∧ v.cell? ⟨B, O + j * 4 + 3, none⟩ = some (.int .i64 x.c)
/-- A new world stands. -/
structure NewW (u : World) (W ch : Nat) (rv : Value) (sl : List Int) : Prop where
  w : u.heap[W]? = some (.cells #[rv, .int .i64 0, .int .i64 (-1), .slice none 0 0, .slice none 0 0, .slice none 0 0, .bool false, .bool false, .chan (some ch)] 74 (0, 0))
  c : u.heap[ch]? = some (.chan 0 #[] false 0 0 false)
  owns : u.ownsRow 0 3 1 rv sl.length (ints sl)
/-- Its words' blocks. -/
def wordsOf (W ch : Nat) (rv : Value) (b : Nat) : Prop := b = W ∨ b = ch ∨ rv.ownBlock = some b
theorem sim_rows {v : World} : v.ownsRow 0 3 1 (.slice none 0 0) 0 [] := ⟨rfl, .inl ⟨rfl, rfl⟩⟩
/-- A slice of answers, as it reads. -/
def AnsAt (v : World) (av : Value) (r : List (Int × Int)) : Prop :=
  ∃ ad cap, av = .slice ad r.length cap ∧ ∀ (j : Nat) (x : Int × Int), r[j]? = some x → ∃ B O, ad = some ⟨B, O, none⟩ ∧ v.cell? ⟨B, O + j * 2, none⟩ = some (.int .i64 x.1) ∧ v.cell? ⟨B, O + j * 2 + 1, none⟩ = some (.int .i64 x.2)
def AnssAt (v : World) (av : Value) (rs : List (List (Int × Int))) : Prop :=
  ∃ ad cap, av = .slice ad rs.length cap ∧ ∀ (i : Nat) (r : List (Int × Int)), rs[i]? = some r → ∃ B O x, ad = some ⟨B, O, none⟩ ∧ v.cell? ⟨B, O + i, none⟩ = some x ∧ AnsAt v x r
theorem AnsAt.grow {v v' : World} {av : Value} {r : List (Int × Int)} (h : AnsAt v av r) (g : Grow v v') : AnsAt v' av r := by
  obtain ⟨ad, cap, h1, h2⟩ := h
  exact ⟨ad, cap, h1, fun j x hx => by obtain ⟨B, O, e1, e2, e3⟩ := h2 j x hx; exact ⟨B, O, e1, grow_cell g e2, grow_cell g e3⟩⟩
theorem AnssAt.grow {v v' : World} {av : Value} {rs : List (List (Int × Int))} (h : AnssAt v av rs) (g : Grow v v') : AnssAt v' av rs := by
  obtain ⟨ad, cap, h1, h2⟩ := h
  exact ⟨ad, cap, h1, fun j x hx => by obtain ⟨B, O, y, e1, e2, e3⟩ := h2 j x hx; exact ⟨B, O, y, e1, grow_cell g e2, e3.grow g⟩⟩
theorem ansFlat_get : ∀ (r : List (Int × Int)) (j : Nat) (x : Int × Int), r[j]? = some x → (ansFlat r)[j * 2]? = some (.int .i64 x.1) ∧ (ansFlat r)[j * 2 + 1]? = some (.int .i64 x.2)
  | [], j, x, h => by cases h
  | y :: r, 0, x, h => by
    simp only [List.getElem?_cons_zero, Option.some.injEq] at h
    subst h
    exact ⟨rfl, rfl⟩
  | y :: r, j + 1, x, h => by
    have := ansFlat_get r j x (by simpa using h)
    have e : ansFlat (y :: r) = .int .i64 y.1 :: .int .i64 y.2 :: ansFlat r := by simp [ansFlat]
    rw [e]
    refine ⟨?_, ?_⟩
    · rw [show (j + 1) * 2 = (j * 2 + 1) + 1 by omega, List.getElem?_cons_succ, List.getElem?_cons_succ]; exact this.1
    · rw [show (j + 1) * 2 + 1 = (j * 2 + 1 + 1) + 1 by omega, List.getElem?_cons_succ, List.getElem?_cons_succ]; exact this.2
theorem ansAt_own {v : World} {ov : Value} {r : List (Int × Int)} (h : v.ownsRow 0 37 2 ov r.length (ansFlat r)) : AnsAt v ov r := by
  rcases h.2 with ⟨rfl, h0⟩ | ⟨g, cap, cur, rfl, _, hg, _, _, _, ht⟩
  · rw [List.length_eq_zero_iff.1 h0]
    exact ⟨none, 0, rfl, fun j x hx => by cases hx⟩
  · refine ⟨_, cap, rfl, fun j x hx => ⟨g, 0, rfl, ?_⟩⟩
    obtain ⟨h1, h2⟩ := ansFlat_get r j x hx
    have hj := (List.getElem?_eq_some_iff.1 hx).1
    rw [cell_at' hg, cell_at' hg]
    rw [← ht, List.getElem?_take_of_lt (by omega)] at h1 h2
    refine ⟨?_, ?_⟩
    · rw [Nat.zero_add]; simpa using h1
    · rw [Nat.zero_add]; simpa using h2
theorem anssAt_fin {v : World} {Γ : Gho} {ob n : Nat} {rs : List (List (Int × Int))} (hl : rs.length = n) (h : ∀ i r, rs[i]? = some r → FinOut i ob r Γ v) : AnssAt v (.slice (some ⟨ob, 0, none⟩) n n) rs := by
  subst hl
  refine ⟨_, _, rfl, fun i r hr => ?_⟩
  obtain ⟨_, ov, h1, h2, _⟩ := h i r hr
  exact ⟨ob, 0, ov, rfl, by rw [Nat.zero_add]; exact h1, ansAt_own h2⟩
/-- A slice of ints, as it reads. -/
def IntsAt (v : World) (sv : Value) (A : List Int) : Prop :=
  ∃ ad cp, sv = .slice ad A.length cp ∧ ∀ (i : Nat) (x : Int), A[i]? = some x → ∃ B O, ad = some ⟨B, O, none⟩ ∧ v.cell? ⟨B, O + i, none⟩ = some (.int .i64 x)
theorem IntsAt.grow {v v' : World} {sv : Value} {A : List Int} (h : IntsAt v sv A) (g : Grow v v') : IntsAt v' sv A := by
  obtain ⟨ad, cp, h1, h2⟩ := h
  exact ⟨ad, cp, h1, fun i x hx => by obtain ⟨B, O, e1, e2⟩ := h2 i x hx; exact ⟨B, O, e1, grow_cell g e2⟩⟩
theorem stepG_done {P : Program} {b : Frame} {a : Act} {td : List Item} {fn : Func} {t : Tmp} {x : Value} {w : World} (hb : b.kind = .normal) (hf : P.funcs[b.fn]? = some fn) (hi : P.inits.idxOf? b.fn = none) (hd : a.defers = []) (hr : fn.results = #[.tmp t]) (hx : a.tmps.getD t undef = x) :
    stepG P true (G { b.at a td with mode := .returning } []) w = .ended (.done x) w #[] := by
  have e2 : (results fn a.tmps).runT P w #[] = (.ok x w, #[]) := by
    rw [← hx]
    simp [results, hr]
  have hs : seen P b.fn (#[] : Array Event) = #[] := by simp [seen]
  simp only [G, stepG, Frame.at, unwind, hd, hf, e2, doReturn, hb, hi]
  simp [GStep.after, hs]
/-- How the law's run ends. -/
def AlonePost (u W0 : World) (x : Value) (w : World) : Prop := x = .bool true ∧ ∃ v S, Grow u v ∧ Sim false S v w ∧ Shape W0 w
/-- A row of n cells. -/
def rowF (n : Nat) (f : Nat → Value) : Array Value := ((List.range n).map f).toArray
theorem rowF_get {n i : Nat} {f : Nat → Value} (h : i < n) : (rowF n f)[i]? = some (f i) := by simp [rowF, h]
theorem rowF_congr {n : Nat} {f g : Nat → Value} (h : ∀ j, j < n → f j = g j) : rowF n f = rowF n g := by
  unfold rowF
  rw [List.map_congr_left fun j hj => h j (List.mem_range.1 hj)]
/-- A trace, as it reads. -/
def TrAt (v : World) (tv : Value) (T : List TStep) : Prop :=
  ∃ ad cap, tv = .slice ad T.length cap ∧ ∀ (j : Nat) (x : TStep), T[j]? = some x → ∃ B O, ad = some ⟨B, O, none⟩ ∧ v.cell? ⟨B, O + j * 5, none⟩ = some (.int .i64 x.th) ∧ v.cell? ⟨B, O + j * 5 + 1, none⟩ = some (.int .i64 x.cell) ∧ v.cell? ⟨B, O + j * 5 + 2, none⟩ = some (.int .i64 x.op) ∧
    v.cell? ⟨B, O + j * 5 + 3, none⟩ = some (.int .i64 x.old) ∧ v.cell? ⟨B, O + j * 5 + 4, none⟩ = some (.int .i64 x.new)
theorem TrAt.grow {v v' : World} {tv : Value} {T : List TStep} (h : TrAt v tv T) (g : Grow v v') : TrAt v' tv T := by
  obtain ⟨ad, cap, h1, h2⟩ := h
  exact ⟨ad, cap, h1, fun j x hx => by obtain ⟨B, O, e1, e2, e3, e4, e5, e6⟩ := h2 j x hx; exact ⟨B, O, e1, grow_cell g e2, grow_cell g e3, grow_cell g e4, grow_cell g e5, grow_cell g e6⟩⟩
section
variable {S : Addr → Prop} {main : Bool} {Stop : Goroutine → World → Prop} {cs : List Frame} {c : Frame} {v : World}
end
/-- Scripts, as they read. -/
def CallsAt (v : World) (lv : Value) (l : List ACall) : Prop :=
  ∃ ad cap, lv = .slice ad l.length cap ∧ ∀ (j : Nat) (x : ACall), l[j]? = some x → ∃ B O, ad = some ⟨B, O, none⟩ ∧ v.cell? ⟨B, O + j * 4, none⟩ = some (.int .i64 x.op) ∧ v.cell? ⟨B, O + j * 4 + 1, none⟩ = some (.int .i64 x.a) ∧ v.cell? ⟨B, O + j * 4 + 2, none⟩ = some (.int .i64 x.b) ∧ v.cell? ⟨B, O + j * 4 + 3, none⟩ = some (.int .i64 x.c)
def ScrsAt (v : World) (sv : Value) (n : Nat) (L : Nat → List ACall) : Prop :=
  ∃ ad cap, sv = .slice ad n cap ∧ ∀ j, j < n → ∃ B O lv, ad = some ⟨B, O, none⟩ ∧ v.cell? ⟨B, O + j, none⟩ = some lv ∧ CallsAt v lv (L j)
theorem rowF_made (z : Value) (n : Nat) : madeCells #[z] n = rowF n fun _ => z := by
  apply Array.ext_getElem?
  intro j
  by_cases h : j < n
  · rw [madeCells_get _ _ _ h, rowF_get h]
  · rw [Array.getElem?_eq_none (by rw [size_madeCells]; omega), Array.getElem?_eq_none (by simp [rowF]; omega)]
theorem ScrsAt.keep {u v : World} {ssv : Value} {n : Nat} {L : Nat → List ACall} (h : ScrsAt u ssv n L) (hg : Grow u v) : ScrsAt v ssv n L := by
  obtain ⟨ad, cap, h1, h2⟩ := h
  refine ⟨ad, cap, h1, fun j hj => ?_⟩
  obtain ⟨B, O, lv, e1, e2, ad', cap', e3, e4⟩ := h2 j hj
  exact ⟨B, O, lv, e1, grow_cell hg e2, ad', cap', e3, fun j x hx => by obtain ⟨B, O, f1, f2, f3, f4, f5⟩ := e4 j x hx; exact ⟨B, O, f1, grow_cell hg f2, grow_cell hg f3, grow_cell hg f4, grow_cell hg f5⟩⟩
/-- The end of a law's run. -/
theorem law_end {u W0 v : World} {N : Nat} {I : Inbs} (hI : ∀ x, x ≠ 0 → I x = none) (hG : Grow u v) {b : Frame} {a : Act} {k : List Item} {fn : Func} {t : Tmp} (hb : b.kind = .normal) (hf : Try.prog.funcs[b.fn]? = some fn) (hi : Try.prog.inits.idxOf? b.fn = none) (hr : fn.results = #[.tmp t]) {M : Nat} {e : Env} (hat : AtE M [] e a) (ht : look e t = some (.bool true)) {S : Addr → Prop} {m : Bool} :
    Hold Try.prog m S (fun g w => Run Try.prog (AtDone Try.prog W0 (AlonePost u W0)) S0 0 N I g w) (G (b.at a (.code .ret :: k)) []) v := by
  refine hold_ret (.inl hb) ?_
  refine .stop _ _ fun t' d => Run.re (Run.fin hI fun t' d => ⟨rfl, .bool true, fun S w hs hsh => ⟨stepG_done hb hf hi hat.defers hr (hat.eval (q := .tmp t) ht), rfl, _, S, ?_, hs, hsh⟩⟩) t' d
  exact ⟨hG.size, hG.same, hG.ready⟩
end Go.Proofs.Ytecdiejeofclaaa


/- Plain: fields of words, on natural numbers. -/
namespace Go.Proofs.Ytecdiejeofclaaa
open Go
def u64 (x : Int) : Nat := (x % 18446744073709551616).toNat
def i64 (n : Nat) : Int := IntKind.i64.wrap n
def getN (n a b : Nat) : Nat := n / 2 ^ a % 2 ^ b
def putN (n a b v : Nat) : Nat := n % 2 ^ a + v % 2 ^ b * 2 ^ a + n / 2 ^ (a + b) * 2 ^ (a + b)
theorem bits_u64 : IntKind.u64.bits = 64 := rfl
theorem bits_i64 : IntKind.i64.bits = 64 := rfl
theorem wrap_u64 (n : Int) : IntKind.u64.wrap n = n % 18446744073709551616 := by simp [IntKind.wrap, IntKind.bits, IntKind.signed]
theorem cu (x : Int) : IntKind.u64.wrap x = (u64 x : Nat) := by rw [wrap_u64]; unfold u64; omega
theorem u64_lt (x : Int) : u64 x < 2 ^ 64 := by unfold u64; omega
theorem i64_range (n : Nat) : -9223372036854775808 ≤ i64 n ∧ i64 n ≤ 9223372036854775807 := by unfold i64; rw [IntKind.wrap_i64]; omega
theorem u64_i64 {n : Nat} (h : n < 2 ^ 64) : u64 (i64 n) = n := by unfold u64 i64; rw [IntKind.wrap_i64]; omega
theorem u64_nat {n : Nat} (h : n < 2 ^ 64) : u64 (n : Int) = n := by unfold u64; omega
theorem sh {n m : Nat} (h : m ≤ 64) : (n : Int).fdiv (2 ^ (min (m : Int).toNat IntKind.u64.bits)) = ((n / 2 ^ m : Nat) : Int) := by
  rw [bits_u64, Int.toNat_natCast, Nat.min_eq_left h, Int.fdiv_eq_ediv_of_nonneg _ (by exact Int.le_of_lt (Int.pow_pos (by decide)))]
  norm_cast
theorem shi {n m : Nat} (h : m ≤ 64) : (n : Int).fdiv (2 ^ (min (m : Int).toNat IntKind.i64.bits)) = ((n / 2 ^ m : Nat) : Int) := sh h
theorem sl {i : Nat} (h : i ≤ 62) : IntKind.i64.wrap (1 * 2 ^ (min (i : Int).toNat IntKind.i64.bits)) = ((2 ^ i : Nat) : Int) := by
  rw [bits_i64, Int.toNat_natCast, Nat.min_eq_left (by omega), Int.one_mul]
  have h2 : 2 ^ i ≤ 2 ^ 62 := Nat.pow_le_pow_right (by decide) h
  have e : (2 ^ i : Int) = ((2 ^ i : Nat) : Int) := by norm_cast
  rw [e, IntKind.wrap_i64]
  generalize 2 ^ i = z at h2 ⊢
  omega
theorem slu {i : Nat} (h : i ≤ 63) : IntKind.u64.wrap (1 * 2 ^ (min (i : Int).toNat IntKind.u64.bits)) = ((2 ^ i : Nat) : Int) := by
  rw [bits_u64, Int.toNat_natCast, Nat.min_eq_left (by omega), Int.one_mul]
  have h2 : 2 ^ i ≤ 2 ^ 63 := Nat.pow_le_pow_right (by decide) h
  have e : (2 ^ i : Int) = ((2 ^ i : Nat) : Int) := by norm_cast
  rw [e, wrap_u64]
  generalize 2 ^ i = z at h2 ⊢
  omega
theorem ofNat_toNat {n : Nat} (h : n < 2 ^ 64) : (BitVec.ofInt 64 (n : Int)).toNat = n := by
  rw [BitVec.toNat_ofInt]; omega
theorem andN {k : IntKind} (hk : k.bits = 64) {m n : Nat} (hm : m < 2 ^ 64) (hn : n < 2 ^ 64) : (BitVec.ofInt k.bits (m : Int) &&& BitVec.ofInt k.bits (n : Int)).toNat = m &&& n := by
  rw [hk, BitVec.toNat_and, ofNat_toNat hm, ofNat_toNat hn]
theorem orN {k : IntKind} (hk : k.bits = 64) {m n : Nat} (hm : m < 2 ^ 64) (hn : n < 2 ^ 64) : (BitVec.ofInt k.bits (m : Int) ||| BitVec.ofInt k.bits (n : Int)).toNat = m ||| n := by
  rw [hk, BitVec.toNat_or, ofNat_toNat hm, ofNat_toNat hn]
theorem an {m : Nat} (h : m < 2 ^ 64) : IntKind.u64.wrap (((BitVec.ofInt IntKind.u64.bits (m : Int) &&& BitVec.ofInt IntKind.u64.bits 1).toNat : Nat) : Int) = ((m % 2 : Nat) : Int) := by
  have := andN (k := .u64) rfl h (n := 1) (by decide)
  rw [show ((1 : Nat) : Int) = 1 from rfl] at this
  rw [this, Nat.and_one_is_mod, wrap_u64]
  omega
theorem ani {m : Nat} (h : m < 2 ^ 63) : IntKind.i64.wrap (((BitVec.ofInt IntKind.i64.bits (m : Int) &&& BitVec.ofInt IntKind.i64.bits 1).toNat : Nat) : Int) = ((m % 2 : Nat) : Int) := by
  have := andN (k := .i64) rfl (show m < 2 ^ 64 by omega) (n := 1) (by decide)
  rw [show ((1 : Nat) : Int) = 1 from rfl] at this
  rw [this, Nat.and_one_is_mod, IntKind.wrap_i64]
  omega
/-- One bit more. -/
theorem or_pow {v i : Nat} (h : v < 2 ^ i) : v ||| 2 ^ i = v + 2 ^ i := by
  have := Nat.two_pow_add_eq_or_of_lt h 1
  rw [Nat.mul_one] at this
  rw [Nat.or_comm, ← this, Nat.add_comm]
theorem orr {v i : Nat} (h : v < 2 ^ i) (hi : i ≤ 61) : IntKind.i64.wrap (((BitVec.ofInt IntKind.i64.bits (v : Int) ||| BitVec.ofInt IntKind.i64.bits ((2 ^ i : Nat) : Int)).toNat : Nat) : Int) = ((v + 2 ^ i : Nat) : Int) := by
  have h2 : 2 ^ i ≤ 2 ^ 61 := Nat.pow_le_pow_right (by decide) hi
  rw [orN rfl (by omega) (by omega), or_pow h, IntKind.wrap_i64]
  omega
theorem getN_lt (n a b : Nat) : getN n a b < 2 ^ b := Nat.mod_lt _ (Nat.two_pow_pos b)
theorem getN_succ (n a i : Nat) : getN n a (i + 1) = getN n a i + n / 2 ^ (a + i) % 2 * 2 ^ i := by
  unfold getN
  rw [Nat.pow_succ, Nat.mod_mul, Nat.div_div_eq_div_mul, ← Nat.pow_add, Nat.mul_comm (2 ^ i)]
theorem getN_zero (n a : Nat) : getN n a 0 = 0 := by unfold getN; rw [Nat.pow_zero, Nat.mod_one]
/-- A bit is cleared, then perhaps set. -/
theorem clear_bit {y p : Nat} (hy : y < 2 ^ 64) (hp : p ≤ 63) : IntKind.u64.wrap (((BitVec.ofInt IntKind.u64.bits (y : Int) &&& ~~~ BitVec.ofInt IntKind.u64.bits ((2 ^ p : Nat) : Int)).toNat : Nat) : Int) = ((y % 2 ^ p + y / 2 ^ (p + 1) * 2 ^ (p + 1) : Nat) : Int) := by
  have h2 : 2 ^ p ≤ 2 ^ 63 := Nat.pow_le_pow_right (by decide) hp
  have key : (BitVec.ofInt 64 (y : Int) &&& ~~~ BitVec.ofInt 64 ((2 ^ p : Nat) : Int)).toNat = y % 2 ^ p + y / 2 ^ (p + 1) * 2 ^ (p + 1) := by
    have hlo : y % 2 ^ p < 2 ^ (p + 1) := Nat.lt_of_lt_of_le (Nat.mod_lt _ (Nat.two_pow_pos p)) (Nat.pow_le_pow_right (by decide) (by omega))
    have e1 : y % 2 ^ p + y / 2 ^ (p + 1) * 2 ^ (p + 1) = 2 ^ (p + 1) * (y / 2 ^ (p + 1)) ||| y % 2 ^ p := by
      rw [← Nat.two_pow_add_eq_or_of_lt hlo, Nat.add_comm, Nat.mul_comm]
    rw [e1]
    apply Nat.eq_of_testBit_eq
    intro j
    have e2 : BitVec.ofInt 64 ((2 ^ p : Nat) : Int) = BitVec.ofNat 64 (2 ^ p) := by apply BitVec.eq_of_toNat_eq; rw [ofNat_toNat (by omega), BitVec.toNat_ofNat, Nat.mod_eq_of_lt (by omega)]
    have e3 : BitVec.ofInt 64 (y : Int) = BitVec.ofNat 64 y := by apply BitVec.eq_of_toNat_eq; rw [ofNat_toNat hy, BitVec.toNat_ofNat, Nat.mod_eq_of_lt hy]
    rw [e2, e3, BitVec.toNat_and, Nat.testBit_and, Nat.testBit_or, Nat.testBit_mod_two_pow, Nat.mul_comm, Nat.testBit_mul_two_pow, Nat.testBit_div_two_pow, BitVec.toNat_ofNat, Nat.mod_eq_of_lt hy]
    rw [show (~~~BitVec.ofNat 64 (2 ^ p)).toNat.testBit j = (~~~BitVec.ofNat 64 (2 ^ p)).getLsbD j from rfl, BitVec.getLsbD_not, BitVec.getLsbD_ofNat, Nat.testBit_two_pow]
    rcases Nat.lt_trichotomy j p with h | h | h
    · have : j < 64 := by omega
      have h3 : ¬ p + 1 ≤ j := by omega
      have h4 : ¬ p = j := by omega
      simp [this, h, h3, h4]
    · subst h
      have h3 : ¬ j + 1 ≤ j := by omega
      have h5 : j < 64 := by omega
      simp [h3, h5]
    · have h3 : p + 1 ≤ j := by omega
      have h4 : ¬ p = j := by omega
      have h5 : ¬ j < p := by omega
      have h6 : p + 1 + (j - (p + 1)) = j := by omega
      simp only [h3, h4, h5, decide_true, decide_false, Bool.true_and, Bool.and_true, Bool.false_and, Bool.or_false, Bool.not_false, Nat.sub_add_cancel h3, Bool.and_false]
      by_cases h7 : j < 64
      · simp [h7]
      · have : y.testBit j = false := Nat.testBit_lt_two_pow (Nat.lt_of_lt_of_le hy (Nat.pow_le_pow_right (by decide) (by omega)))
        simp [this]
  rw [bits_u64, key, wrap_u64]
  have : y % 2 ^ p + y / 2 ^ (p + 1) * 2 ^ (p + 1) ≤ y := by
    have h1 := Nat.div_add_mod y (2 ^ (p + 1))
    have h3 : y % 2 ^ p ≤ y % 2 ^ (p + 1) := by
      rw [Nat.pow_succ, Nat.mod_mul]; omega
    rw [Nat.mul_comm] at h1
    omega
  omega
theorem set_bit {lo hi p : Nat} (hlo : lo < 2 ^ p) (hp : p ≤ 63) (hb : lo + hi * 2 ^ (p + 1) < 2 ^ 64) : IntKind.u64.wrap (((BitVec.ofInt IntKind.u64.bits ((lo + hi * 2 ^ (p + 1) : Nat) : Int) ||| BitVec.ofInt IntKind.u64.bits ((2 ^ p : Nat) : Int)).toNat : Nat) : Int) = ((lo + 2 ^ p + hi * 2 ^ (p + 1) : Nat) : Int) := by
  have h2 : 2 ^ p ≤ 2 ^ 63 := Nat.pow_le_pow_right (by decide) hp
  have h3 : 2 ^ (p + 1) = 2 * 2 ^ p := by rw [Nat.pow_succ, Nat.mul_comm]
  have e : (lo + hi * 2 ^ (p + 1)) ||| 2 ^ p = lo + 2 ^ p + hi * 2 ^ (p + 1) := by
    have h4 : lo < 2 ^ (p + 1) := by omega
    have h5 : lo + 2 ^ p < 2 ^ (p + 1) := by omega
    rw [Nat.add_comm lo, Nat.mul_comm hi, Nat.two_pow_add_eq_or_of_lt h4, Nat.or_assoc, or_pow hlo, ← Nat.two_pow_add_eq_or_of_lt h5, Nat.add_comm]
  have hle : lo + 2 ^ p + hi * 2 ^ (p + 1) < 2 ^ 64 := by
    have : hi * 2 ^ (p + 1) + 2 ^ (p + 1) ≤ 2 ^ 64 := by
      have h6 : hi < 2 ^ (63 - p) := by
        apply Classical.byContradiction
        intro hge
        have h7 : 2 ^ (63 - p) * 2 ^ (p + 1) ≤ hi * 2 ^ (p + 1) := Nat.mul_le_mul_right _ (by omega)
        rw [← Nat.pow_add, show 63 - p + (p + 1) = 64 from by omega] at h7
        omega
      have h7 : (hi + 1) * 2 ^ (p + 1) ≤ 2 ^ (63 - p) * 2 ^ (p + 1) := Nat.mul_le_mul_right _ h6
      rw [← Nat.pow_add, show 63 - p + (p + 1) = 64 from by omega, Nat.add_mul, Nat.one_mul] at h7
      exact h7
    omega
  rw [orN rfl hb (by omega), e, wrap_u64]
  omega
theorem putN_zero (n a v : Nat) : putN n a 0 v = n := by
  unfold putN
  rw [Nat.pow_zero, Nat.mod_one, Nat.zero_mul, Nat.add_zero, Nat.add_zero, Nat.mul_comm]
  have := Nat.div_add_mod n (2 ^ a)
  omega
/-- The low part and the rest, around the bit a + i. -/
theorem putN_parts (n a i v : Nat) : putN n a i v % 2 ^ (a + i) = n % 2 ^ a + v % 2 ^ i * 2 ^ a ∧ putN n a i v / 2 ^ (a + i + 1) = n / 2 ^ (a + i + 1) ∧ n % 2 ^ a + v % 2 ^ i * 2 ^ a < 2 ^ (a + i) := by
  have hlo : n % 2 ^ a + v % 2 ^ i * 2 ^ a < 2 ^ (a + i) := by
    have h1 := Nat.mod_lt n (Nat.two_pow_pos a)
    have h2 := Nat.mod_lt v (Nat.two_pow_pos i)
    have h3 : (v % 2 ^ i + 1) * 2 ^ a ≤ 2 ^ i * 2 ^ a := Nat.mul_le_mul_right _ h2
    rw [← Nat.pow_add, Nat.add_comm i a, Nat.add_mul, Nat.one_mul] at h3
    omega
  refine ⟨?_, ?_, hlo⟩
  · unfold putN
    rw [Nat.add_mul_mod_self_right, Nat.mod_eq_of_lt hlo]
  · unfold putN
    rw [Nat.pow_succ, ← Nat.div_div_eq_div_mul, ← Nat.div_div_eq_div_mul, Nat.add_mul_div_right _ _ (Nat.two_pow_pos _), Nat.div_eq_of_lt hlo, Nat.zero_add]
theorem putN_succ (n a i v : Nat) : putN n a (i + 1) v = n % 2 ^ a + v % 2 ^ i * 2 ^ a + v / 2 ^ i % 2 * 2 ^ (a + i) + n / 2 ^ (a + i + 1) * 2 ^ (a + i + 1) := by
  unfold putN
  rw [Nat.pow_succ, Nat.mod_mul, Nat.add_mul, Nat.mul_comm (2 ^ i), Nat.mul_assoc, ← Nat.pow_add, Nat.add_comm i a, ← Nat.add_assoc a i 1]
  omega
theorem putN_lt {n a b : Nat} (v : Nat) (hn : n < 2 ^ 64) (hab : a + b ≤ 64) : putN n a b v < 2 ^ 64 := by
  have h := (putN_parts n a b v).2.2
  unfold putN
  have h1 : n / 2 ^ (a + b) < 2 ^ (64 - (a + b)) := by
    rw [Nat.div_lt_iff_lt_mul (Nat.two_pow_pos _), ← Nat.pow_add, show 64 - (a + b) + (a + b) = 64 from by omega]; exact hn
  have h2 : (n / 2 ^ (a + b) + 1) * 2 ^ (a + b) ≤ 2 ^ (64 - (a + b)) * 2 ^ (a + b) := Nat.mul_le_mul_right _ h1
  rw [← Nat.pow_add, show 64 - (a + b) + (a + b) = 64 from by omega, Nat.add_mul, Nat.one_mul] at h2
  omega
end Go.Proofs.Ytecdiejeofclaaa


/- Pure functions, walked: may, Get, Put, put, fields. -/
namespace Go.Proofs.Ytecdiejeofclaaa
open Go Go.Conc
section
variable {S : Addr → Prop} {main : Bool} {Stop : Goroutine → World → Prop} {cs : List Frame} {c : Frame} {v : World}
abbrev FA (at_ bits : Int) : Value := .agg #[.int .i64 at_, .int .i64 bits]
theorem wmay_hold {at_ bits : Int} (h : 0 ≤ at_ ∧ 1 ≤ bits ∧ bits ≤ 62 ∧ at_ ≤ 64 - bits) (H : ∀ v', Grow v v' → Hold Try.prog main S Stop (G (c.finish (.bool true)) cs) v') :
    Hold Try.prog main S Stop (G (Frame.enter Try.prog 45 #[FA at_ bits] .normal) (c :: cs)) v := by
  obtain ⟨h1, h2, h3, h4⟩ := h
  have hG := Grow.refl v
  obtain ⟨b, a, hEq, hb, hbf, hat⟩ := enter_is wmay_fn wmay_body wmay_tmps #[FA at_ bits] [(0, FA at_ bits)] rfl (by simp)
  rw [hEq]
  have hbk := not_early hb
  refine hold_unf wmay_code_def <| hold_seq <| hold_region (l := [0,1]) rfl <| h_new noA hbk wmay_0 rfl rfl (by decide) hat (bx_85 rfl) fun v a B1 hB1 hsB1 hg F1 hat => ?_
  have gB1 := Nat.le_trans hG.size (Nat.le_of_eq hB1)
  replace hG := hG.trans hg
  refine h_val noA hbk wmay_0 rfl rfl (by decide) hat (r_assign rfl) fun a hat => hold_region_end <| hold_seq <| hold_region (l := [0,1,2,3,4,5,6,7,8,9,10,11,12,13,14,15,16,17,18,19,20,21]) rfl <| h_val noA hbk wmay_1 rfl rfl (by decide) hat (r_field fk_85_0 rfl) fun a hat => h_val noA hbk wmay_1 rfl rfl (by decide) hat (r_load ld_3 rfl (cell_at' F1)) fun a hat => h_val noA hbk wmay_1 rfl rfl (by decide) hat (r_bool (t' := true) (r_geq rfl rfl) (by first | (simp; omega) | (simp; done) | (simp_all; done) | (simp_all; omega))) fun a hat => h_val noA hbk wmay_1 rfl rfl (by decide) hat (r_move rfl) fun a hat => hg_yes noA hbk wmay_1 rfl rfl rfl rfl (by decide) hat (r_field fk_85_1 rfl) fun a hat => hg_yes noA hbk wmay_1 rfl rfl rfl rfl (by decide) hat (r_load ld_3 rfl (cell_at' F1)) fun a hat => hg_yes noA hbk wmay_1 rfl rfl rfl rfl (by decide) hat (r_bool (t' := true) (r_geq rfl rfl) (by first | (simp; omega) | (simp; done) | (simp_all; done) | (simp_all; omega))) fun a hat => ?_
  refine h_val noA hbk wmay_1 rfl rfl (by decide) hat (r_pick rfl rfl) fun a hat => h_val noA hbk wmay_1 rfl rfl (by decide) hat (r_move rfl) fun a hat => hg_yes noA hbk wmay_1 rfl rfl rfl rfl (by decide) hat (r_field fk_85_1 rfl) fun a hat => hg_yes noA hbk wmay_1 rfl rfl rfl rfl (by decide) hat (r_load ld_3 rfl (cell_at' F1)) fun a hat => hg_yes noA hbk wmay_1 rfl rfl rfl rfl (by decide) hat (r_bool (t' := true) (r_leq rfl rfl) (by first | (simp; omega) | (simp; done) | (simp_all; done) | (simp_all; omega))) fun a hat => h_val noA hbk wmay_1 rfl rfl (by decide) hat (r_pick rfl rfl) fun a hat => h_val noA hbk wmay_1 rfl rfl (by decide) hat (r_move rfl) fun a hat => hg_yes noA hbk wmay_1 rfl rfl rfl rfl (by decide) hat (r_field fk_85_0 rfl) fun a hat => hg_yes noA hbk wmay_1 rfl rfl rfl rfl (by decide) hat (r_load ld_3 rfl (cell_at' F1)) fun a hat => hg_yes noA hbk wmay_1 rfl rfl rfl rfl (by decide) hat (r_field fk_85_1 rfl) fun a hat => ?_
  refine hg_yes noA hbk wmay_1 rfl rfl rfl rfl (by decide) hat (r_load ld_3 rfl (cell_at' F1)) fun a hat => hg_yes noA hbk wmay_1 rfl rfl rfl rfl (by decide) hat (r_sub rfl rfl (by first | omega | (simp; omega))) fun a hat => hg_yes noA hbk wmay_1 rfl rfl rfl rfl (by decide) hat (r_bool (t' := true) (r_leq rfl rfl) (by first | (simp; omega) | (simp; done) | (simp_all; done) | (simp_all; omega))) fun a hat => h_val noA hbk wmay_1 rfl rfl (by decide) hat (r_pick rfl rfl) fun a hat => h_val noA hbk wmay_1 rfl rfl (by decide) hat (r_assign rfl) fun a hat => hold_region_end ?_
  exact hold_retd hb hbf wmay_fn hat.defers (ret_one wmay_res hat rfl) (H _ hG)
theorem wGet_loop {b : Frame} (hbk : b.kind ≠ .early) {k : List Item} {x : Int} {p q : Nat} (hq : 1 ≤ q ∧ q ≤ 62 ∧ p + q ≤ 64) {B : Nat} (F3 : v.heap[B]? = some (.cells #[.int .i64 p, .int .i64 q] 85 (0, 0)))
    (H : ∀ a, AtE 30 [] [(5, .int .i64 (getN (u64 x) p q : Nat))] a → Hold Try.prog main S Stop (G (b.at a k) cs) v) : ∀ (m i : Nat) (a : Act), i + m = q →
    AtE 30 [] [(12, .int .i64 i), (11, .int .i64 q), (5, .int .i64 (getN (u64 x) p i : Nat)), (3, .pointer (some ⟨B, 0, none⟩)), (0, .int .i64 x)] a → Hold Try.prog main S Stop (G (b.at a (.code wGet_L0 :: .inLoop wGet_L0 :: .inBlock 0 :: k)) cs) v := by
  intro m
  induction m with
  | zero =>
    intro i a hm hat
    obtain rfl : i = q := by omega
    refine hold_unf wGet_L0_def <| hold_seq <| hold_region (l := [0]) rfl <| h_val noA hbk wGet_5 rfl rfl (by decide) hat (r_bool (t' := false) (r_lss rfl rfl) (by first | (simp; omega) | (simp; done) | (simp_all; done) | (simp_all; omega))) fun a hat => hold_region_end <| hold_seq <| hold_condF (hat.eval (q := .tmp 13) rfl) rfl <| hold_exit (k' := _) rfl ?_
    exact H a (hat.sub (AtE.cons rfl (AtE.nil)))
  | succ m ih =>
    intro i a hm hat
    have hX := u64_lt x
    refine hold_unf wGet_L0_def <| hold_seq <| hold_region (l := [0]) rfl <| h_val noA hbk wGet_5 rfl rfl (by decide) hat (r_bool (t' := true) (r_lss rfl rfl) (by first | (simp; omega) | (simp; done) | (simp_all; done) | (simp_all; omega))) fun a hat => hold_region_end <| hold_seq <| hold_condT (hat.eval (q := .tmp 13) rfl) rfl <| hold_skip <| hold_seq <| hold_block <| hold_seq <| hold_region (l := [0,1]) rfl <| h_val noA hbk wGet_6 rfl rfl (by decide) hat (r_move rfl) fun a hat => ?_
    refine h_val noA hbk wGet_6 rfl rfl (by decide) hat (r_assign rfl) fun a hat => hold_region_end <| hold_seq <| hold_region (l := [0,1,2,3,4,5,6,7,8]) rfl <| h_val noA hbk wGet_7 rfl rfl (by decide) hat (r_move rfl) fun a hat => h_val noA hbk wGet_7 rfl (by kernel_rfl) (by decide) hat (r_int (cv_3_105 rfl) (cu x)) fun a hat => h_val noA hbk wGet_7 rfl rfl (by decide) hat (r_field fk_85_0 rfl) fun a hat => h_val noA hbk wGet_7 rfl rfl (by decide) hat (r_load ld_3 rfl (cell_at' F3)) fun a hat => h_val noA hbk wGet_7 rfl rfl (by decide) hat (r_move rfl) fun a hat => h_val noA hbk wGet_7 rfl rfl (by decide) hat (r_add rfl rfl (by first | omega | (simp; omega))) fun a hat => h_val noA hbk wGet_7 rfl rfl (by decide) hat (r_int (r_shr rfl rfl (by omega)) (sh (show p + i ≤ 64 by omega))) fun a hat => h_val noA hbk wGet_7 rfl rfl (by decide) hat (r_int (r_andw rfl rfl) (an (Nat.lt_of_le_of_lt (Nat.div_le_self _ _) hX))) fun a hat => ?_
    have hd2 := getN_succ (u64 x) p i
    by_cases hbit : u64 x / 2 ^ (p + i) % 2 = 1
    · skip
      refine h_val noA hbk wGet_7 rfl (opOk_eq (by kernel_rfl)) (by decide) hat (r_bool (t' := true) (r_eql rfl rfl) (by simp [hbit])) fun a hat => hold_region_end <| hold_condT (hat.eval (q := .tmp 23) rfl) rfl <| hold_region (l := [0,1,2,3,4]) rfl <| h_val noA hbk wGet_8 rfl rfl (by decide) hat (r_move rfl) fun a hat => h_val noA hbk wGet_8 rfl rfl (by decide) hat (r_move rfl) fun a hat => h_val noA hbk wGet_8 rfl rfl (by decide) hat (r_int (r_shl rfl rfl (by omega)) (sl (show i ≤ 62 by omega))) fun a hat => h_val noA hbk wGet_8 rfl rfl (by decide) hat (r_int (r_orw rfl rfl) (orr (getN_lt _ _ _) (show i ≤ 61 by omega))) fun a hat => h_val noA hbk wGet_8 rfl rfl (by decide) hat (r_assign rfl) fun a hat => hold_region_end <| hold_inBlock <| hold_region (l := [0,1]) rfl <| h_val noA hbk wGet_9 rfl rfl (by decide) hat (r_add rfl rfl (by first | omega | (simp; omega))) fun a hat => ?_
      refine h_val noA hbk wGet_9 rfl rfl (by decide) hat (r_move rfl) fun a hat => hold_region_end <| hold_inLoop ?_
      rw [hbit, Nat.one_mul] at hd2
      refine ih (i + 1) a (by omega) ?_
      rw [hd2]
      exact hat.sub (AtE.cons rfl (AtE.cons rfl (AtE.cons rfl (AtE.cons rfl (AtE.cons rfl (AtE.nil))))))
    · have hz : u64 x / 2 ^ (p + i) % 2 = 0 := by omega
      refine h_val noA hbk wGet_7 rfl (opOk_eq (by kernel_rfl)) (by decide) hat (r_bool (t' := false) (r_eql rfl rfl) (by simp [hz])) fun a hat => hold_region_end <| hold_condF (hat.eval (q := .tmp 23) rfl) rfl <| hold_skip <| hold_inBlock <| hold_region (l := [0,1]) rfl <| h_val noA hbk wGet_9 rfl rfl (by decide) hat (r_add rfl rfl (by first | omega | (simp; omega))) fun a hat => h_val noA hbk wGet_9 rfl rfl (by decide) hat (r_move rfl) fun a hat => hold_region_end <| hold_inLoop ?_
      rw [hz, Nat.zero_mul, Nat.add_zero] at hd2
      refine ih (i + 1) a (by omega) ?_
      rw [hd2]
      exact hat.sub (AtE.cons rfl (AtE.cons rfl (AtE.cons rfl (AtE.cons rfl (AtE.cons rfl (AtE.nil))))))
theorem wGet_hold {x : Int} {p q : Nat} (hq : 1 ≤ q ∧ q ≤ 62 ∧ p + q ≤ 64) (H : ∀ v', Grow v v' → Hold Try.prog main S Stop (G (c.finish (.int .i64 (getN (u64 x) p q : Nat))) cs) v') :
    Hold Try.prog main S Stop (G (Frame.enter Try.prog 31 #[.int .i64 x, FA p q] .normal) (c :: cs)) v := by
  have hG := Grow.refl v
  obtain ⟨b, a, hEq, hb, hbf, hat⟩ := enter_is wGet_fn wGet_body wGet_tmps #[.int .i64 x, FA p q] [(0, .int .i64 x), (1, FA p q)] rfl (by simp)
  rw [hEq]
  have hbk := not_early hb
  refine hold_unf wGet_code_def <| hold_seq <| hold_region (l := [0,1]) rfl <| h_new noA hbk wGet_0 rfl rfl (by decide) hat (bx_85 rfl) fun v a B3 hB3 hsB3 hg F3 hat => ?_
  have gB3 := Nat.le_trans hG.size (Nat.le_of_eq hB3)
  replace hG := hG.trans hg
  refine h_val noA hbk wGet_0 rfl rfl (by decide) hat (r_assign rfl) fun a hat => hold_region_end <| hold_seq <| hold_seq <| hold_region (l := [0,1,2]) rfl <| h_val noA hbk wGet_1 rfl rfl (by decide) hat (lg_85 rfl (cell_at' F3) (cell_at' F3)) fun a hat => h_callc hbk wGet_1 rfl (by decide) hat wmay_fn wmay_bd wmay_nm (vals := #[_]) rfl fun c hc => wmay_hold (by omega) fun v hg => ?_
  replace F3 := hg.at F3
  replace hG := hG.trans hg
  refine hold_fin hc fun a hat => h_val noA hbk wGet_1 rfl rfl (by decide) hat (r_not rfl) fun a hat => hold_region_end <| hold_condF (hat.eval (q := .tmp 9) rfl) rfl <| hold_skip <| hold_seq <| hold_region (l := [0]) rfl <| h_val noA hbk wGet_3 rfl rfl (by decide) hat (r_assign rfl) fun a hat => hold_region_end <| hold_seq <| hold_seq <| hold_region (l := [0,1,2]) rfl <| h_val noA hbk wGet_4 rfl rfl (by decide) hat (r_field fk_85_1 rfl) fun a hat => ?_
  refine h_val noA hbk wGet_4 rfl rfl (by decide) hat (r_load ld_3 rfl (cell_at' F3)) fun a hat => h_val noA hbk wGet_4 rfl rfl (by decide) hat (r_move rfl) fun a hat => hold_region_end <| hold_block <| hold_loop ?_
  refine wGet_loop hbk hq F3 (fun a hat => ?_) q 0 a (by omega) (by rw [getN_zero]; exact hat.sub (AtE.cons rfl (AtE.cons rfl (AtE.cons rfl (AtE.cons rfl (AtE.cons rfl (AtE.nil)))))))
  refine hold_seq <| hold_region (l := [0,1]) rfl <| h_val noA hbk wGet_10 rfl rfl (by decide) hat (r_move rfl) fun a hat => h_val noA hbk wGet_10 rfl rfl (by decide) hat (r_assign rfl) fun a hat => hold_region_end ?_
  exact hold_retd hb hbf wGet_fn hat.defers (ret_one wGet_res hat rfl) (H _ hG)
end
end Go.Proofs.Ytecdiejeofclaaa


/- Pure functions, walked: Put, counter.put, fields. -/
namespace Go.Proofs.Ytecdiejeofclaaa
open Go Go.Conc
section
variable {S : Addr → Prop} {main : Bool} {Stop : Goroutine → World → Prop} {cs : List Frame} {c : Frame} {v : World}
theorem wPut_loop {b : Frame} (hbk : b.kind ≠ .early) {k : List Item} {x : Int} {p q y : Nat} (hq : 1 ≤ q ∧ q ≤ 62 ∧ p + q ≤ 64) (hy : y < 2 ^ 63) {B : Nat} (F4 : v.heap[B]? = some (.cells #[.int .i64 p, .int .i64 q] 85 (0, 0)))
    (H : ∀ a, AtE 51 [] [(8, .int .u64 (putN (u64 x) p q y : Nat))] a → Hold Try.prog main S Stop (G (b.at a k) cs) v) : ∀ (m i : Nat) (a : Act), i + m = q →
    AtE 51 [] [(29, .int .i64 i), (28, .int .i64 q), (8, .int .u64 (putN (u64 x) p i y : Nat)), (4, .pointer (some ⟨B, 0, none⟩)), (2, .int .i64 y)] a → Hold Try.prog main S Stop (G (b.at a (.code wPut_L0 :: .inLoop wPut_L0 :: .inBlock 0 :: k)) cs) v := by
  intro m
  induction m with
  | zero =>
    intro i a hm hat
    obtain rfl : i = q := by omega
    refine hold_unf wPut_L0_def <| hold_seq <| hold_region (l := [0]) rfl <| h_val noA hbk wPut_5 rfl rfl (by decide) hat (r_bool (t' := false) (r_lss rfl rfl) (by first | (simp; omega) | (simp; done) | (simp_all; done) | (simp_all; omega))) fun a hat => hold_region_end <| hold_seq <| hold_condF (hat.eval (q := .tmp 30) rfl) rfl <| hold_exit (k' := _) rfl ?_
    exact H a (hat.sub (AtE.cons rfl (AtE.nil)))
  | succ m ih =>
    intro i a hm hat
    have hX := u64_lt x
    have hP := putN_lt y hX (show p + i ≤ 64 by omega)
    obtain ⟨hp1, hp2, hp3⟩ := putN_parts (u64 x) p i y
    have hlt := putN_lt y hX (show p + (i + 1) ≤ 64 by omega)
    have hsucc := putN_succ (u64 x) p i y
    refine hold_unf wPut_L0_def <| hold_seq <| hold_region (l := [0]) rfl <| h_val noA hbk wPut_5 rfl rfl (by decide) hat (r_bool (t' := true) (r_lss rfl rfl) (by first | (simp; omega) | (simp; done) | (simp_all; done) | (simp_all; omega))) fun a hat => hold_region_end <| hold_seq <| hold_condT (hat.eval (q := .tmp 30) rfl) rfl <| hold_skip <| hold_seq <| hold_block <| hold_seq <| hold_region (l := [0,1]) rfl <| h_val noA hbk wPut_6 rfl rfl (by decide) hat (r_move rfl) fun a hat => ?_
    refine h_val noA hbk wPut_6 rfl rfl (by decide) hat (r_assign rfl) fun a hat => hold_region_end <| hold_seq <| hold_region (l := [0,1,2,3,4,5]) rfl <| h_val noA hbk wPut_7 rfl rfl (by decide) hat (r_field fk_85_0 rfl) fun a hat => h_val noA hbk wPut_7 rfl rfl (by decide) hat (r_load ld_3 rfl (cell_at' F4)) fun a hat => h_val noA hbk wPut_7 rfl rfl (by decide) hat (r_move rfl) fun a hat => h_val noA hbk wPut_7 rfl rfl (by decide) hat (r_add rfl rfl (by first | omega | (simp; omega))) fun a hat => h_val noA hbk wPut_7 rfl rfl (by decide) hat (r_int (r_shl rfl rfl (by omega)) (slu (show p + i ≤ 63 by omega))) fun a hat => h_val noA hbk wPut_7 rfl rfl (by decide) hat (r_assign rfl) fun a hat => hold_region_end <| hold_seq <| hold_region (l := [0,1,2,3]) rfl ?_
    refine h_val noA hbk wPut_8 rfl rfl (by decide) hat (r_move rfl) fun a hat => h_val noA hbk wPut_8 rfl rfl (by decide) hat (r_move rfl) fun a hat => h_val noA hbk wPut_8 rfl rfl (by decide) hat (r_int (r_andNotw rfl rfl) (clear_bit hP (show p + i ≤ 63 by omega))) fun a hat => h_val noA hbk wPut_8 rfl rfl (by decide) hat (r_assign rfl) fun a hat => hold_region_end <| hold_seq <| hold_region (l := [0,1,2,3,4]) rfl <| h_val noA hbk wPut_9 rfl rfl (by decide) hat (r_move rfl) fun a hat => h_val noA hbk wPut_9 rfl rfl (by decide) hat (r_move rfl) fun a hat => h_val noA hbk wPut_9 rfl rfl (by decide) hat (r_int (r_shr rfl rfl (by omega)) (shi (show i ≤ 64 by omega))) fun a hat => h_val noA hbk wPut_9 rfl rfl (by decide) hat (r_int (r_andw rfl rfl) (ani (Nat.lt_of_le_of_lt (Nat.div_le_self _ _) hy))) fun a hat => ?_
    by_cases hbit : y / 2 ^ i % 2 = 1
    · skip
      refine h_val noA hbk wPut_9 rfl (opOk_eq (by kernel_rfl)) (by decide) hat (r_bool (t' := true) (r_eql rfl rfl) (by simp [hbit])) fun a hat => hold_region_end <| hold_condT (hat.eval (q := .tmp 44) rfl) rfl <| hold_region (l := [0,1,2,3]) rfl <| h_val noA hbk wPut_10 rfl rfl (by decide) hat (r_move rfl) fun a hat => h_val noA hbk wPut_10 rfl rfl (by decide) hat (r_move rfl) fun a hat => h_val noA hbk wPut_10 rfl rfl (by decide) hat (r_int (r_orw rfl rfl) (set_bit (by rw [hp1]; exact hp3) (show p + i ≤ 63 by omega) (by rw [hp1, hp2]; rw [hsucc, hbit] at hlt; omega))) fun a hat => h_val noA hbk wPut_10 rfl rfl (by decide) hat (r_assign rfl) fun a hat => hold_region_end <| hold_inBlock <| hold_region (l := [0,1]) rfl <| h_val noA hbk wPut_11 rfl rfl (by decide) hat (r_add rfl rfl (by first | omega | (simp; omega))) fun a hat => h_val noA hbk wPut_11 rfl rfl (by decide) hat (r_move rfl) fun a hat => ?_
      refine hold_region_end <| hold_inLoop <| ih (i + 1) a (by omega) ?_
      rw [hsucc, hbit, Nat.one_mul, ← hp1, ← hp2, Nat.add_assoc p i 1]
      exact hat.sub (AtE.cons rfl (AtE.cons rfl (AtE.cons rfl (AtE.cons rfl (AtE.cons rfl (AtE.nil))))))
    · have hz : y / 2 ^ i % 2 = 0 := by omega
      refine h_val noA hbk wPut_9 rfl (opOk_eq (by kernel_rfl)) (by decide) hat (r_bool (t' := false) (r_eql rfl rfl) (by simp [hz])) fun a hat => hold_region_end <| hold_condF (hat.eval (q := .tmp 44) rfl) rfl <| hold_skip <| hold_inBlock <| hold_region (l := [0,1]) rfl <| h_val noA hbk wPut_11 rfl rfl (by decide) hat (r_add rfl rfl (by first | omega | (simp; omega))) fun a hat => h_val noA hbk wPut_11 rfl rfl (by decide) hat (r_move rfl) fun a hat => hold_region_end <| hold_inLoop <| ih (i + 1) a (by omega) ?_
      rw [hsucc, hz, Nat.zero_mul, Nat.add_zero, ← hp1, ← hp2, Nat.add_assoc p i 1]
      exact hat.sub (AtE.cons rfl (AtE.cons rfl (AtE.cons rfl (AtE.cons rfl (AtE.cons rfl (AtE.nil))))))
theorem wPut_hold {x : Int} {p q y : Nat} (hq : 1 ≤ q ∧ q ≤ 62 ∧ p + q ≤ 64) (hy : y < 2 ^ q) (H : ∀ v', Grow v v' → Hold Try.prog main S Stop (G (c.finish (.tuple #[.int .i64 (i64 (putN (u64 x) p q y)), .int .i64 0])) cs) v') :
    Hold Try.prog main S Stop (G (Frame.enter Try.prog 48 #[.int .i64 x, FA p q, .int .i64 y] .normal) (c :: cs)) v := by
  have hG := Grow.refl v
  have hy62 : y < 2 ^ 62 := Nat.lt_of_lt_of_le hy (Nat.pow_le_pow_right (by decide) hq.2.1)
  obtain ⟨b, a, hEq, hb, hbf, hat⟩ := enter_is wPut_fn wPut_body wPut_tmps #[.int .i64 x, FA p q, .int .i64 y] [(0, .int .i64 x), (1, FA p q), (2, .int .i64 y)] rfl (by simp)
  rw [hEq]
  have hbk := not_early hb
  refine hold_unf wPut_code_def <| hold_seq <| hold_region (l := [0,1,2]) rfl <| h_new noA hbk wPut_0 rfl rfl (by decide) hat (bx_85 rfl) fun v a B4 hB4 hsB4 hg F4 hat => ?_
  have gB4 := Nat.le_trans hG.size (Nat.le_of_eq hB4)
  replace hG := hG.trans hg
  refine h_val noA hbk wPut_0 rfl rfl (by decide) hat (r_assign rfl) fun a hat => h_val noA hbk wPut_0 rfl rfl (by decide) hat (r_assign rfl) fun a hat => hold_region_end <| hold_seq <| hold_seq <| hold_region (l := [0,1,2,3,4,5,6,7,8,9,10,11,12,13]) rfl <| h_val noA hbk wPut_1 rfl rfl (by decide) hat (lg_85 rfl (cell_at' F4) (cell_at' F4)) fun a hat => h_callc hbk wPut_1 rfl (by decide) hat wmay_fn wmay_bd wmay_nm (vals := #[_]) rfl fun c hc => wmay_hold (by omega) fun v hg => ?_
  replace F4 := hg.at F4
  replace hG := hG.trans hg
  refine hold_fin hc fun a hat => h_val noA hbk wPut_1 rfl rfl (by decide) hat (r_not rfl) fun a hat => h_val noA hbk wPut_1 rfl rfl (by decide) hat (r_move rfl) fun a hat => hg_yes noA hbk wPut_1 rfl rfl rfl rfl (by decide) hat (r_move rfl) fun a hat => hg_yes noA hbk wPut_1 rfl rfl rfl rfl (by decide) hat (r_bool (t' := false) (r_lss rfl rfl) (by first | (simp; omega) | (simp; done) | (simp_all; done) | (simp_all; omega))) fun a hat => h_val noA hbk wPut_1 rfl rfl (by decide) hat (r_pick rfl rfl) fun a hat => h_val noA hbk wPut_1 rfl rfl (by decide) hat (r_move rfl) fun a hat => hg_yes noA hbk wPut_1 rfl rfl rfl rfl (by decide) hat (r_move rfl) fun a hat => hg_yes noA hbk wPut_1 rfl rfl rfl rfl (by decide) hat (r_field fk_85_1 rfl) fun a hat => hg_yes noA hbk wPut_1 rfl rfl rfl rfl (by decide) hat (r_load ld_3 rfl (cell_at' F4)) fun a hat => hg_yes noA hbk wPut_1 rfl rfl rfl rfl (by decide) hat (r_int (r_shr rfl rfl (by omega)) (shi (show q ≤ 64 by omega))) fun a hat => ?_
  refine hg_yes noA hbk wPut_1 rfl rfl rfl (opOk_eq (by kernel_rfl)) (by decide) hat (r_bool (t' := false) (r_neq rfl rfl) (by simp [Nat.div_eq_of_lt hy])) fun a hat => h_val noA hbk wPut_1 rfl rfl (by decide) hat (r_pick rfl rfl) fun a hat => hold_region_end <| hold_condF (hat.eval (q := .tmp 24) rfl) rfl <| hold_skip <| hold_seq <| hold_region (l := [0,1,2]) rfl <| h_val noA hbk wPut_3 rfl rfl (by decide) hat (r_move rfl) fun a hat => h_val noA hbk wPut_3 rfl (by kernel_rfl) (by decide) hat (r_int (cv_3_105 rfl) (cu x)) fun a hat => h_val noA hbk wPut_3 rfl rfl (by decide) hat (r_assign rfl) fun a hat => hold_region_end <| hold_seq <| hold_seq ?_
  refine hold_region (l := [0,1,2]) rfl <| h_val noA hbk wPut_4 rfl rfl (by decide) hat (r_field fk_85_1 rfl) fun a hat => h_val noA hbk wPut_4 rfl rfl (by decide) hat (r_load ld_3 rfl (cell_at' F4)) fun a hat => h_val noA hbk wPut_4 rfl rfl (by decide) hat (r_move rfl) fun a hat => hold_region_end <| hold_block <| hold_loop ?_
  refine wPut_loop (x := x) (y := y) hbk hq (by omega) F4 (fun a hat => ?_) q 0 a (by omega) (by rw [putN_zero]; exact hat.sub (AtE.cons rfl (AtE.cons rfl (AtE.cons rfl (AtE.cons rfl (AtE.cons rfl (AtE.nil)))))))
  refine hold_seq <| hold_region (l := [0,1,2,3]) rfl <| h_val noA hbk wPut_12 rfl rfl (by decide) hat (r_move rfl) fun a hat => h_val noA hbk wPut_12 rfl (by kernel_rfl) (by decide) hat (cv_105_3 rfl) fun a hat => h_val noA hbk wPut_12 rfl rfl (by decide) hat (r_assign rfl) fun a hat => h_val noA hbk wPut_12 rfl rfl (by decide) hat (r_assign rfl) fun a hat => hold_region_end ?_
  exact hold_retd hb hbf wPut_fn hat.defers (ret_two wPut_res hat rfl rfl) (H _ hG)
end
end Go.Proofs.Ytecdiejeofclaaa


/- Drawn regions of processes that make calls; atomic Swap; cell.Store as a process. -/
namespace Go.Proofs.Ytecdiejeofclaaa
open Go Go.Conc
section
variable {H i : Nat} {Fin : List (Int × Int) → Gho → World → Prop} {N : Nat} {D : List Deferred} {b : Frame} {k : List Item} {cs : List Frame} {ops : Array Oper} {ord bigs l : List Nat} {e : Env} {s : PS} {a : Act}
variable {Lv : List (Option Nat × Op × Option (Nat × Bool))} {j : Nat} {d : Nat}
theorem tp_call (hb : b.kind ≠ .early) (hl : ops.toList.map view = Lv) {f : FuncId} {qs : Array Operand} {ats : Array TypeId} (hi : Lv[j]? = some (some d, .call { callee := .value (.func f), args := qs, argTypes := ats }, none)) (hbig : bigs.contains j = true)
    {fn : Func} (hf : Try.prog.funcs[f]? = some fn) (hbd : fn.body.isSome = true) (hn : (fn.name == "runtime.NumGoroutine") = false) {vals : Array Value} (ha : qs.toList.map (opv (restr e (.call { callee := .value (.func f), args := qs, argTypes := ats }))) = vals.toList.map some)
    (HC : ∀ c : Frame, (∀ y s', RP H i s s' → Tx (XP i Fin) (RP H i) Eq N D b k cs ops ord bigs l ((d, y) :: e) s' → XP i Fin s' (G (c.finish y) cs)) → XP i Fin s (G (Frame.enter Try.prog f vals .normal) (c :: cs))) :
    Tx (XP i Fin) (RP H i) Eq N D b k cs ops ord bigs (j :: l) e s := by
  obtain ⟨o, ho, hdst, hop, hgd⟩ := at_viewg hl hi
  unfold Tx
  rw [if_pos hbig]
  refine ⟨o, ho, hgd, ?_⟩
  rintro _ a rest rfl hat K
  rw [hop] at hat
  refine HP.walk (h_callv hb hl hi hat (f := f) (cap := #[]) rfl ha hf hbd hn (HP.stop ?_))
  rw [Array.append_empty]
  refine HC _ fun y s' hR ht => ?_
  rw [fin_at ho]
  refine K s' y (.inr hR) ?_
  rw [hdst]; exact ht
theorem tp_end (HE : ∀ a, AtE N D e a → XP i Fin s (G (b.at a (.inRegion ops [] :: k)) cs)) : Tx (XP i Fin) (RP H i) Eq N D b k cs ops ord bigs [] e s := by
  unfold Tx
  rintro _ a rfl hat
  exact HE a hat
end
theorem sw_atom : ∀ f ∈ (⟨[], [63]⟩ : Allow).A, AtomOk Try.prog f := by
  intro f hf
  simp only [List.mem_cons, List.not_mem_nil, or_false] at hf
  subst hf
  exact ⟨_, _, Try.func63, by decide, rfl, rfl, rfl, .swap⟩
theorem run_call_swap {P : Program} {f : FuncId} {fn : Func} (hf : P.funcs[f]? = some fn) (hname : (fn.name == "runtime.NumGoroutine") = false) (hb : fn.body.isNone = true) (hn : Extern.findNext fn = none) (k : IntKind)
    (he : Extern.find fn = some (Extern.Atomic.swapT (.int k))) {a : Addr} {x y : Int} {w : World} (hc : w.cell? a = some (.int k x)) (hz : w.frozen? a = false) :
    (callFunc f #[.pointer (some a), .int k y]).run P w = .ok (.value (.int k x)) (w.setCell a (.int k y)) := by
  rw [run_callFunc_extern hf hname hb hn he]
  change (Sem.run P (do
    let a' ← asAddr (.pointer (some a))
    let old ← Extern.Atomic.read (.int k) a'
    store a' (.int k y) .atomic
    pure old) w).andThen _ = _
  simp [Extern.Atomic.read, asAddr, hc, hz, run_store P w a (.int k y) .atomic rfl, Result.andThen]
section
variable {S : Addr → Prop} {main : Bool} {Stop : Goroutine → World → Prop} {cs : List Frame} {c : Frame} {v : World}
theorem aswap_hold {B O : Nat} {x y : Int} (hc : v.cell? ⟨B, O, none⟩ = some (.int .i64 x)) (hf : v.frozen? ⟨B, O, none⟩ = false)
    (H : Hold Try.prog main S Stop (G (c.finish (.int .i64 x)) cs) (v.setCell ⟨B, O, none⟩ (.int .i64 y))) :
    Hold Try.prog main S Stop (G (Frame.enter Try.prog 49 #[.pointer (some ⟨B, O, none⟩), .int .i64 y] .normal) (c :: cs)) v := by
  obtain ⟨b, a, hEq, hb, hbf, hat⟩ := enter_is ASwap_fn ASwap_body ASwap_tmps #[.pointer (some ⟨B, O, none⟩), .int .i64 y] [(0, .pointer (some ⟨B, O, none⟩)), (1, .int .i64 y)] rfl (by simp)
  rw [hEq]
  have hbk := not_early hb
  refine hold_unf ASwap_code_def <| hold_seq <| hold_region (l := [0]) rfl <| h_val noA hbk ASwap_0 rfl rfl (by decide) hat (r_assign rfl) fun a hat => hold_region_end <| hold_seq <| hold_region (l := [0,1,2,3,4,5]) rfl <| h_val noA hbk ASwap_1 rfl rfl (by decide) hat (r_move rfl) fun a hat => h_val noA hbk ASwap_1 rfl rfl (by decide) hat (r_nil rfl) fun a hat => h_val noA hbk ASwap_1 rfl rfl (by decide) hat (r_field fk_98_2 rfl) fun a hat => h_val noA hbk ASwap_1 rfl rfl (by decide) hat (r_move rfl) fun a hat => h_val (L := ⟨[], [63]⟩) (v' := v.setCell ⟨B, O, none⟩ (.int .i64 y)) sw_atom hbk ASwap_1 rfl (opOk_atom (by simp)) (by decide) hat (r_atom (vals := #[.pointer (some ⟨B, O, none⟩), .int .i64 y]) rfl (fun t d => run_call_swap Try.func63 (by decide) rfl rfl .i64 rfl (show (v.re t d).cell? _ = _ from hc) (show (v.re t d).frozen? _ = _ from hf))) fun a hat => h_val noA hbk ASwap_1 rfl rfl (by decide) hat (r_assign rfl) fun a hat => ?_
  refine hold_region_end <| hold_retd hb hbf ASwap_fn hat.defers (ret_one ASwap_res hat rfl) ?_
  exact H
end
def Prog.store (c : Nat) (y : Int) (k : Prog) : Prog := .wait 1 2 c (.rd c fun x => .wr c y (.did 2 c x y k))
theorem store_hp {i : Nat} {Fin : List (Int × Int) → Gho → World → Prop} {k : Prog} {Γ0 Γ_ : Gho} {v0 v : World} {A : Sys} (hW : WI Γ_ A v) (hG : Guar i A.ths.length Γ0 v0 Γ_ v) (hi : i < A.ths.length) {cc : Nat} (hcc : cc < Γ_.nc) (y : Int) (hy1 : -9223372036854775808 ≤ y) (hy2 : y ≤ 9223372036854775807) (c : Frame) (cs : List Frame)
    (K : Go1 i Fin Γ_ v k (G (c.finish (.tuple #[])) cs)) :
    HP i Fin (.store cc y k) Γ0 v0 A (G (Frame.enter Try.prog 35 #[.pointer (some ⟨Γ_.cb cc, 0, none⟩), .pointer (some ⟨Γ_.tb i, 0, none⟩), .int .i64 y] .normal) (c :: cs)) v := by
  obtain ⟨x0, _, _, hcell, hown, _, _⟩ := cell_at hW hcc
  refine HP.walk ?_
  obtain ⟨b, a, hEq, hb, hbf, hat⟩ := enter_is CStore_fn CStore_body CStore_tmps #[.pointer (some ⟨Γ_.cb cc, 0, none⟩), .pointer (some ⟨Γ_.tb i, 0, none⟩), .int .i64 y] [(0, .pointer (some ⟨Γ_.cb cc, 0, none⟩)), (1, .pointer (some ⟨Γ_.tb i, 0, none⟩)), (2, .int .i64 y)] rfl (by simp)
  rw [hEq]
  have hbk := not_early hb
  refine hold_unf CStore_code_def <| hold_seq <| hold_region (l := [0,1,2,3,4,5]) rfl <| h_val noA hbk CStore_0 rfl rfl (by decide) hat (r_move rfl) fun a hat => h_val noA hbk CStore_0 rfl rfl (by decide) hat (r_move rfl) fun a hat => h_val noA hbk CStore_0 rfl rfl (by decide) hat (r_nil rfl) fun a hat => h_val noA hbk CStore_0 rfl rfl (by decide) hat (r_field fk_100_0 rfl) fun a hat => h_val noA hbk CStore_0 rfl rfl (by decide) hat (r_load ld_3 rfl (cell_at' hcell)) fun a hat => h_callc hbk CStore_0 rfl (by decide) hat Turn_fn Turn_bd Turn_nm (vals := #[_, _, _]) rfl fun c hc => ?_
  refine HP.stop (turn_hp hW hG hi cc 2 _ _ fun Γ1 v1 A1 s hR hW1 ht1 => ?_)
  obtain ⟨hcb, hc1⟩ := rely_cell hW hR hcc
  obtain ⟨x, hx, hget, hcell1, hown1, hx1, hx2⟩ := cell_at hW1 hc1
  rw [hcb] at hcell1
  have htb : Γ1.tb i = Γ_.tb i := hR.same.2.2.2.1
  have hlt : i < A1.ths.length := (List.getElem?_eq_some_iff.1 ht1).1
  show HP i Fin (.wr cc y (.did 2 cc (A1.get cc) y k)) Γ1 v1 A1 _ v1
  rw [hget]
  refine hp_fin hc fun a hat => hold_region_end <| hold_region (l := [0,1,2,3,4,5,6,7]) rfl <| h_val noA hbk CStore_1 rfl rfl (by decide) hat (r_move rfl) fun a hat => h_val noA hbk CStore_1 rfl rfl (by decide) hat (r_move rfl) fun a hat => h_val noA hbk CStore_1 rfl rfl (by decide) hat (r_nil rfl) fun a hat => h_val noA hbk CStore_1 rfl rfl (by decide) hat (r_field fk_100_1 rfl) fun a hat => h_val noA hbk CStore_1 rfl rfl (by decide) hat (r_move rfl) fun a hat => h_callc hbk CStore_1 rfl (by decide) hat ASwap_fn ASwap_bd ASwap_nm (vals := #[_, _]) rfl fun c hc => aswap_hold (x := x) (cell_at' hcell1) (frozen_at' hcell1) ?_
  have hW1' := hW1.putc hc1 hy1 hy2
  rw [hcb] at hW1'
  have hs : ∀ bb, Γ1.own bb ≠ .sys → (v1.setCell ⟨Γ_.cb cc, 1, none⟩ (.int .i64 y)).heap[bb]? = v1.heap[bb]? := fun bb hbb => set_other fun e => hbb (by rw [e, ← hcb]; exact hown1)
  refine hold_fin hc fun a hat => h_val noA hbk CStore_1 rfl rfl (by decide) hat (r_move rfl) fun a hat => h_callc hbk CStore_1 rfl (by decide) hat Did_fn Did_bd Did_nm (vals := #[_, _, _]) rfl fun c hc => ?_
  rw [← htb]
  refine HP.stop (did_hp (A := A1.put cc y) (tt := ⟨0, cc, 2, s⟩) hW1' ht1 rfl hc1 x y _ _ fun v2 hW2 hG2 hR2 => ?_)
  refine hp_fin hc fun a hat => hold_region_end ?_
  refine hold_done hb hbf CStore_fn hat.defers (ret_none CStore_res _) (HP.stop ?_)
  exact K Γ1 v1 _ v2 _ ((hR.trans (rely_sys size_set hs)).trans (hR2 i)) hW2 (by rw [did_len]; exact hlt) ((guar_sys size_set hs).trans (hG2 i _))
end Go.Proofs.Ytecdiejeofclaaa


/- slots: first, version, changed. -/
namespace Go.Proofs.Ytecdiejeofclaaa
open Go Go.Conc
/-- A head's first one; its version; a head behind another one. -/
def firstN (h : Int) : Nat := getN (u64 h) 0 32
def chgX (h : Int) (to : Nat) : Int := i64 (putN (u64 (i64 (putN (u64 0) 0 32 to))) 32 30 ((getN (u64 h) 32 30 + 1) % 1073741824))
theorem r_fld1 {e : Env} {v : World} {q : Operand} {x0 x1 : Value} (h : opv e q = some (.agg #[x0, x1])) : RunsTo Try.prog e (.field 85 q 1) v (.value x1) v := fun ρ o hρ ho t d => by
  simp only [execOp, ho, hρ _ _ h]
  simp [go_sem, Instr.field, Instr.fieldAt, asAgg]
section
variable {S : Addr → Prop} {main : Bool} {Stop : Goroutine → World → Prop} {cs : List Frame} {c : Frame} {v : World}
theorem slFirst_hold (H : ∀ v', Grow v v' → Hold Try.prog main S Stop (G (c.finish (.agg #[.int .i64 0, .int .i64 32])) cs) v') :
    Hold Try.prog main S Stop (G (Frame.enter Try.prog 32 #[] .normal) (c :: cs)) v := by
  have hG := Grow.refl v
  obtain ⟨b, a, hEq, hb, hbf, hat⟩ := enter_is slFirst_fn slFirst_body slFirst_tmps #[] [] rfl (by simp)
  rw [hEq]
  have hbk := not_early hb
  refine hold_unf slFirst_code_def <| hold_seq <| hold_region (l := [0]) rfl <| h_new noA hbk slFirst_0 rfl rfl (by decide) hat al_85 fun v a B0 hB0 hsB0 hg F0 hat => ?_
  have gB0 := Nat.le_trans hG.size (Nat.le_of_eq hB0)
  replace hG := hG.trans hg
  refine hold_region_end <| hold_seq <| hold_region (l := [0,1]) rfl <| h_val noA hbk slFirst_1 rfl rfl (by decide) hat (bu_85_0_1 rfl rfl rfl rfl) fun a hat => h_put noA hbk slFirst_1 rfl rfl hat (pg_85 rfl rfl F0 rfl rfl rfl rfl rfl) fun v a hP F0x hat => ?_
  simp only [List.setIfInBounds_toArray, List.set_cons_succ, List.set_cons_zero] at F0x
  replace hG := hG.put hP gB0
  replace F0 := F0x; clear F0x
  refine hold_region_end <| hold_retdV hb hbf slFirst_fn hat.defers (ret_cell1 slFirst_res hat rfl (var_field (cell_at' F0) (cell_at' F0))) ?_
  exact H _ hG
theorem slVer_hold (H : ∀ v', Grow v v' → Hold Try.prog main S Stop (G (c.finish (.agg #[.int .i64 32, .int .i64 30])) cs) v') :
    Hold Try.prog main S Stop (G (Frame.enter Try.prog 47 #[] .normal) (c :: cs)) v := by
  have hG := Grow.refl v
  obtain ⟨b, a, hEq, hb, hbf, hat⟩ := enter_is slVer_fn slVer_body slVer_tmps #[] [] rfl (by simp)
  rw [hEq]
  have hbk := not_early hb
  refine hold_unf slVer_code_def <| hold_seq <| hold_region (l := [0]) rfl <| h_new noA hbk slVer_0 rfl rfl (by decide) hat al_85 fun v a B0 hB0 hsB0 hg F0 hat => ?_
  have gB0 := Nat.le_trans hG.size (Nat.le_of_eq hB0)
  replace hG := hG.trans hg
  refine hold_region_end <| hold_seq <| hold_region (l := [0,1]) rfl <| h_val noA hbk slVer_1 rfl rfl (by decide) hat (bu_85_0_1 rfl rfl rfl rfl) fun a hat => h_put noA hbk slVer_1 rfl rfl hat (pg_85 rfl rfl F0 rfl rfl rfl rfl rfl) fun v a hP F0x hat => ?_
  simp only [List.setIfInBounds_toArray, List.set_cons_succ, List.set_cons_zero] at F0x
  replace hG := hG.put hP gB0
  replace F0 := F0x; clear F0x
  refine hold_region_end <| hold_retdV hb hbf slVer_fn hat.defers (ret_cell1 slVer_res hat rfl (var_field (cell_at' F0) (cell_at' F0))) ?_
  exact H _ hG
theorem slChg_hold {h : Int} {to : Nat} (hto : to < 4294967296) (H : ∀ v', Grow v v' → Hold Try.prog main S Stop (G (c.finish (.int .i64 (chgX h to))) cs) v') :
    Hold Try.prog main S Stop (G (Frame.enter Try.prog 34 #[.int .i64 h, .int .i64 (to : Nat)] .normal) (c :: cs)) v := by
  have hG := Grow.refl v
  have hg2 := getN_lt (u64 h) 32 30
  obtain ⟨b, a, hEq, hb, hbf, hat⟩ := enter_is slChg_fn slChg_body slChg_tmps #[.int .i64 h, .int .i64 (to : Nat)] [(0, .int .i64 h), (1, .int .i64 (to : Nat))] rfl (by simp)
  rw [hEq]
  have hbk := not_early hb
  refine hold_unf slChg_code_def <| hold_seq <| hold_region (l := [0]) rfl <| h_val noA hbk slChg_0 rfl rfl (by decide) hat (r_assign rfl) fun a hat => hold_region_end <| hold_seq <| hold_region (l := [0,1,2,3,4,5,6,7,8]) rfl <| h_val noA hbk slChg_1 rfl rfl (by decide) hat (r_move rfl) fun a hat => h_callc hbk slChg_1 rfl (by decide) hat slVer_fn slVer_bd slVer_nm (vals := #[]) rfl fun c hc => slVer_hold fun v hg => ?_
  replace hG := hG.trans hg
  refine hold_fin hc fun a hat => h_callc hbk slChg_1 rfl (by decide) hat wGet_fn wGet_bd wGet_nm (vals := #[_, _]) rfl fun c hc => wGet_hold (p := 32) (q := 30) (by omega) fun v hg => ?_
  replace hG := hG.trans hg
  refine hold_fin hc fun a hat => h_val noA hbk slChg_1 rfl rfl (by decide) hat (r_add rfl rfl (by first | omega | (simp; omega))) fun a hat => h_callc hbk slChg_1 rfl (by decide) hat slVer_fn slVer_bd slVer_nm (vals := #[]) rfl fun c hc => slVer_hold fun v hg => ?_
  replace hG := hG.trans hg
  refine hold_fin hc fun a hat => h_val noA hbk slChg_1 rfl rfl (by decide) hat (r_fld1 rfl) fun a hat => h_val noA hbk slChg_1 rfl rfl (by decide) hat (r_int (r_shl rfl rfl (by omega)) (sl (i := 30) (by omega))) fun a hat => h_val noA hbk slChg_1 rfl rfl (by decide) hat (r_int (r_rem rfl rfl (by decide)) (show (((getN (u64 h) 32 30 : Nat) : Int) + 1).tmod ((2 ^ 30 : Nat) : Int) = (((getN (u64 h) 32 30 + 1) % 1073741824 : Nat) : Int) by rw [Int.tmod_eq_emod_of_nonneg (by omega)]; omega)) fun a hat => h_val noA hbk slChg_1 rfl rfl (by decide) hat (r_assign rfl) fun a hat => hold_region_end <| hold_seq <| hold_region (l := [0,1,2,3,4,5,6,7]) rfl <| h_callc hbk slChg_2 rfl (by decide) hat slFirst_fn slFirst_bd slFirst_nm (vals := #[]) rfl fun c hc => slFirst_hold fun v hg => ?_
  replace hG := hG.trans hg
  refine hold_fin hc fun a hat => h_val noA hbk slChg_2 rfl rfl (by decide) hat (r_move rfl) fun a hat => h_callc hbk slChg_2 rfl (by decide) hat wPut_fn wPut_bd wPut_nm (vals := #[_, _, _]) rfl fun c hc => wPut_hold (p := 0) (q := 32) (y := to) (by omega) (by omega) fun v hg => ?_
  replace hG := hG.trans hg
  refine hold_fin hc fun a hat => h_val noA hbk slChg_2 rfl rfl (by decide) hat (r_move rfl) fun a hat => h_val noA hbk slChg_2 rfl rfl (by decide) hat (r_extract rfl rfl) fun a hat => h_val noA hbk slChg_2 rfl rfl (by decide) hat (r_extract rfl rfl) fun a hat => h_val noA hbk slChg_2 rfl rfl (by decide) hat (r_assign rfl) fun a hat => h_val noA hbk slChg_2 rfl rfl (by decide) hat (r_assign rfl) fun a hat => hold_region_end <| hold_seq <| hold_region (l := [0,1,2,3,4,5,6,7]) rfl <| h_val noA hbk slChg_3 rfl rfl (by decide) hat (r_move rfl) fun a hat => h_callc hbk slChg_3 rfl (by decide) hat slVer_fn slVer_bd slVer_nm (vals := #[]) rfl fun c hc => slVer_hold fun v hg => ?_
  replace hG := hG.trans hg
  refine hold_fin hc fun a hat => h_val noA hbk slChg_3 rfl rfl (by decide) hat (r_move rfl) fun a hat => h_callc hbk slChg_3 rfl (by decide) hat wPut_fn wPut_bd wPut_nm (vals := #[_, _, _]) rfl fun c hc => wPut_hold (p := 32) (q := 30) (y := (getN (u64 h) 32 30 + 1) % 1073741824) (by omega) (by omega) fun v hg => ?_
  replace hG := hG.trans hg
  refine hold_fin hc fun a hat => h_val noA hbk slChg_3 rfl rfl (by decide) hat (r_move rfl) fun a hat => h_val noA hbk slChg_3 rfl rfl (by decide) hat (r_extract rfl rfl) fun a hat => h_val noA hbk slChg_3 rfl rfl (by decide) hat (r_extract rfl rfl) fun a hat => h_val noA hbk slChg_3 rfl rfl (by decide) hat (r_assign rfl) fun a hat => hold_region_end <| hold_seq <| hold_region (l := [0,1]) rfl <| h_val noA hbk slChg_4 rfl rfl (by decide) hat (r_move rfl) fun a hat => h_val noA hbk slChg_4 rfl rfl (by decide) hat (r_assign rfl) fun a hat => hold_region_end <| hold_retd hb hbf slChg_fn hat.defers (ret_one slChg_res hat rfl) ?_
  exact H _ hG
end
end Go.Proofs.Ytecdiejeofclaaa


/- slots: Take as a process. -/
namespace Go.Proofs.Ytecdiejeofclaaa
open Go Go.Conc
/-- What nobody writes stands. -/
structure StayC (Γ : Gho) (v : World) (Γ' : Gho) (v' : World) : Prop where
  size : v.heap.size ≤ v'.heap.size
  cb : ∀ c : Nat, Γ.cb c < v.heap.size → Γ'.cb c = Γ.cb c
  own : ∀ b, b < v.heap.size → Γ'.own b = Γ.own b
  nc : Γ.nc ≤ Γ'.nc
  keep : ∀ (b : Nat) (c : Array Value) (t : TypeId) (fr : Nat × Nat), v.heap[b]? = some (.cells c t fr) → Γ.own b = .const → t ≠ 37 → v'.heap[b]? = v.heap[b]?
theorem URely.stay {i : Nat} {Γ Γ' : Gho} {v v' : World} (h : URely i Γ v Γ' v') : StayC Γ v Γ' v' := ⟨h.size, h.cb, h.own, h.nc, fun b _ _ _ hb ho _ => h.keep b (lt_of_heap hb) ho⟩
theorem RelyI.stay {H i : Nat} {Γ Γ' : Gho} {v v' : World} (h : RelyI H i Γ v Γ' v') : StayC Γ v Γ' v' := ⟨h.size, h.cb, h.own, h.nc, fun b _ _ _ hb ho _ => h.keep b (lt_of_heap hb) (.inl ho)⟩
theorem Rely.stay {i : Nat} {Γ Γ' : Gho} {v v' : World} (h : Rely i Γ v Γ' v') : StayC Γ v Γ' v' := (h.toI 0).stay
theorem AnsOnly.stay {i : Nat} {Γ Γ' : Gho} {v v' : World} (h : AnsOnly i Γ v Γ' v') : StayC Γ v Γ' v' := ⟨h.size, fun c _ => by rw [h.cb], h.own, Nat.le_of_eq h.nc.symm, fun b _ _ _ hb _ hne => h.keep b _ _ _ hb hne⟩
theorem Ext.stay {Γ Γ' : Gho} {u v : World} (h : Ext Γ u Γ' v) : StayC Γ u Γ' v := by
  obtain ⟨_, _, _, _, _, e6, e7⟩ := h.same
  exact ⟨h.grow.size, fun c _ => by rw [e6], h.own, Nat.le_of_eq e7.symm, fun b _ _ _ hb _ _ => h.grow.same b (lt_of_heap hb)⟩
/-- A row of cells' places. -/
structure CRow (g n : Nat) (f : Nat → Nat) (Γ : Gho) (v : World) : Prop where
  row : ∃ c fr, v.heap[g]? = some (.cells c 77 fr) ∧ ∀ j, j < n → c[j]? = some (.pointer (some ⟨f j, 0, none⟩))
  own : Γ.own g = .const
theorem CRow.keep {g n : Nat} {f : Nat → Nat} {Γ Γ' : Gho} {v v' : World} (h : CRow g n f Γ v) (hS : StayC Γ v Γ' v') : CRow g n f Γ' v' := by
  obtain ⟨c, fr, h1, h2⟩ := h.row
  exact ⟨⟨c, fr, (hS.keep g _ _ _ h1 h.own (by decide)).trans h1, h2⟩, (hS.own g (lt_of_heap h1)).trans h.own⟩
theorem CRow.cell {g n j : Nat} {f : Nat → Nat} {Γ : Gho} {v : World} (h : CRow g n f Γ v) (hj : j < n) : v.cell? ⟨g, j, none⟩ = some (.pointer (some ⟨f j, 0, none⟩)) := by
  obtain ⟨c, fr, h1, h2⟩ := h.row
  rw [cell_at' h1]; exact h2 j hj
/-- Where slots stand. -/
structure SEnv (s gN gU cn cu n : Nat) (aN aU : Option Addr) (cbf : Nat → Nat) (Γ : Gho) (v : World) : Prop where
  s : v.heap[s]? = some (.cells #[.pointer (some ⟨cbf 0, 0, none⟩), .slice aN n cn, .slice aU n cu] 81 (0, 0)) ∧ Γ.own s = .const
  nx : 0 < n → aN = some ⟨gN, 0, none⟩ ∧ CRow gN n (fun j => cbf (1 + 2 * j)) Γ v
  us : 0 < n → aU = some ⟨gU, 0, none⟩ ∧ CRow gU n (fun j => cbf (2 + 2 * j)) Γ v
  cb : ∀ c, c < 2 * n + 1 → Γ.cb c = cbf c ∧ cbf c < v.heap.size
  n : n ≤ 1000 ∧ 2 * n + 1 ≤ Γ.nc
theorem SEnv.keep {s gN gU cn cu n : Nat} {aN aU : Option Addr} {cbf : Nat → Nat} {Γ Γ' : Gho} {v v' : World} (h : SEnv s gN gU cn cu n aN aU cbf Γ v) (hS : StayC Γ v Γ' v') : SEnv s gN gU cn cu n aN aU cbf Γ' v' := by
  refine ⟨⟨(hS.keep _ _ _ _ h.s.1 h.s.2 (by decide)).trans h.s.1, (hS.own _ (lt_of_heap h.s.1)).trans h.s.2⟩, fun hn => ⟨(h.nx hn).1, (h.nx hn).2.keep hS⟩, fun hn => ⟨(h.us hn).1, (h.us hn).2.keep hS⟩, fun c hc => ?_, h.n.1, Nat.le_trans h.n.2 hS.nc⟩
  obtain ⟨h1, h2⟩ := h.cb c hc
  exact ⟨(hS.cb c (by rw [h1]; exact h2)).trans h1, Nat.lt_of_lt_of_le h2 hS.size⟩
/-- Take: so many tries are told. -/
def takeP (n : Nat) (k : Int → Int → Prog) : Nat → Prog
  | 0 => .out
  | f + 1 => .load 0 fun h => if firstN h = 0 then k 0 80 else if n < firstN h then .out else
      .load (1 + 2 * (firstN h - 1)) fun x => if x < 0 ∨ 4294967296 ≤ x then .out else
        .cas 0 h (chgX h x.toNat) fun b => if b then .store (2 + 2 * (firstN h - 1)) 1 (k (firstN h - 1 : Nat) 0) else takeP n k f
theorem chgX_range (h : Int) (to : Nat) : -9223372036854775808 ≤ chgX h to ∧ chgX h to ≤ 9223372036854775807 := i64_range _
theorem take_loop {i : Nat} {Fin : List (Int × Int) → Gho → World → Prop} {kP : Int → Int → Prog} {b : Frame} (hb : b.kind = .normal) (hbf : b.fn = 15) {k : List Item} {c : Frame} {cs : List Frame} {s gN gU cn cu n T : Nat} {aN aU : Option Addr} {cbf : Nat → Nat} {Γs : Gho} {vs : World}
    (hK : ∀ x e, Go1 i Fin Γs vs (kP x e) (G (c.finish (.tuple #[.int .i64 x, .int .i64 e])) cs)) (hEs : SEnv s gN gU cn cu n aN aU cbf Γs vs) (hTb : Γs.tb i = T) :
    ∀ (f : Nat) (Γ0 : Gho) (v0 : World) (Γ : Gho) (A : Sys) (v : World) (a : Act), TS i Γs vs Γ0 v0 Γ A v →
      AtE 51 [] [(1, .pointer (some ⟨T, 0, none⟩)), (0, .pointer (some ⟨s, 0, none⟩))] a → HP i Fin (takeP n kP f) Γ0 v0 A (G (b.at a (.code Take_L0 :: .inLoop Take_L0 :: .inBlock 0 :: k)) (c :: cs)) v := by
  have hbk := not_early hb
  intro f
  induction f with
  | zero => intro Γ0 v0 Γ A v a hT hat; exact trivial
  | succ f ih =>
    intro Γ0 v0 Γ A v a hT hat
    have hE := hEs.keep hT.rely.stay
    have hTb' := hT.rely.same.2.2.2.1.trans hTb
    obtain ⟨F, own_F⟩ := hE.s
    refine HP.walk <| hold_unf Take_L0_def <| hold_block <| hold_seq <| hold_region (l := [0,1,2,3,4,5,6]) rfl <| h_val noA hbk Take_1 rfl rfl (by decide) hat (r_move rfl) fun a hat => h_val noA hbk Take_1 rfl rfl (by decide) hat (r_nil rfl) fun a hat => h_val noA hbk Take_1 rfl rfl (by decide) hat (r_field fk_81_0 rfl) fun a hat => h_val noA hbk Take_1 rfl rfl (by decide) hat (r_load ld_77 rfl (cell_at' F)) fun a hat => h_val noA hbk Take_1 rfl rfl (by decide) hat (r_move rfl) fun a hat => h_callc hbk Take_1 rfl (by decide) hat Load_fn Load_bd Load_nm (vals := #[_, _]) rfl fun c hc => HP.stop ?_
    have hcb0 := (hE.cb 0 (by omega)).1
    rw [← hTb', ← hcb0]
    refine load_hp hT.wi hT.guar hT.lt (by have := hE.n.2; omega) _ _ fun x hx1 hx2 => ?_
    intro Γ0 v0 Γ v A hR hW hi hG
    replace hT := hT.later hR hW hi hG
    have own_x := (hR.own _ (lt_heap F)).trans own_F
    replace F := (hR.keep _ (lt_heap F) (.inr own_F)).trans F
    replace own_F := own_x; clear own_x
    refine hp_fin hc fun a hat => h_val noA hbk Take_1 rfl rfl (by decide) hat (r_assign rfl) fun a hat => hold_region_end <| hold_seq <| hold_region (l := [0,1,2,3,4]) rfl <| h_val noA hbk Take_2 rfl rfl (by decide) hat (r_move rfl) fun a hat => h_callc hbk Take_2 rfl (by decide) hat slFirst_fn slFirst_bd slFirst_nm (vals := #[]) rfl fun c hc => slFirst_hold fun v hg => ?_
    obtain ⟨Γ, hT, hR, hO, hN⟩ := hT.grown hg
    replace own_F := hO _ _ (lt_heap F) own_F
    replace F := hg.at F
    refine hold_fin hc fun a hat => h_callc hbk Take_2 rfl (by decide) hat wGet_fn wGet_bd wGet_nm (vals := #[_, _]) rfl fun c hc => wGet_hold (p := 0) (q := 32) (by omega) fun v hg => ?_
    obtain ⟨Γ, hT, hR, hO, hN⟩ := hT.grown hg
    replace own_F := hO _ _ (lt_heap F) own_F
    replace F := hg.at F
    refine hold_fin hc fun a hat => ?_
    have hg1 := getN_lt (u64 x) 0 32
    have hfx : getN (u64 x) 0 32 = firstN x := rfl
    rw [hfx] at hat hg1
    refine h_val noA hbk Take_2 rfl rfl (by decide) hat (r_sub rfl rfl (by first | omega | (simp; omega))) fun a hat => h_val noA hbk Take_2 rfl rfl (by decide) hat (r_assign rfl) fun a hat => hold_region_end <| hold_seq <| hold_seq <| hold_region (l := [0,1]) rfl <| h_val noA hbk Take_3 rfl rfl (by decide) hat (r_move rfl) fun a hat => ?_
    by_cases h0 : firstN x = 0
    · rw [if_pos h0]
      refine h_val noA hbk Take_3 rfl rfl (by decide) hat (r_bool (t' := true) (r_lss rfl rfl) (by simp [h0])) fun a hat => hold_region_end <| hold_condT (hat.eval (q := .tmp 20) rfl) rfl <| hold_seq <| hold_region (l := [0,1]) rfl <| h_val noA hbk Take_4 rfl rfl (by decide) hat (r_assign rfl) fun a hat => h_val noA hbk Take_4 rfl rfl (by decide) hat (r_assign rfl) fun a hat => hold_region_end ?_
      refine hold_retd hb hbf Take_fn hat.defers (ret_two Take_res hat rfl rfl) (HP.stop ?_)
      exact hK 0 80 _ _ _ _ _ hT.rely hT.wi hT.lt hT.guar
    rw [if_neg h0]
    by_cases hn : n < firstN x
    · rw [if_pos hn]
      exact HP.stop trivial
    rw [if_neg hn]
    obtain ⟨j, hj⟩ : ∃ j, firstN x = j + 1 := ⟨firstN x - 1, by omega⟩
    rw [hj, Nat.add_sub_cancel]
    have hjI : (((j + 1 : Nat) : Int) - 1) = (j : Nat) := by omega
    rw [hj, hjI] at hat
    obtain ⟨rfl, _⟩ := hEs.nx (by omega)
    obtain ⟨rfl, _⟩ := hEs.us (by omega)
    refine h_val noA hbk Take_3 rfl rfl (by decide) hat (r_bool (t' := false) (r_lss rfl rfl) (by simp)) fun a hat => hold_region_end <| hold_condF (hat.eval (q := .tmp 20) rfl) rfl <| hold_skip <| hold_seq <| hold_region (l := [0,1,2,3,4,5,6,7,8,9]) rfl <| h_val noA hbk Take_5 rfl rfl (by decide) hat (r_move rfl) fun a hat => h_val noA hbk Take_5 rfl rfl (by decide) hat (r_nil rfl) fun a hat => h_val noA hbk Take_5 rfl rfl (by decide) hat (r_field fk_81_1 rfl) fun a hat => h_val noA hbk Take_5 rfl rfl (by decide) hat (r_load ld_79 rfl (cell_at' F)) fun a hat => h_val noA hbk Take_5 rfl rfl (by decide) hat (r_move rfl) fun a hat => h_val noA hbk Take_5 rfl rfl (by decide) hat (r_index ix_79 rfl rfl (by omega) (by omega)) fun a hat => ?_
    have hE2 := hEs.keep hT.rely.stay
    have hTb2 := hT.rely.same.2.2.2.1.trans hTb
    refine h_val noA hbk Take_5 rfl rfl (by decide) hat (r_load ld_77 rfl (by simpa using ((hE2.nx (by omega)).2.cell (j := j) (by omega)))) fun a hat => h_val noA hbk Take_5 rfl rfl (by decide) hat (r_move rfl) fun a hat => h_callc hbk Take_5 rfl (by decide) hat Load_fn Load_bd Load_nm (vals := #[_, _]) rfl fun c hc => HP.stop ?_
    rw [← hTb2, ← (hE2.cb (1 + 2 * j) (by omega)).1]
    refine load_hp hT.wi hT.guar hT.lt (by have := hE2.n.2; omega) _ _ fun x2 hx3 hx4 => ?_
    intro Γ0 v0 Γ v A hR hW hi hG
    replace hT := hT.later hR hW hi hG
    have own_x := (hR.own _ (lt_heap F)).trans own_F
    replace F := (hR.keep _ (lt_heap F) (.inr own_F)).trans F
    replace own_F := own_x; clear own_x
    by_cases hr : x2 < 0 ∨ 4294967296 ≤ x2
    · rw [if_pos hr]
      exact trivial
    rw [if_neg hr]
    obtain ⟨to, rfl⟩ : ∃ to : Nat, x2 = to := ⟨x2.toNat, by omega⟩
    rw [Int.toNat_natCast]
    refine hp_fin hc fun a hat => h_val noA hbk Take_5 rfl rfl (by decide) hat (r_assign rfl) fun a hat => hold_region_end <| hold_seq <| hold_seq ?_
    refine HP.stop (hp_draw (H := 0) (s := ⟨Γ0, v0, Γ, A, _, v⟩) (ord := [0,1,2,3,4,5,6,7,8,9,10]) (bigs := [8,9]) (by kernel_rfl) (by kernel_rfl) hat ?_)
    refine tp_val noA hbk Take_6 rfl rfl rfl (fun sX hR => (r_move rfl)) <| tp_val noA hbk Take_6 rfl rfl rfl (fun sX hR => (r_nil rfl)) <| tp_val noA hbk Take_6 rfl rfl rfl (fun sX hR => (r_field fk_81_0 rfl)) <| tp_val noA hbk Take_6 rfl rfl rfl (fun sX hR => (r_load ld_77 rfl (cell_at' ((hR.keep _ (lt_heap F) (.inl own_F)).trans F)))) <| tp_val noA hbk Take_6 rfl rfl rfl (fun sX hR => (r_move rfl)) <| tp_val noA hbk Take_6 rfl rfl rfl (fun sX hR => (r_move rfl)) <| tp_val noA hbk Take_6 rfl rfl rfl (fun sX hR => (r_move rfl)) <| tp_val noA hbk Take_6 rfl rfl rfl (fun sX hR => (r_move rfl)) ?_
    refine tp_call hbk Take_6 rfl rfl slChg_fn slChg_bd slChg_nm (vals := #[_, _]) rfl (fun c KK => ?_)
    refine HP.walk (slChg_hold (h := x) (to := to) (by omega) fun v hg => ?_)
    obtain ⟨Γ, hT, hR, hO, hN⟩ := hT.grown hg
    replace own_F := hO _ _ (lt_heap F) own_F
    replace F := hg.at F
    refine HP.stop (KK _ ⟨Γ0, v0, Γ, A, _, v⟩ (hR.toI _) ?_)
    have hE3 := hEs.keep hT.rely.stay
    have hTb3 := hT.rely.same.2.2.2.1.trans hTb
    refine tp_call hbk Take_6 rfl rfl Cas_fn Cas_bd Cas_nm (vals := #[_, _, _, _]) rfl (fun c KK => ?_)
    show HP i Fin (.cas 0 x (chgX x to) fun b => if b then .store (2 + 2 * j) 1 (kP j 0) else takeP n kP f) Γ0 v0 A _ v
    rw [← hTb3, ← (hE3.cb 0 (by omega)).1]
    refine cas_hp (cc := 0) hT.wi hT.guar hT.lt (by have := hE3.n.2; omega) _ _ (chgX_range x to).1 (chgX_range x to).2 _ _ fun r => ?_
    intro Γ0 v0 Γ v A hR hW hi hG
    replace hT := hT.later hR hW hi hG
    have own_x := (hR.own _ (lt_heap F)).trans own_F
    replace F := (hR.keep _ (lt_heap F) (.inr own_F)).trans F
    replace own_F := own_x; clear own_x
    cases r with
    | true =>
      refine KK _ ⟨Γ0, v0, Γ, A, _, v⟩ (hR.toI _) <| tp_val noA hbk Take_6 rfl rfl rfl (fun sX hR => (r_not rfl)) <| tp_end fun a hat => HP.walk <| hold_region_end <| hold_condF (hat.eval (q := .tmp 40) rfl) rfl <| hold_skip <| hold_seq <| hold_region (l := [0,1,2,3,4,5,6,7,8]) rfl <| h_val noA hbk Take_7 rfl rfl (by decide) hat (r_move rfl) fun a hat => h_val noA hbk Take_7 rfl rfl (by decide) hat (r_nil rfl) fun a hat => h_val noA hbk Take_7 rfl rfl (by decide) hat (r_field fk_81_2 rfl) fun a hat => h_val noA hbk Take_7 rfl rfl (by decide) hat (r_load ld_79 rfl (cell_at' F)) fun a hat => h_val noA hbk Take_7 rfl rfl (by decide) hat (r_move rfl) fun a hat => ?_
      refine h_val noA hbk Take_7 rfl rfl (by decide) hat (r_index ix_79 rfl rfl (by omega) (by omega)) fun a hat => ?_
      have hE4 := hEs.keep hT.rely.stay
      have hTb4 := hT.rely.same.2.2.2.1.trans hTb
      refine h_val noA hbk Take_7 rfl rfl (by decide) hat (r_load ld_77 rfl (by simpa using ((hE4.us (by omega)).2.cell (j := j) (by omega)))) fun a hat => h_val noA hbk Take_7 rfl rfl (by decide) hat (r_move rfl) fun a hat => h_callc hbk Take_7 rfl (by decide) hat CStore_fn CStore_bd CStore_nm (vals := #[_, _, _]) rfl fun c hc => HP.stop ?_
      rw [← hTb4, ← (hE4.cb (2 + 2 * j) (by omega)).1]
      refine store_hp hT.wi hT.guar hT.lt (by have := hE4.n.2; omega) 1 (by omega) (by omega) _ _ ?_
      intro Γ0 v0 Γ v A hR hW hi hG
      replace hT := hT.later hR hW hi hG
      have own_x := (hR.own _ (lt_heap F)).trans own_F
      replace F := (hR.keep _ (lt_heap F) (.inr own_F)).trans F
      replace own_F := own_x; clear own_x
      refine hp_fin hc fun a hat => hold_region_end <| hold_seq <| hold_region (l := [0,1,2]) rfl <| h_val noA hbk Take_8 rfl rfl (by decide) hat (r_move rfl) fun a hat => h_val noA hbk Take_8 rfl rfl (by decide) hat (r_assign rfl) fun a hat => h_val noA hbk Take_8 rfl rfl (by decide) hat (r_assign rfl) fun a hat => hold_region_end ?_
      refine hold_retd hb hbf Take_fn hat.defers (ret_two Take_res hat rfl rfl) (HP.stop ?_)
      exact hK j 0 _ _ _ _ _ hT.rely hT.wi hT.lt hT.guar
    | false =>
      refine KK _ ⟨Γ0, v0, Γ, A, _, v⟩ (hR.toI _) <| tp_val noA hbk Take_6 rfl rfl rfl (fun sX hR => (r_not rfl)) <| tp_end fun a hat => HP.walk <| hold_region_end <| hold_condT (hat.eval (q := .tmp 40) rfl) rfl <| hold_exit (k' := _) rfl <| hold_inLoop <| HP.stop ?_
      exact ih _ _ _ _ _ _ hT (hat.sub (AtE.cons rfl (AtE.cons rfl (AtE.nil))))
end Go.Proofs.Ytecdiejeofclaaa


/- slots: Take, Give as processes. -/
namespace Go.Proofs.Ytecdiejeofclaaa
open Go Go.Conc
theorem take_hp {i : Nat} {Fin : List (Int × Int) → Gho → World → Prop} {kP : Int → Int → Prog} {s gN gU cn cu n : Nat} {aN aU : Option Addr} {cbf : Nat → Nat} {Γ0 Γ : Gho} {v0 v : World} {A : Sys} (f : Nat) (hW : WI Γ A v) (hG : Guar i A.ths.length Γ0 v0 Γ v) (hi : i < A.ths.length) (hE : SEnv s gN gU cn cu n aN aU cbf Γ v) (c : Frame) (cs : List Frame)
    (hK : ∀ x e, Go1 i Fin Γ v (kP x e) (G (c.finish (.tuple #[.int .i64 x, .int .i64 e])) cs)) :
    HP i Fin (takeP n kP f) Γ0 v0 A (G (Frame.enter Try.prog 15 #[.pointer (some ⟨s, 0, none⟩), .pointer (some ⟨Γ.tb i, 0, none⟩)] .normal) (c :: cs)) v := by
  have hT := TS.start hW hG hi
  refine HP.walk ?_
  obtain ⟨b, a, hEq, hb, hbf, hat⟩ := enter_is Take_fn Take_body Take_tmps #[.pointer (some ⟨s, 0, none⟩), .pointer (some ⟨Γ.tb i, 0, none⟩)] [(0, .pointer (some ⟨s, 0, none⟩)), (1, .pointer (some ⟨Γ.tb i, 0, none⟩))] rfl (by simp)
  rw [hEq]
  have hbk := not_early hb
  refine hold_unf Take_code_def <| hold_seq <| hold_region (l := [0,1]) rfl <| h_val noA hbk Take_0 rfl rfl (by decide) hat (r_assign rfl) fun a hat => h_val noA hbk Take_0 rfl rfl (by decide) hat (r_assign rfl) fun a hat => hold_region_end <| hold_scope <| hold_seq <| hold_label <| hold_block <| hold_loop <| HP.stop ?_
  exact take_loop hb hbf hK hE rfl f _ _ _ _ _ _ hT (hat.sub (AtE.cons rfl (AtE.cons rfl (AtE.nil))))
/-- Give, behind its first step. -/
def giveL (j : Nat) (k : Int → Prog) : Nat → Prog
  | 0 => .out
  | f + 1 => .load 0 fun h => .store (1 + 2 * j) (firstN h) (.cas 0 h (chgX h (j + 1)) fun b => if b then k 0 else giveL j k f)
/-- Give. -/
def giveP (n : Nat) (x : Int) (k : Int → Prog) (f : Nat) : Prog :=
  if x < 0 ∨ (n : Int) ≤ x then k 1 else .cas (2 + 2 * x.toNat) 1 0 fun b => if b then giveL x.toNat k f else k 81
theorem give_loop {i : Nat} {Fin : List (Int × Int) → Gho → World → Prop} {kP : Int → Prog} {b : Frame} (hb : b.kind = .normal) (hbf : b.fn = 16) {k : List Item} {c : Frame} {cs : List Frame} {s gN gU cn cu n T j : Nat} {aU : Option Addr} {cbf : Nat → Nat} {Γs : Gho} {vs : World}
    (hK : ∀ e, Go1 i Fin Γs vs (kP e) (G (c.finish (.int .i64 e)) cs)) (hEs : SEnv s gN gU cn cu n (some ⟨gN, 0, none⟩) aU cbf Γs vs) (hTb : Γs.tb i = T) (hjn : j < n) :
    ∀ (f : Nat) (Γ0 : Gho) (v0 : World) (Γ : Gho) (A : Sys) (v : World) (a : Act), TS i Γs vs Γ0 v0 Γ A v →
      AtE 59 [] [(2, .int .i64 (j : Nat)), (1, .pointer (some ⟨T, 0, none⟩)), (0, .pointer (some ⟨s, 0, none⟩))] a → HP i Fin (giveL j kP f) Γ0 v0 A (G (b.at a (.code Give_L0 :: .inLoop Give_L0 :: .inBlock 0 :: k)) (c :: cs)) v := by
  have hbk := not_early hb
  have hn1000 := hEs.n.1
  intro f
  induction f with
  | zero => intro Γ0 v0 Γ A v a hT hat; exact trivial
  | succ f ih =>
    intro Γ0 v0 Γ A v a hT hat
    have hE := hEs.keep hT.rely.stay
    have hTb' := hT.rely.same.2.2.2.1.trans hTb
    obtain ⟨F, own_F⟩ := hE.s
    refine HP.walk <| hold_unf Give_L0_def <| hold_block <| hold_seq <| hold_region (l := [0,1,2,3,4,5,6]) rfl <| h_val noA hbk Give_5 rfl rfl (by decide) hat (r_move rfl) fun a hat => h_val noA hbk Give_5 rfl rfl (by decide) hat (r_nil rfl) fun a hat => h_val noA hbk Give_5 rfl rfl (by decide) hat (r_field fk_81_0 rfl) fun a hat => h_val noA hbk Give_5 rfl rfl (by decide) hat (r_load ld_77 rfl (cell_at' F)) fun a hat => h_val noA hbk Give_5 rfl rfl (by decide) hat (r_move rfl) fun a hat => h_callc hbk Give_5 rfl (by decide) hat Load_fn Load_bd Load_nm (vals := #[_, _]) rfl fun c hc => HP.stop ?_
    rw [← hTb', ← (hE.cb 0 (by omega)).1]
    refine load_hp hT.wi hT.guar hT.lt (by have := hE.n.2; omega) _ _ fun x hx1 hx2 => ?_
    intro Γ0 v0 Γ v A hR hW hi hG
    replace hT := hT.later hR hW hi hG
    have own_x := (hR.own _ (lt_heap F)).trans own_F
    replace F := (hR.keep _ (lt_heap F) (.inr own_F)).trans F
    replace own_F := own_x; clear own_x
    refine hp_fin hc fun a hat => h_val noA hbk Give_5 rfl rfl (by decide) hat (r_assign rfl) fun a hat => hold_region_end <| hold_seq ?_
    have hE2 := hEs.keep hT.rely.stay
    refine HP.stop (hp_draw (H := 0) (s := ⟨Γ0, v0, Γ, A, _, v⟩) (ord := [0,1,2,3,4,5,6,7,8,9,10,11]) (bigs := [9,10,11]) (by kernel_rfl) (by kernel_rfl) hat ?_)
    refine tp_val noA hbk Give_6 rfl rfl rfl (fun sX hR => (r_move rfl)) <| tp_val noA hbk Give_6 rfl rfl rfl (fun sX hR => (r_nil rfl)) <| tp_val noA hbk Give_6 rfl rfl rfl (fun sX hR => (r_field fk_81_1 rfl)) <| tp_val noA hbk Give_6 rfl rfl rfl (fun sX hR => (r_load ld_79 rfl (cell_at' ((hR.keep _ (lt_heap F) (.inl own_F)).trans F)))) <| tp_val noA hbk Give_6 rfl rfl rfl (fun sX hR => (r_move rfl)) <| tp_val noA hbk Give_6 rfl rfl rfl (fun sX hR => (r_index ix_79 rfl rfl (by omega) (by omega))) <| tp_val noA hbk Give_6 rfl rfl rfl (fun sX hR => (r_load ld_77 rfl (by simpa using ((hE2.nx (by omega)).2.keep (RelyI.stay hR)).cell (j := j) hjn))) <| tp_val noA hbk Give_6 rfl rfl rfl (fun sX hR => (r_move rfl)) <| tp_val noA hbk Give_6 rfl rfl rfl (fun sX hR => (r_move rfl)) ?_
    refine tp_call hbk Give_6 rfl rfl slFirst_fn slFirst_bd slFirst_nm (vals := #[]) rfl (fun c KK => ?_)
    refine HP.walk (slFirst_hold fun v hg => ?_)
    obtain ⟨Γ, hT, hR, hO, hN⟩ := hT.grown hg
    replace own_F := hO _ _ (lt_heap F) own_F
    replace F := hg.at F
    refine HP.stop (KK _ ⟨Γ0, v0, Γ, A, _, v⟩ (hR.toI _) ?_)
    refine tp_call hbk Give_6 rfl rfl wGet_fn wGet_bd wGet_nm (vals := #[_, _]) rfl (fun c KK => ?_)
    refine HP.walk (wGet_hold (p := 0) (q := 32) (by omega) fun v hg => ?_)
    obtain ⟨Γ, hT, hR, hO, hN⟩ := hT.grown hg
    replace own_F := hO _ _ (lt_heap F) own_F
    replace F := hg.at F
    refine HP.stop (KK _ ⟨Γ0, v0, Γ, A, _, v⟩ (hR.toI _) ?_)
    have hE3 := hEs.keep hT.rely.stay
    have hTb3 := hT.rely.same.2.2.2.1.trans hTb
    have hg1 := getN_lt (u64 x) 0 32
    refine tp_call hbk Give_6 rfl rfl CStore_fn CStore_bd CStore_nm (vals := #[_, _, _]) rfl (fun c KK => ?_)
    show HP i Fin (.store (1 + 2 * j) (firstN x) (.cas 0 x (chgX x (j + 1)) fun b => if b then kP 0 else giveL j kP f)) Γ0 v0 A _ v
    rw [← hTb3, ← (hE3.cb (1 + 2 * j) (by omega)).1]
    refine store_hp hT.wi hT.guar hT.lt (by have := hE3.n.2; omega) (firstN x : Nat) (by omega) (by show ((getN (u64 x) 0 32 : Nat) : Int) ≤ _; omega) _ _ ?_
    intro Γ0 v0 Γ v A hR hW hi hG
    replace hT := hT.later hR hW hi hG
    have own_x := (hR.own _ (lt_heap F)).trans own_F
    replace F := (hR.keep _ (lt_heap F) (.inr own_F)).trans F
    replace own_F := own_x; clear own_x
    refine KK _ ⟨Γ0, v0, Γ, A, _, v⟩ (hR.toI _) <| tp_end fun a hat => HP.walk <| hold_region_end <| hold_seq <| hold_seq ?_
    refine HP.stop (hp_draw (H := 0) (s := ⟨Γ0, v0, Γ, A, _, v⟩) (ord := [0,1,2,3,4,5,6,7,8,9,10,11]) (bigs := [9,10]) (by kernel_rfl) (by kernel_rfl) hat ?_)
    refine tp_val noA hbk Give_7 rfl rfl rfl (fun sX hR => (r_move rfl)) <| tp_val noA hbk Give_7 rfl rfl rfl (fun sX hR => (r_nil rfl)) <| tp_val noA hbk Give_7 rfl rfl rfl (fun sX hR => (r_field fk_81_0 rfl)) <| tp_val noA hbk Give_7 rfl rfl rfl (fun sX hR => (r_load ld_77 rfl (cell_at' ((hR.keep _ (lt_heap F) (.inl own_F)).trans F)))) <| tp_val noA hbk Give_7 rfl rfl rfl (fun sX hR => (r_move rfl)) <| tp_val noA hbk Give_7 rfl rfl rfl (fun sX hR => (r_move rfl)) <| tp_val noA hbk Give_7 rfl rfl rfl (fun sX hR => (r_move rfl)) <| tp_val noA hbk Give_7 rfl rfl rfl (fun sX hR => (r_move rfl)) <| tp_val noA hbk Give_7 rfl rfl rfl (fun sX hR => (r_add rfl rfl (by first | omega | (simp; omega)))) ?_
    refine tp_call hbk Give_7 rfl rfl slChg_fn slChg_bd slChg_nm (vals := #[_, _]) rfl (fun c KK => ?_)
    have hj1 : ((j : Int) + 1) = ((j + 1 : Nat) : Int) := by omega
    rw [hj1]
    refine HP.walk (slChg_hold (h := x) (to := j + 1) (by omega) fun v hg => ?_)
    obtain ⟨Γ, hT, hR, hO, hN⟩ := hT.grown hg
    replace own_F := hO _ _ (lt_heap F) own_F
    replace F := hg.at F
    refine HP.stop (KK _ ⟨Γ0, v0, Γ, A, _, v⟩ (hR.toI _) ?_)
    have hE4 := hEs.keep hT.rely.stay
    have hTb4 := hT.rely.same.2.2.2.1.trans hTb
    refine tp_call hbk Give_7 rfl rfl Cas_fn Cas_bd Cas_nm (vals := #[_, _, _, _]) rfl (fun c KK => ?_)
    show HP i Fin (.cas 0 x (chgX x (j + 1)) fun b => if b then kP 0 else giveL j kP f) Γ0 v0 A _ v
    rw [← hTb4, ← (hE4.cb 0 (by omega)).1]
    refine cas_hp (cc := 0) hT.wi hT.guar hT.lt (by have := hE4.n.2; omega) _ _ (chgX_range x _).1 (chgX_range x _).2 _ _ fun r => ?_
    intro Γ0 v0 Γ v A hR hW hi hG
    replace hT := hT.later hR hW hi hG
    have own_x := (hR.own _ (lt_heap F)).trans own_F
    replace F := (hR.keep _ (lt_heap F) (.inr own_F)).trans F
    replace own_F := own_x; clear own_x
    cases r with
    | true =>
      refine KK _ ⟨Γ0, v0, Γ, A, _, v⟩ (hR.toI _) <| tp_val noA hbk Give_7 rfl rfl rfl (fun sX hR => (r_not rfl)) <| tp_end fun a hat => HP.walk <| hold_region_end <| hold_condF (hat.eval (q := .tmp 58) rfl) rfl <| hold_skip <| hold_seq <| hold_region (l := [0]) rfl <| h_val noA hbk Give_8 rfl rfl (by decide) hat (r_assign rfl) fun a hat => hold_region_end ?_
      refine hold_retd hb hbf Give_fn hat.defers (ret_one Give_res hat rfl) (HP.stop ?_)
      exact hK 0 _ _ _ _ _ hT.rely hT.wi hT.lt hT.guar
    | false =>
      refine KK _ ⟨Γ0, v0, Γ, A, _, v⟩ (hR.toI _) <| tp_val noA hbk Give_7 rfl rfl rfl (fun sX hR => (r_not rfl)) <| tp_end fun a hat => HP.walk <| hold_region_end <| hold_condT (hat.eval (q := .tmp 58) rfl) rfl <| hold_exit (k' := _) rfl <| hold_inLoop <| HP.stop ?_
      exact ih _ _ _ _ _ _ hT (hat.sub (AtE.cons rfl (AtE.cons rfl (AtE.cons rfl (AtE.nil)))))
theorem give_hp {i : Nat} {Fin : List (Int × Int) → Gho → World → Prop} {kP : Int → Prog} {s gN gU cn cu n : Nat} {aN aU : Option Addr} {cbf : Nat → Nat} {Γ0 Γ_ : Gho} {v0 v : World} {A : Sys} (f : Nat) (x : Int) (hW : WI Γ_ A v) (hG : Guar i A.ths.length Γ0 v0 Γ_ v) (hi : i < A.ths.length) (hE : SEnv s gN gU cn cu n aN aU cbf Γ_ v) (c : Frame) (cs : List Frame)
    (hK : ∀ e, Go1 i Fin Γ_ v (kP e) (G (c.finish (.int .i64 e)) cs)) :
    HP i Fin (giveP n x kP f) Γ0 v0 A (G (Frame.enter Try.prog 16 #[.pointer (some ⟨s, 0, none⟩), .pointer (some ⟨Γ_.tb i, 0, none⟩), .int .i64 x] .normal) (c :: cs)) v := by
  have hT := TS.start hW hG hi
  obtain ⟨F, own_F⟩ := hE.s
  have hn1000 := hE.n.1
  generalize hTb : Γ_.tb i = T
  unfold giveP
  refine HP.walk ?_
  obtain ⟨b, a, hEq, hb, hbf, hat⟩ := enter_is Give_fn Give_body Give_tmps #[.pointer (some ⟨s, 0, none⟩), .pointer (some ⟨T, 0, none⟩), .int .i64 x] [(0, .pointer (some ⟨s, 0, none⟩)), (1, .pointer (some ⟨T, 0, none⟩)), (2, .int .i64 x)] rfl (by simp)
  rw [hEq]
  have hbk := not_early hb
  refine hold_unf Give_code_def <| hold_seq <| hold_region (l := [0]) rfl <| h_val noA hbk Give_0 rfl rfl (by decide) hat (r_assign rfl) fun a hat => hold_region_end <| hold_scope <| hold_seq <| hold_seq <| hold_region (l := [0,1,2,3,4,5,6,7,8,9,10]) rfl <| h_val noA hbk Give_1 rfl rfl (by decide) hat (r_move rfl) fun a hat => ?_
  by_cases h0 : x < 0
  · rw [if_pos (.inl h0)]
    refine h_val noA hbk Give_1 rfl rfl (by decide) hat (r_bool (t' := true) (r_lss rfl rfl) (by simp [h0])) fun a hat => h_val noA hbk Give_1 rfl rfl (by decide) hat (r_move rfl) fun a hat => hg_no Give_1 rfl rfl rfl rfl (by decide) hat fun a hat => hg_no Give_1 rfl rfl rfl rfl (by decide) hat fun a hat => hg_no Give_1 rfl rfl rfl rfl (by decide) hat fun a hat => hg_no Give_1 rfl rfl rfl rfl (by decide) hat fun a hat => hg_no Give_1 rfl rfl rfl rfl (by decide) hat fun a hat => hg_no Give_1 rfl rfl rfl rfl (by decide) hat fun a hat => hg_no Give_1 rfl rfl rfl rfl (by decide) hat fun a hat => h_val noA hbk Give_1 rfl rfl (by decide) hat (r_pick rfl rfl) fun a hat => hold_region_end <| hold_condT (hat.eval (q := .tmp 18) rfl) rfl <| hold_seq ?_
    refine hold_region (l := [0]) rfl <| h_val noA hbk Give_2 rfl rfl (by decide) hat (r_assign rfl) fun a hat => hold_region_end ?_
    refine hold_retd hb hbf Give_fn hat.defers (ret_one Give_res hat rfl) (HP.stop ?_)
    exact hK 1 _ _ _ _ _ hT.rely hT.wi hT.lt hT.guar
  · skip
    refine h_val noA hbk Give_1 rfl rfl (by decide) hat (r_bool (t' := false) (r_lss rfl rfl) (by simp; omega)) fun a hat => h_val noA hbk Give_1 rfl rfl (by decide) hat (r_move rfl) fun a hat => hg_yes noA hbk Give_1 rfl rfl rfl rfl (by decide) hat (r_move rfl) fun a hat => hg_yes noA hbk Give_1 rfl rfl rfl rfl (by decide) hat (r_move rfl) fun a hat => hg_yes noA hbk Give_1 rfl rfl rfl rfl (by decide) hat (r_nil rfl) fun a hat => hg_yes noA hbk Give_1 rfl rfl rfl rfl (by decide) hat (r_field fk_81_1 rfl) fun a hat => hg_yes noA hbk Give_1 rfl rfl rfl rfl (by decide) hat (r_load ld_79 rfl (cell_at' F)) fun a hat => hg_yes noA hbk Give_1 rfl rfl rfl rfl (by decide) hat (r_len lk_79 rfl) fun a hat => ?_
    by_cases h1 : (n : Int) ≤ x
    · rw [if_pos (.inr h1)]
      refine hg_yes noA hbk Give_1 rfl rfl rfl rfl (by decide) hat (r_bool (t' := true) (r_geq rfl rfl) (by simp; omega)) fun a hat => h_val noA hbk Give_1 rfl rfl (by decide) hat (r_pick rfl rfl) fun a hat => hold_region_end <| hold_condT (hat.eval (q := .tmp 18) rfl) rfl <| hold_seq <| hold_region (l := [0]) rfl <| h_val noA hbk Give_2 rfl rfl (by decide) hat (r_assign rfl) fun a hat => hold_region_end ?_
      refine hold_retd hb hbf Give_fn hat.defers (ret_one Give_res hat rfl) (HP.stop ?_)
      exact hK 1 _ _ _ _ _ hT.rely hT.wi hT.lt hT.guar
    · rw [if_neg (by omega)]
      refine hg_yes noA hbk Give_1 rfl rfl rfl rfl (by decide) hat (r_bool (t' := false) (r_geq rfl rfl) (by simp; omega)) fun a hat => ?_
      obtain ⟨j, rfl⟩ : ∃ j : Nat, x = j := ⟨x.toNat, by omega⟩
      have hjn : j < n := by omega
      rw [Int.toNat_natCast]
      obtain ⟨rfl, _⟩ := hE.nx (by omega)
      obtain ⟨rfl, _⟩ := hE.us (by omega)
      refine h_val noA hbk Give_1 rfl rfl (by decide) hat (r_pick rfl rfl) fun a hat => hold_region_end <| hold_condF (hat.eval (q := .tmp 18) rfl) rfl <| hold_skip <| hold_seq <| hold_seq <| hold_region (l := [0,1,2,3,4,5,6,7,8,9]) rfl <| h_val noA hbk Give_3 rfl rfl (by decide) hat (r_move rfl) fun a hat => h_val noA hbk Give_3 rfl rfl (by decide) hat (r_nil rfl) fun a hat => h_val noA hbk Give_3 rfl rfl (by decide) hat (r_field fk_81_2 rfl) fun a hat => h_val noA hbk Give_3 rfl rfl (by decide) hat (r_load ld_79 rfl (cell_at' F)) fun a hat => h_val noA hbk Give_3 rfl rfl (by decide) hat (r_move rfl) fun a hat => h_val noA hbk Give_3 rfl rfl (by decide) hat (r_index ix_79 rfl rfl (by omega) (by omega)) fun a hat => ?_
      refine h_val noA hbk Give_3 rfl rfl (by decide) hat (r_load ld_77 rfl (by simpa using ((hE.us (by omega)).2.cell (j := j) (by omega)))) fun a hat => h_val noA hbk Give_3 rfl rfl (by decide) hat (r_move rfl) fun a hat => h_callc hbk Give_3 rfl (by decide) hat Cas_fn Cas_bd Cas_nm (vals := #[_, _, _, _]) rfl fun c hc => HP.stop ?_
      rw [← hTb, ← (hE.cb (2 + 2 * j) (by omega)).1]
      refine cas_hp hT.wi hT.guar hT.lt (by have := hE.n.2; omega) _ _ (by omega) (by omega) _ _ fun r => ?_
      intro Γ0 v0 Γ v A hR hW hi hG
      replace hT := hT.later hR hW hi hG
      have own_x := (hR.own _ (lt_heap F)).trans own_F
      replace F := (hR.keep _ (lt_heap F) (.inr own_F)).trans F
      replace own_F := own_x; clear own_x
      cases r with
      | true =>
        refine hp_fin hc fun a hat => h_val noA hbk Give_3 rfl rfl (by decide) hat (r_not rfl) fun a hat => hold_region_end <| hold_condF (hat.eval (q := .tmp 28) rfl) rfl <| hold_skip <| hold_seq <| hold_label <| hold_block <| hold_loop <| HP.stop ?_
        exact give_loop hb hbf hK hE hTb hjn f _ _ _ _ _ _ hT (hat.sub (AtE.cons rfl (AtE.cons rfl (AtE.cons rfl (AtE.nil)))))
      | false =>
        refine hp_fin hc fun a hat => h_val noA hbk Give_3 rfl rfl (by decide) hat (r_not rfl) fun a hat => hold_region_end <| hold_condT (hat.eval (q := .tmp 28) rfl) rfl <| hold_seq <| hold_region (l := [0]) rfl <| h_val noA hbk Give_4 rfl rfl (by decide) hat (r_assign rfl) fun a hat => hold_region_end ?_
        refine hold_retd hb hbf Give_fn hat.defers (ret_one Give_res hat rfl) (HP.stop ?_)
        exact hK 81 _ _ _ _ _ hT.rely hT.wi hT.lt hT.guar
end Go.Proofs.Ytecdiejeofclaaa


/- A thread's own row of ints (a hand): what its steps keep. -/
namespace Go.Proofs.Ytecdiejeofclaaa
open Go Go.Conc
/-- A thread changes memory of its own, and its cells of rows that are everybody's. -/
theorem hand_step {i n : Nat} {Γ0 Γ : Gho} {v0 v v' : World} {A : Sys} (hW : WI Γ A v) (hG : Guar i n Γ0 v0 Γ v) (hsz : v.heap.size ≤ v'.heap.size) (hchg : ∀ b, b < v.heap.size → Γ.own b ≠ .thr i → Γ.own b ≠ .mixed → v'.heap[b]? = v.heap[b]?)
    (hmx : ∀ b j, b < v.heap.size → Γ.own b = .mixed → j ≠ i → v'.cell? ⟨b, j, none⟩ = v.cell? ⟨b, j, none⟩) (hmf : ∀ b j, b < v.heap.size → Γ.own b = .mixed → v'.frozen? ⟨b, j, none⟩ = v.frozen? ⟨b, j, none⟩) (hr : Ready0 v') :
    WI (Γ.ext v (.thr i)) A v' ∧ Guar i n Γ0 v0 (Γ.ext v (.thr i)) v' := by
  have hold : ∀ b, b < v.heap.size → (Γ.ext v (.thr i)).own b = Γ.own b := fun b hb => by simp [Gho.ext, hb]
  refine ⟨hW.other (fun b hb hs => hchg b hb (by rw [hs]; simp) (by rw [hs]; simp)) hr _, hG.trans ⟨hsz, ⟨rfl, rfl, rfl, fun _ _ => ⟨rfl, rfl⟩⟩, fun _ _ => rfl, hold, fun b hb _ h2 h3 => hchg b hb h2 h3, fun b j hb ho hj => hmx b j hb ho hj, fun b h1 _ => .inr (.inl (by simp [Gho.ext, show ¬ b < v.heap.size from by omega])), Nat.le_refl _, hmf⟩⟩
theorem own_relyI {H i : Nat} {Γ : Gho} {v v' : World} (hsz : v.heap.size ≤ v'.heap.size) (hchg : ∀ b, b < v.heap.size → Γ.own b = .const ∨ (Γ.own b = .thr i ∧ ¬ IntB v b) → v'.heap[b]? = v.heap[b]?)
    (hmx : ∀ b, b < v.heap.size → Γ.own b = .mixed → b ≠ H → v'.cell? ⟨b, i, none⟩ = v.cell? ⟨b, i, none⟩) (hmf : ∀ b j, b < v.heap.size → Γ.own b = .mixed → v'.frozen? ⟨b, j, none⟩ = v.frozen? ⟨b, j, none⟩) : RelyI H i Γ v (Γ.ext v (.thr i)) v' :=
  ⟨hsz, ⟨rfl, rfl, rfl, rfl, rfl⟩, fun _ _ => rfl, fun b hb => by simp [Gho.ext, hb], hchg, hmx, Nat.le_refl _, hmf⟩
instance relyCoe {H i : Nat} {Γ Γ' : Gho} {v v' : World} : Coe (Rely i Γ v Γ' v') (RelyI H i Γ v Γ' v') := ⟨fun h => h.toI H⟩
section
variable {H i : Nat} {Γs Γ0 Γ : Gho} {vs v0 v v' : World} {A : Sys} {B : Nat} {o : Obj}
theorem TSI.grown (hT : TSI H i Γs vs Γ0 v0 Γ A v) (hg : Grow v v') : ∃ Γ', TSI H i Γs vs Γ0 v0 Γ' A v' ∧ Rely i Γ v Γ' v' ∧ (∀ b o, b < v.heap.size → Γ.own b = o → Γ'.own b = o) ∧ ∀ b, v.heap.size ≤ b → Γ'.own b = .thr i := by
  refine ⟨Γ.ext v (.thr i), hT.priv hg.size (fun b hb _ => hg.same b hb) (hg.ready hT.wi.ready), ⟨hg.size, ⟨rfl, rfl, rfl, rfl, rfl⟩, fun _ _ => rfl, fun b hb => by simp [Gho.ext, hb], fun b hb _ => hg.same b hb, fun b hb _ => cell_same (hg.same b hb), Nat.le_refl _, fun b j hb _ => frozen_same (hg.same b hb)⟩, fun b o hb h => by simp [Gho.ext, hb, h], fun b hb => by simp [Gho.ext, show ¬ b < v.heap.size from by omega]⟩
theorem TSI.new (hT : TSI H i Γs vs Γ0 v0 Γ A v) (hB : v.heap.size = B) (hg : Grow v v') : ∃ Γ', TSI H i Γs vs Γ0 v0 Γ' A v' ∧ Rely i Γ v Γ' v' ∧ Γ'.own B = .thr i ∧ vs.heap.size ≤ B ∧ ∀ b o, b < v.heap.size → Γ.own b = o → Γ'.own b = o := by
  obtain ⟨Γ', h1, h2, h3, h4⟩ := hT.grown hg
  have := hT.rely.size
  exact ⟨Γ', h1, h2, h4 B (by omega), by omega, h3⟩
theorem TSI.put (hT : TSI H i Γs vs Γ0 v0 Γ A v) (hP : Puts v v' B o) (hB : vs.heap.size ≤ B) (ho : Γ.own B = .thr i) : ∃ Γ', TSI H i Γs vs Γ0 v0 Γ' A v' ∧ Γ'.tb = Γ.tb ∧ Γ'.cb = Γ.cb ∧ Γ'.nc = Γ.nc ∧ ∀ b, b < v.heap.size → Γ'.own b = Γ.own b := by
  refine ⟨Γ.ext v (.thr i), hT.priv (Nat.le_of_eq hP.size.symm) (fun b hb h => hP.other b fun e => ?_) (hP.ready hT.wi.ready), rfl, rfl, rfl, fun b hb => by simp [Gho.ext, hb]⟩
  subst e
  rcases h with h | h
  · omega
  · exact h ho
end
/-- What a thread has in hand. -/
structure HandV (i Bh : Nat) (hv : Value) (hand : List Int) (Γ : Gho) (v : World) : Prop where
  row : Bh < v.heap.size ∧ Γ.own Bh = .mixed
  cell : v.cell? ⟨Bh, i, none⟩ = some hv
  owns : v.ownsRow 0 3 1 hv hand.length (ints hand)
  own : ∀ b, hv.ownBlock = some b → b < v.heap.size ∧ Γ.own b = .thr i
  open_ : v.frozen? ⟨Bh, i, none⟩ = false
def HandAt (i Bh : Nat) (hand : List Int) (Γ : Gho) (v : World) : Prop := ∃ hv, HandV i Bh hv hand Γ v
theorem HandV.keep {i Bh : Nat} {hv : Value} {hand : List Int} {Γ Γ' : Gho} {v v' : World} (h : HandV i Bh hv hand Γ v) (hR : Rely i Γ v Γ' v') : HandV i Bh hv hand Γ' v' :=
  ⟨⟨Nat.lt_of_lt_of_le h.row.1 hR.size, (hR.own _ h.row.1).trans h.row.2⟩, (hR.mixed _ h.row.1 h.row.2).trans h.cell, ownsRow_keep h.owns fun b c hb _ => hR.keep b (h.own b hb).1 (.inl (h.own b hb).2), fun b hb => ⟨Nat.lt_of_lt_of_le (h.own b hb).1 hR.size, (hR.own _ (h.own b hb).1).trans (h.own b hb).2⟩, (hR.mf _ _ h.row.1 h.row.2).trans h.open_⟩
theorem HandAt.keep {i Bh : Nat} {hand : List Int} {Γ Γ' : Gho} {v v' : World} (h : HandAt i Bh hand Γ v) (hR : Rely i Γ v Γ' v') : HandAt i Bh hand Γ' v' := h.imp fun _ h => h.keep hR
theorem HandAt.ans {i Bh : Nat} {hand : List Int} {Γ Γ' : Gho} {v v' : World} (h : HandAt i Bh hand Γ v) (hR : AnsOnly i Γ v Γ' v') : HandAt i Bh hand Γ' v' := by
  obtain ⟨hv, ⟨r1, r2⟩, e1, e2, e3, o⟩ := h
  have hs := hR.mixed _ r1 r2
  exact ⟨hv, ⟨Nat.lt_of_lt_of_le r1 hR.size, (hR.own _ r1).trans r2⟩, (cell_same hs).trans e1, ownsRow_keep e2 fun b c hb hc => hR.keep b _ _ _ hc (by decide), fun b hb => ⟨Nat.lt_of_lt_of_le (e3 b hb).1 hR.size, (hR.own _ (e3 b hb).1).trans (e3 b hb).2⟩, (frozen_same hs).trans o⟩
/-- Nothing in hand. -/
structure Hand0 (i Bh : Nat) (Γ : Gho) (v : World) : Prop where
  row : Bh < v.heap.size ∧ Γ.own Bh = .mixed
  cell : v.cell? ⟨Bh, i, none⟩ = some (.slice none 0 0)
  open_ : v.frozen? ⟨Bh, i, none⟩ = false
theorem Hand0.at {i Bh : Nat} {Γ : Gho} {v : World} (h : Hand0 i Bh Γ v) : HandAt i Bh [] Γ v := ⟨_, h.row, h.cell, ⟨rfl, .inl ⟨rfl, rfl⟩⟩, fun b hb => (by cases hb), h.open_⟩
theorem Hand0.keepU {i Bh : Nat} {Γ Γ' : Gho} {v v' : World} (h : Hand0 i Bh Γ v) (hR : URely i Γ v Γ' v') : Hand0 i Bh Γ' v' :=
  ⟨⟨Nat.lt_of_lt_of_le h.row.1 hR.size, (hR.own _ h.row.1).trans h.row.2⟩, (hR.mixed _ h.row.1 h.row.2).trans h.cell, (hR.mf _ _ h.row.1 h.row.2).trans h.open_⟩
/-- The hand's array: appended to. -/
theorem HandV.app {H i Bh g cap n : Nat} {hand : List Int} {x : Int} {hv : Value} {Γ0 Γ : Gho} {v0 v v' : World} {A : Sys} (h : HandV i Bh hv hand Γ v) (hW : WI Γ A v) (hG : Guar i n Γ0 v0 Γ v) (hA : Apped v hv 3 1 (hand.length + 1) (ints hand ++ [.int .i64 x]) g cap v') :
    WI (Γ.ext v (.thr i)) A v' ∧ Guar i n Γ0 v0 (Γ.ext v (.thr i)) v' ∧ RelyI H i Γ v (Γ.ext v (.thr i)) v' ∧ g < v'.heap.size ∧ (Γ.ext v (.thr i)).own g = .thr i ∧ v'.heap[Bh]? = v.heap[Bh]? := by
  obtain ⟨⟨r1, r2⟩, e1, e2, e3, o⟩ := h
  have hne : ∀ b, b < v.heap.size → Γ.own b ≠ .thr i → v'.heap[b]? = v.heap[b]? := fun b hb ho => hA.same b hb fun e => ho (e3 b e).2
  have hm : ∀ b, b < v.heap.size → Γ.own b = .mixed → v'.heap[b]? = v.heap[b]? := fun b hb ho => hne b hb (by rw [ho]; simp)
  obtain ⟨s1, s2⟩ := hand_step hW hG hA.size (fun b hb ho _ => hne b hb ho) (fun b j hb ho _ => cell_same (hm b hb ho)) (fun b j hb ho => frozen_same (hm b hb ho)) hA.ready
  refine ⟨s1, s2, own_relyI hA.size (fun b hb ho => ?_) (fun b hb ho _ => cell_same (hm b hb ho)) (fun b j hb ho => frozen_same (hm b hb ho)), hA.lt, ?_, hm _ r1 r2⟩
  · rcases ho with ho | ⟨_, ho⟩
    · exact hne b hb (by rw [ho]; simp)
    · refine hA.same b hb fun e => ho ?_
      rcases e2.2 with ⟨rfl, _⟩ | ⟨g', cap', cur, rfl, _, hg, _⟩
      · cases e
      · cases e; exact ⟨_, _, hg⟩
  · rcases hA.where_ with e | e
    · simp [Gho.ext, (e3 g e).1, (e3 g e).2]
    · simp [Gho.ext, show ¬ g < v.heap.size from by omega]
/-- The hand itself: another value stands there. -/
theorem HandV.put {i Bh n : Nat} {hand : List Int} {Γ0 Γ : Gho} {v0 v v' : World} {A : Sys} {arr : Array Value} {t : TypeId} {fr : Nat × Nat} {y : Value} (r1 : Bh < v.heap.size) (r2 : Γ.own Bh = .mixed) (o : v.frozen? ⟨Bh, i, none⟩ = false) (hb : v.heap[Bh]? = some (.cells arr t fr)) (hi : i < arr.size) (hW : WI Γ A v) (hG : Guar i n Γ0 v0 Γ v) (hP : Puts v v' Bh (.cells (arr.setIfInBounds i y) t fr))
    (hown : v.ownsRow 0 3 1 y hand.length (ints hand)) (ho : ∀ b, y.ownBlock = some b → b < v.heap.size ∧ Γ.own b = .thr i) :
    WI (Γ.ext v (.thr i)) A v' ∧ Guar i n Γ0 v0 (Γ.ext v (.thr i)) v' ∧ RelyI Bh i Γ v (Γ.ext v (.thr i)) v' ∧ HandV i Bh y hand (Γ.ext v (.thr i)) v' := by
  have hold : ∀ b, b < v.heap.size → (Γ.ext v (.thr i)).own b = Γ.own b := fun b hb => by simp [Gho.ext, hb]
  have hmf : ∀ b j, b < v.heap.size → Γ.own b = .mixed → v'.frozen? ⟨b, j, none⟩ = v.frozen? ⟨b, j, none⟩ := fun b j _ _ => by
    by_cases e : b = Bh
    · subst e; rw [frozen_at' hb, frozen_at' hP.at_]
    · exact frozen_same (hP.other b e)
  have hmx : ∀ b j, b < v.heap.size → Γ.own b = .mixed → j ≠ i → v'.cell? ⟨b, j, none⟩ = v.cell? ⟨b, j, none⟩ := fun b j _ _ hj => by
    by_cases e : b = Bh
    · subst e
      rw [cell_at' hb, cell_at' hP.at_]
      simp only [Array.getElem?_setIfInBounds, if_neg (fun h : i = j => hj h.symm)]
    · exact cell_same (hP.other b e)
  obtain ⟨s1, s2⟩ := hand_step hW hG (Nat.le_of_eq hP.size.symm) (fun b _ _ h2 => hP.other b fun e => h2 (by rw [e]; exact r2)) hmx hmf (hP.ready hW.ready)
  · refine ⟨s1, s2, own_relyI (Nat.le_of_eq hP.size.symm) (fun b _ h2 => hP.other b fun e => ?_) (fun b _ _ hH => cell_same (hP.other b hH)) hmf, ⟨by rw [hP.size]; exact r1, (hold _ r1).trans r2⟩, ?_, ?_, fun b hb => ?_, (hmf _ _ r1 r2).trans o⟩
    · rw [e, r2] at h2
      rcases h2 with h | ⟨h, _⟩ <;> cases h
    · rw [cell_at' hP.at_]; simp [hi]
    · exact ownsRow_keep hown fun b c hb _ => hP.other b fun e => by have := (ho b hb).2; rw [e, r2] at this; cases this
    · rw [hP.size]; exact ⟨(ho b hb).1, (hold b (ho b hb).1).trans (ho b hb).2⟩
theorem HandV.other {i Bh B : Nat} {hv : Value} {hand : List Int} {Γ Γ' : Gho} {v v' : World} {o : Obj} {arr : Array Value} {t : TypeId} {fr : Nat × Nat} (h : HandV i Bh hv hand Γ v) (hP : Puts v v' B o) (hb : v.heap[B]? = some (.cells arr t fr)) (ht : t ≠ 3) (hne : B ≠ Bh) (hown : ∀ b, b < v.heap.size → Γ'.own b = Γ.own b) : HandV i Bh hv hand Γ' v' := by
  have hs := hP.other Bh (fun e => hne e.symm)
  exact ⟨⟨by rw [hP.size]; exact h.row.1, (hown _ h.row.1).trans h.row.2⟩, (cell_same hs).trans h.cell, ownsRow_keep h.owns fun b c hb' _ => hP.other b fun e => own_ne h.owns hb ht (by rw [hb', e]), fun b hb' => ⟨by rw [hP.size]; exact (h.own b hb').1, (hown _ (h.own b hb').1).trans (h.own b hb').2⟩, (frozen_same hs).trans h.open_⟩
theorem el_ints : Try.prog.elem 35 = 3 := by kernel_rfl
theorem ul_ints : Try.prog.underlying 35 = some (.slice (Try.prog.elem 35)) := by rw [el_ints]; exact Try.underlying35
theorem r_sliceHi {e : Env} {v : World} {q q' : Operand} {g len cap : Nat} {x : Int} (h : opv e q = some (.slice (some ⟨g, 0, none⟩) len cap)) (h' : opv e q' = some (.int .i64 x)) (h0 : 0 ≤ x) (h1 : x ≤ cap) :
    RunsTo Try.prog e (.slice 35 q none (some q') none) v (.value (.slice (some ⟨g, 0, none⟩) x.toNat cap)) v := fun ρ o hρ ho tt d => by
  have hs : ∀ w, (sizeOf (Try.prog.elem 35)).run Try.prog w = .ok 1 w := fun w => by rw [el_ints]; simp [go_sem]
  simp only [execOp, ho, Option.map_some, Option.map_none, hρ _ _ h, hρ _ _ h', Sem.run_bind, run_sliceAt_slice _ _ _ _ _ _ ul_ints, run_slice_h _ _ _ _ _ ul_ints _ _ h0 h1, hs, Result.andThen_ok, sliced]
  by_cases e : cap = 0
  · simp [e, go_sem]
  · simp [e, go_sem, Addr.add]
theorem cell_blk {v : World} {B O : Nat} {x : Value} (h : v.cell? ⟨B, O, none⟩ = some x) : ∃ arr t fr, v.heap[B]? = some (.cells arr t fr) ∧ arr[O]? = some x := by
  have h0 := h
  unfold World.cell? at h
  cases hb : v.heap[B]? with
  | none => simp only [hb] at h; cases h
  | some z => cases z <;> first | (rename_i c t f; exact ⟨c, t, f, rfl, by rw [cell_at' hb] at h0; exact h0⟩) | (simp only [hb] at h; cases h)
end Go.Proofs.Ytecdiejeofclaaa


/- slots: a script's call as a process. -/
namespace Go.Proofs.Ytecdiejeofclaaa
open Go Go.Conc
/-- What is in hand behind a call. -/
def handStep (hand : List Int) (x : ACall) (r : Int × Int) : List Int := if x.op = 1 then (if r.1 = 0 then hand ++ [r.2] else hand) else if x.op = 3 then hand.dropLast else hand
def handOf (l : List ACall) (acc : List (Int × Int)) : List Int := (l.zip acc).foldl (fun hd p => handStep hd p.1 p.2) []
/-- A call. -/
def slotsP (f n : Nat) (hand : List Int) (x : ACall) (k : Int × Int → Prog) : Prog :=
  if x.op = 1 then takeP n (fun y e => k (e, y)) f
  else if x.op = 2 then giveP n x.a (fun e => k (e, 0)) f
  else if x.op = 3 then (if hand = [] then k (1, 0) else giveP n (hand.getLastD 0) (fun e => if e = 0 then k (0, hand.getLastD 0) else k (e, 0)) f)
  else k (1, 0)
theorem int_last {hand : List Int} (h : hand ≠ []) : (ints hand)[((hand.length : Int) - 1).toNat]? = some (.int .i64 (hand.getLastD 0)) := by
  obtain ⟨l, x, rfl⟩ : ∃ l x, hand = l ++ [x] := ⟨_, _, (List.dropLast_concat_getLast h).symm⟩
  simp [ints, List.getLastD_eq_getLast?]
theorem HandV.last {i Bh : Nat} {ad : Option Addr} {n cap : Nat} {hand : List Int} {Γ : Gho} {v : World} (h : HandV i Bh (.slice ad n cap) hand Γ v) (h0 : hand ≠ []) :
    ∃ g, ad = some ⟨g, 0, none⟩ ∧ v.cell? ⟨g, ((hand.length : Int) - 1).toNat, none⟩ = some (.int .i64 (hand.getLastD 0)) ∧ n = hand.length ∧ hand.length ≤ cap ∧ v.ownsRow 0 3 1 (.slice ad ((hand.length : Int) - 1).toNat cap) hand.dropLast.length (ints hand.dropLast) := by
  have hpos := List.length_pos_iff.2 h0
  obtain ⟨g, cap', h1, h2, _⟩ := ownsRow_at1 h.owns (int_last h0)
  cases h1
  refine ⟨g, rfl, h2, rfl, ?_⟩
  have ho := h.owns
  rcases ho.2 with ⟨h1, _⟩ | ⟨g', cap', cur, h1, e1, e2, e3, e4, e5, e6⟩
  · cases h1
  · cases h1
    refine ⟨e3, by simp [ints], .inr ⟨g, cap, cur, ?_, Nat.zero_le _, e2, by simp; omega, e4, e5, ?_⟩⟩
    · simp
    · rw [Nat.mul_one] at e6
      simp only [List.length_dropLast, Nat.mul_one]
      have := congrArg (List.take (hand.length - 1)) e6
      rw [List.take_take, Nat.min_eq_left (by omega)] at this
      rw [this, List.dropLast_eq_take]
      simp [ints, List.map_take]
set_option maxHeartbeats 1000000 in
theorem slcall_hp {i : Nat} {Fin : List (Int × Int) → Gho → World → Prop} {kP : Int × Int → Prog} {s gN gU cn cu n Bh : Nat} {aN aU : Option Addr} {cbf : Nat → Nat} {hand : List Int} {Γ0 Γ_ : Gho} {v0 v : World} {A : Sys} (f : Nat) (x : ACall) (hW : WI Γ_ A v) (hG : Guar i A.ths.length Γ0 v0 Γ_ v) (hi : i < A.ths.length) (hE : SEnv s gN gU cn cu n aN aU cbf Γ_ v) (hH : HandAt i Bh hand Γ_ v) (hlen : hand.length ≤ 1000) (c : Frame) (cs : List Frame)
    (hK : ∀ r, Go1E Bh i Fin Γ_ v (HandAt i Bh (handStep hand x r)) (kP r) (G (c.finish (ansV r)) cs)) :
    HP i Fin (slotsP f n hand x kP) Γ0 v0 A (G (Frame.enter Try.prog 27 #[.pointer (some ⟨s, 0, none⟩), .pointer (some ⟨Γ_.tb i, 0, none⟩), acallV x, .pointer (some ⟨Bh, i, none⟩)] .normal) (c :: cs)) v := by
  have hT := (TS.start hW hG hi).toI Bh
  obtain ⟨hv, hHV⟩ := hH
  obtain ⟨op, xa, xb, xc⟩ := x
  generalize hTb : Γ_.tb i = T
  unfold slotsP
  have hx : acallV ⟨op, xa, xb, xc⟩ = .agg #[.int .i64 op, .int .i64 xa, .int .i64 xb, .int .i64 xc] := rfl
  rw [hx]
  refine HP.walk ?_
  obtain ⟨b, a, hEq, hb, hbf, hat⟩ := enter_is slCall_fn slCall_body slCall_tmps #[.pointer (some ⟨s, 0, none⟩), .pointer (some ⟨T, 0, none⟩), .agg #[.int .i64 op, .int .i64 xa, .int .i64 xb, .int .i64 xc], .pointer (some ⟨Bh, i, none⟩)] [(0, .pointer (some ⟨s, 0, none⟩)), (1, .pointer (some ⟨T, 0, none⟩)), (2, .agg #[.int .i64 op, .int .i64 xa, .int .i64 xb, .int .i64 xc]), (3, .pointer (some ⟨Bh, i, none⟩))] rfl (by simp)
  rw [hEq]
  have hbk := not_early hb
  refine hold_unf slCall_code_def <| hold_seq <| hold_region (l := [0,1]) rfl <| h_new noA hbk slCall_0 rfl rfl (by decide) hat (bx_39 rfl) fun v a B6 hB6 hsB6 hg F6 hat => ?_
  obtain ⟨Γ, hT, hR, own_F6, gB6, hO⟩ := hT.new hB6 hg
  replace hHV := hHV.keep hR
  refine h_new noA hbk slCall_0 rfl rfl (by decide) hat al_37 fun v a B8 hB8 hsB8 hg F8 hat => ?_
  have n_F8_F6 := ne_new F6 hB8
  obtain ⟨Γ, hT, hR, own_F8, gB8, hO⟩ := hT.new hB8 hg
  replace own_F6 := hO _ _ (lt_heap F6) own_F6
  replace F6 := hg.at F6
  refine hold_region_end <| hold_seq <| hold_seq <| hold_region (l := [0,1]) rfl <| h_val noA hbk slCall_1 rfl rfl (by decide) hat (r_field fk_39_0 rfl) fun a hat => h_val noA hbk slCall_1 rfl rfl (by decide) hat (r_load ld_3 rfl (cell_at' F6)) fun a hat => hold_region_end <| hold_block <| hold_seq <| hold_region (l := [0,1]) rfl ?_
  replace hHV := hHV.keep hR
  by_cases h1 : op = 1
  · rw [if_pos h1]
    refine h_val noA hbk slCall_2 rfl (opOk_eq (by kernel_rfl)) (by decide) hat (r_bool (t' := true) (r_eql rfl rfl) (by simp [h1])) fun a hat => h_val noA hbk slCall_2 rfl rfl (by decide) hat (r_assign rfl) fun a hat => hold_region_end <| hold_condT (hat.eval (q := .tmp 16) rfl) rfl <| hold_seq <| hold_region (l := [0,1,2,3,4,5,6,7]) rfl <| h_val noA hbk slCall_3 rfl rfl (by decide) hat (r_move rfl) fun a hat => h_val noA hbk slCall_3 rfl rfl (by decide) hat (r_move rfl) fun a hat => h_callc hbk slCall_3 rfl (by decide) hat Take_fn Take_bd Take_nm (vals := #[_, _]) rfl fun c hc => HP.stop ?_
    rw [← hT.rely.same.2.2.2.1.trans hTb]
    refine take_hp f hT.wi hT.guar hT.lt (hE.keep hT.rely.stay) _ _ fun y er => ?_
    intro Γ0 v0 Γ v A hR hW hi hG
    replace hT := hT.later hR hW hi hG
    have own_x := (hR.own _ (lt_heap F6)).trans own_F6
    replace F6 := (hR.keep _ (lt_heap F6) (.inl own_F6)).trans F6
    replace own_F6 := own_x; clear own_x
    have own_x := (hR.own _ (lt_heap F8)).trans own_F8
    replace F8 := (hR.keep _ (lt_heap F8) (.inl own_F8)).trans F8
    replace own_F8 := own_x; clear own_x
    replace hHV := hHV.keep hR
    refine hp_fin hc fun a hat => h_val noA hbk slCall_3 rfl rfl (by decide) hat (r_move rfl) fun a hat => h_val noA hbk slCall_3 rfl rfl (by decide) hat (r_extract rfl rfl) fun a hat => h_val noA hbk slCall_3 rfl rfl (by decide) hat (r_extract rfl rfl) fun a hat => h_val noA hbk slCall_3 rfl rfl (by decide) hat (r_assign rfl) fun a hat => h_val noA hbk slCall_3 rfl rfl (by decide) hat (r_assign rfl) fun a hat => hold_region_end <| hold_seq <| hold_seq <| hold_region (l := [0,1]) rfl <| h_val noA hbk slCall_4 rfl rfl (by decide) hat (r_move rfl) fun a hat => ?_
    by_cases he : er = 0
    · refine h_val noA hbk slCall_4 rfl (opOk_eq (by kernel_rfl)) (by decide) hat (r_bool (t' := true) (r_eql rfl rfl) (by simp [he])) fun a hat => hold_region_end <| hold_condT (hat.eval (q := .tmp 25) rfl) rfl <| hold_region (l := [0,1,2,3,4,5,6,7,8,9,10]) rfl <| h_val noA hbk slCall_5 rfl rfl (by decide) hat (r_move rfl) fun a hat => h_val noA hbk slCall_5 rfl rfl (by decide) hat (r_move rfl) fun a hat => h_val noA hbk slCall_5 rfl rfl (by decide) hat (r_nil rfl) fun a hat => h_val noA hbk slCall_5 rfl rfl (by decide) hat (r_field fk_68_0 rfl) fun a hat => h_val noA hbk slCall_5 rfl rfl (by decide) hat (r_load ld_35 rfl (by simpa using hHV.cell)) fun a hat => h_val noA hbk slCall_5 rfl rfl (by decide) hat (r_move rfl) fun a hat => h_news noA hbk slCall_5 rfl rfl (by decide) hat (bs_35_1_0 rfl rfl) fun v a B32 hB32 hsB32 hg F32 hat => ?_
      have n_F32_F6 := ne_new F6 hB32
      have n_F32_F8 := ne_new F8 hB32
      obtain ⟨Γ, hT, hR, own_F32, gB32, hO⟩ := hT.new hB32 hg
      replace own_F6 := hO _ _ (lt_heap F6) own_F6
      replace own_F8 := hO _ _ (lt_heap F8) own_F8
      replace F6 := hg.at F6
      replace F8 := hg.at F8
      replace hHV := hHV.keep hR
      refine h_app noA hbk slCall_5 rfl (by decide) hat ek_35 hT.wi.ready hHV.owns rfl rfl F32 rfl (by simp [Value.oneCell']) (by decide) (Nat.le_trans (Nat.add_le_add_right hlen 1) (by decide)) (by omega) fun g cap v' a hAp hat => ?_
      obtain ⟨w1, w2, w3, w4, w5, w6⟩ := hHV.app (H := Bh) hT.wi hT.guar hAp
      have F8' := (hAp.same B8 (lt_of_heap F8) (own_ne hHV.owns F8 (by decide))).trans F8
      have o8 : (Γ.ext v (.thr i)).own B8 = .thr i := by simp only [Gho.ext]; rw [if_pos (lt_heap F8)]; exact own_F8
      have hT' := (⟨w1, hT.rely.trans w3, w2, hT.lt⟩ : TSI Bh i _ _ _ _ _ _ _)
      obtain ⟨arr, tt, fr, hb1, hb2⟩ := cell_blk hHV.cell
      have hb1' := w6.trans hb1
      have hop := hHV.open_
      rw [frozen_at' hb1] at hop
      refine h_val noA hbk slCall_5 rfl rfl (by decide) hat (r_nil rfl) fun a hat => h_val noA hbk slCall_5 rfl rfl (by decide) hat (r_field fk_68_0 rfl) fun a hat => h_put noA hbk slCall_5 rfl rfl hat (p_store st_35 rfl rfl rfl hb1' (x := hv) (by simpa using hb2) (by simpa using hop)) fun v2 a hP Fx hat => ?_
      have hil : i < arr.size := (Array.getElem?_eq_some_iff.1 hb2).1
      have hrow := hHV.row
      have hr1 : Bh < v'.heap.size := lt_of_heap hb1'
      have hr2 : (Γ.ext v (.thr i)).own Bh = .mixed := by simp only [Gho.ext]; rw [if_pos hrow.1]; exact hrow.2
      simp only [Nat.add_zero] at hP
      have hown' : v'.ownsRow 0 3 1 (.slice (some ⟨g, 0, none⟩) (hand.length + 1) cap) (hand ++ [y]).length (ints (hand ++ [y])) := by
        have := hAp.owns
        rw [List.length_append, List.length_singleton, show ints (hand ++ [y]) = ints hand ++ [.int .i64 y] by simp [ints]]
        exact this
      obtain ⟨z1, z2, z3, z4⟩ := HandV.put (hand := hand ++ [y]) hr1 hr2 (by rw [frozen_at' hb1']; exact hop) hb1' hil hT'.wi hT'.guar hP hown' (fun b hb => by cases hb; exact ⟨w4, w5⟩)
      have hne8 : B8 ≠ Bh := fun e => by rw [e, hr2] at o8; cases o8
      have F8'' := hP.keep hne8 F8'
      have o8' : ((Γ.ext v (.thr i)).ext v' (.thr i)).own B8 = .thr i := by simp only [Gho.ext] at o8 ⊢; rw [if_pos (lt_heap F8')]; exact o8
      have hT'' := (⟨z1, hT'.rely.trans z3, z2, hT'.lt⟩ : TSI Bh i _ _ _ _ _ _ _)
      obtain ⟨Γ, hΓ⟩ : ∃ Γ', Γ' = (Γ.ext v (.thr i)).ext v' (.thr i) := ⟨_, rfl⟩
      rw [← hΓ] at hT'' z4 o8'
      replace hT := hT''
      have F8 := F8''
      have own_F8 := o8'
      have F8o := F8
      refine hold_region_end <| hold_seq <| hold_region (l := [0,1,2,3]) rfl <| h_val noA hbk slCall_6 rfl rfl (by decide) hat (r_move rfl) fun a hat => h_val noA hbk slCall_6 rfl rfl (by decide) hat (r_move rfl) fun a hat => h_val noA hbk slCall_6 rfl rfl (by decide) hat (bu_37_0_1 rfl rfl rfl rfl) fun a hat => h_put noA hbk slCall_6 rfl rfl hat (pg_37 rfl rfl F8 rfl rfl rfl rfl rfl) fun v a hP F8x hat => ?_
      simp only [List.setIfInBounds_toArray, List.set_cons_succ, List.set_cons_zero] at F8x
      obtain ⟨Γ, hT, hΓ1, hΓ2, hΓ3, hO⟩ := hT.put hP gB8 own_F8
      replace own_F8 := (hO _ (hP.size ▸ lt_heap F8x)).trans own_F8
      replace F8 := F8x; clear F8x
      refine hold_region_end ?_
      have hHV := z4.other hP F8o (by decide) hne8 hO
      refine hold_retdV hb hbf slCall_fn hat.defers (ret_cell1 slCall_res hat rfl (var_answer (cell_at' F8) (cell_at' F8))) (HP.stop ?_)
      subst he h1
      exact hK (0, y) _ _ _ _ _ hT.rely hT.wi hT.lt hT.guar ⟨_, hHV⟩
    · skip
      refine h_val noA hbk slCall_4 rfl (opOk_eq (by kernel_rfl)) (by decide) hat (r_bool (t' := false) (r_eql rfl rfl) (by simp [he])) fun a hat => ?_
      have F8o := F8
      have hne8 : B8 ≠ Bh := fun e => by have h8 := own_F8; rw [e, hHV.row.2] at h8; cases h8
      refine hold_region_end <| hold_condF (hat.eval (q := .tmp 25) rfl) rfl <| hold_skip <| hold_seq <| hold_region (l := [0,1,2,3]) rfl <| h_val noA hbk slCall_6 rfl rfl (by decide) hat (r_move rfl) fun a hat => h_val noA hbk slCall_6 rfl rfl (by decide) hat (r_move rfl) fun a hat => h_val noA hbk slCall_6 rfl rfl (by decide) hat (bu_37_0_1 rfl rfl rfl rfl) fun a hat => h_put noA hbk slCall_6 rfl rfl hat (pg_37 rfl rfl F8 rfl rfl rfl rfl rfl) fun v a hP F8x hat => ?_
      simp only [List.setIfInBounds_toArray, List.set_cons_succ, List.set_cons_zero] at F8x
      replace F6 := hP.keep (by first | exact n_F8_F6 | exact n_F6_F8.symm | exact ne_of_types F6 F8 (by decide) | omega) F6
      obtain ⟨Γ, hT, hΓ1, hΓ2, hΓ3, hO⟩ := hT.put hP gB8 own_F8
      replace own_F6 := (hO _ (hP.size ▸ lt_heap F6)).trans own_F6
      replace own_F8 := (hO _ (hP.size ▸ lt_heap F8x)).trans own_F8
      replace F8 := F8x; clear F8x
      refine hold_region_end ?_
      replace hHV := hHV.other hP F8o (by decide) hne8 hO
      refine hold_retdV hb hbf slCall_fn hat.defers (ret_cell1 slCall_res hat rfl (var_answer (cell_at' F8) (cell_at' F8))) (HP.stop ?_)
      refine hK (er, y) _ _ _ _ _ hT.rely hT.wi hT.lt hT.guar ⟨hv, ?_⟩
      have hs : handStep hand ⟨op, xa, xb, xc⟩ (er, y) = hand := by simp [handStep, h1, he]
      rw [hs]
      exact hHV
  · rw [if_neg h1]
    refine h_val noA hbk slCall_2 rfl (opOk_eq (by kernel_rfl)) (by decide) hat (r_bool (t' := false) (r_eql rfl rfl) (by simp [h1])) fun a hat => h_val noA hbk slCall_2 rfl rfl (by decide) hat (r_assign rfl) fun a hat => hold_region_end <| hold_condF (hat.eval (q := .tmp 16) rfl) rfl <| hold_seq <| hold_region (l := [0,1]) rfl ?_
    by_cases h2 : op = 2
    · rw [if_pos h2]
      refine h_val noA hbk slCall_7 rfl (opOk_eq (by kernel_rfl)) (by decide) hat (r_bool (t' := true) (r_eql rfl rfl) (by simp [h2])) fun a hat => h_val noA hbk slCall_7 rfl rfl (by decide) hat (r_assign rfl) fun a hat => hold_region_end <| hold_condT (hat.eval (q := .tmp 39) rfl) rfl <| hold_seq <| hold_region (l := [0,1,2,3,4,5,6]) rfl <| h_val noA hbk slCall_8 rfl rfl (by decide) hat (r_move rfl) fun a hat => h_val noA hbk slCall_8 rfl rfl (by decide) hat (r_move rfl) fun a hat => h_val noA hbk slCall_8 rfl rfl (by decide) hat (r_field fk_39_1 rfl) fun a hat => h_val noA hbk slCall_8 rfl rfl (by decide) hat (r_load ld_3 rfl (cell_at' F6)) fun a hat => h_callc hbk slCall_8 rfl (by decide) hat Give_fn Give_bd Give_nm (vals := #[_, _, _]) rfl fun c hc => HP.stop ?_
      rw [← hT.rely.same.2.2.2.1.trans hTb]
      refine give_hp f xa hT.wi hT.guar hT.lt (hE.keep hT.rely.stay) _ _ fun er => ?_
      intro Γ0 v0 Γ v A hR hW hi hG
      replace hT := hT.later hR hW hi hG
      have own_x := (hR.own _ (lt_heap F6)).trans own_F6
      replace F6 := (hR.keep _ (lt_heap F6) (.inl own_F6)).trans F6
      replace own_F6 := own_x; clear own_x
      have own_x := (hR.own _ (lt_heap F8)).trans own_F8
      replace F8 := (hR.keep _ (lt_heap F8) (.inl own_F8)).trans F8
      replace own_F8 := own_x; clear own_x
      replace hHV := hHV.keep hR
      refine hp_fin hc fun a hat => ?_
      have F8o := F8
      have hne8 : B8 ≠ Bh := fun e => by have h8 := own_F8; rw [e, hHV.row.2] at h8; cases h8
      refine h_val noA hbk slCall_8 rfl rfl (by decide) hat (bu_37_0 rfl rfl) fun a hat => h_put noA hbk slCall_8 rfl rfl hat (pg_37 rfl rfl F8 rfl rfl rfl rfl rfl) fun v a hP F8x hat => ?_
      simp only [List.setIfInBounds_toArray, List.set_cons_succ, List.set_cons_zero] at F8x
      replace F6 := hP.keep (by first | exact n_F8_F6 | exact n_F6_F8.symm | exact ne_of_types F6 F8 (by decide) | omega) F6
      obtain ⟨Γ, hT, hΓ1, hΓ2, hΓ3, hO⟩ := hT.put hP gB8 own_F8
      replace own_F6 := (hO _ (hP.size ▸ lt_heap F6)).trans own_F6
      replace own_F8 := (hO _ (hP.size ▸ lt_heap F8x)).trans own_F8
      replace F8 := F8x; clear F8x
      refine hold_region_end ?_
      replace hHV := hHV.other hP F8o (by decide) hne8 hO
      refine hold_retdV hb hbf slCall_fn hat.defers (ret_cell1 slCall_res hat rfl (var_answer (cell_at' F8) (cell_at' F8))) (HP.stop ?_)
      refine hK (er, 0) _ _ _ _ _ hT.rely hT.wi hT.lt hT.guar ⟨hv, ?_⟩
      have hs : handStep hand ⟨op, xa, xb, xc⟩ (er, 0) = hand := by subst h2; rfl
      rw [hs]
      exact hHV
    · rw [if_neg h2]
      refine h_val noA hbk slCall_7 rfl (opOk_eq (by kernel_rfl)) (by decide) hat (r_bool (t' := false) (r_eql rfl rfl) (by simp [h2])) fun a hat => h_val noA hbk slCall_7 rfl rfl (by decide) hat (r_assign rfl) fun a hat => hold_region_end <| hold_condF (hat.eval (q := .tmp 39) rfl) rfl <| hold_seq <| hold_region (l := [0,1]) rfl ?_
      by_cases h3 : op = 3
      · rw [if_pos h3]
        refine h_val noA hbk slCall_9 rfl (opOk_eq (by kernel_rfl)) (by decide) hat (r_bool (t' := true) (r_eql rfl rfl) (by simp [h3])) fun a hat => h_val noA hbk slCall_9 rfl rfl (by decide) hat (r_assign rfl) fun a hat => hold_region_end <| hold_condT (hat.eval (q := .tmp 47) rfl) rfl <| hold_seq <| hold_region (l := [0,1,2,3,4,5,6]) rfl <| h_val noA hbk slCall_10 rfl rfl (by decide) hat (r_move rfl) fun a hat => h_val noA hbk slCall_10 rfl rfl (by decide) hat (r_nil rfl) fun a hat => h_val noA hbk slCall_10 rfl rfl (by decide) hat (r_field fk_68_0 rfl) fun a hat => h_val noA hbk slCall_10 rfl rfl (by decide) hat (r_load ld_35 rfl (by simpa using hHV.cell)) fun a hat => ?_
        obtain ⟨ad, cap, rfl⟩ := ownsRow_slice hHV.owns
        refine h_val noA hbk slCall_10 rfl rfl (by decide) hat (r_len lk_35 rfl) fun a hat => h_val noA hbk slCall_10 rfl rfl (by decide) hat (r_sub rfl rfl (by first | omega | (simp; omega))) fun a hat => h_val noA hbk slCall_10 rfl rfl (by decide) hat (r_assign rfl) fun a hat => hold_region_end <| hold_seq <| hold_seq <| hold_region (l := [0,1]) rfl <| h_val noA hbk slCall_11 rfl rfl (by decide) hat (r_move rfl) fun a hat => ?_
        by_cases h0 : hand = []
        · rw [if_pos h0]
          refine h_val noA hbk slCall_11 rfl rfl (by decide) hat (r_bool (t' := true) (r_lss rfl rfl) (by simp [h0])) fun a hat => ?_
          have F8o := F8
          have hne8 : B8 ≠ Bh := fun e => by have h8 := own_F8; rw [e, hHV.row.2] at h8; cases h8
          refine hold_region_end <| hold_condT (hat.eval (q := .tmp 56) rfl) rfl <| hold_exit (k' := _) rfl <| hold_seq <| hold_region (l := [0,1]) rfl <| h_val noA hbk slCall_18 rfl rfl (by decide) hat (bu_37_0 rfl rfl) fun a hat => h_put noA hbk slCall_18 rfl rfl hat (pg_37 rfl rfl F8 rfl rfl rfl rfl rfl) fun v a hP F8x hat => ?_
          simp only [List.setIfInBounds_toArray, List.set_cons_succ, List.set_cons_zero] at F8x
          replace F6 := hP.keep (by first | exact n_F8_F6 | exact n_F6_F8.symm | exact ne_of_types F6 F8 (by decide) | omega) F6
          obtain ⟨Γ, hT, hΓ1, hΓ2, hΓ3, hO⟩ := hT.put hP gB8 own_F8
          replace own_F6 := (hO _ (hP.size ▸ lt_heap F6)).trans own_F6
          replace own_F8 := (hO _ (hP.size ▸ lt_heap F8x)).trans own_F8
          replace F8 := F8x; clear F8x
          refine hold_region_end ?_
          replace hHV := hHV.other hP F8o (by decide) hne8 hO
          refine hold_retdV hb hbf slCall_fn hat.defers (ret_cell1 slCall_res hat rfl (var_answer (cell_at' F8) (cell_at' F8))) (HP.stop ?_)
          refine hK (1, 0) _ _ _ _ _ hT.rely hT.wi hT.lt hT.guar ⟨.slice ad hand.length cap, ?_⟩
          have hs : handStep hand ⟨op, xa, xb, xc⟩ (1, 0) = hand := by simp [handStep, h3, h0]
          rw [hs]
          exact hHV
        · rw [if_neg h0]
          refine h_val noA hbk slCall_11 rfl rfl (by decide) hat (r_bool (t' := false) (r_lss rfl rfl) (by simp; have := List.length_pos_iff.2 h0; omega)) fun a hat => ?_
          obtain ⟨g, rfl, hgl, _, hcap, hdrop⟩ := hHV.last h0
          have hpos := List.length_pos_iff.2 h0
          generalize hand.getLastD 0 = y at hgl ⊢
          refine hold_region_end <| hold_condF (hat.eval (q := .tmp 56) rfl) rfl <| hold_skip <| hold_seq <| hold_region (l := [0,1,2,3,4,5,6,7]) rfl <| h_val noA hbk slCall_12 rfl rfl (by decide) hat (r_move rfl) fun a hat => h_val noA hbk slCall_12 rfl rfl (by decide) hat (r_nil rfl) fun a hat => h_val noA hbk slCall_12 rfl rfl (by decide) hat (r_field fk_68_0 rfl) fun a hat => h_val noA hbk slCall_12 rfl rfl (by decide) hat (r_load ld_35 rfl (by simpa using hHV.cell)) fun a hat => h_val noA hbk slCall_12 rfl rfl (by decide) hat (r_move rfl) fun a hat => h_val noA hbk slCall_12 rfl rfl (by decide) hat (r_index ix_35 rfl rfl (by omega) (by omega)) fun a hat => h_val noA hbk slCall_12 rfl rfl (by decide) hat (r_load ld_3 rfl (by simpa using hgl)) fun a hat => h_val noA hbk slCall_12 rfl rfl (by decide) hat (r_assign rfl) fun a hat => ?_
          refine hold_region_end <| hold_seq <| hold_region (l := [0,1,2,3,4,5,6,7,8,9]) rfl <| h_val noA hbk slCall_13 rfl rfl (by decide) hat (r_move rfl) fun a hat => h_val noA hbk slCall_13 rfl rfl (by decide) hat (r_move rfl) fun a hat => h_val noA hbk slCall_13 rfl rfl (by decide) hat (r_nil rfl) fun a hat => h_val noA hbk slCall_13 rfl rfl (by decide) hat (r_field fk_68_0 rfl) fun a hat => h_val noA hbk slCall_13 rfl rfl (by decide) hat (r_load ld_35 rfl (by simpa using hHV.cell)) fun a hat => h_val noA hbk slCall_13 rfl rfl (by decide) hat (r_move rfl) fun a hat => h_val noA hbk slCall_13 rfl rfl (by decide) hat (r_sliceHi rfl rfl (by omega) (by omega)) fun a hat => h_val noA hbk slCall_13 rfl rfl (by decide) hat (r_nil rfl) fun a hat => h_val noA hbk slCall_13 rfl rfl (by decide) hat (r_field fk_68_0 rfl) fun a hat => ?_
          obtain ⟨arr, tt, fr, hb1, hb2⟩ := cell_blk hHV.cell
          have hop := hHV.open_
          rw [frozen_at' hb1] at hop
          refine h_put noA hbk slCall_13 rfl rfl hat (p_store st_35 rfl rfl rfl hb1 (x := .slice (some ⟨g, 0, none⟩) hand.length cap) (by simpa using hb2) (by simpa using hop)) fun v2 a hP Fx hat => ?_
          have hil : i < arr.size := (Array.getElem?_eq_some_iff.1 hb2).1
          have hrow := hHV.row
          simp only [Nat.add_zero] at hP
          obtain ⟨z1, z2, z3, z4⟩ := HandV.put (hand := hand.dropLast) hrow.1 hrow.2 hHV.open_ hb1 hil hT.wi hT.guar hP hdrop (fun b hb => hHV.own b hb)
          have hne6 : B6 ≠ Bh := fun e => by rw [e, hrow.2] at own_F6; cases own_F6
          have hne8 : B8 ≠ Bh := fun e => by rw [e, hrow.2] at own_F8; cases own_F8
          have F6' := hP.keep hne6 F6
          have F8' := hP.keep hne8 F8
          have o6 : (Γ.ext v (.thr i)).own B6 = .thr i := by simp only [Gho.ext]; rw [if_pos (lt_heap F6)]; exact own_F6
          have o8 : (Γ.ext v (.thr i)).own B8 = .thr i := by simp only [Gho.ext]; rw [if_pos (lt_heap F8)]; exact own_F8
          have hT' := (⟨z1, hT.rely.trans z3, z2, hT.lt⟩ : TSI Bh i _ _ _ _ _ _ _)
          obtain ⟨Γ, hΓ⟩ : ∃ Γ', Γ' = Γ.ext v (.thr i) := ⟨_, rfl⟩
          rw [← hΓ] at hT' z4 o6 o8
          replace hT := hT'
          have F6 := F6'
          have F8 := F8'
          have own_F6 := o6
          have own_F8 := o8
          have hHV := z4
          refine hold_region_end <| hold_seq <| hold_seq <| hold_region (l := [0,1,2,3,4]) rfl <| h_val noA hbk slCall_14 rfl rfl (by decide) hat (r_move rfl) fun a hat => h_val noA hbk slCall_14 rfl rfl (by decide) hat (r_move rfl) fun a hat => h_val noA hbk slCall_14 rfl rfl (by decide) hat (r_move rfl) fun a hat => h_callc hbk slCall_14 rfl (by decide) hat Give_fn Give_bd Give_nm (vals := #[_, _, _]) rfl fun c hc => HP.stop ?_
          rw [← hT.rely.same.2.2.2.1.trans hTb]
          refine give_hp f y hT.wi hT.guar hT.lt (hE.keep hT.rely.stay) _ _ fun er => ?_
          intro Γ0 v0 Γ v A hR hW hi hG
          replace hT := hT.later hR hW hi hG
          have own_x := (hR.own _ (lt_heap F6)).trans own_F6
          replace F6 := (hR.keep _ (lt_heap F6) (.inl own_F6)).trans F6
          replace own_F6 := own_x; clear own_x
          have own_x := (hR.own _ (lt_heap F8)).trans own_F8
          replace F8 := (hR.keep _ (lt_heap F8) (.inl own_F8)).trans F8
          replace own_F8 := own_x; clear own_x
          replace hHV := hHV.keep hR
          refine hp_fin hc fun a hat => h_val noA hbk slCall_14 rfl rfl (by decide) hat (r_assign rfl) fun a hat => hold_region_end <| hold_seq <| hold_region (l := [0,1]) rfl <| h_val noA hbk slCall_15 rfl rfl (by decide) hat (r_move rfl) fun a hat => ?_
          have hs : ∀ z, handStep hand ⟨op, xa, xb, xc⟩ (er, z) = hand.dropLast := fun z => by simp [handStep, h3]
          have F8o := F8
          have hne8 : B8 ≠ Bh := fun e => by have h8 := own_F8; rw [e, hHV.row.2] at h8; cases h8
          by_cases he : er = 0
          · refine h_val noA hbk slCall_15 rfl (opOk_eq (by kernel_rfl)) (by decide) hat (r_bool (t' := false) (r_neq rfl rfl) (by simp [he])) fun a hat => hold_region_end <| hold_condF (hat.eval (q := .tmp 78) rfl) rfl <| hold_skip <| hold_seq <| hold_region (l := [0,1,2]) rfl <| h_val noA hbk slCall_17 rfl rfl (by decide) hat (r_move rfl) fun a hat => h_val noA hbk slCall_17 rfl rfl (by decide) hat (bu_37_1 rfl rfl) fun a hat => h_put noA hbk slCall_17 rfl rfl hat (pg_37 rfl rfl F8 rfl rfl rfl rfl rfl) fun v a hP F8x hat => ?_
            simp only [List.setIfInBounds_toArray, List.set_cons_succ, List.set_cons_zero] at F8x
            replace F6 := hP.keep (by first | exact n_F8_F6 | exact n_F6_F8.symm | exact ne_of_types F6 F8 (by decide) | omega) F6
            obtain ⟨Γ, hT, hΓ1, hΓ2, hΓ3, hO⟩ := hT.put hP gB8 own_F8
            replace own_F6 := (hO _ (hP.size ▸ lt_heap F6)).trans own_F6
            replace own_F8 := (hO _ (hP.size ▸ lt_heap F8x)).trans own_F8
            replace F8 := F8x; clear F8x
            refine hold_region_end ?_
            replace hHV := hHV.other hP F8o (by decide) hne8 hO
            refine hold_retdV hb hbf slCall_fn hat.defers (ret_cell1 slCall_res hat rfl (var_answer (cell_at' F8) (cell_at' F8))) (HP.stop ?_)
            rw [if_pos he]
            subst he
            refine hK (0, y) _ _ _ _ _ hT.rely hT.wi hT.lt hT.guar ⟨(.slice (some ⟨g, 0, none⟩) ((hand.length : Int) - 1).toNat cap), ?_⟩
            rw [hs]
            exact hHV
          · skip
            refine h_val noA hbk slCall_15 rfl (opOk_eq (by kernel_rfl)) (by decide) hat (r_bool (t' := true) (r_neq rfl rfl) (by simp [he])) fun a hat => hold_region_end <| hold_condT (hat.eval (q := .tmp 78) rfl) rfl <| hold_seq <| hold_region (l := [0,1,2]) rfl <| h_val noA hbk slCall_16 rfl rfl (by decide) hat (r_move rfl) fun a hat => h_val noA hbk slCall_16 rfl rfl (by decide) hat (bu_37_0 rfl rfl) fun a hat => h_put noA hbk slCall_16 rfl rfl hat (pg_37 rfl rfl F8 rfl rfl rfl rfl rfl) fun v a hP F8x hat => ?_
            simp only [List.setIfInBounds_toArray, List.set_cons_succ, List.set_cons_zero] at F8x
            replace F6 := hP.keep (by first | exact n_F8_F6 | exact n_F6_F8.symm | exact ne_of_types F6 F8 (by decide) | omega) F6
            obtain ⟨Γ, hT, hΓ1, hΓ2, hΓ3, hO⟩ := hT.put hP gB8 own_F8
            replace own_F6 := (hO _ (hP.size ▸ lt_heap F6)).trans own_F6
            replace own_F8 := (hO _ (hP.size ▸ lt_heap F8x)).trans own_F8
            replace F8 := F8x; clear F8x
            refine hold_region_end ?_
            replace hHV := hHV.other hP F8o (by decide) hne8 hO
            refine hold_retdV hb hbf slCall_fn hat.defers (ret_cell1 slCall_res hat rfl (var_answer (cell_at' F8) (cell_at' F8))) (HP.stop ?_)
            rw [if_neg he]
            refine hK (er, 0) _ _ _ _ _ hT.rely hT.wi hT.lt hT.guar ⟨(.slice (some ⟨g, 0, none⟩) ((hand.length : Int) - 1).toNat cap), ?_⟩
            rw [hs]
            exact hHV
      · rw [if_neg h3]
        refine h_val noA hbk slCall_9 rfl (opOk_eq (by kernel_rfl)) (by decide) hat (r_bool (t' := false) (r_eql rfl rfl) (by simp [h3])) fun a hat => ?_
        have F8o := F8
        have hne8 : B8 ≠ Bh := fun e => by have h8 := own_F8; rw [e, hHV.row.2] at h8; cases h8
        refine h_val noA hbk slCall_9 rfl rfl (by decide) hat (r_assign rfl) fun a hat => hold_region_end <| hold_condF (hat.eval (q := .tmp 47) rfl) rfl <| hold_skip <| hold_inBlock <| hold_seq <| hold_region (l := [0,1]) rfl <| h_val noA hbk slCall_18 rfl rfl (by decide) hat (bu_37_0 rfl rfl) fun a hat => h_put noA hbk slCall_18 rfl rfl hat (pg_37 rfl rfl F8 rfl rfl rfl rfl rfl) fun v a hP F8x hat => ?_
        simp only [List.setIfInBounds_toArray, List.set_cons_succ, List.set_cons_zero] at F8x
        replace F6 := hP.keep (by first | exact n_F8_F6 | exact n_F6_F8.symm | exact ne_of_types F6 F8 (by decide) | omega) F6
        obtain ⟨Γ, hT, hΓ1, hΓ2, hΓ3, hO⟩ := hT.put hP gB8 own_F8
        replace own_F6 := (hO _ (hP.size ▸ lt_heap F6)).trans own_F6
        replace own_F8 := (hO _ (hP.size ▸ lt_heap F8x)).trans own_F8
        replace F8 := F8x; clear F8x
        refine hold_region_end ?_
        replace hHV := hHV.other hP F8o (by decide) hne8 hO
        refine hold_retdV hb hbf slCall_fn hat.defers (ret_cell1 slCall_res hat rfl (var_answer (cell_at' F8) (cell_at' F8))) (HP.stop ?_)
        refine hK (1, 0) _ _ _ _ _ hT.rely hT.wi hT.lt hT.guar ⟨hv, ?_⟩
        have hs : handStep hand ⟨op, xa, xb, xc⟩ (1, 0) = hand := by simp [handStep, h1, h3]
        rw [hs]
        exact hHV
end Go.Proofs.Ytecdiejeofclaaa

