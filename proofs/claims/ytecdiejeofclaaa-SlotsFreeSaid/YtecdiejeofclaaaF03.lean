/- Joined texts: SysF InfS SysG SysH InfT SysI SysJ SysK SysL SysM SysN SkB InfU InfV. -/
import Derived.Test.YtecdiejeofclaaaF02
import Derived.IntWalk
import Derived.Laws.LoneSync
import Derived.Deep.AppendLies
import Derived.KernelRfl
set_option linter.all false
/- Did. -/
namespace Go.Proofs.Ytecdiejeofclaaa
open Go Go.Conc
theorem mixed_ok : Try.prog.follows .mixedOrders = true := by kernel_rfl
section
variable {P : Program} {L : Allow} {v : World} {V l : List (Option Nat × Op × Option (Nat × Bool))} {e : Env} {K : Env → Prop} {d : Nat} {op : Op} {y : Value}
theorem ch_nil (h : K e) : Chain P L v V [] e K := h
theorem ch_run (hok : opOk P L op = true) (h : RunsTo P (restr e op) op v (.value y) v) (H : Chain P L v V l ((d, y) :: e) K) : Chain P L v V ((some d, op, none) :: l) e K := ⟨y, .run hok h, H⟩
theorem ch_yes {g dg : Nat} {w : Bool} (hg : (V[g]?).bind (·.1) = some dg) (hb : look e dg = some (.bool w)) (hok : opOk P L op = true) (h : RunsTo P (restr e op) op v (.value y) v) (H : Chain P L v V l ((d, y) :: e) K) : Chain P L v V ((some d, op, some (g, w)) :: l) e K := ⟨dg, w, hg, hb, .inl ⟨rfl, y, .run hok h, H⟩⟩
theorem ch_no {g dg : Nat} {w : Bool} (hg : (V[g]?).bind (·.1) = some dg) (hb : look e dg = some (.bool !w)) (H : Chain P L v V l ((d, undef) :: e) K) : Chain P L v V ((some d, op, some (g, w)) :: l) e K := ⟨dg, _, hg, hb, .inr ⟨rfl, H⟩⟩
theorem r_pick {q q1 q2 : Operand} {b : Bool} {y : Value} (h : opv e q = some (.bool b)) (hy : opv e (if b then q1 else q2) = some y) : RunsTo P e (.pick q q1 q2) v (.value y) v := fun ρ o hρ ho t d => by
  simp only [execOp, ho, hρ _ _ h]
  cases b
  · have := hρ _ _ hy; simp at this; simp [asBool, this]
  · have := hρ _ _ hy; simp at this; simp [asBool, this]
end
/-- A cell's count goes up. -/
theorem WI.bumped {Γ : Gho} {A : Sys} {v : World} (hW : WI Γ A v) {c : Nat} {x : Int} (hx : A.cnt[c]? = some x) (hlt : x < 2 ^ 40) {arr : Array Value} {g n cap : Nat} (hw : v.heap[Γ.W]? = some (.cells arr 74 (8, 9))) (hcv : arr[3]? = some (.slice (some ⟨g, 0, none⟩) n cap)) :
    WI Γ (A.bump c) (v.setCell ⟨g, c, none⟩ (.int .i64 (x + 1))) ∧ Γ.own g = .sys := by
  obtain ⟨y1, y2, y3, y4, y5, y6, y7, y8, y9, y10, y11, y12, y13, y14, y15⟩ := tys
  obtain ⟨sv, cv, tv, rv, hw0, r1, r2, r3, r4, o1, o2, o3, o4, o5⟩ := hW.world
  rw [hw] at hw0
  simp only [Option.some.injEq, Obj.cells.injEq, and_true] at hw0
  subst hw0
  simp at hcv
  subst hcv
  have hclt := (List.getElem?_eq_some_iff.1 hx).1
  have r2' := r2
  rcases r2.2 with ⟨h, h0⟩ | ⟨g', cap', cur, h, hb0, hg, hnc, hcm, hcs, htk⟩
  · cases h
  · cases h
    have keep : ∀ {b : Nat} {c' : Array Value} {e : TypeId} {f : Nat × Nat}, v.heap[b]? = some (.cells c' e f) → e ≠ 3 → (v.setCell ⟨g, c, none⟩ (.int .i64 (x + 1))).heap[b]? = v.heap[b]? := fun hb hne => set_other (ne_of_types hb hg hne)
    have hch : ∀ c', fresh v c' → fresh (v.setCell ⟨g, c, none⟩ (.int .i64 (x + 1))) c' := fun c' hc => fresh_keep hc (set_other (ne_of_chan hg hc))
    refine ⟨⟨ready_set hW.ready, ⟨sv, _, tv, rv, (keep hw y2).trans hw, ?_, ?_, ?_, ?_, o1, o2, o3, o4, o5⟩, fun j tj hj => ?_, ⟨hch _ hW.back.1, hW.back.2⟩, fun c' x' hc => ?_, hW.used, fun z hz => ?_, hW.chansApart, hW.backApart, by simpa [Sys.bump] using hW.nc, hW.vals64⟩, o2 g rfl⟩
    · refine ownsRow_keep r1 fun b c' hbk hb => set_other fun e => ?_
      subst e
      rcases o5 with h | h
      · rw [h] at hbk; cases hbk
      · exact h hbk
    · refine ⟨by simp [Sys.bump, ints], .inr ⟨g, cap, _, by simp [Sys.bump], hb0, set_self hg, by simpa [Sys.bump] using hnc, hcm, by simpa using hcs, ?_⟩⟩
      have hl : (A.cnt.modify c (· + 1)).length = A.cnt.length := by simp
      simp only [Sys.bump, hl, Array.toList_setIfInBounds, Nat.mul_one]
      rw [List.take_set, show cur.toList.take A.cnt.length = ints A.cnt from by simpa using htk]
      simp only [ints]
      apply List.ext_getElem?
      intro j
      rw [List.getElem?_set, List.getElem?_map, List.getElem?_map, List.getElem?_modify]
      by_cases e : c = j
      · subst e
        rw [hx]; simp [hclt]
      · simp [e]
    · exact ownsRow_keep r3 fun b c' _ hb => keep hb y10.symm
    · exact ownsRow_keep r4 fun b c' _ hb => keep hb y11.symm
    · obtain ⟨h1, h2, h3, h4⟩ := hW.th j tj hj
      exact ⟨(keep h1 y6).trans h1, hch _ h2, h3, h4⟩
    · obtain ⟨h1, h2⟩ := hW.cells c' x' hc
      exact ⟨(keep h1 y12.symm).trans h1, h2⟩
    · obtain ⟨j, hj⟩ := List.mem_iff_getElem?.1 (show z ∈ A.cnt.modify c (· + 1) from hz)
      rw [List.getElem?_modify] at hj
      cases hy : A.cnt[j]? with
      | none => rw [hy] at hj; cases hj
      | some y0 =>
        rw [hy] at hj
        have hm := hW.ints64 y0 (List.mem_of_getElem? hy)
        by_cases e : c = j
        · subst e
          rw [hx] at hy; cases hy
          simp at hj; omega
        · simp [e] at hj; omega
/-- What Did does. -/
def Sys.did (A : Sys) (i : Nat) (op : Int) (c : Nat) (x y : Int) : Sys := if x = y then A.note i op c x y else (A.note i op c x y).bump c
theorem did_hold {main : Bool} {S : Addr → Prop} {Stop : Goroutine → World → Prop} {i : Nat} {Γ : Gho} {A : Sys} {v : World} (hW : WI Γ A v) {tt : TSt} (ht : A.ths[i]? = some tt) (hlen : A.trace.length < traceMax) {cc : Nat} (hcc : tt.cell = cc) {z : Int} (hz : A.cnt[cc]? = some z) (x y : Int) (hzl : x ≠ y → z < 2 ^ 40) (c : Frame) (cs : List Frame)
    (K : ∀ v', WI (Γ.ext v .sys) (A.did i tt.op cc x y) v' → (∀ i n, Guar i n Γ v (Γ.ext v .sys) v') → (∀ i, Rely i Γ v (Γ.ext v .sys) v') → Hold Try.prog main S Stop (G (c.finish (.tuple #[])) cs) v') :
    Hold Try.prog main S Stop (G (Frame.enter Try.prog 44 #[.pointer (some ⟨Γ.tb i, 0, none⟩), .int .i64 x, .int .i64 y] .normal) (c :: cs)) v := by
  have hi : i < A.ths.length := (List.getElem?_eq_some_iff.1 ht).1
  obtain ⟨hti, hgi, hoi, hogi⟩ := hW.th i tt ht
  rw [enter_at Did_fn Did_body]
  generalize hb0 : ({ (default : Frame) with fn := 44, kind := .normal } : Frame) = b
  have hbk : b.kind ≠ .early := by subst hb0; simp
  have c0 : v.cell? ⟨Γ.tb i, 0, none⟩ = some (.pointer (some ⟨Γ.W, 0, none⟩)) := cell_of hti
  have c4 : v.cell? ⟨Γ.tb i, 4, none⟩ = some (.int .i64 tt.cell) := cell_of hti
  have c5 : v.cell? ⟨Γ.tb i, 5, none⟩ = some (.int .i64 tt.op) := cell_of hti
  have hat : AtE 63 [] [(0, .pointer (some ⟨Γ.tb i, 0, none⟩)), (1, .int .i64 x), (2, .int .i64 y)] { tmps := #[.pointer (some ⟨Γ.tb i, 0, none⟩), .int .i64 x, .int .i64 y] ++ Array.replicate (Try.f44.ntmps - 3) undef, defers := [] } := by
    rw [Did_tmps]; exact AtE.start #[.pointer (some ⟨Γ.tb i, 0, none⟩), .int .i64 x, .int .i64 y] 60
  generalize ({ tmps := #[.pointer (some ⟨Γ.tb i, 0, none⟩), .int .i64 x, .int .i64 y] ++ Array.replicate (Try.f44.ntmps - #[Value.pointer (some ⟨Γ.tb i, 0, none⟩), .int .i64 x, .int .i64 y].size) undef, defers := [] } : Act) = a at hat ⊢
  unfold Did_code
  refine hold_seq (hold_seq (hold_region (l := [0,1,2,3,4]) rfl ?_))
  refine h_val noA hbk Did_0 rfl rfl (by decide) hat (r_move rfl) fun a hat => h_val noA hbk Did_0 rfl rfl (by decide) hat (r_nil rfl) fun a hat => h_val noA hbk Did_0 rfl rfl (by decide) hat (r_field fk_th_0 rfl) fun a hat => h_val noA hbk Did_0 rfl rfl (by decide) hat (r_load ld_pw rfl c0) fun a hat => ?_
  refine h_val noA hbk Did_0 rfl opOk_nil (by decide) hat (y := .bool false) (v' := v) (fun ρ o hρ ho t d => by
    have h1 := hρ (.tmp 9) _ rfl
    have h2 := hρ (.const (.pointer none)) _ rfl
    simp only [execOp, ho]
    simp [go_sem, h1, h2]) fun a hat => ?_
  refine hold_region_end (hold_cond (hat.eval rfl) (hold_skip (hold_seq ?_)))
  refine hold_draw (m := 11) mixed_ok ln_ok hbk Did_1 (by kernel_rfl) (by kernel_rfl) hW.ready hat (K := fun e' => e' = [(21, .int .i64 y), (20, .int .i64 x), (19, .int .i64 tt.cell), (18, .pointer (some ⟨Γ.tb i, 4, none⟩)), (17, .pointer (some ⟨Γ.tb i, 0, none⟩)), (16, .pointer (some ⟨Γ.tb i, 0, none⟩)), (15, .int .i64 tt.op), (14, .pointer (some ⟨Γ.tb i, 5, none⟩)), (13, .pointer (some ⟨Γ.tb i, 0, none⟩)), (12, .pointer (some ⟨Γ.tb i, 0, none⟩)), (11, .pointer (some ⟨Γ.tb i, 0, none⟩)),
    (10, .bool false), (9, .pointer (some ⟨Γ.W, 0, none⟩)), (8, .pointer (some ⟨Γ.tb i, 0, none⟩)), (7, .pointer (some ⟨Γ.tb i, 0, none⟩)), (6, .pointer (some ⟨Γ.tb i, 0, none⟩)), (0, .pointer (some ⟨Γ.tb i, 0, none⟩)), (1, .int .i64 x), (2, .int .i64 y)]) ?_ ?_
  · refine ch_run rfl (r_move rfl) (ch_run rfl (r_move rfl) (ch_run rfl (r_nil rfl) (ch_run rfl (r_field fk_th_5 rfl) (ch_run rfl (r_load ld_int rfl c5) (ch_run rfl (r_move rfl) (ch_run rfl (r_nil rfl) (ch_run rfl (r_field fk_th_4 rfl) (ch_run rfl (r_load ld_int rfl c4) (ch_run rfl (r_move rfl) (ch_run rfl (r_move rfl) (ch_nil ?_)))))))))))
    rfl
  · rintro _ a rfl hat
    refine h_enter (L := Ln) ln_ok.2 hbk Did_1 rfl (note_call (by simp)) hat (f := 61) (args := #[.pointer (some ⟨Γ.tb i, 0, none⟩), .int .i64 tt.op, .int .i64 tt.cell, .int .i64 x, .int .i64 y]) (fun ρ o hρ ho t d => by
      have h1 := hρ (.tmp 11) _ rfl
      have h2 := hρ (.tmp 15) _ rfl
      have h3 := hρ (.tmp 19) _ rfl
      have h4 := hρ (.tmp 20) _ rfl
      have h5 := hρ (.tmp 21) _ rfl
      have h6 := hρ (.func 61) _ rfl
      simp only [execOp, ho]
      simp [go_sem, h1, h2, h3, h4, h5, h6]) ?_
    refine note_hold rfl hW hi hlen _ _ _ _ _ _ fun v1 hW1 hG1 hR1 => ?_
    obtain ⟨a1, hat1, hfin⟩ := back_val (b := b) (a := a) (k := [.code (.seq (.region 2 (Rg Try.f44.body 2) true) (.cond (.tmp 47) (.region 3 (Rg Try.f44.body 3) true) .skip))]) (rest := []) Did_1 (i := 11) (d := 22) rfl (by decide) hat (.tuple #[])
    refine Eq.subst (motive := fun X => Hold Try.prog main S Stop (G X (c :: cs)) v1) hfin.symm ?_
    refine hold_region_end (hold_seq ?_)
    have hat2 : AtE 63 [] [(0, .pointer (some ⟨Γ.tb i, 0, none⟩)), (1, .int .i64 x), (2, .int .i64 y)] a1 := hat1.sub (AtE.cons rfl (AtE.cons rfl (AtE.cons rfl AtE.nil)))
    clear hat hat1
    obtain ⟨hti1, hgi1, hoi1, hogi1⟩ := hW1.th i tt ht
    obtain ⟨sv, cv, tv, rv, hw, r1, r2, r3, r4, o1, o2, o3, o4, o5⟩ := hW1.world
    have c0 : v1.cell? ⟨Γ.tb i, 0, none⟩ = some (.pointer (some ⟨Γ.W, 0, none⟩)) := cell_of hti1
    have c4 : v1.cell? ⟨Γ.tb i, 4, none⟩ = some (.int .i64 tt.cell) := cell_of hti1
    have w3 : v1.cell? ⟨Γ.W, 3, none⟩ = some cv := cell_of hw
    have hz1 : (ints A.cnt)[cc]? = some (.int .i64 z) := by simp [ints, hz]
    obtain ⟨g, cap, rfl, hcell, hclt, cur, hcur⟩ := ownsRow_at1 (n := A.cnt.length) r2 hz1
    have hz0 : 0 ≤ z := (hW.ints64 z (List.mem_of_getElem? hz)).1
    by_cases hxy : x = y
    · refine hold_draw (m := 25) mixed_ok ln_ok hbk Did_2 (by kernel_rfl) (by kernel_rfl) hW1.ready hat2 (K := fun e' => look e' 47 = some (.bool false)) ?_ ?_
      · refine ch_run rfl (r_move rfl) (ch_run rfl (r_move rfl) (ch_run (y := .bool false) (opOk_eq eqt_int) (fun ρ o hρ ho t d => by
          have h1 := hρ (.tmp 23) _ rfl
          have h2 := hρ (.tmp 24) _ rfl
          simp only [execOp, ho]
          simp [go_sem, h1, h2, hxy]) (ch_run rfl (r_move rfl) ?_)))
        iterate 5 (refine ch_no rfl rfl ?_)
        refine ch_run rfl (r_pick rfl rfl) (ch_run rfl (r_move rfl) ?_)
        iterate 13 (refine ch_no rfl rfl ?_)
        refine ch_run rfl (r_pick rfl rfl) (ch_nil rfl)
      · intro e' a' he hat'
        refine hold_region_end (hold_cond (hat'.eval (q := .tmp 47) he) (hold_skip (hold_end (.inl (by subst hb0; rfl)) (hold_return (by subst hb0; rfl) (by subst hb0; exact Did_fn) hat'.defers (ret_none Did_res _) ?_))))
        refine K v1 ?_ hG1 hR1
        have : A.did i tt.op cc x y = A.note i tt.op cc x y := by simp [Sys.did, hxy]
        rw [this, ← hcc]; exact hW1
    · have hzl' := hzl hxy
      have hge : (0 : Int) ≤ (cc : Int) := Int.natCast_nonneg cc
      have hlt : (cc : Int) < (A.cnt.length : Int) := by exact_mod_cast hclt
      refine hold_draw (m := 25) mixed_ok ln_ok hbk Did_2 (by kernel_rfl) (by kernel_rfl) hW1.ready hat2 (K := fun e' => look e' 47 = some (.bool true) ∧ look e' 0 = some (.pointer (some ⟨Γ.tb i, 0, none⟩))) ?_ ?_
      · refine ch_run rfl (r_move rfl) (ch_run rfl (r_move rfl) (ch_run (y := .bool true) (opOk_eq eqt_int) (fun ρ o hρ ho t d => by
          have h1 := hρ (.tmp 23) _ rfl
          have h2 := hρ (.tmp 24) _ rfl
          simp only [execOp, ho]
          simp [go_sem, h1, h2, hxy]) (ch_run rfl (r_move rfl) ?_)))
        refine ch_yes rfl rfl rfl (r_move rfl) (ch_yes rfl rfl rfl (r_nil rfl) (ch_yes rfl rfl rfl (r_field fk_th_4 rfl) (ch_yes rfl rfl rfl (r_load ld_int rfl c4) (ch_yes (y := .bool true) rfl rfl rfl (fun ρ o hρ ho t d => by
          have h1 := hρ (.tmp 30) _ rfl
          have h2 := hρ (.const (.int .i64 0)) _ rfl
          simp only [execOp, ho]
          simp [go_sem, h1, h2, hcc, hge]) ?_))))
        refine ch_run rfl (r_pick rfl rfl) (ch_run rfl (r_move rfl) ?_)
        refine ch_yes rfl rfl rfl (r_move rfl) (ch_yes rfl rfl rfl (r_nil rfl) (ch_yes rfl rfl rfl (r_field fk_th_4 rfl) (ch_yes rfl rfl rfl (r_load ld_int rfl c4) (ch_yes rfl rfl rfl (r_move rfl) (ch_yes rfl rfl rfl (r_nil rfl) (ch_yes rfl rfl rfl (r_field fk_th_0 rfl) (ch_yes rfl rfl rfl (r_load ld_pw rfl c0) (ch_yes rfl rfl rfl (r_nil rfl) (ch_yes rfl rfl rfl (r_field fk_w_3 rfl) (ch_yes rfl rfl rfl (r_load ld_ints rfl w3) ?_))))))))))
        refine ch_yes (y := .int .i64 A.cnt.length) rfl rfl rfl (fun ρ o hρ ho t d => by
          have h1 := hρ (.tmp 44) _ rfl
          simp only [execOp, ho]
          simp [go_sem, h1]) (ch_yes (y := .bool true) rfl rfl rfl (fun ρ o hρ ho t d => by
          have h1 := hρ (.tmp 37) _ rfl
          have h2 := hρ (.tmp 45) _ rfl
          simp only [execOp, ho]
          simp [go_sem, h1, h2, hcc, hlt]) (ch_run rfl (r_pick rfl rfl) (ch_nil ⟨rfl, rfl⟩)))
      · rintro e' a' ⟨he, he0⟩ hat'
        refine hold_region_end (hold_cond (hat'.eval (q := .tmp 47) he) ?_)
        have hat3 : AtE 63 [] [(0, .pointer (some ⟨Γ.tb i, 0, none⟩))] a' := hat'.sub (AtE.cons he0 AtE.nil)
        clear hat'
        refine hold_draw (m := 15) mixed_ok ln_ok hbk Did_3 (by kernel_rfl) (by kernel_rfl) hW1.ready hat3 (K := fun e' => look e' 62 = some (.pointer (some ⟨g, cc, none⟩)) ∧ look e' 61 = some (.int .i64 (z + 1))) ?_ ?_
        · have hix : ∀ t d, (execOp a.eval { dst := none, op := .move (.tmp 0), type := 0, pos := "", after := #[], guard := none }).run Try.prog (v1.re t d) = (execOp a.eval { dst := none, op := .move (.tmp 0), type := 0, pos := "", after := #[], guard := none }).run Try.prog (v1.re t d) := fun _ _ => rfl
          refine ch_run rfl (r_move rfl) (ch_run rfl (r_nil rfl) (ch_run rfl (r_field fk_th_0 rfl) (ch_run rfl (r_load ld_pw rfl c0) (ch_run rfl (r_nil rfl) (ch_run rfl (r_field fk_w_3 rfl) (ch_run rfl (r_load ld_ints rfl w3) (ch_run rfl (r_move rfl) (ch_run rfl (r_nil rfl) (ch_run rfl (r_field fk_th_4 rfl) (ch_run rfl (r_load ld_int rfl c4) ?_))))))))))
          refine ch_run (y := .pointer (some ⟨g, cc, none⟩)) rfl (fun ρ o hρ ho t d => by
            have h1 := hρ (.tmp 54) _ rfl
            have h2 := hρ (.tmp 58) _ rfl
            simp only [execOp, ho]
            simp [go_sem, h1, h2, hcc, hlt]) (ch_run rfl (r_load ld_int rfl hcell) (ch_run (y := .int .i64 (z + 1)) rfl (fun ρ o hρ ho t d => by
            have h1 := hρ (.tmp 60) _ rfl
            have h2 := hρ (.const (.int .i64 1)) _ rfl
            simp only [execOp, ho]
            simp [go_sem, h1, h2, IntWalk.i64_in (z + 1) (by omega)]) (ch_run (y := .pointer (some ⟨g, cc, none⟩)) rfl (fun ρ o hρ ho t d => by
            have h1 := hρ (.tmp 54) _ rfl
            have h2 := hρ (.tmp 58) _ rfl
            simp only [execOp, ho]
            simp [go_sem, h1, h2, hcc, hlt]) (ch_nil ⟨rfl, rfl⟩))))
        · rintro e' a' ⟨he1, he2⟩ hat'
          refine h_skip ln_ok.2 hbk Did_3 rfl rfl hat' (r_store st_int (by exact he1) (by exact he2) rfl hcell (frozen_of hcur)) fun a'' hat'' => ?_
          refine hold_region_end (hold_end (.inl (by subst hb0; rfl)) (hold_return (by subst hb0; rfl) (by subst hb0; exact Did_fn) hat''.defers (ret_none Did_res _) ?_))
          have hz2 : (A.note i tt.op cc x y).cnt[cc]? = some z := hz
          obtain ⟨hWb, hog⟩ := hW1.bumped hz2 (hzl hxy) hw rfl
          have hs : ∀ b, (Γ.ext v .sys).own b ≠ .sys → (v1.setCell ⟨g, cc, none⟩ (.int .i64 (z + 1))).heap[b]? = v1.heap[b]? := fun b hb => set_other fun e => hb (by rw [e]; exact hog)
          have : A.did i tt.op cc x y = (A.note i tt.op cc x y).bump cc := by simp [Sys.did, hxy]
          refine K _ (by rw [this]; rw [hcc] at hWb; exact hWb) (fun i n => (hG1 i n).trans (guar_sys size_set hs)) (fun i => (hR1 i).trans (rely_sys size_set hs))
end Go.Proofs.Ytecdiejeofclaaa


/- Infrastructure S: calls' beginnings and ends; atomic cells. -/
namespace Go.Proofs.Ytecdiejeofclaaa
open Go Go.Conc
section
variable {P : Program} {S : Addr → Prop} {main : Bool} {Stop : Goroutine → World → Prop} {N : Nat} {D : List Deferred} {e : Env}
variable {b : Frame} {a : Act} {k : List Item} {cs : List Frame} {v : World} {L : Allow}
def envOf (args : Array Value) : Env := (List.range args.size).map fun i => (i, args.getD i undef)
theorem enter_is {f : FuncId} {fn : Func} {c : Code} {n : Nat} (hf : P.funcs[f]? = some fn) (hb : fn.body = some c) (hn : fn.ntmps = n) (args : Array Value) (e : Env) (he : envOf args = e) (hle : args.size ≤ n) :
    ∃ (b : Frame) (a : Act), Frame.enter P f args .normal = b.at a [.code c] ∧ b.kind = .normal ∧ b.fn = f ∧ AtE n [] e a := by
  refine ⟨_, _, enter_at hf hb, rfl, rfl, ?_⟩
  have := AtE.start args (fn.ntmps - args.size)
  rw [hn] at this ⊢
  rw [Nat.add_sub_cancel' hle] at this
  rw [← he]
  exact this
theorem not_early (h : b.kind = .normal) : b.kind ≠ .early := by rw [h]; simp
theorem ret_one {fn : Func} {t : Tmp} (h : fn.results = #[.tmp t]) (hat : AtE N D e a) {x : Value} (hx : look e t = some x) (w : World) : (results fn a.tmps).run P w = .ok x w := by
  have := results_tmp h a.tmps P w
  rw [this]
  have h2 := hat.val t x hx
  rw [Array.getD_eq_getD_getElem?, h2]; rfl
theorem ret_two {fn : Func} {t u : Tmp} (h : fn.results = #[.tmp t, .tmp u]) (hat : AtE N D e a) {x y : Value} (hx : look e t = some x) (hy : look e u = some y) (w : World) : (results fn a.tmps).run P w = .ok (.tuple #[x, y]) w := by
  have := results_tmp2 h a.tmps P w
  rw [this]
  have h2 := hat.val t x hx
  have h3 := hat.val u y hy
  rw [Array.getD_eq_getD_getElem?, h2, Array.getD_eq_getD_getElem?, h3]; rfl
/-- The function comes to its end, by whichever way. -/
theorem hold_done {c : Frame} {fn : Func} {f : FuncId} {x : Value} (hb : b.kind = .normal) (hbf : b.fn = f) (hf : P.funcs[f]? = some fn) (hd : a.defers = []) (hx : ∀ w, (results fn a.tmps).run P w = .ok x w) (H : Hold P main S Stop (G (c.finish x) cs) v) :
    Hold P main S Stop (G (b.at a []) (c :: cs)) v := hold_end (.inl hb) (hold_return hb (by rw [hbf]; exact hf) hd hx H)
theorem hold_retd {c : Frame} {fn : Func} {f : FuncId} {x : Value} (hb : b.kind = .normal) (hbf : b.fn = f) (hf : P.funcs[f]? = some fn) (hd : a.defers = []) (hx : ∀ w, (results fn a.tmps).run P w = .ok x w) (H : Hold P main S Stop (G (c.finish x) cs) v) :
    Hold P main S Stop (G (b.at a (.code .ret :: k)) (c :: cs)) v := hold_ret (.inl hb) (hold_return hb (by rw [hbf]; exact hf) hd hx H)
theorem opOk_atom {L : Allow} {f : FuncId} {args : Array Operand} {ats : Array TypeId} (hm : f ∈ L.A) : opOk P L (.call { callee := .value (.func f), args := args, argTypes := ats }) = true := by simp [opOk, hm]
theorem r_atom {f : FuncId} {q : Array Operand} {ats : Array TypeId} {vals : Array Value} {n : Next} {v' : World} (ha : q.toList.map (opv e) = vals.toList.map some) (h : ∀ t d, (callFunc f vals).run P (v.re t d) = .ok n (v'.re t d)) :
    RunsTo P e (.call { callee := .value (.func f), args := q, argTypes := ats }) v n v' := by
  intro ρ o hρ ho t d
  have hargs : q.map ρ = vals := by
    apply Array.ext'
    rw [Array.toList_map]
    have : ∀ (l : List Operand) (m : List Value), l.map (opv e) = m.map some → l.map ρ = m := by
      intro l
      induction l with
      | nil => intro m h; cases m with
        | nil => rfl
        | cons _ _ => cases h
      | cons x l ih => intro m h; cases m with
        | nil => cases h
        | cons y m =>
          simp only [List.map_cons, List.cons.injEq] at h ⊢
          exact ⟨hρ _ _ h.1, ih m h.2⟩
    exact this _ _ ha
  have hfun := hρ (.func f) _ rfl
  simp only [execOp, ho, resolve, hfun, hargs, Deferred.ofValue]
  simpa [invoke] using h t d
end
end Go.Proofs.Ytecdiejeofclaaa


/- Cells: atomic words, Load, Cas. -/
namespace Go.Proofs.Ytecdiejeofclaaa
open Go Go.Conc
abbrev Lt : Allow := ⟨[], [60, 58, 62]⟩
theorem lt_ok : ∀ f ∈ Lt.A, AtomOk Try.prog f := by
  intro f hf
  simp only [List.mem_cons, List.not_mem_nil, or_false] at hf
  rcases hf with rfl | rfl | rfl
  · exact ⟨_, _, Try.func60, by decide, rfl, rfl, rfl, .load⟩
  · exact ⟨_, _, Try.func58, by decide, rfl, rfl, rfl, .store⟩
  · exact ⟨_, _, Try.func62, by decide, rfl, rfl, rfl, .cas⟩
theorem fk_ai : FieldK Try.prog 98 2 0 := fun w b o => by simp [go_sem]
section
variable {S : Addr → Prop} {main : Bool} {Stop : Goroutine → World → Prop} {cs : List Frame} {c : Frame} {v : World}
theorem aload_hold {B O : Nat} {x : Int} (hc : v.cell? ⟨B, O, none⟩ = some (.int .i64 x)) (H : Hold Try.prog main S Stop (G (c.finish (.int .i64 x)) cs) v) :
    Hold Try.prog main S Stop (G (Frame.enter Try.prog 43 #[.pointer (some ⟨B, O, none⟩)] .normal) (c :: cs)) v := by
  obtain ⟨b, a, hE, hb, hbf, hat⟩ := enter_is ALoad_fn ALoad_body ALoad_tmps #[.pointer (some ⟨B, O, none⟩)] [(0, .pointer (some ⟨B, O, none⟩))] rfl (by simp)
  rw [hE]
  have hbk := not_early hb
  unfold ALoad_code
  refine hold_seq (hold_region (l := [0]) rfl (h_val lt_ok hbk ALoad_0 rfl rfl (by decide) hat (r_assign rfl) fun a hat => hold_region_end (hold_seq (hold_region (l := [0,1,2,3,4]) rfl ?_))))
  refine h_val lt_ok hbk ALoad_1 rfl rfl (by decide) hat (r_move rfl) fun a hat => h_val lt_ok hbk ALoad_1 rfl rfl (by decide) hat (r_nil rfl) fun a hat => h_val lt_ok hbk ALoad_1 rfl rfl (by decide) hat (r_field fk_ai rfl) fun a hat => h_val (L := Lt) lt_ok hbk ALoad_1 rfl (opOk_atom (by simp)) (by decide) hat (r_atom (vals := #[.pointer (some ⟨B, O, none⟩)]) rfl (fun t d => run_call_load Try.func60 (by decide) rfl rfl .i64 rfl (show (v.re t d).cell? _ = _ from hc))) fun a hat => h_val lt_ok hbk ALoad_1 rfl rfl (by decide) hat (r_assign rfl) fun a hat => hold_region_end ?_
  exact hold_retd hb hbf ALoad_fn hat.defers (ret_one ALoad_res hat rfl) H
end
def Prog.did (op : Int) (c : Nat) (x y : Int) (k : Prog) : Prog := .note op c x y (if x = y then k else .bump c k)
def Prog.load (c : Nat) (k : Int → Prog) : Prog := .wait 1 1 c (.rd c fun x => .did 1 c x x (k x))
def Prog.cas (c : Nat) (old new : Int) (k : Bool → Prog) : Prog := .wait 1 4 c (.rd c fun x => if x = old then .wr c new (.did 4 c old new (k true)) else .did 4 c x x (k false))
theorem did_hp {i : Nat} {Fin : List (Int × Int) → Gho → World → Prop} {k : Prog} {Γ0 Γ : Gho} {v0 v : World} {A : Sys} (hW : WI Γ A v) {tt : TSt} (ht : A.ths[i]? = some tt) {cc : Nat} (hcc : tt.cell = cc) (hc : cc < Γ.nc) (x y : Int) (c : Frame) (cs : List Frame)
    (K : ∀ v', WI (Γ.ext v .sys) (A.did i tt.op cc x y) v' → (∀ i n, Guar i n Γ v (Γ.ext v .sys) v') → (∀ i, Rely i Γ v (Γ.ext v .sys) v') → HP i Fin k Γ0 v0 (A.did i tt.op cc x y) (G (c.finish (.tuple #[])) cs) v') :
    HP i Fin (.did tt.op cc x y k) Γ0 v0 A (G (Frame.enter Try.prog 44 #[.pointer (some ⟨Γ.tb i, 0, none⟩), .int .i64 x, .int .i64 y] .normal) (c :: cs)) v := by
  intro hlen
  obtain ⟨z, hz⟩ : ∃ z, A.cnt[cc]? = some z := ⟨A.cnt[cc]'(by have := hW.nc.2; omega), by simp⟩
  have hch : (A.note i tt.op cc x y).changed cc = z := by
    have h0 : ¬ (cc : Int) < 0 := by omega
    simp [Sys.changed, Sys.note, hz, h0]
  by_cases hxy : x = y
  · rw [if_pos hxy]
    have e : A.did i tt.op cc x y = A.note i tt.op cc x y := by simp [Sys.did, hxy]
    rw [e] at K
    refine HP.walk ?_
    exact did_hold hW ht hlen hcc hz x y (fun h => absurd hxy h) c cs fun v' h1 h2 h3 => HP.stop (K v' (by rw [e] at h1; exact h1) h2 h3)
  · rw [if_neg hxy]
    have e : A.did i tt.op cc x y = (A.note i tt.op cc x y).bump cc := by simp [Sys.did, hxy]
    rw [e] at K
    intro hb
    rw [hch] at hb
    refine HP.walk ?_
    exact did_hold hW ht hlen hcc hz x y (fun _ => hb) c cs fun v' h1 h2 h3 => HP.stop (K v' (by rw [e] at h1; exact h1) h2 h3)
/-- A thread's record of a cell it may use. -/
theorem cell_at {Γ : Gho} {A : Sys} {v : World} (hW : WI Γ A v) {cc : Nat} (hc : cc < Γ.nc) : ∃ x, A.vals[cc]? = some x ∧ A.get cc = x ∧ v.heap[Γ.cb cc]? = some (.cells #[.int .i64 cc, .int .i64 x] 100 (0, 0)) ∧ Γ.own (Γ.cb cc) = .sys ∧ -9223372036854775808 ≤ x ∧ x ≤ 9223372036854775807 := by
  have hl := hW.nc.1
  have hx : A.vals[cc]? = some (A.vals[cc]'(by omega)) := by simp
  obtain ⟨h1, h2⟩ := hW.cells cc _ hx
  obtain ⟨h3, h4⟩ := hW.vals64 _ (List.mem_of_getElem? hx)
  exact ⟨_, hx, by simp [Sys.get, hx], h1, h2, h3, h4⟩
theorem rely_cell {i : Nat} {Γ Γ' : Gho} {A : Sys} {v v' : World} (hW : WI Γ A v) (hR : Rely i Γ v Γ' v') {cc : Nat} (hc : cc < Γ.nc) : Γ'.cb cc = Γ.cb cc ∧ cc < Γ'.nc := by
  obtain ⟨x, _, _, h, _⟩ := cell_at hW hc
  exact ⟨hR.cb cc (lt_of_heap h), Nat.lt_of_lt_of_le hc hR.nc⟩
/-- What a thread goes on with. -/
def Go1 (i : Nat) (Fin : List (Int × Int) → Gho → World → Prop) (Γ : Gho) (v : World) (k : Prog) (g : Goroutine) : Prop :=
  ∀ Γ0' v0' Γ' v' A', Rely i Γ v Γ' v' → WI Γ' A' v' → i < A'.ths.length → Guar i A'.ths.length Γ0' v0' Γ' v' → HP i Fin k Γ0' v0' A' g v'
theorem did_len {A : Sys} {i : Nat} {op : Int} {c : Nat} {x y : Int} : (A.did i op c x y).ths = A.ths := by unfold Sys.did; split <;> rfl
theorem load_hp {i : Nat} {Fin : List (Int × Int) → Gho → World → Prop} {k : Int → Prog} {Γ0 Γ : Gho} {v0 v : World} {A : Sys} (hW : WI Γ A v) (hG : Guar i A.ths.length Γ0 v0 Γ v) (hi : i < A.ths.length) {cc : Nat} (hc : cc < Γ.nc) (c : Frame) (cs : List Frame)
    (K : ∀ x : Int, -9223372036854775808 ≤ x → x ≤ 9223372036854775807 → Go1 i Fin Γ v (k x) (G (c.finish (.int .i64 x)) cs)) :
    HP i Fin (.load cc k) Γ0 v0 A (G (Frame.enter Try.prog 30 #[.pointer (some ⟨Γ.cb cc, 0, none⟩), .pointer (some ⟨Γ.tb i, 0, none⟩)] .normal) (c :: cs)) v := by
  obtain ⟨x0, _, _, hcell, hown, _, _⟩ := cell_at hW hc
  obtain ⟨b, a, hE, hb, hbf, hat⟩ := enter_is Load_fn Load_body Load_tmps #[.pointer (some ⟨Γ.cb cc, 0, none⟩), .pointer (some ⟨Γ.tb i, 0, none⟩)] [(0, .pointer (some ⟨Γ.cb cc, 0, none⟩)), (1, .pointer (some ⟨Γ.tb i, 0, none⟩))] rfl (by simp)
  rw [hE]
  have hbk := not_early hb
  refine HP.walk ?_
  unfold Load_code
  refine hold_seq (hold_region (l := [0]) rfl (h_val noA hbk Load_0 rfl rfl (by decide) hat (r_assign rfl) fun a hat => hold_region_end (hold_seq (hold_region (l := [0,1,2,3,4,5]) rfl ?_))))
  iterate 2 (refine h_val noA hbk Load_1 rfl rfl (by decide) hat (r_move rfl) fun a hat => ?_)
  refine h_val noA hbk Load_1 rfl rfl (by decide) hat (r_nil rfl) fun a hat => h_val noA hbk Load_1 rfl rfl (by decide) hat (r_field fk_cell_0 rfl) fun a hat => h_val noA hbk Load_1 rfl rfl (by decide) hat (r_load ld_int rfl (cell_of hcell)) fun a hat => h_enter (L := ⟨[42], []⟩) (fun f hf => by cases hf) hbk Load_1 rfl (Turn_call (by simp)) hat (args := #[.pointer (some ⟨Γ.tb i, 0, none⟩), .int .i64 cc, .int .i64 1]) (Turn_run rfl) ?_
  refine HP.stop (turn_hp hW hG hi cc 1 _ _ fun Γ1 v1 A1 s hR hW1 ht1 => ?_)
  obtain ⟨a1, hat1, hfin⟩ := back_val (b := b) (a := a) (i := 5) (d := 11) (k := [.code (.seq (.region 2 (Rg Try.f30.body 2) false) (.seq (.region 3 (Rg Try.f30.body 3) false) (.seq (.region 4 (Rg Try.f30.body 4) false) .ret)))]) (rest := []) Load_1 rfl (by decide) hat (.tuple #[])
  rw [hfin]
  obtain ⟨hcb, hc1⟩ := rely_cell hW hR hc
  obtain ⟨x, hx, hget, hcell1, hown1, hx1, hx2⟩ := cell_at hW1 hc1
  rw [hcb] at hcell1
  have htb : Γ1.tb i = Γ.tb i := hR.same.2.2.2.1
  have hat2 : AtE _ [] [(0, .pointer (some ⟨Γ.cb cc, 0, none⟩)), (1, .pointer (some ⟨Γ.tb i, 0, none⟩))] a1 := hat1.sub (AtE.cons rfl (AtE.cons rfl AtE.nil))
  clear hat hat1
  show HP i Fin (.did 1 cc (A1.get cc) (A1.get cc) (k (A1.get cc))) Γ1 v1 A1 _ v1
  rw [hget]
  refine HP.walk (hold_region_end (hold_seq (hold_region (l := [0,1,2,3,4]) rfl ?_)))
  refine h_val noA hbk Load_2 rfl rfl (by decide) hat2 (r_move rfl) fun a hat => h_val noA hbk Load_2 rfl rfl (by decide) hat (r_nil rfl) fun a hat => h_val noA hbk Load_2 rfl rfl (by decide) hat (r_field fk_cell_1 rfl) fun a hat => h_enter (L := ⟨[43], []⟩) (fun f hf => by cases hf) hbk Load_2 rfl (ALoad_call (by simp)) hat (args := #[.pointer (some ⟨Γ.cb cc, 0 + 1, none⟩)]) (ALoad_run rfl) <| aload_hold (x := x) (cell_of hcell1) ?_
  obtain ⟨a3, hat3, hfin3⟩ := back_val (b := b) (a := a) (i := 3) (d := 15) (k := [.code (.seq (.region 3 (Rg Try.f30.body 3) false) (.seq (.region 4 (Rg Try.f30.body 4) false) .ret))]) (rest := [4]) Load_2 rfl (by decide) hat (.int .i64 x)
  rw [hfin3]
  refine h_val noA hbk Load_2 rfl rfl (by decide) hat3 (r_assign rfl) fun a hat => hold_region_end (hold_seq (hold_region (l := [0,1,2,3]) rfl ?_))
  iterate 3 (refine h_val noA hbk Load_3 rfl rfl (by decide) hat (r_move rfl) fun a hat => ?_)
  refine h_enter (L := ⟨[44], []⟩) (fun f hf => by cases hf) hbk Load_3 rfl (Did_call (by simp)) hat (args := #[.pointer (some ⟨Γ1.tb i, 0, none⟩), .int .i64 x, .int .i64 x]) (Did_run (by rw [htb]; rfl)) ?_
  refine HP.stop (did_hp (tt := ⟨0, cc, 1, s⟩) hW1 ht1 rfl hc1 x x _ _ fun v2 hW2 hG2 hR2 => ?_)
  obtain ⟨a4, hat4, hfin4⟩ := back_val (b := b) (a := a) (i := 3) (d := 19) (k := [.code (.seq (.region 4 (Rg Try.f30.body 4) false) .ret)]) (rest := []) Load_3 rfl (by decide) hat (.tuple #[])
  rw [hfin4]
  refine HP.walk (hold_region_end (hold_seq (hold_region (l := [0,1]) rfl ?_)))
  refine h_val noA hbk Load_4 rfl rfl (by decide) hat4 (r_move rfl) fun a hat => h_val noA hbk Load_4 rfl rfl (by decide) hat (r_assign rfl) fun a hat => hold_region_end <| hold_retd hb hbf Load_fn hat.defers (ret_one Load_res hat rfl) ?_
  have hlt : i < A1.ths.length := (List.getElem?_eq_some_iff.1 ht1).1
  exact HP.stop (K x hx1 hx2 Γ1 v1 _ v2 _ (hR.trans (hR2 i)) hW2 (by rw [did_len]; exact hlt) (hG2 i _))
end Go.Proofs.Ytecdiejeofclaaa


/- Cas. -/
namespace Go.Proofs.Ytecdiejeofclaaa
open Go Go.Conc
theorem WI.putc {Γ : Gho} {A : Sys} {v : World} (hW : WI Γ A v) {cc : Nat} (hc : cc < Γ.nc) {y : Int} (hy1 : -9223372036854775808 ≤ y) (hy2 : y ≤ 9223372036854775807) : WI Γ (A.put cc y) (v.setCell ⟨Γ.cb cc, 1, none⟩ (.int .i64 y)) := by
  obtain ⟨y1, y2, y3, y4, y5, y6, y7, y8, y9, y10, y11, y12, y13, y14, y15⟩ := tys
  obtain ⟨x, hx, hget, hcell, hown, hx1, hx2⟩ := cell_at hW hc
  obtain ⟨sv, cv, tv, rv, hw, r1, r2, r3, r4, o1, o2, o3, o4, o5⟩ := hW.world
  have keep : ∀ {b : Nat} {c' : Array Value} {e : TypeId} {f : Nat × Nat}, v.heap[b]? = some (.cells c' e f) → e ≠ 100 → (v.setCell ⟨Γ.cb cc, 1, none⟩ (.int .i64 y)).heap[b]? = v.heap[b]? := fun hb hne => set_other (ne_of_types hb hcell hne)
  have hch : ∀ c', fresh v c' → fresh (v.setCell ⟨Γ.cb cc, 1, none⟩ (.int .i64 y)) c' := fun c' h => fresh_keep h (set_other (ne_of_chan hcell h))
  have hlt : cc < A.vals.length := (List.getElem?_eq_some_iff.1 hx).1
  refine ⟨ready_set hW.ready, ⟨sv, cv, tv, rv, (keep hw y5).trans hw, ownsRow_keep r1 fun b c' _ hb => keep hb y12, ownsRow_keep r2 fun b c' _ hb => keep hb y12, ownsRow_keep r3 fun b c' _ hb => keep hb y14, ownsRow_keep r4 fun b c' _ hb => keep hb y15, o1, o2, o3, o4, o5⟩,
    fun j tj hj => ?_, ⟨hch _ hW.back.1, hW.back.2⟩, fun c' x' hc' => ?_, hW.used, hW.ints64, hW.chansApart, hW.backApart, by simpa [Sys.put] using hW.nc, fun z hz => ?_⟩
  · obtain ⟨h1, h2, h3, h4⟩ := hW.th j tj hj
    exact ⟨(keep h1 y9).trans h1, hch _ h2, h3, h4⟩
  · simp only [Sys.put] at hc'
    by_cases e : cc = c'
    · subst e
      rw [List.getElem?_set_self hlt] at hc'
      cases hc'
      exact ⟨set_self hcell, hown⟩
    · rw [List.getElem?_set_ne e] at hc'
      obtain ⟨h1, h2⟩ := hW.cells c' x' hc'
      refine ⟨(set_other fun e' => ?_).trans h1, h2⟩
      rw [e', hcell] at h1
      simp at h1
      omega
  · obtain ⟨j, hj⟩ := List.mem_iff_getElem?.1 (show z ∈ A.vals.set cc y from hz)
    by_cases e : cc = j
    · subst e
      rw [List.getElem?_set_self hlt] at hj; cases hj; exact ⟨hy1, hy2⟩
    · rw [List.getElem?_set_ne e] at hj
      exact hW.vals64 z (List.mem_of_getElem? hj)
section
variable {S : Addr → Prop} {main : Bool} {Stop : Goroutine → World → Prop} {cs : List Frame} {c : Frame} {v : World}
theorem acas_hold {B O : Nat} {x old y : Int} (hc : v.cell? ⟨B, O, none⟩ = some (.int .i64 x)) (hf : v.frozen? ⟨B, O, none⟩ = false)
    (H : if x = old then Hold Try.prog main S Stop (G (c.finish (.bool true)) cs) (v.setCell ⟨B, O, none⟩ (.int .i64 y)) else Hold Try.prog main S Stop (G (c.finish (.bool false)) cs) v) :
    Hold Try.prog main S Stop (G (Frame.enter Try.prog 46 #[.pointer (some ⟨B, O, none⟩), .int .i64 old, .int .i64 y] .normal) (c :: cs)) v := by
  obtain ⟨b, a, hE, hb, hbf, hat⟩ := enter_is ACas_fn ACas_body ACas_tmps #[.pointer (some ⟨B, O, none⟩), .int .i64 old, .int .i64 y] [(0, .pointer (some ⟨B, O, none⟩)), (1, .int .i64 old), (2, .int .i64 y)] rfl (by simp)
  rw [hE]
  have hbk := not_early hb
  unfold ACas_code
  refine hold_seq (hold_region (l := [0]) rfl (h_val lt_ok hbk ACas_0 rfl rfl (by decide) hat (r_assign rfl) fun a hat => hold_region_end (hold_seq (hold_region (l := [0,1,2,3,4,5,6]) rfl ?_))))
  refine h_val lt_ok hbk ACas_1 rfl rfl (by decide) hat (r_move rfl) fun a hat => h_val lt_ok hbk ACas_1 rfl rfl (by decide) hat (r_nil rfl) fun a hat => h_val lt_ok hbk ACas_1 rfl rfl (by decide) hat (r_field fk_ai rfl) fun a hat => ?_
  iterate 2 (refine h_val lt_ok hbk ACas_1 rfl rfl (by decide) hat (r_move rfl) fun a hat => ?_)
  by_cases hx : x = old
  · subst hx
    rw [if_pos rfl] at H
    refine h_val (L := Lt) (v' := v.setCell ⟨B, O, none⟩ (.int .i64 y)) lt_ok hbk ACas_1 rfl (opOk_atom (by simp)) (by decide) hat (r_atom (vals := #[.pointer (some ⟨B, O, none⟩), .int .i64 x, .int .i64 y]) rfl (fun t d => run_call_cas_hit Try.func62 (by decide) rfl rfl .i64 rfl (show (v.re t d).cell? _ = _ from hc) (show (v.re t d).frozen? _ = _ from hf))) fun a hat => h_val lt_ok hbk ACas_1 rfl rfl (by decide) hat (r_assign rfl) fun a hat => hold_region_end ?_
    exact hold_retd hb hbf ACas_fn hat.defers (ret_one ACas_res hat rfl) H
  · rw [if_neg hx] at H
    refine h_val (L := Lt) lt_ok hbk ACas_1 rfl (opOk_atom (by simp)) (by decide) hat (r_atom (vals := #[.pointer (some ⟨B, O, none⟩), .int .i64 old, .int .i64 y]) rfl (fun t d => run_call_cas_miss Try.func62 (by decide) rfl rfl .i64 rfl (show (v.re t d).cell? _ = _ from hc) (show (v.re t d).frozen? _ = _ from hf) hx)) fun a hat => h_val lt_ok hbk ACas_1 rfl rfl (by decide) hat (r_assign rfl) fun a hat => hold_region_end ?_
    exact hold_retd hb hbf ACas_fn hat.defers (ret_one ACas_res hat rfl) H
end
theorem cas_hp {i : Nat} {Fin : List (Int × Int) → Gho → World → Prop} {k : Bool → Prog} {Γ0 Γ : Gho} {v0 v : World} {A : Sys} (hW : WI Γ A v) (hG : Guar i A.ths.length Γ0 v0 Γ v) (hi : i < A.ths.length) {cc : Nat} (hc : cc < Γ.nc) (old y : Int) (hy1 : -9223372036854775808 ≤ y) (hy2 : y ≤ 9223372036854775807) (c : Frame) (cs : List Frame)
    (K : ∀ r : Bool, Go1 i Fin Γ v (k r) (G (c.finish (.bool r)) cs)) :
    HP i Fin (.cas cc old y k) Γ0 v0 A (G (Frame.enter Try.prog 33 #[.pointer (some ⟨Γ.cb cc, 0, none⟩), .pointer (some ⟨Γ.tb i, 0, none⟩), .int .i64 old, .int .i64 y] .normal) (c :: cs)) v := by
  obtain ⟨x0, _, _, hcell, hown, _, _⟩ := cell_at hW hc
  obtain ⟨b, a, hE, hb, hbf, hat⟩ := enter_is Cas_fn Cas_body Cas_tmps #[.pointer (some ⟨Γ.cb cc, 0, none⟩), .pointer (some ⟨Γ.tb i, 0, none⟩), .int .i64 old, .int .i64 y] [(0, .pointer (some ⟨Γ.cb cc, 0, none⟩)), (1, .pointer (some ⟨Γ.tb i, 0, none⟩)), (2, .int .i64 old), (3, .int .i64 y)] rfl (by simp)
  rw [hE]
  have hbk := not_early hb
  refine HP.walk ?_
  unfold Cas_code
  refine hold_seq (hold_region (l := [0]) rfl (h_val noA hbk Cas_0 rfl rfl (by decide) hat (r_assign rfl) fun a hat => hold_region_end (hold_seq (hold_region (l := [0,1,2,3,4,5]) rfl ?_))))
  iterate 2 (refine h_val noA hbk Cas_1 rfl rfl (by decide) hat (r_move rfl) fun a hat => ?_)
  refine h_val noA hbk Cas_1 rfl rfl (by decide) hat (r_nil rfl) fun a hat => h_val noA hbk Cas_1 rfl rfl (by decide) hat (r_field fk_cell_0 rfl) fun a hat => h_val noA hbk Cas_1 rfl rfl (by decide) hat (r_load ld_int rfl (cell_of hcell)) fun a hat => h_enter (L := ⟨[42], []⟩) (fun f hf => by cases hf) hbk Cas_1 rfl (Turn_call (by simp)) hat (args := #[.pointer (some ⟨Γ.tb i, 0, none⟩), .int .i64 cc, .int .i64 4]) (Turn_run rfl) ?_
  refine HP.stop (turn_hp hW hG hi cc 4 _ _ fun Γ1 v1 A1 s hR hW1 ht1 => ?_)
  obtain ⟨a1, hat1, hfin⟩ := back_val (b := b) (a := a) (i := 5) (d := 15) (k := [.code (.seq (.seq (.region 2 (Rg Try.f33.body 2) false) (.cond (.tmp 21) (.seq (.region 3 (Rg Try.f33.body 3) false) (.seq (.region 4 (Rg Try.f33.body 4) false) .ret)) .skip)) (.seq (.region 5 (Rg Try.f33.body 5) false) (.seq (.region 6 (Rg Try.f33.body 6) false) (.seq (.region 7 (Rg Try.f33.body 7) false) .ret))))]) (rest := []) Cas_1 rfl (by decide) hat (.tuple #[])
  rw [hfin]
  obtain ⟨hcb, hc1⟩ := rely_cell hW hR hc
  obtain ⟨x, hx, hget, hcell1, hown1, hx1, hx2⟩ := cell_at hW1 hc1
  rw [hcb] at hcell1
  have htb : Γ1.tb i = Γ.tb i := hR.same.2.2.2.1
  have hlt : i < A1.ths.length := (List.getElem?_eq_some_iff.1 ht1).1
  have hat2 : AtE _ [] [(0, .pointer (some ⟨Γ.cb cc, 0, none⟩)), (1, .pointer (some ⟨Γ.tb i, 0, none⟩)), (2, .int .i64 old), (3, .int .i64 y)] a1 := hat1.sub (AtE.cons rfl (AtE.cons rfl (AtE.cons rfl (AtE.cons rfl AtE.nil))))
  clear hat hat1
  show HP i Fin (if A1.get cc = old then .wr cc y (.did 4 cc old y (k true)) else .did 4 cc (A1.get cc) (A1.get cc) (k false)) Γ1 v1 A1 _ v1
  rw [hget]
  refine HP.walk (hold_region_end (hold_seq (hold_seq (hold_region (l := [0,1,2,3,4,5]) rfl ?_))))
  refine h_val noA hbk Cas_2 rfl rfl (by decide) hat2 (r_move rfl) fun a hat => h_val noA hbk Cas_2 rfl rfl (by decide) hat (r_nil rfl) fun a hat => h_val noA hbk Cas_2 rfl rfl (by decide) hat (r_field fk_cell_1 rfl) fun a hat => ?_
  iterate 2 (refine h_val noA hbk Cas_2 rfl rfl (by decide) hat (r_move rfl) fun a hat => ?_)
  refine h_enter (L := ⟨[46], []⟩) (fun f hf => by cases hf) hbk Cas_2 rfl (ACas_call (by simp)) hat (args := #[.pointer (some ⟨Γ.cb cc, 0 + 1, none⟩), .int .i64 old, .int .i64 y]) (ACas_run rfl) <| acas_hold (x := x) (cell_of hcell1) (frozen_of hcell1) ?_
  by_cases hxo : x = old
  · rw [if_pos hxo, if_pos hxo]
    have hW1' := hW1.putc hc1 hy1 hy2
    rw [hcb] at hW1'
    have hs : ∀ bb, Γ1.own bb ≠ .sys → (v1.setCell ⟨Γ.cb cc, 1, none⟩ (.int .i64 y)).heap[bb]? = v1.heap[bb]? := fun bb hbb => set_other fun e => hbb (by rw [e, ← hcb]; exact hown1)
    obtain ⟨a3, hat3, hfin3⟩ := back_val (b := b) (a := a) (i := 5) (d := 21) (k := [.code (.cond (.tmp 21) (.seq (.region 3 (Rg Try.f33.body 3) false) (.seq (.region 4 (Rg Try.f33.body 4) false) .ret)) .skip), .code (.seq (.region 5 (Rg Try.f33.body 5) false) (.seq (.region 6 (Rg Try.f33.body 6) false) (.seq (.region 7 (Rg Try.f33.body 7) false) .ret)))]) (rest := []) Cas_2 rfl (by decide) hat (.bool true)
    rw [hfin3]
    refine hold_region_end (hold_cond (hat3.eval (q := .tmp 21) rfl) (hold_seq (hold_region (l := [0,1,2,3]) rfl ?_)))
    refine h_val noA hbk Cas_3 rfl rfl (by decide) hat3 (r_move rfl) fun a hat => ?_
    iterate 2 (refine h_val noA hbk Cas_3 rfl rfl (by decide) hat (r_move rfl) fun a hat => ?_)
    refine h_enter (L := ⟨[44], []⟩) (fun f hf => by cases hf) hbk Cas_3 rfl (Did_call (by simp)) hat (args := #[.pointer (some ⟨Γ1.tb i, 0, none⟩), .int .i64 old, .int .i64 y]) (Did_run (by rw [htb]; rfl)) ?_
    refine HP.stop (did_hp (A := A1.put cc y) (tt := ⟨0, cc, 4, s⟩) hW1' ht1 rfl hc1 old y _ _ fun v2 hW2 hG2 hR2 => ?_)
    obtain ⟨a4, hat4, hfin4⟩ := back_val (b := b) (a := a) (i := 3) (d := 25) (k := [.code (.seq (.region 4 (Rg Try.f33.body 4) false) .ret), .code (.seq (.region 5 (Rg Try.f33.body 5) false) (.seq (.region 6 (Rg Try.f33.body 6) false) (.seq (.region 7 (Rg Try.f33.body 7) false) .ret)))]) (rest := []) Cas_3 rfl (by decide) hat (.tuple #[])
    rw [hfin4]
    refine HP.walk (hold_region_end (hold_seq (hold_region (l := [0]) rfl ?_)))
    refine h_val noA hbk Cas_4 rfl rfl (by decide) hat4 (r_assign rfl) fun a hat => hold_region_end <| hold_retd hb hbf Cas_fn hat.defers (ret_one Cas_res hat rfl) ?_
    exact HP.stop (K true Γ1 v1 _ v2 _ ((hR.trans (rely_sys size_set hs)).trans (hR2 i)) hW2 (by rw [did_len]; exact hlt) ((guar_sys size_set hs).trans (hG2 i _)))
  · rw [if_neg hxo, if_neg hxo]
    obtain ⟨a3, hat3, hfin3⟩ := back_val (b := b) (a := a) (i := 5) (d := 21) (k := [.code (.cond (.tmp 21) (.seq (.region 3 (Rg Try.f33.body 3) false) (.seq (.region 4 (Rg Try.f33.body 4) false) .ret)) .skip), .code (.seq (.region 5 (Rg Try.f33.body 5) false) (.seq (.region 6 (Rg Try.f33.body 6) false) (.seq (.region 7 (Rg Try.f33.body 7) false) .ret)))]) (rest := []) Cas_2 rfl (by decide) hat (.bool false)
    rw [hfin3]
    refine hold_region_end (hold_cond (hat3.eval (q := .tmp 21) rfl) (hold_skip (hold_seq (hold_region (l := [0,1,2,3,4]) rfl ?_))))
    refine h_val noA hbk Cas_5 rfl rfl (by decide) hat3 (r_move rfl) fun a hat => h_val noA hbk Cas_5 rfl rfl (by decide) hat (r_nil rfl) fun a hat => h_val noA hbk Cas_5 rfl rfl (by decide) hat (r_field fk_cell_1 rfl) fun a hat => h_enter (L := ⟨[43], []⟩) (fun f hf => by cases hf) hbk Cas_5 rfl (ALoad_call (by simp)) hat (args := #[.pointer (some ⟨Γ.cb cc, 0 + 1, none⟩)]) (ALoad_run rfl) <| aload_hold (x := x) (cell_of hcell1) ?_
    obtain ⟨a5, hat5, hfin5⟩ := back_val (b := b) (a := a) (i := 3) (d := 29) (k := [.code (.seq (.region 6 (Rg Try.f33.body 6) false) (.seq (.region 7 (Rg Try.f33.body 7) false) .ret))]) (rest := [4]) Cas_5 rfl (by decide) hat (.int .i64 x)
    rw [hfin5]
    refine h_val noA hbk Cas_5 rfl rfl (by decide) hat5 (r_assign rfl) fun a hat => hold_region_end (hold_seq (hold_region (l := [0,1,2,3]) rfl ?_))
    iterate 3 (refine h_val noA hbk Cas_6 rfl rfl (by decide) hat (r_move rfl) fun a hat => ?_)
    refine h_enter (L := ⟨[44], []⟩) (fun f hf => by cases hf) hbk Cas_6 rfl (Did_call (by simp)) hat (args := #[.pointer (some ⟨Γ1.tb i, 0, none⟩), .int .i64 x, .int .i64 x]) (Did_run (by rw [htb]; rfl)) ?_
    refine HP.stop (did_hp (tt := ⟨0, cc, 4, s⟩) hW1 ht1 rfl hc1 x x _ _ fun v2 hW2 hG2 hR2 => ?_)
    obtain ⟨a4, hat4, hfin4⟩ := back_val (b := b) (a := a) (i := 3) (d := 33) (k := [.code (.seq (.region 7 (Rg Try.f33.body 7) false) .ret)]) (rest := []) Cas_6 rfl (by decide) hat (.tuple #[])
    rw [hfin4]
    refine HP.walk (hold_region_end (hold_seq (hold_region (l := [0]) rfl ?_)))
    refine h_val noA hbk Cas_7 rfl rfl (by decide) hat4 (r_assign rfl) fun a hat => hold_region_end <| hold_retd hb hbf Cas_fn hat.defers (ret_one Cas_res hat rfl) ?_
    exact HP.stop (K false Γ1 v1 _ v2 _ (hR.trans (hR2 i)) hW2 (by rw [did_len]; exact hlt) (hG2 i _))
end Go.Proofs.Ytecdiejeofclaaa


/- Infrastructure T: closures, appends, whatever else an operation may make. -/
namespace Go.Proofs.Ytecdiejeofclaaa
open Go Go.Conc
section
variable {P : Program} {S : Addr → Prop} {main : Bool} {Stop : Goroutine → World → Prop} {N : Nat} {D : List Deferred} {e : Env}
variable {b : Frame} {a : Act} {k : List Item} {cs : List Frame} {v : World} {L : Allow} {ops : Array Oper} {Lv : List (Option Nat × Op × Option (Nat × Bool))} {i : Nat} {rest : List Nat}
/-- What a Tame run comes to is ready, too. -/
theorem tame_ready {α : Type} {ok : α → Prop} {s : Sem α} (hT : Tame P ok s) {w w' : World} {x : α} (hr : Ready0 w) (h : s.run P w = .ok x w') : Ready0 w' := by
  have hs : Sim true (fun _ => False) w w := ⟨rfl, rfl, rfl, fun _ => BSim.refl _ _, fun _ z => z.elim, hr⟩
  obtain ⟨w1, new, A⟩ := tame_sim hT #[] hs h (fun c _ => rfl)
  exact A.sim.ready
/-- An operation that gives a value, with what is known of it. -/
theorem h_any (hA : ∀ f ∈ L.A, AtomOk P f) (hb : b.kind ≠ .early) (hl : ops.toList.map view = Lv) {d : Nat} {op : Op} (hi : Lv[i]? = some (some d, op, none)) (hok : opOk P L op = true) (hd : d < N) (hat : AtE N D e a) (hv : Ready0 v) {Q : Value → World → Prop}
    (hrun : ∀ (ρ : Operand → Value) (o : Oper), (∀ q z, opv e q = some z → ρ q = z) → o.op = op → ∀ t d, ∃ y v', (execOp ρ o).run P (v.re t d) = .ok (.value y) v' ∧ Q y v')
    (H : ∀ y v', Q y v' → Ready0 v' → ∀ a', AtE N D ((d, y) :: e) a' → Hold P main S Stop (G (b.at a' (.inRegion ops rest :: k)) cs) v') : Hold P main S Stop (G (b.at a (.inRegion ops (i :: rest) :: k)) cs) v := by
  obtain ⟨o, ho, hdst, hop, hg⟩ := at_view hl hi
  refine hold_value hA hb ho hg (by rw [hop]; exact hok) fun t dd => ?_
  obtain ⟨y, v', h1, h2⟩ := hrun _ o (fun q z hz => hat.eval hz) hop t dd
  refine ⟨y, v', h1, ?_⟩
  rw [hdst]
  exact H y v' h2 (tame_ready (execOp_tame hA a.eval (act_const a) (act_func a) o (by rw [hop]; exact hok)) (w := v.re t dd) hv h1) _ (hat.put hd y)
/-- A call of a function value: into the callee, behind the arguments what it has captured. -/
theorem h_callv (hb : b.kind ≠ .early) (hl : ops.toList.map view = Lv) {dd : Option Nat} {q : Operand} {qs : Array Operand} {ats : Array TypeId} (hi : Lv[i]? = some (dd, .call { callee := .value q, args := qs, argTypes := ats }, none)) (hat : AtE N D e a)
    {f : FuncId} {fn : Func} {cap vals : Array Value} (hq : opv e q = some (.func (.func f) #[] cap)) (ha : qs.toList.map (opv e) = vals.toList.map some) (hf : P.funcs[f]? = some fn) (hbd : fn.body.isSome = true) (hn : (fn.name == "runtime.NumGoroutine") = false)
    (H : Hold P main S Stop (G (Frame.enter P f (vals ++ cap) .normal) (b.at a (.inRegion ops (i :: rest) :: k) :: cs)) v) : Hold P main S Stop (G (b.at a (.inRegion ops (i :: rest) :: k)) cs) v := by
  obtain ⟨o, ho, hdst, hop, hg⟩ := at_view hl hi
  have hw : Region.wanted o (yielded ops a.tmps) = true := wanted_of hg _
  have hbk : ∀ td, ((b.at a td).kind == CallKind.early) = false := fun td => by simpa [Frame.at] using hb
  have hargs : qs.map a.eval = vals := by
    apply Array.ext'
    rw [Array.toList_map]
    have : ∀ (l : List Operand) (m : List Value), l.map (opv e) = m.map some → l.map a.eval = m := by
      intro l
      induction l with
      | nil => intro m h; cases m with
        | nil => rfl
        | cons _ _ => cases h
      | cons x l ih => intro m h; cases m with
        | nil => cases h
        | cons y m =>
          simp only [List.map_cons, List.cons.injEq] at h ⊢
          exact ⟨hat.eval h.1, ih m h.2⟩
    exact this _ _ ha
  refine hold_same rfl (fun w => ?_) H
  rw [stepG_oper ho hw]
  unfold stepG.apply
  have hr : (execOp a.eval o).runT P w #[] = (.ok (.enter f (vals ++ cap)) w, #[]) := by
    have hn' : ¬ fn.name = "runtime.NumGoroutine" := by simpa using hn
    have hb' : fn.body.isNone = false := by cases h : fn.body <;> simp_all
    have e0 : (#[] : Array Value) ++ vals = vals := by simp
    simp only [execOp, hop, resolve, hat.eval hq, hargs, Deferred.ofValue, e0]
    show (invoke (.fn (.func f) cap) vals).runT P w #[] = _
    simp only [invoke, callFunc]
    refine (Sem.runT_bind' P _ _ w #[]).trans ?_
    simp only [program, Sem.runT, hf, beq_iff_eq, hn', if_false, hb', Bool.false_eq_true]
    rfl
  simp only [if_true, hr, hbk, Bool.false_eq_true, if_false]
  have hs : seen P b.fn (#[] : Array Event) = #[] := by simp [seen]
  show GStep.after (seen P b.fn #[]) _ = _
  rw [hs]; rfl
end
end Go.Proofs.Ytecdiejeofclaaa


/- A thread's own memory; Note. -/
namespace Go.Proofs.Ytecdiejeofclaaa
open Go Go.Conc
/-- The system's blocks stand: whoever makes or changes others leaves the world as it is. -/
theorem WI.other {Γ : Gho} {A : Sys} {v v' : World} (hW : WI Γ A v) (hsys : ∀ b, b < v.heap.size → Γ.own b = .sys → v'.heap[b]? = v.heap[b]?) (hr : Ready0 v') (o : Own) : WI (Γ.ext v o) A v' := by
  obtain ⟨sv, cv, tv, rv, hw, r1, r2, r3, r4, o1, o2, o3, o4, o5⟩ := hW.world
  have hown : ∀ {b : Nat} {y : Obj}, v.heap[b]? = some y → Γ.own b = .sys → (Γ.ext v o).own b = .sys := fun h hs => by
    have := lt_of_heap h
    simp [Gho.ext, this, hs]
  have keep : ∀ {b : Nat} {y : Obj}, v.heap[b]? = some y → Γ.own b = .sys → v'.heap[b]? = some y := fun h hs => (hsys _ (lt_of_heap h) hs).trans h
  have hrow : ∀ {e : TypeId} {sz n : Nat} {x : Value} {xs : List Value}, v.ownsRow 0 e sz x n xs → isys Γ x → v'.ownsRow 0 e sz x n xs ∧ isys (Γ.ext v o) x := fun {e sz n x xs} h hi => by
    refine ⟨ownsRow_keep h fun b c hb hc => hsys b (lt_of_heap hc) (hi b hb), fun b hb => ?_⟩
    rcases h.2 with ⟨rfl, _⟩ | ⟨g, cap, cur, rfl, _, hg, _⟩
    · cases hb
    · cases hb; exact hown hg (hi g rfl)
  have hfr : ∀ c, fresh v c → Γ.own c = .sys → fresh v' c ∧ (Γ.ext v o).own c = .sys := fun c ⟨k, hk⟩ hs => ⟨⟨k, keep hk hs⟩, hown hk hs⟩
  refine ⟨hr, ⟨sv, cv, tv, rv, keep hw hW.back.2.2, (hrow r1 o1).1, (hrow r2 o2).1, (hrow r3 o3).1, (hrow r4 o4).1, (hrow r1 o1).2, (hrow r2 o2).2, (hrow r3 o3).2, (hrow r4 o4).2, o5⟩, fun j t hj => ?_, ⟨(hfr _ hW.back.1 hW.back.2.1).1, (hfr _ hW.back.1 hW.back.2.1).2, hown hw hW.back.2.2⟩, fun c x hc => ?_, hW.used, hW.ints64, hW.chansApart, hW.backApart, hW.nc, hW.vals64⟩
  · obtain ⟨h1, h2, h3, h4⟩ := hW.th j t hj
    exact ⟨keep h1 h3, (hfr _ h2 h4).1, hown h1 h3, (hfr _ h2 h4).2⟩
  · obtain ⟨h1, h2⟩ := hW.cells c x hc
    exact ⟨keep h1 h2, hown h1 h2⟩
/-- A thread under way: since (Γs, vs) its own older memory and what is nobody's stands; since (Γ0, v0) it has kept others' memory. -/
structure TS (i : Nat) (Γs : Gho) (vs : World) (Γ0 : Gho) (v0 : World) (Γ : Gho) (A : Sys) (v : World) : Prop where
  wi : WI Γ A v
  rely : Rely i Γs vs Γ v
  guar : Guar i A.ths.length Γ0 v0 Γ v
  lt : i < A.ths.length
theorem TS.start {i : Nat} {Γ Γ0 : Gho} {v v0 : World} {A : Sys} (hW : WI Γ A v) (hG : Guar i A.ths.length Γ0 v0 Γ v) (hi : i < A.ths.length) : TS i Γ v Γ0 v0 Γ A v := ⟨hW, Rely.refl _ _ _, hG, hi⟩
/-- It changes blocks of its own that are new since vs, and makes more. -/
theorem TS.priv {i : Nat} {Γs Γ0 Γ : Gho} {vs v0 v v' : World} {A : Sys} (h : TS i Γs vs Γ0 v0 Γ A v) (hsz : v.heap.size ≤ v'.heap.size) (hchg : ∀ b, b < v.heap.size → (b < vs.heap.size ∨ Γ.own b ≠ .thr i) → v'.heap[b]? = v.heap[b]?) (hr : Ready0 v') : TS i Γs vs Γ0 v0 (Γ.ext v (.thr i)) A v' := by
  have hold : ∀ b, b < v.heap.size → (Γ.ext v (.thr i)).own b = Γ.own b := fun b hb => by simp [Gho.ext, hb]
  refine ⟨h.wi.other (fun b hb hs => hchg b hb (.inr (by rw [hs]; simp))) hr _, ?_, h.guar.trans ?_, h.lt⟩
  · refine ⟨Nat.le_trans h.rely.size hsz, h.rely.same, h.rely.cb, fun b hb => (hold b (Nat.lt_of_lt_of_le hb h.rely.size)).trans (h.rely.own b hb), fun b hb ho => (hchg b (Nat.lt_of_lt_of_le hb h.rely.size) (.inl hb)).trans (h.rely.keep b hb ho), fun b hb ho => (cell_same (hchg b (Nat.lt_of_lt_of_le hb h.rely.size) (.inl hb))).trans (h.rely.mixed b hb ho), h.rely.nc, fun b j hb ho => (frozen_same (hchg b (Nat.lt_of_lt_of_le hb h.rely.size) (.inl hb))).trans (h.rely.mf b j hb ho)⟩
  · exact ⟨hsz, ⟨rfl, rfl, rfl, fun _ _ => ⟨rfl, rfl⟩⟩, fun _ _ => rfl, hold, fun b hb _ h2 _ => hchg b hb (.inr h2), fun b j hb ho _ => cell_same (hchg b hb (.inr (by rw [ho]; simp))), fun b h1 _ => .inr (.inl (by simp [Gho.ext, show ¬ b < v.heap.size from by omega])), Nat.le_refl _, fun b j hb ho => frozen_same (hchg b hb (.inr (by rw [ho]; simp)))⟩
/-- The system's step by the thread. -/
theorem TS.sys {i : Nat} {Γs Γ0 Γ Γ' : Gho} {vs v0 v v' : World} {A A' : Sys} (h : TS i Γs vs Γ0 v0 Γ A v) (hW : WI Γ' A' v') (hl : A'.ths.length = A.ths.length) (hG : ∀ i n, Guar i n Γ v Γ' v') (hR : ∀ i, Rely i Γ v Γ' v') : TS i Γs vs Γ0 v0 Γ' A' v' :=
  ⟨hW, h.rely.trans (hR i), by rw [hl]; exact h.guar.trans (hG i _), by rw [hl]; exact h.lt⟩
/-- Behind a wait. -/
theorem TS.later {i : Nat} {Γs Γ0 Γ Γ0' Γ' : Gho} {vs v0 v v0' v' : World} {A A' : Sys} (h : TS i Γs vs Γ0 v0 Γ A v) (hR : Rely i Γ v Γ' v') (hW : WI Γ' A' v') (hi : i < A'.ths.length) (hG : Guar i A'.ths.length Γ0' v0' Γ' v') : TS i Γs vs Γ0' v0' Γ' A' v' :=
  ⟨hW, h.rely.trans hR, hG, hi⟩
/-- A block of ints. -/
def IntB (v : World) (b : Nat) : Prop := ∃ c fr, v.heap[b]? = some (.cells c 3 fr)
/-- What stands behind a thread's own call: all but its own ints, and its cell of H. -/
structure RelyI (H i : Nat) (Γ : Gho) (v : World) (Γ' : Gho) (v' : World) : Prop where
  size : v.heap.size ≤ v'.heap.size
  same : Γ'.W = Γ.W ∧ Γ'.back = Γ.back ∧ Γ'.n0 = Γ.n0 ∧ Γ'.tb i = Γ.tb i ∧ Γ'.goes i = Γ.goes i
  cb : ∀ c : Nat, Γ.cb c < v.heap.size → Γ'.cb c = Γ.cb c
  own : ∀ b, b < v.heap.size → Γ'.own b = Γ.own b
  keep : ∀ b, b < v.heap.size → Γ.own b = .const ∨ (Γ.own b = .thr i ∧ ¬ IntB v b) → v'.heap[b]? = v.heap[b]?
  mixed : ∀ b, b < v.heap.size → Γ.own b = .mixed → b ≠ H → v'.cell? ⟨b, i, none⟩ = v.cell? ⟨b, i, none⟩
  nc : Γ.nc ≤ Γ'.nc
  mf : ∀ b j, b < v.heap.size → Γ.own b = .mixed → v'.frozen? ⟨b, j, none⟩ = v.frozen? ⟨b, j, none⟩
theorem Rely.toI {i : Nat} {Γ Γ' : Gho} {v v' : World} (h : Rely i Γ v Γ' v') (H : Nat) : RelyI H i Γ v Γ' v' := ⟨h.size, h.same, h.cb, h.own, fun b hb ho => h.keep b hb (ho.elim .inr fun x => .inl x.1), fun b hb ho _ => h.mixed b hb ho, h.nc, h.mf⟩
theorem RelyI.trans {H i : Nat} {Γ Γ' Γ'' : Gho} {v v' v'' : World} (h : RelyI H i Γ v Γ' v') (g : RelyI H i Γ' v' Γ'' v'') : RelyI H i Γ v Γ'' v'' := by
  obtain ⟨a1, a2, a3, a4, a5⟩ := h.same
  obtain ⟨b1, b2, b3, b4, b5⟩ := g.same
  refine ⟨Nat.le_trans h.size g.size, ⟨b1.trans a1, b2.trans a2, b3.trans a3, b4.trans a4, b5.trans a5⟩, fun c hc => ?_, fun b hb => (g.own b (Nat.lt_of_lt_of_le hb h.size)).trans (h.own b hb), fun b hb ho => ?_, fun b hb ho hH => ?_, Nat.le_trans h.nc g.nc, fun b j hb ho => (g.mf b j (Nat.lt_of_lt_of_le hb h.size) (by rw [h.own b hb]; exact ho)).trans (h.mf b j hb ho)⟩
  · have e := h.cb c hc
    exact (g.cb c (by rw [e]; exact Nat.lt_of_lt_of_le hc h.size)).trans e
  · have e := h.keep b hb ho
    refine (g.keep b (Nat.lt_of_lt_of_le hb h.size) ?_).trans e
    rw [h.own b hb]
    refine ho.imp id fun x => ⟨x.1, fun ⟨c, fr, hc⟩ => x.2 ⟨c, fr, e.symm.trans hc⟩⟩
  · exact (g.mixed b (Nat.lt_of_lt_of_le hb h.size) (by rw [h.own b hb]; exact ho) hH).trans (h.mixed b hb ho hH)
/-- As TS, of a thread that has made calls. -/
structure TSI (H i : Nat) (Γs : Gho) (vs : World) (Γ0 : Gho) (v0 : World) (Γ : Gho) (A : Sys) (v : World) : Prop where
  wi : WI Γ A v
  rely : RelyI H i Γs vs Γ v
  guar : Guar i A.ths.length Γ0 v0 Γ v
  lt : i < A.ths.length
theorem TS.toI {i : Nat} {Γs Γ0 Γ : Gho} {vs v0 v : World} {A : Sys} (h : TS i Γs vs Γ0 v0 Γ A v) (H : Nat) : TSI H i Γs vs Γ0 v0 Γ A v := ⟨h.wi, h.rely.toI H, h.guar, h.lt⟩
theorem TSI.priv {H i : Nat} {Γs Γ0 Γ : Gho} {vs v0 v v' : World} {A : Sys} (h : TSI H i Γs vs Γ0 v0 Γ A v) (hsz : v.heap.size ≤ v'.heap.size) (hchg : ∀ b, b < v.heap.size → (b < vs.heap.size ∨ Γ.own b ≠ .thr i) → v'.heap[b]? = v.heap[b]?) (hr : Ready0 v') : TSI H i Γs vs Γ0 v0 (Γ.ext v (.thr i)) A v' := by
  have hold : ∀ b, b < v.heap.size → (Γ.ext v (.thr i)).own b = Γ.own b := fun b hb => by simp [Gho.ext, hb]
  refine ⟨h.wi.other (fun b hb hs => hchg b hb (.inr (by rw [hs]; simp))) hr _, ?_, h.guar.trans ?_, h.lt⟩
  · exact ⟨Nat.le_trans h.rely.size hsz, h.rely.same, h.rely.cb, fun b hb => (hold b (Nat.lt_of_lt_of_le hb h.rely.size)).trans (h.rely.own b hb), fun b hb ho => (hchg b (Nat.lt_of_lt_of_le hb h.rely.size) (.inl hb)).trans (h.rely.keep b hb ho), fun b hb ho hH => (cell_same (hchg b (Nat.lt_of_lt_of_le hb h.rely.size) (.inl hb))).trans (h.rely.mixed b hb ho hH), h.rely.nc, fun b j hb ho => (frozen_same (hchg b (Nat.lt_of_lt_of_le hb h.rely.size) (.inl hb))).trans (h.rely.mf b j hb ho)⟩
  · exact ⟨hsz, ⟨rfl, rfl, rfl, fun _ _ => ⟨rfl, rfl⟩⟩, fun _ _ => rfl, hold, fun b hb _ h2 _ => hchg b hb (.inr h2), fun b j hb ho _ => cell_same (hchg b hb (.inr (by rw [ho]; simp))), fun b h1 _ => .inr (.inl (by simp [Gho.ext, show ¬ b < v.heap.size from by omega])), Nat.le_refl _, fun b j hb ho => frozen_same (hchg b hb (.inr (by rw [ho]; simp)))⟩
theorem TSI.sys {H i : Nat} {Γs Γ0 Γ Γ' : Gho} {vs v0 v v' : World} {A A' : Sys} (h : TSI H i Γs vs Γ0 v0 Γ A v) (hW : WI Γ' A' v') (hl : A'.ths.length = A.ths.length) (hG : ∀ i n, Guar i n Γ v Γ' v') (hR : ∀ i, Rely i Γ v Γ' v') : TSI H i Γs vs Γ0 v0 Γ' A' v' :=
  ⟨hW, h.rely.trans ((hR i).toI H), by rw [hl]; exact h.guar.trans (hG i _), by rw [hl]; exact h.lt⟩
theorem TSI.later {H i : Nat} {Γs Γ0 Γ Γ0' Γ' : Gho} {vs v0 v v0' v' : World} {A A' : Sys} (h : TSI H i Γs vs Γ0 v0 Γ A v) (hR : RelyI H i Γ v Γ' v') (hW : WI Γ' A' v') (hi : i < A'.ths.length) (hG : Guar i A'.ths.length Γ0' v0' Γ' v') : TSI H i Γs vs Γ0' v0' Γ' A' v' :=
  ⟨hW, h.rely.trans hR, hG, hi⟩
/-- What a call ends in. -/
def Go1E (H i : Nat) (Fin : List (Int × Int) → Gho → World → Prop) (Γ : Gho) (v : World) (E : Gho → World → Prop) (k : Prog) (g : Goroutine) : Prop :=
  ∀ Γ0' v0' Γ' v' A', RelyI H i Γ v Γ' v' → WI Γ' A' v' → i < A'.ths.length → Guar i A'.ths.length Γ0' v0' Γ' v' → E Γ' v' → HP i Fin k Γ0' v0' A' g v'
theorem note_hp {i : Nat} {Fin : List (Int × Int) → Gho → World → Prop} {k : Prog} {Γ0 Γ : Gho} {v0 v : World} {A : Sys} (hW : WI Γ A v) (hi : i < A.ths.length) (op x y : Int) (c : Frame) (cs : List Frame)
    (K : ∀ v', WI (Γ.ext v .sys) (A.note i op (-1) x y) v' → (∀ i n, Guar i n Γ v (Γ.ext v .sys) v') → (∀ i, Rely i Γ v (Γ.ext v .sys) v') → HP i Fin k Γ0 v0 (A.note i op (-1) x y) (G (c.finish (.tuple #[])) cs) v') :
    HP i Fin (.note op (-1) x y k) Γ0 v0 A (G (Frame.enter Try.prog 50 #[.pointer (some ⟨Γ.tb i, 0, none⟩), .int .i64 op, .int .i64 x, .int .i64 y] .normal) (c :: cs)) v := by
  intro hlen
  obtain ⟨t, ht⟩ : ∃ t, A.ths[i]? = some t := ⟨A.ths[i], by simp [hi]⟩
  obtain ⟨hti, hgi, hoi, hogi⟩ := hW.th i t ht
  obtain ⟨b, a, hE, hb, hbf, hat⟩ := enter_is Note_fn Note_body Note_tmps #[.pointer (some ⟨Γ.tb i, 0, none⟩), .int .i64 op, .int .i64 x, .int .i64 y] [(0, .pointer (some ⟨Γ.tb i, 0, none⟩)), (1, .int .i64 op), (2, .int .i64 x), (3, .int .i64 y)] rfl (by simp)
  rw [hE]
  have hbk := not_early hb
  refine HP.walk ?_
  unfold Note_code
  refine hold_seq (hold_region (l := [0,1,2,3,4]) rfl ?_)
  refine h_val noA hbk Note_0 rfl rfl (by decide) hat (r_move rfl) fun a hat => h_val noA hbk Note_0 rfl rfl (by decide) hat (r_nil rfl) fun a hat => h_val noA hbk Note_0 rfl rfl (by decide) hat (r_field fk_th_0 rfl) fun a hat => h_val noA hbk Note_0 rfl rfl (by decide) hat (r_load ld_pw rfl (cell_of hti)) fun a hat => ?_
  refine h_val noA hbk Note_0 rfl opOk_nil (by decide) hat (y := .bool true) (v' := v) (fun ρ o hρ ho t d => by
    have h1 := hρ (.tmp 11) _ rfl
    have h2 := hρ (.const (.pointer none)) _ rfl
    simp only [execOp, ho]
    simp [go_sem, h1, h2]) fun a hat => ?_
  refine hold_region_end (hold_cond (hat.eval (q := .tmp 12) rfl) (hold_region (l := [0,1,2,3,4]) rfl ?_))
  iterate 4 (refine h_val noA hbk Note_1 rfl rfl (by decide) hat (r_move rfl) fun a hat => ?_)
  refine h_enter (L := Ln) ln_ok.2 hbk Note_1 rfl (note_call (by simp)) hat (args := #[.pointer (some ⟨Γ.tb i, 0, none⟩), .int .i64 op, .int .i64 (-1), .int .i64 x, .int .i64 y]) (note_run rfl) <| note_hold rfl hW hi hlen _ _ _ _ _ _ fun v1 hW1 hG1 hR1 => ?_
  obtain ⟨a1, hat1, hfin⟩ := back_val (b := b) (a := a) (i := 4) (d := 17) (k := []) (rest := []) Note_1 rfl (by decide) hat (.tuple #[])
  refine Eq.subst (motive := fun X => Hold Try.prog false (SS Γ0 A.ths.length) _ (G X (c :: cs)) v1) hfin.symm ?_
  refine hold_region_end (hold_done hb hbf Note_fn hat1.defers (ret_none Note_res _) ?_)
  exact HP.stop (K v1 hW1 hG1 hR1)
end Go.Proofs.Ytecdiejeofclaaa


/- play.one. -/
namespace Go.Proofs.Ytecdiejeofclaaa
open Go Go.Conc
structure ACall where
  op : Int
  a : Int
  b : Int
  c : Int
/-- A script's calls: 'dop' is told the answers so far. -/
def Prog.callsA (dop : List (Int × Int) → ACall → (Int × Int → Prog) → Prog) : Bool → Nat → List ACall → List (Int × Int) → (List (Int × Int) → Prog) → Prog
  | _, _, [], acc, K => K acc
  | true, k, _ :: l, acc, K => Prog.callsA dop true (k + 1) l (acc ++ [(4, 0)]) K
  | false, k, x :: l, acc, K => .note 9 (-1) k 0 (dop acc x fun r => .note 10 (-1) k r.1 (Prog.callsA dop (r.1 == 4) (k + 1) l (acc ++ [r]) K))
def acallV (x : ACall) : Value := .agg #[.int .i64 x.op, .int .i64 x.a, .int .i64 x.b, .int .i64 x.c]
def ansV (r : Int × Int) : Value := .agg #[.int .i64 r.1, .int .i64 r.2]
def ansFlat (l : List (Int × Int)) : List Value := l.flatMap fun r => [.int .i64 r.1, .int .i64 r.2]
/-- The script lies there, and nobody writes it. -/
def ScriptAt (Γ : Gho) (v : World) (lv : Value) (l : List ACall) : Prop :=
  ∃ a cap, lv = .slice a l.length cap ∧ l.length ≤ 64 ∧ ∀ (j : Nat) (x : ACall), l[j]? = some x → ∃ B O, a = some ⟨B, O, none⟩ ∧ B < v.heap.size ∧ Γ.own B = .const ∧
    v.cell? ⟨B, O + j * 4, none⟩ = some (.int .i64 x.op) ∧ v.cell? ⟨B, O + j * 4 + 1, none⟩ = some (.int .i64 x.a) ∧ v.cell? ⟨B, O + j * 4 + 2, none⟩ = some (.int .i64 x.b) ∧ v.cell? ⟨B, O + j * 4 + 3, none⟩ = some (.int .i64 x.c)
theorem ScriptAt.keepI {H i : Nat} {Γ Γ' : Gho} {v v' : World} {lv : Value} {l : List ACall} (h : ScriptAt Γ v lv l) (hR : RelyI H i Γ v Γ' v') : ScriptAt Γ' v' lv l := by
  obtain ⟨a, cap, h1, h2, h3⟩ := h
  refine ⟨a, cap, h1, h2, fun j x hx => ?_⟩
  obtain ⟨B, O, g1, g2, g3, g4, g5, g6, g7⟩ := h3 j x hx
  have e := hR.keep B g2 (.inl g3)
  exact ⟨B, O, g1, Nat.lt_of_lt_of_le g2 hR.size, (hR.own B g2).trans g3, (cell_same e).trans g4, (cell_same e).trans g5, (cell_same e).trans g6, (cell_same e).trans g7⟩
theorem ScriptAt.keep {i : Nat} {Γ Γ' : Gho} {v v' : World} {lv : Value} {l : List ACall} (h : ScriptAt Γ v lv l) (hR : Rely i Γ v Γ' v') : ScriptAt Γ' v' lv l := h.keepI (hR.toI 0)
theorem infoAns : (Try.prog.info? 37).map (fun i => (i.zero, i.size, i.bytes)) = some (some (.agg #[.int .i64 0, .int .i64 0]), 2, 16) := by kernel_rfl
section
variable {v : World} {e : Env}
theorem x_load_call {q : Operand} {B O : Nat} {x : ACall} (h : opv e q = some (.pointer (some ⟨B, O, none⟩))) (h0 : v.cell? ⟨B, O, none⟩ = some (.int .i64 x.op)) (h1 : v.cell? ⟨B, O + 1, none⟩ = some (.int .i64 x.a)) (h2 : v.cell? ⟨B, O + 2, none⟩ = some (.int .i64 x.b)) (h3 : v.cell? ⟨B, O + 3, none⟩ = some (.int .i64 x.c)) :
    RunsTo Try.prog e (.load 39 q) v (.value (acallV x)) v := fun ρ o hρ ho t d => by
  have h4 := hρ q _ h
  simp only [execOp, ho, h4]; simp [go_sem, cell_re, h0, h1, h2, h3, acallV]
theorem x_load_ans {q : Operand} {B O : Nat} {x y : Value} (h : opv e q = some (.pointer (some ⟨B, O, none⟩))) (h0 : v.cell? ⟨B, O, none⟩ = some x) (h1 : v.cell? ⟨B, O + 1, none⟩ = some y) :
    RunsTo Try.prog e (.load 37 q) v (.value (.agg #[x, y])) v := fun ρ o hρ ho t d => by
  have h4 := hρ q _ h
  simp only [execOp, ho, h4]; simp [go_sem, cell_re, h0, h1]
theorem x_alloc_call : RunsTo Try.prog e (.alloc 39) v (.value (.pointer (some ⟨v.heap.size, 0, none⟩))) (v.alloc (.cells #[.int .i64 0, .int .i64 0, .int .i64 0, .int .i64 0] 39 (0, 0))) := fun ρ o hρ ho t d => by
  simp only [execOp, ho]; simp [go_sem]; exact ⟨rfl, rfl⟩
theorem x_alloc_ans : RunsTo Try.prog e (.alloc 37) v (.value (.pointer (some ⟨v.heap.size, 0, none⟩))) (v.alloc (.cells #[.int .i64 0, .int .i64 0] 37 (0, 0))) := fun ρ o hρ ho t d => by
  simp only [execOp, ho]; simp [go_sem]; exact ⟨rfl, rfl⟩
theorem x_store_call {q q' : Operand} {B : Nat} {x : ACall} {arr : Array Value} (h : opv e q = some (.pointer (some ⟨B, 0, none⟩))) (h' : opv e q' = some (acallV x)) (hb : v.heap[B]? = some (.cells arr 39 (0, 0))) (hs : arr.size = 4) :
    RunsTo Try.prog e (.store 39 q q') v .skip ((((v.setCell ⟨B, 0, none⟩ (.int .i64 x.op)).setCell ⟨B, 1, none⟩ (.int .i64 x.a)).setCell ⟨B, 2, none⟩ (.int .i64 x.b)).setCell ⟨B, 3, none⟩ (.int .i64 x.c)) := fun ρ o hρ ho t d => by
  have h4 := hρ q _ h
  have h5 := hρ q' _ h'
  have c : ∀ j, j < 4 → v.cell? ⟨B, j, none⟩ = some (arr.getD j undef) := fun j hj => by rw [cell_of hb]; simp [hs, hj]
  have f : ∀ j, v.frozen? ⟨B, j, none⟩ = false := fun j => by rw [frozen_of hb]; simp
  simp only [execOp, ho, h4, h5, acallV]
  simp [go_sem, cell_re, frozen_re, c, f]
  rfl
theorem x_store_ans {q q' : Operand} {B : Nat} {r : Int × Int} {arr : Array Value} (h : opv e q = some (.pointer (some ⟨B, 0, none⟩))) (h' : opv e q' = some (ansV r)) (hb : v.heap[B]? = some (.cells arr 37 (0, 0))) (hs : arr.size = 2) :
    RunsTo Try.prog e (.store 37 q q') v .skip ((v.setCell ⟨B, 0, none⟩ (.int .i64 r.1)).setCell ⟨B, 1, none⟩ (.int .i64 r.2)) := fun ρ o hρ ho t d => by
  have h4 := hρ q _ h
  have h5 := hρ q' _ h'
  have c : ∀ j, j < 2 → v.cell? ⟨B, j, none⟩ = some (arr.getD j undef) := fun j hj => by rw [cell_of hb]; simp [hs, hj]
  have f : ∀ j, v.frozen? ⟨B, j, none⟩ = false := fun j => by rw [frozen_of hb]; simp
  simp only [execOp, ho, h4, h5, ansV]
  simp [go_sem, cell_re, frozen_re, c, f]
  rfl
end
end Go.Proofs.Ytecdiejeofclaaa


/- play.one: the loop. -/
namespace Go.Proofs.Ytecdiejeofclaaa
open Go Go.Conc
/-- Nothing that is no answer has changed. -/
structure AnsOnly (i : Nat) (Γ : Gho) (v : World) (Γ' : Gho) (v' : World) : Prop where
  size : v.heap.size ≤ v'.heap.size
  same : Γ'.W = Γ.W ∧ Γ'.back = Γ.back ∧ Γ'.n0 = Γ.n0 ∧ Γ'.tb i = Γ.tb i ∧ Γ'.goes i = Γ.goes i
  cb : Γ'.cb = Γ.cb
  own : ∀ b, b < v.heap.size → Γ'.own b = Γ.own b
  nc : Γ'.nc = Γ.nc
  keep : ∀ (b : Nat) (c : Array Value) (t : TypeId) (fr : Nat × Nat), v.heap[b]? = some (.cells c t fr) → t ≠ 37 → v'.heap[b]? = v.heap[b]?
  mixed : ∀ b, b < v.heap.size → Γ.own b = .mixed → v'.heap[b]? = v.heap[b]?
/-- What a script's calls do. -/
def DoSpec (i : Nat) (Fin : List (Int × Int) → Gho → World → Prop) (dov : Value) (dop : List (Int × Int) → ACall → (Int × Int → Prog) → Prog) (E : List (Int × Int) → Gho → World → Prop) (l : List ACall) (H : Nat) : Prop :=
  ∃ f fn cap, dov = .func (.func f) #[] cap ∧ Try.prog.funcs[f]? = some fn ∧ fn.body.isSome = true ∧ (fn.name == "runtime.NumGoroutine") = false ∧ (∀ acc Γ v Γ' v', E acc Γ v → Rely i Γ v Γ' v' → E acc Γ' v') ∧ (∀ acc Γ v Γ' v', E acc Γ v → AnsOnly i Γ v Γ' v' → E acc Γ' v') ∧
    ∀ (acc : List (Int × Int)) (x : ACall) (Γ0 : Gho) (v0 : World) (Γ : Gho) (A : Sys) (v : World) (c : Frame) (cs : List Frame) (k : Int × Int → Prog), l[acc.length]? = some x → WI Γ A v → Guar i A.ths.length Γ0 v0 Γ v → i < A.ths.length → E acc Γ v → (∀ r, Go1E H i Fin Γ v (E (acc ++ [r])) (k r) (G (c.finish (ansV r)) cs)) →
      HP i Fin (dop acc x k) Γ0 v0 A (G (Frame.enter Try.prog f (#[.pointer (some ⟨Γ.tb i, 0, none⟩), acallV x] ++ cap) .normal) (c :: cs)) v
theorem size_alloc {v : World} {o : Obj} : (v.alloc o).heap.size = v.heap.size + 1 := by show (v.heap.push o).size = _; exact Array.size_push ..
theorem ready_alloc {v : World} (h : Ready0 v) {c : Array Value} {t : TypeId} {fr : Nat × Nat} : Ready0 (v.alloc (.cells c t fr)) := by
  intro r x y hr
  by_cases e : r < v.heap.size
  · rw [heap_alloc_old v _ e] at hr; exact h r x y hr
  · by_cases e' : r = v.heap.size
    · subst e'; rw [heap_alloc_new] at hr; cases hr
    · rw [Array.getElem?_eq_none (by rw [size_alloc]; omega)] at hr; cases hr
/-- The answers so far, in memory of the thread's own. -/
def OutAt (i : Nat) (vs : World) (Γ : Gho) (v : World) (ov : Value) (acc : List (Int × Int)) : Prop :=
  v.ownsRow 0 37 2 ov acc.length (ansFlat acc) ∧ ∀ b, ov.ownBlock = some b → vs.heap.size ≤ b ∧ b < v.heap.size ∧ Γ.own b = .thr i
theorem OutAt.keep {i : Nat} {vs : World} {Γ Γ' : Gho} {v v' : World} {ov : Value} {acc : List (Int × Int)} (h : OutAt i vs Γ v ov acc) (hR : Rely i Γ v Γ' v') : OutAt i vs Γ' v' ov acc := by
  refine ⟨ownsRow_keep h.1 fun b c hb _ => ?_, fun b hb => ?_⟩
  · obtain ⟨h1, h2, h3⟩ := h.2 b hb
    exact hR.keep b h2 (.inl h3)
  · obtain ⟨h1, h2, h3⟩ := h.2 b hb
    exact ⟨h1, Nat.lt_of_lt_of_le h2 hR.size, (hR.own b h2).trans h3⟩
theorem own_ne' {v : World} {te : TypeId} {sz n : Nat} {xs : List Value} {rv : Value} (h : v.ownsRow 0 te sz rv n xs) {b : Nat} {arr : Array Value} {t : TypeId} {fr : Nat × Nat} (hb : v.heap[b]? = some (.cells arr t fr)) (hne : t ≠ te) : rv.ownBlock ≠ some b := fun e => by
  rcases h.2 with ⟨rfl, _⟩ | ⟨g, cap, cur, rfl, _, hg, _⟩
  · cases e
  · cases e
    rw [hb] at hg
    cases hg
    exact hne rfl
theorem OutAt.keepI {H i : Nat} {vs : World} {Γ Γ' : Gho} {v v' : World} {ov : Value} {acc : List (Int × Int)} (h : OutAt i vs Γ v ov acc) (hR : RelyI H i Γ v Γ' v') : OutAt i vs Γ' v' ov acc := by
  refine ⟨ownsRow_keep h.1 fun b c hb hc => ?_, fun b hb => ?_⟩
  · obtain ⟨h1, h2, h3⟩ := h.2 b hb
    exact hR.keep b h2 (.inr ⟨h3, fun ⟨c', fr, e⟩ => own_ne' h.1 e (by decide) hb⟩)
  · obtain ⟨h1, h2, h3⟩ := h.2 b hb
    exact ⟨h1, Nat.lt_of_lt_of_le h2 hR.size, (hR.own b h2).trans h3⟩
theorem ansFlat_app (l : List (Int × Int)) (r : Int × Int) : ansFlat (l ++ [r]) = ansFlat l ++ [.int .i64 r.1, .int .i64 r.2] := by simp [ansFlat]
section
variable {main : Bool} {S : Addr → Prop} {Stop : Goroutine → World → Prop} {N : Nat} {e : Env} {b : Frame} {a : Act} {k : List Item} {cs : List Frame} {v : World} {ops : Array Oper} {Lv : List (Option Nat × Op × Option (Nat × Bool))} {j : Nat} {rest : List Nat}
/-- out = append(out, r): the slice of one element, then the append. -/
theorem append_ans {H i : Nat} {Γs Γ0 Γ : Gho} {vs v0 : World} {A : Sys} (hT : TSI H i Γs vs Γ0 v0 Γ A v) {ov : Value} {acc : List (Int × Int)} (hO : OutAt i vs Γ v ov acc) (hlen : acc.length < 1000) (r : Int × Int)
    (hb : b.kind ≠ .early) (hl : ops.toList.map view = Lv) {d1 d2 : Nat} {q0 q1 : Operand} (hi1 : Lv[j]? = some (some d1, .buildSlice 34 1 #[(0, q1)], none)) (hi2 : Lv[j + 1]? = some (some d2, .call { callee := .builtin .append, args := #[q0, .tmp d1], argTypes := #[34, 34] }, none))
    (hd1 : d1 < N) (hd2 : d2 < N) (hat : AtE N [] e a) (hq0 : opv e q0 = some ov) (hq0' : opv ((d1, .slice (some ⟨v.heap.size, 0, none⟩) 1 1) :: e) q0 = some ov) (hq1 : opv e q1 = some (ansV r))
    (HK : ∀ ov' Γ' v' a', TSI H i Γs vs Γ0 v0 Γ' A v' → OutAt i vs Γ' v' ov' (acc ++ [r]) → RelyI H i Γs vs Γ' v' → (∀ bb, bb < v.heap.size → ov.ownBlock ≠ some bb → v'.heap[bb]? = v.heap[bb]?) → (∀ bb, bb < v.heap.size → Γ'.own bb = Γ.own bb) → v.heap.size ≤ v'.heap.size → Γ' = Γ.ext v (.thr i) →
      AtE N [] ((d2, ov') :: (d1, .slice (some ⟨v.heap.size, 0, none⟩) 1 1) :: e) a' → Hold Try.prog main S Stop (G (b.at a' (.inRegion ops rest :: k)) cs) v') :
    Hold Try.prog main S Stop (G (b.at a (.inRegion ops (j :: (j + 1) :: rest) :: k)) cs) v := by
  obtain ⟨i0, hi0, hz0, hz1, hz2⟩ := info_parts infoAns
  refine h_val (L := LA) (v' := v.alloc (.cells #[.int .i64 r.1, .int .i64 r.2] 37 (0, 0))) (y := .slice (some ⟨v.heap.size, 0, none⟩) 1 1) (fun f hf => by cases hf) hb hl hi1 rfl hd1 hat (fun ρ o hρ ho t d => by
    have h1 := hρ q1 _ hq1
    simp only [execOp, ho]
    simp [go_sem, h1, ansV]
    exact ⟨rfl, rfl⟩) fun a1 hat1 => ?_
  generalize hv1 : v.alloc (.cells #[.int .i64 r.1, .int .i64 r.2] 37 (0, 0)) = v1
  have hsz1 : v1.heap.size = v.heap.size + 1 := by rw [← hv1, size_alloc]
  have hnew : v1.heap[v.heap.size]? = some (.cells #[.int .i64 r.1, .int .i64 r.2] 37 (0, 0)) := by rw [← hv1]; exact heap_alloc_new v _
  have hold1 : ∀ bb, bb < v.heap.size → v1.heap[bb]? = v.heap[bb]? := fun bb hbb => by rw [← hv1]; exact heap_alloc_old v _ hbb
  have hrd1 : Ready0 v1 := by rw [← hv1]; exact ready_alloc hT.wi.ready
  have hown1 : v1.ownsRow 0 37 2 ov acc.length (ansFlat acc) := ownsRow_keep hO.1 fun bb c hbb hc => hold1 bb (lt_of_heap hc)
  refine h_any (L := LA) (fun f hf => by cases hf) hb hl hi2 rfl hd2 hat1 hrd1 (Q := fun y v' => ∃ g cap, y = .slice (some ⟨g, 0, none⟩) (acc.length + 1) cap ∧ v'.ownsRow 0 37 2 y (acc.length + 1) (ansFlat acc ++ [.int .i64 r.1, .int .i64 r.2]) ∧ (∀ k, k < v1.heap.size → some k ≠ ov.ownBlock → v'.heap[k]? = v1.heap[k]?) ∧ v1.heap.size ≤ v'.heap.size ∧ (ov.ownBlock = some g ∨ g = v1.heap.size) ∧ g < v'.heap.size) (fun ρ o hρ ho t d => ?_) ?_
  · have h1 := hρ q0 _ hq0'
    have h2 := hρ (.tmp d1) (.slice (some ⟨v.heap.size, 0, none⟩) 1 1) (by simp [opv, look])
    obtain ⟨g, cap, w', hr, h3, h4, h5, h6⟩ := run_append_lies (P := Try.prog) (v1.re t d) 34 o.type 0 37 i0 _ 2 16 Try.underlying34 hi0 hz0 hz1 hz2 rfl (by omega) ov acc.length (ansFlat acc) hown1 ⟨v.heap.size, 0, none⟩ 1 1 [.int .i64 r.1, .int .i64 r.2] rfl (World.news_of_block (w := v1.re t d) hnew) (by simp [Value.oneCell'])
      (by omega) (by have : (1001 : Nat) ≤ maxLen := by decide
                     omega) (by omega) (Nat.zero_le _) v1.heap.size rfl
    refine ⟨_, w', ?_, g, cap, rfl, h3, h4.block, h4.size, h5, h6⟩
    simp only [execOp, ho, resolve, invoke, builtin, Sem.run_bind, Sem.run_pure, Result.andThen_ok, List.map_toArray, List.map_cons, List.map_nil, h1, h2, hr]
  · rintro y v2 ⟨g, cap, rfl, g1, g2, g3, g4, g5⟩ hrd2 a2 hat2
    have hold2 : ∀ bb, bb < v.heap.size → ov.ownBlock ≠ some bb → v2.heap[bb]? = v.heap[bb]? := fun bb hbb hne => (g2 bb (by omega) (fun e => hne e.symm)).trans (hold1 bb hbb)
    have hT2 : TSI H i Γs vs Γ0 v0 (Γ.ext v (.thr i)) A v2 := hT.priv (by omega) (fun bb hbb hc => hold2 bb hbb fun e => by
      obtain ⟨x1, x2, x3⟩ := hO.2 bb e
      rcases hc with hc | hc
      · omega
      · exact hc x3) hrd2
    have ho2 : ∀ bb, bb < v.heap.size → (Γ.ext v (.thr i)).own bb = Γ.own bb := fun bb hbb => by simp [Gho.ext, hbb]
    refine HK _ _ v2 a2 hT2 ⟨?_, fun bb hbb => ?_⟩ hT2.rely hold2 ho2 (by omega) rfl hat2
    · rw [ansFlat_app]; simpa using g1
    · cases hbb
      rcases g4 with h | h
      · obtain ⟨x1, x2, x3⟩ := hO.2 g h
        exact ⟨x1, g5, (ho2 g x2).trans x3⟩
      · have := hT.rely.size
        have hg1 : vs.heap.size ≤ g := by rw [h, hsz1]; omega
        have hg2 : ¬ g < v.heap.size := by rw [h, hsz1]; omega
        exact ⟨hg1, g5, by simp [Gho.ext, hg2]⟩
end
end Go.Proofs.Ytecdiejeofclaaa


/- play.one: the loop, and the whole. -/
namespace Go.Proofs.Ytecdiejeofclaaa
open Go Go.Conc
noncomputable def oneBody : Code := match one_code with | .seq _ (.seq _ (.seq _ (.seq (.seq _ (.block _ (.loop c))) _))) => c | _ => .skip
noncomputable def oneTail : Code := match one_code with | .seq _ (.seq _ (.seq _ (.seq _ c))) => c | _ => .skip
abbrev oneEnv (tb : Nat) (lv dov ov : Value) (stuck : Bool) (n k : Nat) : Env := [(17, .int .i64 k), (16, .int .i64 n), (15, lv), (8, .bool stuck), (7, ov), (2, dov), (0, .pointer (some ⟨tb, 0, none⟩))]
theorem one_loop {H i : Nat} {Fin : List (Int × Int) → Gho → World → Prop} {dov : Value} {dop : List (Int × Int) → ACall → (Int × Int → Prog) → Prog} {E : List (Int × Int) → Gho → World → Prop} {l : List ACall} (hdo : DoSpec i Fin dov dop E l H) {lv : Value} {K : List (Int × Int) → Prog} {Γs : Gho} {vs : World} (hSs : ScriptAt Γs vs lv l) {b : Frame} (hb : b.kind = .normal) {c : Frame} {cs : List Frame}
    (hK : ∀ acc ov Γ0 v0 Γ A v e a, TSI H i Γs vs Γ0 v0 Γ A v → OutAt i vs Γ v ov acc → AtE 48 [] e a → look e 7 = some ov → HP i Fin (K acc) Γ0 v0 A (G (b.at a [.code oneTail]) (c :: cs)) v) :
    ∀ (m k : Nat) (acc : List (Int × Int)) (stuck : Bool) (ov : Value) (Γ0 : Gho) (v0 : World) (Γ : Gho) (A : Sys) (v : World) (a : Act), k + m = l.length → acc.length = k → TSI H i Γs vs Γ0 v0 Γ A v → (stuck = false → E acc Γ v) → OutAt i vs Γ v ov acc → AtE 48 [] (oneEnv (Γ.tb i) lv dov ov stuck l.length k) a →
      HP i Fin (Prog.callsA dop stuck k (l.drop k) acc K) Γ0 v0 A (G (b.at a [.code oneBody, .inLoop oneBody, .inBlock 0, .code oneTail]) (c :: cs)) v := by
  have hbk := not_early hb
  intro m
  induction m with
  | zero =>
    intro k acc stuck ov Γ0 v0 Γ A v a hk hacc hT hE hO hat
    rw [List.drop_eq_nil_of_le (by omega)]
    refine HP.walk ?_
    generalize hbody : oneBody = body
    unfold oneBody one_code at hbody
    simp only [] at hbody
    subst hbody
    refine hold_seq (hold_region (l := [0]) rfl (h_val noA hbk one_4 rfl rfl (by decide) hat (y := .bool false) (v' := v) (fun ρ o hρ ho t d => by
      have h1 := hρ (.tmp 17) _ rfl
      have h2 := hρ (.tmp 16) _ rfl
      simp only [execOp, ho]
      have : ¬ k < l.length := by omega
      simp [go_sem, h1, h2, this]) fun a hat => hold_region_end (hold_seq (hold_cond (hat.eval (q := .tmp 18) rfl) (hold_exit (k' := [.code oneTail]) rfl ?_)))))
    cases stuck <;> exact HP.stop (hK acc ov Γ0 v0 Γ A v _ a hT hO hat rfl)
  | succ m ih =>
    intro k acc stuck ov Γ0 v0 Γ A v a hk hacc hT hE hO hat
    obtain ⟨x, hx⟩ : ∃ x, l[k]? = some x := ⟨l[k]'(by omega), by simp⟩
    have hdrop : l.drop k = x :: l.drop (k + 1) := by
      rw [List.drop_eq_getElem_cons (by omega)]
      congr 1
      exact Option.some.inj ((List.getElem?_eq_getElem (by omega)).symm.trans hx)
    rw [hdrop]
    obtain ⟨sa, scap, hlv, hl64, hcalls⟩ := hSs.keepI hT.rely
    have hEk : ∀ acc Γ v Γ' v', E acc Γ v → Rely i Γ v Γ' v' → E acc Γ' v' := by obtain ⟨_, _, _, _, _, _, _, h, _, _⟩ := hdo; exact h
    have hEa : ∀ acc Γ v Γ' v', E acc Γ v → AnsOnly i Γ v Γ' v' → E acc Γ' v' := by obtain ⟨_, _, _, _, _, _, _, _, h, _⟩ := hdo; exact h
    obtain ⟨B, O, hsa, hB, hBo, m0, m1, m2, m3⟩ := hcalls k x hx
    refine HP.walk ?_
    generalize hbody : oneBody = body
    have hbody' := hbody
    unfold oneBody one_code at hbody
    simp only [] at hbody
    generalize hlast : Item.inLoop body = lastI
    subst hbody
    subst hlast
    refine hold_seq (hold_region (l := [0]) rfl (h_val noA hbk one_4 rfl rfl (by decide) hat (y := .bool true) (v' := v) (fun ρ o hρ ho t d => by
      have h1 := hρ (.tmp 17) _ rfl
      have h2 := hρ (.tmp 16) _ rfl
      simp only [execOp, ho]
      have : k < l.length := by omega
      simp [go_sem, h1, h2, this]) fun a hat => hold_region_end (hold_seq (hold_cond (hat.eval (q := .tmp 18) rfl) (hold_skip (hold_seq (hold_block (hold_seq (hold_region (l := [0,1,2,3,4,5]) rfl ?_)))))))))
    refine h_val noA hbk one_5 rfl rfl (by decide) hat (r_move rfl) fun a hat => ?_
    refine h_val noA hbk one_5 rfl rfl (by decide) hat (y := .pointer (some ⟨B, O + k * 4, none⟩)) (v' := v) (fun ρ o hρ ho t d => by
      have h1 := hρ (.tmp 15) _ rfl
      have h2 := hρ (.tmp 17) _ rfl
      simp only [execOp, ho]
      have : k < l.length := by omega
      rw [hlv, hsa] at h1
      simp [go_sem, h1, h2, this]) fun a hat => ?_
    refine h_val noA hbk one_5 rfl rfl (by decide) hat (x_load_call (x := x) rfl m0 m1 m2 m3) fun a hat => h_val noA hbk one_5 rfl rfl (by decide) hat x_alloc_call fun a hat => h_val noA hbk one_5 rfl rfl (by decide) hat (r_assign rfl) fun a hat => ?_
    have hnew : (v.alloc (.cells #[.int .i64 0, .int .i64 0, .int .i64 0, .int .i64 0] 39 (0, 0))).heap[v.heap.size]? = some (.cells #[.int .i64 0, .int .i64 0, .int .i64 0, .int .i64 0] 39 (0, 0)) := heap_alloc_new v _
    have hold1 : ∀ bb, bb < v.heap.size → (v.alloc (.cells #[.int .i64 0, .int .i64 0, .int .i64 0, .int .i64 0] 39 (0, 0))).heap[bb]? = v.heap[bb]? := fun bb hbb => heap_alloc_old v _ hbb
    have hrd1 : Ready0 (v.alloc (.cells #[.int .i64 0, .int .i64 0, .int .i64 0, .int .i64 0] 39 (0, 0))) := ready_alloc hT.wi.ready
    have hsz1 : (v.alloc (.cells #[.int .i64 0, .int .i64 0, .int .i64 0, .int .i64 0] 39 (0, 0))).heap.size = v.heap.size + 1 := size_alloc
    generalize v.alloc (.cells #[.int .i64 0, .int .i64 0, .int .i64 0, .int .i64 0] 39 (0, 0)) = v1 at hnew hold1 hrd1 hsz1 ⊢
    refine h_skip noA hbk one_5 rfl rfl hat (x_store_call (x := x) rfl rfl hnew rfl) fun a hat => ?_
    have hblk := set_self (o := 3) (x := .int .i64 x.c) (set_self (o := 2) (x := .int .i64 x.b) (set_self (o := 1) (x := .int .i64 x.a) (set_self (o := 0) (x := .int .i64 x.op) hnew)))
    simp at hblk
    have hsz2 : ((((v1.setCell ⟨v.heap.size, 0, none⟩ (.int .i64 x.op)).setCell ⟨v.heap.size, 1, none⟩ (.int .i64 x.a)).setCell ⟨v.heap.size, 2, none⟩ (.int .i64 x.b)).setCell ⟨v.heap.size, 3, none⟩ (.int .i64 x.c)).heap.size = v.heap.size + 1 := by rw [size_set, size_set, size_set, size_set, hsz1]
    have hold2 : ∀ bb, bb < v.heap.size → ((((v1.setCell ⟨v.heap.size, 0, none⟩ (.int .i64 x.op)).setCell ⟨v.heap.size, 1, none⟩ (.int .i64 x.a)).setCell ⟨v.heap.size, 2, none⟩ (.int .i64 x.b)).setCell ⟨v.heap.size, 3, none⟩ (.int .i64 x.c)).heap[bb]? = v.heap[bb]? := fun bb hbb => by
      rw [set_other (by omega), set_other (by omega), set_other (by omega), set_other (by omega)]; exact hold1 bb hbb
    have hrd2 : Ready0 ((((v1.setCell ⟨v.heap.size, 0, none⟩ (.int .i64 x.op)).setCell ⟨v.heap.size, 1, none⟩ (.int .i64 x.a)).setCell ⟨v.heap.size, 2, none⟩ (.int .i64 x.b)).setCell ⟨v.heap.size, 3, none⟩ (.int .i64 x.c)) := ready_set (ready_set (ready_set (ready_set hrd1)))
    generalize ((((v1.setCell ⟨v.heap.size, 0, none⟩ (.int .i64 x.op)).setCell ⟨v.heap.size, 1, none⟩ (.int .i64 x.a)).setCell ⟨v.heap.size, 2, none⟩ (.int .i64 x.b)).setCell ⟨v.heap.size, 3, none⟩ (.int .i64 x.c)) = v2 at hblk hsz2 hold2 hrd2 ⊢
    have hT2 : TSI H i Γs vs Γ0 v0 (Γ.ext v (.thr i)) A v2 := hT.priv (by omega) (fun bb hbb _ => hold2 bb hbb) hrd2
    have hR2 : Rely i Γ v (Γ.ext v (.thr i)) v2 := ⟨by omega, ⟨rfl, rfl, rfl, rfl, rfl⟩, fun _ _ => rfl, fun bb hbb => by simp [Gho.ext, hbb], fun bb hbb _ => hold2 bb hbb, fun bb hbb _ => cell_same (hold2 bb hbb), Nat.le_refl _, fun bb j hbb _ => frozen_same (hold2 bb hbb)⟩
    have hO2 := hO.keep hR2
    have hown2 : (Γ.ext v (.thr i)).own v.heap.size = .thr i := by simp [Gho.ext]
    have htb2 : (Γ.ext v (.thr i)).tb i = Γ.tb i := rfl
    have hbs : v.heap.size < v2.heap.size := by omega
    refine hold_region_end (hold_seq (hold_seq (hold_region (l := [0]) rfl (h_val noA hbk one_6 rfl rfl (by decide) hat (r_move rfl) fun a hat => hold_region_end ?_))))
    cases stuck with
    | true =>
      refine hold_cond (hat.eval (q := .tmp 22) rfl) (hold_seq (hold_region (l := [0,1,2,3,4]) rfl ?_))
      refine h_val noA hbk one_7 rfl rfl (by decide) hat (r_move rfl) fun a hat => ?_
      refine h_val noA hbk one_7 rfl rfl (by decide) hat (y := ansV (4, 0)) (v' := v2) (fun ρ o hρ ho t d => by
        have h1 := hρ (.const (.int .i64 4)) _ rfl
        simp only [execOp, ho]
        simp [go_sem, h1, ansV]) fun a hat => ?_
      refine append_ans hT2 hO2 (by omega) (4, 0) hbk one_7 (d1 := 25) (d2 := 26) (q0 := .tmp 23) (q1 := .tmp 24) rfl rfl (by decide) (by decide) hat rfl rfl rfl fun ov' Γ' v' a' hT3 hO3 _ hold3 ho3 hsz3 htb3 hat' => h_val noA hbk one_7 rfl rfl (by decide) hat' (r_assign rfl) fun a hat => ?_
      refine hold_region_end (hold_exit (k' := [.code (.region 13 (Rg Try.f38.body 13) false), .inLoop oneBody, .inBlock 0, .code oneTail]) rfl (hold_region (l := [0,1]) rfl ?_))
      refine h_val noA hbk one_13 rfl rfl (by decide) hat (y := .int .i64 ((k + 1 : Nat) : Int)) (v' := v') (fun ρ o hρ ho t d => by
        have h1 := hρ (.tmp 17) _ rfl
        have h2 := hρ (.const (.int .i64 1)) _ rfl
        simp only [execOp, ho]
        simp [go_sem, h1, h2, IntWalk.i64_in ((k : Int) + 1) (by omega)]) fun a hat => ?_
      refine h_val noA hbk one_13 rfl rfl (by decide) hat (r_move rfl) fun a hat => ?_
      refine hold_region_end (hold_inLoop ?_)
      refine HP.stop (ih (k + 1) (acc ++ [(4, 0)]) true ov' Γ0 v0 Γ' A v' a (by omega) (by simp [hacc]) hT3 (fun h => by cases h) hO3 (hat.sub ?_))
      rw [htb3, show (((Γ.ext v (.thr i)).ext v2 (.thr i)).tb i) = Γ.tb i from rfl]
      exact AtE.cons rfl (AtE.cons rfl (AtE.cons rfl (AtE.cons rfl (AtE.cons rfl (AtE.cons rfl (AtE.cons rfl AtE.nil))))))
    | false =>
      obtain ⟨f, fn, cap, hdov, hf, hbd, hnm, _, _, hdo'⟩ := hdo
      refine hold_cond (hat.eval (q := .tmp 22) rfl) (hold_skip (hold_seq (hold_region (l := [0,1,2]) rfl ?_)))
      iterate 2 (refine h_val noA hbk one_8 rfl rfl (by decide) hat (r_move rfl) fun a hat => ?_)
      refine h_enter (L := ⟨[50], []⟩) (fun f hf => by cases hf) hbk one_8 rfl (Note_call (by simp)) hat (args := #[.pointer (some ⟨Γ.tb i, 0, none⟩), .int .i64 9, .int .i64 k, .int .i64 0]) (Note_run rfl) ?_
      refine HP.stop (note_hp hT2.wi hT2.lt 9 k 0 _ _ fun v3 hW3 hG3 hR3 => ?_)
      obtain ⟨a3, hat3, hfin3⟩ := back_val (b := b) (a := a) (i := 2) (d := 29) (rest := []) one_8 rfl (by decide) hat (.tuple #[]) (k := _)
      refine Eq.subst (motive := fun X => HP i Fin _ Γ0 v0 _ (G X (c :: cs)) v3) hfin3.symm ?_
      have hT3 := hT2.sys hW3 rfl hG3 hR3
      have hO3 := hO2.keep (hR3 i)
      have hblk3 : v3.heap[v.heap.size]? = _ := ((hR3 i).keep v.heap.size hbs (.inl hown2)).trans hblk
      refine HP.walk (hold_region_end (hold_seq (hold_region (l := [0,1,2,3,4,5]) rfl ?_)))
      iterate 2 (refine h_val noA hbk one_9 rfl rfl (by decide) hat3 (r_move rfl) fun a hat3 => ?_)
      refine h_val noA hbk one_9 rfl rfl (by decide) hat3 (x_load_call (x := x) rfl (cell_of hblk3) (cell_of hblk3) (cell_of hblk3) (cell_of hblk3)) fun a hat3 => h_callv hbk one_9 rfl hat3 (q := .tmp 30) (vals := #[.pointer (some ⟨Γ.tb i, 0, none⟩), acallV x]) (by exact congrArg some hdov) rfl hf hbd hnm ?_
      refine HP.stop (hdo' acc x Γ0 v0 ((Γ.ext v (.thr i)).ext v2 .sys) _ v3 _ _ _ (by rw [hacc]; exact hx) hT3.wi hT3.guar hT3.lt (hEk _ _ _ _ _ (hEk _ _ _ _ _ (hE rfl) hR2) (hR3 i)) fun r Γ0' v0' Γ4 v4 A4 hR4 hW4 hi4 hG4 hE4 => ?_)
      obtain ⟨a4, hat4, hfin4⟩ := back_val (b := b) (i := 3) (d := 33) (rest := [4, 5]) one_9 rfl (by decide) hat3 (ansV r) (k := _)
      refine Eq.subst (motive := fun X => HP i Fin _ Γ0' v0' A4 (G X (c :: cs)) v4) hfin4.symm ?_
      have hT4 := hT3.later hR4 hW4 hi4 hG4
      have hO4 := hO3.keepI hR4
      have htb4 : Γ4.tb i = Γ.tb i := hR4.same.2.2.2.1
      refine HP.walk <| h_val noA hbk one_9 rfl rfl (by decide) hat4 x_alloc_ans fun a hat => ?_
      have hnewa : (v4.alloc (.cells #[.int .i64 0, .int .i64 0] 37 (0, 0))).heap[v4.heap.size]? = some (.cells #[.int .i64 0, .int .i64 0] 37 (0, 0)) := heap_alloc_new v4 _
      have holda : ∀ bb, bb < v4.heap.size → (v4.alloc (.cells #[.int .i64 0, .int .i64 0] 37 (0, 0))).heap[bb]? = v4.heap[bb]? := fun bb hbb => heap_alloc_old v4 _ hbb
      have hrda : Ready0 (v4.alloc (.cells #[.int .i64 0, .int .i64 0] 37 (0, 0))) := ready_alloc hT4.wi.ready
      have hsza : (v4.alloc (.cells #[.int .i64 0, .int .i64 0] 37 (0, 0))).heap.size = v4.heap.size + 1 := size_alloc
      generalize v4.alloc (.cells #[.int .i64 0, .int .i64 0] 37 (0, 0)) = va at hnewa holda hrda hsza ⊢
      refine h_skip noA hbk one_9 rfl rfl hat (x_store_ans (r := r) rfl rfl hnewa rfl) fun a hat => ?_
      have hblka := set_self (o := 1) (x := .int .i64 r.2) (set_self (o := 0) (x := .int .i64 r.1) hnewa)
      simp at hblka
      have hszb : ((va.setCell ⟨v4.heap.size, 0, none⟩ (.int .i64 r.1)).setCell ⟨v4.heap.size, 1, none⟩ (.int .i64 r.2)).heap.size = v4.heap.size + 1 := by rw [size_set, size_set, hsza]
      have holdb : ∀ bb, bb < v4.heap.size → ((va.setCell ⟨v4.heap.size, 0, none⟩ (.int .i64 r.1)).setCell ⟨v4.heap.size, 1, none⟩ (.int .i64 r.2)).heap[bb]? = v4.heap[bb]? := fun bb hbb => by
        rw [set_other (by omega), set_other (by omega)]; exact holda bb hbb
      have hrdb : Ready0 ((va.setCell ⟨v4.heap.size, 0, none⟩ (.int .i64 r.1)).setCell ⟨v4.heap.size, 1, none⟩ (.int .i64 r.2)) := ready_set (ready_set hrda)
      generalize ((va.setCell ⟨v4.heap.size, 0, none⟩ (.int .i64 r.1)).setCell ⟨v4.heap.size, 1, none⟩ (.int .i64 r.2)) = v5 at hblka hszb holdb hrdb ⊢
      have hT5 : TSI H i Γs vs Γ0' v0' (Γ4.ext v4 (.thr i)) A4 v5 := hT4.priv (by omega) (fun bb hbb _ => holdb bb hbb) hrdb
      have hR5 : Rely i Γ4 v4 (Γ4.ext v4 (.thr i)) v5 := ⟨by omega, ⟨rfl, rfl, rfl, rfl, rfl⟩, fun _ _ => rfl, fun bb hbb => by simp [Gho.ext, hbb], fun bb hbb _ => holdb bb hbb, fun bb hbb _ => cell_same (holdb bb hbb), Nat.le_refl _, fun bb j hbb _ => frozen_same (holdb bb hbb)⟩
      have hO5 := hO4.keep hR5
      have hown5 : (Γ4.ext v4 (.thr i)).own v4.heap.size = .thr i := by simp [Gho.ext]
      have hbs5 : v4.heap.size < v5.heap.size := by omega
      refine hold_region_end (hold_seq (hold_region (l := [0,1,2,3,4]) rfl ?_))
      iterate 2 (refine h_val noA hbk one_10 rfl rfl (by decide) hat (r_move rfl) fun a hat => ?_)
      refine h_val noA hbk one_10 rfl rfl (by decide) hat (r_field fk_ans_0 rfl) fun a hat => h_val noA hbk one_10 rfl rfl (by decide) hat (r_load ld_errno rfl (cell_of hblka)) fun a hat => h_enter (L := ⟨[50], []⟩) (fun f hf => by cases hf) hbk one_10 rfl (Note_call (by simp)) hat (args := #[.pointer (some ⟨Γ4.tb i, 0, none⟩), .int .i64 10, .int .i64 k, .int .i64 r.1]) (Note_run (by rw [htb4]; rfl)) ?_
      refine HP.stop (note_hp hT5.wi hT5.lt 10 k r.1 _ _ fun v6 hW6 hG6 hR6 => ?_)
      obtain ⟨a6, hat6, hfin6⟩ := back_val (b := b) (a := a) (i := 4) (d := 38) (rest := []) one_10 rfl (by decide) hat (.tuple #[]) (k := _)
      refine Eq.subst (motive := fun X => HP i Fin _ Γ0' v0' _ (G X (c :: cs)) v6) hfin6.symm ?_
      have hT6 := hT5.sys hW6 rfl hG6 hR6
      have hO6 := hO5.keep (hR6 i)
      have hblk6 : v6.heap[v4.heap.size]? = _ := ((hR6 i).keep v4.heap.size hbs5 (.inl hown5)).trans hblka
      have hlt6 : v4.heap.size < v6.heap.size := lt_of_heap hblk6
      have hovne : ov.ownBlock ≠ some v4.heap.size := fun e => by
        obtain ⟨_, h2, _⟩ := hO4.2 _ e
        omega
      refine HP.walk (hold_region_end (hold_seq (hold_region (l := [0,1,2,3,4]) rfl ?_)))
      refine h_val noA hbk one_11 rfl rfl (by decide) hat6 (r_move rfl) fun a hat => h_val noA hbk one_11 rfl rfl (by decide) hat (y := ansV r) (x_load_ans rfl (cell_of hblk6) (cell_of hblk6)) fun a hat => append_ans hT6 hO6 (by omega) r hbk one_11 (d1 := 41) (d2 := 42) (q0 := .tmp 39) (q1 := .tmp 40) rfl rfl (by decide) (by decide) hat rfl rfl rfl fun ov' Γ7 v7 a' hT7 hO7 _ hold7 ho7 hsz7 htb7 hat' => h_val noA hbk one_11 rfl rfl (by decide) hat' (r_assign rfl) fun a hat => ?_
      have hblk7 := (hold7 _ hlt6 hovne).trans hblk6
      refine hold_region_end (hold_region (l := [0,1,2,3]) rfl ?_)
      refine h_val noA hbk one_12 rfl rfl (by decide) hat (r_field fk_ans_0 rfl) fun a hat => h_val noA hbk one_12 rfl rfl (by decide) hat (r_load ld_errno rfl (cell_of hblk7)) fun a hat => ?_
      refine h_val noA hbk one_12 rfl (opOk_eq eqt_errno) (by decide) hat (y := .bool (r.1 == 4)) (v' := v7) (fun ρ o hρ ho t d => by
        have h1 := hρ (.tmp 44) _ rfl
        have h2 := hρ (.const (.int .i64 4)) _ rfl
        simp only [execOp, ho]
        simp [go_sem, h1, h2]) fun a hat => ?_
      refine h_val noA hbk one_12 rfl rfl (by decide) hat (r_assign rfl) fun a hat => ?_
      refine hold_region_end (hold_inBlock (hold_region (l := [0,1]) rfl ?_))
      refine h_val noA hbk one_13 rfl rfl (by decide) hat (y := .int .i64 ((k + 1 : Nat) : Int)) (v' := v7) (fun ρ o hρ ho t d => by
        have h1 := hρ (.tmp 17) _ rfl
        have h2 := hρ (.const (.int .i64 1)) _ rfl
        simp only [execOp, ho]
        simp [go_sem, h1, h2, IntWalk.i64_in ((k : Int) + 1) (by omega)]) fun a hat => ?_
      refine h_val noA hbk one_13 rfl rfl (by decide) hat (r_move rfl) fun a hat => ?_
      refine hold_region_end (hold_inLoop ?_)
      have hE6 := hEk _ _ _ _ _ (hEk _ _ _ _ _ hE4 hR5) (hR6 i)
      have hE7 := hEa _ _ _ Γ7 v7 hE6 (by
        rw [htb7]
        exact ⟨hsz7, ⟨rfl, rfl, rfl, rfl, rfl⟩, rfl, fun bb hbb => by simp [Gho.ext, hbb], rfl, fun bb c t fr hc hne => hold7 bb (lt_of_heap hc) (own_ne' hO6.1 hc hne), fun bb hbb ho => hold7 bb hbb fun e => by have := (hO6.2 bb e).2.2; rw [ho] at this; cases this⟩)
      refine HP.stop (ih (k + 1) (acc ++ [r]) (r.1 == 4) ov' Γ0' v0' Γ7 _ v7 a (by omega) (by simp [hacc]) hT7 (fun _ => hE7) hO7 (hat.sub ?_))
      have htb : Γ7.tb i = Γ.tb i := by rw [htb7]; exact htb4
      rw [htb]
      exact AtE.cons rfl (AtE.cons rfl (AtE.cons rfl (AtE.cons rfl (AtE.cons rfl (AtE.cons rfl (AtE.cons rfl AtE.nil))))))
end Go.Proofs.Ytecdiejeofclaaa


/- play.one: the whole. -/
namespace Go.Proofs.Ytecdiejeofclaaa
open Go Go.Conc
theorem one_hp {H i : Nat} {Fin : List (Int × Int) → Gho → World → Prop} {dov : Value} {dop : List (Int × Int) → ACall → (Int × Int → Prog) → Prog} {E : List (Int × Int) → Gho → World → Prop} {l : List ACall} (hdo : DoSpec i Fin dov dop E l H) {lv : Value} {K : List (Int × Int) → Prog} {Γ0 Γ : Gho} {v0 v : World} {A : Sys} (hW : WI Γ A v) (hG : Guar i A.ths.length Γ0 v0 Γ v) (hi : i < A.ths.length)
    (hS : ScriptAt Γ v lv l) (hE : E [] Γ v) (c : Frame) (cs : List Frame)
    (hK : ∀ acc ov Γ0' v0' Γ' A' v', TSI H i Γ v Γ0' v0' Γ' A' v' → OutAt i v Γ' v' ov acc → HP i Fin (K acc) Γ0' v0' A' (G (c.finish ov) cs) v') :
    HP i Fin (Prog.callsA dop false 0 l [] K) Γ0 v0 A (G (Frame.enter Try.prog 38 #[.pointer (some ⟨Γ.tb i, 0, none⟩), lv, dov] .normal) (c :: cs)) v := by
  obtain ⟨i0, hi0, hz0, hz1, hz2⟩ := info_parts infoAns
  obtain ⟨sa, scap, hlv, hl64, _⟩ := id hS
  obtain ⟨b, a, hEn, hb, hbf, hat⟩ := enter_is one_fn one_body one_tmps #[.pointer (some ⟨Γ.tb i, 0, none⟩), lv, dov] [(0, .pointer (some ⟨Γ.tb i, 0, none⟩)), (1, lv), (2, dov)] rfl (by simp)
  rw [hEn]
  have hbk := not_early hb
  refine HP.walk ?_
  generalize hcode : one_code = code
  have hcode' := hcode
  unfold one_code at hcode
  subst hcode
  refine hold_seq (hold_region (l := [0]) rfl (h_val noA hbk one_0 rfl rfl (by decide) hat (r_assign rfl) fun a hat => hold_region_end (hold_seq (hold_region (l := [0,1,2,3]) rfl ?_))))
  refine h_val noA hbk one_1 rfl rfl (by decide) hat (r_move rfl) fun a hat => ?_
  refine h_val noA hbk one_1 rfl rfl (by decide) hat (y := .int .i64 l.length) (v' := v) (fun ρ o hρ ho t d => by
    have h1 := hρ (.tmp 12) _ rfl
    simp only [execOp, ho]
    rw [hlv] at h1
    simp [go_sem, h1]) fun a hat => ?_
  refine h_any (L := LA) (fun f hf => by cases hf) hbk one_1 rfl rfl (by decide) hat hW.ready (Q := fun y v' => ∃ cap, y = .slice (some ⟨v.heap.size, 0, none⟩) 0 cap ∧ v'.ownsRow 0 37 2 y 0 [] ∧ (∀ k, k < v.heap.size → v'.heap[k]? = v.heap[k]?) ∧ v.heap.size < v'.heap.size) (fun ρ o hρ ho t d => ?_) ?_
  · have h1 := hρ (.tmp 13) _ rfl
    have h2 := hρ (.const (.int .i64 0)) _ rfl
    obtain ⟨w', hr, h3, h4⟩ := run_make_own (P := Try.prog) (v.re t d) 0 34 37 i0 _ 2 Try.underlying34 hi0 hz0 hz1 .i64 .i64 l.length (by rw [hz2]; omega) (Nat.le_trans hl64 (by decide)) (Nat.zero_le _)
    refine ⟨_, w', ?_, l.length, rfl, h3, fun k hk => h4.block k hk (by simp), ?_⟩
    · simp only [execOp, ho, h1, h2]
      exact run_then hr rfl
    · obtain ⟨g, cap, cur, hg, _, hg2, _⟩ : ∃ g cap cur, (Value.slice (some ⟨(v.re t d).heap.size, 0, none⟩) 0 l.length) = .slice (some ⟨g, 0, none⟩) 0 cap ∧ 0 ≤ g ∧ w'.heap[g]? = some (.cells cur 37 (0, 0)) ∧ 0 ≤ cap := by
        rcases h3.2 with ⟨h, _⟩ | ⟨g, cap, cur, h, h5, h6, h7, _⟩
        · cases h
        · exact ⟨g, cap, cur, h, h5, h6, h7⟩
      cases hg
      exact lt_of_heap hg2
  · rintro y v1 ⟨cap, rfl, g1, g2, g3⟩ hrd a hat
    refine h_val noA hbk one_1 rfl rfl (by decide) hat (r_assign rfl) fun a hat => ?_
    have hT := ((TS.start hW hG hi).toI H).priv (by omega) (fun bb hbb _ => g2 bb hbb) hrd
    have hEk : ∀ acc Γ v Γ' v', E acc Γ v → Rely i Γ v Γ' v' → E acc Γ' v' := by obtain ⟨_, _, _, _, _, _, _, h, _, _⟩ := hdo; exact h
    have hE1 := hEk _ _ _ (Γ.ext v (.thr i)) v1 hE ⟨by omega, ⟨rfl, rfl, rfl, rfl, rfl⟩, fun _ _ => rfl, fun bb hbb => by simp [Gho.ext, hbb], fun bb hbb _ => g2 bb hbb, fun bb hbb _ => cell_same (g2 bb hbb), Nat.le_refl _, fun bb j hbb _ => frozen_same (g2 bb hbb)⟩
    have hO : OutAt i v (Γ.ext v (.thr i)) v1 (.slice (some ⟨v.heap.size, 0, none⟩) 0 cap) [] := ⟨g1, fun bb hbb => by cases hbb; exact ⟨Nat.le_refl _, g3, by simp [Gho.ext]⟩⟩
    refine hold_region_end (hold_seq (hold_region (l := [0]) rfl (h_val noA hbk one_2 rfl rfl (by decide) hat (r_assign rfl) fun a hat => hold_region_end (hold_seq (hold_seq (hold_region (l := [0,1,2]) rfl ?_))))))
    refine h_val noA hbk one_3 rfl rfl (by decide) hat (r_move rfl) fun a hat => ?_
    refine h_val noA hbk one_3 rfl rfl (by decide) hat (y := .int .i64 l.length) (v' := v1) (fun ρ o hρ ho t d => by
      have h1 := hρ (.tmp 15) _ rfl
      simp only [execOp, ho]
      rw [hlv] at h1
      simp [go_sem, h1]) fun a hat => ?_
    refine h_val noA hbk one_3 rfl rfl (by decide) hat (y := .int .i64 ((0 : Nat) : Int)) (v' := v1) (r_move rfl) fun a hat => hold_region_end (hold_block (hold_loop ?_))
    refine HP.stop (one_loop (Γs := Γ) (vs := v) hdo hS hb (fun acc ov Γ0' v0' Γ' A' v' e a hT hO hat h7 => ?_) l.length 0 [] false _ Γ0 v0 _ A v1 a (by omega) rfl hT (fun _ => hE1) hO (hat.sub ?_))
    · refine HP.walk ?_
      unfold oneTail one_code
      refine hold_seq (hold_region (l := [0,1]) rfl ?_)
      refine h_val noA hbk one_14 rfl rfl (by decide) hat (r_move h7) fun a hat => h_val noA hbk one_14 rfl rfl (by decide) hat (r_assign rfl) fun a hat => hold_region_end ?_
      exact hold_retd hb hbf one_fn hat.defers (ret_one one_res hat rfl) (HP.stop (hK acc ov Γ0' v0' Γ' A' v' hT hO))
    · exact AtE.cons rfl (AtE.cons rfl (AtE.cons rfl (AtE.cons rfl (AtE.cons rfl (AtE.cons rfl (AtE.cons rfl AtE.nil))))))
end Go.Proofs.Ytecdiejeofclaaa


/- play.Run$1: a thread's body: out[i] = one(t, l, do). -/
namespace Go.Proofs.Ytecdiejeofclaaa
open Go Go.Conc
/-- What a thread has left behind: its answers, in memory that was its own. -/
def FinOut (i : Nat) (ob : Nat) (acc : List (Int × Int)) (Γ : Gho) (v : World) : Prop :=
  (ob < v.heap.size ∧ Γ.own ob = .mixed) ∧ ∃ ov, v.cell? ⟨ob, i, none⟩ = some ov ∧ v.ownsRow 0 37 2 ov acc.length (ansFlat acc) ∧ ∀ b, ov.ownBlock = some b → b < v.heap.size ∧ Γ.own b = .thr i
/-- What the body has captured. -/
structure Caught (i : Nat) (Γ : Gho) (v : World) (lb db vb ib ob n : Nat) (lv dov : Value) : Prop where
  cl : v.cell? ⟨lb, 0, none⟩ = some lv ∧ lb < v.heap.size ∧ Γ.own lb = .const
  cd : v.cell? ⟨db, 0, none⟩ = some dov ∧ db < v.heap.size ∧ Γ.own db = .const
  co : v.cell? ⟨vb, 0, none⟩ = some (.slice (some ⟨ob, 0, none⟩) n n) ∧ vb < v.heap.size ∧ Γ.own vb = .const
  ci : v.cell? ⟨ib, 0, none⟩ = some (.int .i64 i) ∧ ib < v.heap.size ∧ Γ.own ib = .const
  lt : i < n
  out : ob < v.heap.size ∧ Γ.own ob = .mixed
theorem Caught.keepI {H i : Nat} {Γ Γ' : Gho} {v v' : World} {lb db vb ib ob n : Nat} {lv dov : Value} (h : Caught i Γ v lb db vb ib ob n lv dov) (hR : RelyI H i Γ v Γ' v') : Caught i Γ' v' lb db vb ib ob n lv dov := by
  have key : ∀ {b : Nat} {x : Value}, v.cell? ⟨b, 0, none⟩ = some x ∧ b < v.heap.size ∧ Γ.own b = .const → v'.cell? ⟨b, 0, none⟩ = some x ∧ b < v'.heap.size ∧ Γ'.own b = .const := fun {b x} ⟨h1, h2, h3⟩ =>
    ⟨(cell_same (hR.keep b h2 (.inl h3))).trans h1, Nat.lt_of_lt_of_le h2 hR.size, (hR.own b h2).trans h3⟩
  exact ⟨key h.cl, key h.cd, key h.co, key h.ci, h.lt, Nat.lt_of_lt_of_le h.out.1 hR.size, (hR.own ob h.out.1).trans h.out.2⟩
/-- What the body has captured stands, and the cell for the answers. -/
structure Slot (i ob : Nat) (v : World) : Prop where
  cell : ∃ x, v.cell? ⟨ob, i, none⟩ = some x
  open_ : v.frozen? ⟨ob, i, none⟩ = false
theorem Slot.keepI {H i ob : Nat} {Γ Γ' : Gho} {v v' : World} (h : Slot i ob v) (hb : ob < v.heap.size) (ho : Γ.own ob = .mixed) (hH : ob ≠ H) (hR : RelyI H i Γ v Γ' v') : Slot i ob v' :=
  ⟨by rw [hR.mixed ob hb ho hH]; exact h.cell, by rw [hR.mf ob i hb ho]; exact h.open_⟩
end Go.Proofs.Ytecdiejeofclaaa


/- Skeletons, printed by gen.py. -/
namespace Go.Proofs.Ytecdiejeofclaaa
open Go Go.Conc
set_option maxRecDepth 100000
theorem Turn_bd : Try.f42.body.isSome = true := by rw [Turn_body]; rfl
theorem Turn_nm : (Try.f42.name == "runtime.NumGoroutine") = false := by kernel_rfl
theorem Turn_code_def : Turn_code = Turn_code := rfl
theorem Did_bd : Try.f44.body.isSome = true := by rw [Did_body]; rfl
theorem Did_nm : (Try.f44.name == "runtime.NumGoroutine") = false := by kernel_rfl
theorem Did_code_def : Did_code = Did_code := rfl
theorem changed_bd : Try.f85.body.isSome = true := by rw [changed_body]; rfl
theorem changed_nm : (Try.f85.name == "runtime.NumGoroutine") = false := by kernel_rfl
theorem ALoad_bd : Try.f43.body.isSome = true := by rw [ALoad_body]; rfl
theorem ALoad_nm : (Try.f43.name == "runtime.NumGoroutine") = false := by kernel_rfl
theorem ACas_bd : Try.f46.body.isSome = true := by rw [ACas_body]; rfl
theorem ACas_nm : (Try.f46.name == "runtime.NumGoroutine") = false := by kernel_rfl
theorem AStore_bd : Try.f41.body.isSome = true := by rw [AStore_body]; rfl
theorem AStore_nm : (Try.f41.name == "runtime.NumGoroutine") = false := by kernel_rfl
theorem Load_bd : Try.f30.body.isSome = true := by rw [Load_body]; rfl
theorem Load_nm : (Try.f30.name == "runtime.NumGoroutine") = false := by kernel_rfl
theorem Load_code_def : Load_code = Load_code := rfl
theorem Cas_bd : Try.f33.body.isSome = true := by rw [Cas_body]; rfl
theorem Cas_nm : (Try.f33.name == "runtime.NumGoroutine") = false := by kernel_rfl
theorem Cas_code_def : Cas_code = Cas_code := rfl
theorem one_bd : Try.f38.body.isSome = true := by rw [one_body]; rfl
theorem one_nm : (Try.f38.name == "runtime.NumGoroutine") = false := by kernel_rfl
theorem RunF_bd : Try.f37.body.isSome = true := by rw [RunF_body]; rfl
theorem RunF_nm : (Try.f37.name == "runtime.NumGoroutine") = false := by kernel_rfl
noncomputable def thrun_code : Code := (.seq (.region 0 (Rg Try.f56.body 0) false) (.seq (.region 1 (Rg Try.f56.body 1) false) (.region 2 (Rg Try.f56.body 2) false)))
theorem thrun_code_def : thrun_code = (.seq (.region 0 (Rg Try.f56.body 0) false) (.seq (.region 1 (Rg Try.f56.body 1) false) (.region 2 (Rg Try.f56.body 2) false))) := rfl
theorem thrun_body : Try.f56.body = some thrun_code := by kernel_rfl
theorem thrun_fn : Try.prog.funcs[56]? = some Try.f56 := Try.func56
theorem thrun_bd : Try.f56.body.isSome = true := by rw [thrun_body]; rfl
theorem thrun_nm : (Try.f56.name == "runtime.NumGoroutine") = false := by kernel_rfl
theorem thrun_tmps : Try.f56.ntmps = 8 := by kernel_rfl
theorem thrun_res : Try.f56.results = #[] := by kernel_rfl
theorem thrun_0 : (Rg Try.f56.body 0).toList.map view = [(some 2, Op.box 41 (.tmp 0), none)] := by kernel_rfl
theorem thrun_1 : (Rg Try.f56.body 1).toList.map view = [(some 4, Op.makeFunc (.func 82) #[] #[.tmp 2], none), (none, Op.defer { callee := .value (.tmp 4), args := #[], argTypes := #[] }, none)] := by kernel_rfl
theorem thrun_2 : (Rg Try.f56.body 2).toList.map view = [(some 5, Op.move (.tmp 1), none), (some 6, Op.load 41 (.tmp 2), none), (some 7, Op.call { callee := .value (.tmp 5), args := #[.tmp 6], argTypes := #[41] }, none)] := by kernel_rfl
noncomputable def thrunF_code : Code := (.seq (.seq (.region 0 (Rg Try.f82.body 0) false) (.cond (.tmp 2) (.region 1 (Rg Try.f82.body 1) false) .skip)) (.seq (.region 2 (Rg Try.f82.body 2) false) (.region 3 (Rg Try.f82.body 3) false)))
theorem thrunF_code_def : thrunF_code = (.seq (.seq (.region 0 (Rg Try.f82.body 0) false) (.cond (.tmp 2) (.region 1 (Rg Try.f82.body 1) false) .skip)) (.seq (.region 2 (Rg Try.f82.body 2) false) (.region 3 (Rg Try.f82.body 3) false))) := rfl
theorem thrunF_body : Try.f82.body = some thrunF_code := by kernel_rfl
theorem thrunF_fn : Try.prog.funcs[82]? = some Try.f82 := Try.func82
theorem thrunF_bd : Try.f82.body.isSome = true := by rw [thrunF_body]; rfl
theorem thrunF_nm : (Try.f82.name == "runtime.NumGoroutine") = false := by kernel_rfl
theorem thrunF_tmps : Try.f82.ntmps = 16 := by kernel_rfl
theorem thrunF_res : Try.f82.results = #[] := by kernel_rfl
theorem thrunF_0 : (Rg Try.f82.body 0).toList.map view = [(some 1, Op.call { callee := .builtin .recover, args := #[], argTypes := #[] }, none), (some 2, Op.binOp .neq 20 (.tmp 1) (.const .nilIface) 20, none)] := by kernel_rfl
theorem thrunF_2 : (Rg Try.f82.body 2).toList.map view = [(some 5, Op.load 41 (.tmp 0), none), (some 6, Op.nilCheck (.tmp 5), none), (some 7, Op.fieldAddr 76 (.tmp 6) 3, none), (none, Op.store 3 (.tmp 7) (.const (.int .i64 3)), none)] := by kernel_rfl
theorem thrunF_3 : (Rg Try.f82.body 3).toList.map view = [(some 8, Op.load 41 (.tmp 0), none), (some 9, Op.nilCheck (.tmp 8), none), (some 10, Op.fieldAddr 76 (.tmp 9) 0, none), (some 11, Op.load 32 (.tmp 10), none), (some 12, Op.nilCheck (.tmp 11), none), (some 13, Op.fieldAddr 74 (.tmp 12) 8, none), (some 14, Op.load 71 (.tmp 13), none), (some 15, Op.build 94 #[], none), (none, Op.send (.tmp 14) (.tmp 15), none)] := by kernel_rfl
noncomputable def WRun_L2 : Code := (.seq (.seq (.region 19 (Rg Try.f39.body 19) false) (.cond (.tmp 61) .skip (.exit 4))) (.block 5 .skip))
theorem WRun_L2_def : WRun_L2 = (.seq (.seq (.region 19 (Rg Try.f39.body 19) false) (.cond (.tmp 61) .skip (.exit 4))) (.block 5 .skip)) := rfl
noncomputable def WRun_L1 : Code := (.seq (.region 12 (Rg Try.f39.body 12) false) (.seq (.cond (.tmp 33) .skip (.exit 2)) (.seq (.block 3 (.seq (.region 13 (Rg Try.f39.body 13) false) (.seq (.region 14 (Rg Try.f39.body 14) false) (.seq (.region 15 (Rg Try.f39.body 15) false) (.seq (.region 16 (Rg Try.f39.body 16) false) (.region 17 (Rg Try.f39.body 17) false)))))) (.region 18 (Rg Try.f39.body 18) false))))
theorem WRun_L1_def : WRun_L1 = (.seq (.region 12 (Rg Try.f39.body 12) false) (.seq (.cond (.tmp 33) .skip (.exit 2)) (.seq (.block 3 (.seq (.region 13 (Rg Try.f39.body 13) false) (.seq (.region 14 (Rg Try.f39.body 14) false) (.seq (.region 15 (Rg Try.f39.body 15) false) (.seq (.region 16 (Rg Try.f39.body 16) false) (.region 17 (Rg Try.f39.body 17) false)))))) (.region 18 (Rg Try.f39.body 18) false)))) := rfl
noncomputable def WRun_L0 : Code := (.seq (.region 3 (Rg Try.f39.body 3) false) (.seq (.cond (.tmp 15) .skip (.exit 0)) (.seq (.block 1 (.seq (.region 4 (Rg Try.f39.body 4) false) (.seq (.region 5 (Rg Try.f39.body 5) false) (.region 6 (Rg Try.f39.body 6) false)))) (.region 7 (Rg Try.f39.body 7) false))))
noncomputable def WRun_code : Code := (.seq (.seq (.region 0 (Rg Try.f39.body 0) false) (.cond (.tmp 11) (.seq (.region 1 (Rg Try.f39.body 1) false) (.seq (.seq (.region 2 (Rg Try.f39.body 2) false) (.block 0 (.loop WRun_L0))) (.seq (.region 8 (Rg Try.f39.body 8) false) .ret))) .skip)) (.seq (.seq (.region 9 (Rg Try.f39.body 9) false) (.cond (.tmp 26) .ret .skip)) (.seq (.region 10 (Rg Try.f39.body 10) false) (.seq (.seq (.region 11 (Rg Try.f39.body 11) false) (.block 2 (.loop WRun_L1))) (.block 4 (.loop WRun_L2))))))
theorem WRun_code_def : WRun_code = (.seq (.seq (.region 0 (Rg Try.f39.body 0) false) (.cond (.tmp 11) (.seq (.region 1 (Rg Try.f39.body 1) false) (.seq (.seq (.region 2 (Rg Try.f39.body 2) false) (.block 0 (.loop WRun_L0))) (.seq (.region 8 (Rg Try.f39.body 8) false) .ret))) .skip)) (.seq (.seq (.region 9 (Rg Try.f39.body 9) false) (.cond (.tmp 26) .ret .skip)) (.seq (.region 10 (Rg Try.f39.body 10) false) (.seq (.seq (.region 11 (Rg Try.f39.body 11) false) (.block 2 (.loop WRun_L1))) (.block 4 (.loop WRun_L2)))))) := rfl
theorem WRun_body : Try.f39.body = some WRun_code := by kernel_rfl
theorem WRun_fn : Try.prog.funcs[39]? = some Try.f39 := Try.func39
theorem WRun_bd : Try.f39.body.isSome = true := by rw [WRun_body]; rfl
theorem WRun_nm : (Try.f39.name == "runtime.NumGoroutine") = false := by kernel_rfl
theorem WRun_tmps : Try.f39.ntmps = 62 := by kernel_rfl
theorem WRun_res : Try.f39.results = #[] := by kernel_rfl
theorem WRun_0 : (Rg Try.f39.body 0).toList.map view = [(some 10, Op.move (.tmp 0), none), (some 11, Op.binOp .eql 32 (.tmp 10) (.const (.pointer none)) 32, none)] := by kernel_rfl
theorem WRun_9 : (Rg Try.f39.body 9).toList.map view = [(some 23, Op.move (.tmp 0), none), (some 24, Op.nilCheck (.tmp 23), none), (some 25, Op.fieldAddr 74 (.tmp 24) 7, none), (some 26, Op.load 4 (.tmp 25), none)] := by kernel_rfl
theorem WRun_10 : (Rg Try.f39.body 10).toList.map view = [(some 27, Op.move (.tmp 0), none), (some 28, Op.nilCheck (.tmp 27), none), (some 29, Op.fieldAddr 74 (.tmp 28) 7, none), (none, Op.store 4 (.tmp 29) (.const (.bool true)), none)] := by kernel_rfl
theorem WRun_11 : (Rg Try.f39.body 11).toList.map view = [(some 30, Op.move (.tmp 1), none), (some 31, Op.call { callee := .builtin .len, args := #[.tmp 30], argTypes := #[90] }, none), (some 32, Op.move (.const (.int .i64 0)), none)] := by kernel_rfl
theorem WRun_12 : (Rg Try.f39.body 12).toList.map view = [(some 33, Op.binOp .lss 3 (.tmp 32) (.tmp 31) 3, none)] := by kernel_rfl
theorem WRun_13 : (Rg Try.f39.body 13).toList.map view = [(some 34, Op.move (.tmp 32), none), (some 35, Op.indexAddr 90 (.tmp 30) (.tmp 32), none), (some 36, Op.load 92 (.tmp 35), none), (some 7, Op.assign (.tmp 34), none), (some 8, Op.assign (.tmp 36), none)] := by kernel_rfl
theorem WRun_14 : (Rg Try.f39.body 14).toList.map view = [(some 37, Op.move (.tmp 0), none), (some 38, Op.move (.tmp 7), none), (some 39, Op.makeChan 71 (.const (.int .i64 0)), none), (some 40, Op.build 76 #[(0, .tmp 37), (1, .tmp 38), (2, .tmp 39)], none), (some 41, Op.box 76 (.tmp 40), none), (some 9, Op.assign (.tmp 41), none)] := by kernel_rfl
theorem WRun_15 : (Rg Try.f39.body 15).toList.map view = [(some 42, Op.move (.tmp 0), none), (some 43, Op.move (.tmp 0), none), (some 44, Op.nilCheck (.tmp 43), none), (some 45, Op.fieldAddr 74 (.tmp 44) 4, none), (some 46, Op.load 72 (.tmp 45), none), (some 47, Op.move (.tmp 9), none), (some 48, Op.buildSlice 72 1 #[(0, .tmp 47)], none), (some 49, Op.call { callee := .builtin .append, args := #[.tmp 46, .tmp 48], argTypes := #[72, 72] }, none), (some 50, Op.nilCheck (.tmp 42), none), (some 51, Op.fieldAddr 74 (.tmp 50) 4, none), (none, Op.store 72 (.tmp 51) (.tmp 49), none)] := by kernel_rfl
theorem WRun_16 : (Rg Try.f39.body 16).toList.map view = [(some 52, Op.move (.tmp 9), none), (some 53, Op.move (.tmp 8), none), (none, Op.go { callee := .value (.func 56), args := #[.tmp 52, .tmp 53], argTypes := #[41, 92] }, none)] := by kernel_rfl
theorem WRun_17 : (Rg Try.f39.body 17).toList.map view = [(some 54, Op.move (.tmp 0), none), (some 55, Op.nilCheck (.tmp 54), none), (some 56, Op.fieldAddr 74 (.tmp 55) 8, none), (some 57, Op.load 71 (.tmp 56), none), (some 58, Op.recv 71 (.tmp 57) false, none)] := by kernel_rfl
theorem WRun_18 : (Rg Try.f39.body 18).toList.map view = [(some 59, Op.binOp .add 3 (.tmp 32) (.const (.int .i64 1)) 3, none), (some 32, Op.move (.tmp 59), none)] := by kernel_rfl
theorem WRun_19 : (Rg Try.f39.body 19).toList.map view = [(some 60, Op.move (.tmp 0), none), (some 61, Op.call { callee := .value (.func 57), args := #[.tmp 60], argTypes := #[32] }, none)] := by kernel_rfl
noncomputable def turn_L0 : Code := (.seq (.region 4 (Rg Try.f57.body 4) false) (.seq (.cond (.tmp 14) .skip (.exit 0)) (.seq (.block 1 (.seq (.region 5 (Rg Try.f57.body 5) false) (.seq (.seq (.region 6 (Rg Try.f57.body 6) false) (.cond (.tmp 18) (.region 7 (Rg Try.f57.body 7) false) .skip)) (.region 8 (Rg Try.f57.body 8) false)))) (.region 9 (Rg Try.f57.body 9) false))))
theorem turn_L0_def : turn_L0 = (.seq (.region 4 (Rg Try.f57.body 4) false) (.seq (.cond (.tmp 14) .skip (.exit 0)) (.seq (.block 1 (.seq (.region 5 (Rg Try.f57.body 5) false) (.seq (.seq (.region 6 (Rg Try.f57.body 6) false) (.cond (.tmp 18) (.region 7 (Rg Try.f57.body 7) false) .skip)) (.region 8 (Rg Try.f57.body 8) false)))) (.region 9 (Rg Try.f57.body 9) false)))) := rfl
noncomputable def turn_code : Code := (.seq (.region 0 (Rg Try.f57.body 0) false) (.seq (.region 1 (Rg Try.f57.body 1) false) (.seq (.region 2 (Rg Try.f57.body 2) false) (.seq (.seq (.region 3 (Rg Try.f57.body 3) false) (.block 0 (.loop turn_L0))) (.seq (.seq (.region 10 (Rg Try.f57.body 10) false) (.cond (.tmp 34) (.seq (.seq (.region 11 (Rg Try.f57.body 11) false) (.cond (.tmp 35) (.seq (.region 12 (Rg Try.f57.body 12) false) (.region 13 (Rg Try.f57.body 13) false)) .skip)) (.seq (.region 14 (Rg Try.f57.body 14) false) .ret)) .skip)) (.seq (.region 15 (Rg Try.f57.body 15) false) (.seq (.region 16 (Rg Try.f57.body 16) false) (.seq (.region 17 (Rg Try.f57.body 17) false) (.seq (.region 18 (Rg Try.f57.body 18) false) (.seq (.region 19 (Rg Try.f57.body 19) false) (.seq (.region 20 (Rg Try.f57.body 20) false) .ret)))))))))))
theorem turn_code_def : turn_code = (.seq (.region 0 (Rg Try.f57.body 0) false) (.seq (.region 1 (Rg Try.f57.body 1) false) (.seq (.region 2 (Rg Try.f57.body 2) false) (.seq (.seq (.region 3 (Rg Try.f57.body 3) false) (.block 0 (.loop turn_L0))) (.seq (.seq (.region 10 (Rg Try.f57.body 10) false) (.cond (.tmp 34) (.seq (.seq (.region 11 (Rg Try.f57.body 11) false) (.cond (.tmp 35) (.seq (.region 12 (Rg Try.f57.body 12) false) (.region 13 (Rg Try.f57.body 13) false)) .skip)) (.seq (.region 14 (Rg Try.f57.body 14) false) .ret)) .skip)) (.seq (.region 15 (Rg Try.f57.body 15) false) (.seq (.region 16 (Rg Try.f57.body 16) false) (.seq (.region 17 (Rg Try.f57.body 17) false) (.seq (.region 18 (Rg Try.f57.body 18) false) (.seq (.region 19 (Rg Try.f57.body 19) false) (.seq (.region 20 (Rg Try.f57.body 20) false) .ret))))))))))) := rfl
theorem turn_body : Try.f57.body = some turn_code := by kernel_rfl
theorem turn_fn : Try.prog.funcs[57]? = some Try.f57 := Try.func57
theorem turn_bd : Try.f57.body.isSome = true := by rw [turn_body]; rfl
theorem turn_nm : (Try.f57.name == "runtime.NumGoroutine") = false := by kernel_rfl
theorem turn_tmps : Try.f57.ntmps = 73 := by kernel_rfl
theorem turn_res : Try.f57.results = #[Go.ResultVar.tmp 2] := by kernel_rfl
theorem turn_0 : (Rg Try.f57.body 0).toList.map view = [(some 2, Op.assign (.const (.bool false)), none)] := by kernel_rfl
theorem turn_1 : (Rg Try.f57.body 1).toList.map view = [(some 3, Op.assign (.const (.slice none 0 0)), none)] := by kernel_rfl
theorem turn_2 : (Rg Try.f57.body 2).toList.map view = [(some 4, Op.assign (.const (.bool false)), none)] := by kernel_rfl
theorem turn_3 : (Rg Try.f57.body 3).toList.map view = [(some 8, Op.move (.tmp 0), none), (some 9, Op.nilCheck (.tmp 8), none), (some 10, Op.fieldAddr 74 (.tmp 9) 4, none), (some 11, Op.load 72 (.tmp 10), none), (some 12, Op.call { callee := .builtin .len, args := #[.tmp 11], argTypes := #[72] }, none), (some 13, Op.move (.const (.int .i64 0)), none)] := by kernel_rfl
theorem turn_4 : (Rg Try.f57.body 4).toList.map view = [(some 14, Op.binOp .lss 3 (.tmp 13) (.tmp 12) 3, none)] := by kernel_rfl
theorem turn_5 : (Rg Try.f57.body 5).toList.map view = [(some 15, Op.indexAddr 72 (.tmp 11) (.tmp 13), none), (some 16, Op.load 41 (.tmp 15), none), (some 6, Op.assign (.tmp 16), none)] := by kernel_rfl
theorem turn_6 : (Rg Try.f57.body 6).toList.map view = [(some 17, Op.move (.tmp 6), none), (some 18, Op.call { callee := .value (.func 83), args := #[.tmp 17], argTypes := #[41] }, none)] := by kernel_rfl
theorem turn_7 : (Rg Try.f57.body 7).toList.map view = [(some 19, Op.move (.tmp 3), none), (some 20, Op.move (.tmp 6), none), (some 21, Op.buildSlice 72 1 #[(0, .tmp 20)], none), (some 22, Op.call { callee := .builtin .append, args := #[.tmp 19, .tmp 21], argTypes := #[72, 72] }, none), (some 3, Op.assign (.tmp 22), none)] := by kernel_rfl
theorem turn_8 : (Rg Try.f57.body 8).toList.map view = [(some 23, Op.move (.tmp 4), none), (some 24, Op.move (.tmp 23), none), (some 25, Op.move (.tmp 6), some (1, false)), (some 26, Op.nilCheck (.tmp 25), some (1, false)), (some 27, Op.fieldAddr 76 (.tmp 26) 3, some (1, false)), (some 28, Op.load 3 (.tmp 27), some (1, false)), (some 29, Op.binOp .eql 3 (.tmp 28) (.const (.int .i64 2)) 3, some (1, false)), (some 30, Op.pick (.tmp 24) (.const (.bool true)) (.tmp 29), none), (some 4, Op.assign (.tmp 30), none)] := by kernel_rfl
theorem turn_9 : (Rg Try.f57.body 9).toList.map view = [(some 31, Op.binOp .add 3 (.tmp 13) (.const (.int .i64 1)) 3, none), (some 13, Op.move (.tmp 31), none)] := by kernel_rfl
theorem turn_10 : (Rg Try.f57.body 10).toList.map view = [(some 32, Op.move (.tmp 3), none), (some 33, Op.call { callee := .builtin .len, args := #[.tmp 32], argTypes := #[72] }, none), (some 34, Op.binOp .eql 3 (.tmp 33) (.const (.int .i64 0)) 3, none)] := by kernel_rfl
theorem turn_11 : (Rg Try.f57.body 11).toList.map view = [(some 35, Op.move (.tmp 4), none)] := by kernel_rfl
theorem turn_12 : (Rg Try.f57.body 12).toList.map view = [(some 36, Op.move (.tmp 0), none), (some 37, Op.nilCheck (.tmp 36), none), (some 38, Op.fieldAddr 74 (.tmp 37) 6, none), (none, Op.store 4 (.tmp 38) (.const (.bool true)), none)] := by kernel_rfl
theorem turn_13 : (Rg Try.f57.body 13).toList.map view = [(some 39, Op.move (.tmp 0), none), (some 40, Op.move (.tmp 0), none), (some 41, Op.nilCheck (.tmp 40), none), (some 42, Op.fieldAddr 74 (.tmp 41) 5, none), (some 43, Op.load 51 (.tmp 42), none), (some 44, Op.build 55 #[(0, .const (.int .i64 (-1))), (1, .const (.int .i64 (-1))), (2, .const (.int .i64 7))], none), (some 45, Op.buildSlice 51 1 #[(0, .tmp 44)], none), (some 46, Op.call { callee := .builtin .append, args := #[.tmp 43, .tmp 45], argTypes := #[51, 51] }, none), (some 47, Op.nilCheck (.tmp 39), none), (some 48, Op.fieldAddr 74 (.tmp 47) 5, none), (none, Op.store 51 (.tmp 48) (.tmp 46), none)] := by kernel_rfl
theorem turn_14 : (Rg Try.f57.body 14).toList.map view = [(some 49, Op.move (.tmp 4), none), (some 2, Op.assign (.tmp 49), none)] := by kernel_rfl
theorem turn_15 : (Rg Try.f57.body 15).toList.map view = [(some 50, Op.move (.tmp 0), none), (some 51, Op.move (.tmp 3), none), (some 52, Op.call { callee := .value (.func 84), args := #[.tmp 50, .tmp 51], argTypes := #[32, 72] }, none), (some 7, Op.assign (.tmp 52), none)] := by kernel_rfl
theorem turn_16 : (Rg Try.f57.body 16).toList.map view = [(some 53, Op.move (.tmp 0), none), (some 54, Op.move (.tmp 7), none), (some 55, Op.nilCheck (.tmp 54), none), (some 56, Op.fieldAddr 76 (.tmp 55) 1, none), (some 57, Op.load 3 (.tmp 56), none), (some 58, Op.nilCheck (.tmp 53), none), (some 59, Op.fieldAddr 74 (.tmp 58) 2, none), (none, Op.store 3 (.tmp 59) (.tmp 57), none)] := by kernel_rfl
theorem turn_17 : (Rg Try.f57.body 17).toList.map view = [(some 60, Op.move (.tmp 7), none), (some 61, Op.nilCheck (.tmp 60), none), (some 62, Op.fieldAddr 76 (.tmp 61) 3, none), (none, Op.store 3 (.tmp 62) (.const (.int .i64 0)), none)] := by kernel_rfl
theorem turn_18 : (Rg Try.f57.body 18).toList.map view = [(some 63, Op.move (.tmp 7), none), (some 64, Op.nilCheck (.tmp 63), none), (some 65, Op.fieldAddr 76 (.tmp 64) 2, none), (some 66, Op.load 71 (.tmp 65), none), (some 67, Op.build 94 #[], none), (none, Op.send (.tmp 66) (.tmp 67), none)] := by kernel_rfl
theorem turn_19 : (Rg Try.f57.body 19).toList.map view = [(some 68, Op.move (.tmp 0), none), (some 69, Op.nilCheck (.tmp 68), none), (some 70, Op.fieldAddr 74 (.tmp 69) 8, none), (some 71, Op.load 71 (.tmp 70), none), (some 72, Op.recv 71 (.tmp 71) false, none)] := by kernel_rfl
theorem turn_20 : (Rg Try.f57.body 20).toList.map view = [(some 2, Op.assign (.const (.bool true)), none)] := by kernel_rfl
noncomputable def pick_L0 : Code := (.seq (.region 8 (Rg Try.f84.body 8) false) (.seq (.cond (.tmp 51) .skip (.exit 0)) (.seq (.block 1 (.seq (.region 9 (Rg Try.f84.body 9) false) (.seq (.region 10 (Rg Try.f84.body 10) true) (.cond (.tmp 62) (.seq (.region 11 (Rg Try.f84.body 11) false) .ret) .skip)))) (.region 12 (Rg Try.f84.body 12) false))))
theorem pick_L0_def : pick_L0 = (.seq (.region 8 (Rg Try.f84.body 8) false) (.seq (.cond (.tmp 51) .skip (.exit 0)) (.seq (.block 1 (.seq (.region 9 (Rg Try.f84.body 9) false) (.seq (.region 10 (Rg Try.f84.body 10) true) (.cond (.tmp 62) (.seq (.region 11 (Rg Try.f84.body 11) false) .ret) .skip)))) (.region 12 (Rg Try.f84.body 12) false)))) := rfl
noncomputable def pick_code : Code := (.seq (.region 0 (Rg Try.f84.body 0) false) (.seq (.seq (.region 1 (Rg Try.f84.body 1) true) (.cond (.tmp 17) (.seq (.region 2 (Rg Try.f84.body 2) true) (.seq (.region 3 (Rg Try.f84.body 3) false) (.seq (.seq (.region 4 (Rg Try.f84.body 4) false) (.cond (.tmp 39) (.region 5 (Rg Try.f84.body 5) false) .skip)) (.seq (.region 6 (Rg Try.f84.body 6) false) .ret)))) .skip)) (.seq (.seq (.region 7 (Rg Try.f84.body 7) false) (.block 0 (.loop pick_L0))) (.seq (.region 13 (Rg Try.f84.body 13) false) .ret))))
theorem pick_code_def : pick_code = (.seq (.region 0 (Rg Try.f84.body 0) false) (.seq (.seq (.region 1 (Rg Try.f84.body 1) true) (.cond (.tmp 17) (.seq (.region 2 (Rg Try.f84.body 2) true) (.seq (.region 3 (Rg Try.f84.body 3) false) (.seq (.seq (.region 4 (Rg Try.f84.body 4) false) (.cond (.tmp 39) (.region 5 (Rg Try.f84.body 5) false) .skip)) (.seq (.region 6 (Rg Try.f84.body 6) false) .ret)))) .skip)) (.seq (.seq (.region 7 (Rg Try.f84.body 7) false) (.block 0 (.loop pick_L0))) (.seq (.region 13 (Rg Try.f84.body 13) false) .ret)))) := rfl
theorem pick_body : Try.f84.body = some pick_code := by kernel_rfl
theorem pick_fn : Try.prog.funcs[84]? = some Try.f84 := Try.func84
theorem pick_bd : Try.f84.body.isSome = true := by rw [pick_body]; rfl
theorem pick_nm : (Try.f84.name == "runtime.NumGoroutine") = false := by kernel_rfl
theorem pick_tmps : Try.f84.ntmps = 68 := by kernel_rfl
theorem pick_res : Try.f84.results = #[Go.ResultVar.tmp 4] := by kernel_rfl
theorem pick_0 : (Rg Try.f84.body 0).toList.map view = [(some 4, Op.assign (.const (.pointer none)), none)] := by kernel_rfl
theorem pick_1 : (Rg Try.f84.body 1).toList.map view = [(some 8, Op.move (.tmp 0), none), (some 9, Op.nilCheck (.tmp 8), none), (some 10, Op.fieldAddr 74 (.tmp 9) 1, none), (some 11, Op.load 3 (.tmp 10), none), (some 12, Op.move (.tmp 0), none), (some 13, Op.nilCheck (.tmp 12), none), (some 14, Op.fieldAddr 74 (.tmp 13) 0, none), (some 15, Op.load 35 (.tmp 14), none), (some 16, Op.call { callee := .builtin .len, args := #[.tmp 15], argTypes := #[35] }, none), (some 17, Op.binOp .lss 3 (.tmp 11) (.tmp 16) 3, none)] := by kernel_rfl
theorem pick_2 : (Rg Try.f84.body 2).toList.map view = [(some 18, Op.move (.tmp 0), none), (some 19, Op.nilCheck (.tmp 18), none), (some 20, Op.fieldAddr 74 (.tmp 19) 0, none), (some 21, Op.load 35 (.tmp 20), none), (some 22, Op.move (.tmp 0), none), (some 23, Op.nilCheck (.tmp 22), none), (some 24, Op.fieldAddr 74 (.tmp 23) 1, none), (some 25, Op.load 3 (.tmp 24), none), (some 26, Op.indexAddr 35 (.tmp 21) (.tmp 25), none), (some 27, Op.load 3 (.tmp 26), none), (some 28, Op.move (.tmp 1), none), (some 29, Op.call { callee := .builtin .len, args := #[.tmp 28], argTypes := #[72] }, none), (some 30, Op.binOp .rem 3 (.tmp 27) (.tmp 29) 3, none), (some 5, Op.assign (.tmp 30), none)] := by kernel_rfl
theorem pick_3 : (Rg Try.f84.body 3).toList.map view = [(some 31, Op.move (.tmp 0), none), (some 32, Op.nilCheck (.tmp 31), none), (some 33, Op.fieldAddr 74 (.tmp 32) 1, none), (some 34, Op.load 3 (.tmp 33), none), (some 35, Op.binOp .add 3 (.tmp 34) (.const (.int .i64 1)) 3, none), (some 36, Op.nilCheck (.tmp 31), none), (some 37, Op.fieldAddr 74 (.tmp 36) 1, none), (none, Op.store 3 (.tmp 37) (.tmp 35), none)] := by kernel_rfl
theorem pick_4 : (Rg Try.f84.body 4).toList.map view = [(some 38, Op.move (.tmp 5), none), (some 39, Op.binOp .lss 3 (.tmp 38) (.const (.int .i64 0)) 3, none)] := by kernel_rfl
theorem pick_5 : (Rg Try.f84.body 5).toList.map view = [(some 40, Op.move (.tmp 5), none), (some 41, Op.move (.tmp 1), none), (some 42, Op.call { callee := .builtin .len, args := #[.tmp 41], argTypes := #[72] }, none), (some 43, Op.binOp .add 3 (.tmp 40) (.tmp 42) 3, none), (some 5, Op.assign (.tmp 43), none)] := by kernel_rfl
theorem pick_6 : (Rg Try.f84.body 6).toList.map view = [(some 44, Op.move (.tmp 1), none), (some 45, Op.move (.tmp 5), none), (some 46, Op.indexAddr 72 (.tmp 44) (.tmp 45), none), (some 47, Op.load 41 (.tmp 46), none), (some 4, Op.assign (.tmp 47), none)] := by kernel_rfl
theorem pick_7 : (Rg Try.f84.body 7).toList.map view = [(some 48, Op.move (.tmp 1), none), (some 49, Op.call { callee := .builtin .len, args := #[.tmp 48], argTypes := #[72] }, none), (some 50, Op.move (.const (.int .i64 0)), none)] := by kernel_rfl
theorem pick_8 : (Rg Try.f84.body 8).toList.map view = [(some 51, Op.binOp .lss 3 (.tmp 50) (.tmp 49) 3, none)] := by kernel_rfl
theorem pick_9 : (Rg Try.f84.body 9).toList.map view = [(some 52, Op.indexAddr 72 (.tmp 48) (.tmp 50), none), (some 53, Op.load 41 (.tmp 52), none), (some 7, Op.assign (.tmp 53), none)] := by kernel_rfl
theorem pick_10 : (Rg Try.f84.body 10).toList.map view = [(some 54, Op.move (.tmp 7), none), (some 55, Op.nilCheck (.tmp 54), none), (some 56, Op.fieldAddr 76 (.tmp 55) 1, none), (some 57, Op.load 3 (.tmp 56), none), (some 58, Op.move (.tmp 0), none), (some 59, Op.nilCheck (.tmp 58), none), (some 60, Op.fieldAddr 74 (.tmp 59) 2, none), (some 61, Op.load 3 (.tmp 60), none), (some 62, Op.binOp .gtr 3 (.tmp 57) (.tmp 61) 3, none)] := by kernel_rfl
theorem pick_11 : (Rg Try.f84.body 11).toList.map view = [(some 63, Op.move (.tmp 7), none), (some 4, Op.assign (.tmp 63), none)] := by kernel_rfl
theorem pick_12 : (Rg Try.f84.body 12).toList.map view = [(some 64, Op.binOp .add 3 (.tmp 50) (.const (.int .i64 1)) 3, none), (some 50, Op.move (.tmp 64), none)] := by kernel_rfl
theorem pick_13 : (Rg Try.f84.body 13).toList.map view = [(some 65, Op.move (.tmp 1), none), (some 66, Op.indexAddr 72 (.tmp 65) (.const (.int .i64 0)), none), (some 67, Op.load 41 (.tmp 66), none), (some 4, Op.assign (.tmp 67), none)] := by kernel_rfl
noncomputable def tready_code : Code := (.seq (.region 0 (Rg Try.f83.body 0) false) (.seq (.region 1 (Rg Try.f83.body 1) true) .ret))
theorem tready_code_def : tready_code = (.seq (.region 0 (Rg Try.f83.body 0) false) (.seq (.region 1 (Rg Try.f83.body 1) true) .ret)) := rfl
theorem tready_body : Try.f83.body = some tready_code := by kernel_rfl
theorem tready_fn : Try.prog.funcs[83]? = some Try.f83 := Try.func83
theorem tready_bd : Try.f83.body.isSome = true := by rw [tready_body]; rfl
theorem tready_nm : (Try.f83.name == "runtime.NumGoroutine") = false := by kernel_rfl
theorem tready_tmps : Try.f83.ntmps = 40 := by kernel_rfl
theorem tready_res : Try.f83.results = #[Go.ResultVar.tmp 2] := by kernel_rfl
theorem tready_0 : (Rg Try.f83.body 0).toList.map view = [(some 2, Op.assign (.const (.bool false)), none)] := by kernel_rfl
theorem tready_1 : (Rg Try.f83.body 1).toList.map view = [(some 3, Op.move (.tmp 0), none), (some 4, Op.nilCheck (.tmp 3), none), (some 5, Op.fieldAddr 76 (.tmp 4) 3, none), (some 6, Op.load 3 (.tmp 5), none), (some 7, Op.binOp .eql 3 (.tmp 6) (.const (.int .i64 1)) 3, none), (some 8, Op.move (.tmp 7), none), (some 9, Op.move (.tmp 0), some (5, false)), (some 10, Op.nilCheck (.tmp 9), some (5, false)), (some 11, Op.fieldAddr 76 (.tmp 10) 3, some (5, false)), (some 12, Op.load 3 (.tmp 11), some (5, false)), (some 13, Op.binOp .eql 3 (.tmp 12) (.const (.int .i64 2)) 3, some (5, false)), (some 14, Op.move (.tmp 13), some (5, false)), (some 15, Op.move (.tmp 0), some (11, true)), (some 16, Op.nilCheck (.tmp 15), some (11, true)), (some 17, Op.fieldAddr 76 (.tmp 16) 0, some (11, true)), (some 18, Op.load 32 (.tmp 17), some (11, true)), (some 19, Op.nilCheck (.tmp 18), some (11, true)), (some 20, Op.fieldAddr 74 (.tmp 19) 6, some (11, true)), (some 21, Op.load 4 (.tmp 20), some (11, true)), (some 22, Op.move (.tmp 21), some (11, true)), (some 23, Op.move (.tmp 0), some (19, false)), (some 24, Op.nilCheck (.tmp 23), some (19, false)), (some 25, Op.fieldAddr 76 (.tmp 24) 0, some (19, false)), (some 26, Op.load 32 (.tmp 25), some (19, false)), (some 27, Op.move (.tmp 0), some (19, false)), (some 28, Op.nilCheck (.tmp 27), some (19, false)), (some 29, Op.fieldAddr 76 (.tmp 28) 4, some (19, false)), (some 30, Op.load 3 (.tmp 29), some (19, false)), (some 31, Op.call { callee := .value (.func 85), args := #[.tmp 26, .tmp 30], argTypes := #[32, 3] }, some (19, false)), (some 32, Op.move (.tmp 0), some (19, false)), (some 33, Op.nilCheck (.tmp 32), some (19, false)), (some 34, Op.fieldAddr 76 (.tmp 33) 6, some (19, false)), (some 35, Op.load 3 (.tmp 34), some (19, false)), (some 36, Op.binOp .neq 3 (.tmp 31) (.tmp 35) 3, some (19, false)), (some 37, Op.pick (.tmp 22) (.const (.bool true)) (.tmp 36), some (11, true)), (some 38, Op.pick (.tmp 14) (.tmp 37) (.const (.bool false)), some (5, false)), (some 39, Op.pick (.tmp 8) (.const (.bool true)) (.tmp 38), none), (some 2, Op.assign (.tmp 39), none)] := by kernel_rfl
noncomputable def PRun_L0 : Code := (.seq (.region 4 (Rg Try.f25.body 4) false) (.seq (.cond (.tmp 17) .skip (.exit 0)) (.seq (.block 1 (.seq (.region 5 (Rg Try.f25.body 5) false) (.region 6 (Rg Try.f25.body 6) false))) (.region 7 (Rg Try.f25.body 7) false))))
theorem PRun_L0_def : PRun_L0 = (.seq (.region 4 (Rg Try.f25.body 4) false) (.seq (.cond (.tmp 17) .skip (.exit 0)) (.seq (.block 1 (.seq (.region 5 (Rg Try.f25.body 5) false) (.region 6 (Rg Try.f25.body 6) false))) (.region 7 (Rg Try.f25.body 7) false)))) := rfl
noncomputable def PRun_code : Code := (.seq (.region 0 (Rg Try.f25.body 0) false) (.seq (.region 1 (Rg Try.f25.body 1) false) (.seq (.region 2 (Rg Try.f25.body 2) false) (.seq (.seq (.region 3 (Rg Try.f25.body 3) false) (.block 0 (.loop PRun_L0))) (.seq (.region 8 (Rg Try.f25.body 8) false) (.seq (.region 9 (Rg Try.f25.body 9) false) .ret))))))
theorem PRun_code_def : PRun_code = (.seq (.region 0 (Rg Try.f25.body 0) false) (.seq (.region 1 (Rg Try.f25.body 1) false) (.seq (.region 2 (Rg Try.f25.body 2) false) (.seq (.seq (.region 3 (Rg Try.f25.body 3) false) (.block 0 (.loop PRun_L0))) (.seq (.region 8 (Rg Try.f25.body 8) false) (.seq (.region 9 (Rg Try.f25.body 9) false) .ret)))))) := rfl
theorem PRun_body : Try.f25.body = some PRun_code := by kernel_rfl
theorem PRun_fn : Try.prog.funcs[25]? = some Try.f25 := Try.func25
theorem PRun_bd : Try.f25.body.isSome = true := by rw [PRun_body]; rfl
theorem PRun_nm : (Try.f25.name == "runtime.NumGoroutine") = false := by kernel_rfl
theorem PRun_tmps : Try.f25.ntmps = 30 := by kernel_rfl
theorem PRun_res : Try.f25.results = #[Go.ResultVar.tmp 6] := by kernel_rfl
theorem PRun_0 : (Rg Try.f25.body 0).toList.map view = [(some 5, Op.box 70 (.tmp 2), none), (some 6, Op.assign (.const (.slice none 0 0)), none)] := by kernel_rfl
theorem PRun_1 : (Rg Try.f25.body 1).toList.map view = [(some 11, Op.move (.tmp 1), none), (some 12, Op.call { callee := .builtin .len, args := #[.tmp 11], argTypes := #[26] }, none), (some 13, Op.makeSlice 29 (.tmp 12) (.tmp 12), none), (some 7, Op.alloc 29, none), (none, Op.store 29 (.tmp 7) (.tmp 13), none)] := by kernel_rfl
theorem PRun_2 : (Rg Try.f25.body 2).toList.map view = [(some 8, Op.assign (.const (.slice none 0 0)), none)] := by kernel_rfl
theorem PRun_3 : (Rg Try.f25.body 3).toList.map view = [(some 14, Op.move (.tmp 1), none), (some 15, Op.call { callee := .builtin .len, args := #[.tmp 14], argTypes := #[26] }, none), (some 16, Op.move (.const (.int .i64 0)), none)] := by kernel_rfl
theorem PRun_4 : (Rg Try.f25.body 4).toList.map view = [(some 17, Op.binOp .lss 3 (.tmp 16) (.tmp 15) 3, none)] := by kernel_rfl
theorem PRun_5 : (Rg Try.f25.body 5).toList.map view = [(some 18, Op.move (.tmp 16), none), (some 19, Op.indexAddr 26 (.tmp 14) (.tmp 16), none), (some 20, Op.load 25 (.tmp 19), none), (some 9, Op.alloc 3, none), (some 10, Op.alloc 25, none), (none, Op.store 3 (.tmp 9) (.tmp 18), none), (none, Op.store 25 (.tmp 10) (.tmp 20), none)] := by kernel_rfl
theorem PRun_6 : (Rg Try.f25.body 6).toList.map view = [(some 21, Op.move (.tmp 8), none), (some 22, Op.makeFunc (.func 37) #[] #[.tmp 10, .tmp 5, .tmp 7, .tmp 9], none), (some 23, Op.buildSlice 90 1 #[(0, .tmp 22)], none), (some 24, Op.call { callee := .builtin .append, args := #[.tmp 21, .tmp 23], argTypes := #[90, 90] }, none), (some 8, Op.assign (.tmp 24), none)] := by kernel_rfl
theorem PRun_7 : (Rg Try.f25.body 7).toList.map view = [(some 25, Op.binOp .add 3 (.tmp 16) (.const (.int .i64 1)) 3, none), (some 16, Op.move (.tmp 25), none)] := by kernel_rfl
theorem PRun_8 : (Rg Try.f25.body 8).toList.map view = [(some 26, Op.move (.tmp 0), none), (some 27, Op.move (.tmp 8), none), (some 28, Op.call { callee := .value (.func 39), args := #[.tmp 26, .tmp 27], argTypes := #[32, 90] }, none)] := by kernel_rfl
theorem PRun_9 : (Rg Try.f25.body 9).toList.map view = [(some 29, Op.load 29 (.tmp 7), none), (some 6, Op.assign (.tmp 29), none)] := by kernel_rfl
noncomputable def cellNew_code : Code := (.seq (.region 0 (Rg Try.f29.body 0) false) (.seq (.region 1 (Rg Try.f29.body 1) false) (.seq (.region 2 (Rg Try.f29.body 2) false) (.seq (.region 3 (Rg Try.f29.body 3) false) .ret))))
theorem cellNew_code_def : cellNew_code = (.seq (.region 0 (Rg Try.f29.body 0) false) (.seq (.region 1 (Rg Try.f29.body 1) false) (.seq (.region 2 (Rg Try.f29.body 2) false) (.seq (.region 3 (Rg Try.f29.body 3) false) .ret)))) := rfl
theorem cellNew_body : Try.f29.body = some cellNew_code := by kernel_rfl
theorem cellNew_fn : Try.prog.funcs[29]? = some Try.f29 := Try.func29
theorem cellNew_bd : Try.f29.body.isSome = true := by rw [cellNew_body]; rfl
theorem cellNew_nm : (Try.f29.name == "runtime.NumGoroutine") = false := by kernel_rfl
theorem cellNew_tmps : Try.f29.ntmps = 16 := by kernel_rfl
theorem cellNew_res : Try.f29.results = #[Go.ResultVar.tmp 4] := by kernel_rfl
theorem cellNew_0 : (Rg Try.f29.body 0).toList.map view = [(some 4, Op.assign (.const (.pointer none)), none)] := by kernel_rfl
theorem cellNew_1 : (Rg Try.f29.body 1).toList.map view = [(some 6, Op.move (.tmp 0), none), (some 7, Op.call { callee := .value (.func 40), args := #[.tmp 6], argTypes := #[32] }, none), (some 8, Op.build 100 #[(0, .tmp 7)], none), (some 9, Op.box 100 (.tmp 8), none), (some 5, Op.assign (.tmp 9), none)] := by kernel_rfl
theorem cellNew_2 : (Rg Try.f29.body 2).toList.map view = [(some 10, Op.move (.tmp 5), none), (some 11, Op.nilCheck (.tmp 10), none), (some 12, Op.fieldAddr 100 (.tmp 11) 1, none), (some 13, Op.move (.tmp 1), none), (some 14, Op.call { callee := .value (.func 41), args := #[.tmp 12, .tmp 13], argTypes := #[98, 2] }, none)] := by kernel_rfl
theorem cellNew_3 : (Rg Try.f29.body 3).toList.map view = [(some 15, Op.move (.tmp 5), none), (some 4, Op.assign (.tmp 15), none)] := by kernel_rfl
noncomputable def wCell_code : Code := (.seq (.region 0 (Rg Try.f40.body 0) false) (.seq (.seq (.region 1 (Rg Try.f40.body 1) false) (.cond (.tmp 4) (.seq (.region 2 (Rg Try.f40.body 2) false) .ret) .skip)) (.seq (.region 3 (Rg Try.f40.body 3) false) (.seq (.region 4 (Rg Try.f40.body 4) false) .ret))))
theorem wCell_code_def : wCell_code = (.seq (.region 0 (Rg Try.f40.body 0) false) (.seq (.seq (.region 1 (Rg Try.f40.body 1) false) (.cond (.tmp 4) (.seq (.region 2 (Rg Try.f40.body 2) false) .ret) .skip)) (.seq (.region 3 (Rg Try.f40.body 3) false) (.seq (.region 4 (Rg Try.f40.body 4) false) .ret)))) := rfl
theorem wCell_body : Try.f40.body = some wCell_code := by kernel_rfl
theorem wCell_fn : Try.prog.funcs[40]? = some Try.f40 := Try.func40
theorem wCell_bd : Try.f40.body.isSome = true := by rw [wCell_body]; rfl
theorem wCell_nm : (Try.f40.name == "runtime.NumGoroutine") = false := by kernel_rfl
theorem wCell_tmps : Try.f40.ntmps = 20 := by kernel_rfl
theorem wCell_res : Try.f40.results = #[Go.ResultVar.tmp 2] := by kernel_rfl
theorem wCell_0 : (Rg Try.f40.body 0).toList.map view = [(some 2, Op.assign (.const (.int .i64 0)), none)] := by kernel_rfl
theorem wCell_1 : (Rg Try.f40.body 1).toList.map view = [(some 3, Op.move (.tmp 0), none), (some 4, Op.binOp .eql 32 (.tmp 3) (.const (.pointer none)) 32, none)] := by kernel_rfl
theorem wCell_2 : (Rg Try.f40.body 2).toList.map view = [(some 2, Op.assign (.const (.int .i64 0)), none)] := by kernel_rfl
theorem wCell_3 : (Rg Try.f40.body 3).toList.map view = [(some 5, Op.move (.tmp 0), none), (some 6, Op.move (.tmp 0), none), (some 7, Op.nilCheck (.tmp 6), none), (some 8, Op.fieldAddr 74 (.tmp 7) 3, none), (some 9, Op.load 35 (.tmp 8), none), (some 10, Op.buildSlice 35 1 #[(0, .const (.int .i64 0))], none), (some 11, Op.call { callee := .builtin .append, args := #[.tmp 9, .tmp 10], argTypes := #[35, 35] }, none), (some 12, Op.nilCheck (.tmp 5), none), (some 13, Op.fieldAddr 74 (.tmp 12) 3, none), (none, Op.store 35 (.tmp 13) (.tmp 11), none)] := by kernel_rfl
theorem wCell_4 : (Rg Try.f40.body 4).toList.map view = [(some 14, Op.move (.tmp 0), none), (some 15, Op.nilCheck (.tmp 14), none), (some 16, Op.fieldAddr 74 (.tmp 15) 3, none), (some 17, Op.load 35 (.tmp 16), none), (some 18, Op.call { callee := .builtin .len, args := #[.tmp 17], argTypes := #[35] }, none), (some 19, Op.binOp .sub 3 (.tmp 18) (.const (.int .i64 1)) 3, none), (some 2, Op.assign (.tmp 19), none)] := by kernel_rfl
noncomputable def wNew_code : Code := (.seq (.region 0 (Rg Try.f12.body 0) false) (.seq (.region 1 (Rg Try.f12.body 1) true) .ret))
theorem wNew_code_def : wNew_code = (.seq (.region 0 (Rg Try.f12.body 0) false) (.seq (.region 1 (Rg Try.f12.body 1) true) .ret)) := rfl
theorem wNew_body : Try.f12.body = some wNew_code := by kernel_rfl
theorem wNew_fn : Try.prog.funcs[12]? = some Try.f12 := Try.func12
theorem wNew_bd : Try.f12.body.isSome = true := by rw [wNew_body]; rfl
theorem wNew_nm : (Try.f12.name == "runtime.NumGoroutine") = false := by kernel_rfl
theorem wNew_tmps : Try.f12.ntmps = 8 := by kernel_rfl
theorem wNew_res : Try.f12.results = #[Go.ResultVar.tmp 2] := by kernel_rfl
theorem wNew_0 : (Rg Try.f12.body 0).toList.map view = [(some 2, Op.assign (.const (.pointer none)), none)] := by kernel_rfl
theorem wNew_1 : (Rg Try.f12.body 1).toList.map view = [(some 3, Op.move (.tmp 0), none), (some 4, Op.call { callee := .builtin .append, args := #[.const (.slice none 0 0), .tmp 3], argTypes := #[35, 35] }, none), (some 5, Op.makeChan 71 (.const (.int .i64 0)), none), (some 6, Op.build 74 #[(0, .tmp 4), (2, .const (.int .i64 (-1))), (8, .tmp 5)], none), (some 7, Op.box 74 (.tmp 6), none), (some 2, Op.assign (.tmp 7), none)] := by kernel_rfl
noncomputable def wGet_L0 : Code := (.seq (.region 5 (Rg Try.f31.body 5) false) (.seq (.cond (.tmp 13) .skip (.exit 0)) (.seq (.block 1 (.seq (.region 6 (Rg Try.f31.body 6) false) (.seq (.region 7 (Rg Try.f31.body 7) false) (.cond (.tmp 23) (.region 8 (Rg Try.f31.body 8) false) .skip)))) (.region 9 (Rg Try.f31.body 9) false))))
theorem wGet_L0_def : wGet_L0 = (.seq (.region 5 (Rg Try.f31.body 5) false) (.seq (.cond (.tmp 13) .skip (.exit 0)) (.seq (.block 1 (.seq (.region 6 (Rg Try.f31.body 6) false) (.seq (.region 7 (Rg Try.f31.body 7) false) (.cond (.tmp 23) (.region 8 (Rg Try.f31.body 8) false) .skip)))) (.region 9 (Rg Try.f31.body 9) false)))) := rfl
noncomputable def wGet_code : Code := (.seq (.region 0 (Rg Try.f31.body 0) false) (.seq (.seq (.region 1 (Rg Try.f31.body 1) false) (.cond (.tmp 9) (.seq (.region 2 (Rg Try.f31.body 2) false) .ret) .skip)) (.seq (.region 3 (Rg Try.f31.body 3) false) (.seq (.seq (.region 4 (Rg Try.f31.body 4) false) (.block 0 (.loop wGet_L0))) (.seq (.region 10 (Rg Try.f31.body 10) false) .ret)))))
theorem wGet_code_def : wGet_code = (.seq (.region 0 (Rg Try.f31.body 0) false) (.seq (.seq (.region 1 (Rg Try.f31.body 1) false) (.cond (.tmp 9) (.seq (.region 2 (Rg Try.f31.body 2) false) .ret) .skip)) (.seq (.region 3 (Rg Try.f31.body 3) false) (.seq (.seq (.region 4 (Rg Try.f31.body 4) false) (.block 0 (.loop wGet_L0))) (.seq (.region 10 (Rg Try.f31.body 10) false) .ret))))) := rfl
theorem wGet_body : Try.f31.body = some wGet_code := by kernel_rfl
theorem wGet_fn : Try.prog.funcs[31]? = some Try.f31 := Try.func31
theorem wGet_bd : Try.f31.body.isSome = true := by rw [wGet_body]; rfl
theorem wGet_nm : (Try.f31.name == "runtime.NumGoroutine") = false := by kernel_rfl
theorem wGet_tmps : Try.f31.ntmps = 30 := by kernel_rfl
theorem wGet_res : Try.f31.results = #[Go.ResultVar.tmp 4] := by kernel_rfl
theorem wGet_0 : (Rg Try.f31.body 0).toList.map view = [(some 3, Op.box 85 (.tmp 1), none), (some 4, Op.assign (.const (.int .i64 0)), none)] := by kernel_rfl
theorem wGet_1 : (Rg Try.f31.body 1).toList.map view = [(some 7, Op.load 85 (.tmp 3), none), (some 8, Op.call { callee := .value (.func 45), args := #[.tmp 7], argTypes := #[85] }, none), (some 9, Op.unOp .not 4 (.tmp 8), none)] := by kernel_rfl
theorem wGet_3 : (Rg Try.f31.body 3).toList.map view = [(some 5, Op.assign (.const (.int .i64 0)), none)] := by kernel_rfl
theorem wGet_4 : (Rg Try.f31.body 4).toList.map view = [(some 10, Op.fieldAddr 85 (.tmp 3) 1, none), (some 11, Op.load 3 (.tmp 10), none), (some 12, Op.move (.const (.int .i64 0)), none)] := by kernel_rfl
theorem wGet_5 : (Rg Try.f31.body 5).toList.map view = [(some 13, Op.binOp .lss 3 (.tmp 12) (.tmp 11) 3, none)] := by kernel_rfl
theorem wGet_6 : (Rg Try.f31.body 6).toList.map view = [(some 14, Op.move (.tmp 12), none), (some 6, Op.assign (.tmp 14), none)] := by kernel_rfl
theorem wGet_7 : (Rg Try.f31.body 7).toList.map view = [(some 15, Op.move (.tmp 0), none), (some 16, Op.convert 3 105 (.tmp 15), none), (some 17, Op.fieldAddr 85 (.tmp 3) 0, none), (some 18, Op.load 3 (.tmp 17), none), (some 19, Op.move (.tmp 6), none), (some 20, Op.binOp .add 3 (.tmp 18) (.tmp 19) 3, none), (some 21, Op.binOp .shr 105 (.tmp 16) (.tmp 20) 3, none), (some 22, Op.binOp .and 105 (.tmp 21) (.const (.int .u64 1)) 105, none), (some 23, Op.binOp .eql 105 (.tmp 22) (.const (.int .u64 1)) 105, none)] := by kernel_rfl
theorem wGet_8 : (Rg Try.f31.body 8).toList.map view = [(some 24, Op.move (.tmp 5), none), (some 25, Op.move (.tmp 6), none), (some 26, Op.binOp .shl 3 (.const (.int .i64 1)) (.tmp 25) 3, none), (some 27, Op.binOp .or 3 (.tmp 24) (.tmp 26) 3, none), (some 5, Op.assign (.tmp 27), none)] := by kernel_rfl
theorem wGet_9 : (Rg Try.f31.body 9).toList.map view = [(some 28, Op.binOp .add 3 (.tmp 12) (.const (.int .i64 1)) 3, none), (some 12, Op.move (.tmp 28), none)] := by kernel_rfl
theorem wGet_10 : (Rg Try.f31.body 10).toList.map view = [(some 29, Op.move (.tmp 5), none), (some 4, Op.assign (.tmp 29), none)] := by kernel_rfl
noncomputable def wPut_L0 : Code := (.seq (.region 5 (Rg Try.f48.body 5) false) (.seq (.cond (.tmp 30) .skip (.exit 0)) (.seq (.block 1 (.seq (.region 6 (Rg Try.f48.body 6) false) (.seq (.region 7 (Rg Try.f48.body 7) false) (.seq (.region 8 (Rg Try.f48.body 8) false) (.seq (.region 9 (Rg Try.f48.body 9) false) (.cond (.tmp 44) (.region 10 (Rg Try.f48.body 10) false) .skip)))))) (.region 11 (Rg Try.f48.body 11) false))))
theorem wPut_L0_def : wPut_L0 = (.seq (.region 5 (Rg Try.f48.body 5) false) (.seq (.cond (.tmp 30) .skip (.exit 0)) (.seq (.block 1 (.seq (.region 6 (Rg Try.f48.body 6) false) (.seq (.region 7 (Rg Try.f48.body 7) false) (.seq (.region 8 (Rg Try.f48.body 8) false) (.seq (.region 9 (Rg Try.f48.body 9) false) (.cond (.tmp 44) (.region 10 (Rg Try.f48.body 10) false) .skip)))))) (.region 11 (Rg Try.f48.body 11) false)))) := rfl
noncomputable def wPut_code : Code := (.seq (.region 0 (Rg Try.f48.body 0) false) (.seq (.seq (.region 1 (Rg Try.f48.body 1) false) (.cond (.tmp 24) (.seq (.region 2 (Rg Try.f48.body 2) false) .ret) .skip)) (.seq (.region 3 (Rg Try.f48.body 3) false) (.seq (.seq (.region 4 (Rg Try.f48.body 4) false) (.block 0 (.loop wPut_L0))) (.seq (.region 12 (Rg Try.f48.body 12) false) .ret)))))
theorem wPut_code_def : wPut_code = (.seq (.region 0 (Rg Try.f48.body 0) false) (.seq (.seq (.region 1 (Rg Try.f48.body 1) false) (.cond (.tmp 24) (.seq (.region 2 (Rg Try.f48.body 2) false) .ret) .skip)) (.seq (.region 3 (Rg Try.f48.body 3) false) (.seq (.seq (.region 4 (Rg Try.f48.body 4) false) (.block 0 (.loop wPut_L0))) (.seq (.region 12 (Rg Try.f48.body 12) false) .ret))))) := rfl
theorem wPut_body : Try.f48.body = some wPut_code := by kernel_rfl
theorem wPut_fn : Try.prog.funcs[48]? = some Try.f48 := Try.func48
theorem wPut_bd : Try.f48.body.isSome = true := by rw [wPut_body]; rfl
theorem wPut_nm : (Try.f48.name == "runtime.NumGoroutine") = false := by kernel_rfl
theorem wPut_tmps : Try.f48.ntmps = 51 := by kernel_rfl
theorem wPut_res : Try.f48.results = #[Go.ResultVar.tmp 6, Go.ResultVar.tmp 7] := by kernel_rfl
theorem wPut_0 : (Rg Try.f48.body 0).toList.map view = [(some 4, Op.box 85 (.tmp 1), none), (some 6, Op.assign (.const (.int .i64 0)), none), (some 7, Op.assign (.const (.int .i64 0)), none)] := by kernel_rfl
theorem wPut_1 : (Rg Try.f48.body 1).toList.map view = [(some 11, Op.load 85 (.tmp 4), none), (some 12, Op.call { callee := .value (.func 45), args := #[.tmp 11], argTypes := #[85] }, none), (some 13, Op.unOp .not 4 (.tmp 12), none), (some 14, Op.move (.tmp 13), none), (some 15, Op.move (.tmp 2), some (3, false)), (some 16, Op.binOp .lss 3 (.tmp 15) (.const (.int .i64 0)) 3, some (3, false)), (some 17, Op.pick (.tmp 14) (.const (.bool true)) (.tmp 16), none), (some 18, Op.move (.tmp 17), none), (some 19, Op.move (.tmp 2), some (7, false)), (some 20, Op.fieldAddr 85 (.tmp 4) 1, some (7, false)), (some 21, Op.load 3 (.tmp 20), some (7, false)), (some 22, Op.binOp .shr 3 (.tmp 19) (.tmp 21) 3, some (7, false)), (some 23, Op.binOp .neq 3 (.tmp 22) (.const (.int .i64 0)) 3, some (7, false)), (some 24, Op.pick (.tmp 18) (.const (.bool true)) (.tmp 23), none)] := by kernel_rfl
theorem wPut_3 : (Rg Try.f48.body 3).toList.map view = [(some 25, Op.move (.tmp 0), none), (some 26, Op.convert 3 105 (.tmp 25), none), (some 8, Op.assign (.tmp 26), none)] := by kernel_rfl
theorem wPut_4 : (Rg Try.f48.body 4).toList.map view = [(some 27, Op.fieldAddr 85 (.tmp 4) 1, none), (some 28, Op.load 3 (.tmp 27), none), (some 29, Op.move (.const (.int .i64 0)), none)] := by kernel_rfl
theorem wPut_5 : (Rg Try.f48.body 5).toList.map view = [(some 30, Op.binOp .lss 3 (.tmp 29) (.tmp 28) 3, none)] := by kernel_rfl
theorem wPut_6 : (Rg Try.f48.body 6).toList.map view = [(some 31, Op.move (.tmp 29), none), (some 9, Op.assign (.tmp 31), none)] := by kernel_rfl
theorem wPut_7 : (Rg Try.f48.body 7).toList.map view = [(some 32, Op.fieldAddr 85 (.tmp 4) 0, none), (some 33, Op.load 3 (.tmp 32), none), (some 34, Op.move (.tmp 9), none), (some 35, Op.binOp .add 3 (.tmp 33) (.tmp 34) 3, none), (some 36, Op.binOp .shl 105 (.const (.int .u64 1)) (.tmp 35) 3, none), (some 10, Op.assign (.tmp 36), none)] := by kernel_rfl
theorem wPut_8 : (Rg Try.f48.body 8).toList.map view = [(some 37, Op.move (.tmp 8), none), (some 38, Op.move (.tmp 10), none), (some 39, Op.binOp .andNot 105 (.tmp 37) (.tmp 38) 105, none), (some 8, Op.assign (.tmp 39), none)] := by kernel_rfl
theorem wPut_9 : (Rg Try.f48.body 9).toList.map view = [(some 40, Op.move (.tmp 2), none), (some 41, Op.move (.tmp 9), none), (some 42, Op.binOp .shr 3 (.tmp 40) (.tmp 41) 3, none), (some 43, Op.binOp .and 3 (.tmp 42) (.const (.int .i64 1)) 3, none), (some 44, Op.binOp .eql 3 (.tmp 43) (.const (.int .i64 1)) 3, none)] := by kernel_rfl
theorem wPut_10 : (Rg Try.f48.body 10).toList.map view = [(some 45, Op.move (.tmp 8), none), (some 46, Op.move (.tmp 10), none), (some 47, Op.binOp .or 105 (.tmp 45) (.tmp 46) 105, none), (some 8, Op.assign (.tmp 47), none)] := by kernel_rfl
theorem wPut_11 : (Rg Try.f48.body 11).toList.map view = [(some 48, Op.binOp .add 3 (.tmp 29) (.const (.int .i64 1)) 3, none), (some 29, Op.move (.tmp 48), none)] := by kernel_rfl
theorem wPut_12 : (Rg Try.f48.body 12).toList.map view = [(some 49, Op.move (.tmp 8), none), (some 50, Op.convert 105 3 (.tmp 49), none), (some 6, Op.assign (.tmp 50), none), (some 7, Op.assign (.const (.int .i64 0)), none)] := by kernel_rfl
noncomputable def wmay_code : Code := (.seq (.region 0 (Rg Try.f45.body 0) false) (.seq (.region 1 (Rg Try.f45.body 1) false) .ret))
theorem wmay_code_def : wmay_code = (.seq (.region 0 (Rg Try.f45.body 0) false) (.seq (.region 1 (Rg Try.f45.body 1) false) .ret)) := rfl
theorem wmay_body : Try.f45.body = some wmay_code := by kernel_rfl
theorem wmay_fn : Try.prog.funcs[45]? = some Try.f45 := Try.func45
theorem wmay_bd : Try.f45.body.isSome = true := by rw [wmay_body]; rfl
theorem wmay_nm : (Try.f45.name == "runtime.NumGoroutine") = false := by kernel_rfl
theorem wmay_tmps : Try.f45.ntmps = 24 := by kernel_rfl
theorem wmay_res : Try.f45.results = #[Go.ResultVar.tmp 2] := by kernel_rfl
theorem wmay_0 : (Rg Try.f45.body 0).toList.map view = [(some 1, Op.box 85 (.tmp 0), none), (some 2, Op.assign (.const (.bool false)), none)] := by kernel_rfl
theorem wmay_1 : (Rg Try.f45.body 1).toList.map view = [(some 3, Op.fieldAddr 85 (.tmp 1) 0, none), (some 4, Op.load 3 (.tmp 3), none), (some 5, Op.binOp .geq 3 (.tmp 4) (.const (.int .i64 0)) 3, none), (some 6, Op.move (.tmp 5), none), (some 7, Op.fieldAddr 85 (.tmp 1) 1, some (3, true)), (some 8, Op.load 3 (.tmp 7), some (3, true)), (some 9, Op.binOp .geq 3 (.tmp 8) (.const (.int .i64 1)) 3, some (3, true)), (some 10, Op.pick (.tmp 6) (.tmp 9) (.const (.bool false)), none), (some 11, Op.move (.tmp 10), none), (some 12, Op.fieldAddr 85 (.tmp 1) 1, some (8, true)), (some 13, Op.load 3 (.tmp 12), some (8, true)), (some 14, Op.binOp .leq 3 (.tmp 13) (.const (.int .i64 62)) 3, some (8, true)), (some 15, Op.pick (.tmp 11) (.tmp 14) (.const (.bool false)), none), (some 16, Op.move (.tmp 15), none), (some 17, Op.fieldAddr 85 (.tmp 1) 0, some (13, true)), (some 18, Op.load 3 (.tmp 17), some (13, true)), (some 19, Op.fieldAddr 85 (.tmp 1) 1, some (13, true)), (some 20, Op.load 3 (.tmp 19), some (13, true)), (some 21, Op.binOp .sub 3 (.const (.int .i64 64)) (.tmp 20) 3, some (13, true)), (some 22, Op.binOp .leq 3 (.tmp 18) (.tmp 21) 3, some (13, true)), (some 23, Op.pick (.tmp 16) (.tmp 22) (.const (.bool false)), none), (some 2, Op.assign (.tmp 23), none)] := by kernel_rfl
noncomputable def Id_code : Code := (.seq (.region 0 (Rg Try.f28.body 0) false) (.seq (.region 1 (Rg Try.f28.body 1) false) .ret))
theorem Id_code_def : Id_code = (.seq (.region 0 (Rg Try.f28.body 0) false) (.seq (.region 1 (Rg Try.f28.body 1) false) .ret)) := rfl
theorem Id_body : Try.f28.body = some Id_code := by kernel_rfl
theorem Id_fn : Try.prog.funcs[28]? = some Try.f28 := Try.func28
theorem Id_bd : Try.f28.body.isSome = true := by rw [Id_body]; rfl
theorem Id_nm : (Try.f28.name == "runtime.NumGoroutine") = false := by kernel_rfl
theorem Id_tmps : Try.f28.ntmps = 7 := by kernel_rfl
theorem Id_res : Try.f28.results = #[Go.ResultVar.tmp 2] := by kernel_rfl
theorem Id_0 : (Rg Try.f28.body 0).toList.map view = [(some 2, Op.assign (.const (.int .i64 0)), none)] := by kernel_rfl
theorem Id_1 : (Rg Try.f28.body 1).toList.map view = [(some 3, Op.move (.tmp 0), none), (some 4, Op.nilCheck (.tmp 3), none), (some 5, Op.fieldAddr 76 (.tmp 4) 1, none), (some 6, Op.load 3 (.tmp 5), none), (some 2, Op.assign (.tmp 6), none)] := by kernel_rfl
noncomputable def May_L0 : Code := (.seq (.region 2 (Rg Try.f24.body 2) false) (.seq (.cond (.tmp 12) .skip (.exit 0)) (.seq (.block 1 (.seq (.region 3 (Rg Try.f24.body 3) false) (.seq (.region 4 (Rg Try.f24.body 4) false) (.cond (.tmp 17) (.seq (.region 5 (Rg Try.f24.body 5) false) .ret) .skip)))) (.region 6 (Rg Try.f24.body 6) false))))
theorem May_L0_def : May_L0 = (.seq (.region 2 (Rg Try.f24.body 2) false) (.seq (.cond (.tmp 12) .skip (.exit 0)) (.seq (.block 1 (.seq (.region 3 (Rg Try.f24.body 3) false) (.seq (.region 4 (Rg Try.f24.body 4) false) (.cond (.tmp 17) (.seq (.region 5 (Rg Try.f24.body 5) false) .ret) .skip)))) (.region 6 (Rg Try.f24.body 6) false)))) := rfl
noncomputable def May_code : Code := (.seq (.region 0 (Rg Try.f24.body 0) false) (.seq (.seq (.region 1 (Rg Try.f24.body 1) false) (.block 0 (.loop May_L0))) (.seq (.seq (.region 7 (Rg Try.f24.body 7) false) (.cond (.tmp 42) (.seq (.region 8 (Rg Try.f24.body 8) false) .ret) .skip)) (.seq (.region 9 (Rg Try.f24.body 9) false) .ret))))
theorem May_code_def : May_code = (.seq (.region 0 (Rg Try.f24.body 0) false) (.seq (.seq (.region 1 (Rg Try.f24.body 1) false) (.block 0 (.loop May_L0))) (.seq (.seq (.region 7 (Rg Try.f24.body 7) false) (.cond (.tmp 42) (.seq (.region 8 (Rg Try.f24.body 8) false) .ret) .skip)) (.seq (.region 9 (Rg Try.f24.body 9) false) .ret)))) := rfl
theorem May_body : Try.f24.body = some May_code := by kernel_rfl
theorem May_fn : Try.prog.funcs[24]? = some Try.f24 := Try.func24
theorem May_bd : Try.f24.body.isSome = true := by rw [May_body]; rfl
theorem May_nm : (Try.f24.name == "runtime.NumGoroutine") = false := by kernel_rfl
theorem May_tmps : Try.f24.ntmps = 43 := by kernel_rfl
theorem May_res : Try.f24.results = #[Go.ResultVar.tmp 6] := by kernel_rfl
theorem May_0 : (Rg Try.f24.body 0).toList.map view = [(some 6, Op.assign (.const (.int .i64 0)), none)] := by kernel_rfl
theorem May_1 : (Rg Try.f24.body 1).toList.map view = [(some 9, Op.move (.tmp 1), none), (some 10, Op.call { callee := .builtin .len, args := #[.tmp 9], argTypes := #[26] }, none), (some 11, Op.move (.const (.int .i64 0)), none)] := by kernel_rfl
theorem May_2 : (Rg Try.f24.body 2).toList.map view = [(some 12, Op.binOp .lss 3 (.tmp 11) (.tmp 10) 3, none)] := by kernel_rfl
theorem May_3 : (Rg Try.f24.body 3).toList.map view = [(some 13, Op.indexAddr 26 (.tmp 9) (.tmp 11), none), (some 14, Op.load 25 (.tmp 13), none), (some 8, Op.assign (.tmp 14), none)] := by kernel_rfl
theorem May_4 : (Rg Try.f24.body 4).toList.map view = [(some 15, Op.move (.tmp 8), none), (some 16, Op.call { callee := .builtin .len, args := #[.tmp 15], argTypes := #[25] }, none), (some 17, Op.binOp .gtr 3 (.tmp 16) (.const (.int .i64 64)) 3, none)] := by kernel_rfl
theorem May_5 : (Rg Try.f24.body 5).toList.map view = [(some 6, Op.assign (.const (.int .i64 2)), none)] := by kernel_rfl
theorem May_6 : (Rg Try.f24.body 6).toList.map view = [(some 18, Op.binOp .add 3 (.tmp 11) (.const (.int .i64 1)) 3, none), (some 11, Op.move (.tmp 18), none)] := by kernel_rfl
theorem May_7 : (Rg Try.f24.body 7).toList.map view = [(some 19, Op.move (.tmp 1), none), (some 20, Op.call { callee := .builtin .len, args := #[.tmp 19], argTypes := #[26] }, none), (some 21, Op.binOp .lss 3 (.tmp 20) (.const (.int .i64 1)) 3, none), (some 22, Op.move (.tmp 21), none), (some 23, Op.move (.tmp 1), some (3, false)), (some 24, Op.call { callee := .builtin .len, args := #[.tmp 23], argTypes := #[26] }, some (3, false)), (some 25, Op.binOp .gtr 3 (.tmp 24) (.const (.int .i64 8)) 3, some (3, false)), (some 26, Op.pick (.tmp 22) (.const (.bool true)) (.tmp 25), none), (some 27, Op.move (.tmp 26), none), (some 28, Op.move (.tmp 0), some (8, false)), (some 29, Op.binOp .eql 32 (.tmp 28) (.const (.pointer none)) 32, some (8, false)), (some 30, Op.move (.tmp 29), some (8, false)), (some 31, Op.move (.tmp 2), some (11, true)), (some 32, Op.unOp .not 4 (.tmp 31), some (11, true)), (some 33, Op.pick (.tmp 30) (.tmp 32) (.const (.bool false)), some (8, false)), (some 34, Op.pick (.tmp 27) (.const (.bool true)) (.tmp 33), none), (some 35, Op.move (.tmp 34), none), (some 36, Op.move (.tmp 0), some (16, false)), (some 37, Op.binOp .neq 32 (.tmp 36) (.const (.pointer none)) 32, some (16, false)), (some 38, Op.move (.tmp 37), some (16, false)), (some 39, Op.move (.tmp 0), some (19, true)), (some 40, Op.call { callee := .value (.func 36), args := #[.tmp 39], argTypes := #[32] }, some (19, true)), (some 41, Op.pick (.tmp 38) (.tmp 40) (.const (.bool false)), some (16, false)), (some 42, Op.pick (.tmp 35) (.const (.bool true)) (.tmp 41), none)] := by kernel_rfl
theorem May_8 : (Rg Try.f24.body 8).toList.map view = [(some 6, Op.assign (.const (.int .i64 1)), none)] := by kernel_rfl
theorem May_9 : (Rg Try.f24.body 9).toList.map view = [(some 6, Op.assign (.const (.int .i64 0)), none)] := by kernel_rfl
noncomputable def Ran_code : Code := (.seq (.region 0 (Rg Try.f36.body 0) false) (.seq (.region 1 (Rg Try.f36.body 1) false) .ret))
theorem Ran_code_def : Ran_code = (.seq (.region 0 (Rg Try.f36.body 0) false) (.seq (.region 1 (Rg Try.f36.body 1) false) .ret)) := rfl
theorem Ran_body : Try.f36.body = some Ran_code := by kernel_rfl
theorem Ran_fn : Try.prog.funcs[36]? = some Try.f36 := Try.func36
theorem Ran_bd : Try.f36.body.isSome = true := by rw [Ran_body]; rfl
theorem Ran_nm : (Try.f36.name == "runtime.NumGoroutine") = false := by kernel_rfl
theorem Ran_tmps : Try.f36.ntmps = 11 := by kernel_rfl
theorem Ran_res : Try.f36.results = #[Go.ResultVar.tmp 2] := by kernel_rfl
theorem Ran_0 : (Rg Try.f36.body 0).toList.map view = [(some 2, Op.assign (.const (.bool false)), none)] := by kernel_rfl
theorem Ran_1 : (Rg Try.f36.body 1).toList.map view = [(some 3, Op.move (.tmp 0), none), (some 4, Op.binOp .neq 32 (.tmp 3) (.const (.pointer none)) 32, none), (some 5, Op.move (.tmp 4), none), (some 6, Op.move (.tmp 0), some (2, true)), (some 7, Op.nilCheck (.tmp 6), some (2, true)), (some 8, Op.fieldAddr 74 (.tmp 7) 7, some (2, true)), (some 9, Op.load 4 (.tmp 8), some (2, true)), (some 10, Op.pick (.tmp 5) (.tmp 9) (.const (.bool false)), none), (some 2, Op.assign (.tmp 10), none)] := by kernel_rfl
noncomputable def Free_code : Code := (.seq (.region 0 (Rg Try.f13.body 0) false) (.seq (.region 1 (Rg Try.f13.body 1) false) .ret))
theorem Free_code_def : Free_code = (.seq (.region 0 (Rg Try.f13.body 0) false) (.seq (.region 1 (Rg Try.f13.body 1) false) .ret)) := rfl
theorem Free_body : Try.f13.body = some Free_code := by kernel_rfl
theorem Free_fn : Try.prog.funcs[13]? = some Try.f13 := Try.func13
theorem Free_bd : Try.f13.body.isSome = true := by rw [Free_body]; rfl
theorem Free_nm : (Try.f13.name == "runtime.NumGoroutine") = false := by kernel_rfl
theorem Free_tmps : Try.f13.ntmps = 6 := by kernel_rfl
theorem Free_res : Try.f13.results = #[Go.ResultVar.tmp 2] := by kernel_rfl
theorem Free_0 : (Rg Try.f13.body 0).toList.map view = [(some 2, Op.assign (.const (.pointer none)), none)] := by kernel_rfl
theorem Free_1 : (Rg Try.f13.body 1).toList.map view = [(some 3, Op.move (.tmp 0), none), (some 4, Op.build 76 #[(1, .tmp 3)], none), (some 5, Op.box 76 (.tmp 4), none), (some 2, Op.assign (.tmp 5), none)] := by kernel_rfl
noncomputable def CStore_code : Code := (.seq (.region 0 (Rg Try.f35.body 0) false) (.region 1 (Rg Try.f35.body 1) false))
theorem CStore_code_def : CStore_code = (.seq (.region 0 (Rg Try.f35.body 0) false) (.region 1 (Rg Try.f35.body 1) false)) := rfl
theorem CStore_body : Try.f35.body = some CStore_code := by kernel_rfl
theorem CStore_fn : Try.prog.funcs[35]? = some Try.f35 := Try.func35
theorem CStore_bd : Try.f35.body.isSome = true := by rw [CStore_body]; rfl
theorem CStore_nm : (Try.f35.name == "runtime.NumGoroutine") = false := by kernel_rfl
theorem CStore_tmps : Try.f35.ntmps = 20 := by kernel_rfl
theorem CStore_res : Try.f35.results = #[] := by kernel_rfl
theorem CStore_0 : (Rg Try.f35.body 0).toList.map view = [(some 6, Op.move (.tmp 1), none), (some 7, Op.move (.tmp 0), none), (some 8, Op.nilCheck (.tmp 7), none), (some 9, Op.fieldAddr 100 (.tmp 8) 0, none), (some 10, Op.load 3 (.tmp 9), none), (some 11, Op.call { callee := .value (.func 42), args := #[.tmp 6, .tmp 10, .const (.int .i64 2)], argTypes := #[41, 3, 3] }, none)] := by kernel_rfl
theorem CStore_1 : (Rg Try.f35.body 1).toList.map view = [(some 12, Op.move (.tmp 1), none), (some 13, Op.move (.tmp 0), none), (some 14, Op.nilCheck (.tmp 13), none), (some 15, Op.fieldAddr 100 (.tmp 14) 1, none), (some 16, Op.move (.tmp 2), none), (some 17, Op.call { callee := .value (.func 49), args := #[.tmp 15, .tmp 16], argTypes := #[98, 2] }, none), (some 18, Op.move (.tmp 2), none), (some 19, Op.call { callee := .value (.func 44), args := #[.tmp 12, .tmp 17, .tmp 18], argTypes := #[41, 3, 3] }, none)] := by kernel_rfl
noncomputable def ASwap_code : Code := (.seq (.region 0 (Rg Try.f49.body 0) false) (.seq (.region 1 (Rg Try.f49.body 1) false) .ret))
theorem ASwap_code_def : ASwap_code = (.seq (.region 0 (Rg Try.f49.body 0) false) (.seq (.region 1 (Rg Try.f49.body 1) false) .ret)) := rfl
theorem ASwap_body : Try.f49.body = some ASwap_code := by kernel_rfl
theorem ASwap_fn : Try.prog.funcs[49]? = some Try.f49 := Try.func49
theorem ASwap_bd : Try.f49.body.isSome = true := by rw [ASwap_body]; rfl
theorem ASwap_nm : (Try.f49.name == "runtime.NumGoroutine") = false := by kernel_rfl
theorem ASwap_tmps : Try.f49.ntmps = 10 := by kernel_rfl
theorem ASwap_res : Try.f49.results = #[Go.ResultVar.tmp 4] := by kernel_rfl
theorem ASwap_0 : (Rg Try.f49.body 0).toList.map view = [(some 4, Op.assign (.const (.int .i64 0)), none)] := by kernel_rfl
theorem ASwap_1 : (Rg Try.f49.body 1).toList.map view = [(some 5, Op.move (.tmp 0), none), (some 6, Op.nilCheck (.tmp 5), none), (some 7, Op.fieldAddr 98 (.tmp 6) 2, none), (some 8, Op.move (.tmp 1), none), (some 9, Op.call { callee := .value (.func 63), args := #[.tmp 7, .tmp 8], argTypes := #[120, 2] }, none), (some 4, Op.assign (.tmp 9), none)] := by kernel_rfl
noncomputable def slNew_L0 : Code := (.seq (.region 4 (Rg Try.f14.body 4) false) (.seq (.cond (.tmp 19) .skip (.exit 0)) (.seq (.block 1 (.seq (.region 5 (Rg Try.f14.body 5) false) (.seq (.region 6 (Rg Try.f14.body 6) false) (.seq (.seq (.region 7 (Rg Try.f14.body 7) false) (.cond (.tmp 26) (.region 8 (Rg Try.f14.body 8) false) .skip)) (.seq (.region 9 (Rg Try.f14.body 9) true) (.region 10 (Rg Try.f14.body 10) true)))))) (.region 11 (Rg Try.f14.body 11) false))))
theorem slNew_L0_def : slNew_L0 = (.seq (.region 4 (Rg Try.f14.body 4) false) (.seq (.cond (.tmp 19) .skip (.exit 0)) (.seq (.block 1 (.seq (.region 5 (Rg Try.f14.body 5) false) (.seq (.region 6 (Rg Try.f14.body 6) false) (.seq (.seq (.region 7 (Rg Try.f14.body 7) false) (.cond (.tmp 26) (.region 8 (Rg Try.f14.body 8) false) .skip)) (.seq (.region 9 (Rg Try.f14.body 9) true) (.region 10 (Rg Try.f14.body 10) true)))))) (.region 11 (Rg Try.f14.body 11) false)))) := rfl
noncomputable def slNew_code : Code := (.seq (.region 0 (Rg Try.f14.body 0) false) (.seq (.region 1 (Rg Try.f14.body 1) false) (.seq (.region 2 (Rg Try.f14.body 2) false) (.seq (.seq (.region 3 (Rg Try.f14.body 3) false) (.block 0 (.loop slNew_L0))) (.seq (.region 12 (Rg Try.f14.body 12) false) .ret)))))
theorem slNew_code_def : slNew_code = (.seq (.region 0 (Rg Try.f14.body 0) false) (.seq (.region 1 (Rg Try.f14.body 1) false) (.seq (.region 2 (Rg Try.f14.body 2) false) (.seq (.seq (.region 3 (Rg Try.f14.body 3) false) (.block 0 (.loop slNew_L0))) (.seq (.region 12 (Rg Try.f14.body 12) false) .ret))))) := rfl
theorem slNew_body : Try.f14.body = some slNew_code := by kernel_rfl
theorem slNew_fn : Try.prog.funcs[14]? = some Try.f14 := Try.func14
theorem slNew_bd : Try.f14.body.isSome = true := by rw [slNew_body]; rfl
theorem slNew_nm : (Try.f14.name == "runtime.NumGoroutine") = false := by kernel_rfl
theorem slNew_tmps : Try.f14.ntmps = 52 := by kernel_rfl
theorem slNew_res : Try.f14.results = #[Go.ResultVar.tmp 4] := by kernel_rfl
theorem slNew_0 : (Rg Try.f14.body 0).toList.map view = [(some 4, Op.assign (.const (.pointer none)), none)] := by kernel_rfl
theorem slNew_1 : (Rg Try.f14.body 1).toList.map view = [(some 8, Op.move (.tmp 1), none), (some 9, Op.call { callee := .builtin .max, args := #[.tmp 8, .const (.int .i64 0)], argTypes := #[3, 3] }, none), (some 10, Op.call { callee := .builtin .min, args := #[.tmp 9, .const (.int .i64 1000)], argTypes := #[3, 3] }, none), (some 1, Op.assign (.tmp 10), none)] := by kernel_rfl
theorem slNew_2 : (Rg Try.f14.body 2).toList.map view = [(some 11, Op.move (.tmp 0), none), (some 12, Op.move (.tmp 1), none), (some 13, Op.call { callee := .builtin .min, args := #[.tmp 12, .const (.int .i64 1)], argTypes := #[3, 3] }, none), (some 14, Op.call { callee := .value (.func 29), args := #[.tmp 11, .tmp 13], argTypes := #[32, 3] }, none), (some 15, Op.build 81 #[(0, .tmp 14)], none), (some 16, Op.box 81 (.tmp 15), none), (some 5, Op.assign (.tmp 16), none)] := by kernel_rfl
theorem slNew_3 : (Rg Try.f14.body 3).toList.map view = [(some 17, Op.move (.tmp 1), none), (some 18, Op.move (.const (.int .i64 0)), none)] := by kernel_rfl
theorem slNew_4 : (Rg Try.f14.body 4).toList.map view = [(some 19, Op.binOp .lss 3 (.tmp 18) (.tmp 17) 3, none)] := by kernel_rfl
theorem slNew_5 : (Rg Try.f14.body 5).toList.map view = [(some 20, Op.move (.tmp 18), none), (some 6, Op.assign (.tmp 20), none)] := by kernel_rfl
theorem slNew_6 : (Rg Try.f14.body 6).toList.map view = [(some 21, Op.move (.tmp 6), none), (some 22, Op.binOp .add 3 (.tmp 21) (.const (.int .i64 2)) 3, none), (some 7, Op.assign (.tmp 22), none)] := by kernel_rfl
theorem slNew_7 : (Rg Try.f14.body 7).toList.map view = [(some 23, Op.move (.tmp 6), none), (some 24, Op.move (.tmp 1), none), (some 25, Op.binOp .sub 3 (.tmp 24) (.const (.int .i64 1)) 3, none), (some 26, Op.binOp .eql 3 (.tmp 23) (.tmp 25) 3, none)] := by kernel_rfl
theorem slNew_8 : (Rg Try.f14.body 8).toList.map view = [(some 7, Op.assign (.const (.int .i64 0)), none)] := by kernel_rfl
theorem slNew_9 : (Rg Try.f14.body 9).toList.map view = [(some 27, Op.move (.tmp 5), none), (some 28, Op.move (.tmp 5), none), (some 29, Op.nilCheck (.tmp 28), none), (some 30, Op.fieldAddr 81 (.tmp 29) 1, none), (some 31, Op.load 79 (.tmp 30), none), (some 32, Op.move (.tmp 0), none), (some 33, Op.move (.tmp 7), none), (some 34, Op.call { callee := .value (.func 29), args := #[.tmp 32, .tmp 33], argTypes := #[32, 3] }, none), (some 35, Op.buildSlice 79 1 #[(0, .tmp 34)], none), (some 36, Op.call { callee := .builtin .append, args := #[.tmp 31, .tmp 35], argTypes := #[79, 79] }, none), (some 37, Op.nilCheck (.tmp 27), none), (some 38, Op.fieldAddr 81 (.tmp 37) 1, none), (none, Op.store 79 (.tmp 38) (.tmp 36), none)] := by kernel_rfl
theorem slNew_10 : (Rg Try.f14.body 10).toList.map view = [(some 39, Op.move (.tmp 5), none), (some 40, Op.move (.tmp 5), none), (some 41, Op.nilCheck (.tmp 40), none), (some 42, Op.fieldAddr 81 (.tmp 41) 2, none), (some 43, Op.load 79 (.tmp 42), none), (some 44, Op.move (.tmp 0), none), (some 45, Op.call { callee := .value (.func 29), args := #[.tmp 44, .const (.int .i64 0)], argTypes := #[32, 3] }, none), (some 46, Op.buildSlice 79 1 #[(0, .tmp 45)], none), (some 47, Op.call { callee := .builtin .append, args := #[.tmp 43, .tmp 46], argTypes := #[79, 79] }, none), (some 48, Op.nilCheck (.tmp 39), none), (some 49, Op.fieldAddr 81 (.tmp 48) 2, none), (none, Op.store 79 (.tmp 49) (.tmp 47), none)] := by kernel_rfl
theorem slNew_11 : (Rg Try.f14.body 11).toList.map view = [(some 50, Op.binOp .add 3 (.tmp 18) (.const (.int .i64 1)) 3, none), (some 18, Op.move (.tmp 50), none)] := by kernel_rfl
theorem slNew_12 : (Rg Try.f14.body 12).toList.map view = [(some 51, Op.move (.tmp 5), none), (some 4, Op.assign (.tmp 51), none)] := by kernel_rfl
noncomputable def Take_L0 : Code := (.block 1 (.seq (.region 1 (Rg Try.f15.body 1) false) (.seq (.region 2 (Rg Try.f15.body 2) false) (.seq (.seq (.region 3 (Rg Try.f15.body 3) false) (.cond (.tmp 20) (.seq (.region 4 (Rg Try.f15.body 4) false) .ret) .skip)) (.seq (.region 5 (Rg Try.f15.body 5) false) (.seq (.seq (.region 6 (Rg Try.f15.body 6) true) (.cond (.tmp 40) (.exit 1) .skip)) (.seq (.region 7 (Rg Try.f15.body 7) false) (.seq (.region 8 (Rg Try.f15.body 8) false) .ret))))))))
theorem Take_L0_def : Take_L0 = (.block 1 (.seq (.region 1 (Rg Try.f15.body 1) false) (.seq (.region 2 (Rg Try.f15.body 2) false) (.seq (.seq (.region 3 (Rg Try.f15.body 3) false) (.cond (.tmp 20) (.seq (.region 4 (Rg Try.f15.body 4) false) .ret) .skip)) (.seq (.region 5 (Rg Try.f15.body 5) false) (.seq (.seq (.region 6 (Rg Try.f15.body 6) true) (.cond (.tmp 40) (.exit 1) .skip)) (.seq (.region 7 (Rg Try.f15.body 7) false) (.seq (.region 8 (Rg Try.f15.body 8) false) .ret)))))))) := rfl
noncomputable def Take_code : Code := (.seq (.region 0 (Rg Try.f15.body 0) false) (.scope (.seq (.label 0) (.block 0 (.loop Take_L0)))))
theorem Take_code_def : Take_code = (.seq (.region 0 (Rg Try.f15.body 0) false) (.scope (.seq (.label 0) (.block 0 (.loop Take_L0))))) := rfl
theorem Take_body : Try.f15.body = some Take_code := by kernel_rfl
theorem Take_fn : Try.prog.funcs[15]? = some Try.f15 := Try.func15
theorem Take_bd : Try.f15.body.isSome = true := by rw [Take_body]; rfl
theorem Take_nm : (Try.f15.name == "runtime.NumGoroutine") = false := by kernel_rfl
theorem Take_tmps : Try.f15.ntmps = 51 := by kernel_rfl
theorem Take_res : Try.f15.results = #[Go.ResultVar.tmp 4, Go.ResultVar.tmp 5] := by kernel_rfl
theorem Take_0 : (Rg Try.f15.body 0).toList.map view = [(some 4, Op.assign (.const (.int .i64 0)), none), (some 5, Op.assign (.const (.int .i64 0)), none)] := by kernel_rfl
theorem Take_1 : (Rg Try.f15.body 1).toList.map view = [(some 9, Op.move (.tmp 0), none), (some 10, Op.nilCheck (.tmp 9), none), (some 11, Op.fieldAddr 81 (.tmp 10) 0, none), (some 12, Op.load 77 (.tmp 11), none), (some 13, Op.move (.tmp 1), none), (some 14, Op.call { callee := .value (.func 30), args := #[.tmp 12, .tmp 13], argTypes := #[77, 41] }, none), (some 6, Op.assign (.tmp 14), none)] := by kernel_rfl
theorem Take_2 : (Rg Try.f15.body 2).toList.map view = [(some 15, Op.move (.tmp 6), none), (some 16, Op.call { callee := .value (.func 32), args := #[], argTypes := #[] }, none), (some 17, Op.call { callee := .value (.func 31), args := #[.tmp 15, .tmp 16], argTypes := #[3, 85] }, none), (some 18, Op.binOp .sub 3 (.tmp 17) (.const (.int .i64 1)) 3, none), (some 7, Op.assign (.tmp 18), none)] := by kernel_rfl
theorem Take_3 : (Rg Try.f15.body 3).toList.map view = [(some 19, Op.move (.tmp 7), none), (some 20, Op.binOp .lss 3 (.tmp 19) (.const (.int .i64 0)) 3, none)] := by kernel_rfl
theorem Take_4 : (Rg Try.f15.body 4).toList.map view = [(some 4, Op.assign (.const (.int .i64 0)), none), (some 5, Op.assign (.const (.int .i64 80)), none)] := by kernel_rfl
theorem Take_5 : (Rg Try.f15.body 5).toList.map view = [(some 21, Op.move (.tmp 0), none), (some 22, Op.nilCheck (.tmp 21), none), (some 23, Op.fieldAddr 81 (.tmp 22) 1, none), (some 24, Op.load 79 (.tmp 23), none), (some 25, Op.move (.tmp 7), none), (some 26, Op.indexAddr 79 (.tmp 24) (.tmp 25), none), (some 27, Op.load 77 (.tmp 26), none), (some 28, Op.move (.tmp 1), none), (some 29, Op.call { callee := .value (.func 30), args := #[.tmp 27, .tmp 28], argTypes := #[77, 41] }, none), (some 8, Op.assign (.tmp 29), none)] := by kernel_rfl
theorem Take_6 : (Rg Try.f15.body 6).toList.map view = [(some 30, Op.move (.tmp 0), none), (some 31, Op.nilCheck (.tmp 30), none), (some 32, Op.fieldAddr 81 (.tmp 31) 0, none), (some 33, Op.load 77 (.tmp 32), none), (some 34, Op.move (.tmp 1), none), (some 35, Op.move (.tmp 6), none), (some 36, Op.move (.tmp 6), none), (some 37, Op.move (.tmp 8), none), (some 38, Op.call { callee := .value (.func 34), args := #[.tmp 36, .tmp 37], argTypes := #[3, 3] }, none), (some 39, Op.call { callee := .value (.func 33), args := #[.tmp 33, .tmp 34, .tmp 35, .tmp 38], argTypes := #[77, 41, 3, 3] }, none), (some 40, Op.unOp .not 4 (.tmp 39), none)] := by kernel_rfl
theorem Take_7 : (Rg Try.f15.body 7).toList.map view = [(some 41, Op.move (.tmp 0), none), (some 42, Op.nilCheck (.tmp 41), none), (some 43, Op.fieldAddr 81 (.tmp 42) 2, none), (some 44, Op.load 79 (.tmp 43), none), (some 45, Op.move (.tmp 7), none), (some 46, Op.indexAddr 79 (.tmp 44) (.tmp 45), none), (some 47, Op.load 77 (.tmp 46), none), (some 48, Op.move (.tmp 1), none), (some 49, Op.call { callee := .value (.func 35), args := #[.tmp 47, .tmp 48, .const (.int .i64 1)], argTypes := #[77, 41, 3] }, none)] := by kernel_rfl
theorem Take_8 : (Rg Try.f15.body 8).toList.map view = [(some 50, Op.move (.tmp 7), none), (some 4, Op.assign (.tmp 50), none), (some 5, Op.assign (.const (.int .i64 0)), none)] := by kernel_rfl
noncomputable def Give_L0 : Code := (.block 1 (.seq (.region 5 (Rg Try.f16.body 5) false) (.seq (.region 6 (Rg Try.f16.body 6) true) (.seq (.seq (.region 7 (Rg Try.f16.body 7) true) (.cond (.tmp 58) (.exit 1) .skip)) (.seq (.region 8 (Rg Try.f16.body 8) false) .ret)))))
theorem Give_L0_def : Give_L0 = (.block 1 (.seq (.region 5 (Rg Try.f16.body 5) false) (.seq (.region 6 (Rg Try.f16.body 6) true) (.seq (.seq (.region 7 (Rg Try.f16.body 7) true) (.cond (.tmp 58) (.exit 1) .skip)) (.seq (.region 8 (Rg Try.f16.body 8) false) .ret))))) := rfl
noncomputable def Give_code : Code := (.seq (.region 0 (Rg Try.f16.body 0) false) (.scope (.seq (.seq (.region 1 (Rg Try.f16.body 1) false) (.cond (.tmp 18) (.seq (.region 2 (Rg Try.f16.body 2) false) .ret) .skip)) (.seq (.seq (.region 3 (Rg Try.f16.body 3) false) (.cond (.tmp 28) (.seq (.region 4 (Rg Try.f16.body 4) false) .ret) .skip)) (.seq (.label 0) (.block 0 (.loop Give_L0)))))))
theorem Give_code_def : Give_code = (.seq (.region 0 (Rg Try.f16.body 0) false) (.scope (.seq (.seq (.region 1 (Rg Try.f16.body 1) false) (.cond (.tmp 18) (.seq (.region 2 (Rg Try.f16.body 2) false) .ret) .skip)) (.seq (.seq (.region 3 (Rg Try.f16.body 3) false) (.cond (.tmp 28) (.seq (.region 4 (Rg Try.f16.body 4) false) .ret) .skip)) (.seq (.label 0) (.block 0 (.loop Give_L0))))))) := rfl
theorem Give_body : Try.f16.body = some Give_code := by kernel_rfl
theorem Give_fn : Try.prog.funcs[16]? = some Try.f16 := Try.func16
theorem Give_bd : Try.f16.body.isSome = true := by rw [Give_body]; rfl
theorem Give_nm : (Try.f16.name == "runtime.NumGoroutine") = false := by kernel_rfl
theorem Give_tmps : Try.f16.ntmps = 59 := by kernel_rfl
theorem Give_res : Try.f16.results = #[Go.ResultVar.tmp 6] := by kernel_rfl
theorem Give_0 : (Rg Try.f16.body 0).toList.map view = [(some 6, Op.assign (.const (.int .i64 0)), none)] := by kernel_rfl
theorem Give_1 : (Rg Try.f16.body 1).toList.map view = [(some 8, Op.move (.tmp 2), none), (some 9, Op.binOp .lss 3 (.tmp 8) (.const (.int .i64 0)) 3, none), (some 10, Op.move (.tmp 9), none), (some 11, Op.move (.tmp 2), some (2, false)), (some 12, Op.move (.tmp 0), some (2, false)), (some 13, Op.nilCheck (.tmp 12), some (2, false)), (some 14, Op.fieldAddr 81 (.tmp 13) 1, some (2, false)), (some 15, Op.load 79 (.tmp 14), some (2, false)), (some 16, Op.call { callee := .builtin .len, args := #[.tmp 15], argTypes := #[79] }, some (2, false)), (some 17, Op.binOp .geq 3 (.tmp 11) (.tmp 16) 3, some (2, false)), (some 18, Op.pick (.tmp 10) (.const (.bool true)) (.tmp 17), none)] := by kernel_rfl
theorem Give_2 : (Rg Try.f16.body 2).toList.map view = [(some 6, Op.assign (.const (.int .i64 1)), none)] := by kernel_rfl
theorem Give_3 : (Rg Try.f16.body 3).toList.map view = [(some 19, Op.move (.tmp 0), none), (some 20, Op.nilCheck (.tmp 19), none), (some 21, Op.fieldAddr 81 (.tmp 20) 2, none), (some 22, Op.load 79 (.tmp 21), none), (some 23, Op.move (.tmp 2), none), (some 24, Op.indexAddr 79 (.tmp 22) (.tmp 23), none), (some 25, Op.load 77 (.tmp 24), none), (some 26, Op.move (.tmp 1), none), (some 27, Op.call { callee := .value (.func 33), args := #[.tmp 25, .tmp 26, .const (.int .i64 1), .const (.int .i64 0)], argTypes := #[77, 41, 3, 3] }, none), (some 28, Op.unOp .not 4 (.tmp 27), none)] := by kernel_rfl
theorem Give_4 : (Rg Try.f16.body 4).toList.map view = [(some 6, Op.assign (.const (.int .i64 81)), none)] := by kernel_rfl
theorem Give_5 : (Rg Try.f16.body 5).toList.map view = [(some 29, Op.move (.tmp 0), none), (some 30, Op.nilCheck (.tmp 29), none), (some 31, Op.fieldAddr 81 (.tmp 30) 0, none), (some 32, Op.load 77 (.tmp 31), none), (some 33, Op.move (.tmp 1), none), (some 34, Op.call { callee := .value (.func 30), args := #[.tmp 32, .tmp 33], argTypes := #[77, 41] }, none), (some 7, Op.assign (.tmp 34), none)] := by kernel_rfl
theorem Give_6 : (Rg Try.f16.body 6).toList.map view = [(some 35, Op.move (.tmp 0), none), (some 36, Op.nilCheck (.tmp 35), none), (some 37, Op.fieldAddr 81 (.tmp 36) 1, none), (some 38, Op.load 79 (.tmp 37), none), (some 39, Op.move (.tmp 2), none), (some 40, Op.indexAddr 79 (.tmp 38) (.tmp 39), none), (some 41, Op.load 77 (.tmp 40), none), (some 42, Op.move (.tmp 1), none), (some 43, Op.move (.tmp 7), none), (some 44, Op.call { callee := .value (.func 32), args := #[], argTypes := #[] }, none), (some 45, Op.call { callee := .value (.func 31), args := #[.tmp 43, .tmp 44], argTypes := #[3, 85] }, none), (some 46, Op.call { callee := .value (.func 35), args := #[.tmp 41, .tmp 42, .tmp 45], argTypes := #[77, 41, 3] }, none)] := by kernel_rfl
theorem Give_7 : (Rg Try.f16.body 7).toList.map view = [(some 47, Op.move (.tmp 0), none), (some 48, Op.nilCheck (.tmp 47), none), (some 49, Op.fieldAddr 81 (.tmp 48) 0, none), (some 50, Op.load 77 (.tmp 49), none), (some 51, Op.move (.tmp 1), none), (some 52, Op.move (.tmp 7), none), (some 53, Op.move (.tmp 7), none), (some 54, Op.move (.tmp 2), none), (some 55, Op.binOp .add 3 (.tmp 54) (.const (.int .i64 1)) 3, none), (some 56, Op.call { callee := .value (.func 34), args := #[.tmp 53, .tmp 55], argTypes := #[3, 3] }, none), (some 57, Op.call { callee := .value (.func 33), args := #[.tmp 50, .tmp 51, .tmp 52, .tmp 56], argTypes := #[77, 41, 3, 3] }, none), (some 58, Op.unOp .not 4 (.tmp 57), none)] := by kernel_rfl
theorem Give_8 : (Rg Try.f16.body 8).toList.map view = [(some 6, Op.assign (.const (.int .i64 0)), none)] := by kernel_rfl
noncomputable def slCall_code : Code := (.seq (.region 0 (Rg Try.f27.body 0) false) (.seq (.seq (.region 1 (Rg Try.f27.body 1) false) (.block 0 (.seq (.region 2 (Rg Try.f27.body 2) false) (.cond (.tmp 16) (.seq (.region 3 (Rg Try.f27.body 3) false) (.seq (.seq (.region 4 (Rg Try.f27.body 4) false) (.cond (.tmp 25) (.region 5 (Rg Try.f27.body 5) false) .skip)) (.seq (.region 6 (Rg Try.f27.body 6) false) .ret))) (.seq (.region 7 (Rg Try.f27.body 7) false) (.cond (.tmp 39) (.seq (.region 8 (Rg Try.f27.body 8) false) .ret) (.seq (.region 9 (Rg Try.f27.body 9) false) (.cond (.tmp 47) (.seq (.region 10 (Rg Try.f27.body 10) false) (.seq (.seq (.region 11 (Rg Try.f27.body 11) false) (.cond (.tmp 56) (.exit 0) .skip)) (.seq (.region 12 (Rg Try.f27.body 12) false) (.seq (.region 13 (Rg Try.f27.body 13) false) (.seq (.seq (.region 14 (Rg Try.f27.body 14) false) (.seq (.region 15 (Rg Try.f27.body 15) false) (.cond (.tmp 78) (.seq (.region 16 (Rg Try.f27.body 16) false) .ret) .skip))) (.seq (.region 17 (Rg Try.f27.body 17) false) .ret)))))) .skip)))))))) (.seq (.region 18 (Rg Try.f27.body 18) false) .ret)))
theorem slCall_code_def : slCall_code = (.seq (.region 0 (Rg Try.f27.body 0) false) (.seq (.seq (.region 1 (Rg Try.f27.body 1) false) (.block 0 (.seq (.region 2 (Rg Try.f27.body 2) false) (.cond (.tmp 16) (.seq (.region 3 (Rg Try.f27.body 3) false) (.seq (.seq (.region 4 (Rg Try.f27.body 4) false) (.cond (.tmp 25) (.region 5 (Rg Try.f27.body 5) false) .skip)) (.seq (.region 6 (Rg Try.f27.body 6) false) .ret))) (.seq (.region 7 (Rg Try.f27.body 7) false) (.cond (.tmp 39) (.seq (.region 8 (Rg Try.f27.body 8) false) .ret) (.seq (.region 9 (Rg Try.f27.body 9) false) (.cond (.tmp 47) (.seq (.region 10 (Rg Try.f27.body 10) false) (.seq (.seq (.region 11 (Rg Try.f27.body 11) false) (.cond (.tmp 56) (.exit 0) .skip)) (.seq (.region 12 (Rg Try.f27.body 12) false) (.seq (.region 13 (Rg Try.f27.body 13) false) (.seq (.seq (.region 14 (Rg Try.f27.body 14) false) (.seq (.region 15 (Rg Try.f27.body 15) false) (.cond (.tmp 78) (.seq (.region 16 (Rg Try.f27.body 16) false) .ret) .skip))) (.seq (.region 17 (Rg Try.f27.body 17) false) .ret)))))) .skip)))))))) (.seq (.region 18 (Rg Try.f27.body 18) false) .ret))) := rfl
theorem slCall_body : Try.f27.body = some slCall_code := by kernel_rfl
theorem slCall_fn : Try.prog.funcs[27]? = some Try.f27 := Try.func27
theorem slCall_bd : Try.f27.body.isSome = true := by rw [slCall_body]; rfl
theorem slCall_nm : (Try.f27.name == "runtime.NumGoroutine") = false := by kernel_rfl
theorem slCall_tmps : Try.f27.ntmps = 84 := by kernel_rfl
theorem slCall_res : Try.f27.results = #[Go.ResultVar.cell 8 37] := by kernel_rfl
theorem slCall_0 : (Rg Try.f27.body 0).toList.map view = [(some 6, Op.box 39 (.tmp 2), none), (some 8, Op.alloc 37, none)] := by kernel_rfl
theorem slCall_1 : (Rg Try.f27.body 1).toList.map view = [(some 14, Op.fieldAddr 39 (.tmp 6) 0, none), (some 15, Op.load 3 (.tmp 14), none)] := by kernel_rfl
theorem slCall_2 : (Rg Try.f27.body 2).toList.map view = [(some 17, Op.binOp .eql 3 (.tmp 15) (.const (.int .i64 1)) 3, none), (some 16, Op.assign (.tmp 17), none)] := by kernel_rfl
theorem slCall_3 : (Rg Try.f27.body 3).toList.map view = [(some 19, Op.move (.tmp 0), none), (some 20, Op.move (.tmp 1), none), (some 21, Op.call { callee := .value (.func 15), args := #[.tmp 19, .tmp 20], argTypes := #[43, 41] }, none), (some 18, Op.move (.tmp 21), none), (some 22, Op.extract (.tmp 18) 0, none), (some 23, Op.extract (.tmp 18) 1, none), (some 9, Op.assign (.tmp 22), none), (some 10, Op.assign (.tmp 23), none)] := by kernel_rfl
theorem slCall_4 : (Rg Try.f27.body 4).toList.map view = [(some 24, Op.move (.tmp 10), none), (some 25, Op.binOp .eql 24 (.tmp 24) (.const (.int .i64 0)) 24, none)] := by kernel_rfl
theorem slCall_5 : (Rg Try.f27.body 5).toList.map view = [(some 26, Op.move (.tmp 3), none), (some 27, Op.move (.tmp 3), none), (some 28, Op.nilCheck (.tmp 27), none), (some 29, Op.fieldAddr 68 (.tmp 28) 0, none), (some 30, Op.load 35 (.tmp 29), none), (some 31, Op.move (.tmp 9), none), (some 32, Op.buildSlice 35 1 #[(0, .tmp 31)], none), (some 33, Op.call { callee := .builtin .append, args := #[.tmp 30, .tmp 32], argTypes := #[35, 35] }, none), (some 34, Op.nilCheck (.tmp 26), none), (some 35, Op.fieldAddr 68 (.tmp 34) 0, none), (none, Op.store 35 (.tmp 35) (.tmp 33), none)] := by kernel_rfl
theorem slCall_6 : (Rg Try.f27.body 6).toList.map view = [(some 36, Op.move (.tmp 10), none), (some 37, Op.move (.tmp 9), none), (some 38, Op.build 37 #[(0, .tmp 36), (1, .tmp 37)], none), (none, Op.store 37 (.tmp 8) (.tmp 38), none)] := by kernel_rfl
theorem slCall_7 : (Rg Try.f27.body 7).toList.map view = [(some 40, Op.binOp .eql 3 (.tmp 15) (.const (.int .i64 2)) 3, none), (some 39, Op.assign (.tmp 40), none)] := by kernel_rfl
theorem slCall_8 : (Rg Try.f27.body 8).toList.map view = [(some 41, Op.move (.tmp 0), none), (some 42, Op.move (.tmp 1), none), (some 43, Op.fieldAddr 39 (.tmp 6) 1, none), (some 44, Op.load 3 (.tmp 43), none), (some 45, Op.call { callee := .value (.func 16), args := #[.tmp 41, .tmp 42, .tmp 44], argTypes := #[43, 41, 3] }, none), (some 46, Op.build 37 #[(0, .tmp 45)], none), (none, Op.store 37 (.tmp 8) (.tmp 46), none)] := by kernel_rfl
theorem slCall_9 : (Rg Try.f27.body 9).toList.map view = [(some 48, Op.binOp .eql 3 (.tmp 15) (.const (.int .i64 3)) 3, none), (some 47, Op.assign (.tmp 48), none)] := by kernel_rfl
theorem slCall_10 : (Rg Try.f27.body 10).toList.map view = [(some 49, Op.move (.tmp 3), none), (some 50, Op.nilCheck (.tmp 49), none), (some 51, Op.fieldAddr 68 (.tmp 50) 0, none), (some 52, Op.load 35 (.tmp 51), none), (some 53, Op.call { callee := .builtin .len, args := #[.tmp 52], argTypes := #[35] }, none), (some 54, Op.binOp .sub 3 (.tmp 53) (.const (.int .i64 1)) 3, none), (some 11, Op.assign (.tmp 54), none)] := by kernel_rfl
theorem slCall_11 : (Rg Try.f27.body 11).toList.map view = [(some 55, Op.move (.tmp 11), none), (some 56, Op.binOp .lss 3 (.tmp 55) (.const (.int .i64 0)) 3, none)] := by kernel_rfl
theorem slCall_12 : (Rg Try.f27.body 12).toList.map view = [(some 57, Op.move (.tmp 3), none), (some 58, Op.nilCheck (.tmp 57), none), (some 59, Op.fieldAddr 68 (.tmp 58) 0, none), (some 60, Op.load 35 (.tmp 59), none), (some 61, Op.move (.tmp 11), none), (some 62, Op.indexAddr 35 (.tmp 60) (.tmp 61), none), (some 63, Op.load 3 (.tmp 62), none), (some 12, Op.assign (.tmp 63), none)] := by kernel_rfl
theorem slCall_13 : (Rg Try.f27.body 13).toList.map view = [(some 64, Op.move (.tmp 3), none), (some 65, Op.move (.tmp 3), none), (some 66, Op.nilCheck (.tmp 65), none), (some 67, Op.fieldAddr 68 (.tmp 66) 0, none), (some 68, Op.load 35 (.tmp 67), none), (some 69, Op.move (.tmp 11), none), (some 70, Op.slice 35 (.tmp 68) none (some (.tmp 69)) none, none), (some 71, Op.nilCheck (.tmp 64), none), (some 72, Op.fieldAddr 68 (.tmp 71) 0, none), (none, Op.store 35 (.tmp 72) (.tmp 70), none)] := by kernel_rfl
theorem slCall_14 : (Rg Try.f27.body 14).toList.map view = [(some 73, Op.move (.tmp 0), none), (some 74, Op.move (.tmp 1), none), (some 75, Op.move (.tmp 12), none), (some 76, Op.call { callee := .value (.func 16), args := #[.tmp 73, .tmp 74, .tmp 75], argTypes := #[43, 41, 3] }, none), (some 13, Op.assign (.tmp 76), none)] := by kernel_rfl
theorem slCall_15 : (Rg Try.f27.body 15).toList.map view = [(some 77, Op.move (.tmp 13), none), (some 78, Op.binOp .neq 24 (.tmp 77) (.const (.int .i64 0)) 24, none)] := by kernel_rfl
theorem slCall_16 : (Rg Try.f27.body 16).toList.map view = [(some 79, Op.move (.tmp 13), none), (some 80, Op.build 37 #[(0, .tmp 79)], none), (none, Op.store 37 (.tmp 8) (.tmp 80), none)] := by kernel_rfl
theorem slCall_17 : (Rg Try.f27.body 17).toList.map view = [(some 81, Op.move (.tmp 12), none), (some 82, Op.build 37 #[(1, .tmp 81)], none), (none, Op.store 37 (.tmp 8) (.tmp 82), none)] := by kernel_rfl
theorem slCall_18 : (Rg Try.f27.body 18).toList.map view = [(some 83, Op.build 37 #[(0, .const (.int .i64 1))], none), (none, Op.store 37 (.tmp 8) (.tmp 83), none)] := by kernel_rfl
noncomputable def slPlay_code : Code := (.seq (.region 0 (Rg Try.f11.body 0) false) (.seq (.seq (.region 1 (Rg Try.f11.body 1) false) (.seq (.region 2 (Rg Try.f11.body 2) false) (.cond (.tmp 15) (.seq (.region 3 (Rg Try.f11.body 3) false) .ret) .skip))) (.seq (.seq (.region 4 (Rg Try.f11.body 4) false) (.cond (.tmp 22) (.seq (.region 5 (Rg Try.f11.body 5) false) .ret) .skip)) (.seq (.region 6 (Rg Try.f11.body 6) false) (.seq (.region 7 (Rg Try.f11.body 7) false) (.seq (.region 8 (Rg Try.f11.body 8) false) .ret))))))
theorem slPlay_code_def : slPlay_code = (.seq (.region 0 (Rg Try.f11.body 0) false) (.seq (.seq (.region 1 (Rg Try.f11.body 1) false) (.seq (.region 2 (Rg Try.f11.body 2) false) (.cond (.tmp 15) (.seq (.region 3 (Rg Try.f11.body 3) false) .ret) .skip))) (.seq (.seq (.region 4 (Rg Try.f11.body 4) false) (.cond (.tmp 22) (.seq (.region 5 (Rg Try.f11.body 5) false) .ret) .skip)) (.seq (.region 6 (Rg Try.f11.body 6) false) (.seq (.region 7 (Rg Try.f11.body 7) false) (.seq (.region 8 (Rg Try.f11.body 8) false) .ret)))))) := rfl
theorem slPlay_body : Try.f11.body = some slPlay_code := by kernel_rfl
theorem slPlay_fn : Try.prog.funcs[11]? = some Try.f11 := Try.func11
theorem slPlay_bd : Try.f11.body.isSome = true := by rw [slPlay_body]; rfl
theorem slPlay_nm : (Try.f11.name == "runtime.NumGoroutine") = false := by kernel_rfl
theorem slPlay_tmps : Try.f11.ntmps = 33 := by kernel_rfl
theorem slPlay_res : Try.f11.results = #[Go.ResultVar.tmp 6, Go.ResultVar.tmp 7] := by kernel_rfl
theorem slPlay_0 : (Rg Try.f11.body 0).toList.map view = [(some 6, Op.assign (.const (.slice none 0 0)), none), (some 7, Op.assign (.const (.int .i64 0)), none)] := by kernel_rfl
theorem slPlay_1 : (Rg Try.f11.body 1).toList.map view = [(some 11, Op.move (.tmp 0), none), (some 12, Op.move (.tmp 2), none), (some 13, Op.call { callee := .value (.func 24), args := #[.tmp 11, .tmp 12, .const (.bool false)], argTypes := #[32, 26, 4] }, none), (some 8, Op.assign (.tmp 13), none)] := by kernel_rfl
theorem slPlay_2 : (Rg Try.f11.body 2).toList.map view = [(some 14, Op.move (.tmp 8), none), (some 15, Op.binOp .neq 24 (.tmp 14) (.const (.int .i64 0)) 24, none)] := by kernel_rfl
theorem slPlay_3 : (Rg Try.f11.body 3).toList.map view = [(some 16, Op.move (.tmp 8), none), (some 6, Op.assign (.const (.slice none 0 0)), none), (some 7, Op.assign (.tmp 16), none)] := by kernel_rfl
theorem slPlay_4 : (Rg Try.f11.body 4).toList.map view = [(some 17, Op.move (.tmp 1), none), (some 18, Op.binOp .lss 3 (.tmp 17) (.const (.int .i64 0)) 3, none), (some 19, Op.move (.tmp 18), none), (some 20, Op.move (.tmp 1), some (2, false)), (some 21, Op.binOp .gtr 3 (.tmp 20) (.const (.int .i64 1000)) 3, some (2, false)), (some 22, Op.pick (.tmp 19) (.const (.bool true)) (.tmp 21), none)] := by kernel_rfl
theorem slPlay_5 : (Rg Try.f11.body 5).toList.map view = [(some 6, Op.assign (.const (.slice none 0 0)), none), (some 7, Op.assign (.const (.int .i64 1)), none)] := by kernel_rfl
theorem slPlay_6 : (Rg Try.f11.body 6).toList.map view = [(some 23, Op.move (.tmp 0), none), (some 24, Op.move (.tmp 1), none), (some 25, Op.call { callee := .value (.func 14), args := #[.tmp 23, .tmp 24], argTypes := #[32, 3] }, none), (some 9, Op.alloc 43, none), (none, Op.store 43 (.tmp 9) (.tmp 25), none)] := by kernel_rfl
theorem slPlay_7 : (Rg Try.f11.body 7).toList.map view = [(some 26, Op.move (.tmp 2), none), (some 27, Op.call { callee := .builtin .len, args := #[.tmp 26], argTypes := #[26] }, none), (some 28, Op.makeSlice 63 (.tmp 27) (.tmp 27), none), (some 10, Op.alloc 63, none), (none, Op.store 63 (.tmp 10) (.tmp 28), none)] := by kernel_rfl
theorem slPlay_8 : (Rg Try.f11.body 8).toList.map view = [(some 29, Op.move (.tmp 0), none), (some 30, Op.move (.tmp 2), none), (some 31, Op.makeFunc (.func 26) #[] #[.tmp 9, .tmp 10], none), (some 32, Op.call { callee := .value (.func 25), args := #[.tmp 29, .tmp 30, .tmp 31], argTypes := #[32, 26, 70] }, none), (some 6, Op.assign (.tmp 32), none), (some 7, Op.assign (.const (.int .i64 0)), none)] := by kernel_rfl
noncomputable def slPlayF_code : Code := (.seq (.region 0 (Rg Try.f26.body 0) false) (.seq (.region 1 (Rg Try.f26.body 1) true) .ret))
theorem slPlayF_code_def : slPlayF_code = (.seq (.region 0 (Rg Try.f26.body 0) false) (.seq (.region 1 (Rg Try.f26.body 1) true) .ret)) := rfl
theorem slPlayF_body : Try.f26.body = some slPlayF_code := by kernel_rfl
theorem slPlayF_fn : Try.prog.funcs[26]? = some Try.f26 := Try.func26
theorem slPlayF_bd : Try.f26.body.isSome = true := by rw [slPlayF_body]; rfl
theorem slPlayF_nm : (Try.f26.name == "runtime.NumGoroutine") = false := by kernel_rfl
theorem slPlayF_tmps : Try.f26.ntmps = 15 := by kernel_rfl
theorem slPlayF_res : Try.f26.results = #[Go.ResultVar.cell 6 37] := by kernel_rfl
theorem slPlayF_0 : (Rg Try.f26.body 0).toList.map view = [(some 5, Op.box 39 (.tmp 1), none), (some 6, Op.alloc 37, none)] := by kernel_rfl
theorem slPlayF_1 : (Rg Try.f26.body 1).toList.map view = [(some 7, Op.load 43 (.tmp 2), none), (some 8, Op.move (.tmp 0), none), (some 9, Op.load 39 (.tmp 5), none), (some 10, Op.load 63 (.tmp 3), none), (some 11, Op.move (.tmp 0), none), (some 12, Op.call { callee := .value (.func 28), args := #[.tmp 11], argTypes := #[41] }, none), (some 13, Op.indexAddr 63 (.tmp 10) (.tmp 12), none), (some 14, Op.call { callee := .value (.func 27), args := #[.tmp 7, .tmp 8, .tmp 9, .tmp 13], argTypes := #[43, 41, 39, 66] }, none), (none, Op.store 37 (.tmp 6) (.tmp 14), none)] := by kernel_rfl
noncomputable def slFirst_code : Code := (.seq (.region 0 (Rg Try.f32.body 0) false) (.seq (.region 1 (Rg Try.f32.body 1) false) .ret))
theorem slFirst_code_def : slFirst_code = (.seq (.region 0 (Rg Try.f32.body 0) false) (.seq (.region 1 (Rg Try.f32.body 1) false) .ret)) := rfl
theorem slFirst_body : Try.f32.body = some slFirst_code := by kernel_rfl
theorem slFirst_fn : Try.prog.funcs[32]? = some Try.f32 := Try.func32
theorem slFirst_bd : Try.f32.body.isSome = true := by rw [slFirst_body]; rfl
theorem slFirst_nm : (Try.f32.name == "runtime.NumGoroutine") = false := by kernel_rfl
theorem slFirst_tmps : Try.f32.ntmps = 2 := by kernel_rfl
theorem slFirst_res : Try.f32.results = #[Go.ResultVar.cell 0 85] := by kernel_rfl
theorem slFirst_0 : (Rg Try.f32.body 0).toList.map view = [(some 0, Op.alloc 85, none)] := by kernel_rfl
theorem slFirst_1 : (Rg Try.f32.body 1).toList.map view = [(some 1, Op.build 85 #[(0, .const (.int .i64 0)), (1, .const (.int .i64 32))], none), (none, Op.store 85 (.tmp 0) (.tmp 1), none)] := by kernel_rfl
noncomputable def slVer_code : Code := (.seq (.region 0 (Rg Try.f47.body 0) false) (.seq (.region 1 (Rg Try.f47.body 1) false) .ret))
theorem slVer_code_def : slVer_code = (.seq (.region 0 (Rg Try.f47.body 0) false) (.seq (.region 1 (Rg Try.f47.body 1) false) .ret)) := rfl
theorem slVer_body : Try.f47.body = some slVer_code := by kernel_rfl
theorem slVer_fn : Try.prog.funcs[47]? = some Try.f47 := Try.func47
theorem slVer_bd : Try.f47.body.isSome = true := by rw [slVer_body]; rfl
theorem slVer_nm : (Try.f47.name == "runtime.NumGoroutine") = false := by kernel_rfl
theorem slVer_tmps : Try.f47.ntmps = 2 := by kernel_rfl
theorem slVer_res : Try.f47.results = #[Go.ResultVar.cell 0 85] := by kernel_rfl
theorem slVer_0 : (Rg Try.f47.body 0).toList.map view = [(some 0, Op.alloc 85, none)] := by kernel_rfl
theorem slVer_1 : (Rg Try.f47.body 1).toList.map view = [(some 1, Op.build 85 #[(0, .const (.int .i64 32)), (1, .const (.int .i64 30))], none), (none, Op.store 85 (.tmp 0) (.tmp 1), none)] := by kernel_rfl
noncomputable def slChg_code : Code := (.seq (.region 0 (Rg Try.f34.body 0) false) (.seq (.region 1 (Rg Try.f34.body 1) false) (.seq (.region 2 (Rg Try.f34.body 2) false) (.seq (.region 3 (Rg Try.f34.body 3) false) (.seq (.region 4 (Rg Try.f34.body 4) false) .ret)))))
theorem slChg_code_def : slChg_code = (.seq (.region 0 (Rg Try.f34.body 0) false) (.seq (.region 1 (Rg Try.f34.body 1) false) (.seq (.region 2 (Rg Try.f34.body 2) false) (.seq (.region 3 (Rg Try.f34.body 3) false) (.seq (.region 4 (Rg Try.f34.body 4) false) .ret))))) := rfl
theorem slChg_body : Try.f34.body = some slChg_code := by kernel_rfl
theorem slChg_fn : Try.prog.funcs[34]? = some Try.f34 := Try.func34
theorem slChg_bd : Try.f34.body.isSome = true := by rw [slChg_body]; rfl
theorem slChg_nm : (Try.f34.name == "runtime.NumGoroutine") = false := by kernel_rfl
theorem slChg_tmps : Try.f34.ntmps = 30 := by kernel_rfl
theorem slChg_res : Try.f34.results = #[Go.ResultVar.tmp 4] := by kernel_rfl
theorem slChg_0 : (Rg Try.f34.body 0).toList.map view = [(some 4, Op.assign (.const (.int .i64 0)), none)] := by kernel_rfl
theorem slChg_1 : (Rg Try.f34.body 1).toList.map view = [(some 8, Op.move (.tmp 0), none), (some 9, Op.call { callee := .value (.func 47), args := #[], argTypes := #[] }, none), (some 10, Op.call { callee := .value (.func 31), args := #[.tmp 8, .tmp 9], argTypes := #[3, 85] }, none), (some 11, Op.binOp .add 3 (.tmp 10) (.const (.int .i64 1)) 3, none), (some 12, Op.call { callee := .value (.func 47), args := #[], argTypes := #[] }, none), (some 13, Op.field 85 (.tmp 12) 1, none), (some 14, Op.binOp .shl 3 (.const (.int .i64 1)) (.tmp 13) 3, none), (some 15, Op.binOp .rem 3 (.tmp 11) (.tmp 14) 3, none), (some 5, Op.assign (.tmp 15), none)] := by kernel_rfl
theorem slChg_2 : (Rg Try.f34.body 2).toList.map view = [(some 17, Op.call { callee := .value (.func 32), args := #[], argTypes := #[] }, none), (some 18, Op.move (.tmp 1), none), (some 19, Op.call { callee := .value (.func 48), args := #[.const (.int .i64 0), .tmp 17, .tmp 18], argTypes := #[3, 85, 3] }, none), (some 16, Op.move (.tmp 19), none), (some 20, Op.extract (.tmp 16) 0, none), (some 21, Op.extract (.tmp 16) 1, none), (some 6, Op.assign (.tmp 20), none), (some 7, Op.assign (.tmp 21), none)] := by kernel_rfl
theorem slChg_3 : (Rg Try.f34.body 3).toList.map view = [(some 23, Op.move (.tmp 6), none), (some 24, Op.call { callee := .value (.func 47), args := #[], argTypes := #[] }, none), (some 25, Op.move (.tmp 5), none), (some 26, Op.call { callee := .value (.func 48), args := #[.tmp 23, .tmp 24, .tmp 25], argTypes := #[3, 85, 3] }, none), (some 22, Op.move (.tmp 26), none), (some 27, Op.extract (.tmp 22) 0, none), (some 28, Op.extract (.tmp 22) 1, none), (some 6, Op.assign (.tmp 27), none)] := by kernel_rfl
theorem slChg_4 : (Rg Try.f34.body 4).toList.map view = [(some 29, Op.move (.tmp 6), none), (some 4, Op.assign (.tmp 29), none)] := by kernel_rfl
noncomputable def slAwake_code : Code := (.seq (.region 0 (Rg Try.f7.body 0) false) (.seq (.region 1 (Rg Try.f7.body 1) false) (.seq (.region 2 (Rg Try.f7.body 2) false) (.seq (.seq (.region 3 (Rg Try.f7.body 3) false) (.cond (.tmp 30) (.seq (.region 4 (Rg Try.f7.body 4) false) .ret) .skip)) (.seq (.region 5 (Rg Try.f7.body 5) false) .ret)))))
theorem slAwake_code_def : slAwake_code = (.seq (.region 0 (Rg Try.f7.body 0) false) (.seq (.region 1 (Rg Try.f7.body 1) false) (.seq (.region 2 (Rg Try.f7.body 2) false) (.seq (.seq (.region 3 (Rg Try.f7.body 3) false) (.cond (.tmp 30) (.seq (.region 4 (Rg Try.f7.body 4) false) .ret) .skip)) (.seq (.region 5 (Rg Try.f7.body 5) false) .ret))))) := rfl
theorem slAwake_body : Try.f7.body = some slAwake_code := by kernel_rfl
theorem slAwake_fn : Try.prog.funcs[7]? = some Try.f7 := Try.func7
theorem slAwake_bd : Try.f7.body.isSome = true := by rw [slAwake_body]; rfl
theorem slAwake_nm : (Try.f7.name == "runtime.NumGoroutine") = false := by kernel_rfl
theorem slAwake_tmps : Try.f7.ntmps = 74 := by kernel_rfl
theorem slAwake_res : Try.f7.results = #[Go.ResultVar.tmp 0] := by kernel_rfl
theorem slAwake_0 : (Rg Try.f7.body 0).toList.map view = [(some 0, Op.assign (.const (.bool false)), none)] := by kernel_rfl
theorem slAwake_1 : (Rg Try.f7.body 1).toList.map view = [(some 4, Op.call { callee := .value (.func 12), args := #[.const (.slice none 0 0)], argTypes := #[35] }, none), (some 1, Op.assign (.tmp 4), none)] := by kernel_rfl
theorem slAwake_2 : (Rg Try.f7.body 2).toList.map view = [(some 6, Op.move (.tmp 1), none), (some 7, Op.build 39 #[(0, .const (.int .i64 1))], none), (some 8, Op.build 39 #[(0, .const (.int .i64 1))], none), (some 9, Op.build 39 #[(0, .const (.int .i64 3))], none), (some 10, Op.build 39 #[(0, .const (.int .i64 3))], none), (some 11, Op.build 39 #[(0, .const (.int .i64 2))], none), (some 12, Op.buildSlice 25 5 #[(0, .tmp 7), (1, .tmp 8), (2, .tmp 9), (3, .tmp 10), (4, .tmp 11)], none), (some 13, Op.buildSlice 26 1 #[(0, .tmp 12)], none), (some 14, Op.call { callee := .value (.func 11), args := #[.tmp 6, .const (.int .i64 1), .tmp 13], argTypes := #[32, 3, 26] }, none), (some 5, Op.move (.tmp 14), none), (some 15, Op.extract (.tmp 5) 0, none), (some 16, Op.extract (.tmp 5) 1, none), (some 2, Op.assign (.tmp 15), none), (some 3, Op.assign (.tmp 16), none)] := by kernel_rfl
theorem slAwake_3 : (Rg Try.f7.body 3).toList.map view = [(some 17, Op.move (.tmp 3), none), (some 18, Op.binOp .neq 24 (.tmp 17) (.const (.int .i64 0)) 24, none), (some 19, Op.move (.tmp 18), none), (some 20, Op.move (.tmp 2), some (2, false)), (some 21, Op.call { callee := .builtin .len, args := #[.tmp 20], argTypes := #[29] }, some (2, false)), (some 22, Op.binOp .neq 3 (.tmp 21) (.const (.int .i64 1)) 3, some (2, false)), (some 23, Op.pick (.tmp 19) (.const (.bool true)) (.tmp 22), none), (some 24, Op.move (.tmp 23), none), (some 25, Op.move (.tmp 2), some (7, false)), (some 26, Op.indexAddr 29 (.tmp 25) (.const (.int .i64 0)), some (7, false)), (some 27, Op.load 34 (.tmp 26), some (7, false)), (some 28, Op.call { callee := .builtin .len, args := #[.tmp 27], argTypes := #[34] }, some (7, false)), (some 29, Op.binOp .neq 3 (.tmp 28) (.const (.int .i64 5)) 3, some (7, false)), (some 30, Op.pick (.tmp 24) (.const (.bool true)) (.tmp 29), none)] := by kernel_rfl
theorem slAwake_5 : (Rg Try.f7.body 5).toList.map view = [(some 31, Op.move (.tmp 2), none), (some 32, Op.indexAddr 29 (.tmp 31) (.const (.int .i64 0)), none), (some 33, Op.load 34 (.tmp 32), none), (some 34, Op.indexAddr 34 (.tmp 33) (.const (.int .i64 0)), none), (some 35, Op.load 37 (.tmp 34), none), (some 36, Op.build 37 #[], none), (some 37, Op.binOp .eql 37 (.tmp 35) (.tmp 36) 37, none), (some 38, Op.move (.tmp 37), none), (some 39, Op.move (.tmp 2), some (7, true)), (some 40, Op.indexAddr 29 (.tmp 39) (.const (.int .i64 0)), some (7, true)), (some 41, Op.load 34 (.tmp 40), some (7, true)), (some 42, Op.indexAddr 34 (.tmp 41) (.const (.int .i64 1)), some (7, true)), (some 43, Op.fieldAddr 37 (.tmp 42) 0, some (7, true)), (some 44, Op.load 24 (.tmp 43), some (7, true)), (some 45, Op.binOp .eql 24 (.tmp 44) (.const (.int .i64 80)) 24, some (7, true)), (some 46, Op.pick (.tmp 38) (.tmp 45) (.const (.bool false)), none), (some 47, Op.move (.tmp 46), none), (some 48, Op.move (.tmp 2), some (16, true)), (some 49, Op.indexAddr 29 (.tmp 48) (.const (.int .i64 0)), some (16, true)), (some 50, Op.load 34 (.tmp 49), some (16, true)), (some 51, Op.indexAddr 34 (.tmp 50) (.const (.int .i64 2)), some (16, true)), (some 52, Op.load 37 (.tmp 51), some (16, true)), (some 53, Op.build 37 #[], some (16, true)), (some 54, Op.binOp .eql 37 (.tmp 52) (.tmp 53) 37, some (16, true)), (some 55, Op.pick (.tmp 47) (.tmp 54) (.const (.bool false)), none), (some 56, Op.move (.tmp 55), none), (some 57, Op.move (.tmp 2), some (25, true)), (some 58, Op.indexAddr 29 (.tmp 57) (.const (.int .i64 0)), some (25, true)), (some 59, Op.load 34 (.tmp 58), some (25, true)), (some 60, Op.indexAddr 34 (.tmp 59) (.const (.int .i64 3)), some (25, true)), (some 61, Op.fieldAddr 37 (.tmp 60) 0, some (25, true)), (some 62, Op.load 24 (.tmp 61), some (25, true)), (some 63, Op.binOp .eql 24 (.tmp 62) (.const (.int .i64 1)) 24, some (25, true)), (some 64, Op.pick (.tmp 56) (.tmp 63) (.const (.bool false)), none), (some 65, Op.move (.tmp 64), none), (some 66, Op.move (.tmp 2), some (34, true)), (some 67, Op.indexAddr 29 (.tmp 66) (.const (.int .i64 0)), some (34, true)), (some 68, Op.load 34 (.tmp 67), some (34, true)), (some 69, Op.indexAddr 34 (.tmp 68) (.const (.int .i64 4)), some (34, true)), (some 70, Op.fieldAddr 37 (.tmp 69) 0, some (34, true)), (some 71, Op.load 24 (.tmp 70), some (34, true)), (some 72, Op.binOp .eql 24 (.tmp 71) (.const (.int .i64 81)) 24, some (34, true)), (some 73, Op.pick (.tmp 65) (.tmp 72) (.const (.bool false)), none), (some 0, Op.assign (.tmp 73), none)] := by kernel_rfl
noncomputable def slFree_L1 : Code := (.seq (.seq (.region 13 (Rg Try.f5.body 13) false) (.cond (.tmp 48) .skip (.exit 2))) (.seq (.block 3 (.seq (.seq (.region 15 (Rg Try.f5.body 14) false) (.cond (.tmp 56) (.seq (.region 16 (Rg Try.f5.body 15) false) (.seq (.region 17 (Rg Try.f5.body 16) false) (.seq (.seq (.region 18 (Rg Try.f5.body 17) false) (.cond (.tmp 68) (.seq (.seq (.region 19 (Rg Try.f5.body 18) false) (.cond (.tmp 74) (.seq (.region 20 (Rg Try.f5.body 19) false) .ret) .skip)) (.exit 3)) .skip)) (.seq (.seq (.region 21 (Rg Try.f5.body 20) false) (.cond (.tmp 85) (.seq (.region 22 (Rg Try.f5.body 21) false) .ret) .skip)) (.seq (.region 23 (Rg Try.f5.body 22) false) (.seq (.region 24 (Rg Try.f5.body 23) false) (.exit 3))))))) .skip)) (.seq (.region 25 (Rg Try.f5.body 24) false) (.seq (.region 26 (Rg Try.f5.body 25) false) (.block 4 (.seq (.region 31 (Rg Try.f5.body 26) false) (.cond (.tmp 116) (.seq (.region 32 (Rg Try.f5.body 27) false) (.cond (.tmp 125) (.seq (.region 33 (Rg Try.f5.body 28) false) .ret) .skip)) (.seq (.region 34 (Rg Try.f5.body 29) false) (.cond (.tmp 126) (.seq (.region 35 (Rg Try.f5.body 30) false) (.cond (.tmp 134) (.seq (.region 36 (Rg Try.f5.body 31) false) .ret) .skip)) (.seq (.seq (.region 27 (Rg Try.f5.body 32) false) (.cond (.tmp 105) (.seq (.region 28 (Rg Try.f5.body 33) false) .ret) .skip)) (.seq (.region 29 (Rg Try.f5.body 34) false) (.region 30 (Rg Try.f5.body 35) false)))))))))))) (.region 14 (Rg Try.f5.body 36) false)))
theorem slFree_L1_def : slFree_L1 = (.seq (.seq (.region 13 (Rg Try.f5.body 13) false) (.cond (.tmp 48) .skip (.exit 2))) (.seq (.block 3 (.seq (.seq (.region 15 (Rg Try.f5.body 14) false) (.cond (.tmp 56) (.seq (.region 16 (Rg Try.f5.body 15) false) (.seq (.region 17 (Rg Try.f5.body 16) false) (.seq (.seq (.region 18 (Rg Try.f5.body 17) false) (.cond (.tmp 68) (.seq (.seq (.region 19 (Rg Try.f5.body 18) false) (.cond (.tmp 74) (.seq (.region 20 (Rg Try.f5.body 19) false) .ret) .skip)) (.exit 3)) .skip)) (.seq (.seq (.region 21 (Rg Try.f5.body 20) false) (.cond (.tmp 85) (.seq (.region 22 (Rg Try.f5.body 21) false) .ret) .skip)) (.seq (.region 23 (Rg Try.f5.body 22) false) (.seq (.region 24 (Rg Try.f5.body 23) false) (.exit 3))))))) .skip)) (.seq (.region 25 (Rg Try.f5.body 24) false) (.seq (.region 26 (Rg Try.f5.body 25) false) (.block 4 (.seq (.region 31 (Rg Try.f5.body 26) false) (.cond (.tmp 116) (.seq (.region 32 (Rg Try.f5.body 27) false) (.cond (.tmp 125) (.seq (.region 33 (Rg Try.f5.body 28) false) .ret) .skip)) (.seq (.region 34 (Rg Try.f5.body 29) false) (.cond (.tmp 126) (.seq (.region 35 (Rg Try.f5.body 30) false) (.cond (.tmp 134) (.seq (.region 36 (Rg Try.f5.body 31) false) .ret) .skip)) (.seq (.seq (.region 27 (Rg Try.f5.body 32) false) (.cond (.tmp 105) (.seq (.region 28 (Rg Try.f5.body 33) false) .ret) .skip)) (.seq (.region 29 (Rg Try.f5.body 34) false) (.region 30 (Rg Try.f5.body 35) false)))))))))))) (.region 14 (Rg Try.f5.body 36) false))) := rfl
noncomputable def slFree_L0 : Code := (.seq (.seq (.region 9 (Rg Try.f5.body 9) false) (.cond (.tmp 36) .skip (.exit 0))) (.seq (.block 1 (.region 11 (Rg Try.f5.body 10) false)) (.region 10 (Rg Try.f5.body 11) false)))
theorem slFree_L0_def : slFree_L0 = (.seq (.seq (.region 9 (Rg Try.f5.body 9) false) (.cond (.tmp 36) .skip (.exit 0))) (.seq (.block 1 (.region 11 (Rg Try.f5.body 10) false)) (.region 10 (Rg Try.f5.body 11) false))) := rfl
noncomputable def slFree_code : Code := (.seq (.region 0 (Rg Try.f5.body 0) false) (.seq (.region 1 (Rg Try.f5.body 1) false) (.seq (.region 2 (Rg Try.f5.body 2) false) (.seq (.region 3 (Rg Try.f5.body 3) false) (.seq (.seq (.region 4 (Rg Try.f5.body 4) false) (.cond (.tmp 26) (.seq (.region 5 (Rg Try.f5.body 5) false) .ret) .skip)) (.seq (.region 6 (Rg Try.f5.body 6) false) (.seq (.region 7 (Rg Try.f5.body 7) false) (.seq (.seq (.region 8 (Rg Try.f5.body 8) false) (.block 0 (.loop slFree_L0))) (.seq (.seq (.region 12 (Rg Try.f5.body 12) false) (.block 2 (.loop slFree_L1))) (.seq (.region 37 (Rg Try.f5.body 37) false) .ret))))))))))
theorem slFree_code_def : slFree_code = (.seq (.region 0 (Rg Try.f5.body 0) false) (.seq (.region 1 (Rg Try.f5.body 1) false) (.seq (.region 2 (Rg Try.f5.body 2) false) (.seq (.region 3 (Rg Try.f5.body 3) false) (.seq (.seq (.region 4 (Rg Try.f5.body 4) false) (.cond (.tmp 26) (.seq (.region 5 (Rg Try.f5.body 5) false) .ret) .skip)) (.seq (.region 6 (Rg Try.f5.body 6) false) (.seq (.region 7 (Rg Try.f5.body 7) false) (.seq (.seq (.region 8 (Rg Try.f5.body 8) false) (.block 0 (.loop slFree_L0))) (.seq (.seq (.region 12 (Rg Try.f5.body 12) false) (.block 2 (.loop slFree_L1))) (.seq (.region 37 (Rg Try.f5.body 37) false) .ret)))))))))) := rfl
theorem slFree_body : Try.f5.body = some slFree_code := by kernel_rfl
theorem slFree_fn : Try.prog.funcs[5]? = some Try.f5 := Try.func5
theorem slFree_tmps : Try.f5.ntmps = 135 := by kernel_rfl
theorem slFree_res : Try.f5.results = #[Go.ResultVar.tmp 4] := by kernel_rfl
theorem slFree_0 : (Rg Try.f5.body 0).toList.map view = [(some 4, Op.assign (.const (.bool false)), none)] := by kernel_rfl
theorem slFree_1 : (Rg Try.f5.body 1).toList.map view = [(some 17, Op.call { callee := .value (.func 7), args := #[], argTypes := #[] }, none), (some 5, Op.assign (.tmp 17), none)] := by kernel_rfl
theorem slFree_2 : (Rg Try.f5.body 2).toList.map view = [(some 18, Op.call { callee := .value (.func 13), args := #[.const (.int .i64 0)], argTypes := #[3] }, none), (some 6, Op.assign (.tmp 18), none)] := by kernel_rfl
theorem slFree_3 : (Rg Try.f5.body 3).toList.map view = [(some 19, Op.move (.tmp 0), none), (some 20, Op.call { callee := .value (.func 14), args := #[.const (.pointer none), .tmp 19], argTypes := #[32, 3] }, none), (some 7, Op.assign (.tmp 20), none)] := by kernel_rfl
theorem slFree_4 : (Rg Try.f5.body 4).toList.map view = [(some 21, Op.move (.tmp 5), none), (some 22, Op.unOp .not 4 (.tmp 21), none), (some 23, Op.move (.tmp 22), none), (some 24, Op.move (.tmp 7), some (2, false)), (some 25, Op.binOp .eql 43 (.tmp 24) (.const (.pointer none)) 43, some (2, false)), (some 26, Op.pick (.tmp 23) (.const (.bool true)) (.tmp 25), none)] := by kernel_rfl
theorem slFree_6 : (Rg Try.f5.body 6).toList.map view = [(some 27, Op.move (.tmp 0), none), (some 28, Op.call { callee := .builtin .min, args := #[.tmp 27, .const (.int .i64 1000)], argTypes := #[3, 3] }, none), (some 29, Op.call { callee := .builtin .max, args := #[.const (.int .i64 0), .tmp 28], argTypes := #[3, 3] }, none), (some 8, Op.assign (.tmp 29), none)] := by kernel_rfl
theorem slFree_7 : (Rg Try.f5.body 7).toList.map view = [(some 30, Op.move (.tmp 8), none), (some 31, Op.makeSlice 45 (.tmp 30) (.tmp 30), none), (some 32, Op.build 47 #[(1, .tmp 31)], none), (some 9, Op.alloc 47, none), (none, Op.store 47 (.tmp 9) (.tmp 32), none)] := by kernel_rfl
theorem slFree_8 : (Rg Try.f5.body 8).toList.map view = [(some 33, Op.move (.tmp 8), none), (some 34, Op.binOp .sub 3 (.tmp 33) (.const (.int .i64 1)) 3, none), (some 10, Op.assign (.tmp 34), none)] := by kernel_rfl
theorem slFree_9 : (Rg Try.f5.body 9).toList.map view = [(some 35, Op.move (.tmp 10), none), (some 36, Op.binOp .geq 3 (.tmp 35) (.const (.int .i64 0)) 3, none)] := by kernel_rfl
theorem slFree_10 : (Rg Try.f5.body 10).toList.map view = [(some 39, Op.fieldAddr 47 (.tmp 9) 0, none), (some 40, Op.load 35 (.tmp 39), none), (some 41, Op.move (.tmp 10), none), (some 42, Op.buildSlice 35 1 #[(0, .tmp 41)], none), (some 43, Op.call { callee := .builtin .append, args := #[.tmp 40, .tmp 42], argTypes := #[35, 35] }, none), (some 44, Op.fieldAddr 47 (.tmp 9) 0, none), (none, Op.store 35 (.tmp 44) (.tmp 43), none)] := by kernel_rfl
theorem slFree_11 : (Rg Try.f5.body 11).toList.map view = [(some 37, Op.move (.tmp 10), none), (some 38, Op.binOp .sub 3 (.tmp 37) (.const (.int .i64 1)) 3, none), (some 10, Op.assign (.tmp 38), none)] := by kernel_rfl
theorem slFree_12 : (Rg Try.f5.body 12).toList.map view = [(some 11, Op.assign (.const (.int .i64 0)), none)] := by kernel_rfl
theorem slFree_13 : (Rg Try.f5.body 13).toList.map view = [(some 45, Op.move (.tmp 11), none), (some 46, Op.move (.tmp 1), none), (some 47, Op.call { callee := .builtin .len, args := #[.tmp 46], argTypes := #[25] }, none), (some 48, Op.binOp .lss 3 (.tmp 45) (.tmp 47) 3, none)] := by kernel_rfl
theorem slFree_14 : (Rg Try.f5.body 14).toList.map view = [(some 51, Op.move (.tmp 1), none), (some 52, Op.move (.tmp 11), none), (some 53, Op.indexAddr 25 (.tmp 51) (.tmp 52), none), (some 54, Op.fieldAddr 39 (.tmp 53) 0, none), (some 55, Op.load 3 (.tmp 54), none), (some 56, Op.binOp .eql 3 (.tmp 55) (.const (.int .i64 1)) 3, none)] := by kernel_rfl
theorem slFree_15 : (Rg Try.f5.body 15).toList.map view = [(some 58, Op.move (.tmp 7), none), (some 59, Op.move (.tmp 6), none), (some 60, Op.call { callee := .value (.func 15), args := #[.tmp 58, .tmp 59], argTypes := #[43, 41] }, none), (some 57, Op.move (.tmp 60), none), (some 61, Op.extract (.tmp 57) 0, none), (some 62, Op.extract (.tmp 57) 1, none), (some 12, Op.assign (.tmp 61), none), (some 13, Op.assign (.tmp 62), none)] := by kernel_rfl
theorem slFree_16 : (Rg Try.f5.body 16).toList.map view = [(some 63, Op.fieldAddr 47 (.tmp 9) 0, none), (some 64, Op.load 35 (.tmp 63), none), (some 65, Op.call { callee := .builtin .len, args := #[.tmp 64], argTypes := #[35] }, none), (some 66, Op.binOp .sub 3 (.tmp 65) (.const (.int .i64 1)) 3, none), (some 14, Op.assign (.tmp 66), none)] := by kernel_rfl
theorem slFree_17 : (Rg Try.f5.body 17).toList.map view = [(some 67, Op.move (.tmp 14), none), (some 68, Op.binOp .lss 3 (.tmp 67) (.const (.int .i64 0)) 3, none)] := by kernel_rfl
theorem slFree_18 : (Rg Try.f5.body 18).toList.map view = [(some 69, Op.move (.tmp 13), none), (some 70, Op.binOp .neq 24 (.tmp 69) (.const (.int .i64 80)) 24, none), (some 71, Op.move (.tmp 70), none), (some 72, Op.move (.tmp 12), some (2, false)), (some 73, Op.binOp .neq 3 (.tmp 72) (.const (.int .i64 0)) 3, some (2, false)), (some 74, Op.pick (.tmp 71) (.const (.bool true)) (.tmp 73), none)] := by kernel_rfl
theorem slFree_20 : (Rg Try.f5.body 20).toList.map view = [(some 75, Op.move (.tmp 13), none), (some 76, Op.binOp .neq 24 (.tmp 75) (.const (.int .i64 0)) 24, none), (some 77, Op.move (.tmp 76), none), (some 78, Op.move (.tmp 12), some (2, false)), (some 79, Op.fieldAddr 47 (.tmp 9) 0, some (2, false)), (some 80, Op.load 35 (.tmp 79), some (2, false)), (some 81, Op.move (.tmp 14), some (2, false)), (some 82, Op.indexAddr 35 (.tmp 80) (.tmp 81), some (2, false)), (some 83, Op.load 3 (.tmp 82), some (2, false)), (some 84, Op.binOp .neq 3 (.tmp 78) (.tmp 83) 3, some (2, false)), (some 85, Op.pick (.tmp 77) (.const (.bool true)) (.tmp 84), none)] := by kernel_rfl
theorem slFree_22 : (Rg Try.f5.body 22).toList.map view = [(some 86, Op.fieldAddr 47 (.tmp 9) 1, none), (some 87, Op.load 45 (.tmp 86), none), (some 88, Op.move (.tmp 12), none), (some 89, Op.indexAddr 45 (.tmp 87) (.tmp 88), none), (none, Op.store 4 (.tmp 89) (.const (.bool true)), none)] := by kernel_rfl
theorem slFree_23 : (Rg Try.f5.body 23).toList.map view = [(some 90, Op.fieldAddr 47 (.tmp 9) 0, none), (some 91, Op.load 35 (.tmp 90), none), (some 92, Op.move (.tmp 14), none), (some 93, Op.slice 35 (.tmp 91) none (some (.tmp 92)) none, none), (some 94, Op.fieldAddr 47 (.tmp 9) 0, none), (none, Op.store 35 (.tmp 94) (.tmp 93), none)] := by kernel_rfl
theorem slFree_24 : (Rg Try.f5.body 24).toList.map view = [(some 95, Op.move (.tmp 1), none), (some 96, Op.move (.tmp 11), none), (some 97, Op.indexAddr 25 (.tmp 95) (.tmp 96), none), (some 98, Op.fieldAddr 39 (.tmp 97) 1, none), (some 99, Op.load 3 (.tmp 98), none), (some 15, Op.assign (.tmp 99), none)] := by kernel_rfl
theorem slFree_25 : (Rg Try.f5.body 25).toList.map view = [(some 100, Op.move (.tmp 7), none), (some 101, Op.move (.tmp 6), none), (some 102, Op.move (.tmp 15), none), (some 103, Op.call { callee := .value (.func 16), args := #[.tmp 100, .tmp 101, .tmp 102], argTypes := #[43, 41, 3] }, none), (some 16, Op.assign (.tmp 103), none)] := by kernel_rfl
theorem slFree_26 : (Rg Try.f5.body 26).toList.map view = [(some 117, Op.move (.tmp 15), none), (some 118, Op.binOp .lss 3 (.tmp 117) (.const (.int .i64 0)) 3, none), (some 119, Op.move (.tmp 118), none), (some 120, Op.move (.tmp 15), some (2, false)), (some 121, Op.move (.tmp 8), some (2, false)), (some 122, Op.binOp .geq 3 (.tmp 120) (.tmp 121) 3, some (2, false)), (some 123, Op.pick (.tmp 119) (.const (.bool true)) (.tmp 122), none), (some 116, Op.assign (.tmp 123), none)] := by kernel_rfl
theorem slFree_27 : (Rg Try.f5.body 27).toList.map view = [(some 124, Op.move (.tmp 16), none), (some 125, Op.binOp .neq 24 (.tmp 124) (.const (.int .i64 1)) 24, none)] := by kernel_rfl
theorem slFree_29 : (Rg Try.f5.body 29).toList.map view = [(some 127, Op.fieldAddr 47 (.tmp 9) 1, none), (some 128, Op.load 45 (.tmp 127), none), (some 129, Op.move (.tmp 15), none), (some 130, Op.indexAddr 45 (.tmp 128) (.tmp 129), none), (some 131, Op.load 4 (.tmp 130), none), (some 132, Op.unOp .not 4 (.tmp 131), none), (some 126, Op.assign (.tmp 132), none)] := by kernel_rfl
theorem slFree_30 : (Rg Try.f5.body 30).toList.map view = [(some 133, Op.move (.tmp 16), none), (some 134, Op.binOp .neq 24 (.tmp 133) (.const (.int .i64 81)) 24, none)] := by kernel_rfl
theorem slFree_32 : (Rg Try.f5.body 32).toList.map view = [(some 104, Op.move (.tmp 16), none), (some 105, Op.binOp .neq 24 (.tmp 104) (.const (.int .i64 0)) 24, none)] := by kernel_rfl
theorem slFree_34 : (Rg Try.f5.body 34).toList.map view = [(some 106, Op.fieldAddr 47 (.tmp 9) 1, none), (some 107, Op.load 45 (.tmp 106), none), (some 108, Op.move (.tmp 15), none), (some 109, Op.indexAddr 45 (.tmp 107) (.tmp 108), none), (none, Op.store 4 (.tmp 109) (.const (.bool false)), none)] := by kernel_rfl
theorem slFree_35 : (Rg Try.f5.body 35).toList.map view = [(some 110, Op.fieldAddr 47 (.tmp 9) 0, none), (some 111, Op.load 35 (.tmp 110), none), (some 112, Op.move (.tmp 15), none), (some 113, Op.buildSlice 35 1 #[(0, .tmp 112)], none), (some 114, Op.call { callee := .builtin .append, args := #[.tmp 111, .tmp 113], argTypes := #[35, 35] }, none), (some 115, Op.fieldAddr 47 (.tmp 9) 0, none), (none, Op.store 35 (.tmp 115) (.tmp 114), none)] := by kernel_rfl
theorem slFree_36 : (Rg Try.f5.body 36).toList.map view = [(some 49, Op.move (.tmp 11), none), (some 50, Op.binOp .add 3 (.tmp 49) (.const (.int .i64 1)) 3, none), (some 11, Op.assign (.tmp 50), none)] := by kernel_rfl
theorem slFree_37 : (Rg Try.f5.body 37).toList.map view = [(some 4, Op.assign (.const (.bool true)), none)] := by kernel_rfl
end Go.Proofs.Ytecdiejeofclaaa


/- Infrastructure U: a region whose order is drawn, by an invariant over what is done. -/
namespace Go.Proofs.Ytecdiejeofclaaa
open Go Go.Conc
theorem draw_inv {σ : Type} (X : σ → Goroutine → World → Prop) {ops : Array Oper} {b : Frame} {k : List Item} {cs : List Frame} (hdown : ((List.range ops.size).all fun i => (bdeps ops i).all (· < i)) = true) (Inv : (Nat → Bool) → Act → σ → World → Prop)
    (hstep : ∀ done a s w i rest, Inv done a s w → i < ops.size → done i = false → (∀ j ∈ bdeps ops i, done j = true) → (∀ a' s' w', Inv (fun x => if x = i then true else done x) a' s' w' → X s' (G (b.at a' (.inRegion ops rest :: k)) cs) w') → X s (G (b.at a (.inRegion ops (i :: rest) :: k)) cs) w)
    (hend : ∀ done a s w, (∀ i, i < ops.size → done i = true) → Inv done a s w → X s (G (b.at a (.inRegion ops [] :: k)) cs) w) :
    ∀ (fuel t : Nat) (A : Array Bool) (a : Act) (s : σ) (w : World), A.size = ops.size → unl ops.size A ≤ fuel → Inv (fun x => A.getD x false) a s w → X s (G (b.at a (.inRegion ops (Region.linearise.go .any ops fuel t A []) :: k)) cs) w := by
  simp only [List.all_eq_true, List.mem_range, decide_eq_true_eq] at hdown
  intro fuel
  induction fuel with
  | zero =>
    intro t A a s w hA hu hI
    refine hend _ a s w (fun i hi => ?_) hI
    have h0 : unl ops.size A = 0 := by omega
    unfold unl at h0
    rw [List.countP_eq_zero] at h0
    simpa using h0 i (by simpa using hi)
  | succ fuel ih =>
    intro t A a s w hA hu hI
    rcases go_next (ops := ops) (fuel := fuel) (t := t) (listed := A) with ⟨hr, h⟩ | ⟨i, t', hr, h⟩
    · rw [h]
      refine hend _ a s w (fun i hi => ?_) hI
      have hall : ∀ n i, i ≤ n → i < ops.size → A.getD i false = true := by
        intro n
        induction n with
        | zero =>
          intro i hi hlt
          obtain rfl : i = 0 := by omega
          apply Classical.byContradiction
          intro hne
          have : 0 ∈ Region.ready .any ops A := (ready_iff hA).2 ⟨hlt, by simpa using hne, fun j hj => by have := hdown 0 hlt j hj; omega⟩
          rw [hr] at this; cases this
        | succ n ihn =>
          intro i hi hlt
          apply Classical.byContradiction
          intro hne
          have : i ∈ Region.ready .any ops A := (ready_iff hA).2 ⟨hlt, by simpa using hne, fun j hj => by
            have := hdown i hlt j hj
            exact ihn j (by omega) (by omega)⟩
          rw [hr] at this; cases this
      exact hall i i (Nat.le_refl _) hi
    · obtain ⟨hi, hni, hdeps⟩ := (ready_iff hA).1 hr
      rw [h]
      refine hstep _ a s w i _ hI hi hni hdeps fun a' s' w' hI' => ih t' _ a' s' w' (by simpa using hA) ?_ ?_
      · have : unl ops.size (A.setIfInBounds i true) < unl ops.size A := by
          unfold unl
          refine countP_lt _ i (fun x hx => ?_) (by simpa using hi) (by simp [hni]) (by simp [getD_set (show i < A.size by omega)])
          rw [getD_set (by omega)] at hx
          by_cases e : x = i
          · subst e; simp [hni]
          · rw [if_neg e] at hx; exact hx
        omega
      · have : (fun x => (A.setIfInBounds i true).getD x false) = fun x => if x = i then true else A.getD x false := funext fun x => getD_set (by omega)
        rw [this]; exact hI'
theorem unl_all (n : Nat) : unl n (Array.replicate n false) ≤ n := by unfold unl; exact Nat.le_trans List.countP_le_length (by simp)
theorem none_done (n x : Nat) : (Array.replicate n false).getD x false = false := by
  simp only [Array.getD_eq_getD_getElem?]
  by_cases h : x < n <;> simp [h]
end Go.Proofs.Ytecdiejeofclaaa


/- Infrastructure V: what the printed walks (gen.py) lean on: calls with an open waiting frame, new blocks, stores, arithmetic. -/
namespace Go.Proofs.Ytecdiejeofclaaa
open Go Go.Conc
def flatK : Value → Bool
  | .agg _ | .tuple _ => false
  | _ => true
theorem flat_cells {y : Value} (h : flatK y = true) : y.cells = #[y] := by cases y <;> first | rfl | cases h
theorem store_one {P : Program} {w : World} {B O : Nat} {x y : Value} (h : w.cell? ⟨B, O, none⟩ = some x) (hf : w.frozen? ⟨B, O, none⟩ = false) (hk : flatK y = true) : (store ⟨B, O, none⟩ y).run P w = .ok () (w.setCell ⟨B, O, none⟩ y) := by
  cases y <;> first | (cases hk; done) | (simp [store, Sem.run, h, hf]; done)
/-- Old blocks stand; more may be made. -/
structure Grow (v w : World) : Prop where
  size : v.heap.size ≤ w.heap.size
  same : ∀ b, b < v.heap.size → w.heap[b]? = v.heap[b]?
  ready : Ready0 v → Ready0 w
theorem Grow.refl (v : World) : Grow v v := ⟨Nat.le_refl _, fun _ _ => rfl, id⟩
theorem Grow.trans {u v w : World} (h : Grow u v) (g : Grow v w) : Grow u w := ⟨Nat.le_trans h.size g.size, fun b hb => (g.same b (Nat.lt_of_lt_of_le hb h.size)).trans (h.same b hb), fun r => g.ready (h.ready r)⟩
theorem lt_heap {w : World} {b : Nat} {y : Obj} (h : w.heap[b]? = some y) : b < w.heap.size := (Array.getElem?_eq_some_iff.1 h).1
theorem Grow.at {v w : World} (h : Grow v w) {b : Nat} {o : Obj} (hb : v.heap[b]? = some o) : w.heap[b]? = some o := (h.same b (lt_heap hb)).trans hb
theorem Grow.re {v w : World} (h : Grow v w) (t : Tp) (d : Nat) : Grow v (w.re t d) := ⟨h.size, h.same, h.ready⟩
theorem Grow.from_re {v w : World} {t : Tp} {d : Nat} (h : Grow (v.re t d) w) : Grow v w := ⟨h.size, h.same, h.ready⟩
/-- One block is another one now. -/
structure Puts (v w : World) (B : Nat) (o : Obj) : Prop where
  size : w.heap.size = v.heap.size
  at_ : w.heap[B]? = some o
  other : ∀ b, b ≠ B → w.heap[b]? = v.heap[b]?
  ready : Ready0 v → Ready0 w
theorem Puts.keep {v w : World} {B : Nat} {o : Obj} (h : Puts v w B o) {b : Nat} {o' : Obj} (hne : b ≠ B) (hb : v.heap[b]? = some o') : w.heap[b]? = some o' := (h.other b hne).trans hb
theorem Grow.put {u v w : World} (h : Grow u v) {B : Nat} {o : Obj} (hP : Puts v w B o) (hB : u.heap.size ≤ B) : Grow u w :=
  ⟨Nat.le_trans h.size (Nat.le_of_eq hP.size.symm), fun b hb => (hP.other b (by omega)).trans (h.same b hb), fun r => hP.ready (h.ready r)⟩
section
variable {w : World} {b b' o : Nat} {x : Value} {arr : Array Value} {t : TypeId} {fr : Nat × Nat}
theorem cell_at' (h : w.heap[b]? = some (.cells arr t fr)) : w.cell? ⟨b, o, none⟩ = arr[o]? := by simp [World.cell?, h]
theorem frozen_at' (h : w.heap[b]? = some (.cells arr t fr)) : w.frozen? ⟨b, o, none⟩ = (decide (fr.1 ≤ o) && decide (o < fr.2)) := by simp [World.frozen?, h]
theorem ready_set' (h : Ready0 w) {a : Addr} : Ready0 (w.setCell a x) := by
  intro r c e hr
  rw [setCell_get] at hr
  split at hr
  · cases hh : w.heap[r]? with
    | none => rw [hh] at hr; cases hr
    | some y => rw [hh] at hr; cases y <;> first | (simp [setF] at hr; done) | (exact h r c e (by rw [hh]; simpa [setF] using hr))
  · exact h r c e hr
theorem puts_set (h : w.heap[b]? = some (.cells arr t fr)) : Puts w (w.setCell ⟨b, o, none⟩ x) b (.cells (arr.setIfInBounds o x) t fr) :=
  ⟨World.size_setCell _ _ _, by rw [setCell_get, if_pos rfl, h]; rfl, fun b' hb => by rw [setCell_get, if_neg hb], fun r => ready_set' r⟩
theorem Puts.then {v w u : World} {o₁ o₂ : Obj} (h : Puts v w b o₁) (g : Puts w u b o₂) : Puts v u b o₂ :=
  ⟨g.size.trans h.size, g.at_, fun b' hb => (g.other b' hb).trans (h.other b' hb), fun r => g.ready (h.ready r)⟩
theorem ready_push' (h : Ready0 w) {c : Array Value} : Ready0 (w.alloc (.cells c t fr)) := by
  intro r x y hr
  have e : (w.alloc (.cells c t fr)).heap = w.heap.push (.cells c t fr) := rfl
  rw [e, Array.getElem?_push] at hr
  split at hr
  · cases hr
  · exact h r x y hr
theorem grow_alloc {c : Array Value} : Grow w (w.alloc (.cells c t fr)) := by
  have e : (w.alloc (.cells c t fr)).heap = w.heap.push (.cells c t fr) := rfl
  refine ⟨by rw [e]; simp, fun b hb => ?_, fun r => ready_push' r⟩
  rw [e, Array.getElem?_push, if_neg (by omega)]
end
theorem store_step {P : Program} {v : World} {B O : Nat} {x y : Value} {arr : Array Value} {t : TypeId} (hB : v.heap[B]? = some (.cells arr t (0, 0))) (hc : arr[O]? = some x) (hk : flatK y = true) :
    ∃ v1, Puts v v1 B (.cells (arr.setIfInBounds O y) t (0, 0)) ∧ ∀ tt d, (store ⟨B, O, none⟩ y).run P (v.re tt d) = .ok () (v1.re tt d) :=
  ⟨_, puts_set hB, fun tt d => store_one (w := v.re tt d) ((cell_at' hB).trans hc) ((frozen_at' hB).trans (by simp)) hk⟩
section
variable {P : Program} {S : Addr → Prop} {main : Bool} {Stop : Goroutine → World → Prop} {N : Nat} {D : List Deferred} {e : Env}
variable {b : Frame} {a : Act} {k : List Item} {cs : List Frame} {v : World}
variable {L : Allow} {ops : Array Oper} {Lv : List (Option Nat × Op × Option (Nat × Bool))} {i : Nat} {rest : List Nat} {d : Nat} {op : Op}
/-- The waiting frame goes on. -/
theorem hold_fin {c : Frame} {x : Value} {its : List Item} {e' : Value → Env} (h : ∀ x, ∃ a', AtE N D (e' x) a' ∧ c.finish x = b.at a' its) (H : ∀ a', AtE N D (e' x) a' → Hold P main S Stop (G (b.at a' its) cs) v) : Hold P main S Stop (G (c.finish x) cs) v := by
  obtain ⟨a', h1, h2⟩ := h x
  rw [h2]; exact H a' h1
/-- A call of a function: into the callee; the waiting frame is left open. -/
theorem h_callc (hb : b.kind ≠ .early) (hl : ops.toList.map view = Lv) {f : FuncId} {qs : Array Operand} {ats : Array TypeId} (hi : Lv[i]? = some (some d, .call { callee := .value (.func f), args := qs, argTypes := ats }, none)) (hd : d < N) (hat : AtE N D e a)
    {fn : Func} (hf : P.funcs[f]? = some fn) (hbd : fn.body.isSome = true) (hn : (fn.name == "runtime.NumGoroutine") = false) {vals : Array Value} (ha : qs.toList.map (opv e) = vals.toList.map some)
    (H : ∀ c : Frame, (∀ x, ∃ a', AtE N D ((d, x) :: e) a' ∧ c.finish x = b.at a' (.inRegion ops rest :: k)) → Hold P main S Stop (G (Frame.enter P f vals .normal) (c :: cs)) v) : Hold P main S Stop (G (b.at a (.inRegion ops (i :: rest) :: k)) cs) v := by
  refine h_callv hb hl hi hat (f := f) (cap := #[]) rfl ha hf hbd hn ?_
  rw [Array.append_empty]
  exact H _ (back_val hl hi hd hat)
/-- A call of a function value. -/
theorem h_callcv (hb : b.kind ≠ .early) (hl : ops.toList.map view = Lv) {q : Operand} {qs : Array Operand} {ats : Array TypeId} (hi : Lv[i]? = some (some d, .call { callee := .value q, args := qs, argTypes := ats }, none)) (hd : d < N) (hat : AtE N D e a)
    {f : FuncId} {fn : Func} {cap vals : Array Value} (hq : opv e q = some (.func (.func f) #[] cap)) (ha : qs.toList.map (opv e) = vals.toList.map some) (hf : P.funcs[f]? = some fn) (hbd : fn.body.isSome = true) (hn : (fn.name == "runtime.NumGoroutine") = false)
    (H : ∀ c : Frame, (∀ x, ∃ a', AtE N D ((d, x) :: e) a' ∧ c.finish x = b.at a' (.inRegion ops rest :: k)) → Hold P main S Stop (G (Frame.enter P f (vals ++ cap) .normal) (c :: cs)) v) : Hold P main S Stop (G (b.at a (.inRegion ops (i :: rest) :: k)) cs) v :=
  h_callv hb hl hi hat hq ha hf hbd hn (H _ (back_val hl hi hd hat))
/-- A new block. -/
theorem h_new (hA : ∀ f ∈ L.A, AtomOk P f) (hb : b.kind ≠ .early) (hl : ops.toList.map view = Lv) (hi : Lv[i]? = some (some d, op, none)) (hok : opOk P L op = true) (hd : d < N) (hat : AtE N D e a) {c : Array Value} {t : TypeId} {fr : Nat × Nat} (hrun : RunsTo P e op v (.value (.pointer (some ⟨v.heap.size, 0, none⟩))) (v.alloc (.cells c t fr)))
    (H : ∀ v' a' B, v.heap.size = B → v'.heap.size = B + 1 → Grow v v' → v'.heap[B]? = some (.cells c t fr) → AtE N D ((d, .pointer (some ⟨B, 0, none⟩)) :: e) a' → Hold P main S Stop (G (b.at a' (.inRegion ops rest :: k)) cs) v') : Hold P main S Stop (G (b.at a (.inRegion ops (i :: rest) :: k)) cs) v :=
  h_val hA hb hl hi hok hd hat hrun fun a' hat' => H _ a' _ rfl (by show (v.heap.push _).size = _; simp) grow_alloc (by show (v.heap.push _)[_]? = _; simp) hat'
/-- A store. -/
theorem h_put (hA : ∀ f ∈ L.A, AtomOk P f) (hb : b.kind ≠ .early) (hl : ops.toList.map view = Lv) (hi : Lv[i]? = some (none, op, none)) (hok : opOk P L op = true) (hat : AtE N D e a) {B : Nat} {o : Obj} (hrun : ∃ v', RunsTo P e op v .skip v' ∧ Puts v v' B o)
    (H : ∀ v' a', Puts v v' B o → v'.heap[B]? = some o → AtE N D e a' → Hold P main S Stop (G (b.at a' (.inRegion ops rest :: k)) cs) v') : Hold P main S Stop (G (b.at a (.inRegion ops (i :: rest) :: k)) cs) v := by
  obtain ⟨v', h1, h2⟩ := hrun
  exact h_skip hA hb hl hi hok hat h1 fun a' hat' => H v' a' h2 h2.at_ hat'
/-- Of one cell. -/
theorem p_store {ty : TypeId} {q q' : Operand} {B O : Nat} {x y : Value} {arr : Array Value} {t : TypeId} {fr : Nat × Nat} (hk : Store1 P ty) (h : opv e q = some (.pointer (some ⟨B, O, none⟩))) (hy : opv e q' = some y) (h1 : oneK y = true) (hB : v.heap[B]? = some (.cells arr t fr)) (hc : arr[O]? = some x) (hf : (decide (fr.1 ≤ O) && decide (O < fr.2)) = false) :
    ∃ v', RunsTo P e (.store ty q q') v .skip v' ∧ Puts v v' B (.cells (arr.setIfInBounds O y) t fr) :=
  ⟨_, r_store hk h hy h1 ((cell_at' hB).trans hc) ((frozen_at' hB).trans hf), puts_set hB⟩
theorem hold_condT {c : Operand} {x y : Code} {t : Bool} (h : a.eval c = .bool t) (ht : t = true) (H : Hold P main S Stop (G (b.at a (.code x :: k)) cs) v) : Hold P main S Stop (G (b.at a (.code (.cond c x y) :: k)) cs) v := hold_cond h (by subst ht; exact H)
theorem hold_condF {c : Operand} {x y : Code} {t : Bool} (h : a.eval c = .bool t) (ht : t = false) (H : Hold P main S Stop (G (b.at a (.code y :: k)) cs) v) : Hold P main S Stop (G (b.at a (.code (.cond c x y) :: k)) cs) v := hold_cond h (by subst ht; exact H)
theorem hold_unf {c c' : Code} (h : c = c') (H : Hold P main S Stop (G (b.at a (.code c' :: k)) cs) v) : Hold P main S Stop (G (b.at a (.code c :: k)) cs) v := by rw [h]; exact H
theorem ne_new {b' B : Nat} {o : Obj} (h : v.heap[b']? = some o) (hB : v.heap.size = B) : b' ≠ B := fun e => by have := lt_heap h; omega
/-! ### what operations give -/
theorem r_extract {q : Operand} {xs : Array Value} {n : Nat} {y : Value} (h : opv e q = some (.tuple xs)) (hy : xs[n]? = some y) : RunsTo P e (.extract q n) v (.value y) v := fun ρ o hρ ho t d => by
  simp only [execOp, ho, hρ _ _ h]; simp [go_sem, binOp, Op.intDiv, hy]
def LenK (P : Program) (t : TypeId) : Prop := ∀ (w : World) (ot : TypeId) (ad : Option Addr) (n c : Nat), (Builtin.len_ #[t] ot #[.slice ad n c]).run P w = .ok (.int .i64 n) w
theorem r_len {q : Operand} {ad : Option Addr} {n c : Nat} {ty : TypeId} (hk : LenK P ty) (h : opv e q = some (.slice ad n c)) : RunsTo P e (.call { callee := .builtin .len, args := #[q], argTypes := #[ty] }) v (.value (.int .i64 n)) v := fun ρ o hρ ho t d => by
  simp only [execOp, ho]; simp [go_sem, hρ _ _ h, hk _ _ _ _ _]
section ints
variable {q q' : Operand} {x y : Int} {t t' : TypeId} {kd kd' : IntKind}
theorem r_lss (h : opv e q = some (.int kd x)) (h' : opv e q' = some (.int kd y)) : RunsTo P e (.binOp .lss t q q' t') v (.value (.bool (decide (x < y)))) v := fun ρ o hρ ho t d => by
  simp only [execOp, ho, hρ _ _ h, hρ _ _ h']; simp [go_sem, binOp, Op.intCmp, Op.intArith]
theorem r_leq (h : opv e q = some (.int kd x)) (h' : opv e q' = some (.int kd y)) : RunsTo P e (.binOp .leq t q q' t') v (.value (.bool (decide (x ≤ y)))) v := fun ρ o hρ ho t d => by
  simp only [execOp, ho, hρ _ _ h, hρ _ _ h']; simp [go_sem, binOp, Op.intCmp, Op.intArith]
theorem r_gtr (h : opv e q = some (.int kd x)) (h' : opv e q' = some (.int kd y)) : RunsTo P e (.binOp .gtr t q q' t') v (.value (.bool (decide (x > y)))) v := fun ρ o hρ ho t d => by
  simp only [execOp, ho, hρ _ _ h, hρ _ _ h']; simp [go_sem, binOp, Op.intCmp, Op.intArith]
theorem r_geq (h : opv e q = some (.int kd x)) (h' : opv e q' = some (.int kd y)) : RunsTo P e (.binOp .geq t q q' t') v (.value (.bool (decide (x ≥ y)))) v := fun ρ o hρ ho t d => by
  simp only [execOp, ho, hρ _ _ h, hρ _ _ h']; simp [go_sem, binOp, Op.intCmp, Op.intArith]
theorem r_eql (h : opv e q = some (.int kd x)) (h' : opv e q' = some (.int kd y)) : RunsTo P e (.binOp .eql t q q' t') v (.value (.bool (x == y))) v := fun ρ o hρ ho t d => by
  simp only [execOp, ho, hρ _ _ h, hρ _ _ h']; simp [go_sem, binOp, Op.intCmp, Op.intArith]
theorem r_neq (h : opv e q = some (.int kd x)) (h' : opv e q' = some (.int kd y)) : RunsTo P e (.binOp .neq t q q' t') v (.value (.bool (x != y))) v := fun ρ o hρ ho t d => by
  simp only [execOp, ho, hρ _ _ h, hρ _ _ h']; simp [go_sem, binOp, Op.intCmp, Op.intArith]
theorem r_add (h : opv e q = some (.int .i64 x)) (h' : opv e q' = some (.int .i64 y)) (hr : -9223372036854775808 ≤ x + y ∧ x + y ≤ 9223372036854775807) : RunsTo P e (.binOp .add t q q' t') v (.value (.int .i64 (x + y))) v := fun ρ o hρ ho t d => by
  simp only [execOp, ho, hρ _ _ h, hρ _ _ h']; simp [go_sem, binOp, Op.intArith, IntWalk.i64_in (x + y) hr]
theorem r_sub (h : opv e q = some (.int .i64 x)) (h' : opv e q' = some (.int .i64 y)) (hr : -9223372036854775808 ≤ x - y ∧ x - y ≤ 9223372036854775807) : RunsTo P e (.binOp .sub t q q' t') v (.value (.int .i64 (x - y))) v := fun ρ o hρ ho t d => by
  simp only [execOp, ho, hρ _ _ h, hρ _ _ h']; simp [go_sem, binOp, Op.intArith, IntWalk.i64_in (x - y) hr]
theorem r_rem (h : opv e q = some (.int kd x)) (h' : opv e q' = some (.int kd y)) (hy : y ≠ 0) : RunsTo P e (.binOp .rem t q q' t') v (.value (.int kd (x.tmod y))) v := fun ρ o hρ ho t d => by
  simp only [execOp, ho, hρ _ _ h, hρ _ _ h']; simp [go_sem, binOp, Op.intDiv, hy]
theorem r_shl (h : opv e q = some (.int kd x)) (h' : opv e q' = some (.int kd' y)) (hy : 0 ≤ y) : RunsTo P e (.binOp .shl t q q' t') v (.value (.int kd (kd.wrap (x * 2 ^ (min y.toNat kd.bits))))) v := fun ρ o hρ ho t d => by
  simp only [execOp, ho, hρ _ _ h, hρ _ _ h']; simp [go_sem, binOp, Op.shift, Int.not_lt.2 hy]
theorem r_shr (h : opv e q = some (.int kd x)) (h' : opv e q' = some (.int kd' y)) (hy : 0 ≤ y) : RunsTo P e (.binOp .shr t q q' t') v (.value (.int kd (x.fdiv (2 ^ (min y.toNat kd.bits))))) v := fun ρ o hρ ho t d => by
  simp only [execOp, ho, hρ _ _ h, hρ _ _ h']; simp [go_sem, binOp, Op.shift, Int.not_lt.2 hy]
end ints
theorem r_not {q : Operand} {x : Bool} {t : TypeId} (h : opv e q = some (.bool x)) : RunsTo P e (.unOp .not t q) v (.value (.bool !x)) v := fun ρ o hρ ho t d => by
  simp only [execOp, ho, hρ _ _ h]; simp [go_sem]
def NilK (P : Program) (t : TypeId) : Prop := ∀ (w : World) (p : Option Addr), (Op.equal t (.pointer p) (.pointer none)).run P w = .ok p.isNone w
theorem r_isnil {q : Operand} {p : Option Addr} {t t' : TypeId} (hk : NilK P t) (h : opv e q = some (.pointer p)) : RunsTo P e (.binOp .eql t q (.const (.pointer none)) t') v (.value (.bool p.isNone)) v := fun ρ o hρ ho tt d => by
  have h2 := hρ (.const (.pointer none)) _ rfl
  simp only [execOp, ho, hρ _ _ h, h2]; simp [go_sem, binOp, hk _ p]
theorem r_notnil {q : Operand} {p : Option Addr} {t t' : TypeId} (hk : NilK P t) (h : opv e q = some (.pointer p)) : RunsTo P e (.binOp .neq t q (.const (.pointer none)) t') v (.value (.bool p.isSome)) v := fun ρ o hρ ho tt d => by
  have h2 := hρ (.const (.pointer none)) _ rfl
  simp only [execOp, ho, hρ _ _ h, h2]; simp [go_sem, binOp, hk _ p]
/-- Of a slice's element, k cells each. -/
def IndexK (P : Program) (t : TypeId) (kk : Nat) : Prop := ∀ (w : World) (b o n c : Nat) (i : Int) (kd : IntKind), 0 ≤ i → i < n → (Instr.indexAt t (.slice (some ⟨b, o, none⟩) n c) (.int kd i)).run P w = .ok (.pointer (some ⟨b, o + i.toNat * kk, none⟩)) w
theorem r_index {t : TypeId} {q q' : Operand} {kk B O n c : Nat} {x : Int} {kd : IntKind} (hk : IndexK P t kk) (h : opv e q = some (.slice (some ⟨B, O, none⟩) n c)) (h' : opv e q' = some (.int kd x)) (h0 : 0 ≤ x) (h1 : x < n) :
    RunsTo P e (.indexAddr t q q') v (.value (.pointer (some ⟨B, O + x.toNat * kk, none⟩))) v := fun ρ o hρ ho t d => by
  simp only [execOp, ho, hρ _ _ h, hρ _ _ h']
  exact run_then (hk _ _ _ _ _ _ _ h0 h1) rfl
end
end Go.Proofs.Ytecdiejeofclaaa

