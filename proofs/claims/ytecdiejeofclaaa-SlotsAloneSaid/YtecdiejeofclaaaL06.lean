/- SlotsAlone returns true, whatever the number of slots and the calls, and leaves its arguments alone. -/
import Derived.Test.YtecdiejeofclaaaL05
import Derived.KernelRfl
import Derived.Laws.StructEq
import Derived.Below
import Derived.Test.YtecdiejeofclaaaRows
import Derived.Conc.LeavingOf
import Derived.Conc.Holds
import Derived.Carry
import Derived.ChangeSlices
import Derived.Deep.Slices
import Derived.Lib.SmallJoins
import Derived.RowKit
set_option linter.all false
/- slots.Play's closure: what a call does. -/
namespace Go.Proofs.Ytecdiejeofclaaa
open Go Go.Conc
section
variable {H i : Nat} {Fin : List (Int × Int) → Gho → World → Prop} {N : Nat} {D : List Deferred} {b : Frame} {k : List Item} {cs : List Frame} {ops : Array Oper} {ord bigs l : List Nat} {e : Env} {s : PS} {a : Act}
variable {L : Allow} {Lv : List (Option Nat × Op × Option (Nat × Bool))} {j : Nat} {op : Op}
/-- It writes, behind all that stand ahead of it. -/
theorem tp_put (hA : ∀ f ∈ L.A, AtomOk Try.prog f) (hb : b.kind ≠ .early) (hl : ops.toList.map view = Lv) (hi : Lv[j]? = some (none, op, none)) (hok : opOk Try.prog L op = true) (hbig : bigs.contains j = true) (hfull : fullB ops ord j = true) {B : Nat} {o : Obj} (hrun : ∃ v', RunsTo Try.prog (restr e op) op s.w .skip v' ∧ Puts s.w v' B o)
    (HT : ∀ v', Puts s.w v' B o → v'.heap[B]? = some o → Tx (XP i Fin) (RP H i) Eq N D b k cs ops ord bigs l e ⟨s.Γ0, s.v0, s.Γ, s.A, s.p, v'⟩) : Tx (XP i Fin) (RP H i) Eq N D b k cs ops ord bigs (j :: l) e s := by
  obtain ⟨oo, ho, hdst, hop, hgd⟩ := at_viewg hl hi
  obtain ⟨v', h1, h2⟩ := hrun
  unfold Tx
  rw [if_pos hbig]
  refine ⟨oo, ho, hgd, ?_⟩
  rintro _ a rest rfl hat K
  rw [hop] at hat
  refine HP.walk (hold_unitW hA hb ho (wanted_of hgd _) (by rw [hop]; exact hok) fun t dd => ⟨_, h1 _ oo (fun q z hz => hat.eval hz) hop t dd, ?_⟩)
  refine Hold.re (HP.stop (K ⟨s.Γ0, s.v0, s.Γ, s.A, s.p, v'⟩ undef (.inl hfull) ?_)) t dd
  rw [hdst]; exact HT v' h2 h2.at_
end
abbrev slotsV (bx bh : Nat) : Value := .func (.func 26) #[] #[.pointer (some ⟨bx, 0, none⟩), .pointer (some ⟨bh, 0, none⟩)]
/-- All that a call finds. -/
structure PEnv (i bx bh Bh nh ch s gN gU cn cu n : Nat) (aN aU : Option Addr) (cbf : Nat → Nat) (hand : List Int) (Γ : Gho) (v : World) : Prop where
  bx : v.heap[bx]? = some (.cells #[.pointer (some ⟨s, 0, none⟩)] 43 (0, 0)) ∧ Γ.own bx = .const
  bh : v.heap[bh]? = some (.cells #[.slice (some ⟨Bh, 0, none⟩) nh ch] 63 (0, 0)) ∧ Γ.own bh = .const
  env : SEnv s gN gU cn cu n aN aU cbf Γ v
  hand : HandAt i Bh hand Γ v
theorem PEnv.keep {i bx bh Bh nh ch s gN gU cn cu n : Nat} {aN aU : Option Addr} {cbf : Nat → Nat} {hand hand' : List Int} {Γ Γ' : Gho} {v v' : World} (h : PEnv i bx bh Bh nh ch s gN gU cn cu n aN aU cbf hand Γ v) (hS : StayC Γ v Γ' v') (hH : HandAt i Bh hand' Γ' v') : PEnv i bx bh Bh nh ch s gN gU cn cu n aN aU cbf hand' Γ' v' :=
  ⟨⟨(hS.keep _ _ _ _ h.bx.1 h.bx.2 (by decide)).trans h.bx.1, (hS.own _ (lt_of_heap h.bx.1)).trans h.bx.2⟩, ⟨(hS.keep _ _ _ _ h.bh.1 h.bh.2 (by decide)).trans h.bh.1, (hS.own _ (lt_of_heap h.bh.1)).trans h.bh.2⟩, h.env.keep hS, hH⟩
theorem zip_snoc {α β : Type} : ∀ (l : List α) (m : List β) (x : α) (y : β), l[m.length]? = some x → l.zip (m ++ [y]) = l.zip m ++ [(x, y)]
  | [], m, x, y, h => by cases h
  | a :: l, [], x, y, h => by simp at h; simp [h]
  | a :: l, b :: m, x, y, h => by
    have := zip_snoc l m x y (by simpa using h)
    simp [this]
theorem handOf_snoc {l : List ACall} {acc : List (Int × Int)} {x : ACall} (r : Int × Int) (h : l[acc.length]? = some x) : handOf l (acc ++ [r]) = handStep (handOf l acc) x r := by
  unfold handOf
  rw [zip_snoc l acc x r h, List.foldl_append]; rfl
theorem handFold_length : ∀ (z : List (ACall × (Int × Int))) (hd : List Int), (z.foldl (fun hd p => handStep hd p.1 p.2) hd).length ≤ hd.length + z.length
  | [], hd => by simp
  | p :: z, hd => by
    have h := handFold_length z (handStep hd p.1 p.2)
    have h2 : (handStep hd p.1 p.2).length ≤ hd.length + 1 := by
      unfold handStep
      split
      · split <;> simp
      · split
        · simp; omega
        · omega
    simp only [List.foldl_cons, List.length_cons]
    omega
theorem handOf_length (l : List ACall) (acc : List (Int × Int)) : (handOf l acc).length ≤ l.length := by
  have h := handFold_length (l.zip acc) []
  have h2 : (l.zip acc).length ≤ l.length := by rw [List.length_zip]; omega
  simp only [List.length_nil] at h
  unfold handOf
  omega
theorem slots_do {i : Nat} {Fin : List (Int × Int) → Gho → World → Prop} (f : Nat) {bx bh Bh nh ch s gN gU cn cu n : Nat} {aN aU : Option Addr} {cbf : Nat → Nat} {l : List ACall} (hl : l.length ≤ 64) (hin : i < nh) :
    DoSpec i Fin (slotsV bx bh) (fun acc => slotsP f n (handOf l acc)) (fun acc => PEnv i bx bh Bh nh ch s gN gU cn cu n aN aU cbf (handOf l acc)) l Bh := by
  refine ⟨_, _, _, rfl, slPlayF_fn, slPlayF_bd, slPlayF_nm, fun _ Γ v Γ' v' h hR => h.keep hR.stay (h.hand.keep hR), fun _ Γ v Γ' v' h hR => h.keep hR.stay (h.hand.ans hR), fun acc x Γ0 v0 Γ_ A v c cs k hx hW hG hil hE hK => ?_⟩
  have hT := (TS.start hW hG hil).toI Bh
  have hlen : (handOf l acc).length ≤ 1000 := Nat.le_trans (handOf_length l acc) (by omega)
  obtain ⟨FX, own_FX⟩ := hE.bx
  obtain ⟨FH, own_FH⟩ := hE.bh
  generalize hTb : Γ_.tb i = T
  have hxv : acallV x = .agg #[.int .i64 x.op, .int .i64 x.a, .int .i64 x.b, .int .i64 x.c] := rfl
  have hargs : (#[.pointer (some ⟨T, 0, none⟩), acallV x] ++ #[.pointer (some ⟨bx, 0, none⟩), .pointer (some ⟨bh, 0, none⟩)] : Array Value) = #[.pointer (some ⟨T, 0, none⟩), .agg #[.int .i64 x.op, .int .i64 x.a, .int .i64 x.b, .int .i64 x.c], .pointer (some ⟨bx, 0, none⟩), .pointer (some ⟨bh, 0, none⟩)] := rfl
  rw [hargs]
  change HP i Fin (slotsP f n (handOf l acc) x k) Γ0 v0 A _ v
  generalize hp : slotsP f n (handOf l acc) x k = p
  refine HP.walk ?_
  obtain ⟨b, a, hEq, hb, hbf, hat⟩ := enter_is slPlayF_fn slPlayF_body slPlayF_tmps #[.pointer (some ⟨T, 0, none⟩), .agg #[.int .i64 x.op, .int .i64 x.a, .int .i64 x.b, .int .i64 x.c], .pointer (some ⟨bx, 0, none⟩), .pointer (some ⟨bh, 0, none⟩)] [(0, .pointer (some ⟨T, 0, none⟩)), (1, .agg #[.int .i64 x.op, .int .i64 x.a, .int .i64 x.b, .int .i64 x.c]), (2, .pointer (some ⟨bx, 0, none⟩)), (3, .pointer (some ⟨bh, 0, none⟩))] rfl (by simp)
  rw [hEq]
  have hbk := not_early hb
  refine hold_unf slPlayF_code_def ?_
  have hHA := hE.hand
  refine hold_seq <| hold_region (l := [0,1]) rfl <| h_new noA hbk slPlayF_0 rfl rfl (by decide) hat (bx_39 rfl) fun v a B5 hB5 hsB5 hg F5 hat => ?_
  have n_F5_FX := ne_new FX hB5
  have n_F5_FH := ne_new FH hB5
  obtain ⟨Γ, hT, hR, own_F5, gB5, hO⟩ := hT.new hB5 hg
  replace own_FX := hO _ _ (lt_heap FX) own_FX
  replace own_FH := hO _ _ (lt_heap FH) own_FH
  replace FX := hg.at FX
  replace FH := hg.at FH
  replace hHA := hHA.keep hR
  refine h_new noA hbk slPlayF_0 rfl rfl (by decide) hat al_37 fun v a B6 hB6 hsB6 hg F6 hat => ?_
  have n_F6_FX := ne_new FX hB6
  have n_F6_FH := ne_new FH hB6
  have n_F6_F5 := ne_new F5 hB6
  obtain ⟨Γ, hT, hR, own_F6, gB6, hO⟩ := hT.new hB6 hg
  replace own_FX := hO _ _ (lt_heap FX) own_FX
  replace own_FH := hO _ _ (lt_heap FH) own_FH
  replace own_F5 := hO _ _ (lt_heap F5) own_F5
  replace FX := hg.at FX
  replace FH := hg.at FH
  replace F5 := hg.at F5
  refine hold_region_end <| hold_seq ?_
  replace hHA := hHA.keep hR
  refine HP.stop (hp_draw (H := Bh) (s := ⟨Γ0, v0, Γ, A, _, v⟩) (ord := [0,1,2,3,4,5,6,7,8]) (bigs := [5,7,8]) (by kernel_rfl) (by kernel_rfl) hat ?_)
  refine tp_val noA hbk slPlayF_1 rfl rfl rfl (fun sX hR => (r_load ld_43 rfl (cell_at' ((hR.keep _ (lt_heap FX) (.inl own_FX)).trans FX)))) <| tp_val noA hbk slPlayF_1 rfl rfl rfl (fun sX hR => (r_move rfl)) <| tp_val noA hbk slPlayF_1 rfl rfl rfl (fun sX hR => (lg_39 rfl (cell_at' ((hR.keep _ (lt_heap F5) (.inr ⟨own_F5, (fun ⟨c, fr, e⟩ => by rw [F5] at e; simp at e)⟩)).trans F5)) (cell_at' ((hR.keep _ (lt_heap F5) (.inr ⟨own_F5, (fun ⟨c, fr, e⟩ => by rw [F5] at e; simp at e)⟩)).trans F5)) (cell_at' ((hR.keep _ (lt_heap F5) (.inr ⟨own_F5, (fun ⟨c, fr, e⟩ => by rw [F5] at e; simp at e)⟩)).trans F5)) (cell_at' ((hR.keep _ (lt_heap F5) (.inr ⟨own_F5, (fun ⟨c, fr, e⟩ => by rw [F5] at e; simp at e)⟩)).trans F5)))) <| tp_val noA hbk slPlayF_1 rfl rfl rfl (fun sX hR => (r_load ld_63 rfl (cell_at' ((hR.keep _ (lt_heap FH) (.inl own_FH)).trans FH)))) <| tp_val noA hbk slPlayF_1 rfl rfl rfl (fun sX hR => (r_move rfl)) ?_
  have hth := (hT.wi.th i A.ths[i] (by simp [hil])).1
  have hTb' := hT.rely.same.2.2.2.1.trans hTb
  rw [hTb'] at hth
  refine tp_call hbk slPlayF_1 rfl rfl Id_fn Id_bd Id_nm (vals := #[_]) rfl (fun c KK => ?_)
  refine HP.walk (Id_hold hth rfl (HP.stop ?_))
  have hR := Rely.refl i Γ v
  refine KK _ ⟨Γ0, v0, Γ, A, _, v⟩ (hR.toI _) <| tp_val noA hbk slPlayF_1 rfl rfl rfl (fun sX hR => (r_index (kk := 1) (B := Bh) (n := nh) ix_63 rfl rfl (by omega) (by omega))) ?_
  refine tp_call hbk slPlayF_1 rfl rfl slCall_fn slCall_bd slCall_nm (vals := #[_, _, _, _]) rfl (fun c KK => ?_)
  have hidx : (0 : Nat) + (i : Int).toNat * 1 = i := by omega
  rw [hidx, ← hTb', ← hp]
  change HP i Fin (slotsP f n (handOf l acc) x k) Γ0 v0 A (G (Frame.enter Try.prog 27 #[.pointer (some ⟨s, 0, none⟩), .pointer (some ⟨Γ.tb i, 0, none⟩), acallV x, .pointer (some ⟨Bh, i, none⟩)] .normal) (c :: _ :: cs)) v
  refine slcall_hp f x hT.wi hT.guar hT.lt (hE.env.keep hT.rely.stay) hHA hlen _ _ fun r => ?_
  intro Γ0 v0 Γ v A hR hW hi hG hHV
  replace hT := hT.later hR hW hi hG
  have own_x := (hR.own _ (lt_heap F6)).trans own_F6
  replace F6 := (hR.keep _ (lt_heap F6) (.inr ⟨own_F6, fun ⟨c, fr, e⟩ => by rw [F6] at e; simp at e⟩)).trans F6
  replace own_F6 := own_x; clear own_x
  refine KK (ansV r) ⟨Γ0, v0, Γ, A, _, v⟩ hR <| tp_put noA hbk slPlayF_1 rfl rfl rfl (by kernel_rfl) (pg_37 rfl rfl F6 rfl rfl rfl rfl rfl) fun v hP F6x => ?_
  obtain ⟨hv, hHV⟩ := hHV
  have hne6 : B6 ≠ Bh := fun e => by have h8 := own_F6; rw [e, hHV.row.2] at h8; cases h8
  obtain ⟨Γ, hT, hΓ1, hΓ2, hΓ3, hO⟩ := hT.put hP gB6 own_F6
  replace hHV := hHV.other hP F6 (by decide) hne6 hO
  have F6 := F6x
  refine tp_end fun a hat => HP.walk <| hold_region_end ?_
  refine hold_retdV hb hbf slPlayF_fn hat.defers (ret_cell1 slPlayF_res hat rfl (var_answer (cell_at' F6) (cell_at' F6))) (HP.stop ?_)
  refine hK r _ _ _ _ _ hT.rely hT.wi hT.lt hT.guar (hE.keep hT.rely.stay ?_)
  rw [handOf_snoc r hx]
  exact ⟨hv, hHV⟩
end Go.Proofs.Ytecdiejeofclaaa


/- A cell is made, and its place appended to a row that a block holds. -/
namespace Go.Proofs.Ytecdiejeofclaaa
open Go Go.Conc
abbrev cRow (cb : Nat → Nat) (k : Nat) : List Value := (List.range k).map fun j => .pointer (some ⟨cb j, 0, none⟩)
theorem cRow_snoc {cb cb' : Nat → Nat} {k : Nat} (h : ∀ j, j < k → cb' j = cb j) : cRow cb' (k + 1) = cRow cb k ++ [.pointer (some ⟨cb' k, 0, none⟩)] := by
  unfold cRow
  rw [List.range_succ, List.map_append, List.map_cons, List.map_nil]
  congr 1
  exact List.map_congr_left fun j hj => by rw [h j (List.mem_range.1 hj)]
theorem push_state {W n m k B C g cap : Nat} {x0 : Int} {rv us la tv tr st ran ch cv0 cv cv' lv : Value} {xs row : List Value} {arr arr' : Array Value} {u v v' v2 w v5 : World} (hC : Cells W rv us la tv tr st ran ch cv0 n xs u v cv m)
    (hM : Mods (fun b => b = W ∨ cv.ownBlock = some b) v v') (hw' : v'.heap[W]? = some (.cells #[rv, us, la, cv', tv, tr, st, ran, ch] 74 (0, 0))) (ho' : v'.ownsRow 0 3 1 cv' (n + m + 1) ((xs ++ List.replicate m (.int .i64 0)) ++ [.int .i64 0])) (hown' : cv'.ownBlock = cv.ownBlock ∨ ∀ b, cv'.ownBlock = some b → v.heap.size ≤ b)
    (hB : v.heap.size ≤ B) (hB' : v'.heap[B]? = some (.cells #[.int .i64 ((n + m : Nat) : Int), .int .i64 x0] 100 (0, 0))) (hg : Grow v' v2) (hl : v.ownsRow 0 77 1 lv k row) (hlow : ∀ b, lv.ownBlock = some b → u.heap.size ≤ b)
    (hAp : Apped v2 lv 77 1 (k + 1) (row ++ [.pointer (some ⟨B, 0, none⟩)]) g cap w) (hCs : v.heap[C]? = some (.cells arr 81 (0, 0))) (hP : Puts w v5 C (.cells arr' 81 (0, 0))) (hCu : u.heap.size ≤ C) :
    Cells W rv us la tv tr st ran ch cv0 n xs u v5 cv' (m + 1) ∧ v5.ownsRow 0 77 1 (.slice (some ⟨g, 0, none⟩) (k + 1) cap) (k + 1) (row ++ [.pointer (some ⟨B, 0, none⟩)]) ∧ u.heap.size ≤ g ∧ (lv.ownBlock = some g ∨ v.heap.size ≤ g) ∧
    (∀ (x : Nat) (c : Array Value) (t : TypeId) (fr : Nat × Nat), v.heap[x]? = some (.cells c t fr) → t ≠ 74 → t ≠ 3 → t ≠ 77 → t ≠ 81 → v5.heap[x]? = some (.cells c t fr)) ∧
    (∀ lo k' row', v.ownsRow 0 77 1 lo k' row' → (∀ b, lo.ownBlock = some b → lv.ownBlock ≠ some b) → v5.ownsRow 0 77 1 lo k' row') ∧ u.heap.size ≤ B ∧ v5.heap[B]? = some (.cells #[.int .i64 ((n + m : Nat) : Int), .int .i64 x0] 100 (0, 0)) := by
  have nW : ∀ (x : Nat) (arr : Array Value) (t : TypeId) (fr : Nat × Nat), v.heap[x]? = some (.cells arr t fr) → t ≠ 74 → t ≠ 3 → ¬ (x = W ∨ cv.ownBlock = some x) := fun x arr t fr hx h1 h2 h => by
    rcases h with rfl | h
    · rw [hC.w] at hx; cases hx; exact h1 rfl
    · exact own_ne hC.owns hx h2 h
  have hl2 : v2.ownsRow 0 77 1 lv k row := ownsRow_keep hl fun x y hx hy => (hg.at (hM.at (nW _ _ _ _ hy (by decide) (by decide)) hy)).trans hy.symm
  have kp : ∀ (x : Nat) (arr : Array Value) (t : TypeId) (fr : Nat × Nat), v'.heap[x]? = some (.cells arr t fr) → t ≠ 77 → w.heap[x]? = some (.cells arr t fr) := fun x arr t fr hx ht => (hAp.same x (lt_of_heap (hg.at hx)) (own_ne hl2 (hg.at hx) ht)).trans (hg.at hx)
  have hC3 : w.heap[C]? = some (.cells arr 81 (0, 0)) := kp _ _ _ _ (hM.at (nW _ _ _ _ hCs (by decide) (by decide)) hCs) (by decide)
  have kp5 : ∀ (x : Nat) (arr : Array Value) (t : TypeId) (fr : Nat × Nat), w.heap[x]? = some (.cells arr t fr) → t ≠ 81 → v5.heap[x]? = some (.cells arr t fr) := fun x arr t fr hx ht => (hP.other x (fun e => by rw [e, hC3] at hx; cases hx; exact ht rfl)).trans hx
  refine ⟨⟨⟨?_, fun x hx hX => ?_, fun hr => ?_⟩, kp5 _ _ _ _ (kp _ _ _ _ hw' (by decide)) (by decide), ?_, ?_⟩, ownsRow_keep hAp.owns fun x y hx hy => (kp5 _ _ _ _ hy (by decide)).trans hy.symm, ?_, ?_, fun x c t fr hx n1 n2 n3 n4 => kp5 _ _ _ _ (kp _ _ _ _ (hM.at (nW _ _ _ _ hx n1 n2) hx) n3) n4, fun lo k' row' ho hne => ?_, Nat.le_trans hC.mods.size hB, kp5 _ _ _ _ (kp _ _ _ _ hB' (by decide)) (by decide)⟩
  · rw [hP.size]
    exact Nat.le_trans hC.mods.size (Nat.le_trans hM.size (Nat.le_trans hg.size hAp.size))
  · have n1 : lv.ownBlock ≠ some x := fun e => by have := hlow x e; omega
    have n2 : ¬ (x = W ∨ cv.ownBlock = some x) := fun h => by
      rcases h with h | h
      · exact hX (.inl h)
      · rcases hC.where_ with e | e
        · exact hX (.inr (by rw [← e]; exact h))
        · have := e x h; omega
    have l1 := Nat.lt_of_lt_of_le hx hC.mods.size
    have l2 := Nat.lt_of_lt_of_le l1 hM.size
    have l3 := Nat.lt_of_lt_of_le l2 hg.size
    exact (hP.other x (by omega)).trans ((hAp.same x l3 n1).trans ((hg.same x l2).trans ((hM.same x l1 n2).trans (hC.mods.same x hx hX))))
  · exact hP.ready hAp.ready
  · have e : xs ++ List.replicate (m + 1) (.int .i64 0) = (xs ++ List.replicate m (.int .i64 0)) ++ [.int .i64 0] := by rw [List.replicate_succ', List.append_assoc]
    rw [e]
    exact ownsRow_keep ho' fun x y hx hy => (kp5 _ _ _ _ (kp _ _ _ _ hy (by decide)) (by decide)).trans hy.symm
  · rcases hown' with h | h
    · rw [h]; exact hC.where_
    · exact .inr fun x hx => Nat.le_trans hC.mods.size (h x hx)
  · rcases hAp.where_ with e | e
    · exact hlow g e
    · rw [e]; exact Nat.le_trans hC.mods.size (Nat.le_trans hM.size hg.size)
  · exact hAp.where_.imp id fun e => by rw [e]; exact Nat.le_trans hM.size hg.size
  · refine ownsRow_keep ho fun x y hx hy => ?_
    have h1 := hM.at (nW _ _ _ _ hy (by decide) (by decide)) hy
    have h2 := hg.at h1
    exact (kp5 _ _ _ _ ((hAp.same x (lt_of_heap h2) (hne x hx)).trans h2) (by decide)).trans hy.symm
end Go.Proofs.Ytecdiejeofclaaa


/- slots.New. -/
namespace Go.Proofs.Ytecdiejeofclaaa
open Go Go.Conc
/-- With what a cell begins. -/
def slInit (N c : Nat) : Nat := if c = 0 then min N 1 else if c % 2 = 1 then (if (c - 1) / 2 + 1 = N then 0 else (c - 1) / 2 + 2) else 0
/-- Slots, so far as they are made. -/
structure SlotsIn (lo N : Nat) (v : World) (C : Nat) (lN lU : Value) (cb : Nat → Nat) (i d : Nat) : Prop where
  c : v.heap[C]? = some (.cells #[.pointer (some ⟨cb 0, 0, none⟩), lN, lU] 81 (0, 0))
  nx : v.ownsRow 0 77 1 lN (i + d) (cRow (fun j => cb (1 + 2 * j)) (i + d))
  us : v.ownsRow 0 77 1 lU i (cRow (fun j => cb (2 + 2 * j)) i)
  apart : ∀ b, lN.ownBlock = some b → lU.ownBlock ≠ some b
  lows : lo ≤ C ∧ (∀ b, lN.ownBlock = some b → lo ≤ b) ∧ ∀ b, lU.ownBlock = some b → lo ≤ b
  cells : ∀ c, c < 2 * i + 1 + d → lo ≤ cb c ∧ v.heap[cb c]? = some (.cells #[.int .i64 (c : Nat), .int .i64 (slInit N c : Nat)] 100 (0, 0))
abbrev updB (cb : Nat → Nat) (m B : Nat) : Nat → Nat := fun c => if c = m then B else cb c
section
variable {lo N C i B g cap : Nat} {lN lU : Value} {cb : Nat → Nat} {v v5 : World}
theorem SlotsIn.next (h : SlotsIn lo N v C lN lU cb i 0) (hC : v5.heap[C]? = some (.cells #[.pointer (some ⟨cb 0, 0, none⟩), .slice (some ⟨g, 0, none⟩) (i + 1) cap, lU] 81 (0, 0)))
    (hr : v5.ownsRow 0 77 1 (.slice (some ⟨g, 0, none⟩) (i + 1) cap) (i + 1) (cRow (fun j => cb (1 + 2 * j)) i ++ [.pointer (some ⟨B, 0, none⟩)])) (hg : lo ≤ g) (hgw : lN.ownBlock = some g ∨ v.heap.size ≤ g)
    (hk : ∀ (x : Nat) (c : Array Value) (t : TypeId) (fr : Nat × Nat), v.heap[x]? = some (.cells c t fr) → t ≠ 74 → t ≠ 3 → t ≠ 77 → t ≠ 81 → v5.heap[x]? = some (.cells c t fr))
    (ho : ∀ lo k' row', v.ownsRow 0 77 1 lo k' row' → (∀ b, lo.ownBlock = some b → lN.ownBlock ≠ some b) → v5.ownsRow 0 77 1 lo k' row') (hB : lo ≤ B) (hBv : v5.heap[B]? = some (.cells #[.int .i64 ((0 + (2 * i + 1) : Nat) : Int), .int .i64 (slInit N (2 * i + 1) : Nat)] 100 (0, 0))) :
    SlotsIn lo N v5 C (.slice (some ⟨g, 0, none⟩) (i + 1) cap) lU (updB cb (2 * i + 1) B) i 1 := by
  have hap := h.apart
  refine ⟨by simpa [updB] using hC, ?_, ?_, fun b hb hu => ?_, ⟨h.lows.1, fun b hb => by cases hb; exact hg, h.lows.2.2⟩, fun c hc => ?_⟩
  · rw [cRow_snoc (cb := fun j => cb (1 + 2 * j)) (fun j hj => by simp only [updB]; rw [if_neg (by omega)])]
    simpa [updB, Nat.add_comm 1] using hr
  · have e : cRow (fun j => updB cb (2 * i + 1) B (2 + 2 * j)) i = cRow (fun j => cb (2 + 2 * j)) i := List.map_congr_left fun j hj => by have := List.mem_range.1 hj; simp only [updB]; rw [if_neg (by omega)]
    rw [e]
    exact ho _ _ _ h.us fun b hb hn => hap b hn hb
  · cases hb
    rcases hgw with e | e
    · exact hap g e hu
    · have h9 : g < v.heap.size := own_lt h.us hu; omega
  · by_cases e : c = 2 * i + 1
    · subst e
      simp only [updB, if_pos]
      exact ⟨hB, by simpa using hBv⟩
    · simp only [updB, if_neg e]
      obtain ⟨h1, h2⟩ := h.cells c (by omega)
      exact ⟨h1, hk _ _ _ _ h2 (by decide) (by decide) (by decide) (by decide)⟩
theorem SlotsIn.used (h : SlotsIn lo N v C lN lU cb i 1) (hC : v5.heap[C]? = some (.cells #[.pointer (some ⟨cb 0, 0, none⟩), lN, .slice (some ⟨g, 0, none⟩) (i + 1) cap] 81 (0, 0)))
    (hr : v5.ownsRow 0 77 1 (.slice (some ⟨g, 0, none⟩) (i + 1) cap) (i + 1) (cRow (fun j => cb (2 + 2 * j)) i ++ [.pointer (some ⟨B, 0, none⟩)])) (hg : lo ≤ g) (hgw : lU.ownBlock = some g ∨ v.heap.size ≤ g)
    (hk : ∀ (x : Nat) (c : Array Value) (t : TypeId) (fr : Nat × Nat), v.heap[x]? = some (.cells c t fr) → t ≠ 74 → t ≠ 3 → t ≠ 77 → t ≠ 81 → v5.heap[x]? = some (.cells c t fr))
    (ho : ∀ lo k' row', v.ownsRow 0 77 1 lo k' row' → (∀ b, lo.ownBlock = some b → lU.ownBlock ≠ some b) → v5.ownsRow 0 77 1 lo k' row') (hB : lo ≤ B) (hBv : v5.heap[B]? = some (.cells #[.int .i64 ((0 + (2 * i + 2) : Nat) : Int), .int .i64 0] 100 (0, 0))) :
    SlotsIn lo N v5 C lN (.slice (some ⟨g, 0, none⟩) (i + 1) cap) (updB cb (2 * i + 2) B) (i + 1) 0 := by
  have hap := h.apart
  refine ⟨by simpa [updB] using hC, ?_, ?_, fun b hb hu => ?_, ⟨h.lows.1, h.lows.2.1, fun b hb => by cases hb; exact hg⟩, fun c hc => ?_⟩
  · have e : cRow (fun j => updB cb (2 * i + 2) B (1 + 2 * j)) (i + 1) = cRow (fun j => cb (1 + 2 * j)) (i + 1) := List.map_congr_left fun j hj => by have := List.mem_range.1 hj; simp only [updB]; rw [if_neg (by omega)]
    show v5.ownsRow 0 _ 1 lN (i + 1) (cRow (fun j => updB cb (2 * i + 2) B (1 + 2 * j)) (i + 1))
    rw [e]
    exact ho _ _ _ h.nx fun b hb hn => hap b hb hn
  · rw [cRow_snoc (cb := fun j => cb (2 + 2 * j)) (fun j hj => by simp only [updB]; rw [if_neg (by omega)])]
    simpa [updB, Nat.add_comm 2] using hr
  · cases hu
    rcases hgw with e | e
    · exact hap g hb e
    · have h9 : g < v.heap.size := own_lt h.nx hb; omega
  · by_cases e : c = 2 * i + 2
    · subst e
      simp only [updB, if_pos]
      have e0 : slInit N (2 * i + 2) = 0 := by unfold slInit; rw [if_neg (by omega), if_neg (by omega)]
      rw [e0]
      exact ⟨hB, by simpa using hBv⟩
    · simp only [updB, if_neg e]
      obtain ⟨h1, h2⟩ := h.cells c (by omega)
      exact ⟨h1, hk _ _ _ _ h2 (by decide) (by decide) (by decide) (by decide)⟩
end
section
variable {S : Addr → Prop} {main : Bool} {Stop : Goroutine → World → Prop} {cs : List Frame} {c : Frame} {v : World}
theorem slNew_loop {b : Frame} (hbk : b.kind ≠ .early) {k : List Item} {W N C : Nat} {rv us la cv0 tv tr st ran ch : Value} {u : World} (hN : N ≤ 1000)
    (H : ∀ v a cv lN lU cb, Ready0 v → Cells W rv us la tv tr st ran ch cv0 0 [] u v cv (2 * N + 1) → SlotsIn u.heap.size N v C lN lU cb N 0 → AtE 52 [] [(5, .pointer (some ⟨C, 0, none⟩))] a → Hold Try.prog main S Stop (G (b.at a k) cs) v) :
    ∀ (r i : Nat) (v : World) (a : Act) (cv lN lU : Value) (cb : Nat → Nat), i + r = N → Ready0 v → Cells W rv us la tv tr st ran ch cv0 0 [] u v cv (2 * i + 1) → SlotsIn u.heap.size N v C lN lU cb i 0 →
      AtE 52 [] [(18, .int .i64 i), (17, .int .i64 N), (5, .pointer (some ⟨C, 0, none⟩)), (1, .int .i64 N), (0, .pointer (some ⟨W, 0, none⟩))] a → Hold Try.prog main S Stop (G (b.at a (.code slNew_L0 :: .inLoop slNew_L0 :: .inBlock 0 :: k)) cs) v := by
  intro r
  induction r with
  | zero =>
    intro i v a cv lN lU cb hi hrd hC hSh hat
    obtain rfl : i = N := by omega
    refine hold_unf slNew_L0_def <| hold_seq <| hold_region (l := [0]) rfl <| h_val noA hbk slNew_4 rfl rfl (by decide) hat (r_bool (t' := false) (r_lss rfl rfl) (by first | (simp; omega) | (simp; done) | (simp_all; done) | (simp_all; omega))) fun a hat => hold_region_end <| hold_seq <| hold_condF (hat.eval (q := .tmp 19) rfl) rfl <| hold_exit (k' := _) rfl ?_
    exact H v a cv lN lU cb hrd hC hSh (hat.sub (AtE.cons rfl (AtE.nil)))
  | succ r ih =>
    intro i v a cv lN lU cb hi hrd hC hSh hat
    refine hold_unf slNew_L0_def <| hold_seq <| hold_region (l := [0]) rfl <| h_val noA hbk slNew_4 rfl rfl (by decide) hat (r_bool (t' := true) (r_lss rfl rfl) (by first | (simp; omega) | (simp; done) | (simp_all; done) | (simp_all; omega))) fun a hat => hold_region_end <| hold_seq <| hold_condT (hat.eval (q := .tmp 19) rfl) rfl <| hold_skip <| hold_seq <| hold_block <| hold_seq <| hold_region (l := [0,1]) rfl <| h_val noA hbk slNew_5 rfl rfl (by decide) hat (r_move rfl) fun a hat => ?_
    refine h_val noA hbk slNew_5 rfl rfl (by decide) hat (r_assign rfl) fun a hat => hold_region_end <| hold_seq <| hold_region (l := [0,1,2]) rfl <| h_val noA hbk slNew_6 rfl rfl (by decide) hat (r_move rfl) fun a hat => h_val noA hbk slNew_6 rfl rfl (by decide) hat (r_add rfl rfl (by first | omega | (simp; omega))) fun a hat => h_val noA hbk slNew_6 rfl rfl (by decide) hat (r_assign rfl) fun a hat => hold_region_end <| hold_seq <| hold_seq <| hold_region (l := [0,1,2,3]) rfl <| h_val noA hbk slNew_7 rfl rfl (by decide) hat (r_move rfl) fun a hat => h_val noA hbk slNew_7 rfl rfl (by decide) hat (r_move rfl) fun a hat => ?_
    refine h_val noA hbk slNew_7 rfl rfl (by decide) hat (r_sub rfl rfl (by first | omega | (simp; omega))) fun a hat => ?_
    by_cases hl : i + 1 = N
    · have hto : (0 : Int) = ((slInit N (2 * i + 1) : Nat) : Int) := by unfold slInit; rw [if_neg (by omega), if_pos (by omega), if_pos (by omega)]; rfl
      refine h_val noA hbk slNew_7 rfl (opOk_eq (by kernel_rfl)) (by decide) hat (r_bool (t' := true) (r_eql rfl rfl) (by simp; omega)) fun a hat => hold_region_end <| hold_condT (hat.eval (q := .tmp 26) rfl) rfl <| hold_region (l := [0]) rfl <| h_val noA hbk slNew_8 rfl rfl (by decide) hat (r_assign rfl) fun a hat => hold_region_end <| hold_seq ?_
      have hCs := hSh.c
      refine hold_drawK (ts := [74, 3, 77]) (ord := [0,1,2,3,4,5,6,7,8,9,10,11,12]) (bigs := [7,8,9,12]) (by kernel_rfl) (by kernel_rfl) hat <| tk_val noA hbk slNew_9 rfl rfl rfl (fun v' hk => r_move rfl) <| tk_val noA hbk slNew_9 rfl rfl rfl (fun v' hk => r_move rfl) <| tk_val noA hbk slNew_9 rfl rfl rfl (fun v' hk => r_nil rfl) <| tk_val noA hbk slNew_9 rfl rfl rfl (fun v' hk => r_field fk_81_1 rfl) <| tk_val noA hbk slNew_9 rfl rfl rfl (fun v' hk => r_load ld_79 rfl (cell_at' (hk.same _ _ _ _ hCs (by decide)))) <| tk_val noA hbk slNew_9 rfl rfl rfl (fun v' hk => r_move rfl) <| tk_val noA hbk slNew_9 rfl rfl rfl (fun v' hk => r_move rfl) <| tk_call hbk slNew_9 rfl rfl cellNew_fn cellNew_bd cellNew_nm (vals := #[_, _]) rfl fun c K => cellNew_hold (x0 := 0) hrd hC.w hC.owns (by omega) fun v' cv' B hM hw' ho' hown' hB hB' => ?_
      have nW : ∀ (x : Nat) (arr : Array Value) (t : TypeId) (fr : Nat × Nat), v.heap[x]? = some (.cells arr t fr) → t ≠ 74 → t ≠ 3 → ¬ (x = W ∨ cv.ownBlock = some x) := fun x arr t fr hx h1 h2 h => by
        rcases h with rfl | h
        · rw [hC.w] at hx; cases hx; exact h1 rfl
        · exact own_ne hC.owns hx h2 h
      have hk : KeepT [74, 3, 77] v v' := ⟨hM.size, fun x arr t fr hx ht => hM.at (nW _ _ _ _ hx (fun e => ht (by rw [e]; decide)) (fun e => ht (by rw [e]; decide))) hx⟩
      refine K _ v' hk ?_
      have hrd' := hM.ready hrd
      refine tk_step noA hbk slNew_9 rfl rfl rfl (bs_79_1_0 rfl rfl) (Grow.keepT grow_alloc) ?_
      have hg : Grow v' (v'.alloc (.cells #[.pointer (some ⟨B, 0, none⟩)] 77 (0, 0))) := grow_alloc
      have hat2 : (v'.alloc (.cells #[.pointer (some ⟨B, 0, none⟩)] 77 (0, 0))).heap[v'.heap.size]? = some (.cells #[.pointer (some ⟨B, 0, none⟩)] 77 (0, 0)) := by show (v'.heap.push _)[_]? = _; simp
      generalize v'.alloc (.cells #[.pointer (some ⟨B, 0, none⟩)] 77 (0, 0)) = v2 at hg hat2 ⊢
      have hrd2 := hg.ready hrd'
      have hl2 := ownsRow_keep (w' := v2) hSh.nx fun x y hx hy => (hg.at (hM.at (nW _ _ _ _ hy (by decide) (by decide)) hy)).trans hy.symm
      refine tk_any noA hbk slNew_9 rfl rfl rfl hrd2 (app_runs ek_79 hl2 rfl rfl hat2 rfl (by simp [Value.oneCell']) (by decide) (Nat.le_trans (show _ ≤ 1002 by omega) (by decide)) (by omega)) (fun y w ⟨g, cap, _, hk', _⟩ => ?_) fun y w hQ hrd3 => ?_
      · refine ⟨hk'.1, fun x arr t fr hx ht => (hk'.2 x (lt_of_heap hx) (own_ne hl2 hx fun e => ht (by rw [e]; decide))).trans hx⟩
      obtain ⟨g, cap, rfl, _, hAp⟩ := hQ
      have hAp := hAp hrd3
      refine tk_val noA hbk slNew_9 rfl rfl rfl (fun v' hk => r_nil rfl) <| tk_val noA hbk slNew_9 rfl rfl rfl (fun v' hk => r_field fk_81_1 rfl) ?_
      have kp : ∀ (x : Nat) (arr : Array Value) (t : TypeId) (fr : Nat × Nat), v'.heap[x]? = some (.cells arr t fr) → t ≠ 77 → w.heap[x]? = some (.cells arr t fr) := fun x arr t fr hx ht => (hAp.same x (lt_of_heap (hg.at hx)) (own_ne hl2 (hg.at hx) ht)).trans (hg.at hx)
      have hC3 := kp _ _ _ _ (hk.same _ _ _ _ hCs (by decide)) (by decide)
      refine tk_put noA hbk slNew_9 rfl rfl rfl (by kernel_rfl) (p_store st_79 rfl rfl rfl hC3 rfl rfl) fun v5 hP => ?_
      have hlow := hSh.lows
      obtain ⟨k1, k2, k3, k4, k5, k6, k7, k8⟩ := push_state hC hM hw' ho' hown' hB hB' hg hSh.nx hlow.2.1 hAp hCs hP hlow.1
      have hC5 := hP.at_
      simp only [List.setIfInBounds_toArray, List.set_cons_zero, List.set_cons_succ] at hC5
      have hSh := hSh.next hC5 k2 k3 k4 k5 k6 k7 (by rw [← hto]; exact k8)
      have hC := k1
      have hrd := hP.ready hrd3
      clear hCs hM hw' ho' hown' hB hB' nW hk hrd' hg hat2 hrd2 hl2 hAp kp hC3 hlow k1 k2 k3 k4 k5 k6 k7 k8 hC5 hP hrd3
      refine tk_end fun a hat => ?_
      have hCs := hSh.c
      refine hold_drawK (ts := [74, 3, 77]) (ord := [0,1,2,3,4,5,6,7,8,9,10,11]) (bigs := [6,7,8,11]) (by kernel_rfl) (by kernel_rfl) hat <| tk_val noA hbk slNew_10 rfl rfl rfl (fun v' hk => r_move rfl) <| tk_val noA hbk slNew_10 rfl rfl rfl (fun v' hk => r_move rfl) <| tk_val noA hbk slNew_10 rfl rfl rfl (fun v' hk => r_nil rfl) <| tk_val noA hbk slNew_10 rfl rfl rfl (fun v' hk => r_field fk_81_2 rfl) <| tk_val noA hbk slNew_10 rfl rfl rfl (fun v' hk => r_load ld_79 rfl (cell_at' (hk.same _ _ _ _ hCs (by decide)))) <| tk_val noA hbk slNew_10 rfl rfl rfl (fun v' hk => r_move rfl) <| tk_call hbk slNew_10 rfl rfl cellNew_fn cellNew_bd cellNew_nm (vals := #[_, _]) rfl fun c K => cellNew_hold (x0 := 0) hrd hC.w hC.owns (by omega) fun v' cw B hM hw' ho' hown' hB hB' => ?_
      have nW : ∀ (x : Nat) (arr : Array Value) (t : TypeId) (fr : Nat × Nat), v5.heap[x]? = some (.cells arr t fr) → t ≠ 74 → t ≠ 3 → ¬ (x = W ∨ cv'.ownBlock = some x) := fun x arr t fr hx h1 h2 h => by
        rcases h with rfl | h
        · rw [hC.w] at hx; cases hx; exact h1 rfl
        · exact own_ne hC.owns hx h2 h
      have hk : KeepT [74, 3, 77] v5 v' := ⟨hM.size, fun x arr t fr hx ht => hM.at (nW _ _ _ _ hx (fun e => ht (by rw [e]; decide)) (fun e => ht (by rw [e]; decide))) hx⟩
      refine K _ v' hk ?_
      have hrd' := hM.ready hrd
      refine tk_step noA hbk slNew_10 rfl rfl rfl (bs_79_1_0 rfl rfl) (Grow.keepT grow_alloc) ?_
      have hg : Grow v' (v'.alloc (.cells #[.pointer (some ⟨B, 0, none⟩)] 77 (0, 0))) := grow_alloc
      have hat2 : (v'.alloc (.cells #[.pointer (some ⟨B, 0, none⟩)] 77 (0, 0))).heap[v'.heap.size]? = some (.cells #[.pointer (some ⟨B, 0, none⟩)] 77 (0, 0)) := by show (v'.heap.push _)[_]? = _; simp
      generalize v'.alloc (.cells #[.pointer (some ⟨B, 0, none⟩)] 77 (0, 0)) = v2 at hg hat2 ⊢
      have hrd2 := hg.ready hrd'
      have hl2 := ownsRow_keep (w' := v2) hSh.us fun x y hx hy => (hg.at (hM.at (nW _ _ _ _ hy (by decide) (by decide)) hy)).trans hy.symm
      refine tk_any noA hbk slNew_10 rfl rfl rfl hrd2 (app_runs ek_79 hl2 rfl rfl hat2 rfl (by simp [Value.oneCell']) (by decide) (Nat.le_trans (show _ ≤ 1002 by omega) (by decide)) (by omega)) (fun y w ⟨g, cap, _, hk', _⟩ => ?_) fun y w hQ hrd3 => ?_
      · refine ⟨hk'.1, fun x arr t fr hx ht => (hk'.2 x (lt_of_heap hx) (own_ne hl2 hx fun e => ht (by rw [e]; decide))).trans hx⟩
      obtain ⟨g, cap, rfl, _, hAp⟩ := hQ
      have hAp := hAp hrd3
      refine tk_val noA hbk slNew_10 rfl rfl rfl (fun v' hk => r_nil rfl) <| tk_val noA hbk slNew_10 rfl rfl rfl (fun v' hk => r_field fk_81_2 rfl) ?_
      have kp : ∀ (x : Nat) (arr : Array Value) (t : TypeId) (fr : Nat × Nat), v'.heap[x]? = some (.cells arr t fr) → t ≠ 77 → w.heap[x]? = some (.cells arr t fr) := fun x arr t fr hx ht => (hAp.same x (lt_of_heap (hg.at hx)) (own_ne hl2 (hg.at hx) ht)).trans (hg.at hx)
      have hC3 := kp _ _ _ _ (hk.same _ _ _ _ hCs (by decide)) (by decide)
      refine tk_put noA hbk slNew_10 rfl rfl rfl (by kernel_rfl) (p_store st_79 rfl rfl rfl hC3 rfl rfl) fun v9 hP => ?_
      have hlow := hSh.lows
      obtain ⟨k1, k2, k3, k4, k5, k6, k7, k8⟩ := push_state hC hM hw' ho' hown' hB hB' hg hSh.us hlow.2.2 hAp hCs hP hlow.1
      have hC5 := hP.at_
      simp only [List.setIfInBounds_toArray, List.set_cons_zero, List.set_cons_succ] at hC5
      have hSh := hSh.used hC5 k2 k3 k4 k5 k6 k7 k8
      have hC := k1
      have hrd := hP.ready hrd3
      clear hCs hM hw' ho' hown' hB hB' nW hk hrd' hg hat2 hrd2 hl2 hAp kp hC3 hlow k1 k2 k3 k4 k5 k6 k7 k8 hC5 hP hrd3
      refine tk_end fun a hat => hold_inBlock <| hold_region (l := [0,1]) rfl <| h_val noA hbk slNew_11 rfl rfl (by decide) hat (r_add rfl rfl (by first | omega | (simp; omega))) fun a hat => h_val noA hbk slNew_11 rfl rfl (by decide) hat (r_move rfl) fun a hat => hold_region_end <| hold_inLoop ?_
      exact ih (i + 1) _ _ _ _ _ _ (by omega) hrd hC hSh (hat.sub (AtE.cons rfl (AtE.cons rfl (AtE.cons rfl (AtE.cons rfl (AtE.cons rfl (AtE.nil)))))))
    · have hto : ((i : Int) + 2) = ((slInit N (2 * i + 1) : Nat) : Int) := by unfold slInit; rw [if_neg (by omega), if_pos (by omega), if_neg (by omega)]; omega
      refine h_val noA hbk slNew_7 rfl (opOk_eq (by kernel_rfl)) (by decide) hat (r_bool (t' := false) (r_eql rfl rfl) (by simp; omega)) fun a hat => hold_region_end <| hold_condF (hat.eval (q := .tmp 26) rfl) rfl <| hold_skip <| hold_seq ?_
      have hCs := hSh.c
      refine hold_drawK (ts := [74, 3, 77]) (ord := [0,1,2,3,4,5,6,7,8,9,10,11,12]) (bigs := [7,8,9,12]) (by kernel_rfl) (by kernel_rfl) hat <| tk_val noA hbk slNew_9 rfl rfl rfl (fun v' hk => r_move rfl) <| tk_val noA hbk slNew_9 rfl rfl rfl (fun v' hk => r_move rfl) <| tk_val noA hbk slNew_9 rfl rfl rfl (fun v' hk => r_nil rfl) <| tk_val noA hbk slNew_9 rfl rfl rfl (fun v' hk => r_field fk_81_1 rfl) <| tk_val noA hbk slNew_9 rfl rfl rfl (fun v' hk => r_load ld_79 rfl (cell_at' (hk.same _ _ _ _ hCs (by decide)))) <| tk_val noA hbk slNew_9 rfl rfl rfl (fun v' hk => r_move rfl) <| tk_val noA hbk slNew_9 rfl rfl rfl (fun v' hk => r_move rfl) <| tk_call hbk slNew_9 rfl rfl cellNew_fn cellNew_bd cellNew_nm (vals := #[_, _]) rfl fun c K => cellNew_hold (x0 := (i : Int) + 2) hrd hC.w hC.owns (by omega) fun v' cv' B hM hw' ho' hown' hB hB' => ?_
      have nW : ∀ (x : Nat) (arr : Array Value) (t : TypeId) (fr : Nat × Nat), v.heap[x]? = some (.cells arr t fr) → t ≠ 74 → t ≠ 3 → ¬ (x = W ∨ cv.ownBlock = some x) := fun x arr t fr hx h1 h2 h => by
        rcases h with rfl | h
        · rw [hC.w] at hx; cases hx; exact h1 rfl
        · exact own_ne hC.owns hx h2 h
      have hk : KeepT [74, 3, 77] v v' := ⟨hM.size, fun x arr t fr hx ht => hM.at (nW _ _ _ _ hx (fun e => ht (by rw [e]; decide)) (fun e => ht (by rw [e]; decide))) hx⟩
      refine K _ v' hk ?_
      have hrd' := hM.ready hrd
      refine tk_step noA hbk slNew_9 rfl rfl rfl (bs_79_1_0 rfl rfl) (Grow.keepT grow_alloc) ?_
      have hg : Grow v' (v'.alloc (.cells #[.pointer (some ⟨B, 0, none⟩)] 77 (0, 0))) := grow_alloc
      have hat2 : (v'.alloc (.cells #[.pointer (some ⟨B, 0, none⟩)] 77 (0, 0))).heap[v'.heap.size]? = some (.cells #[.pointer (some ⟨B, 0, none⟩)] 77 (0, 0)) := by show (v'.heap.push _)[_]? = _; simp
      generalize v'.alloc (.cells #[.pointer (some ⟨B, 0, none⟩)] 77 (0, 0)) = v2 at hg hat2 ⊢
      have hrd2 := hg.ready hrd'
      have hl2 := ownsRow_keep (w' := v2) hSh.nx fun x y hx hy => (hg.at (hM.at (nW _ _ _ _ hy (by decide) (by decide)) hy)).trans hy.symm
      refine tk_any noA hbk slNew_9 rfl rfl rfl hrd2 (app_runs ek_79 hl2 rfl rfl hat2 rfl (by simp [Value.oneCell']) (by decide) (Nat.le_trans (show _ ≤ 1002 by omega) (by decide)) (by omega)) (fun y w ⟨g, cap, _, hk', _⟩ => ?_) fun y w hQ hrd3 => ?_
      · refine ⟨hk'.1, fun x arr t fr hx ht => (hk'.2 x (lt_of_heap hx) (own_ne hl2 hx fun e => ht (by rw [e]; decide))).trans hx⟩
      obtain ⟨g, cap, rfl, _, hAp⟩ := hQ
      have hAp := hAp hrd3
      refine tk_val noA hbk slNew_9 rfl rfl rfl (fun v' hk => r_nil rfl) <| tk_val noA hbk slNew_9 rfl rfl rfl (fun v' hk => r_field fk_81_1 rfl) ?_
      have kp : ∀ (x : Nat) (arr : Array Value) (t : TypeId) (fr : Nat × Nat), v'.heap[x]? = some (.cells arr t fr) → t ≠ 77 → w.heap[x]? = some (.cells arr t fr) := fun x arr t fr hx ht => (hAp.same x (lt_of_heap (hg.at hx)) (own_ne hl2 (hg.at hx) ht)).trans (hg.at hx)
      have hC3 := kp _ _ _ _ (hk.same _ _ _ _ hCs (by decide)) (by decide)
      refine tk_put noA hbk slNew_9 rfl rfl rfl (by kernel_rfl) (p_store st_79 rfl rfl rfl hC3 rfl rfl) fun v5 hP => ?_
      have hlow := hSh.lows
      obtain ⟨k1, k2, k3, k4, k5, k6, k7, k8⟩ := push_state hC hM hw' ho' hown' hB hB' hg hSh.nx hlow.2.1 hAp hCs hP hlow.1
      have hC5 := hP.at_
      simp only [List.setIfInBounds_toArray, List.set_cons_zero, List.set_cons_succ] at hC5
      have hSh := hSh.next hC5 k2 k3 k4 k5 k6 k7 (by rw [← hto]; exact k8)
      have hC := k1
      have hrd := hP.ready hrd3
      clear hCs hM hw' ho' hown' hB hB' nW hk hrd' hg hat2 hrd2 hl2 hAp kp hC3 hlow k1 k2 k3 k4 k5 k6 k7 k8 hC5 hP hrd3
      refine tk_end fun a hat => ?_
      have hCs := hSh.c
      refine hold_drawK (ts := [74, 3, 77]) (ord := [0,1,2,3,4,5,6,7,8,9,10,11]) (bigs := [6,7,8,11]) (by kernel_rfl) (by kernel_rfl) hat <| tk_val noA hbk slNew_10 rfl rfl rfl (fun v' hk => r_move rfl) <| tk_val noA hbk slNew_10 rfl rfl rfl (fun v' hk => r_move rfl) <| tk_val noA hbk slNew_10 rfl rfl rfl (fun v' hk => r_nil rfl) <| tk_val noA hbk slNew_10 rfl rfl rfl (fun v' hk => r_field fk_81_2 rfl) <| tk_val noA hbk slNew_10 rfl rfl rfl (fun v' hk => r_load ld_79 rfl (cell_at' (hk.same _ _ _ _ hCs (by decide)))) <| tk_val noA hbk slNew_10 rfl rfl rfl (fun v' hk => r_move rfl) <| tk_call hbk slNew_10 rfl rfl cellNew_fn cellNew_bd cellNew_nm (vals := #[_, _]) rfl fun c K => cellNew_hold (x0 := 0) hrd hC.w hC.owns (by omega) fun v' cw B hM hw' ho' hown' hB hB' => ?_
      have nW : ∀ (x : Nat) (arr : Array Value) (t : TypeId) (fr : Nat × Nat), v5.heap[x]? = some (.cells arr t fr) → t ≠ 74 → t ≠ 3 → ¬ (x = W ∨ cv'.ownBlock = some x) := fun x arr t fr hx h1 h2 h => by
        rcases h with rfl | h
        · rw [hC.w] at hx; cases hx; exact h1 rfl
        · exact own_ne hC.owns hx h2 h
      have hk : KeepT [74, 3, 77] v5 v' := ⟨hM.size, fun x arr t fr hx ht => hM.at (nW _ _ _ _ hx (fun e => ht (by rw [e]; decide)) (fun e => ht (by rw [e]; decide))) hx⟩
      refine K _ v' hk ?_
      have hrd' := hM.ready hrd
      refine tk_step noA hbk slNew_10 rfl rfl rfl (bs_79_1_0 rfl rfl) (Grow.keepT grow_alloc) ?_
      have hg : Grow v' (v'.alloc (.cells #[.pointer (some ⟨B, 0, none⟩)] 77 (0, 0))) := grow_alloc
      have hat2 : (v'.alloc (.cells #[.pointer (some ⟨B, 0, none⟩)] 77 (0, 0))).heap[v'.heap.size]? = some (.cells #[.pointer (some ⟨B, 0, none⟩)] 77 (0, 0)) := by show (v'.heap.push _)[_]? = _; simp
      generalize v'.alloc (.cells #[.pointer (some ⟨B, 0, none⟩)] 77 (0, 0)) = v2 at hg hat2 ⊢
      have hrd2 := hg.ready hrd'
      have hl2 := ownsRow_keep (w' := v2) hSh.us fun x y hx hy => (hg.at (hM.at (nW _ _ _ _ hy (by decide) (by decide)) hy)).trans hy.symm
      refine tk_any noA hbk slNew_10 rfl rfl rfl hrd2 (app_runs ek_79 hl2 rfl rfl hat2 rfl (by simp [Value.oneCell']) (by decide) (Nat.le_trans (show _ ≤ 1002 by omega) (by decide)) (by omega)) (fun y w ⟨g, cap, _, hk', _⟩ => ?_) fun y w hQ hrd3 => ?_
      · refine ⟨hk'.1, fun x arr t fr hx ht => (hk'.2 x (lt_of_heap hx) (own_ne hl2 hx fun e => ht (by rw [e]; decide))).trans hx⟩
      obtain ⟨g, cap, rfl, _, hAp⟩ := hQ
      have hAp := hAp hrd3
      refine tk_val noA hbk slNew_10 rfl rfl rfl (fun v' hk => r_nil rfl) <| tk_val noA hbk slNew_10 rfl rfl rfl (fun v' hk => r_field fk_81_2 rfl) ?_
      have kp : ∀ (x : Nat) (arr : Array Value) (t : TypeId) (fr : Nat × Nat), v'.heap[x]? = some (.cells arr t fr) → t ≠ 77 → w.heap[x]? = some (.cells arr t fr) := fun x arr t fr hx ht => (hAp.same x (lt_of_heap (hg.at hx)) (own_ne hl2 (hg.at hx) ht)).trans (hg.at hx)
      have hC3 := kp _ _ _ _ (hk.same _ _ _ _ hCs (by decide)) (by decide)
      refine tk_put noA hbk slNew_10 rfl rfl rfl (by kernel_rfl) (p_store st_79 rfl rfl rfl hC3 rfl rfl) fun v9 hP => ?_
      have hlow := hSh.lows
      obtain ⟨k1, k2, k3, k4, k5, k6, k7, k8⟩ := push_state hC hM hw' ho' hown' hB hB' hg hSh.us hlow.2.2 hAp hCs hP hlow.1
      have hC5 := hP.at_
      simp only [List.setIfInBounds_toArray, List.set_cons_zero, List.set_cons_succ] at hC5
      have hSh := hSh.used hC5 k2 k3 k4 k5 k6 k7 k8
      have hC := k1
      have hrd := hP.ready hrd3
      clear hCs hM hw' ho' hown' hB hB' nW hk hrd' hg hat2 hrd2 hl2 hAp kp hC3 hlow k1 k2 k3 k4 k5 k6 k7 k8 hC5 hP hrd3
      refine tk_end fun a hat => hold_inBlock <| hold_region (l := [0,1]) rfl <| h_val noA hbk slNew_11 rfl rfl (by decide) hat (r_add rfl rfl (by first | omega | (simp; omega))) fun a hat => h_val noA hbk slNew_11 rfl rfl (by decide) hat (r_move rfl) fun a hat => hold_region_end <| hold_inLoop ?_
      exact ih (i + 1) _ _ _ _ _ _ (by omega) hrd hC hSh (hat.sub (AtE.cons rfl (AtE.cons rfl (AtE.cons rfl (AtE.cons rfl (AtE.cons rfl (AtE.nil)))))))
/-- How many slots are made. -/
def slMany (n : Int) : Nat := (if 1000 < (if 0 > n then 0 else n) then 1000 else (if 0 > n then 0 else n)).toNat
theorem slMany_is (n : Int) : ((slMany n : Nat) : Int) = if 1000 < (if 0 > n then 0 else n) then 1000 else (if 0 > n then 0 else n) := by unfold slMany; omega
theorem slMany_le (n : Int) : slMany n ≤ 1000 := by unfold slMany; omega
theorem slNew_hold {u : World} {W : Nat} {n : Int} {rv us la cv tv tr st ran ch : Value} (hr : Ready0 u) (hw : u.heap[W]? = some (.cells #[rv, us, la, cv, tv, tr, st, ran, ch] 74 (0, 0))) (hcv : u.ownsRow 0 3 1 cv 0 [])
    (H : ∀ v' cv' C lN lU cb, Ready0 v' → Cells W rv us la tv tr st ran ch cv 0 [] u v' cv' (2 * slMany n + 1) → SlotsIn u.heap.size (slMany n) v' C lN lU cb (slMany n) 0 → Hold Try.prog main S Stop (G (c.finish (.pointer (some ⟨C, 0, none⟩))) cs) v') :
    Hold Try.prog main S Stop (G (Frame.enter Try.prog 14 #[.pointer (some ⟨W, 0, none⟩), .int .i64 n] .normal) (c :: cs)) u := by
  have hG := Grow.refl u
  obtain ⟨b, a, hEq, hb, hbf, hat⟩ := enter_is slNew_fn slNew_body slNew_tmps #[.pointer (some ⟨W, 0, none⟩), .int .i64 n] [(0, .pointer (some ⟨W, 0, none⟩)), (1, .int .i64 n)] rfl (by simp)
  rw [hEq]
  have hbk := not_early hb
  refine hold_unf slNew_code_def <| hold_seq <| hold_region (l := [0]) rfl <| h_val noA hbk slNew_0 rfl rfl (by decide) hat (r_assign rfl) fun a hat => hold_region_end <| hold_seq <| hold_region (l := [0,1,2,3]) rfl <| h_val noA hbk slNew_1 rfl rfl (by decide) hat (r_move rfl) fun a hat => h_still hbk slNew_1 rfl (by decide) hat (r_max rfl rfl) fun a hat => h_still hbk slNew_1 rfl (by decide) hat (r_min rfl rfl) fun a hat => h_val noA hbk slNew_1 rfl rfl (by decide) hat (r_assign rfl) fun a hat => hold_region_end <| hold_seq ?_
  refine hold_region (l := [0,1,2,3,4,5,6]) rfl <| h_val noA hbk slNew_2 rfl rfl (by decide) hat (r_move rfl) fun a hat => h_val noA hbk slNew_2 rfl rfl (by decide) hat (r_move rfl) fun a hat => ?_
  rw [← slMany_is n] at hat
  have hm := slMany_le n
  generalize slMany n = N at *
  refine h_still hbk slNew_2 rfl (by decide) hat (r_min rfl rfl) fun a hat => h_callc hbk slNew_2 rfl (by decide) hat cellNew_fn cellNew_bd cellNew_nm (vals := #[_, _]) rfl fun c hc => ?_
  have h1 : (if (1 : Int) < (N : Int) then (1 : Int) else (N : Int)) = ((slInit N 0 : Nat) : Int) := by unfold slInit; rw [if_pos rfl]; omega
  rw [h1]
  refine cellNew_hold hr hw hcv (by decide) fun v cv' B hM hw' ho' hown' hB hB' => hold_fin hc fun a hat => ?_
  have hrd' := hM.ready hr
  have hG := Grow.refl v
  refine h_val noA hbk slNew_2 rfl rfl (by decide) hat (bu_81_0 rfl rfl) fun a hat => h_new noA hbk slNew_2 rfl rfl (by decide) hat (bx_81 rfl) fun v a B16 hB16 hsB16 hg F16 hat => ?_
  have gB16 := Nat.le_trans hG.size (Nat.le_of_eq hB16)
  replace hG := hG.trans hg
  refine h_val noA hbk slNew_2 rfl rfl (by decide) hat (r_assign rfl) fun a hat => hold_region_end <| hold_seq <| hold_seq <| hold_region (l := [0,1]) rfl <| h_val noA hbk slNew_3 rfl rfl (by decide) hat (r_move rfl) fun a hat => h_val noA hbk slNew_3 rfl rfl (by decide) hat (r_move rfl) fun a hat => hold_region_end <| hold_block <| hold_loop ?_
  refine slNew_loop hbk hm (fun v a cv2 lN lU cb hrd hC hSh hat => ?_) N 0 v a cv' (.slice none 0 0) (.slice none 0 0) (fun _ => B) (by omega) (hG.ready hrd') ⟨hM.trans hG.mods, hG.at hw', by simpa using owns_grow ho' hG, hown'⟩ ⟨F16, ⟨rfl, .inl ⟨rfl, rfl⟩⟩, ⟨rfl, .inl ⟨rfl, rfl⟩⟩, fun b hb => by (cases hb), ⟨Nat.le_trans hM.size gB16, fun b hb => by (cases hb), fun b hb => by (cases hb)⟩, fun c hc => ?_⟩ (hat.sub (AtE.cons rfl (AtE.cons rfl (AtE.cons rfl (AtE.cons rfl (AtE.cons rfl (AtE.nil)))))))
  · skip
    refine hold_seq <| hold_region (l := [0,1]) rfl <| h_val noA hbk slNew_12 rfl rfl (by decide) hat (r_move rfl) fun a hat => h_val noA hbk slNew_12 rfl rfl (by decide) hat (r_assign rfl) fun a hat => hold_region_end <| hold_retd hb hbf slNew_fn hat.defers (ret_one slNew_res hat rfl) ?_
    exact H v cv2 _ lN lU cb hrd hC hSh
  · obtain rfl : c = 0 := by omega
    exact ⟨hB, hG.at hB'⟩
end
end Go.Proofs.Ytecdiejeofclaaa


/- slots.Play, of a new world. -/
namespace Go.Proofs.Ytecdiejeofclaaa
open Go Go.Conc
theorem Hand0.ext {i Bh : Nat} {Γ Γ' : Gho} {u v : World} (h : Hand0 i Bh Γ u) (hX : Ext Γ u Γ' v) : Hand0 i Bh Γ' v :=
  ⟨⟨Nat.lt_of_lt_of_le h.row.1 hX.grow.size, (hX.own _ h.row.1).trans h.row.2⟩, (cell_same (hX.grow.same _ h.row.1)).trans h.cell, (frozen_same (hX.grow.same _ h.row.1)).trans h.open_⟩
theorem Hand0.ans {i Bh : Nat} {Γ Γ' : Gho} {u v : World} (h : Hand0 i Bh Γ u) (hX : AnsOnly i Γ u Γ' v) : Hand0 i Bh Γ' v :=
  ⟨⟨Nat.lt_of_lt_of_le h.row.1 hX.size, (hX.own _ h.row.1).trans h.row.2⟩, (cell_same (hX.mixed _ h.row.1 h.row.2)).trans h.cell, (frozen_same (hX.mixed _ h.row.1 h.row.2)).trans h.open_⟩
/-- All that a script's calls find. -/
def SEnvA (i bx bh Bh nh ch s gN gU cn cu n : Nat) (aN aU : Option Addr) (cbf : Nat → Nat) (l : List ACall) (acc : List (Int × Int)) (Γ : Gho) (v : World) : Prop :=
  PEnv i bx bh Bh nh ch s gN gU cn cu n aN aU cbf (handOf l acc) Γ v ∧ (acc = [] → Hand0 i Bh Γ v)
theorem handOf_nil (l : List ACall) : handOf l [] = [] := by simp [handOf]
section
variable {i : Nat} {Fin : List (Int × Int) → Gho → World → Prop} {bx bh Bh nh ch s gN gU cn cu n : Nat} {aN aU : Option Addr} {cbf : Nat → Nat} {l : List ACall}
theorem SEnvA.stay0 {Γ Γ' : Gho} {v v' : World} (h : SEnvA i bx bh Bh nh ch s gN gU cn cu n aN aU cbf l [] Γ v) (hS : StayC Γ v Γ' v') (h0 : Hand0 i Bh Γ v → Hand0 i Bh Γ' v') : SEnvA i bx bh Bh nh ch s gN gU cn cu n aN aU cbf l [] Γ' v' :=
  ⟨h.1.keep hS (by rw [handOf_nil]; exact (h0 (h.2 rfl)).at), fun _ => h0 (h.2 rfl)⟩
theorem slots_doA (f : Nat) (hl : l.length ≤ 64) (hin : i < nh) : DoSpec i Fin (slotsV bx bh) (fun acc => slotsP f n (handOf l acc)) (SEnvA i bx bh Bh nh ch s gN gU cn cu n aN aU cbf l) l Bh := by
  obtain ⟨f, fn, cap, h1, h2, h3, h4, h5, h6, h7⟩ := slots_do (Fin := Fin) f (bx := bx) (bh := bh) (Bh := Bh) (ch := ch) (s := s) (gN := gN) (gU := gU) (cn := cn) (cu := cu) (n := n) (aN := aN) (aU := aU) (cbf := cbf) hl hin
  refine ⟨f, fn, cap, h1, h2, h3, h4, fun acc Γ v Γ' v' h hR => ⟨h5 _ _ _ _ _ h.1 hR, fun e => (h.2 e).keepU hR.urely⟩, fun acc Γ v Γ' v' h hR => ⟨h6 _ _ _ _ _ h.1 hR, fun e => (h.2 e).ans hR⟩, fun acc x Γ0 v0 Γ A v c cs k hx hW hG hi hE hK => h7 acc x Γ0 v0 Γ A v c cs k hx hW hG hi hE.1 fun r Γ0' v0' Γ' v' A' hR hW' hi' hG' hE' => hK r Γ0' v0' Γ' v' A' hR hW' hi' hG' ⟨hE', fun e => by simp at e⟩⟩
end
open Classical in
/-- Whose is what, where each thread has a cell of its own in a row. -/
noncomputable def ownM (X : Nat → Prop) (H : Nat) : Nat → Own := fun b => if b = H then .mixed else ownOf X b
theorem ownM_sys {X : Nat → Prop} {H b : Nat} (hn : b ≠ H) (h : X b) : ownM X H b = .sys := (if_neg hn).trans (ownOf_sys h)
theorem ownM_const {X : Nat → Prop} {H b : Nat} (hn : b ≠ H) (h : ¬ X b) : ownM X H b = .const := (if_neg hn).trans (ownOf_const h)
theorem ownM_mixed {X : Nat → Prop} {H : Nat} : ownM X H H = .mixed := if_pos rfl
/-- The slots' world, ahead of the run. -/
def slSys (sl : List Int) (N : Nat) : Sys := ⟨sl, 0, -1, List.replicate (2 * N + 1) 0, (List.range (2 * N + 1)).map fun c => (slInit N c : Int), [], false, []⟩
/-- What the threads do. -/
def slProgs (f N n : Nat) (l : Nat → List ACall) : List Prog := (List.range n).map fun i => Prog.callsA (fun acc => slotsP f N (handOf (l i) acc)) false 0 (l i) [] .done
theorem slInit_le {N c : Nat} (hN : N ≤ 1000) : slInit N c ≤ 2 * c + 1000 := by
  unfold slInit
  split
  · omega
  · split
    · split <;> omega
    · omega
theorem r_make1 {P : Program} {v : World} {e : Env} {t te : TypeId} {y z : Value} {bytes : Nat} (ht : P.underlying t = some (.slice te)) (hinfo : (P.info? te).map (fun i => (i.zero, i.size, i.bytes)) = some (some z, 1, bytes)) (hz1 : z.cells = #[y]) {q0 q1 : Operand} {n : Nat} (h0 : opv e q0 = some (.int .i64 (n : Int))) (h1 : opv e q1 = some (.int .i64 (n : Int))) (hb : bytes * n ≤ 281474976710656) (h63 : n ≤ 9223372036854775807) :
    RunsTo P e (.makeSlice t q0 q1) v (.value (.slice (some ⟨v.heap.size, 0, none⟩) n n)) (v.alloc (.cells (madeCells #[y] n) te (0, 0))) := fun ρ o hρ ho tt dd => by
  obtain ⟨i, hi, hzz⟩ := Option.map_eq_some_iff.1 hinfo
  simp only [Prod.mk.injEq] at hzz
  obtain ⟨hz, hs, hbb⟩ := hzz
  have hb' : (i.bytes : Int) * (n : Int) ≤ 281474976710656 := by
    have h : ((i.bytes * n : Nat) : Int) ≤ 281474976710656 := by rw [hbb]; omega
    rwa [Int.natCast_mul] at h
  have hr := run_make (P := P) (v.re tt dd) t te i z ht hi hz .i64 .i64 n n (by omega) (Int.le_refl _) hb' (by omega)
  simp only [Int.toNat_natCast, hs, Nat.mul_one, hz1] at hr
  simp only [execOp, ho, hρ _ _ h0, hρ _ _ h1]
  exact run_then hr rfl
section
variable {Done : Goroutine → World → Prop}
theorem slPlay_run {u : World} {W ch N0 : Nat} {rv : Value} {sl : List Int} (hr : Ready0 u) (hN : NewW u W ch rv sl) (hsl : (∀ x ∈ sl, -9223372036854775808 ≤ x ∧ x ≤ 9223372036854775807) ∧ sl.length < 2 ^ 62) (hN0 : 0 < N0) {I : Inbs} (hI : ∀ x, x ≠ 0 → I x = none) {sh : Int} {sv : Value} {n : Nat} {lv : Nat → Value} {l : Nat → List ACall}
    (hS : Scripts u sv n lv fun j => (l j).length) (hsv : ∃ ad cp, sv = .slice ad n cp) (hsb : 0 < n → ∀ B O cp, sv = .slice (some ⟨B, O, none⟩) n cp → ¬ wordsOf W ch rv B) (hscr : ∀ j, j < n → ScrAt (wordsOf W ch rv) u (lv j) (l j)) {c0 : Frame} {cs : List Frame}
    (he : ∀ v', Grow u v' → mayE n (fun j => (l j).length) false ≠ 0 → Run Try.prog Done S0 0 N0 I (G (c0.finish (.tuple #[.slice none 0 0, .int .i64 (mayE n (fun j => (l j).length) false)])) cs) v')
    (hbad : ∀ v', Grow u v' → mayE n (fun j => (l j).length) false = 0 → (sh < 0 ∨ 1000 < sh) → Run Try.prog Done S0 0 N0 I (G (c0.finish (.tuple #[.slice none 0 0, .int .i64 1])) cs) v')
    {fu f : Nat} (hrun : mayE n (fun j => (l j).length) false = 0 → 0 ≤ sh → sh ≤ 1000 → ∃ res, runs f (slSys sl sh.toNat) (slProgs fu sh.toNat n l) = some res ∧
      ∀ Γ' v' I' ob, WI Γ' res.1 v' → (∀ x, x ≠ 0 → I' x = none) → res.2.length = n → (∀ i r, res.2[i]? = some r → FinOut i ob r Γ' v') → (∀ b, b < u.heap.size → ¬ wordsOf W ch rv b → v'.heap[b]? = u.heap[b]?) → Γ'.W = W → u.heap.size ≤ ob →
        Run Try.prog Done S0 0 (N0 + n) I' (G (c0.finish (.tuple #[.slice (some ⟨ob, 0, none⟩) n n, .int .i64 0])) cs) v') :
    Run Try.prog Done S0 0 N0 I (G (Frame.enter Try.prog 11 #[.pointer (some ⟨W, 0, none⟩), .int .i64 sh, sv] .normal) (c0 :: cs)) u := by
  obtain ⟨ad, cp, rfl⟩ := hsv
  have hw := hN.w
  refine Run.of_hold ?_
  obtain ⟨b, a, hEq, hb, hbf, hat⟩ := enter_is slPlay_fn slPlay_body slPlay_tmps #[.pointer (some ⟨W, 0, none⟩), .int .i64 sh, .slice ad n cp] [(0, .pointer (some ⟨W, 0, none⟩)), (1, .int .i64 sh), (2, .slice ad n cp)] rfl (by simp)
  rw [hEq]
  have hbk := not_early hb
  refine hold_unf slPlay_code_def <| hold_seq <| hold_region (l := [0,1]) rfl <| h_val noA hbk slPlay_0 rfl rfl (by decide) hat (r_assign rfl) fun a hat => h_val noA hbk slPlay_0 rfl rfl (by decide) hat (r_assign rfl) fun a hat => hold_region_end <| hold_seq <| hold_seq <| hold_region (l := [0,1,2,3]) rfl <| h_val noA hbk slPlay_1 rfl rfl (by decide) hat (r_move rfl) fun a hat => h_val noA hbk slPlay_1 rfl rfl (by decide) hat (r_move rfl) fun a hat => h_callc hbk slPlay_1 rfl (by decide) hat May_fn May_bd May_nm (vals := #[_, _, _]) rfl fun c hc => May_hold hw rfl hS ⟨_, _, rfl⟩ fun v hg0 => ?_
  refine hold_fin hc fun a hat => h_val noA hbk slPlay_1 rfl rfl (by decide) hat (r_assign rfl) fun a hat => hold_region_end <| hold_seq <| hold_region (l := [0,1]) rfl <| h_val noA hbk slPlay_2 rfl rfl (by decide) hat (r_move rfl) fun a hat => ?_
  by_cases h0 : mayE n (fun j => (l j).length) false = 0
  rotate_left
  · refine h_val noA hbk slPlay_2 rfl (opOk_eq (by kernel_rfl)) (by decide) hat (r_bool (t' := true) (r_neq rfl rfl) (by simpa using h0)) fun a hat => hold_region_end <| hold_condT (hat.eval (q := .tmp 15) rfl) rfl <| hold_seq <| hold_region (l := [0,1,2]) rfl <| h_val noA hbk slPlay_3 rfl rfl (by decide) hat (r_move rfl) fun a hat => h_val noA hbk slPlay_3 rfl rfl (by decide) hat (r_assign rfl) fun a hat => h_val noA hbk slPlay_3 rfl rfl (by decide) hat (r_assign rfl) fun a hat => hold_region_end <| hold_retd hb hbf slPlay_fn hat.defers (ret_two slPlay_res hat rfl rfl) ?_
    exact hold_run (he _ hg0 h0)
  refine h_val noA hbk slPlay_2 rfl (opOk_eq (by kernel_rfl)) (by decide) hat (r_bool (t' := false) (r_neq rfl rfl) (by simpa using h0)) fun a hat => hold_region_end <| hold_condF (hat.eval (q := .tmp 15) rfl) rfl <| hold_skip <| hold_seq <| hold_seq <| hold_region (l := [0,1,2,3,4,5]) rfl <| h_val noA hbk slPlay_4 rfl rfl (by decide) hat (r_move rfl) fun a hat => ?_
  by_cases h1 : sh < 0
  · refine h_val noA hbk slPlay_4 rfl rfl (by decide) hat (r_bool (t' := true) (r_lss rfl rfl) (by simp; omega)) fun a hat => h_val noA hbk slPlay_4 rfl rfl (by decide) hat (r_move rfl) fun a hat => hg_no slPlay_4 rfl rfl rfl rfl (by decide) hat fun a hat => hg_no slPlay_4 rfl rfl rfl rfl (by decide) hat fun a hat => h_val noA hbk slPlay_4 rfl rfl (by decide) hat (r_pick rfl rfl) fun a hat => hold_region_end <| hold_condT (hat.eval (q := .tmp 22) rfl) rfl <| hold_seq <| hold_region (l := [0,1]) rfl <| h_val noA hbk slPlay_5 rfl rfl (by decide) hat (r_assign rfl) fun a hat => h_val noA hbk slPlay_5 rfl rfl (by decide) hat (r_assign rfl) fun a hat => hold_region_end <| hold_retd hb hbf slPlay_fn hat.defers (ret_two slPlay_res hat rfl rfl) ?_
    exact hold_run (hbad _ hg0 h0 (.inl h1))
  refine h_val noA hbk slPlay_4 rfl rfl (by decide) hat (r_bool (t' := false) (r_lss rfl rfl) (by simp; omega)) fun a hat => h_val noA hbk slPlay_4 rfl rfl (by decide) hat (r_move rfl) fun a hat => hg_yes noA hbk slPlay_4 rfl rfl rfl rfl (by decide) hat (r_move rfl) fun a hat => ?_
  by_cases h2 : 1000 < sh
  · refine hg_yes noA hbk slPlay_4 rfl rfl rfl rfl (by decide) hat (r_bool (t' := true) (r_gtr rfl rfl) (by simp; omega)) fun a hat => h_val noA hbk slPlay_4 rfl rfl (by decide) hat (r_pick rfl rfl) fun a hat => hold_region_end <| hold_condT (hat.eval (q := .tmp 22) rfl) rfl <| hold_seq <| hold_region (l := [0,1]) rfl <| h_val noA hbk slPlay_5 rfl rfl (by decide) hat (r_assign rfl) fun a hat => h_val noA hbk slPlay_5 rfl rfl (by decide) hat (r_assign rfl) fun a hat => hold_region_end <| hold_retd hb hbf slPlay_fn hat.defers (ret_two slPlay_res hat rfl rfl) ?_
    exact hold_run (hbad _ hg0 h0 (.inr h2))
  refine hg_yes noA hbk slPlay_4 rfl rfl rfl rfl (by decide) hat (r_bool (t' := false) (r_gtr rfl rfl) (by simp; omega)) fun a hat => h_val noA hbk slPlay_4 rfl rfl (by decide) hat (r_pick rfl rfl) fun a hat => hold_region_end <| hold_condF (hat.eval (q := .tmp 22) rfl) rfl <| hold_skip <| hold_seq <| hold_region (l := [0,1,2,3,4]) rfl <| h_val noA hbk slPlay_6 rfl rfl (by decide) hat (r_move rfl) fun a hat => h_val noA hbk slPlay_6 rfl rfl (by decide) hat (r_move rfl) fun a hat => h_callc hbk slPlay_6 rfl (by decide) hat slNew_fn slNew_bd slNew_nm (vals := #[_, _]) rfl fun c hc => slNew_hold (hg0.ready hr) (hg0.at hw) sim_rows fun v cv C lN lU cb hr2 hC hSh => hold_fin hc fun a hat => ?_
  have hG := Grow.refl v
  have hn8 : 1 ≤ n ∧ n ≤ 8 := by
    unfold mayE at h0
    split at h0
    · cases h0
    · split at h0
      · cases h0
      · omega
  refine h_new noA hbk slPlay_6 rfl rfl (by decide) hat al_43 fun v a B9 hB9 hsB9 hg F9 hat => ?_
  have gB9 := Nat.le_trans hG.size (Nat.le_of_eq hB9)
  replace hG := hG.trans hg
  refine h_put noA hbk slPlay_6 rfl rfl hat (p_store st_43 rfl rfl rfl F9 rfl rfl) fun v a hP F9x hat => ?_
  simp only [List.setIfInBounds_toArray, List.set_cons_succ, List.set_cons_zero] at F9x
  replace hG := hG.put hP gB9
  replace F9 := F9x; clear F9x
  refine hold_region_end <| hold_seq <| hold_region (l := [0,1,2,3,4]) rfl <| h_val noA hbk slPlay_7 rfl rfl (by decide) hat (r_move rfl) fun a hat => h_val noA hbk slPlay_7 rfl rfl (by decide) hat (r_len lk_26 rfl) fun a hat => h_news noA hbk slPlay_7 rfl rfl (by decide) hat (r_make1 Try.underlying63 (y := .slice none 0 0) (z := .agg #[.slice none 0 0]) (bytes := 24) (by kernel_rfl) rfl rfl rfl (by omega) (by omega)) fun v a B28 hB28 hsB28 hg F28 hat => ?_
  have n_F28_F9 := ne_new F9 hB28
  have gB28 := Nat.le_trans hG.size (Nat.le_of_eq hB28)
  replace hG := hG.trans hg
  replace F9 := hg.at F9
  refine h_new noA hbk slPlay_7 rfl rfl (by decide) hat al_63 fun v a B10 hB10 hsB10 hg F10 hat => ?_
  have n_F10_F9 := ne_new F9 hB10
  have n_F10_F28 := ne_new F28 hB10
  have gB10 := Nat.le_trans hG.size (Nat.le_of_eq hB10)
  replace hG := hG.trans hg
  replace F9 := hg.at F9
  replace F28 := hg.at F28
  refine h_put noA hbk slPlay_7 rfl rfl hat (p_store st_63 rfl rfl rfl F10 rfl rfl) fun v a hP F10x hat => ?_
  simp only [List.setIfInBounds_toArray, List.set_cons_succ, List.set_cons_zero] at F10x
  replace F9 := hP.keep (by first | exact n_F10_F9 | exact n_F9_F10.symm | exact ne_of_types F9 F10 (by decide) | omega) F9
  replace F28 := hP.keep (by first | exact n_F10_F28 | exact n_F28_F10.symm | exact ne_of_types F28 F10 (by decide) | omega) F28
  replace hG := hG.put hP gB10
  replace F10 := F10x; clear F10x
  refine hold_region_end <| hold_seq <| hold_region (l := [0,1,2,3,4,5]) rfl <| h_val noA hbk slPlay_8 rfl rfl (by decide) hat (r_move rfl) fun a hat => h_val noA hbk slPlay_8 rfl rfl (by decide) hat (r_move rfl) fun a hat => h_val noA hbk slPlay_8 rfl rfl (by decide) hat (mf_26_2 rfl rfl) fun a hat => h_callc hbk slPlay_8 rfl (by decide) hat PRun_fn PRun_bd PRun_nm (vals := #[_, _, _]) rfl fun c hc => ?_
  have hm : slMany sh = sh.toNat := by unfold slMany; omega
  rw [hm] at hC hSh
  obtain ⟨res, hres, K⟩ := hrun h0 (by omega) (by omega)
  have hN1 : sh.toNat ≤ 1000 := by omega
  generalize hmm : sh.toNat = N at *
  clear hm
  generalize hBH : B28 = BH at *
  have hCw := hG.at hC.w
  have hCo := owns_grow hC.owns hG
  simp only [Nat.zero_add, List.nil_append] at hCo
  have hc3 := hG.at hSh.c
  have hnx := owns_grow hSh.nx hG
  have hus := owns_grow hSh.us hG
  simp only [Nat.add_zero] at hnx
  have hmods : Mods (fun b => b = W) u v := hg0.mods.trans ((hC.mods.mono fun b _ h => h.resolve_right fun h => by cases h).trans hG.mods)
  have hsz1 : u.heap.size ≤ _ := Nat.le_trans hg0.size hC.mods.size
  have hchW : ch ≠ W := fun e => by have := hN.c; rw [e, hw] at this; cases this
  have hch3 : v.heap[ch]? = some (.chan 0 #[] false 0 0 false) := hmods.at hchW hN.c
  have hrvW := own_ne hN.owns hw (by decide)
  have hrv3 : v.ownsRow 0 3 1 rv sl.length (ints sl) := ownsRow_keep hN.owns fun b c' hb hc' => (hmods.same b (lt_of_heap hc') fun e => hrvW (by rw [hb, e]))
  have hcells : ∀ j, j < 2 * N + 1 → u.heap.size ≤ cb j ∧ v.heap[cb j]? = some (.cells #[.int .i64 j, .int .i64 (slInit N j : Nat)] 100 (0, 0)) := fun j hj => by
    obtain ⟨c1, c2⟩ := hSh.cells j hj
    exact ⟨Nat.le_trans hg0.size c1, hG.at c2⟩
  have hcvn : cv.ownBlock = none ∨ ∀ b, cv.ownBlock = some b → u.heap.size ≤ b := hC.where_.imp id fun h b hb => Nat.le_trans hg0.size (h b hb)
  have hrd3 := hG.ready hr2
  obtain ⟨X, hXX⟩ : ∃ X : Nat → Prop, ∀ b, X b ↔ (wordsOf W ch rv b ∨ cv.ownBlock = some b ∨ ∃ j, j < 2 * N + 1 ∧ b = cb j) := ⟨_, fun _ => Iff.rfl⟩
  have hX1 : ∀ b, b < u.heap.size → X b → wordsOf W ch rv b := fun b hb h => by
    rcases (hXX b).1 h with h | h | ⟨j, hj, rfl⟩
    · exact h
    · rcases hcvn with h' | h'
      · rw [h'] at h; cases h
      · have := h' b h; omega
    · have := (hcells j hj).1; omega
  have hX2 : ∀ (b : Nat) (arr : Array Value) (t : TypeId) (fr : Nat × Nat), v.heap[b]? = some (.cells arr t fr) → t ≠ 74 → t ≠ 3 → t ≠ 100 → ¬ X b := fun b arr t fr hb n1 n2 n3 h => by
    rcases (hXX b).1 h with (rfl | rfl | h) | h | ⟨j, hj, rfl⟩
    · rw [hCw] at hb; cases hb; exact n1 rfl
    · rw [hch3] at hb; cases hb
    · exact own_ne hrv3 hb n2 h
    · exact own_ne hCo hb n2 h
    · rw [(hcells j hj).2] at hb; cases hb; exact n3 rfl
  have hltW := lt_of_heap hCw
  have hBHs : u.heap.size ≤ BH := Nat.le_trans hsz1 gB28
  have hBHX : ∀ b, X b → b ≠ BH := fun b h e => hX2 _ _ _ _ F28 (by decide) (by decide) (by decide) (e ▸ h)
  have hsX : ∀ b, wordsOf W ch rv b ∨ cv.ownBlock = some b ∨ (∃ j, j < 2 * N + 1 ∧ b = cb j) → ownM X BH b = .sys := fun b h => ownM_sys (hBHX b ((hXX b).2 h)) ((hXX b).2 h)
  have hcX : ∀ (b : Nat) (arr : Array Value) (t : TypeId) (fr : Nat × Nat), v.heap[b]? = some (.cells arr t fr) → t ≠ 74 → t ≠ 3 → t ≠ 100 → t ≠ 68 → ownM X BH b = .const := fun b arr t fr hb n1 n2 n3 n4 => ownM_const (fun e => by rw [e, F28] at hb; cases hb; exact n4 rfl) (hX2 b arr t fr hb n1 n2 n3)
  have hcvW := own_ne hCo hCw (by decide)
  have hWN : WNew ⟨W, ch, N0, fun _ => 0, fun _ => 0, cb, 2 * N + 1, ownM X BH⟩ (slSys sl N) v := by
    refine ⟨rv, .int .i64 0, .int .i64 (-1), cv, .slice none 0 0, .slice none 0 0, .bool false, hCw, ⟨fun r x y hr => ?_, ⟨rv, cv, .slice none 0 0, .slice none 0 0, stand_at hltW, ownsRow_keep hrv3 fun b _ hb hb' => stand_ne fun e => ?_, ?_, ⟨rfl, .inl ⟨rfl, rfl⟩⟩, ⟨rfl, .inl ⟨rfl, rfl⟩⟩, fun b hb => hsX b (.inl (.inr (.inr hb))), fun b hb => hsX b (.inr (.inl hb)), fun b hb => by (cases hb), fun b hb => by (cases hb), ?_⟩, fun j t h => by simp [slSys] at h, ⟨⟨0, (stand_ne hchW).trans hch3⟩, hsX _ (.inl (.inr (.inl rfl))), hsX _ (.inl (.inl rfl))⟩, fun c x hc => ?_, Nat.zero_le _, fun x hx => ?_, fun i j hi => by simp [slSys] at hi, fun i hi => by simp [slSys] at hi, by simp [slSys], fun x hx => ?_⟩⟩
    · by_cases e : r = W
      · rw [e, stand_at hltW] at hr; cases hr
      · rw [stand_ne e] at hr; exact hrd3 r x y hr
    · exact own_ne hrv3 hCw (by decide) (by rw [hb, e])
    · have e0 : (slSys sl N).cnt.length = 2 * N + 1 := by simp [slSys]
      have e1 : ints (slSys sl N).cnt = List.replicate (2 * N + 1) (.int .i64 0) := by simp [slSys, ints]
      rw [e0, e1]
      exact ownsRow_keep hCo fun b _ hb hb' => stand_ne fun e => hcvW (by rw [hb, e])
    · rcases hcvn with h | h
      · by_cases e : rv.ownBlock = none
        · exact .inl e
        · right; rw [h]; exact e
      · by_cases e : rv.ownBlock = none
        · exact .inl e
        · right
          intro e2
          obtain ⟨b, hb⟩ := Option.ne_none_iff_exists'.1 e
          have := own_lt hN.owns hb
          have := h b (by rw [← e2]; exact hb)
          omega
    · have hcm : c < 2 * N + 1 := by have := (List.getElem?_eq_some_iff.1 hc).1; simpa [slSys] using this
      have hx0 : x = (slInit N c : Nat) := by
        simp only [slSys, List.getElem?_map, List.getElem?_range hcm, Option.map_some, Option.some.injEq] at hc
        exact hc.symm
      subst hx0
      obtain ⟨c1, c2⟩ := hcells c hcm
      exact ⟨(stand_ne fun (e : cb c = W) => by rw [e, hCw] at c2; injection c2 with c2; injection c2 with q1 q2; exact absurd q2 (by decide)).trans c2, hsX _ (.inr (.inr ⟨c, hcm, rfl⟩))⟩
    · simp [slSys] at hx; rw [hx]; decide
    · simp only [slSys, List.mem_map, List.mem_range] at hx
      obtain ⟨c, hc, rfl⟩ := hx
      have := slInit_le (N := N) (c := c) hN1
      omega
  have hlow : ∀ j, j < 2 * N + 1 → cb j < v.heap.size := fun j hj => lt_of_heap (hcells j hj).2
  have hSE : ∃ gN gU cn cu aN aU, SEnv C gN gU cn cu N aN aU cb ⟨W, ch, N0, fun _ => 0, fun _ => 0, cb, 2 * N + 1, ownM X BH⟩ v := by
    have row : ∀ (lv : Value) (f : Nat → Nat), v.ownsRow 0 77 1 lv N (cRow f N) → ∃ g c a, lv = .slice a N c ∧ (0 < N → a = some ⟨g, 0, none⟩ ∧ CRow g N f ⟨W, ch, N0, fun _ => 0, fun _ => 0, cb, 2 * N + 1, ownM X BH⟩ v) := fun lv f h => by
      rcases h.2 with ⟨rfl, h0⟩ | ⟨g, cap', cur, rfl, _, hg', hcap, hcapm, hsz, htk⟩
      · exact ⟨0, 0, none, by rw [h0], fun h => by omega⟩
      · refine ⟨g, cap', _, rfl, fun _ => ⟨rfl, ⟨cur, _, hg', fun j hj => ?_⟩, hcX _ _ _ _ hg' (by decide) (by decide) (by decide) (by decide)⟩⟩
        have h1 : (cur.toList.take (N * 1))[j]? = some (.pointer (some ⟨f j, 0, none⟩)) := by rw [htk]; simp [cRow, hj]
        rw [List.getElem?_take_of_lt (by omega)] at h1
        simpa using h1
    obtain ⟨gN, cn, aN, rfl, hN'⟩ := row _ _ hnx
    obtain ⟨gU, cu, aU, rfl, hU'⟩ := row _ _ hus
    exact ⟨gN, gU, cn, cu, aN, aU, ⟨hc3, hcX _ _ _ _ hc3 (by decide) (by decide) (by decide) (by decide)⟩, hN', hU', fun c hc => ⟨rfl, hlow c hc⟩, hN1, Nat.le_refl _⟩
  obtain ⟨gN, gU, cn, cu, aN, aU, hSE⟩ := hSE
  have hHand : ∀ i, i < n → Hand0 i BH ⟨W, ch, N0, fun _ => 0, fun _ => 0, cb, 2 * N + 1, ownM X BH⟩ v := fun i hi => ⟨⟨lt_of_heap F28, ownM_mixed⟩, (cell_at' F28).trans (madeCells_get _ _ _ hi), by rw [frozen_at' F28]; simp⟩
  have hCE : ∀ i, i < n → SEnvA i B9 B10 BH n n C gN gU cn cu N aN aU cb (l i) [] ⟨W, ch, N0, fun _ => 0, fun _ => 0, cb, 2 * N + 1, ownM X BH⟩ v := fun i hi =>
    ⟨⟨⟨F9, hcX _ _ _ _ F9 (by decide) (by decide) (by decide) (by decide)⟩, ⟨F10, hcX _ _ _ _ F10 (by decide) (by decide) (by decide) (by decide)⟩, hSE, by rw [handOf_nil]; exact (hHand i hi).at⟩, fun _ => hHand i hi⟩
  have hlen : ∀ j, j < n → (l j).length ≤ 64 := fun j hj => by
    unfold mayE at h0
    split at h0
    · cases h0
    · rename_i hno
      by_cases h : (l j).length ≤ 64
      · exact h
      · exact absurd ⟨j, hj, (by show 64 < (l j).length; omega)⟩ hno
  obtain ⟨ad', cp', hsve, hat0⟩ := hS.at_
  cases hsve
  obtain ⟨sb, so, rfl, _⟩ := hat0 0 (by omega)
  have hsbW := hsb (by omega) sb so cp rfl
  have hkeep : ∀ b, b < u.heap.size → ¬ wordsOf W ch rv b → v.heap[b]? = u.heap[b]? := fun b hb hx => hmods.same b hb fun e => hx (.inl e)
  have hkc : ∀ B O x, u.cell? ⟨B, O, none⟩ = some x → ¬ wordsOf W ch rv B → v.cell? ⟨B, O, none⟩ = some x := fun B O x hx hn => (cell_same (hkeep B (cell_low hx) hn)).trans hx
  refine hold_run (PRun_run (Γ := ⟨W, ch, N0, fun _ => 0, fun _ => 0, cb, 2 * N + 1, ownM X BH⟩) ⟨n, fun _ => 0, fun _ => 0, 0, 0, 0, lv, slotsV B9 B10, fun i acc => slotsP fu N (handOf (l i) acc), l, fun i => SEnvA i B9 B10 BH n n C gN gU cn cu N aN aU cb (l i), BH⟩ (by show 0 < n; omega) (by show n ≤ 1000; omega) (fun ob i hi => slots_doA fu (hlen i hi) hi) (fun i Γ v Γ' v' h hR => h.stay0 hR.stay fun h => h.keepU hR) rfl hWN rfl ⟨hsl.1, hsl.2⟩ hN0 hI (lt_of_heap F28) (fun i Γ' v' hi hX => (hCE i hi).stay0 hX.stay fun h => h.ext hX) (fun j hj => ?_) (fun j hj => ?_) hres c (c0 :: cs) fun Γ' v' I' ob hWI hI' hlr hfin hM hob => ?_)
  · obtain ⟨B, O, e1, e2⟩ := hat0 j hj
    cases e1
    exact hkc _ _ _ e2 hsbW
  · obtain ⟨a', cap', e1, e2⟩ := hscr j hj
    refine ⟨a', cap', e1, hlen j hj, fun x y hx => ?_⟩
    obtain ⟨B, O, g1, g2, g3, g4, g5, g6, g7⟩ := e2 x y hx
    exact ⟨B, O, g1, Nat.lt_of_lt_of_le g2 hmods.size, ownM_const (by omega) fun h => g3 (hX1 B g2 h), hkc _ _ _ g4 g3, hkc _ _ _ g5 g3, hkc _ _ _ g6 g3, hkc _ _ _ g7 g3⟩
  · refine Run.of_hold <| hold_fin hc fun a hat => h_val noA hbk slPlay_8 rfl rfl (by decide) hat (r_assign rfl) fun a hat => h_val noA hbk slPlay_8 rfl rfl (by decide) hat (r_assign rfl) fun a hat => hold_region_end <| hold_retd hb hbf slPlay_fn hat.defers (ret_two slPlay_res hat rfl rfl) ?_
    exact hold_run (K Γ' v' I' ob hWI hI' hlr hfin (fun b hb hx => (hM.keep b (Nat.lt_of_lt_of_le hb hmods.size) (.inr (ownM_const (by omega) fun h => hx (hX1 b hb h)))).trans (hkeep b hb hx)) hM.same.1 (Nat.le_trans hmods.size hob))
end
end Go.Proofs.Ytecdiejeofclaaa


/- Plain: a run comes to an end, and keeps what each go keeps. -/
namespace Go.Proofs.Ytecdiejeofclaaa
open Go
/-- What a thread's going comes to, limits left aside. -/
def Prog.wp (i : Nat) : Prog → Sys → (Sys → Left → Prop) → Prop
  | .done r, A, Q => Q (A.setSt i 3) (.inr r)
  | .out, _, _ => False
  | .wait st op c k, A, Q => Q (A.park i st op c) (.inl k)
  | .rd c k, A, Q => (k (A.get c)).wp i A Q
  | .wr c x k, A, Q => k.wp i (A.put c x) Q
  | .note op c a b k, A, Q => k.wp i (A.note i op c a b) Q
  | .bump c k, A, Q => k.wp i (A.bump c) Q
  | .stk k, A, Q => (k A.stuck).wp i A Q
/-- So many stops and notes at most. -/
def Prog.bd : Prog → Nat → Prop
  | .done _, _ => True
  | .out, _ => True
  | .wait _ _ _ k, n => ∃ m, n = m + 1 ∧ k.bd m
  | .rd _ k, n => ∀ x, (k x).bd n
  | .wr _ _ k, n => k.bd n
  | .note _ _ _ _ k, n => ∃ m, n = m + 1 ∧ k.bd m
  | .bump _ k, n => ∃ m, n = m + 1 ∧ k.bd m
  | .stk k, n => ∀ b, (k b).bd n
theorem Prog.bd_mono : ∀ {p : Prog} {n n' : Nat}, p.bd n → n ≤ n' → p.bd n'
  | .done _, _, _, _, _ => trivial
  | .out, _, _, _, _ => trivial
  | .wait _ _ _ k, n, n', ⟨m, e, h⟩, hn => ⟨n' - 1, by omega, Prog.bd_mono (p := k) h (by omega)⟩
  | .rd _ k, n, n', h, hn => fun x => Prog.bd_mono (p := k x) (h x) hn
  | .wr _ _ k, n, n', h, hn => Prog.bd_mono (p := k) h hn
  | .note _ _ _ _ k, n, n', ⟨m, e, h⟩, hn => ⟨n' - 1, by omega, Prog.bd_mono (p := k) h (by omega)⟩
  | .bump _ k, n, n', ⟨m, e, h⟩, hn => ⟨n' - 1, by omega, Prog.bd_mono (p := k) h (by omega)⟩
  | .stk k, n, n', h, hn => fun b => Prog.bd_mono (p := k b) (h b) hn
/-- What the limits look at is at most t. -/
def Lim (A : Sys) (t : Nat) : Prop := A.trace.length ≤ t ∧ ∀ c, A.changed c ≤ (t : Int)
theorem changed_bump (A : Sys) (c : Nat) (d : Int) : (A.bump c).changed d ≤ A.changed d + 1 := by
  unfold Sys.changed Sys.bump
  split
  · omega
  · simp only [List.getElem?_modify]
    by_cases h : c = d.toNat
    · simp only [h, if_true]
      cases A.cnt[d.toNat]? with
      | none => simp
      | some x => simp
    · simp only [h, if_false]
      cases A.cnt[d.toNat]? with
      | none => simp
      | some x => simp; omega
/-- A left one, and its weight. -/
def Left.wt : Left → Nat → Prop
  | .inl k, b => ∃ n, b = n + 1 ∧ k.bd n
  | .inr _, _ => True
theorem go_wp {i : Nat} {Q : Sys → Left → Prop} : ∀ {p : Prog} {A : Sys} {n t : Nat}, p.wp i A Q → p.bd n → Lim A t → t + n ≤ 2 ^ 40 → ∃ A' q b' t', p.go i A = some (A', q) ∧ Q A' q ∧ Left.wt q b' ∧ Lim A' t' ∧ b' ≤ n ∧ t' + b' ≤ t + n ∧ (A'.stuck = A.stuck ∧ A'.ths.length = A.ths.length)
  | .done r, A, n, t, h, _, hL, ht => ⟨_, _, 0, t, rfl, h, trivial, ⟨hL.1, hL.2⟩, by omega, by omega, rfl, by simp [Sys.setSt]⟩
  | .out, _, _, _, h, _, _, _ => h.elim
  | .wait st op c k, A, n, t, h, hb, hL, ht => by
    obtain ⟨m, e, hk⟩ := hb
    exact ⟨_, _, n, t, rfl, h, ⟨m, e, hk⟩, ⟨hL.1, hL.2⟩, Nat.le_refl _, Nat.le_refl _, rfl, by simp [Sys.park]⟩
  | .rd c k, A, n, t, h, hb, hL, ht => go_wp (p := k (A.get c)) h (hb _) hL ht
  | .wr c x k, A, n, t, h, hb, hL, ht => go_wp (p := k) (A := A.put c x) h hb ⟨hL.1, hL.2⟩ ht
  | .note op c a b k, A, n, t, h, hb, hL, ht => by
    obtain ⟨m, e, hk⟩ := hb
    have hl : A.trace.length < traceMax := by have := hL.1; unfold traceMax; omega
    obtain ⟨A', q, b', t', h1, h2, h3, h4, h5, h6, h7⟩ := go_wp (p := k) (A := A.note i op c a b) (n := m) (t := t + 1) h hk ⟨by simp [Sys.note]; exact hL.1, fun d => by have := hL.2 d; show A.changed d ≤ _; omega⟩ (by omega)
    exact ⟨A', q, b', t', by simp only [Prog.go, if_pos hl]; exact h1, h2, h3, h4, by omega, by omega, h7⟩
  | .bump c k, A, n, t, h, hb, hL, ht => by
    obtain ⟨m, e, hk⟩ := hb
    have hl : A.changed c < 2 ^ 40 := by have := hL.2 c; omega
    obtain ⟨A', q, b', t', h1, h2, h3, h4, h5, h6, h7⟩ := go_wp (p := k) (A := A.bump c) (n := m) (t := t + 1) h hk ⟨by have := hL.1; simp [Sys.bump]; omega, fun d => by have := hL.2 d; have := changed_bump A c d; omega⟩ (by omega)
    exact ⟨A', q, b', t', by simp only [Prog.go, if_pos hl]; exact h1, h2, h3, h4, by omega, by omega, h7⟩
  | .stk k, A, n, t, h, hb, hL, ht => go_wp (p := k A.stuck) h (hb _) hL ht
theorem sum_set : ∀ {l : List Nat} {j b b' : Nat}, l[j]? = some b → (l.set j b').sum + b = l.sum + b'
  | [], _, _, _, h => by cases h
  | x :: l, 0, b, b', h => by
    simp only [List.getElem?_cons_zero, Option.some.injEq] at h
    subst h
    simp only [List.set_cons_zero, List.sum_cons]
    omega
  | x :: l, j + 1, b, b', h => by
    have := sum_set (l := l) (j := j) (b := b) (b' := b') (by simpa using h)
    simp only [List.set_cons_succ, List.sum_cons]
    omega
/-- All that are left, and their weights. -/
def Wts (ps : List Left) (bs : List Nat) : Prop := bs.length = ps.length ∧ ∀ (i : Nat) (q : Left) (b : Nat), ps[i]? = some q → bs[i]? = some b → Left.wt q b
theorem Wts.set {ps : List Left} {bs : List Nat} (h : Wts ps bs) {j : Nat} {q : Left} {b : Nat} (hq : Left.wt q b) : Wts (ps.set j q) (bs.set j b) := by
  refine ⟨by simpa using h.1, fun i q' b' h1 h2 => ?_⟩
  rw [List.getElem?_set] at h1 h2
  by_cases e : j = i
  · simp only [e, if_true] at h1 h2
    split at h1
    · split at h2
      · cases h1; cases h2; exact hq
      · cases h2
    · cases h1
  · simp only [e, if_false] at h1 h2
    exact h.2 i q' b' h1 h2
theorem mem_readyL {A : Sys} {j : Nat} : j ∈ A.readyL ↔ ∃ t, A.ths[j]? = some t ∧ A.readyB t = true := by
  unfold Sys.readyL
  rw [List.mem_filter, List.mem_range]
  constructor
  · rintro ⟨h1, h2⟩
    cases h : A.ths[j]? with
    | none => rw [h] at h2; cases h2
    | some t => rw [h] at h2; exact ⟨t, rfl, h2⟩
  · rintro ⟨t, h1, h2⟩
    exact ⟨(List.getElem?_eq_some_iff.1 h1).1, by rw [h1]; exact h2⟩
theorem pick_mem (A : Sys) (x : Nat) (l : List Nat) : (A.pick (x :: l)).1 ∈ x :: l := by
  unfold Sys.pick
  split
  · rename_i s hs
    show (x :: l).getD (s % ((x :: l).length : Int)).toNat 0 ∈ x :: l
    have hpos : (0 : Int) < ((x :: l).length : Int) := by simp only [List.length_cons]; omega
    have h1 := Int.emod_nonneg s (show ((x :: l).length : Int) ≠ 0 by omega)
    have h2 := Int.emod_lt_of_pos s hpos
    have hlt : (s % ((x :: l).length : Int)).toNat < (x :: l).length := by omega
    rw [List.getD_eq_getElem?_getD, List.getElem?_eq_getElem hlt, Option.getD_some]
    exact List.getElem_mem hlt
  · show ((x :: l).find? _).getD ((x :: l).headD 0) ∈ x :: l
    cases h : (x :: l).find? fun (j : Nat) => decide (A.last < (j : Int)) with
    | none => simp
    | some y => exact List.mem_of_find?_eq_some h
theorem pick_same (A : Sys) (l : List Nat) : (A.pick l).2.trace = A.trace ∧ (A.pick l).2.cnt = A.cnt ∧ (A.pick l).2.vals = A.vals ∧ (A.pick l).2.ths = A.ths ∧ (A.pick l).2.stuck = A.stuck := by
  unfold Sys.pick
  split <;> exact ⟨rfl, rfl, rfl, rfl, rfl⟩
/-- When nobody can go, and somebody waits, it was not stuck. -/
theorem waits_not_stuck {A : Sys} (h : A.readyL = []) (hw : A.waits = true) : A.stuck = false := by
  cases hs : A.stuck with
  | false => rfl
  | true =>
    unfold Sys.waits at hw
    rw [List.any_eq_true] at hw
    obtain ⟨t, ht, h2⟩ := hw
    obtain ⟨j, hj, e⟩ := List.getElem_of_mem ht
    have : j ∈ A.readyL := mem_readyL.2 ⟨t, by rw [List.getElem?_eq_getElem hj, e], by unfold Sys.readyB; simp [hs, h2]⟩
    rw [h] at this
    cases this
section
variable {N : Nat} {Inv : Sys → List Left → Prop}
  (hEnd : ∀ A ps, Inv A ps → ps.length = N → A.ths.length = N → A.readyL = [] → A.waits = false → ∀ q ∈ ps, ∃ r, q = .inr r)
  (hStk : ∀ A ps, Inv A ps → ps.length = N → A.ths.length = N → A.readyL = [] → A.waits = true → A.stuck = false → Inv A.setStuck ps)
  (hGo : ∀ A ps x l, Inv A ps → ps.length = N → A.ths.length = N → A.readyL = x :: l → ∃ k, ps[(A.pick (x :: l)).1]? = some (.inl k) ∧
    k.wp (A.pick (x :: l)).1 ((A.pick (x :: l)).2.letGo (A.pick (x :: l)).1) fun A' q => Inv A' (ps.set (A.pick (x :: l)).1 q))
include hEnd hStk hGo
theorem turns_inv : ∀ (n : Nat) (A : Sys) (ps : List Left) (t : Nat) (bs : List Nat), Inv A ps → ps.length = N → A.ths.length = N → Wts ps bs → bs.sum + (if A.stuck then 0 else 1) ≤ n → Lim A t → t + bs.sum + (if A.stuck then 0 else 1) ≤ 2 ^ 40 →
    ∃ res, turns (n + 1) A ps = some res ∧ res.2.length = N ∧ Inv res.1 (res.2.map .inr) ∧ res.1.trace.length ≤ 2 ^ 40 := by
  intro n
  induction n with
  | zero =>
    intro A ps t bs hI hN hA hW hn hL ht
    have hst : A.stuck = true := by cases h : A.stuck with
      | true => rfl
      | false => rw [h] at hn; simp at hn
    cases hr : A.readyL with
    | nil =>
      have hwf : A.waits = false := by
        cases hw : A.waits with
        | false => rfl
        | true => rw [waits_not_stuck hr hw] at hst; cases hst
      exact turns_end hEnd hI hN hA hr hwf (by have := hL.1; omega)
    | cons x l =>
      obtain ⟨k, hk, _⟩ := hGo A ps x l hI hN hA hr
      obtain ⟨b, hb⟩ : ∃ b, bs[(A.pick (x :: l)).1]? = some b := ⟨bs[(A.pick (x :: l)).1]'(by rw [hW.1]; exact (List.getElem?_eq_some_iff.1 hk).1), by simp⟩
      obtain ⟨m, e, _⟩ := hW.2 _ _ _ hk hb
      have := sum_set (b' := 0) hb
      omega
  | succ n ih =>
    intro A ps t bs hI hN hA hW hn hL ht
    cases hr : A.readyL with
    | nil =>
      cases hw : A.waits with
      | false => exact turns_end hEnd hI hN hA hr hw (by have := hL.1; omega)
      | true =>
        have hst := waits_not_stuck hr hw
        have hlt : A.trace.length < traceMax := by have := hL.1; rw [hst] at ht; simp at ht; unfold traceMax; omega
        rw [hst] at hn
        obtain ⟨res, h1, h2⟩ := ih A.setStuck ps (t + 1) bs (hStk A ps hI hN hA hr hw hst) hN hA hW (by simp [Sys.setStuck] at hn ⊢; omega) ⟨by have := hL.1; simp [Sys.setStuck]; omega, fun d => by have := hL.2 d; show A.changed d ≤ _; omega⟩ (by rw [hst] at ht; simp [Sys.setStuck] at ht ⊢; omega)
        refine ⟨res, ?_, h2⟩
        rw [turns, hr]
        simp only [hw, if_true, if_pos hlt]
        exact h1
    | cons x l =>
      obtain ⟨k, hk, hwp⟩ := hGo A ps x l hI hN hA hr
      obtain ⟨b, hb⟩ : ∃ b, bs[(A.pick (x :: l)).1]? = some b := ⟨bs[(A.pick (x :: l)).1]'(by rw [hW.1]; exact (List.getElem?_eq_some_iff.1 hk).1), by simp⟩
      obtain ⟨m, e, hkb⟩ := hW.2 _ _ _ hk hb
      have hsum := sum_set (b' := 0) hb
      obtain ⟨p1, p2, p3, p4, p5⟩ := pick_same A (x :: l)
      obtain ⟨A', q, b', t', g1, g2, g3, g4, g5, g6, g7, g8⟩ := go_wp (t := t) hwp hkb ⟨by show (A.pick (x :: l)).2.trace.length ≤ t; rw [p1]; exact hL.1, fun d => by
        have := hL.2 d
        unfold Sys.changed at this ⊢
        show (if d < 0 then 0 else ((A.pick (x :: l)).2.cnt[d.toNat]?).getD 0) ≤ _
        rw [p2]
        exact this⟩ (by omega)
      have hsum' := sum_set (b' := b') hb
      have e1 : A'.stuck = A.stuck := g7.trans p5
      have e2 : A'.ths.length = N := by rw [g8]; simp [Sys.letGo, Sys.setSt, p4, hA]
      obtain ⟨res, h1, h2⟩ := ih A' (ps.set (A.pick (x :: l)).1 q) t' (bs.set (A.pick (x :: l)).1 b') g2 (by simpa using hN) e2 (hW.set g3) (by rw [e1]; omega) g4 (by rw [e1]; omega)
      refine ⟨res, ?_, h2⟩
      rw [turns, hr]
      simp only [hk, g1]
      exact h1
where
  turns_end {N n : Nat} {Inv : Sys → List Left → Prop} {A : Sys} {ps : List Left} (hEnd : ∀ A ps, Inv A ps → ps.length = N → A.ths.length = N → A.readyL = [] → A.waits = false → ∀ q ∈ ps, ∃ r, q = .inr r) (hI : Inv A ps) (hN : ps.length = N) (hA : A.ths.length = N) (hr : A.readyL = []) (hw : A.waits = false) (htl : A.trace.length ≤ 2 ^ 40) :
      ∃ res, turns (n + 1) A ps = some res ∧ res.2.length = N ∧ Inv res.1 (res.2.map .inr) ∧ res.1.trace.length ≤ 2 ^ 40 := by
    have h := hEnd A ps hI hN hA hr hw
    have hm : ∀ l : List Left, (∀ q ∈ l, ∃ r, q = .inr r) → ∃ rs, l.mapM leftOver = some rs ∧ l = rs.map .inr := by
      intro l
      induction l with
      | nil => intro _; exact ⟨[], rfl, rfl⟩
      | cons q l ih =>
        intro h
        obtain ⟨r, rfl⟩ := h q (by simp)
        obtain ⟨rs, h1, h2⟩ := ih fun q hq => h q (by simp [hq])
        refine ⟨r :: rs, ?_, by rw [h2]; rfl⟩
        rw [List.mapM_cons, h1]
        rfl
    obtain ⟨rs, h1, h2⟩ := hm ps h
    refine ⟨(A, rs), ?_, ?_, ?_, htl⟩
    · rw [turns, hr]
      simp only [hw, h1]
      rfl
    · rw [h2] at hN; simpa using hN
    · rw [← h2]; exact hI
theorem runs_inv {progs : List Prog} (hpN : progs.length = N) {B : Nat} (hbd : ∀ p ∈ progs, p.bd B) (hB : N * (B + 1) + 1 ≤ 2 ^ 40)
    (hSp : ∀ A ps p, Inv A ps → A.ths.length = ps.length → progs[ps.length]? = some p → p.wp ps.length { A with ths := A.ths ++ [⟨0, 0, 0, 0⟩] } fun A' q => Inv A' (ps ++ [q]))
    {A0 : Sys} (h0 : Inv A0 []) (hths : A0.ths = []) (hL0 : Lim A0 0) : ∃ res, runs (N * (B + 1) + 2) A0 progs = some res ∧ res.2.length = N ∧ Inv res.1 (res.2.map .inr) ∧ res.1.trace.length ≤ 2 ^ 40 := by
  have hsp : ∀ (l : List Prog) (A : Sys) (ps : List Left) (t : Nat) (bs : List Nat), progs = progs.take ps.length ++ l → Inv A ps → A.ths.length = ps.length → Wts ps bs → Lim A t → t + bs.sum + l.length * (B + 1) ≤ N * (B + 1) →
      ∃ A' ps' t' bs', spawns l A ps = some (A', ps') ∧ Inv A' ps' ∧ A'.ths.length = ps'.length ∧ ps'.length = ps.length + l.length ∧ Wts ps' bs' ∧ Lim A' t' ∧ t' + bs'.sum ≤ N * (B + 1) := by
    intro l
    induction l with
    | nil => intro A ps t bs hp h1 h2 h3 h4 h5; exact ⟨A, ps, t, bs, rfl, h1, h2, rfl, h3, h4, by simpa using h5⟩
    | cons p l ih =>
      intro A ps t bs hp h1 h2 h3 h4 h5
      have hlen : ps.length < progs.length := by
        rcases Nat.lt_or_ge ps.length progs.length with h | h
        · exact h
        · have e := congrArg List.length hp
          rw [List.take_of_length_le h] at e
          simp at e
      have hpp : progs[ps.length]? = some p := by
        rw [hp, List.getElem?_append_right (by simp [Nat.le_of_lt hlen])]
        simp [Nat.min_eq_left (Nat.le_of_lt hlen)]
      simp only [List.length_cons, Nat.succ_mul] at h5
      obtain ⟨A', q, b', t', g1, g2, g3, g4, g5, g6, g7, g8⟩ := go_wp (t := t) (hSp A ps p h1 h2 hpp) (hbd p (List.mem_of_getElem? hpp)) ⟨h4.1, h4.2⟩ (by omega)
      have hW' : Wts (ps ++ [q]) (bs ++ [b']) := by
        refine ⟨by simp [h3.1], fun i q' b'' e1 e2 => ?_⟩
        rcases Nat.lt_or_ge i ps.length with hi | hi
        · rw [List.getElem?_append_left hi] at e1
          rw [List.getElem?_append_left (by rw [h3.1]; exact hi)] at e2
          exact h3.2 i q' b'' e1 e2
        · rw [List.getElem?_append_right hi] at e1
          rw [List.getElem?_append_right (by rw [h3.1]; exact hi), h3.1] at e2
          cases hd : i - ps.length with
          | zero => rw [hd] at e1 e2; cases e1; cases e2; exact g3
          | succ d => rw [hd] at e1; simp at e1
      have htk : progs.take (ps ++ [q]).length ++ l = progs := by
        rw [List.length_append, List.length_singleton, List.take_add_one, hpp]
        simp only [Option.toList_some, List.append_assoc, List.singleton_append]
        exact hp.symm
      obtain ⟨A2, ps2, t2, bs2, f1, f2, f3, f4, f5, f6, f7⟩ := ih A' (ps ++ [q]) t' (bs ++ [b']) htk.symm g2 (by rw [g8]; simp [h2]) hW' g4 (by simp only [List.sum_append, List.sum_cons, List.sum_nil]; omega)
      refine ⟨A2, ps2, t2, bs2, ?_, f2, f3, by rw [f4]; simp; omega, f5, f6, f7⟩
      rw [spawns, g1]
      exact f1
  obtain ⟨A', ps', t', bs', e1, e2, e3, e4, e5, e6, e7⟩ := hsp progs A0 [] 0 [] (by simp) h0 (by rw [hths]; rfl) ⟨rfl, fun i q b h => by cases h⟩ hL0 (by simp [hpN])
  have hN' : ps'.length = N := by rw [e4]; simpa using hpN
  have hb' : bs'.sum + (if A'.stuck then 0 else 1) ≤ bs'.sum + 1 := by split <;> omega
  obtain ⟨res, r1, r2, r3⟩ := turns_inv hEnd hStk hGo (N * (B + 1) + 1) A' ps' t' bs' e2 hN' (by rw [e3]; exact hN') e5 (by omega) e6 (by omega)
  refine ⟨res, ?_, r2, r3⟩
  unfold runs
  rw [e1]
  exact r1
end
end Go.Proofs.Ytecdiejeofclaaa


/- Plain: a run of threads that never await. -/
namespace Go.Proofs.Ytecdiejeofclaaa
open Go
structure Mem where
  vals : List Int
  cnt : List Int
  trace : List TStep
namespace Mem
def get (M : Mem) (c : Nat) : Int := (M.vals[c]?).getD 0
def put (M : Mem) (c : Nat) (x : Int) : Mem := { M with vals := M.vals.set c x }
def note (M : Mem) (i : Int) (op c a b : Int) : Mem := { M with trace := M.trace ++ [⟨i, c, op, a, b⟩] }
def bump (M : Mem) (c : Nat) : Mem := { M with cnt := M.cnt.modify c (· + 1) }
end Mem
def Sys.mem (A : Sys) : Mem := ⟨A.vals, A.cnt, A.trace⟩
/-- As 'wp', of threads that want steps alone. -/
def Prog.wq (i : Nat) : Prog → Mem → (Mem → Left → Prop) → Prop
  | .done r, M, Q => Q M (.inr r)
  | .out, _, _ => False
  | .wait st _ _ k, M, Q => st = 1 ∧ Q M (.inl k)
  | .rd c k, M, Q => (k (M.get c)).wq i M Q
  | .wr c x k, M, Q => k.wq i (M.put c x) Q
  | .note op c a b k, M, Q => k.wq i (M.note i op c a b) Q
  | .bump c k, M, Q => k.wq i (M.bump c) Q
  | .stk k, M, Q => (k false).wq i M Q
/-- A thread stands as what is left of it says. -/
def StOk (t : TSt) : Left → Prop
  | .inl _ => t.st = 1
  | .inr _ => t.st = 3
theorem wp_of_wq {i : Nat} {Q : Mem → Left → Prop} {R : Sys → Left → Prop} : ∀ {p : Prog} {A : Sys}, p.wq i A.mem Q → A.stuck = false → i < A.ths.length →
    (∀ A' q, Q A'.mem q → A'.stuck = false → A'.ths.length = A.ths.length → (∀ j, j ≠ i → A'.ths[j]? = A.ths[j]?) → (∃ t, A'.ths[i]? = some t ∧ StOk t q) → R A' q) → p.wp i A R
  | .done r, A, h, hs, hi, K => K (A.setSt i 3) (.inr r) h hs (by simp [Sys.setSt]) (fun j hj => by simp only [Sys.setSt, List.getElem?_modify, if_neg (fun e => hj e.symm : ¬ i = j)]; simp) ⟨{ A.ths[i] with st := 3 }, by simp [Sys.setSt, hi], rfl⟩
  | .out, _, h, _, _, _ => h.elim
  | .wait st op c k, A, h, hs, hi, K => K (A.park i st op c) (.inl k) h.2 hs (by simp [Sys.park]) (fun j hj => by simp only [Sys.park]; rw [List.getElem?_set_ne (fun e => hj e.symm)]) ⟨⟨st, c, op, A.changed c⟩, by simp [Sys.park, hi], h.1⟩
  | .rd c k, A, h, hs, hi, K => wp_of_wq (p := k (A.get c)) h hs hi K
  | .wr c x k, A, h, hs, hi, K => wp_of_wq (p := k) (A := A.put c x) h hs hi K
  | .note op c a b k, A, h, hs, hi, K => wp_of_wq (p := k) (A := A.note i op c a b) h hs hi K
  | .bump c k, A, h, hs, hi, K => wp_of_wq (p := k) (A := A.bump c) h hs hi K
  | .stk k, A, h, hs, hi, K => by
    show (k A.stuck).wp i A _
    rw [hs]
    exact wp_of_wq (p := k false) h hs hi K
theorem runs_mem {N : Nat} {Inv : Mem → List Left → Prop} {progs : List Prog} (hpN : progs.length = N) {B : Nat} (hbd : ∀ p ∈ progs, p.bd B) (hB : N * (B + 1) + 1 ≤ 2 ^ 40)
    (hSp : ∀ (M : Mem) (ps : List Left) (p : Prog), Inv M ps → progs[ps.length]? = some p → p.wq ps.length M fun M' q => Inv M' (ps ++ [q]))
    (hGo : ∀ (M : Mem) (ps : List Left) (j : Nat) (k : Prog), Inv M ps → ps.length = N → ps[j]? = some (.inl k) → k.wq j M fun M' q => Inv M' (ps.set j q))
    {A0 : Sys} (h0 : Inv A0.mem []) (hths : A0.ths = []) (hL0 : Lim A0 0) (hst : A0.stuck = false) :
    ∃ res, runs (N * (B + 1) + 2) A0 progs = some res ∧ res.2.length = N ∧ Inv res.1.mem (res.2.map .inr) ∧ res.1.stuck = false ∧ res.1.trace.length ≤ 2 ^ 40 := by
  suffices h : ∃ res, runs (N * (B + 1) + 2) A0 progs = some res ∧ res.2.length = N ∧ (Inv res.1.mem (res.2.map .inr) ∧ res.1.stuck = false ∧ (res.1.ths.length = (res.2.map (Sum.inr : _ → Left)).length ∧ ∀ (i : Nat) (t : TSt) (q : Left), res.1.ths[i]? = some t → (res.2.map (Sum.inr : _ → Left))[i]? = some q → StOk t q)) ∧ res.1.trace.length ≤ 2 ^ 40 by
    obtain ⟨res, h1, h2, ⟨h3, h4, _⟩, h5⟩ := h
    exact ⟨res, h1, h2, h3, h4, h5⟩
  refine runs_inv (N := N) (Inv := fun A ps => Inv A.mem ps ∧ A.stuck = false ∧ (A.ths.length = ps.length ∧ ∀ (i : Nat) (t : TSt) (q : Left), A.ths[i]? = some t → ps[i]? = some q → StOk t q))
    (fun A ps hI hN hA hr hw q hq => ?_) (fun A ps hI hN hA hr hw hs => ?_) (fun A ps x l hI hN hA hr => ?_) hpN hbd hB (fun A ps p hI hA hp => ?_) ⟨h0, hst, by simp [hths], fun i t q h => by rw [hths] at h; cases h⟩ hths hL0
  · obtain ⟨_, _, h3, h4⟩ := hI
    obtain ⟨i, hi, e⟩ := List.getElem_of_mem hq
    have hi' : i < A.ths.length := by omega
    have := h4 i A.ths[i] q (by simp) (by rw [List.getElem?_eq_getElem hi, e])
    cases q with
    | inr r => exact ⟨r, rfl⟩
    | inl k =>
      have hmem : i ∈ A.readyL := mem_readyL.2 ⟨A.ths[i], by simp, by unfold Sys.readyB; rw [show A.ths[i].st = 1 from this]; rfl⟩
      rw [hr] at hmem
      cases hmem
  · exfalso
    obtain ⟨_, _, h3, h4⟩ := hI
    unfold Sys.waits at hw
    rw [List.any_eq_true] at hw
    obtain ⟨t, ht, h2⟩ := hw
    obtain ⟨i, hi, e⟩ := List.getElem_of_mem ht
    have hi' : i < ps.length := by omega
    have := h4 i t ps[i] (by rw [List.getElem?_eq_getElem hi, e]) (by simp)
    cases hq : ps[i] with
    | inl k => rw [hq] at this; have h5 : t.st = 1 := this; rw [h5] at h2; simp at h2
    | inr r => rw [hq] at this; have h5 : t.st = 3 := this; rw [h5] at h2; simp at h2
  · obtain ⟨g1, g2, g3, g4⟩ := hI
    obtain ⟨p1, p2, p3, p4, p5⟩ := pick_same A (x :: l)
    have hmem := pick_mem A x l
    rw [← hr] at hmem
    obtain ⟨t, ht, hrd⟩ := mem_readyL.1 hmem
    rw [hr] at ht
    generalize hj : (A.pick (x :: l)).1 = j at *
    have hjl := (List.getElem?_eq_some_iff.1 ht).1
    have hjp : j < ps.length := by omega
    have hso := g4 j t ps[j] ht (by simp)
    cases hq : ps[j] with
    | inr r =>
      rw [hq] at hso
      have h5 : t.st = 3 := hso
      unfold Sys.readyB at hrd
      rw [h5] at hrd
      simp at hrd
    | inl k =>
      have hpj : ps[j]? = some (.inl k) := by rw [List.getElem?_eq_getElem hjp, hq]
      refine ⟨k, hpj, wp_of_wq (Q := fun M' q => Inv M' (ps.set j q)) ?_ (p5.trans g2) (by simp [Sys.letGo, Sys.setSt, p4, hjl]) fun A' q hQ hs hl hoth hown => ⟨hQ, hs, ?_, fun i t' q' e1 e2 => ?_⟩⟩
      · have e : ((A.pick (x :: l)).2.letGo j).mem = A.mem := by
          unfold Sys.mem Sys.letGo Sys.setSt
          simp only [p1, p2, p3]
        rw [e]
        exact hGo _ _ _ _ g1 hN hpj
      · rw [hl]; simp [Sys.letGo, Sys.setSt, p4, g3]
      · by_cases e : i = j
        · subst e
          obtain ⟨t2, ht2, ht3⟩ := hown
          rw [ht2] at e1
          cases e1
          rw [List.getElem?_set_self hjp] at e2
          cases e2
          exact ht3
        · rw [List.getElem?_set_ne (fun x => e x.symm)] at e2
          have := hoth i e
          simp only [Sys.letGo, Sys.setSt, List.getElem?_modify, p4, if_neg (fun x => e x.symm : ¬ j = i)] at this
          rw [this] at e1
          exact g4 i t' q' (by simpa using e1) e2
  · obtain ⟨g1, g2, g3, g4⟩ := hI
    refine wp_of_wq (Q := fun M' q => Inv M' (ps ++ [q])) (hSp A.mem ps p g1 hp) g2 (by simp [hA]) fun A' q hQ hs hl hoth hown => ⟨hQ, hs, by rw [hl]; simp [hA], fun i t' q' e1 e2 => ?_⟩
    by_cases e : i = ps.length
    · subst e
      obtain ⟨t2, ht2, ht3⟩ := hown
      rw [ht2] at e1
      cases e1
      simp at e2
      subst e2
      exact ht3
    · rw [hoth i e] at e1
      have hi : i < ps.length := by have := (List.getElem?_eq_some_iff.1 e2).1; simp at this; omega
      rw [List.getElem?_append_left hi] at e2
      refine g4 i t' q' ?_ e2
      simp only at e1
      rw [List.getElem?_append_left (by omega)] at e1
      exact e1
end Go.Proofs.Ytecdiejeofclaaa


/- Plain: bounds of processes; a run of one thread alone. -/
namespace Go.Proofs.Ytecdiejeofclaaa
open Go
theorem bdm {p : Prog} {n n' : Nat} (h : p.bd n) (hn : n ≤ n') : p.bd n' := Prog.bd_mono h hn
theorem did_bd {k : Prog} {b : Nat} (h : k.bd b) (op : Int) (c : Nat) (x y : Int) : (Prog.did op c x y k).bd (b + 2) := by
  refine ⟨b + 1, rfl, ?_⟩
  by_cases e : x = y
  · rw [if_pos e]; exact bdm h (by omega)
  · rw [if_neg e]; exact ⟨b, rfl, h⟩
theorem load_bd {k : Int → Prog} {b : Nat} (h : ∀ x, (k x).bd b) (c : Nat) : (Prog.load c k).bd (b + 3) := ⟨b + 2, rfl, fun x => did_bd (h x) _ _ _ _⟩
theorem cas_bd {k : Bool → Prog} {b : Nat} (h : ∀ x, (k x).bd b) (c : Nat) (o n : Int) : (Prog.cas c o n k).bd (b + 3) := ⟨b + 2, rfl, fun x => by
  by_cases e : x = o
  · show Prog.bd (if x = o then _ else _) _
    rw [if_pos e]; exact did_bd (h true) 4 c o n
  · show Prog.bd (if x = o then _ else _) _
    rw [if_neg e]; exact did_bd (h false) 4 c x x⟩
theorem callsA_bd {dop : List (Int × Int) → ACall → (Int × Int → Prog) → Prog} {C : Nat} (hd : ∀ acc x K b, (∀ r, (K r).bd b) → (dop acc x K).bd (C + b)) {K : List (Int × Int) → Prog} {b : Nat} (hK : ∀ l, (K l).bd b) :
    ∀ (l : List ACall) (st : Bool) (k : Nat) (acc : List (Int × Int)), (Prog.callsA dop st k l acc K).bd (l.length * (C + 2) + b)
  | [], st, k, acc => by cases st <;> simpa [Prog.callsA] using hK acc
  | x :: l, true, k, acc => Prog.bd_mono (p := Prog.callsA dop true (k + 1) l (acc ++ [(4, 0)]) K) (callsA_bd hd hK l true (k + 1) _) (by simp only [List.length_cons, Nat.succ_mul]; omega)
  | x :: l, false, k, acc => by
    refine ⟨(l.length * (C + 2) + b) + 1 + C, by simp only [List.length_cons, Nat.succ_mul]; omega, ?_⟩
    refine Prog.bd_mono (hd acc x _ (l.length * (C + 2) + b + 1) fun r => ⟨_, rfl, callsA_bd hd hK l _ (k + 1) _⟩) (by omega)
/-- What a thread alone comes to. -/
def Prog.ev : Prog → Mem → (Mem → Answers → Prop) → Prop
  | .done r, M, Q => Q M r
  | .out, _, _ => False
  | .wait st _ _ k, M, Q => st = 1 ∧ k.ev M Q
  | .rd c k, M, Q => (k (M.get c)).ev M Q
  | .wr c x k, M, Q => k.ev (M.put c x) Q
  | .note op c a b k, M, Q => k.ev (M.note 0 op c a b) Q
  | .bump c k, M, Q => k.ev (M.bump c) Q
  | .stk k, M, Q => (k false).ev M Q
def evL (Q : Mem → Answers → Prop) (M : Mem) : Left → Prop
  | .inl k => k.ev M Q
  | .inr r => Q M r
theorem wq_of_ev {Q : Mem → Answers → Prop} {R : Mem → Left → Prop} (hR : ∀ M q, evL Q M q → R M q) : ∀ {p : Prog} {M : Mem}, p.ev M Q → p.wq 0 M R
  | .done r, M, h => hR M (.inr r) h
  | .out, _, h => h
  | .wait _ _ _ k, M, h => ⟨h.1, hR M (.inl k) h.2⟩
  | .rd c k, M, h => wq_of_ev (p := k (M.get c)) hR h
  | .wr c x k, M, h => wq_of_ev (p := k) (M := M.put c x) hR h
  | .note op c a b k, M, h => wq_of_ev (p := k) (M := M.note 0 op c a b) hR h
  | .bump c k, M, h => wq_of_ev (p := k) (M := M.bump c) hR h
  | .stk k, M, h => wq_of_ev (p := k false) hR h
theorem runs_one {Q : Mem → Answers → Prop} {p : Prog} {B : Nat} (hbd : p.bd B) (hB : B + 2 ≤ 2 ^ 40) {A0 : Sys} (hev : p.ev A0.mem Q) (hths : A0.ths = []) (hL0 : Lim A0 0) (hst : A0.stuck = false) :
    ∃ res r, runs (B + 3) A0 [p] = some res ∧ res.2 = [r] ∧ Q res.1.mem r ∧ res.1.stuck = false ∧ res.1.trace.length ≤ 2 ^ 40 := by
  obtain ⟨res, h1, h2, h3, h4, h5⟩ := runs_mem (N := 1) (progs := [p]) (Inv := fun M ps => match ps with | [] => p.ev M Q | [q] => evL Q M q | _ => False) rfl (B := B) (fun x hx => by rw [List.mem_singleton.1 hx]; exact hbd) (by omega)
    (fun M ps q hI hq => by
      have hl : ps.length = 0 := by have := (List.getElem?_eq_some_iff.1 hq).1; simpa using this
      obtain rfl := List.length_eq_zero_iff.1 hl
      simp only [List.length_nil, List.getElem?_cons_zero, Option.some.injEq] at hq
      subst hq
      exact wq_of_ev (fun M q h => h) hI)
    (fun M ps j k hI hl hq => by
      match ps, hl with
      | [q], _ =>
        have hj : j = 0 := by have := (List.getElem?_eq_some_iff.1 hq).1; simpa using this
        subst hj
        simp only [List.getElem?_cons_zero, Option.some.injEq] at hq
        subst hq
        exact wq_of_ev (fun M q h => h) hI)
    (A0 := A0) hev hths hL0 hst
  match hr : res.2, h2 with
  | [r], _ =>
    rw [hr] at h3
    exact ⟨res, r, by have e : 1 * (B + 1) + 2 = B + 3 := by omega
                      rw [← e]; exact h1, hr, h3, h4, h5⟩
end Go.Proofs.Ytecdiejeofclaaa


/- Plain: slots, by one thread alone. -/
namespace Go.Proofs.Ytecdiejeofclaaa
open Go
theorem low32 (n : Nat) : getN n 0 32 = n % 4294967296 := by unfold getN; rw [Nat.pow_zero, Nat.div_one]
theorem put_low {z : Nat} (hz : z < 4294967296) : putN 0 0 32 z = z := by
  unfold putN
  rw [Nat.pow_zero, Nat.mod_one, Nat.zero_add, Nat.mul_one, Nat.zero_div, Nat.zero_mul, Nat.add_zero]
  exact Nat.mod_eq_of_lt hz
theorem put_high (n y : Nat) : putN n 32 30 y % 4294967296 = n % 4294967296 := by unfold putN; omega
theorem firstN_chg {h : Int} {to : Nat} (hto : to < 4294967296) : firstN (chgX h to) = to := by
  unfold firstN chgX
  have e0 : u64 0 = 0 := rfl
  have h1 : u64 (i64 to) = to := u64_i64 (by omega)
  rw [e0, put_low hto, h1, u64_i64 (putN_lt _ (by omega) (by omega)), low32, put_high]
  omega
def getV (V : List Int) (c : Nat) : Int := (V[c]?).getD 0
theorem getV_set {V : List Int} {c d : Nat} {x : Int} (hc : c < V.length) : getV (V.set c x) d = if d = c then x else getV V d := by
  unfold getV
  rw [List.getElem?_set]
  by_cases e : c = d
  · subst e; simp [hc]
  · rw [if_neg e, if_neg (fun h => e h.symm)]
def nextOf : List Nat → Nat
  | [] => 0
  | x :: _ => x + 1
/-- The slots that are free, in their row. -/
def RowIs (V : List Int) : List Nat → Prop
  | [] => True
  | x :: F => getV V (1 + 2 * x) = (nextOf F : Nat) ∧ RowIs V F
structure OneV (N : Nat) (V : List Int) (F : List Nat) : Prop where
  len : V.length = 2 * N + 1
  hd : firstN (getV V 0) = nextOf F
  row : RowIs V F
  lt : ∀ x ∈ F, x < N
  nd : F.Nodup
  used : ∀ x, x < N → getV V (2 + 2 * x) = if x ∈ F then 0 else 1
theorem nextOf_le {N : Nat} {F : List Nat} (h : ∀ x ∈ F, x < N) : nextOf F ≤ N := by
  cases F with
  | nil => exact Nat.zero_le _
  | cons x F => exact h x (by simp)
theorem RowIs.set {V : List Int} {c : Nat} {x : Int} (hc : c < V.length) : ∀ {F : List Nat}, RowIs V F → (∀ y ∈ F, 1 + 2 * y ≠ c) → RowIs (V.set c x) F
  | [], _, _ => trivial
  | y :: F, ⟨h1, h2⟩, hn => ⟨by rw [getV_set hc, if_neg (hn y (by simp))]; exact h1, RowIs.set hc h2 fun z hz => hn z (by simp [hz])⟩
theorem OneV.take {N x : Nat} {V : List Int} {F : List Nat} (h : OneV N V (x :: F)) (hN : N ≤ 1000) : OneV N ((V.set 0 (chgX (getV V 0) (nextOf F))).set (2 + 2 * x) 1) F := by
  have hx : x < N := h.lt x (by simp)
  have hl := h.len
  have hnx : nextOf F ≤ N := nextOf_le fun y hy => h.lt y (by simp [hy])
  have nd := List.nodup_cons.1 h.nd
  refine ⟨by simp [hl], ?_, ?_, fun y hy => h.lt y (by simp [hy]), nd.2, fun y hy => ?_⟩
  · rw [getV_set (by simp; omega), if_neg (by omega), getV_set (by omega), if_pos rfl, firstN_chg (by omega)]
  · exact (h.row.2.set (by omega) fun y _ => by omega).set (by simp; omega) fun y _ => by omega
  · rw [getV_set (by simp; omega), getV_set (by omega), if_neg (show ¬ 2 + 2 * y = 0 by omega), h.used y hy]
    by_cases e : y = x
    · subst e; rw [if_pos rfl, if_neg nd.1]
    · rw [if_neg (by omega)]
      simp [e]
theorem OneV.give {N x : Nat} {V : List Int} {F : List Nat} (h : OneV N V F) (hN : N ≤ 1000) (hx : x < N) (hxF : x ∉ F) : OneV N (((V.set (2 + 2 * x) 0).set (1 + 2 * x) (firstN (getV V 0) : Nat)).set 0 (chgX (getV V 0) (x + 1))) (x :: F) := by
  have hl := h.len
  refine ⟨by simp [hl], ?_, ⟨?_, ?_⟩, fun y hy => ?_, List.nodup_cons.2 ⟨hxF, h.nd⟩, fun y hy => ?_⟩
  · rw [getV_set (by simp; omega), if_pos rfl, firstN_chg (by omega)]; rfl
  · rw [getV_set (by simp; omega), if_neg (by omega), getV_set (by simp; omega), if_pos rfl, h.hd]
  · refine ((h.row.set (by omega) fun y _ => by omega).set (by simp; omega) fun y hy => fun e => hxF ?_).set (by simp; omega) fun y _ => by omega
    rw [show x = y by omega]; exact hy
  · rcases List.mem_cons.1 hy with rfl | hy
    · exact hx
    · exact h.lt y hy
  · rw [getV_set (by simp; omega), if_neg (by omega), getV_set (by simp; omega), if_neg (by omega), getV_set (by omega)]
    by_cases e : y = x
    · subst e; rw [if_pos rfl]; simp
    · rw [if_neg (by omega), h.used y hy]; simp [e]
theorem load_ev {c : Nat} {k : Int → Prog} {M : Mem} {Q : Mem → Answers → Prop} (h : ∀ M', M'.vals = M.vals → (k (getV M.vals c)).ev M' Q) : (Prog.load c k).ev M Q := by
  refine ⟨rfl, ?_⟩
  show Prog.ev (if (M.get c) = (M.get c) then k (M.get c) else _) _ Q
  rw [if_pos rfl]
  exact h _ rfl
theorem did_ev {op : Int} {c : Nat} {x y : Int} {k : Prog} {M : Mem} {Q : Mem → Answers → Prop} (h : ∀ M', M'.vals = M.vals → k.ev M' Q) : (Prog.did op c x y k).ev M Q := by
  show Prog.ev (if x = y then k else .bump c k) _ Q
  by_cases e : x = y
  · rw [if_pos e]; exact h _ rfl
  · rw [if_neg e]; exact h _ rfl
theorem cas_ev {c : Nat} {old new : Int} {k : Bool → Prog} {M : Mem} {Q : Mem → Answers → Prop} (h1 : getV M.vals c = old → ∀ M', M'.vals = M.vals.set c new → (k true).ev M' Q) (h2 : getV M.vals c ≠ old → ∀ M', M'.vals = M.vals → (k false).ev M' Q) : (Prog.cas c old new k).ev M Q := by
  refine ⟨rfl, ?_⟩
  show Prog.ev (if (M.get c) = old then _ else _) _ Q
  by_cases e : M.get c = old
  · rw [if_pos e]; exact did_ev fun M' hM => h1 e M' hM
  · rw [if_neg e]; exact did_ev fun M' hM => h2 e M' hM
theorem store_ev {c : Nat} {y : Int} {k : Prog} {M : Mem} {Q : Mem → Answers → Prop} (h : ∀ M', M'.vals = M.vals.set c y → k.ev M' Q) : (Prog.store c y k).ev M Q := ⟨rfl, did_ev fun M' hM => h M' hM⟩
theorem take_ev0 {N f : Nat} {k : Int → Int → Prog} {M : Mem} {Q : Mem → Answers → Prop} (h : OneV N M.vals []) (K : ∀ M', M'.vals = M.vals → (k 0 80).ev M' Q) : (takeP N k (f + 1)).ev M Q := by
  refine load_ev fun M' hM => ?_
  have hd : firstN (getV M.vals 0) = 0 := h.hd
  rw [if_pos hd]
  exact K M' hM
theorem take_ev1 {N f x : Nat} {F : List Nat} (hN : N ≤ 1000) {k : Int → Int → Prog} {M : Mem} {Q : Mem → Answers → Prop} (h : OneV N M.vals (x :: F)) (K : ∀ M', OneV N M'.vals F → (k (x : Nat) 0).ev M' Q) : (takeP N k (f + 1)).ev M Q := by
  refine load_ev fun M' hM => ?_
  have hx : x < N := h.lt x (by simp)
  have hd : firstN (getV M.vals 0) = x + 1 := h.hd
  have hnx : nextOf F ≤ N := nextOf_le fun y hy => h.lt y (by simp [hy])
  rw [hd, if_neg (by omega), if_neg (by omega), Nat.add_sub_cancel]
  refine load_ev fun M2 hM2 => ?_
  rw [hM, h.row.1, if_neg (by omega), Int.toNat_natCast]
  refine cas_ev (fun _ M3 hM3 => ?_) fun hne => absurd (by rw [hM2, hM]) hne
  rw [if_pos rfl]
  refine store_ev fun M4 hM4 => K M4 ?_
  rw [hM4, hM3, hM2, hM]
  exact h.take hN
theorem give_ev {N f x : Nat} {F : List Nat} (hN : N ≤ 1000) {k : Int → Prog} {M : Mem} {Q : Mem → Answers → Prop} (h : OneV N M.vals F) (hx : x < N) (hxF : x ∉ F) (K : ∀ M', OneV N M'.vals (x :: F) → (k 0).ev M' Q) : (giveP N (x : Nat) k (f + 1)).ev M Q := by
  unfold giveP
  rw [if_neg (by omega), Int.toNat_natCast]
  refine cas_ev (fun _ M1 hM1 => ?_) fun hne => absurd (by rw [h.used x hx, if_neg hxF]) hne
  rw [if_pos rfl]
  refine load_ev fun M2 hM2 => ?_
  have hl := h.len
  have h0 : getV M1.vals 0 = getV M.vals 0 := by rw [hM1, getV_set (by omega), if_neg (by omega)]
  rw [h0]
  refine store_ev fun M3 hM3 => ?_
  have h3 : getV M3.vals 0 = getV M.vals 0 := by rw [hM3, hM2, getV_set (by rw [hM1]; simp; omega), if_neg (by omega), h0]
  refine cas_ev (fun _ M4 hM4 => ?_) fun hne => absurd h3 hne
  rw [if_pos rfl]
  refine K M4 ?_
  rw [hM4, hM3, hM2, hM1]
  exact h.give hN hx hxF
/-- What one thread alone is told. -/
structure AS where
  given : List Nat
  taken : List Nat
  fresh : Nat
def asStep (N : Nat) (s : AS) (op : Int) : (Int × Int) × AS :=
  if op = 1 then
    if s.given ≠ [] then ((0, (s.given.getLastD 0 : Nat)), ⟨s.given.dropLast, s.taken ++ [s.given.getLastD 0], s.fresh⟩)
    else if s.fresh < N then ((0, (s.fresh : Nat)), ⟨s.given, s.taken ++ [s.fresh], s.fresh + 1⟩) else ((80, 0), s)
  else if s.taken = [] then ((1, 0), s) else ((0, (s.taken.getLastD 0 : Nat)), ⟨s.given ++ [s.taken.getLastD 0], s.taken.dropLast, s.fresh⟩)
def asRun (N : Nat) : AS → List Int → List (Int × Int)
  | _, [] => []
  | s, op :: l => (asStep N s op).1 :: asRun N (asStep N s op).2 l
def AS.row (N : Nat) (s : AS) : List Nat := s.given.reverse ++ List.range' s.fresh (N - s.fresh)
structure ASOk (N : Nat) (s : AS) : Prop where
  fresh : s.fresh ≤ N
  nd : (s.row N ++ s.taken).Nodup
  lt : ∀ x ∈ s.row N ++ s.taken, x < N
theorem getLastD_snoc {α : Type} (l : List α) (x d : α) : (l ++ [x]).getLastD d = x := by simp [List.getLastD_eq_getLast?]
theorem snoc_of_ne {α : Type} {l : List α} (h : l ≠ []) : ∃ G x, l = G ++ [x] := ⟨_, _, (List.dropLast_concat_getLast h).symm⟩
theorem as_step {N f : Nat} {s : AS} {x : ACall} (hN : N ≤ 1000) (hop : x.op = 1 ∨ x.op = 3) (hs : ASOk N s) {k : Int × Int → Prog} {M : Mem} {Q : Mem → Answers → Prop} (hM : OneV N M.vals (s.row N))
    (K : ∀ M', OneV N M'.vals ((asStep N s x.op).2.row N) → (k (asStep N s x.op).1).ev M' Q) : (slotsP (f + 1) N (s.taken.map Int.ofNat) x k).ev M Q := by
  obtain ⟨G, T, fr⟩ := s
  have hfr := hs.fresh
  simp only at hfr
  unfold slotsP
  rcases hop with hop | hop
  · rw [if_pos hop]
    rw [hop] at K
    by_cases hG : G = []
    · subst hG
      by_cases hf : fr < N
      · have er : (⟨[], T, fr⟩ : AS).row N = fr :: List.range' (fr + 1) (N - (fr + 1)) := by
          unfold AS.row
          simp only [List.reverse_nil, List.nil_append]
          rw [show N - fr = (N - (fr + 1)) + 1 by omega, List.range'_succ]
        rw [er] at hM
        refine take_ev1 hN hM fun M' hM' => ?_
        have := K M'
        simp only [asStep, if_pos, ne_eq, not_true_eq_false, if_false, hf, if_true, AS.row, List.reverse_nil, List.nil_append] at this
        exact this hM'
      · have er : (⟨[], T, fr⟩ : AS).row N = [] := by
          unfold AS.row
          simp only [List.reverse_nil, List.nil_append]
          rw [show N - fr = 0 by omega]; rfl
        have hM0 := hM
        rw [er] at hM
        refine take_ev0 hM fun M' hM' => ?_
        have := K M'
        simp only [asStep, if_pos, ne_eq, not_true_eq_false, if_false, hf] at this
        exact this (by rw [hM']; exact hM0)
    · obtain ⟨G, y, rfl⟩ := snoc_of_ne hG
      have er : (⟨G ++ [y], T, fr⟩ : AS).row N = y :: (⟨G, T ++ [y], fr⟩ : AS).row N := by simp [AS.row]
      rw [er] at hM
      refine take_ev1 hN hM fun M' hM' => ?_
      have := K M'
      simp only [asStep, if_pos, ne_eq, hG, not_false_eq_true, if_true, getLastD_snoc, List.dropLast_concat] at this
      exact this hM'
  · rw [if_neg (by omega), if_neg (by omega), if_pos hop]
    rw [hop] at K
    by_cases hT : T = []
    · subst hT
      rw [if_pos (show List.map Int.ofNat (⟨G, [], fr⟩ : AS).taken = [] from rfl)]
      have := K M
      simp only [asStep, if_neg (show ¬ (3 : Int) = 1 by decide), if_true] at this
      exact this hM
    · obtain ⟨T, y, rfl⟩ := snoc_of_ne hT
      have hnd := hs.nd
      have hyr : y ∉ (⟨G, T ++ [y], fr⟩ : AS).row N := fun h => (List.nodup_append.1 hnd).2.2 y h y (by simp) rfl
      have hy : y < N := hs.lt y (by simp)
      simp only [List.map_append, List.map_cons, List.map_nil]
      rw [if_neg (by simp), getLastD_snoc]
      refine give_ev hN hM hy hyr fun M' hM' => ?_
      have := K M'
      simp only [asStep, if_neg (show ¬ (3 : Int) = 1 by decide), if_neg hT, getLastD_snoc, List.dropLast_concat] at this
      rw [if_pos rfl]
      refine this ?_
      have er : (⟨G ++ [y], T, fr⟩ : AS).row N = y :: (⟨G, T ++ [y], fr⟩ : AS).row N := by simp [AS.row]
      rw [er]
      exact hM'
theorem as_ok {N : Nat} {s : AS} {op : Int} (hs : ASOk N s) : ASOk N (asStep N s op).2 := by
  obtain ⟨G, T, fr⟩ := s
  have hfr := hs.fresh
  simp only at hfr
  unfold asStep
  simp only
  split
  · split
    · rename_i hG
      obtain ⟨G, y, rfl⟩ := snoc_of_ne hG
      have hp : ((⟨G, T ++ [y], fr⟩ : AS).row N ++ (T ++ [y])).Perm ((⟨G ++ [y], T, fr⟩ : AS).row N ++ T) := by
        simp only [AS.row, List.reverse_append, List.reverse_cons, List.reverse_nil, List.nil_append, List.cons_append]
        rw [← List.append_assoc]
        exact List.perm_append_singleton y _
      simp only [getLastD_snoc, List.dropLast_concat]
      exact ⟨hfr, hp.nodup_iff.2 hs.nd, fun x hx => hs.lt x (hp.mem_iff.1 hx)⟩
    · rename_i hG
      obtain rfl : G = [] := by simpa using hG
      split
      · rename_i hf
        have hp : ((⟨[], T ++ [fr], fr + 1⟩ : AS).row N ++ (T ++ [fr])).Perm ((⟨[], T, fr⟩ : AS).row N ++ T) := by
          simp only [AS.row, List.reverse_nil, List.nil_append]
          rw [show N - fr = (N - (fr + 1)) + 1 by omega, List.range'_succ, ← List.append_assoc]
          exact List.perm_append_singleton fr _
        exact ⟨hf, hp.nodup_iff.2 hs.nd, fun x hx => hs.lt x (hp.mem_iff.1 hx)⟩
      · exact hs
  · split
    · exact hs
    · rename_i hT
      obtain ⟨T, y, rfl⟩ := snoc_of_ne hT
      have hp : ((⟨G ++ [y], T, fr⟩ : AS).row N ++ T).Perm ((⟨G, T ++ [y], fr⟩ : AS).row N ++ (T ++ [y])) := by
        simp only [AS.row, List.reverse_append, List.reverse_cons, List.reverse_nil, List.nil_append, List.cons_append]
        rw [← List.append_assoc]
        exact (List.perm_append_singleton y _).symm
      simp only [getLastD_snoc, List.dropLast_concat]
      exact ⟨hfr, hp.nodup_iff.2 hs.nd, fun x hx => hs.lt x (hp.mem_iff.1 hx)⟩
theorem as_hand {N : Nat} {s : AS} {x : ACall} (hop : x.op = 1 ∨ x.op = 3) : handStep (s.taken.map Int.ofNat) x (asStep N s x.op).1 = (asStep N s x.op).2.taken.map Int.ofNat := by
  obtain ⟨G, T, fr⟩ := s
  unfold handStep asStep
  rcases hop with hop | hop
  · rw [if_pos hop, if_pos hop]
    simp only
    split
    · simp
    · split <;> simp
  · have h1 : ¬ x.op = 1 := by omega
    rw [if_neg h1, if_neg h1, if_pos hop]
    simp only
    split
    · rename_i h; subst h; rfl
    · rename_i h
      obtain ⟨T, y, rfl⟩ := snoc_of_ne h
      simp
theorem as_code {N : Nat} {s : AS} {op : Int} : (asStep N s op).1.1 ≠ 4 := by
  unfold asStep
  split
  · split
    · show (0 : Int) ≠ 4; decide
    · split
      · show (0 : Int) ≠ 4; decide
      · show (80 : Int) ≠ 4; decide
  · split
    · show (1 : Int) ≠ 4; decide
    · show (0 : Int) ≠ 4; decide
theorem as_calls {N f : Nat} (hN : N ≤ 1000) {L : List ACall} : ∀ (l : List ACall) (k : Nat) (acc : List (Int × Int)) (s : AS) (M : Mem), L.drop acc.length = l → (∀ x ∈ l, x.op = 1 ∨ x.op = 3) → ASOk N s → OneV N M.vals (s.row N) → handOf L acc = s.taken.map Int.ofNat →
    (Prog.callsA (fun acc => slotsP (f + 1) N (handOf L acc)) false k l acc .done).ev M fun _ r => r = acc ++ asRun N s (l.map (·.op))
  | [], k, acc, s, M, _, _, _, _, _ => by
    show acc = acc ++ asRun N s []
    simp [asRun]
  | x :: l, k, acc, s, M, hd, hop, hs, hM, hh => by
    have hx : L[acc.length]? = some x := by
      have := congrArg (·[0]?) hd
      simpa using this
    show Prog.ev (slotsP (f + 1) N (handOf L acc) x _) _ _
    rw [hh]
    refine as_step hN (hop x (by simp)) hs (by exact hM) fun M' hM' => ?_
    show Prog.ev (Prog.callsA _ ((asStep N s x.op).1.1 == 4) (k + 1) l (acc ++ [(asStep N s x.op).1]) .done) _ _
    rw [show ((asStep N s x.op).1.1 == 4) = false from by simpa using as_code]
    have ih := as_calls (f := f) hN (L := L) l (k + 1) (acc ++ [(asStep N s x.op).1]) (asStep N s x.op).2 (M'.note 0 10 (-1) k (asStep N s x.op).1.1) (by
      rw [List.length_append, List.length_singleton, ← List.drop_drop, hd]; rfl) (fun y hy => hop y (by simp [hy])) (as_ok hs) hM' (by rw [handOf_snoc _ hx, hh, as_hand (hop x (by simp))])
    have e : acc ++ asRun N s ((x :: l).map (·.op)) = acc ++ [(asStep N s x.op).1] ++ asRun N (asStep N s x.op).2 (l.map (·.op)) := by simp [asRun]
    rw [e]
    exact ih
end Go.Proofs.Ytecdiejeofclaaa


/- Plain: a run of slots by one thread alone comes to an end, and tells what it should. -/
namespace Go.Proofs.Ytecdiejeofclaaa
open Go
theorem store_bd {k : Prog} {b : Nat} (h : k.bd b) (c : Nat) (y : Int) : (Prog.store c y k).bd (b + 3) := ⟨b + 2, rfl, fun x => did_bd h 2 c x y⟩
theorem takeP_bd {n : Nat} {k : Int → Int → Prog} {b : Nat} (h : ∀ x e, (k x e).bd b) : ∀ f, (takeP n k f).bd (12 * f + b)
  | 0 => trivial
  | f + 1 => by
    refine bdm (load_bd (b := 12 * f + b + 9) (fun x => ?_) 0) (by omega)
    by_cases h0 : firstN x = 0
    · rw [if_pos h0]; exact bdm (h 0 80) (by omega)
    rw [if_neg h0]
    by_cases h1 : n < firstN x
    · rw [if_pos h1]; trivial
    rw [if_neg h1]
    refine bdm (load_bd (b := 12 * f + b + 6) (fun y => ?_) _) (by omega)
    by_cases h2 : y < 0 ∨ 4294967296 ≤ y
    · rw [if_pos h2]; trivial
    rw [if_neg h2]
    refine bdm (cas_bd (b := 12 * f + b + 3) (fun r => ?_) _ _ _) (by omega)
    cases r with
    | true => rw [if_pos rfl]; exact bdm (store_bd (h _ _) _ _) (by omega)
    | false => rw [if_neg (by decide)]; exact bdm (takeP_bd h f) (by omega)
theorem giveL_bd {j : Nat} {k : Int → Prog} {b : Nat} (h : ∀ e, (k e).bd b) : ∀ f, (giveL j k f).bd (9 * f + b)
  | 0 => trivial
  | f + 1 => by
    refine bdm (load_bd (b := 9 * f + b + 6) (fun x => ?_) 0) (by omega)
    refine bdm (store_bd (b := 9 * f + b + 3) ?_ _ _) (by omega)
    refine bdm (cas_bd (b := 9 * f + b) (fun r => ?_) _ _ _) (by omega)
    cases r with
    | true => rw [if_pos rfl]; exact bdm (h 0) (by omega)
    | false => rw [if_neg (by decide)]; exact giveL_bd h f
theorem giveP_bd {n : Nat} {x : Int} {k : Int → Prog} {b : Nat} (h : ∀ e, (k e).bd b) (f : Nat) : (giveP n x k f).bd (9 * f + 3 + b) := by
  unfold giveP
  split
  · exact bdm (h _) (by omega)
  · refine bdm (cas_bd (b := 9 * f + b) (fun r => ?_) _ _ _) (by omega)
    cases r with
    | true => rw [if_pos rfl]; exact giveL_bd h f
    | false => rw [if_neg (by decide)]; exact bdm (h _) (by omega)
theorem slotsP_bd {n f : Nat} {hand : List Int} (x : ACall) {k : Int × Int → Prog} {b : Nat} (h : ∀ r, (k r).bd b) : (slotsP f n hand x k).bd (12 * f + 3 + b) := by
  unfold slotsP
  split
  · exact bdm (takeP_bd (fun _ _ => h _) f) (by omega)
  · split
    · exact bdm (giveP_bd (fun _ => h _) f) (by omega)
    · split
      · split
        · exact bdm (h _) (by omega)
        · refine bdm (giveP_bd (b := b) (fun e => ?_) f) (by omega)
          by_cases he : e = 0
          · rw [if_pos he]; exact h _
          · rw [if_neg he]; exact h _
      · exact bdm (h _) (by omega)
theorem slThread_bd {n f : Nat} {l : List ACall} (hl : l.length ≤ 64) : (Prog.callsA (fun acc => slotsP f n (handOf l acc)) false 0 l [] .done).bd (64 * (12 * f + 5)) :=
  bdm (callsA_bd (C := 12 * f + 3) (b := 0) (fun acc x K b h => slotsP_bd x h) (K := .done) (fun _ => trivial) l false 0 []) (by
    have := Nat.mul_le_mul_right (12 * f + 3 + 2) hl
    omega)
theorem getV_begin {sl : List Int} {N c : Nat} (h : c < 2 * N + 1) : getV (slSys sl N).vals c = (slInit N c : Nat) := by
  unfold getV slSys
  simp only [List.getElem?_map, List.getElem?_range h, Option.map_some, Option.getD_some]
theorem row_begin {sl : List Int} {N : Nat} : ∀ (m j : Nat), j + m = N → RowIs (slSys sl N).vals (List.range' j m)
  | 0, j, _ => trivial
  | m + 1, j, h => by
    rw [List.range'_succ]
    refine ⟨?_, row_begin m (j + 1) (by omega)⟩
    rw [getV_begin (by omega)]
    congr 1
    unfold slInit
    rw [if_neg (by omega), if_pos (by omega)]
    have e : (1 + 2 * j - 1) / 2 = j := by omega
    rw [e]
    cases m with
    | zero => rw [if_pos (by omega)]; rfl
    | succ m => rw [if_neg (by omega), List.range'_succ]; rfl
theorem one_begin {sl : List Int} {N : Nat} (hN : N ≤ 1000) : OneV N (slSys sl N).vals (List.range' 0 N) := by
  refine ⟨by simp [slSys], ?_, row_begin N 0 (by omega), fun x hx => by have := List.mem_range'_1.1 hx; omega, List.nodup_range', fun x hx => ?_⟩
  · rw [getV_begin (by omega)]
    unfold firstN
    have h1 : slInit N 0 = min N 1 := by unfold slInit; rw [if_pos rfl]
    rw [h1, u64_nat (by omega), low32]
    cases N with
    | zero => rfl
    | succ n => rw [List.range'_succ]; simp only [nextOf]; omega
  · rw [getV_begin (by omega), if_pos (List.mem_range'_1.2 (by omega))]
    unfold slInit
    rw [if_neg (by omega), if_neg (by omega)]; rfl
theorem lim_begin {sl : List Int} {N : Nat} : Lim (slSys sl N) 0 := by
  refine ⟨Nat.le_refl _, fun c => ?_⟩
  unfold Sys.changed
  split
  · omega
  · simp only [slSys, List.getElem?_replicate]
    split <;> simp
theorem slots_alone {N : Nat} (hN : N ≤ 1000) {l : List ACall} (hl : l.length ≤ 64) (hop : ∀ x ∈ l, x.op = 1 ∨ x.op = 3) :
    ∃ f res, runs f (slSys [] N) (slProgs 8 N 1 fun _ => l) = some res ∧ res.2 = [asRun N ⟨[], [], 0⟩ (l.map (·.op))] := by
  have h0 : ASOk N ⟨[], [], 0⟩ := by
    refine ⟨Nat.zero_le _, ?_, fun x hx => ?_⟩
    · simp [AS.row, List.nodup_range']
    · simp [AS.row] at hx; exact hx
  have hev := as_calls (f := 7) hN (L := l) l 0 [] ⟨[], [], 0⟩ (slSys [] N).mem rfl hop h0 (by simpa [AS.row, Sys.mem] using one_begin (sl := []) hN) (by simp [handOf_nil])
  obtain ⟨res, r, h1, h2, h3, _⟩ := runs_one (slThread_bd (n := N) (f := 8) hl) (by decide) (A0 := slSys [] N) hev rfl lim_begin rfl
  refine ⟨_, res, h1, ?_⟩
  rw [h2, h3]; rfl
end Go.Proofs.Ytecdiejeofclaaa


/- butlerref02.May; fair. -/
namespace Go.Proofs.Ytecdiejeofclaaa
open Go Go.Conc
section
variable {S : Addr → Prop} {main : Bool} {Stop : Goroutine → World → Prop} {cs : List Frame} {c : Frame} {v : World}
theorem rMay_loop {sv : Value} {n : Nat} {lv : Nat → Value} {len : Nat → Nat} (hS : Scripts v sv n lv len) {b : Frame} (hb : b.kind = .normal) (hbf : b.fn = 10) {k : List Item}
    (H2 : (∃ j, j < n ∧ 64 < len j) → Hold Try.prog main S Stop (G (c.finish (.int .i64 2)) cs) v)
    (H : (¬ ∃ j, j < n ∧ 64 < len j) → ∀ a, AtE 24 [] [(0, sv)] a → Hold Try.prog main S Stop (G (b.at a k) (c :: cs)) v) :
    ∀ (m i : Nat) (a : Act), i + m = n → (∀ j, j < i → len j ≤ 64) → AtE 24 [] [(3, .int .i64 i), (0, sv)] a →
      Hold Try.prog main S Stop (G (b.at a (.code rMay_L0 :: .inLoop rMay_L0 :: .inBlock 0 :: k)) (c :: cs)) v := by
  have hbk := not_early hb
  obtain ⟨ad, cp, rfl, hc⟩ := hS.at_
  have hs1 := hS.small.1
  simp only [maxLen] at hs1
  intro m
  induction m with
  | zero =>
    intro i a hm hj hat
    obtain rfl : i = n := by omega
    refine hold_unf rMay_L0_def <| hold_seq <| hold_seq <| hold_region (l := [0,1,2,3]) rfl <| h_val noA hbk rMay_2 rfl rfl (by decide) hat (r_move rfl) fun a hat => h_val noA hbk rMay_2 rfl rfl (by decide) hat (r_move rfl) fun a hat => h_val noA hbk rMay_2 rfl rfl (by decide) hat (r_len lk_26 rfl) fun a hat => h_val noA hbk rMay_2 rfl rfl (by decide) hat (r_bool (t' := false) (r_lss rfl rfl) (by first | (simp; omega) | (simp; done) | (simp_all; done) | (simp_all; omega))) fun a hat => hold_region_end <| hold_condF (hat.eval (q := .tmp 7) rfl) rfl <| hold_exit (k' := _) rfl ?_
    exact H (fun ⟨j, h1, h2⟩ => by have := hj j h1; omega) a (hat.sub (AtE.cons rfl (AtE.nil)))
  | succ m ih =>
    intro i a hm hj hat
    have hi : i < n := by omega
    obtain ⟨B, O, rfl, hci⟩ := hc i hi
    obtain ⟨ad2, cp2, hl⟩ := hS.lens i hi
    have hs2 := hS.small.2 i hi
    simp only [maxLen] at hs2
    rw [hl] at hci
    refine hold_unf rMay_L0_def <| hold_seq <| hold_seq <| hold_region (l := [0,1,2,3]) rfl <| h_val noA hbk rMay_2 rfl rfl (by decide) hat (r_move rfl) fun a hat => h_val noA hbk rMay_2 rfl rfl (by decide) hat (r_move rfl) fun a hat => h_val noA hbk rMay_2 rfl rfl (by decide) hat (r_len lk_26 rfl) fun a hat => h_val noA hbk rMay_2 rfl rfl (by decide) hat (r_bool (t' := true) (r_lss rfl rfl) (by first | (simp; omega) | (simp; done) | (simp_all; done) | (simp_all; omega))) fun a hat => hold_region_end <| hold_condT (hat.eval (q := .tmp 7) rfl) rfl <| hold_skip <| hold_seq <| hold_block ?_
    refine hold_seq <| hold_region (l := [0,1,2,3,4,5]) rfl <| h_val noA hbk rMay_3 rfl rfl (by decide) hat (r_move rfl) fun a hat => h_val noA hbk rMay_3 rfl rfl (by decide) hat (r_move rfl) fun a hat => h_val noA hbk rMay_3 rfl rfl (by decide) hat (r_index ix_26 rfl rfl (by omega) (by omega)) fun a hat => h_val noA hbk rMay_3 rfl rfl (by decide) hat (r_load ld_25 rfl (by simpa using hci)) fun a hat => h_val noA hbk rMay_3 rfl rfl (by decide) hat (r_len lk_25 rfl) fun a hat => ?_
    by_cases h : 64 < len i
    · refine h_val noA hbk rMay_3 rfl rfl (by decide) hat (r_bool (t' := true) (r_gtr rfl rfl) (by simp; omega)) fun a hat => hold_region_end <| hold_condT (hat.eval (q := .tmp 15) rfl) rfl <| hold_seq <| hold_region (l := [0]) rfl <| h_val noA hbk rMay_4 rfl rfl (by decide) hat (r_assign rfl) fun a hat => hold_region_end <| hold_retd hb hbf rMay_fn hat.defers (ret_one rMay_res hat rfl) ?_
      exact H2 ⟨i, hi, h⟩
    · skip
      refine h_val noA hbk rMay_3 rfl rfl (by decide) hat (r_bool (t' := false) (r_gtr rfl rfl) (by simp; omega)) fun a hat => hold_region_end <| hold_condF (hat.eval (q := .tmp 15) rfl) rfl <| hold_skip <| hold_inBlock <| hold_region (l := [0,1,2]) rfl <| h_val noA hbk rMay_5 rfl rfl (by decide) hat (r_move rfl) fun a hat => h_val noA hbk rMay_5 rfl rfl (by decide) hat (r_add rfl rfl (by first | omega | (simp; omega))) fun a hat => h_val noA hbk rMay_5 rfl rfl (by decide) hat (r_assign rfl) fun a hat => hold_region_end <| hold_inLoop ?_
      exact ih (i + 1) a (by omega) (fun j hj' => by
        by_cases e : j = i
        · subst e; omega
        · exact hj j (by omega)) (hat.sub (AtE.cons rfl (AtE.cons rfl (AtE.nil))))
theorem rMay_hold {sv : Value} {n : Nat} {lv : Nat → Value} {len : Nat → Nat} (hS : Scripts v sv n lv len)
    (H : Hold Try.prog main S Stop (G (c.finish (.int .i64 (mayE n len false))) cs) v) :
    Hold Try.prog main S Stop (G (Frame.enter Try.prog 10 #[sv] .normal) (c :: cs)) v := by
  have hS' := hS
  obtain ⟨ad, cp, rfl, _⟩ := hS.at_
  have hs1 := hS.small.1
  simp only [maxLen] at hs1
  obtain ⟨b, a, hEq, hb, hbf, hat⟩ := enter_is rMay_fn rMay_body rMay_tmps #[.slice ad n cp] [(0, .slice ad n cp)] rfl (by simp)
  rw [hEq]
  have hbk := not_early hb
  refine hold_unf rMay_code_def <| hold_seq <| hold_region (l := [0]) rfl <| h_val noA hbk rMay_0 rfl rfl (by decide) hat (r_assign rfl) fun a hat => hold_region_end <| hold_seq <| hold_seq <| hold_region (l := [0]) rfl <| h_val noA hbk rMay_1 rfl rfl (by decide) hat (r_assign rfl) fun a hat => hold_region_end <| hold_block <| hold_loop ?_
  refine rMay_loop hS' hb hbf (fun h => by have := H; unfold mayE at this; rw [if_pos h] at this; exact this) (fun hno a hat => ?_) n 0 a (by omega) (fun j hj => by omega) (hat.sub (AtE.cons rfl (AtE.cons rfl (AtE.nil))))
  have hH : ∀ x, (if n < 1 ∨ 8 < n ∨ false = true then (1 : Int) else 0) = x → Hold Try.prog main S Stop (G (c.finish (.int .i64 x)) cs) v := fun x hx => by
    have := H; unfold mayE at this; rw [if_neg hno, hx] at this; exact this
  refine hold_seq <| hold_seq <| hold_region (l := [0,1,2,3,4,5,6,7]) rfl <| h_val noA hbk rMay_6 rfl rfl (by decide) hat (r_move rfl) fun a hat => h_val noA hbk rMay_6 rfl rfl (by decide) hat (r_len lk_26 rfl) fun a hat => ?_
  by_cases h1 : n < 1
  · refine h_val noA hbk rMay_6 rfl rfl (by decide) hat (r_bool (t' := true) (r_lss rfl rfl) (by simp; omega)) fun a hat => h_val noA hbk rMay_6 rfl rfl (by decide) hat (r_move rfl) fun a hat => hg_no rMay_6 rfl rfl rfl rfl (by decide) hat fun a hat => hg_no rMay_6 rfl rfl rfl rfl (by decide) hat fun a hat => hg_no rMay_6 rfl rfl rfl rfl (by decide) hat fun a hat => h_val noA hbk rMay_6 rfl rfl (by decide) hat (r_pick rfl rfl) fun a hat => hold_region_end <| hold_condT (hat.eval (q := .tmp 23) rfl) rfl <| hold_seq <| hold_region (l := [0]) rfl <| h_val noA hbk rMay_7 rfl rfl (by decide) hat (r_assign rfl) fun a hat => hold_region_end <| hold_retd hb hbf rMay_fn hat.defers (ret_one rMay_res hat rfl) ?_
    exact hH _ (if_pos (.inl h1))
  · skip
    refine h_val noA hbk rMay_6 rfl rfl (by decide) hat (r_bool (t' := false) (r_lss rfl rfl) (by simp; omega)) fun a hat => h_val noA hbk rMay_6 rfl rfl (by decide) hat (r_move rfl) fun a hat => hg_yes noA hbk rMay_6 rfl rfl rfl rfl (by decide) hat (r_move rfl) fun a hat => hg_yes noA hbk rMay_6 rfl rfl rfl rfl (by decide) hat (r_len lk_26 rfl) fun a hat => ?_
    by_cases h8 : 8 < n
    · refine hg_yes noA hbk rMay_6 rfl rfl rfl rfl (by decide) hat (r_bool (t' := true) (r_gtr rfl rfl) (by simp; omega)) fun a hat => h_val noA hbk rMay_6 rfl rfl (by decide) hat (r_pick rfl rfl) fun a hat => hold_region_end <| hold_condT (hat.eval (q := .tmp 23) rfl) rfl <| hold_seq <| hold_region (l := [0]) rfl <| h_val noA hbk rMay_7 rfl rfl (by decide) hat (r_assign rfl) fun a hat => hold_region_end <| hold_retd hb hbf rMay_fn hat.defers (ret_one rMay_res hat rfl) ?_
      exact hH _ (if_pos (.inr (.inl h8)))
    · skip
      refine hg_yes noA hbk rMay_6 rfl rfl rfl rfl (by decide) hat (r_bool (t' := false) (r_gtr rfl rfl) (by simp; omega)) fun a hat => h_val noA hbk rMay_6 rfl rfl (by decide) hat (r_pick rfl rfl) fun a hat => hold_region_end <| hold_condF (hat.eval (q := .tmp 23) rfl) rfl <| hold_skip <| hold_seq <| hold_region (l := [0]) rfl <| h_val noA hbk rMay_8 rfl rfl (by decide) hat (r_assign rfl) fun a hat => hold_region_end <| hold_retd hb hbf rMay_fn hat.defers (ret_one rMay_res hat rfl) ?_
      exact hH _ (if_neg (by simp; omega))
/-- A call as the threads make it that give what they took. -/
def fairC (x : ACall) : ACall := if x.op = 1 then x else { x with op := 3 }
def callsFlat (l : List ACall) : List Value := l.flatMap fun x => [.int .i64 x.op, .int .i64 x.a, .int .i64 x.b, .int .i64 x.c]
theorem callsFlat_snoc (l : List ACall) (x : ACall) : callsFlat (l ++ [x]) = callsFlat l ++ [.int .i64 x.op, .int .i64 x.a, .int .i64 x.b, .int .i64 x.c] := by simp [callsFlat]
theorem take_snoc' {α : Type} {l : List α} {k : Nat} {x : α} (h : l[k]? = some x) : l.take (k + 1) = l.take k ++ [x] := by rw [List.take_add_one, h]; rfl
theorem fairIn_loop {u : World} (hr0 : Ready0 u) {sv lvi outv : Value} {i n : Nat} {l : List ACall} (hsv : ∃ ad cap, sv = .slice ad n cap ∧ ∃ B O, ad = some ⟨B, O, none⟩ ∧ u.cell? ⟨B, O + i, none⟩ = some lvi) (hi : i < n) (hnm : n ≤ maxLen) (hC : CallsAt u lvi l) (hl : l.length * 32 ≤ 140737488355328) {v0 : World} (hG0 : Grow u v0) {b : Frame} (hbk : b.kind ≠ .early) {K : List Item}
    (H : ∀ v a ov, Grow v0 v → v.ownsRow 0 39 4 ov l.length (callsFlat (l.map fairC)) → (∀ b, ov.ownBlock = some b → v0.heap.size ≤ b) → AtE 43 [] [(5, ov), (4, .int .i64 i), (3, outv), (0, sv)] a → Hold Try.prog main S Stop (G (b.at a K) cs) v) :
    ∀ (r k : Nat) (v : World) (a : Act) (ov : Value), k + r = l.length → Grow v0 v → v.ownsRow 0 39 4 ov k (callsFlat ((l.take k).map fairC)) → (∀ b, ov.ownBlock = some b → v0.heap.size ≤ b) → AtE 43 [] [(6, .int .i64 k), (5, ov), (4, .int .i64 i), (3, outv), (0, sv)] a →
      Hold Try.prog main S Stop (G (b.at a (.code fair_L1 :: .inLoop fair_L1 :: .inBlock 2 :: K)) cs) v := by
  obtain ⟨ad, cap, rfl, B, O, rfl, hci⟩ := hsv
  obtain ⟨adl, capl, rfl, hcl⟩ := hC
  simp only [maxLen] at hnm
  intro r
  induction r with
  | zero =>
    intro k v a ov hk hG hown hlow hat
    have hci' := grow_cell (hG0.trans hG) hci
    refine hold_unf fair_L1_def <| hold_seq <| hold_seq <| hold_region (l := [0,1,2,3,4,5,6]) rfl <| h_val noA hbk fair_6 rfl rfl (by decide) hat (r_move rfl) fun a hat => h_val noA hbk fair_6 rfl rfl (by decide) hat (r_move rfl) fun a hat => h_val noA hbk fair_6 rfl rfl (by decide) hat (r_move rfl) fun a hat => h_val noA hbk fair_6 rfl rfl (by decide) hat (r_index ix_26 rfl rfl (by omega) (by omega)) fun a hat => h_val noA hbk fair_6 rfl rfl (by decide) hat (r_load ld_25 rfl (by simpa using hci')) fun a hat => h_val noA hbk fair_6 rfl rfl (by decide) hat (r_len lk_25 rfl) fun a hat => h_val noA hbk fair_6 rfl rfl (by decide) hat (r_bool (t' := false) (r_lss rfl rfl) (by first | (simp; omega) | (simp; done) | (simp_all; done) | (simp_all; omega))) fun a hat => hold_region_end <| hold_condF (hat.eval (q := .tmp 20) rfl) rfl ?_
    refine hold_exit (k' := _) rfl ?_
    obtain rfl : k = l.length := by omega
    rw [List.take_length] at hown
    exact H v a ov hG hown hlow (hat.sub (AtE.cons rfl (AtE.cons rfl (AtE.cons rfl (AtE.cons rfl (AtE.nil))))))
  | succ r ih =>
    intro k v a ov hk hG hown hlow hat
    obtain ⟨x, hx⟩ : ∃ x, l[k]? = some x := ⟨l[k]'(by omega), by simp⟩
    obtain ⟨Bl, Ol, rfl, c0, c1, c2, c3⟩ := hcl k x hx
    have hGu := hG0.trans hG
    have hci' := grow_cell hGu hci
    have c0' := grow_cell hGu c0
    have c1' := grow_cell hGu c1
    have c2' := grow_cell hGu c2
    have c3' := grow_cell hGu c3
    have hidx : (k : Int).toNat * 4 = k * 4 := by omega
    have hGs := hG
    have hG := Grow.refl v
    refine hold_unf fair_L1_def <| hold_seq <| hold_seq <| hold_region (l := [0,1,2,3,4,5,6]) rfl <| h_val noA hbk fair_6 rfl rfl (by decide) hat (r_move rfl) fun a hat => h_val noA hbk fair_6 rfl rfl (by decide) hat (r_move rfl) fun a hat => h_val noA hbk fair_6 rfl rfl (by decide) hat (r_move rfl) fun a hat => h_val noA hbk fair_6 rfl rfl (by decide) hat (r_index ix_26 rfl rfl (by omega) (by omega)) fun a hat => h_val noA hbk fair_6 rfl rfl (by decide) hat (r_load ld_25 rfl (by simpa using hci')) fun a hat => h_val noA hbk fair_6 rfl rfl (by decide) hat (r_len lk_25 rfl) fun a hat => h_val noA hbk fair_6 rfl rfl (by decide) hat (r_bool (t' := true) (r_lss rfl rfl) (by first | (simp; omega) | (simp; done) | (simp_all; done) | (simp_all; omega))) fun a hat => hold_region_end <| hold_condT (hat.eval (q := .tmp 20) rfl) rfl ?_
    refine hold_skip <| hold_seq <| hold_block <| hold_seq <| hold_region (l := [0,1,2,3,4,5,6,7,8]) rfl <| h_val noA hbk fair_7 rfl rfl (by decide) hat (r_move rfl) fun a hat => h_val noA hbk fair_7 rfl rfl (by decide) hat (r_move rfl) fun a hat => h_val noA hbk fair_7 rfl rfl (by decide) hat (r_index ix_26 rfl rfl (by omega) (by omega)) fun a hat => h_val noA hbk fair_7 rfl rfl (by decide) hat (r_load ld_25 rfl (by simpa using hci')) fun a hat => h_val noA hbk fair_7 rfl rfl (by decide) hat (r_move rfl) fun a hat => h_val noA hbk fair_7 rfl rfl (by decide) hat (r_index ix_25 rfl rfl (by omega) (by omega)) fun a hat => ?_
    rw [hidx] at hat
    refine h_val noA hbk fair_7 rfl rfl (by decide) hat (x_load_call rfl c0' c1' c2' c3') fun a hat => h_new noA hbk fair_7 rfl rfl (by decide) hat al_39 fun v a B7 hB7 hsB7 hg F7 hat => ?_
    have gB7 := Nat.le_trans hG.size (Nat.le_of_eq hB7)
    replace hG := hG.trans hg
    refine h_put noA hbk fair_7 rfl rfl hat (pg_39 rfl rfl F7 rfl rfl rfl rfl rfl rfl rfl rfl rfl) fun v a hP F7x hat => ?_
    simp only [List.setIfInBounds_toArray, List.set_cons_succ, List.set_cons_zero] at F7x
    replace hG := hG.put hP gB7
    replace F7 := F7x; clear F7x
    refine hold_region_end <| hold_seq <| hold_seq <| hold_region (l := [0,1,2]) rfl <| h_val noA hbk fair_8 rfl rfl (by decide) hat (r_field fk_39_0 rfl) fun a hat => h_val noA hbk fair_8 rfl rfl (by decide) hat (r_load ld_3 rfl (cell_at' F7)) fun a hat => ?_
    by_cases h1 : x.op = 1
    · have hfx : fairC x = x := if_pos h1
      refine h_val noA hbk fair_8 rfl (opOk_eq (by kernel_rfl)) (by decide) hat (r_bool (t' := false) (r_neq rfl rfl) (by simp [h1])) fun a hat => hold_region_end <| hold_condF (hat.eval (q := .tmp 32) rfl) rfl <| hold_skip <| hold_region (l := [0,1,2,3,4]) rfl <| h_val noA hbk fair_10 rfl rfl (by decide) hat (r_move rfl) fun a hat => h_val noA hbk fair_10 rfl rfl (by decide) hat (lg_39 rfl (cell_at' F7) (cell_at' F7) (cell_at' F7) (cell_at' F7)) fun a hat => h_news noA hbk fair_10 rfl rfl (by decide) hat (bs_25_1_0 rfl) fun v a B36 hB36 hsB36 hg F36 hat => ?_
      have n_F36_F7 := ne_new F7 hB36
      have gB36 := Nat.le_trans hG.size (Nat.le_of_eq hB36)
      replace hG := hG.trans hg
      replace F7 := hg.at F7
      have hown2 := owns_grow hown hG
      refine h_app noA hbk fair_10 rfl (by decide) hat ek_25 (((hG0.trans hGs).trans hG).ready hr0) hown2 rfl rfl F36 rfl (by simp [Value.oneCell']) (by decide) (Nat.le_trans (show _ ≤ 140737488355328 by omega) (by decide)) (by omega) fun g cap v a hAp hat => h_val noA hbk fair_10 rfl rfl (by decide) hat (r_assign rfl) fun a hat => hold_region_end <| hold_inBlock <| hold_region (l := [0,1,2]) rfl <| h_val noA hbk fair_11 rfl rfl (by decide) hat (r_move rfl) fun a hat => h_val noA hbk fair_11 rfl rfl (by decide) hat (r_add rfl rfl (by first | omega | (simp; omega))) fun a hat => h_val noA hbk fair_11 rfl rfl (by decide) hat (r_assign rfl) fun a hat => hold_region_end <| hold_inLoop ?_
      obtain ⟨hG2, hlow2⟩ := hAp.grow (hGs.trans hG) hlow
      refine ih (k + 1) _ _ (.slice (some ⟨g, 0, none⟩) (k + 1) cap) (by omega) hG2 ?_ hlow2 (hat.sub (AtE.cons rfl (AtE.cons rfl (AtE.cons rfl (AtE.cons rfl (AtE.cons rfl (AtE.nil)))))))
      rw [take_snoc' hx, List.map_append, List.map_cons, List.map_nil, hfx, callsFlat_snoc]
      exact hAp.owns
    · have hfx : fairC x = ⟨3, x.a, x.b, x.c⟩ := if_neg h1
      refine h_val noA hbk fair_8 rfl (opOk_eq (by kernel_rfl)) (by decide) hat (r_bool (t' := true) (r_neq rfl rfl) (by simp [h1])) fun a hat => hold_region_end <| hold_condT (hat.eval (q := .tmp 32) rfl) rfl <| hold_region (l := [0,1]) rfl <| h_val noA hbk fair_9 rfl rfl (by decide) hat (r_field fk_39_0 rfl) fun a hat => h_put noA hbk fair_9 rfl rfl hat (p_store st_3 rfl rfl rfl F7 rfl rfl) fun v a hP F7x hat => ?_
      simp only [List.setIfInBounds_toArray, List.set_cons_succ, List.set_cons_zero] at F7x
      replace hG := hG.put hP gB7
      replace F7 := F7x; clear F7x
      refine hold_region_end <| hold_region (l := [0,1,2,3,4]) rfl <| h_val noA hbk fair_10 rfl rfl (by decide) hat (r_move rfl) fun a hat => h_val noA hbk fair_10 rfl rfl (by decide) hat (lg_39 rfl (cell_at' F7) (cell_at' F7) (cell_at' F7) (cell_at' F7)) fun a hat => h_news noA hbk fair_10 rfl rfl (by decide) hat (bs_25_1_0 rfl) fun v a B36 hB36 hsB36 hg F36 hat => ?_
      have n_F36_F7 := ne_new F7 hB36
      have gB36 := Nat.le_trans hG.size (Nat.le_of_eq hB36)
      replace hG := hG.trans hg
      replace F7 := hg.at F7
      have hown2 := owns_grow hown hG
      refine h_app noA hbk fair_10 rfl (by decide) hat ek_25 (((hG0.trans hGs).trans hG).ready hr0) hown2 rfl rfl F36 rfl (by simp [Value.oneCell']) (by decide) (Nat.le_trans (show _ ≤ 140737488355328 by omega) (by decide)) (by omega) fun g cap v a hAp hat => h_val noA hbk fair_10 rfl rfl (by decide) hat (r_assign rfl) fun a hat => hold_region_end <| hold_inBlock <| hold_region (l := [0,1,2]) rfl <| h_val noA hbk fair_11 rfl rfl (by decide) hat (r_move rfl) fun a hat => h_val noA hbk fair_11 rfl rfl (by decide) hat (r_add rfl rfl (by first | omega | (simp; omega))) fun a hat => h_val noA hbk fair_11 rfl rfl (by decide) hat (r_assign rfl) fun a hat => hold_region_end <| hold_inLoop ?_
      obtain ⟨hG2, hlow2⟩ := hAp.grow (hGs.trans hG) hlow
      refine ih (k + 1) _ _ (.slice (some ⟨g, 0, none⟩) (k + 1) cap) (by omega) hG2 ?_ hlow2 (hat.sub (AtE.cons rfl (AtE.cons rfl (AtE.cons rfl (AtE.cons rfl (AtE.cons rfl (AtE.nil)))))))
      rw [take_snoc' hx, List.map_append, List.map_cons, List.map_nil, hfx, callsFlat_snoc]
      exact hAp.owns
end
end Go.Proofs.Ytecdiejeofclaaa


/- fair. -/
namespace Go.Proofs.Ytecdiejeofclaaa
open Go Go.Conc
/-- The scripts that 'fair' makes. -/
structure FairAt (lo : Nat) (v : World) (sv : Value) (n : Nat) (lv : Nat → Value) (L : Nat → List ACall) : Prop where
  rows : v.ownsRow 0 25 1 sv n ((List.range n).map lv)
  low : ∀ b, sv.ownBlock = some b → lo ≤ b
  each : ∀ j, j < n → v.ownsRow 0 39 4 (lv j) (L j).length (callsFlat (L j))
  lows : ∀ j, j < n → ∀ b, (lv j).ownBlock = some b → lo ≤ b
theorem FairAt.keep {lo n : Nat} {v v' : World} {sv : Value} {lv : Nat → Value} {L : Nat → List ACall} (h : FairAt lo v sv n lv L) (hG : Grow v v') : FairAt lo v' sv n lv L :=
  ⟨owns_grow h.rows hG, h.low, fun j hj => owns_grow (h.each j hj) hG, h.lows⟩
theorem map_range_snoc {α : Type} {f f' : Nat → α} {k : Nat} (h : ∀ j, j < k → f' j = f j) : (List.range (k + 1)).map f' = (List.range k).map f ++ [f' k] := by
  rw [List.range_succ, List.map_append, List.map_cons, List.map_nil]
  congr 1
  exact List.map_congr_left fun j hj => by rw [h j (List.mem_range.1 hj)]
section
variable {S : Addr → Prop} {main : Bool} {Stop : Goroutine → World → Prop} {cs : List Frame} {c : Frame}
theorem fair_loop {u : World} (hr0 : Ready0 u) {sv : Value} {n : Nat} {L : Nat → List ACall} (hS : ScrsAt u sv n L) (hn : n * 24 ≤ 140737488355328) (hL : ∀ j, j < n → (L j).length * 32 ≤ 140737488355328) {b : Frame} (hbk : b.kind ≠ .early) {K : List Item}
    (H : ∀ v a ov lv, Grow u v → FairAt u.heap.size v ov n lv (fun j => (L j).map fairC) → AtE 43 [] [(3, ov)] a → Hold Try.prog main S Stop (G (b.at a K) cs) v) :
    ∀ (r i : Nat) (v : World) (a : Act) (ov : Value) (lv : Nat → Value), i + r = n → Grow u v → FairAt u.heap.size v ov i lv (fun j => (L j).map fairC) → AtE 43 [] [(4, .int .i64 i), (3, ov), (0, sv)] a →
      Hold Try.prog main S Stop (G (b.at a (.code fair_L0 :: .inLoop fair_L0 :: .inBlock 0 :: K)) cs) v := by
  obtain ⟨ad, cap, rfl, hcs⟩ := hS
  have hnm : n ≤ maxLen := Nat.le_trans (show n ≤ 140737488355328 by omega) (by decide)
  have hnm' := hnm
  simp only [maxLen] at hnm
  intro r
  induction r with
  | zero =>
    intro i v a ov lv hi hG hF hat
    obtain rfl : i = n := by omega
    refine hold_unf fair_L0_def <| hold_seq <| hold_seq <| hold_region (l := [0,1,2,3]) rfl <| h_val noA hbk fair_3 rfl rfl (by decide) hat (r_move rfl) fun a hat => h_val noA hbk fair_3 rfl rfl (by decide) hat (r_move rfl) fun a hat => h_val noA hbk fair_3 rfl rfl (by decide) hat (r_len lk_26 rfl) fun a hat => h_val noA hbk fair_3 rfl rfl (by decide) hat (r_bool (t' := false) (r_lss rfl rfl) (by first | (simp; omega) | (simp; done) | (simp_all; done) | (simp_all; omega))) fun a hat => hold_region_end <| hold_condF (hat.eval (q := .tmp 11) rfl) rfl <| hold_exit (k' := _) rfl ?_
    exact H v a ov lv hG hF (hat.sub (AtE.cons rfl (AtE.nil)))
  | succ r ih =>
    intro i v a ov lv hi hG hF hat
    obtain ⟨B, O, lvi, had, hci, hC⟩ := hcs i (by omega)
    refine hold_unf fair_L0_def <| hold_seq <| hold_seq <| hold_region (l := [0,1,2,3]) rfl <| h_val noA hbk fair_3 rfl rfl (by decide) hat (r_move rfl) fun a hat => h_val noA hbk fair_3 rfl rfl (by decide) hat (r_move rfl) fun a hat => h_val noA hbk fair_3 rfl rfl (by decide) hat (r_len lk_26 rfl) fun a hat => h_val noA hbk fair_3 rfl rfl (by decide) hat (r_bool (t' := true) (r_lss rfl rfl) (by first | (simp; omega) | (simp; done) | (simp_all; done) | (simp_all; omega))) fun a hat => hold_region_end <| hold_condT (hat.eval (q := .tmp 11) rfl) rfl <| hold_skip <| hold_seq <| hold_block ?_
    refine hold_seq <| hold_region (l := [0]) rfl <| h_val noA hbk fair_4 rfl rfl (by decide) hat (r_assign rfl) fun a hat => hold_region_end <| hold_seq <| hold_seq <| hold_region (l := [0]) rfl <| h_val noA hbk fair_5 rfl rfl (by decide) hat (r_assign rfl) fun a hat => hold_region_end <| hold_block <| hold_loop ?_
    refine fairIn_loop hr0 ⟨_, _, rfl, B, O, had, hci⟩ (by omega) hnm' hC (hL i (by omega)) hG hbk (fun v a own hG2 hown hlow hat => ?_) (L i).length 0 v a (.slice none 0 0) (by omega) (Grow.refl v) ⟨by simp [callsFlat], .inl ⟨rfl, rfl⟩⟩ (fun b hb => by cases hb) (hat.sub (AtE.cons rfl (AtE.cons rfl (AtE.cons rfl (AtE.cons rfl (AtE.cons rfl (AtE.nil)))))))
    obtain ⟨adw, cpw, rfl⟩ := ownsRow_slice hown
    have hGu := hG.trans hG2
    have hszu := hG.size
    have hF := hF.keep hG2
    have hG := Grow.refl v
    refine hold_region (l := [0,1,2,3,4]) rfl <| h_val noA hbk fair_12 rfl rfl (by decide) hat (r_move rfl) fun a hat => h_val noA hbk fair_12 rfl rfl (by decide) hat (r_move rfl) fun a hat => h_news noA hbk fair_12 rfl rfl (by decide) hat (bs_26_1_0 rfl rfl) fun v a B40 hB40 hsB40 hg F40 hat => ?_
    have gB40 := Nat.le_trans hG.size (Nat.le_of_eq hB40)
    replace hG := hG.trans hg
    have hrow := owns_grow hF.rows hG
    have hown3 := owns_grow hown hG
    have heach := fun j hj => owns_grow (hF.each j hj) hG
    refine h_app noA hbk fair_12 rfl (by decide) hat ek_26 ((hGu.trans hG).ready hr0) hrow rfl rfl F40 rfl (by simp [Value.oneCell']) (by decide) (Nat.le_trans (show _ ≤ 140737488355328 by omega) (by decide)) (by omega) fun g cap v a hAp hat => h_val noA hbk fair_12 rfl rfl (by decide) hat (r_assign rfl) fun a hat => hold_region_end <| hold_inBlock <| hold_region (l := [0,1,2]) rfl <| h_val noA hbk fair_13 rfl rfl (by decide) hat (r_move rfl) fun a hat => h_val noA hbk fair_13 rfl rfl (by decide) hat (r_add rfl rfl (by first | omega | (simp; omega))) fun a hat => h_val noA hbk fair_13 rfl rfl (by decide) hat (r_assign rfl) fun a hat => hold_region_end <| hold_inLoop ?_
    obtain ⟨hG3, hlow3⟩ := hAp.grow (hGu.trans hG) hF.low
    have kp : ∀ {lw : Value} {k : Nat} {xs : List Value}, _ → v.ownsRow 0 39 4 lw k xs := fun {lw k xs} h => ownsRow_keep h fun b c hb hc => hAp.same b (lt_of_heap hc) (own_ne hrow hc (by decide))
    refine ih (i + 1) _ _ _ (fun j => if j = i then .slice adw (L i).length cpw else lv j) (by omega) hG3 ⟨?_, hlow3, fun j hj => ?_, fun j hj b hb => ?_⟩ (hat.sub (AtE.cons rfl (AtE.cons rfl (AtE.cons rfl (AtE.nil)))))
    · rw [map_range_snoc (f := lv) (fun j hj => by rw [if_neg (by omega)]), if_pos rfl]
      exact hAp.owns
    · by_cases e : j = i
      · subst e
        rw [if_pos rfl]
        simp only [List.length_map]
        exact kp hown3
      · rw [if_neg e]
        exact kp (heach j (by omega))
    · by_cases e : j = i
      · subst e
        rw [if_pos rfl] at hb
        exact Nat.le_trans hszu (hlow b hb)
      · rw [if_neg e] at hb
        exact hF.lows j (by omega) b hb
theorem fair_hold {u : World} (hr0 : Ready0 u) {sv : Value} {n : Nat} {L : Nat → List ACall} (hS : ScrsAt u sv n L) (hn : n * 24 ≤ 140737488355328) (hL : ∀ j, j < n → (L j).length * 32 ≤ 140737488355328)
    (H : ∀ v ov lv, Grow u v → FairAt u.heap.size v ov n lv (fun j => (L j).map fairC) → Hold Try.prog main S Stop (G (c.finish ov) cs) v) :
    Hold Try.prog main S Stop (G (Frame.enter Try.prog 9 #[sv] .normal) (c :: cs)) u := by
  obtain ⟨b, a, hEq, hb, hbf, hat⟩ := enter_is fair_fn fair_body fair_tmps #[sv] [(0, sv)] rfl (by simp)
  rw [hEq]
  have hbk := not_early hb
  refine hold_unf fair_code_def <| hold_seq <| hold_region (l := [0]) rfl <| h_val noA hbk fair_0 rfl rfl (by decide) hat (r_assign rfl) fun a hat => hold_region_end <| hold_seq <| hold_region (l := [0]) rfl <| h_val noA hbk fair_1 rfl rfl (by decide) hat (r_assign rfl) fun a hat => hold_region_end <| hold_seq <| hold_seq <| hold_region (l := [0]) rfl <| h_val noA hbk fair_2 rfl rfl (by decide) hat (r_assign rfl) fun a hat => ?_
  refine hold_region_end <| hold_block <| hold_loop ?_
  refine fair_loop hr0 hS hn hL hbk (fun v a ov lv hG hF hat => ?_) n 0 u a (.slice none 0 0) (fun _ => undef) (by omega) (Grow.refl u) ⟨⟨rfl, .inl ⟨rfl, rfl⟩⟩, fun b hb => (by cases hb), fun j hj => (by omega), fun j hj => (by omega)⟩ (hat.sub (AtE.cons rfl (AtE.cons rfl (AtE.cons rfl (AtE.nil)))))
  refine hold_seq <| hold_region (l := [0,1]) rfl <| h_val noA hbk fair_14 rfl rfl (by decide) hat (r_move rfl) fun a hat => h_val noA hbk fair_14 rfl rfl (by decide) hat (r_assign rfl) fun a hat => hold_region_end <| hold_retd hb hbf fair_fn hat.defers (ret_one fair_res hat rfl) ?_
  exact H v ov lv hG hF
end
end Go.Proofs.Ytecdiejeofclaaa


/- Two rows of ints that a function has in hand. -/
namespace Go.Proofs.Ytecdiejeofclaaa
open Go Go.Conc
theorem callsFlat_get : ∀ (l : List ACall) (j : Nat) (x : ACall), l[j]? = some x → (callsFlat l)[j * 4]? = some (.int .i64 x.op) ∧ (callsFlat l)[j * 4 + 1]? = some (.int .i64 x.a) ∧ (callsFlat l)[j * 4 + 2]? = some (.int .i64 x.b) ∧ (callsFlat l)[j * 4 + 3]? = some (.int .i64 x.c)
  | [], j, x, h => by cases h
  | y :: l, 0, x, h => by
    simp only [List.getElem?_cons_zero, Option.some.injEq] at h
    subst h
    exact ⟨rfl, rfl, rfl, rfl⟩
  | y :: l, j + 1, x, h => by
    have := callsFlat_get l j x (by simpa using h)
    have e : callsFlat (y :: l) = .int .i64 y.op :: .int .i64 y.a :: .int .i64 y.b :: .int .i64 y.c :: callsFlat l := by simp [callsFlat]
    rw [e]
    rw [show (j + 1) * 4 = j * 4 + 1 + 1 + 1 + 1 by omega, show j * 4 + 1 + 1 + 1 + 1 + 1 = (j * 4 + 1) + 1 + 1 + 1 + 1 by omega, show j * 4 + 1 + 1 + 1 + 1 + 2 = (j * 4 + 2) + 1 + 1 + 1 + 1 by omega, show j * 4 + 1 + 1 + 1 + 1 + 3 = (j * 4 + 3) + 1 + 1 + 1 + 1 by omega]
    simp only [List.getElem?_cons_succ]
    exact this
theorem callsAt_own {v : World} {ov : Value} {l : List ACall} (h : v.ownsRow 0 39 4 ov l.length (callsFlat l)) : CallsAt v ov l := by
  rcases h.2 with ⟨rfl, h0⟩ | ⟨g, cap, cur, rfl, _, hg, _, _, _, ht⟩
  · rw [List.length_eq_zero_iff.1 h0]
    exact ⟨none, 0, rfl, fun j x hx => by cases hx⟩
  · refine ⟨_, cap, rfl, fun j x hx => ⟨g, 0, rfl, ?_⟩⟩
    obtain ⟨h1, h2, h3, h4⟩ := callsFlat_get l j x hx
    have hj := (List.getElem?_eq_some_iff.1 hx).1
    rw [← ht, List.getElem?_take_of_lt (by omega)] at h1 h2 h3 h4
    simp only [cell_at' hg, Nat.zero_add]
    exact ⟨by simpa using h1, by simpa using h2, by simpa using h3, by simpa using h4⟩
abbrev intsN (X : List Nat) : List Value := ints (X.map Int.ofNat)
theorem intsN_last {X : List Nat} (h : X ≠ []) : (intsN X)[((X.length : Int) - 1).toNat]? = some (.int .i64 (X.getLastD 0 : Nat)) := by
  obtain ⟨l, x, rfl⟩ := snoc_of_ne h
  simp [ints]
theorem row_last {v : World} {xv : Value} {X : List Nat} (h : v.ownsRow 0 3 1 xv X.length (intsN X)) (h0 : X ≠ []) :
    ∃ g cap, xv = .slice (some ⟨g, 0, none⟩) X.length cap ∧ v.cell? ⟨g, ((X.length : Int) - 1).toNat, none⟩ = some (.int .i64 (X.getLastD 0 : Nat)) ∧ X.length ≤ cap ∧ v.ownsRow 0 3 1 (.slice (some ⟨g, 0, none⟩) ((X.length : Int) - 1).toNat cap) X.dropLast.length (intsN X.dropLast) := by
  have hpos := List.length_pos_iff.2 h0
  obtain ⟨g, cap, rfl, h2, _⟩ := ownsRow_at1 h (intsN_last h0)
  refine ⟨g, cap, rfl, h2, ?_⟩
  rcases h.2 with ⟨h1, _⟩ | ⟨g', cap', cur, h1, e1, e2, e3, e4, e5, e6⟩
  · cases h1
  · cases h1
    refine ⟨e3, by simp [ints], .inr ⟨g, cap, cur, ?_, Nat.zero_le _, e2, by simp; omega, e4, e5, ?_⟩⟩
    · simp
    · rw [Nat.mul_one] at e6
      simp only [List.length_dropLast, Nat.mul_one]
      have := congrArg (List.take (X.length - 1)) e6
      rw [List.take_take, Nat.min_eq_left (by omega)] at this
      rw [this, List.dropLast_eq_take]
      simp [ints, List.map_take]
/-- Two rows, apart from each other, and both new. -/
structure TwoRows (lo : Nat) (v : World) (x y : Value) (X Y : List Nat) : Prop where
  rx : v.ownsRow 0 3 1 x X.length (intsN X)
  ry : v.ownsRow 0 3 1 y Y.length (intsN Y)
  apart : ∀ b, x.ownBlock = some b → y.ownBlock ≠ some b
  lx : ∀ b, x.ownBlock = some b → lo ≤ b
  ly : ∀ b, y.ownBlock = some b → lo ≤ b
section
variable {lo : Nat} {v v' : World} {x y : Value} {X Y : List Nat}
theorem TwoRows.swap (h : TwoRows lo v x y X Y) : TwoRows lo v y x Y X := ⟨h.ry, h.rx, fun b hb h' => h.apart b h' hb, h.ly, h.lx⟩
theorem TwoRows.keep (h : TwoRows lo v x y X Y) (hG : Grow v v') : TwoRows lo v' x y X Y := ⟨owns_grow h.rx hG, owns_grow h.ry hG, h.apart, h.lx, h.ly⟩
theorem TwoRows.put (h : TwoRows lo v x y X Y) {B : Nat} {o : Obj} {arr : Array Value} {t : TypeId} {fr : Nat × Nat} (hP : Puts v v' B o) (hb : v.heap[B]? = some (.cells arr t fr)) (ht : t ≠ 3) : TwoRows lo v' x y X Y :=
  ⟨ownsRow_keep h.rx fun b c hb' hc => hP.other b fun e => own_ne h.rx hb ht (by rw [hb', e]), ownsRow_keep h.ry fun b c hb' hc => hP.other b fun e => own_ne h.ry hb ht (by rw [hb', e]), h.apart, h.lx, h.ly⟩
theorem TwoRows.app (h : TwoRows lo v x y X Y) {z g cap : Nat} (hlo : lo ≤ v.heap.size) (hA : Apped v y 3 1 (Y.length + 1) (intsN Y ++ [.int .i64 (z : Nat)]) g cap v') : TwoRows lo v' x (.slice (some ⟨g, 0, none⟩) (Y.length + 1) cap) X (Y ++ [z]) := by
  refine ⟨ownsRow_keep h.rx fun b c hb hc => hA.same b (own_lt h.rx hb) (h.apart b hb), ?_, fun b hb e => ?_, h.lx, fun b hb => ?_⟩
  · have := hA.owns
    simpa [ints] using this
  · cases e
    rcases hA.where_ with e | e
    · exact h.apart g hb e
    · have h9 : g < v.heap.size := own_lt h.rx hb
      omega
  · cases hb
    rcases hA.where_ with e | e
    · exact h.ly g e
    · show lo ≤ g
      omega
theorem TwoRows.drop (h : TwoRows lo v x y X Y) (h0 : X ≠ []) : ∃ g cap, x = .slice (some ⟨g, 0, none⟩) X.length cap ∧ v.cell? ⟨g, ((X.length : Int) - 1).toNat, none⟩ = some (.int .i64 (X.getLastD 0 : Nat)) ∧ X.length ≤ cap ∧ TwoRows lo v (.slice (some ⟨g, 0, none⟩) ((X.length : Int) - 1).toNat cap) y X.dropLast Y := by
  obtain ⟨g, cap, rfl, h1, h2, h3⟩ := row_last h.rx h0
  exact ⟨g, cap, rfl, h1, h2, h3, h.ry, h.apart, h.lx, h.ly⟩
end
end Go.Proofs.Ytecdiejeofclaaa


/- SlotsAlone: the loop. -/
namespace Go.Proofs.Ytecdiejeofclaaa
open Go Go.Conc
theorem r_neqAns0 {e : Env} {q q' : Operand} {t' : TypeId} {v : World} {x0 x1 y0 y1 : Int} (h : opv e q = some (.agg #[.int .i64 x0, .int .i64 x1])) (h' : opv e q' = some (.agg #[.int .i64 y0, .int .i64 y1])) (he : x0 = y0 ∧ x1 = y1) : RunsTo Try.prog e (.binOp .neq 37 q q' t') v (.value (.bool false)) v := fun ρ o hρ ho t d => by
  simp only [execOp, ho, hρ _ _ h, hρ _ _ h']
  simp [go_sem, he]
theorem asRun_length {N : Nat} : ∀ (l : List Int) (s : AS), (asRun N s l).length = l.length
  | [], _ => rfl
  | x :: l, s => by simp [asRun, asRun_length l]
section
variable {S : Addr → Prop} {main : Bool} {Stop : Goroutine → World → Prop} {cs : List Frame}
theorem slAlone_loop {v0 : World} (hr0 : Ready0 v0) {N : Nat} (hN : N ≤ 1000) {l : List ACall} (hl : l.length ≤ 64) {ans : List (Int × Int)} (hal : ans.length = l.length) {av lvv : Value} (hA : AnssAt v0 av [ans]) (hL : ScrsAt v0 lvv 1 (fun _ => l)) {b : Frame} (hbk : b.kind ≠ .early) {K : List Item}
    (H : ∀ v a, Grow v0 v → AtE 144 [] [] a → Hold Try.prog main S Stop (G (b.at a K) cs) v) :
    ∀ (r k : Nat) (v : World) (a : Act) (s : AS) (gv tv : Value), k + r = l.length → Grow v0 v → TwoRows v0.heap.size v gv tv s.given s.taken → asRun N s ((l.drop k).map (·.op)) = ans.drop k → s.given.length + s.taken.length ≤ k → s.fresh ≤ N →
      AtE 144 [] [(13, .int .i64 k), (12, .int .i64 s.fresh), (11, tv), (10, gv), (8, av), (6, lvv), (0, .int .i64 N)] a → Hold Try.prog main S Stop (G (b.at a (.code slAlone_L0 :: .inLoop slAlone_L0 :: .inBlock 0 :: K)) cs) v := by
  obtain ⟨_, capA, rfl, hA1⟩ := hA
  obtain ⟨BA, OA, av1, rfl, hca, adA, capA1, rfl, hA2⟩ := hA1 0 ans rfl
  obtain ⟨_, capL, rfl, hL1⟩ := hL
  obtain ⟨BL, OL, lv1, rfl, hcl, adL, capL1, rfl, hL2⟩ := hL1 0 (by omega)
  simp only [Nat.add_zero] at hca hcl
  intro r
  induction r with
  | zero =>
    intro k v a s gv tv hk hG hT has hlen hfr hat
    refine hold_unf slAlone_L0_def <| hold_seq <| hold_seq <| hold_region (l := [0,1,2,3,4,5]) rfl <| h_val noA hbk slAlone_13 rfl rfl (by decide) hat (r_move rfl) fun a hat => h_val noA hbk slAlone_13 rfl rfl (by decide) hat (r_move rfl) fun a hat => h_val noA hbk slAlone_13 rfl rfl (by decide) hat (r_index ix_26 rfl rfl (by decide) (by decide)) fun a hat => h_val noA hbk slAlone_13 rfl rfl (by decide) hat (r_load ld_25 rfl (by simpa using grow_cell hG hcl)) fun a hat => h_val noA hbk slAlone_13 rfl rfl (by decide) hat (r_len lk_25 rfl) fun a hat => h_val noA hbk slAlone_13 rfl rfl (by decide) hat (r_bool (t' := false) (r_lss rfl rfl) (by first | (simp; omega) | (simp; done) | (simp_all; done) | (simp_all; omega))) fun a hat => hold_region_end <| hold_condF (hat.eval (q := .tmp 67) rfl) rfl <| hold_exit (k' := _) rfl ?_
    exact H v a hG (hat.sub (AtE.nil))
  | succ r ih =>
    intro k v a s gv tv hk hG hT has hlen hfr hat
    obtain ⟨x, hx⟩ : ∃ x, l[k]? = some x := ⟨l[k]'(by omega), by simp⟩
    have hdl : l.drop k = x :: l.drop (k + 1) := by rw [List.drop_eq_getElem_cons (by omega)]; congr 1; rw [List.getElem?_eq_getElem (by omega)] at hx; exact Option.some.inj hx
    rw [hdl] at has
    have has2 : (asStep N s x.op).1 :: asRun N (asStep N s x.op).2 ((l.drop (k + 1)).map (·.op)) = ans.drop k := has
    have hak : ans[k]? = some (asStep N s x.op).1 := by
      have := congrArg (·[0]?) has2
      simpa using this.symm
    have hnext : asRun N (asStep N s x.op).2 ((l.drop (k + 1)).map (·.op)) = ans.drop (k + 1) := by
      have := congrArg List.tail has2
      simpa using this
    obtain ⟨Bx, Ox, rfl, hx0, hx1⟩ := hA2 k _ hak
    obtain ⟨Bc, Oc, rfl, hc0, _⟩ := hL2 k _ hx
    obtain ⟨adg, cg, rfl⟩ := ownsRow_slice hT.rx
    obtain ⟨adt, ct, rfl⟩ := ownsRow_slice hT.ry
    have hi2 : (k : Int).toNat * 2 = k * 2 := by omega
    have hi4 : (k : Int).toNat * 4 = k * 4 := by omega
    have hGs := hG
    have hG := Grow.refl v
    refine hold_unf slAlone_L0_def <| hold_seq <| hold_seq <| hold_region (l := [0,1,2,3,4,5]) rfl <| h_val noA hbk slAlone_13 rfl rfl (by decide) hat (r_move rfl) fun a hat => h_val noA hbk slAlone_13 rfl rfl (by decide) hat (r_move rfl) fun a hat => h_val noA hbk slAlone_13 rfl rfl (by decide) hat (r_index ix_26 rfl rfl (by decide) (by decide)) fun a hat => h_val noA hbk slAlone_13 rfl rfl (by decide) hat (r_load ld_25 rfl (by simpa using grow_cell hGs hcl)) fun a hat => h_val noA hbk slAlone_13 rfl rfl (by decide) hat (r_len lk_25 rfl) fun a hat => h_val noA hbk slAlone_13 rfl rfl (by decide) hat (r_bool (t' := true) (r_lss rfl rfl) (by first | (simp; omega) | (simp; done) | (simp_all; done) | (simp_all; omega))) fun a hat => hold_region_end <| hold_condT (hat.eval (q := .tmp 67) rfl) rfl <| hold_skip ?_
    refine hold_seq <| hold_block <| hold_seq <| hold_region (l := [0,1,2,3,4,5,6,7]) rfl <| h_val noA hbk slAlone_14 rfl rfl (by decide) hat (r_move rfl) fun a hat => h_val noA hbk slAlone_14 rfl rfl (by decide) hat (r_index ix_29 rfl rfl (by decide) (by simp)) fun a hat => h_val noA hbk slAlone_14 rfl rfl (by decide) hat (r_load ld_34 rfl (by simpa using grow_cell hGs hca)) fun a hat => h_val noA hbk slAlone_14 rfl rfl (by decide) hat (r_move rfl) fun a hat => h_val noA hbk slAlone_14 rfl rfl (by decide) hat (r_index ix_34 rfl rfl (by omega) (by omega)) fun a hat => ?_
    rw [hi2] at hat
    refine h_val noA hbk slAlone_14 rfl rfl (by decide) hat (x_load_ans rfl (grow_cell hGs hx0) (grow_cell hGs hx1)) fun a hat => h_new noA hbk slAlone_14 rfl rfl (by decide) hat al_37 fun v a B14 hB14 hsB14 hg F14 hat => ?_
    have gB14 := Nat.le_trans hG.size (Nat.le_of_eq hB14)
    replace hG := hG.trans hg
    refine h_put noA hbk slAlone_14 rfl rfl hat (pg_37 rfl rfl F14 rfl rfl rfl rfl rfl) fun v a hP F14x hat => ?_
    simp only [List.setIfInBounds_toArray, List.set_cons_succ, List.set_cons_zero] at F14x
    replace hG := hG.put hP gB14
    replace F14 := F14x; clear F14x
    refine hold_region_end <| hold_seq <| hold_region (l := [0,1,2]) rfl <| h_val noA hbk slAlone_15 rfl rfl (by decide) hat bu_37 fun a hat => h_new noA hbk slAlone_15 rfl rfl (by decide) hat al_37 fun v a B15 hB15 hsB15 hg F15 hat => ?_
    have n_F15_F14 := ne_new F14 hB15
    have gB15 := Nat.le_trans hG.size (Nat.le_of_eq hB15)
    replace hG := hG.trans hg
    replace F14 := hg.at F14
    refine h_put noA hbk slAlone_15 rfl rfl hat (pg_37 rfl rfl F15 rfl rfl rfl rfl rfl) fun v a hP F15x hat => ?_
    simp only [List.setIfInBounds_toArray, List.set_cons_succ, List.set_cons_zero] at F15x
    replace F14 := hP.keep (by first | exact n_F15_F14 | exact n_F14_F15.symm | exact ne_of_types F14 F15 (by decide) | omega) F14
    replace hG := hG.put hP gB15
    replace F15 := F15x; clear F15x
    refine hold_region_end <| hold_seq <| hold_seq <| hold_region (l := [0,1,2,3,4,5,6,7]) rfl <| h_val noA hbk slAlone_16 rfl rfl (by decide) hat (r_move rfl) fun a hat => h_val noA hbk slAlone_16 rfl rfl (by decide) hat (r_index ix_26 rfl rfl (by decide) (by decide)) fun a hat => h_val noA hbk slAlone_16 rfl rfl (by decide) hat (r_load ld_25 rfl (by simpa using grow_cell (hGs.trans hG) hcl)) fun a hat => h_val noA hbk slAlone_16 rfl rfl (by decide) hat (r_move rfl) fun a hat => h_val noA hbk slAlone_16 rfl rfl (by decide) hat (r_index ix_25 rfl rfl (by omega) (by omega)) fun a hat => ?_
    rw [hi4] at hat
    refine h_val noA hbk slAlone_16 rfl rfl (by decide) hat (r_field fk_39_0 rfl) fun a hat => h_val noA hbk slAlone_16 rfl rfl (by decide) hat (r_load ld_3 rfl (by simpa using grow_cell (hGs.trans hG) hc0)) fun a hat => ?_
    by_cases h1 : x.op = 1
    · refine h_val noA hbk slAlone_16 rfl (opOk_eq (by kernel_rfl)) (by decide) hat (r_bool (t' := true) (r_eql rfl rfl) (by simp [h1])) fun a hat => hold_region_end <| hold_condT (hat.eval (q := .tmp 84) rfl) rfl <| hold_block <| hold_seq <| hold_region (l := [0,1,2,3]) rfl <| h_val noA hbk slAlone_17 rfl rfl (by decide) hat (r_move rfl) fun a hat => h_val noA hbk slAlone_17 rfl rfl (by decide) hat (r_len lk_35 rfl) fun a hat => ?_
      by_cases hg : s.given = []
      rotate_left
      · refine h_val noA hbk slAlone_17 rfl rfl (by decide) hat (r_bool (t' := true) (r_gtr rfl rfl) (by simp; have := List.length_pos_iff.2 hg; omega)) fun a hat => ?_
        obtain ⟨g0, c0', e, hlast, hcap, hT2⟩ := hT.drop hg
        cases e
        have hpos := List.length_pos_iff.2 hg
        refine h_val noA hbk slAlone_17 rfl rfl (by decide) hat (r_assign rfl) fun a hat => hold_region_end <| hold_condT (hat.eval (q := .tmp 86) rfl) rfl <| hold_seq <| hold_region (l := [0,1,2,3,4,5,6,7]) rfl <| h_val noA hbk slAlone_18 rfl rfl (by decide) hat (r_move rfl) fun a hat => h_val noA hbk slAlone_18 rfl rfl (by decide) hat (r_move rfl) fun a hat => h_val noA hbk slAlone_18 rfl rfl (by decide) hat (r_len lk_35 rfl) fun a hat => h_val noA hbk slAlone_18 rfl rfl (by decide) hat (r_sub rfl rfl (by first | omega | (simp; omega))) fun a hat => h_val noA hbk slAlone_18 rfl rfl (by decide) hat (r_index ix_35 rfl rfl (by omega) (by omega)) fun a hat => h_val noA hbk slAlone_18 rfl rfl (by decide) hat (r_load ld_3 rfl (by simpa using grow_cell hG hlast)) fun a hat => h_val noA hbk slAlone_18 rfl rfl (by decide) hat (r_field fk_37_1 rfl) fun a hat => h_put noA hbk slAlone_18 rfl rfl hat (p_store st_3 rfl rfl rfl F15 rfl rfl) fun v a hP F15x hat => ?_
        simp only [List.setIfInBounds_toArray, List.set_cons_succ, List.set_cons_zero] at F15x
        replace F14 := hP.keep (by first | exact n_F15_F14 | exact n_F14_F15.symm | exact ne_of_types F14 F15 (by decide) | omega) F14
        replace hG := hG.put hP gB15
        replace F15 := F15x; clear F15x
        refine hold_region_end <| hold_seq <| hold_region (l := [0,1,2,3,4,5]) rfl <| h_val noA hbk slAlone_19 rfl rfl (by decide) hat (r_move rfl) fun a hat => h_val noA hbk slAlone_19 rfl rfl (by decide) hat (r_move rfl) fun a hat => h_val noA hbk slAlone_19 rfl rfl (by decide) hat (r_len lk_35 rfl) fun a hat => h_val noA hbk slAlone_19 rfl rfl (by decide) hat (r_sub rfl rfl (by first | omega | (simp; omega))) fun a hat => h_val noA hbk slAlone_19 rfl rfl (by decide) hat (r_sliceHi rfl rfl (by omega) (by omega)) fun a hat => ?_
        have hw : (asStep N s x.op).1 = (0, ((s.given.getLastD 0 : Nat) : Int)) := by simp [asStep, h1, hg]
        have hs2 : (asStep N s x.op).2 = ⟨s.given.dropLast, s.taken ++ [s.given.getLastD 0], s.fresh⟩ := by simp [asStep, h1, hg]
        refine h_val noA hbk slAlone_19 rfl rfl (by decide) hat (r_assign rfl) fun a hat => hold_region_end <| hold_region (l := [0,1,2,3,4,5]) rfl <| h_val noA hbk slAlone_20 rfl rfl (by decide) hat (r_move rfl) fun a hat => h_val noA hbk slAlone_20 rfl rfl (by decide) hat (r_field fk_37_1 rfl) fun a hat => h_val noA hbk slAlone_20 rfl rfl (by decide) hat (r_load ld_3 rfl (cell_at' F15)) fun a hat => h_news noA hbk slAlone_20 rfl rfl (by decide) hat (bs_35_1_0 rfl rfl) fun v a B105 hB105 hsB105 hg F105 hat => ?_
        have n_F105_F14 := ne_new F14 hB105
        have n_F105_F15 := ne_new F15 hB105
        have gB105 := Nat.le_trans hG.size (Nat.le_of_eq hB105)
        replace hG := hG.trans hg
        replace F14 := hg.at F14
        replace F15 := hg.at F15
        have hT3 := hT2.keep hG
        refine h_app noA hbk slAlone_20 rfl (by decide) hat ek_35 (((hGs.trans hG).ready hr0)) hT3.ry rfl rfl F105 rfl (by simp [Value.oneCell']) (by decide) (Nat.le_trans (show _ ≤ 1000 by omega) (by decide)) (by omega) fun g cap v a hAp hat => ?_
        have hszv := Nat.le_trans hGs.size hG.size
        have hGn := (hAp.grow (hGs.trans hG) hT3.ly).1
        replace F14 := (hAp.same B14 (lt_of_heap F14) (own_ne hT3.ry F14 (by decide))).trans F14
        replace F15 := (hAp.same B15 (lt_of_heap F15) (own_ne hT3.ry F15 (by decide))).trans F15
        have hT4 := hT3.app hszv hAp
        have hGs := hGn
        have hG := Grow.refl v
        refine h_val noA hbk slAlone_20 rfl rfl (by decide) hat (r_assign rfl) fun a hat => hold_region_end <| hold_inBlock <| hold_seq <| hold_region (l := [0,1,2]) rfl <| h_val noA hbk slAlone_31 rfl rfl (by decide) hat (lg_37 rfl (cell_at' F14) (cell_at' F14)) fun a hat => h_val noA hbk slAlone_31 rfl rfl (by decide) hat (lg_37 rfl (cell_at' F15) (cell_at' F15)) fun a hat => h_val noA hbk slAlone_31 rfl (opOk_eq (by kernel_rfl)) (by decide) hat (r_neqAns0 rfl rfl ⟨by simp [hw], by simp [hw]⟩) fun a hat => hold_region_end <| hold_condF (hat.eval (q := .tmp 143) rfl) rfl <| hold_skip <| hold_inBlock <| hold_region (l := [0,1,2]) rfl ?_
        refine h_val noA hbk slAlone_33 rfl rfl (by decide) hat (r_move rfl) fun a hat => h_val noA hbk slAlone_33 rfl rfl (by decide) hat (r_add rfl rfl (by first | omega | (simp; omega))) fun a hat => h_val noA hbk slAlone_33 rfl rfl (by decide) hat (r_assign rfl) fun a hat => hold_region_end <| hold_inLoop ?_
        refine ih (k + 1) _ _ (asStep N s x.op).2 (.slice (some ⟨g0, 0, none⟩) ((s.given.length : Int) - 1).toNat cg) (.slice (some ⟨g, 0, none⟩) (s.taken.length + 1) cap) (by omega) (hGs.trans hG) ?_ hnext ?_ ?_ ?_
        · rw [hs2]; first | exact hT4 | (simp only [List.getLastD_eq_getLast?]; exact hT4)
        · rw [hs2]; first | omega | (simp; omega)
        · rw [hs2]; exact hfr
        · rw [hs2]; exact hat.sub (AtE.cons rfl (AtE.cons rfl (AtE.cons rfl (AtE.cons rfl (AtE.cons rfl (AtE.cons rfl (AtE.cons rfl (AtE.nil))))))))
      · skip
        refine h_val noA hbk slAlone_17 rfl rfl (by decide) hat (r_bool (t' := false) (r_gtr rfl rfl) (by simp [hg])) fun a hat => h_val noA hbk slAlone_17 rfl rfl (by decide) hat (r_assign rfl) fun a hat => hold_region_end <| hold_condF (hat.eval (q := .tmp 86) rfl) rfl <| hold_seq <| hold_region (l := [0,1,2,3]) rfl <| h_val noA hbk slAlone_21 rfl rfl (by decide) hat (r_move rfl) fun a hat => h_val noA hbk slAlone_21 rfl rfl (by decide) hat (r_move rfl) fun a hat => ?_
        by_cases hf : s.fresh < N
        · refine h_val noA hbk slAlone_21 rfl rfl (by decide) hat (r_bool (t' := true) (r_lss rfl rfl) (by simp; omega)) fun a hat => ?_
          have hw : (asStep N s x.op).1 = (0, ((s.fresh : Nat) : Int)) := by simp [asStep, h1, hg, hf]
          have hs2 : (asStep N s x.op).2 = ⟨s.given, s.taken ++ [s.fresh], s.fresh + 1⟩ := by simp [asStep, h1, hg, hf]
          refine h_val noA hbk slAlone_21 rfl rfl (by decide) hat (r_assign rfl) fun a hat => hold_region_end <| hold_condT (hat.eval (q := .tmp 107) rfl) rfl <| hold_seq <| hold_region (l := [0,1,2]) rfl <| h_val noA hbk slAlone_22 rfl rfl (by decide) hat (r_move rfl) fun a hat => h_val noA hbk slAlone_22 rfl rfl (by decide) hat (r_field fk_37_1 rfl) fun a hat => h_put noA hbk slAlone_22 rfl rfl hat (p_store st_3 rfl rfl rfl F15 rfl rfl) fun v a hP F15x hat => ?_
          simp only [List.setIfInBounds_toArray, List.set_cons_succ, List.set_cons_zero] at F15x
          replace F14 := hP.keep (by first | exact n_F15_F14 | exact n_F14_F15.symm | exact ne_of_types F14 F15 (by decide) | omega) F14
          replace hG := hG.put hP gB15
          replace F15 := F15x; clear F15x
          refine hold_region_end <| hold_seq <| hold_region (l := [0,1,2]) rfl <| h_val noA hbk slAlone_23 rfl rfl (by decide) hat (r_move rfl) fun a hat => h_val noA hbk slAlone_23 rfl rfl (by decide) hat (r_add rfl rfl (by first | omega | (simp; omega))) fun a hat => h_val noA hbk slAlone_23 rfl rfl (by decide) hat (r_assign rfl) fun a hat => hold_region_end <| hold_region (l := [0,1,2,3,4,5]) rfl <| h_val noA hbk slAlone_24 rfl rfl (by decide) hat (r_move rfl) fun a hat => h_val noA hbk slAlone_24 rfl rfl (by decide) hat (r_field fk_37_1 rfl) fun a hat => h_val noA hbk slAlone_24 rfl rfl (by decide) hat (r_load ld_3 rfl (cell_at' F15)) fun a hat => h_news noA hbk slAlone_24 rfl rfl (by decide) hat (bs_35_1_0 rfl rfl) fun v a B118 hB118 hsB118 hg F118 hat => ?_
          have n_F118_F14 := ne_new F14 hB118
          have n_F118_F15 := ne_new F15 hB118
          have gB118 := Nat.le_trans hG.size (Nat.le_of_eq hB118)
          replace hG := hG.trans hg
          replace F14 := hg.at F14
          replace F15 := hg.at F15
          have hT3 := hT.keep hG
          refine h_app noA hbk slAlone_24 rfl (by decide) hat ek_35 (((hGs.trans hG).ready hr0)) hT3.ry rfl rfl F118 rfl (by simp [Value.oneCell']) (by decide) (Nat.le_trans (show _ ≤ 1000 by omega) (by decide)) (by omega) fun g cap v a hAp hat => ?_
          have hszv := Nat.le_trans hGs.size hG.size
          have hGn := (hAp.grow (hGs.trans hG) hT3.ly).1
          replace F14 := (hAp.same B14 (lt_of_heap F14) (own_ne hT3.ry F14 (by decide))).trans F14
          replace F15 := (hAp.same B15 (lt_of_heap F15) (own_ne hT3.ry F15 (by decide))).trans F15
          have hT4 := hT3.app hszv hAp
          have hGs := hGn
          have hG := Grow.refl v
          refine h_val noA hbk slAlone_24 rfl rfl (by decide) hat (r_assign rfl) fun a hat => hold_region_end <| hold_inBlock <| hold_seq <| hold_region (l := [0,1,2]) rfl <| h_val noA hbk slAlone_31 rfl rfl (by decide) hat (lg_37 rfl (cell_at' F14) (cell_at' F14)) fun a hat => h_val noA hbk slAlone_31 rfl rfl (by decide) hat (lg_37 rfl (cell_at' F15) (cell_at' F15)) fun a hat => h_val noA hbk slAlone_31 rfl (opOk_eq (by kernel_rfl)) (by decide) hat (r_neqAns0 rfl rfl ⟨by simp [hw], by simp [hw]⟩) fun a hat => hold_region_end <| hold_condF (hat.eval (q := .tmp 143) rfl) rfl <| hold_skip <| hold_inBlock <| hold_region (l := [0,1,2]) rfl ?_
          refine h_val noA hbk slAlone_33 rfl rfl (by decide) hat (r_move rfl) fun a hat => h_val noA hbk slAlone_33 rfl rfl (by decide) hat (r_add rfl rfl (by first | omega | (simp; omega))) fun a hat => h_val noA hbk slAlone_33 rfl rfl (by decide) hat (r_assign rfl) fun a hat => hold_region_end <| hold_inLoop ?_
          refine ih (k + 1) _ _ (asStep N s x.op).2 (.slice adg s.given.length cg) (.slice (some ⟨g, 0, none⟩) (s.taken.length + 1) cap) (by omega) (hGs.trans hG) ?_ hnext ?_ ?_ ?_
          · rw [hs2]; first | exact hT4 | (simp only [List.getLastD_eq_getLast?]; exact hT4)
          · rw [hs2]; first | omega | (simp; omega)
          · rw [hs2]; exact hf
          · rw [hs2]; exact hat.sub (AtE.cons rfl (AtE.cons rfl (AtE.cons rfl (AtE.cons rfl (AtE.cons rfl (AtE.cons rfl (AtE.cons rfl (AtE.nil))))))))
        · skip
          refine h_val noA hbk slAlone_21 rfl rfl (by decide) hat (r_bool (t' := false) (r_lss rfl rfl) (by simp; omega)) fun a hat => h_val noA hbk slAlone_21 rfl rfl (by decide) hat (r_assign rfl) fun a hat => hold_region_end <| hold_condF (hat.eval (q := .tmp 107) rfl) rfl <| hold_region (l := [0,1]) rfl <| h_val noA hbk slAlone_25 rfl rfl (by decide) hat (r_field fk_37_0 rfl) fun a hat => h_put noA hbk slAlone_25 rfl rfl hat (p_store st_24 rfl rfl rfl F15 rfl rfl) fun v a hP F15x hat => ?_
          simp only [List.setIfInBounds_toArray, List.set_cons_succ, List.set_cons_zero] at F15x
          replace F14 := hP.keep (by first | exact n_F15_F14 | exact n_F14_F15.symm | exact ne_of_types F14 F15 (by decide) | omega) F14
          replace hG := hG.put hP gB15
          replace F15 := F15x; clear F15x
          refine hold_region_end <| hold_inBlock <| hold_seq <| hold_region (l := [0,1,2]) rfl <| h_val noA hbk slAlone_31 rfl rfl (by decide) hat (lg_37 rfl (cell_at' F14) (cell_at' F14)) fun a hat => h_val noA hbk slAlone_31 rfl rfl (by decide) hat (lg_37 rfl (cell_at' F15) (cell_at' F15)) fun a hat => ?_
          have hw : (asStep N s x.op).1 = (80, 0) := by simp [asStep, h1, hg, hf]
          have hs2 : (asStep N s x.op).2 = s := by simp [asStep, h1, hg, hf]
          have hT4 := hT.keep hG
          have hGn := hGs.trans hG
          refine h_val noA hbk slAlone_31 rfl (opOk_eq (by kernel_rfl)) (by decide) hat (r_neqAns0 rfl rfl ⟨by simp [hw], by simp [hw]⟩) fun a hat => hold_region_end <| hold_condF (hat.eval (q := .tmp 143) rfl) rfl <| hold_skip <| hold_inBlock <| hold_region (l := [0,1,2]) rfl <| h_val noA hbk slAlone_33 rfl rfl (by decide) hat (r_move rfl) fun a hat => h_val noA hbk slAlone_33 rfl rfl (by decide) hat (r_add rfl rfl (by first | omega | (simp; omega))) fun a hat => h_val noA hbk slAlone_33 rfl rfl (by decide) hat (r_assign rfl) fun a hat => hold_region_end <| hold_inLoop ?_
          refine ih (k + 1) _ _ (asStep N s x.op).2 (.slice adg s.given.length cg) (.slice adt s.taken.length ct) (by omega) (hGs.trans hG) ?_ hnext ?_ ?_ ?_
          · rw [hs2]; first | exact hT4 | (simp only [List.getLastD_eq_getLast?]; exact hT4)
          · rw [hs2]; first | omega | (simp; omega)
          · rw [hs2]; exact hfr
          · rw [hs2]; exact hat.sub (AtE.cons rfl (AtE.cons rfl (AtE.cons rfl (AtE.cons rfl (AtE.cons rfl (AtE.cons rfl (AtE.cons rfl (AtE.nil))))))))
    · skip
      refine h_val noA hbk slAlone_16 rfl (opOk_eq (by kernel_rfl)) (by decide) hat (r_bool (t' := false) (r_eql rfl rfl) (by simp [h1])) fun a hat => hold_region_end <| hold_condF (hat.eval (q := .tmp 84) rfl) rfl <| hold_seq <| hold_region (l := [0,1,2]) rfl <| h_val noA hbk slAlone_26 rfl rfl (by decide) hat (r_move rfl) fun a hat => h_val noA hbk slAlone_26 rfl rfl (by decide) hat (r_len lk_35 rfl) fun a hat => ?_
      by_cases ht : s.taken = []
      · refine h_val noA hbk slAlone_26 rfl (opOk_eq (by kernel_rfl)) (by decide) hat (r_bool (t' := true) (r_eql rfl rfl) (by simp [ht])) fun a hat => hold_region_end <| hold_condT (hat.eval (q := .tmp 122) rfl) rfl <| hold_region (l := [0,1]) rfl <| h_val noA hbk slAlone_27 rfl rfl (by decide) hat (r_field fk_37_0 rfl) fun a hat => h_put noA hbk slAlone_27 rfl rfl hat (p_store st_24 rfl rfl rfl F15 rfl rfl) fun v a hP F15x hat => ?_
        simp only [List.setIfInBounds_toArray, List.set_cons_succ, List.set_cons_zero] at F15x
        replace F14 := hP.keep (by first | exact n_F15_F14 | exact n_F14_F15.symm | exact ne_of_types F14 F15 (by decide) | omega) F14
        replace hG := hG.put hP gB15
        replace F15 := F15x; clear F15x
        refine hold_region_end <| hold_seq <| hold_region (l := [0,1,2]) rfl <| h_val noA hbk slAlone_31 rfl rfl (by decide) hat (lg_37 rfl (cell_at' F14) (cell_at' F14)) fun a hat => h_val noA hbk slAlone_31 rfl rfl (by decide) hat (lg_37 rfl (cell_at' F15) (cell_at' F15)) fun a hat => ?_
        have hw : (asStep N s x.op).1 = (1, 0) := by simp [asStep, h1, ht]
        have hs2 : (asStep N s x.op).2 = s := by simp [asStep, h1, ht]
        have hT4 := hT.keep hG
        have hGn := hGs.trans hG
        refine h_val noA hbk slAlone_31 rfl (opOk_eq (by kernel_rfl)) (by decide) hat (r_neqAns0 rfl rfl ⟨by simp [hw], by simp [hw]⟩) fun a hat => hold_region_end <| hold_condF (hat.eval (q := .tmp 143) rfl) rfl <| hold_skip <| hold_inBlock <| hold_region (l := [0,1,2]) rfl <| h_val noA hbk slAlone_33 rfl rfl (by decide) hat (r_move rfl) fun a hat => h_val noA hbk slAlone_33 rfl rfl (by decide) hat (r_add rfl rfl (by first | omega | (simp; omega))) fun a hat => h_val noA hbk slAlone_33 rfl rfl (by decide) hat (r_assign rfl) fun a hat => hold_region_end <| hold_inLoop ?_
        refine ih (k + 1) _ _ (asStep N s x.op).2 (.slice adg s.given.length cg) (.slice adt s.taken.length ct) (by omega) (hGs.trans hG) ?_ hnext ?_ ?_ ?_
        · rw [hs2]; first | exact hT4 | (simp only [List.getLastD_eq_getLast?]; exact hT4)
        · rw [hs2]; first | omega | (simp; omega)
        · rw [hs2]; exact hfr
        · rw [hs2]; exact hat.sub (AtE.cons rfl (AtE.cons rfl (AtE.cons rfl (AtE.cons rfl (AtE.cons rfl (AtE.cons rfl (AtE.cons rfl (AtE.nil))))))))
      · skip
        refine h_val noA hbk slAlone_26 rfl (opOk_eq (by kernel_rfl)) (by decide) hat (r_bool (t' := false) (r_eql rfl rfl) (by simp; have := List.length_pos_iff.2 ht; omega)) fun a hat => ?_
        obtain ⟨g0, c0', e, hlast, hcap, hT2⟩ := hT.swap.drop ht
        cases e
        have hpos := List.length_pos_iff.2 ht
        refine hold_region_end <| hold_condF (hat.eval (q := .tmp 122) rfl) rfl <| hold_seq <| hold_region (l := [0,1,2,3,4,5,6,7]) rfl <| h_val noA hbk slAlone_28 rfl rfl (by decide) hat (r_move rfl) fun a hat => h_val noA hbk slAlone_28 rfl rfl (by decide) hat (r_move rfl) fun a hat => h_val noA hbk slAlone_28 rfl rfl (by decide) hat (r_len lk_35 rfl) fun a hat => h_val noA hbk slAlone_28 rfl rfl (by decide) hat (r_sub rfl rfl (by first | omega | (simp; omega))) fun a hat => h_val noA hbk slAlone_28 rfl rfl (by decide) hat (r_index ix_35 rfl rfl (by omega) (by omega)) fun a hat => h_val noA hbk slAlone_28 rfl rfl (by decide) hat (r_load ld_3 rfl (by simpa using grow_cell hG hlast)) fun a hat => h_val noA hbk slAlone_28 rfl rfl (by decide) hat (r_field fk_37_1 rfl) fun a hat => h_put noA hbk slAlone_28 rfl rfl hat (p_store st_3 rfl rfl rfl F15 rfl rfl) fun v a hP F15x hat => ?_
        simp only [List.setIfInBounds_toArray, List.set_cons_succ, List.set_cons_zero] at F15x
        replace F14 := hP.keep (by first | exact n_F15_F14 | exact n_F14_F15.symm | exact ne_of_types F14 F15 (by decide) | omega) F14
        replace hG := hG.put hP gB15
        replace F15 := F15x; clear F15x
        refine hold_region_end <| hold_seq <| hold_region (l := [0,1,2,3,4,5]) rfl <| h_val noA hbk slAlone_29 rfl rfl (by decide) hat (r_move rfl) fun a hat => h_val noA hbk slAlone_29 rfl rfl (by decide) hat (r_move rfl) fun a hat => h_val noA hbk slAlone_29 rfl rfl (by decide) hat (r_len lk_35 rfl) fun a hat => h_val noA hbk slAlone_29 rfl rfl (by decide) hat (r_sub rfl rfl (by first | omega | (simp; omega))) fun a hat => h_val noA hbk slAlone_29 rfl rfl (by decide) hat (r_sliceHi rfl rfl (by omega) (by omega)) fun a hat => ?_
        have hw : (asStep N s x.op).1 = (0, ((s.taken.getLastD 0 : Nat) : Int)) := by simp [asStep, h1, ht]
        have hs2 : (asStep N s x.op).2 = ⟨s.given ++ [s.taken.getLastD 0], s.taken.dropLast, s.fresh⟩ := by simp [asStep, h1, ht]
        refine h_val noA hbk slAlone_29 rfl rfl (by decide) hat (r_assign rfl) fun a hat => hold_region_end <| hold_region (l := [0,1,2,3,4,5]) rfl <| h_val noA hbk slAlone_30 rfl rfl (by decide) hat (r_move rfl) fun a hat => h_val noA hbk slAlone_30 rfl rfl (by decide) hat (r_field fk_37_1 rfl) fun a hat => h_val noA hbk slAlone_30 rfl rfl (by decide) hat (r_load ld_3 rfl (cell_at' F15)) fun a hat => h_news noA hbk slAlone_30 rfl rfl (by decide) hat (bs_35_1_0 rfl rfl) fun v a B139 hB139 hsB139 hg F139 hat => ?_
        have n_F139_F14 := ne_new F14 hB139
        have n_F139_F15 := ne_new F15 hB139
        have gB139 := Nat.le_trans hG.size (Nat.le_of_eq hB139)
        replace hG := hG.trans hg
        replace F14 := hg.at F14
        replace F15 := hg.at F15
        have hT3 := hT2.keep hG
        refine h_app noA hbk slAlone_30 rfl (by decide) hat ek_35 (((hGs.trans hG).ready hr0)) hT3.ry rfl rfl F139 rfl (by simp [Value.oneCell']) (by decide) (Nat.le_trans (show _ ≤ 1000 by omega) (by decide)) (by omega) fun g cap v a hAp hat => ?_
        have hszv := Nat.le_trans hGs.size hG.size
        have hGn := (hAp.grow (hGs.trans hG) hT3.ly).1
        replace F14 := (hAp.same B14 (lt_of_heap F14) (own_ne hT3.ry F14 (by decide))).trans F14
        replace F15 := (hAp.same B15 (lt_of_heap F15) (own_ne hT3.ry F15 (by decide))).trans F15
        have hT4 := hT3.app hszv hAp
        have hGs := hGn
        have hG := Grow.refl v
        refine h_val noA hbk slAlone_30 rfl rfl (by decide) hat (r_assign rfl) fun a hat => hold_region_end <| hold_seq <| hold_region (l := [0,1,2]) rfl <| h_val noA hbk slAlone_31 rfl rfl (by decide) hat (lg_37 rfl (cell_at' F14) (cell_at' F14)) fun a hat => h_val noA hbk slAlone_31 rfl rfl (by decide) hat (lg_37 rfl (cell_at' F15) (cell_at' F15)) fun a hat => h_val noA hbk slAlone_31 rfl (opOk_eq (by kernel_rfl)) (by decide) hat (r_neqAns0 rfl rfl ⟨by simp [hw], by simp [hw]⟩) fun a hat => hold_region_end <| hold_condF (hat.eval (q := .tmp 143) rfl) rfl <| hold_skip <| hold_inBlock <| hold_region (l := [0,1,2]) rfl <| h_val noA hbk slAlone_33 rfl rfl (by decide) hat (r_move rfl) fun a hat => ?_
        refine h_val noA hbk slAlone_33 rfl rfl (by decide) hat (r_add rfl rfl (by first | omega | (simp; omega))) fun a hat => h_val noA hbk slAlone_33 rfl rfl (by decide) hat (r_assign rfl) fun a hat => hold_region_end <| hold_inLoop ?_
        refine ih (k + 1) _ _ (asStep N s x.op).2 (.slice (some ⟨g, 0, none⟩) (s.given.length + 1) cap) (.slice (some ⟨g0, 0, none⟩) ((s.taken.length : Int) - 1).toNat ct) (by omega) (hGs.trans hG) ?_ hnext ?_ ?_ ?_
        · rw [hs2]; first | exact hT4.swap | (simp only [List.getLastD_eq_getLast?]; exact hT4.swap)
        · rw [hs2]; first | omega | (simp; omega)
        · rw [hs2]; exact hfr
        · rw [hs2]; exact hat.sub (AtE.cons rfl (AtE.cons rfl (AtE.cons rfl (AtE.cons rfl (AtE.cons rfl (AtE.cons rfl (AtE.cons rfl (AtE.nil))))))))
end
end Go.Proofs.Ytecdiejeofclaaa


/- slots' awake. -/
namespace Go.Proofs.Ytecdiejeofclaaa
open Go Go.Conc
def awakeSl : List ACall := [⟨1, 0, 0, 0⟩, ⟨1, 0, 0, 0⟩, ⟨3, 0, 0, 0⟩, ⟨3, 0, 0, 0⟩, ⟨2, 0, 0, 0⟩]
theorem awakeSl_runs : (runs 60 (slSys [] 1) (slProgs 8 1 1 fun _ => awakeSl)).map (·.2) = some [[(0, 0), (80, 0), (0, 0), (1, 0), (81, 0)]] := by kernel_rfl
theorem r_eqAns {e : Env} {q q' : Operand} {t' : TypeId} {v : World} {x0 x1 y0 y1 : Int} (h : opv e q = some (.agg #[.int .i64 x0, .int .i64 x1])) (h' : opv e q' = some (.agg #[.int .i64 y0, .int .i64 y1])) (he : x0 = y0 ∧ x1 = y1) : RunsTo Try.prog e (.binOp .eql 37 q q' t') v (.value (.bool true)) v := fun ρ o hρ ho t d => by
  simp only [execOp, ho, hρ _ _ h, hρ _ _ h']
  simp [go_sem, he]
section
variable {Done : Goroutine → World → Prop}
theorem slAwake_run {u : World} {N : Nat} (hr : Ready0 u) (hN0 : 0 < N) {I : Inbs} (hI : ∀ x, x ≠ 0 → I x = none) {c0 : Frame} {cs : List Frame}
    (K : ∀ v' I', (∀ x, x ≠ 0 → I' x = none) → Grow u v' → Run Try.prog Done S0 0 (N + 1) I' (G (c0.finish (.bool true)) cs) v') :
    Run Try.prog Done S0 0 N I (G (Frame.enter Try.prog 7 #[] .normal) (c0 :: cs)) u := by
  refine Run.of_hold ?_
  obtain ⟨b, a, hEq, hb, hbf, hat⟩ := enter_is slAwake_fn slAwake_body slAwake_tmps #[] [] rfl (by simp)
  rw [hEq]
  have hbk := not_early hb
  refine hold_unf slAwake_code_def <| hold_seq <| hold_region (l := [0]) rfl <| h_val noA hbk slAwake_0 rfl rfl (by decide) hat (r_assign rfl) fun a hat => hold_region_end <| hold_seq <| hold_region (l := [0,1]) rfl <| h_callc hbk slAwake_1 rfl (by decide) hat wNew_fn wNew_bd wNew_nm (vals := #[_]) rfl fun c hc => wNew_hold (sl := []) hr ⟨rfl, .inl ⟨0, rfl, rfl⟩, by simp [ints]⟩ (by decide) fun v W ch rv hg1 hw hWl hcl hch hrv hrvn hrvW => hold_fin hc fun a hat => ?_
  have hG := Grow.refl v
  refine h_val noA hbk slAwake_1 rfl rfl (by decide) hat (r_assign rfl) fun a hat => hold_region_end <| hold_seq <| hold_region (l := [0,1,2,3,4,5,6,7,8,9,10,11,12,13]) rfl <| h_val noA hbk slAwake_2 rfl rfl (by decide) hat (r_move rfl) fun a hat => h_val noA hbk slAwake_2 rfl rfl (by decide) hat (bu_39_0 rfl rfl) fun a hat => h_val noA hbk slAwake_2 rfl rfl (by decide) hat (bu_39_0 rfl rfl) fun a hat => h_val noA hbk slAwake_2 rfl rfl (by decide) hat (bu_39_0 rfl rfl) fun a hat => h_val noA hbk slAwake_2 rfl rfl (by decide) hat (bu_39_0 rfl rfl) fun a hat => h_val noA hbk slAwake_2 rfl rfl (by decide) hat (bu_39_0 rfl rfl) fun a hat => h_news noA hbk slAwake_2 rfl rfl (by decide) hat (bs_25_5_0_1_2_3_4 rfl rfl rfl rfl rfl) fun v a B12 hB12 hsB12 hg F12 hat => ?_
  have gB12 := Nat.le_trans hG.size (Nat.le_of_eq hB12)
  replace hG := hG.trans hg
  refine h_news noA hbk slAwake_2 rfl rfl (by decide) hat (bs_26_1_0 rfl rfl) fun v a B13 hB13 hsB13 hg F13 hat => ?_
  have n_F13_F12 := ne_new F12 hB13
  have gB13 := Nat.le_trans hG.size (Nat.le_of_eq hB13)
  replace hG := hG.trans hg
  replace F12 := hg.at F12
  refine h_callc hbk slAwake_2 rfl (by decide) hat slPlay_fn slPlay_bd slPlay_nm (vals := #[_, _, _]) rfl fun c hc => ?_
  have hne : ∀ {b arr t fr}, v.heap[b]? = some (.cells arr t fr) → t ≠ 74 → t ≠ 3 → ¬ wordsOf W ch rv b := fun {b arr t fr} hb n1 n2 h => by
    rcases h with rfl | rfl | h
    · rw [hG.at hw] at hb; cases hb; exact n1 rfl
    · rw [hG.at hch] at hb; cases hb
    · exact own_ne (owns_grow hrv hG) hb n2 h
  have hwl : ∀ b, wordsOf W ch rv b → u.heap.size ≤ b := fun b h => by
    rcases h with rfl | rfl | h
    · exact hWl
    · exact hcl
    · exact hrvn b h
  have hm0 : mayE 1 (fun j => awakeSl.length) false = 0 := by
    unfold mayE
    rw [if_neg, if_neg (by decide)]
    rintro ⟨j, hj, h⟩
    exact absurd h (show ¬ 64 < awakeSl.length by decide)
  have hlen := hG.size
  refine hold_run (slPlay_run (fu := 8) (f := 60) (l := fun _ => awakeSl) (lv := fun _ => .slice (some ⟨B12, 0, none⟩) 5 5) (hG.ready (hg1.ready hr)) ⟨hG.at hw, hG.at hch, owns_grow hrv hG⟩ ⟨by simp, by decide⟩ hN0 hI ⟨⟨_, _, rfl, fun j hj => ⟨B13, 0, rfl, ?_⟩⟩, fun j hj => ⟨_, _, rfl⟩, by decide, fun j hj => (by decide : awakeSl.length ≤ maxLen)⟩ ⟨_, _, rfl⟩ (fun _ B O cp h => ?_) (fun j hj => ?_) (fun v' _ h => absurd hm0 h) (fun v' _ _ h => by omega) (fun _ _ _ => ?_))
  · obtain rfl : j = 0 := by omega
    exact cell_at' F13
  · cases h
    exact hne F13 (by decide) (by decide)
  · refine ⟨_, _, rfl, fun i x hx => ⟨B12, 0, rfl, lt_of_heap F12, hne F12 (by decide) (by decide), ?_⟩⟩
    have hi : i < 5 := (List.getElem?_eq_some_iff.1 hx).1
    rcases (show i = 0 ∨ i = 1 ∨ i = 2 ∨ i = 3 ∨ i = 4 by omega) with rfl | rfl | rfl | rfl | rfl <;> (cases hx; exact ⟨cell_at' F12, cell_at' F12, cell_at' F12, cell_at' F12⟩)
  · obtain ⟨⟨A', rs⟩, hA', hrs⟩ := Option.map_eq_some_iff.1 awakeSl_runs
    refine ⟨(A', rs), hA', ?_⟩
    simp only at hrs
    subst hrs
    intro Γ' v2 I' ob hWI hI' hlr hfin hkeep hW' hob
    refine Run.of_hold <| hold_fin hc fun a hat => ?_
    have hwl' : ∀ b, b < u.heap.size → ¬ wordsOf W ch rv b := fun b hb h => by have := hwl b h; omega
    have hG1 : Grow u v2 := ⟨Nat.le_trans hg1.size (Nat.le_trans hG.size (Nat.le_trans hob (Nat.le_of_lt (hfin 0 _ rfl).1.1))), fun b hb => (hkeep b (Nat.lt_of_lt_of_le hb (Nat.le_trans hg1.size hG.size)) (hwl' b hb)).trans ((hG.same b (Nat.lt_of_lt_of_le hb hg1.size)).trans (hg1.same b hb)), fun _ => hWI.ready⟩
    obtain ⟨ad, cap, hav, hA0⟩ := anssAt_fin hlr hfin
    obtain ⟨B, O, x, rfl, hx0, ad1, cap1, rfl, hA1⟩ := hA0 0 _ rfl
    simp only [Nat.add_zero] at hx0
    have hG := Grow.refl v2
    cases hav
    refine h_val noA hbk slAwake_2 rfl rfl (by decide) hat (r_move rfl) fun a hat => h_val noA hbk slAwake_2 rfl rfl (by decide) hat (r_extract rfl rfl) fun a hat => h_val noA hbk slAwake_2 rfl rfl (by decide) hat (r_extract rfl rfl) fun a hat => h_val noA hbk slAwake_2 rfl rfl (by decide) hat (r_assign rfl) fun a hat => h_val noA hbk slAwake_2 rfl rfl (by decide) hat (r_assign rfl) fun a hat => hold_region_end <| hold_seq <| hold_seq <| hold_region (l := [0,1,2,3,4,5,6,7,8,9,10,11,12,13]) rfl <| h_val noA hbk slAwake_3 rfl rfl (by decide) hat (r_move rfl) fun a hat => h_val noA hbk slAwake_3 rfl (opOk_eq (by kernel_rfl)) (by decide) hat (r_bool (t' := false) (r_neq rfl rfl) (by first | (simp; omega) | (simp; done) | (simp_all; done) | (simp_all; omega))) fun a hat => h_val noA hbk slAwake_3 rfl rfl (by decide) hat (r_move rfl) fun a hat => hg_yes noA hbk slAwake_3 rfl rfl rfl rfl (by decide) hat (r_move rfl) fun a hat => ?_
    refine hg_yes noA hbk slAwake_3 rfl rfl rfl rfl (by decide) hat (r_len lk_29 rfl) fun a hat => hg_yes noA hbk slAwake_3 rfl rfl rfl (opOk_eq (by kernel_rfl)) (by decide) hat (r_bool (t' := false) (r_neq rfl rfl) (by first | (simp; omega) | (simp; done) | (simp_all; done) | (simp_all; omega))) fun a hat => h_val noA hbk slAwake_3 rfl rfl (by decide) hat (r_pick rfl rfl) fun a hat => h_val noA hbk slAwake_3 rfl rfl (by decide) hat (r_move rfl) fun a hat => hg_yes noA hbk slAwake_3 rfl rfl rfl rfl (by decide) hat (r_move rfl) fun a hat => hg_yes noA hbk slAwake_3 rfl rfl rfl rfl (by decide) hat (r_index ix_29 rfl rfl (by decide) (by decide)) fun a hat => hg_yes noA hbk slAwake_3 rfl rfl rfl rfl (by decide) hat (r_load ld_34 rfl hx0) fun a hat => hg_yes noA hbk slAwake_3 rfl rfl rfl rfl (by decide) hat (r_len lk_34 rfl) fun a hat => hg_yes noA hbk slAwake_3 rfl rfl rfl (opOk_eq (by kernel_rfl)) (by decide) hat (r_bool (t' := false) (r_neq rfl rfl) (by first | (simp; omega) | (simp; done) | (simp_all; done) | (simp_all; omega))) fun a hat => ?_
    obtain ⟨B1, O1, rfl⟩ : ∃ B1 O1, ad1 = some ⟨B1, O1, none⟩ := by
      obtain ⟨B, O, e, _⟩ := hA1 0 (0, 0) rfl
      exact ⟨B, O, e⟩
    have hA1 : ∀ (j : Nat) (x : Int × Int), [((0 : Int), (0 : Int)), (80, 0), (0, 0), (1, 0), (81, 0)][j]? = some x → v2.cell? ⟨B1, O1 + j * 2, none⟩ = some (.int .i64 x.1) ∧ v2.cell? ⟨B1, O1 + j * 2 + 1, none⟩ = some (.int .i64 x.2) := fun j x hx => by
      obtain ⟨B, O, e, h⟩ := hA1 j x hx
      cases e
      exact h
    refine h_val noA hbk slAwake_3 rfl rfl (by decide) hat (r_pick rfl rfl) fun a hat => hold_region_end <| hold_condF (hat.eval (q := .tmp 30) rfl) rfl <| hold_skip <| hold_seq <| hold_region (l := [0,1,2,3,4,5,6,7,8,9,10,11,12,13,14,15,16,17,18,19,20,21,22,23,24,25,26,27,28,29,30,31,32,33,34,35,36,37,38,39,40,41,42,43]) rfl <| h_val noA hbk slAwake_5 rfl rfl (by decide) hat (r_move rfl) fun a hat => h_val noA hbk slAwake_5 rfl rfl (by decide) hat (r_index ix_29 rfl rfl (by decide) (by decide)) fun a hat => h_val noA hbk slAwake_5 rfl rfl (by decide) hat (r_load ld_34 rfl hx0) fun a hat => h_val noA hbk slAwake_5 rfl rfl (by decide) hat (r_index ix_34 rfl rfl (by decide) (by decide)) fun a hat => h_val noA hbk slAwake_5 rfl rfl (by decide) hat (x_load_ans rfl (hA1 0 (0, 0) rfl).1 (hA1 0 (0, 0) rfl).2) fun a hat => h_val noA hbk slAwake_5 rfl rfl (by decide) hat bu_37 fun a hat => h_val noA hbk slAwake_5 rfl (opOk_eq (by kernel_rfl)) (by decide) hat (r_eqAns rfl rfl ⟨rfl, rfl⟩) fun a hat => ?_
    refine h_val noA hbk slAwake_5 rfl rfl (by decide) hat (r_move rfl) fun a hat => hg_yes noA hbk slAwake_5 rfl rfl rfl rfl (by decide) hat (r_move rfl) fun a hat => hg_yes noA hbk slAwake_5 rfl rfl rfl rfl (by decide) hat (r_index ix_29 rfl rfl (by decide) (by decide)) fun a hat => hg_yes noA hbk slAwake_5 rfl rfl rfl rfl (by decide) hat (r_load ld_34 rfl hx0) fun a hat => hg_yes noA hbk slAwake_5 rfl rfl rfl rfl (by decide) hat (r_index ix_34 rfl rfl (by decide) (by decide)) fun a hat => hg_yes noA hbk slAwake_5 rfl rfl rfl rfl (by decide) hat (r_field fk_37_0 rfl) fun a hat => hg_yes noA hbk slAwake_5 rfl rfl rfl rfl (by decide) hat (r_load ld_24 rfl (hA1 1 (80, 0) rfl).1) fun a hat => hg_yes noA hbk slAwake_5 rfl rfl rfl (opOk_eq (by kernel_rfl)) (by decide) hat (r_bool (t' := true) (r_eql rfl rfl) (by first | (simp; omega) | (simp; done) | (simp_all; done) | (simp_all; omega))) fun a hat => ?_
    refine h_val noA hbk slAwake_5 rfl rfl (by decide) hat (r_pick rfl rfl) fun a hat => h_val noA hbk slAwake_5 rfl rfl (by decide) hat (r_move rfl) fun a hat => hg_yes noA hbk slAwake_5 rfl rfl rfl rfl (by decide) hat (r_move rfl) fun a hat => hg_yes noA hbk slAwake_5 rfl rfl rfl rfl (by decide) hat (r_index ix_29 rfl rfl (by decide) (by decide)) fun a hat => hg_yes noA hbk slAwake_5 rfl rfl rfl rfl (by decide) hat (r_load ld_34 rfl hx0) fun a hat => hg_yes noA hbk slAwake_5 rfl rfl rfl rfl (by decide) hat (r_index ix_34 rfl rfl (by decide) (by decide)) fun a hat => hg_yes noA hbk slAwake_5 rfl rfl rfl rfl (by decide) hat (x_load_ans rfl (hA1 2 (0, 0) rfl).1 (hA1 2 (0, 0) rfl).2) fun a hat => hg_yes noA hbk slAwake_5 rfl rfl rfl rfl (by decide) hat bu_37 fun a hat => hg_yes noA hbk slAwake_5 rfl rfl rfl (opOk_eq (by kernel_rfl)) (by decide) hat (r_eqAns rfl rfl ⟨rfl, rfl⟩) fun a hat => ?_
    refine h_val noA hbk slAwake_5 rfl rfl (by decide) hat (r_pick rfl rfl) fun a hat => h_val noA hbk slAwake_5 rfl rfl (by decide) hat (r_move rfl) fun a hat => hg_yes noA hbk slAwake_5 rfl rfl rfl rfl (by decide) hat (r_move rfl) fun a hat => hg_yes noA hbk slAwake_5 rfl rfl rfl rfl (by decide) hat (r_index ix_29 rfl rfl (by decide) (by decide)) fun a hat => hg_yes noA hbk slAwake_5 rfl rfl rfl rfl (by decide) hat (r_load ld_34 rfl hx0) fun a hat => hg_yes noA hbk slAwake_5 rfl rfl rfl rfl (by decide) hat (r_index ix_34 rfl rfl (by decide) (by decide)) fun a hat => hg_yes noA hbk slAwake_5 rfl rfl rfl rfl (by decide) hat (r_field fk_37_0 rfl) fun a hat => hg_yes noA hbk slAwake_5 rfl rfl rfl rfl (by decide) hat (r_load ld_24 rfl (hA1 3 (1, 0) rfl).1) fun a hat => hg_yes noA hbk slAwake_5 rfl rfl rfl (opOk_eq (by kernel_rfl)) (by decide) hat (r_bool (t' := true) (r_eql rfl rfl) (by first | (simp; omega) | (simp; done) | (simp_all; done) | (simp_all; omega))) fun a hat => ?_
    refine h_val noA hbk slAwake_5 rfl rfl (by decide) hat (r_pick rfl rfl) fun a hat => h_val noA hbk slAwake_5 rfl rfl (by decide) hat (r_move rfl) fun a hat => hg_yes noA hbk slAwake_5 rfl rfl rfl rfl (by decide) hat (r_move rfl) fun a hat => hg_yes noA hbk slAwake_5 rfl rfl rfl rfl (by decide) hat (r_index ix_29 rfl rfl (by decide) (by decide)) fun a hat => hg_yes noA hbk slAwake_5 rfl rfl rfl rfl (by decide) hat (r_load ld_34 rfl hx0) fun a hat => hg_yes noA hbk slAwake_5 rfl rfl rfl rfl (by decide) hat (r_index ix_34 rfl rfl (by decide) (by decide)) fun a hat => hg_yes noA hbk slAwake_5 rfl rfl rfl rfl (by decide) hat (r_field fk_37_0 rfl) fun a hat => hg_yes noA hbk slAwake_5 rfl rfl rfl rfl (by decide) hat (r_load ld_24 rfl (hA1 4 (81, 0) rfl).1) fun a hat => hg_yes noA hbk slAwake_5 rfl rfl rfl (opOk_eq (by kernel_rfl)) (by decide) hat (r_bool (t' := true) (r_eql rfl rfl) (by first | (simp; omega) | (simp; done) | (simp_all; done) | (simp_all; omega))) fun a hat => ?_
    refine h_val noA hbk slAwake_5 rfl rfl (by decide) hat (r_pick rfl rfl) fun a hat => h_val noA hbk slAwake_5 rfl rfl (by decide) hat (r_assign rfl) fun a hat => hold_region_end <| hold_retd hb hbf slAwake_fn hat.defers (ret_one slAwake_res hat rfl) ?_
    exact hold_run (K _ I' hI' (hG1.trans hG))
end
end Go.Proofs.Ytecdiejeofclaaa


/- SlotsAlone, to the end of its run. -/
namespace Go.Proofs.Ytecdiejeofclaaa
open Go Go.Conc
theorem slAlone_inits : Try.prog.inits.idxOf? 4 = none := by kernel_rfl
theorem fairC_op (x : ACall) : (fairC x).op = 1 ∨ (fairC x).op = 3 := by
  unfold fairC
  split
  · left; assumption
  · right; rfl
theorem FairAt.scripts {lo : Nat} {v : World} {sv : Value} {n : Nat} {lv : Nat → Value} {L : Nat → List ACall} (h : FairAt lo v sv n lv L) (hn : 0 < n) : Scripts v sv n lv fun j => (L j).length := by
  have hr : ∀ j, j < n → ((List.range n).map lv)[j]? = some (lv j) := fun j hj => by simp [hj]
  obtain ⟨g, cap, rfl, _⟩ := ownsRow_at1 h.rows (hr 0 hn)
  refine ⟨⟨_, cap, rfl, fun j hj => ⟨g, 0, rfl, ?_⟩⟩, fun j hj => ownsRow_slice (h.each j hj), ownsRow_len h.rows, fun j hj => ownsRow_len (h.each j hj)⟩
  obtain ⟨g', cap', e, h2, _⟩ := ownsRow_at1 h.rows (hr j hj)
  cases e
  rw [Nat.zero_add]; exact h2
theorem FairAt.scrs {lo : Nat} {v : World} {sv : Value} {n : Nat} {lv : Nat → Value} {L : Nat → List ACall} (h : FairAt lo v sv n lv L) (hn : 0 < n) : ScrsAt v sv n L := by
  obtain ⟨ad, cap, rfl, h1⟩ := (h.scripts hn).at_
  exact ⟨ad, cap, rfl, fun j hj => by obtain ⟨B, O, e1, e2⟩ := h1 j hj; exact ⟨B, O, lv j, e1, e2, callsAt_own (h.each j hj)⟩⟩
theorem slAlone_run {u W0 : World} (hr : Ready0 u) {z : Int} {cv : Value} {l : List ACall} (hC : CallsAt u cv l) (hl : l.length * 32 ≤ 140737488355328) :
    Run Try.prog (AtDone Try.prog W0 (AlonePost u W0)) S0 0 1 (fun _ => none) (G (Frame.enter Try.prog 4 #[.int .i64 z, cv] .normal) []) u := by
  obtain ⟨adc, capc, rfl, hC2⟩ := id hC
  refine Run.of_hold ?_
  obtain ⟨b, a, hEq, hb, hbf, hat⟩ := enter_is slAlone_fn slAlone_body slAlone_tmps #[.int .i64 z, .slice adc l.length capc] [(0, .int .i64 z), (1, .slice adc l.length capc)] rfl (by simp)
  rw [hEq]
  have hbk := not_early hb
  refine hold_unf slAlone_code_def <| hold_seq <| hold_region (l := [0]) rfl <| h_val noA hbk slAlone_0 rfl rfl (by decide) hat (r_assign rfl) fun a hat => hold_region_end <| hold_seq <| hold_region (l := [0,1]) rfl <| h_callc hbk slAlone_1 rfl (by decide) hat slAwake_fn slAwake_bd slAwake_nm (vals := #[]) rfl fun c hc => ?_
  refine hold_run (slAwake_run hr (by decide) (fun _ _ => rfl) fun v I' hI' hGa => ?_)
  refine Run.of_hold <| hold_fin hc fun a hat => ?_
  have hG := Grow.refl v
  refine h_val noA hbk slAlone_1 rfl rfl (by decide) hat (r_assign rfl) fun a hat => hold_region_end <| hold_seq <| hold_region (l := [0,1,2,3]) rfl <| h_val noA hbk slAlone_2 rfl rfl (by decide) hat (r_move rfl) fun a hat => h_news noA hbk slAlone_2 rfl rfl (by decide) hat (bs_26_1_0 rfl rfl) fun v a B18 hB18 hsB18 hg F18 hat => ?_
  have gB18 := Nat.le_trans hG.size (Nat.le_of_eq hB18)
  replace hG := hG.trans hg
  refine h_callc hbk slAlone_2 rfl (by decide) hat fair_fn fair_bd fair_nm (vals := #[_]) rfl fun c hc => ?_
  have hGb := hGa.trans hG
  have h18 : ∀ j, j < 1 → v.cell? ⟨B18, 0 + j, none⟩ = some (.slice adc l.length capc) := fun j hj => by
    obtain rfl : j = 0 := by omega
    exact cell_at' F18
  refine fair_hold (hGb.ready hr) (n := 1) (L := fun _ => l) ⟨_, _, rfl, fun j hj => ⟨B18, 0, _, rfl, h18 j hj, adc, capc, rfl, fun k x hx => ?_⟩⟩ (by decide) (fun j _ => hl) fun v ov lv hgF hF => ?_
  · obtain ⟨B, O, e, e0, e1, e2, e3⟩ := hC2 k x hx
    exact ⟨B, O, e, grow_cell hGb e0, grow_cell hGb e1, grow_cell hGb e2, grow_cell hGb e3⟩
  have hGc := hGb.trans hgF
  have hSc := hF.scripts (by decide)
  have hSs := hF.scrs (by decide)
  obtain ⟨ado, capo, rfl, hSo⟩ := hSc.at_
  refine hold_fin hc fun a hat => h_val noA hbk slAlone_2 rfl rfl (by decide) hat (r_assign rfl) fun a hat => hold_region_end <| hold_seq <| hold_region (l := [0,1,2]) rfl <| h_val noA hbk slAlone_3 rfl rfl (by decide) hat (r_move rfl) fun a hat => h_callc hbk slAlone_3 rfl (by decide) hat rMay_fn rMay_bd rMay_nm (vals := #[_]) rfl fun c hc => rMay_hold hSc <| hold_fin hc fun a hat => h_val noA hbk slAlone_3 rfl rfl (by decide) hat (r_assign rfl) fun a hat => hold_region_end <| hold_seq <| hold_seq ?_
  refine hold_region (l := [0,1,2,3,4,5,6,7,8,9,10,11,12,13]) rfl <| h_val noA hbk slAlone_4 rfl rfl (by decide) hat (r_move rfl) fun a hat => h_val noA hbk slAlone_4 rfl rfl (by decide) hat (r_not rfl) fun a hat => h_val noA hbk slAlone_4 rfl rfl (by decide) hat (r_move rfl) fun a hat => hg_yes noA hbk slAlone_4 rfl rfl rfl rfl (by decide) hat (r_move rfl) fun a hat => ?_
  by_cases h0 : mayE 1 (fun j => (l.map fairC).length) false = 0
  rotate_left
  · refine hg_yes noA hbk slAlone_4 rfl rfl rfl (opOk_eq (by kernel_rfl)) (by decide) hat (r_bool (t' := true) (r_neq rfl rfl) (by simpa using h0)) fun a hat => h_val noA hbk slAlone_4 rfl rfl (by decide) hat (r_pick rfl rfl) fun a hat => h_val noA hbk slAlone_4 rfl rfl (by decide) hat (r_move rfl) fun a hat => hg_no slAlone_4 rfl rfl rfl rfl (by decide) hat fun a hat => hg_no slAlone_4 rfl rfl rfl rfl (by decide) hat fun a hat => h_val noA hbk slAlone_4 rfl rfl (by decide) hat (r_pick rfl rfl) fun a hat => h_val noA hbk slAlone_4 rfl rfl (by decide) hat (r_move rfl) fun a hat => hg_no slAlone_4 rfl rfl rfl rfl (by decide) hat fun a hat => hg_no slAlone_4 rfl rfl rfl rfl (by decide) hat fun a hat => h_val noA hbk slAlone_4 rfl rfl (by decide) hat (r_pick rfl rfl) fun a hat => hold_region_end <| hold_condT (hat.eval (q := .tmp 35) rfl) rfl <| hold_seq ?_
    refine hold_region (l := [0,1]) rfl <| h_val noA hbk slAlone_5 rfl rfl (by decide) hat (r_move rfl) fun a hat => h_val noA hbk slAlone_5 rfl rfl (by decide) hat (r_assign rfl) fun a hat => hold_region_end ?_
    exact law_end hI' hGc hb (by rw [hbf]; exact slAlone_fn) (by rw [hbf]; exact slAlone_inits) slAlone_res hat rfl
  refine hg_yes noA hbk slAlone_4 rfl rfl rfl (opOk_eq (by kernel_rfl)) (by decide) hat (r_bool (t' := false) (r_neq rfl rfl) (by simpa using h0)) fun a hat => h_val noA hbk slAlone_4 rfl rfl (by decide) hat (r_pick rfl rfl) fun a hat => h_val noA hbk slAlone_4 rfl rfl (by decide) hat (r_move rfl) fun a hat => hg_yes noA hbk slAlone_4 rfl rfl rfl rfl (by decide) hat (r_move rfl) fun a hat => ?_
  by_cases h1 : z < 0
  · refine hg_yes noA hbk slAlone_4 rfl rfl rfl rfl (by decide) hat (r_bool (t' := true) (r_lss rfl rfl) (by simp; omega)) fun a hat => h_val noA hbk slAlone_4 rfl rfl (by decide) hat (r_pick rfl rfl) fun a hat => h_val noA hbk slAlone_4 rfl rfl (by decide) hat (r_move rfl) fun a hat => hg_no slAlone_4 rfl rfl rfl rfl (by decide) hat fun a hat => hg_no slAlone_4 rfl rfl rfl rfl (by decide) hat fun a hat => h_val noA hbk slAlone_4 rfl rfl (by decide) hat (r_pick rfl rfl) fun a hat => hold_region_end <| hold_condT (hat.eval (q := .tmp 35) rfl) rfl <| hold_seq <| hold_region (l := [0,1]) rfl <| h_val noA hbk slAlone_5 rfl rfl (by decide) hat (r_move rfl) fun a hat => h_val noA hbk slAlone_5 rfl rfl (by decide) hat (r_assign rfl) fun a hat => hold_region_end ?_
    exact law_end hI' hGc hb (by rw [hbf]; exact slAlone_fn) (by rw [hbf]; exact slAlone_inits) slAlone_res hat rfl
  refine hg_yes noA hbk slAlone_4 rfl rfl rfl rfl (by decide) hat (r_bool (t' := false) (r_lss rfl rfl) (by simp; omega)) fun a hat => h_val noA hbk slAlone_4 rfl rfl (by decide) hat (r_pick rfl rfl) fun a hat => h_val noA hbk slAlone_4 rfl rfl (by decide) hat (r_move rfl) fun a hat => hg_yes noA hbk slAlone_4 rfl rfl rfl rfl (by decide) hat (r_move rfl) fun a hat => ?_
  by_cases h2 : 1000 < z
  · refine hg_yes noA hbk slAlone_4 rfl rfl rfl rfl (by decide) hat (r_bool (t' := true) (r_gtr rfl rfl) (by simp; omega)) fun a hat => h_val noA hbk slAlone_4 rfl rfl (by decide) hat (r_pick rfl rfl) fun a hat => hold_region_end <| hold_condT (hat.eval (q := .tmp 35) rfl) rfl <| hold_seq <| hold_region (l := [0,1]) rfl <| h_val noA hbk slAlone_5 rfl rfl (by decide) hat (r_move rfl) fun a hat => h_val noA hbk slAlone_5 rfl rfl (by decide) hat (r_assign rfl) fun a hat => hold_region_end ?_
    exact law_end hI' hGc hb (by rw [hbf]; exact slAlone_fn) (by rw [hbf]; exact slAlone_inits) slAlone_res hat rfl
  refine hg_yes noA hbk slAlone_4 rfl rfl rfl rfl (by decide) hat (r_bool (t' := false) (r_gtr rfl rfl) (by simp; omega)) fun a hat => h_val noA hbk slAlone_4 rfl rfl (by decide) hat (r_pick rfl rfl) fun a hat => hold_region_end <| hold_condF (hat.eval (q := .tmp 35) rfl) rfl <| hold_skip <| hold_seq <| hold_region (l := [0,1,2,3,4,5,6,7,8]) rfl <| h_callc hbk slAlone_6 rfl (by decide) hat wNew_fn wNew_bd wNew_nm (vals := #[_]) rfl fun c hc => wNew_hold (sl := []) (hGc.ready hr) ⟨rfl, .inl ⟨0, rfl, rfl⟩, by simp [ints]⟩ (by decide) fun v W ch rv hg1 hw hWl hcl hch hrv hrvn hrvW => hold_fin hc fun a hat => ?_
  have hl64 : (l.map fairC).length ≤ 64 := (mayE_zero h0).2.2 0 (by decide)
  obtain ⟨N, rfl⟩ : ∃ N : Nat, z = N := ⟨z.toNat, by omega⟩
  obtain ⟨f, res, hrun, hres⟩ := slots_alone (N := N) (by omega) hl64 (fun x hx => by obtain ⟨y, _, rfl⟩ := List.mem_map.1 hx; exact fairC_op y)
  have hwl : ∀ b, wordsOf W ch rv b → _ ≤ b := fun b h => by
    rcases h with rfl | rfl | h
    · exact hWl
    · exact hcl
    · exact hrvn b h
  have hwn := fun b hb h => Nat.lt_irrefl _ (Nat.lt_of_lt_of_le hb (hwl b h))
  refine h_val noA hbk slAlone_6 rfl rfl (by decide) hat (r_move rfl) fun a hat => h_val noA hbk slAlone_6 rfl rfl (by decide) hat (r_move rfl) fun a hat => h_callc hbk slAlone_6 rfl (by decide) hat slPlay_fn slPlay_bd slPlay_nm (vals := #[_, _, _]) rfl fun c hc => ?_
  refine hold_run (slPlay_run (fu := 8) (f := f) (l := fun _ => l.map fairC) (lv := lv) (hg1.ready (hGc.ready hr)) ⟨hw, hch, hrv⟩ ⟨by simp, by decide⟩ (by decide) hI' ⟨⟨_, _, rfl, fun j hj => ?_⟩, hSc.lens, hSc.small.1, hSc.small.2⟩ ⟨_, _, rfl⟩ (fun hn0 B O cp h => ?_) (fun j hj => ?_) (fun v' hg h => absurd h0 h) (fun v' hg _ h => by omega) (fun _ _ _ => ?_))
  · obtain ⟨B, O, e1, e2⟩ := hSo j hj
    exact ⟨B, O, e1, grow_cell hg1 e2⟩
  · cases h
    obtain ⟨_, _, e1, e2⟩ := hSo 0 hn0
    cases e1
    exact hwn _ (cell_low e2)
  · exact (callsAt_own (hF.each j hj)).scr hg1 hwn
  · refine ⟨res, hrun, fun Γ' v2 I2 ob hWI hI2 hlr hfin hkeep hW' hob => ?_⟩
    refine Run.of_hold ?_
    have hl1 : 0 < res.2.length := by omega
    have hG2 := Grow.mk (Nat.le_trans hg1.size (Nat.le_trans hob (Nat.le_of_lt (hfin 0 (res.2[0]'hl1) (by simp)).1.1))) (fun b hb => (hkeep b (Nat.lt_of_lt_of_le hb hg1.size) (hwn b hb)).trans (hg1.same b hb)) (fun _ => hWI.ready)
    have hGd := hGc.trans hG2
    have hAns := anssAt_fin hlr hfin
    rw [hres] at hAns
    generalize hans : asRun N ⟨[], [], 0⟩ ((l.map fairC).map (·.op)) = ans at hAns
    have hal : ans.length = (l.map fairC).length := by rw [← hans, asRun_length]; simp
    have hA0 := hAns
    obtain ⟨_, capA, hAe, hA1⟩ := hA0
    cases hAe
    obtain ⟨BA, OA, av1, hAe, hca, adA, capA1, rfl, hA2⟩ := hA1 0 ans rfl
    cases hAe
    have hSd := hSs.keep hG2
    obtain ⟨_, capL, hLe, hL1⟩ := hSd
    cases hLe
    obtain ⟨BL, OL, lv1, rfl, hcl2, adL, capL1, rfl, hL2⟩ := hL1 0 (by omega)
    simp only [Nat.add_zero] at hca hcl2
    refine hold_fin hc fun a hat => h_val noA hbk slAlone_6 rfl rfl (by decide) hat (r_move rfl) fun a hat => h_val noA hbk slAlone_6 rfl rfl (by decide) hat (r_extract rfl rfl) fun a hat => h_val noA hbk slAlone_6 rfl rfl (by decide) hat (r_extract rfl rfl) fun a hat => h_val noA hbk slAlone_6 rfl rfl (by decide) hat (r_assign rfl) fun a hat => h_val noA hbk slAlone_6 rfl rfl (by decide) hat (r_assign rfl) fun a hat => hold_region_end <| hold_seq <| hold_seq <| hold_draw3 (ord := [0,1,2,3,4,5,6,7,8,9,10,11,12,13,14,15,16,17]) (bigs := []) mixed_ok (by kernel_rfl) (by kernel_rfl) hat <| tx_val noA hbk slAlone_7 rfl rfl (by decide) rfl (fun v hv => (r_move rfl)) <| tx_val noA hbk slAlone_7 rfl (opOk_eq (by kernel_rfl)) (by decide) rfl (fun v hv => (r_bool (t' := false) (r_neq rfl rfl) (by first | (simp; omega) | (simp; done) | (simp_all; done) | (simp_all; omega)))) <| tx_val noA hbk slAlone_7 rfl rfl (by decide) rfl (fun v hv => (r_move rfl)) ?_
    refine tx_yes noA hbk slAlone_7 rfl rfl (by decide) rfl rfl rfl (fun v hv => (r_move rfl)) <| tx_yes noA hbk slAlone_7 rfl rfl (by decide) rfl rfl rfl (fun v hv => (r_len lk_29 rfl)) <| tx_yes noA hbk slAlone_7 rfl (opOk_eq (by kernel_rfl)) (by decide) rfl rfl rfl (fun v hv => (r_bool (t' := false) (r_neq rfl rfl) (by first | (simp; omega) | (simp; done) | (simp_all; done) | (simp_all; omega)))) <| tx_val noA hbk slAlone_7 rfl rfl (by decide) rfl (fun v hv => (r_pick rfl rfl)) <| tx_val noA hbk slAlone_7 rfl rfl (by decide) rfl (fun v hv => (r_move rfl)) <| tx_yes noA hbk slAlone_7 rfl rfl (by decide) rfl rfl rfl (fun v hv => (r_move rfl)) <| tx_yes noA hbk slAlone_7 rfl rfl (by decide) rfl rfl rfl (fun v hv => (r_index ix_29 rfl rfl (by decide) (by decide))) <| tx_yes noA hbk slAlone_7 rfl rfl (by decide) rfl rfl rfl (fun v hv => (r_load ld_34 rfl (by simpa using grow_cell hv hca))) ?_
    refine tx_yes noA hbk slAlone_7 rfl rfl (by decide) rfl rfl rfl (fun v hv => (r_len lk_34 rfl)) <| tx_yes noA hbk slAlone_7 rfl rfl (by decide) rfl rfl rfl (fun v hv => (r_move rfl)) <| tx_yes noA hbk slAlone_7 rfl rfl (by decide) rfl rfl rfl (fun v hv => (r_index ix_26 rfl rfl (by decide) (by decide))) <| tx_yes noA hbk slAlone_7 rfl rfl (by decide) rfl rfl rfl (fun v hv => (r_load ld_25 rfl (by simpa using grow_cell hv hcl2))) <| tx_yes noA hbk slAlone_7 rfl rfl (by decide) rfl rfl rfl (fun v hv => (r_len lk_25 rfl)) <| tx_yes noA hbk slAlone_7 rfl (opOk_eq (by kernel_rfl)) (by decide) rfl rfl rfl (fun v hv => (r_bool (t' := false) (r_neq rfl rfl) (by first | (simp; omega) | (simp; done) | (simp_all; done) | (simp_all; omega)))) <| tx_val noA hbk slAlone_7 rfl rfl (by decide) rfl (fun v hv => (r_pick rfl rfl)) <| tx_end fun v a hv hat => hold_region_end <| hold_condF (hat.eval (q := .tmp 61) rfl) rfl ?_
    refine hold_skip <| hold_seq <| hold_region (l := [0]) rfl <| h_val noA hbk slAlone_9 rfl rfl (by decide) hat (r_assign rfl) fun a hat => hold_region_end <| hold_seq <| hold_region (l := [0]) rfl <| h_val noA hbk slAlone_10 rfl rfl (by decide) hat (r_assign rfl) fun a hat => hold_region_end <| hold_seq <| hold_region (l := [0]) rfl <| h_val noA hbk slAlone_11 rfl rfl (by decide) hat (r_assign rfl) fun a hat => hold_region_end ?_
    refine hold_seq <| hold_seq <| hold_region (l := [0]) rfl <| h_val noA hbk slAlone_12 rfl rfl (by decide) hat (r_assign rfl) fun a hat => hold_region_end <| hold_block <| hold_loop ?_
    have hGe := hGd.trans hv
    refine slAlone_loop (l := l.map fairC) (hGe.ready hr) (N := N) (by omega) hl64 hal (hAns.grow hv) (hSs.keep (hG2.trans hv)) hbk (fun v a hG' hat => ?_) _ 0 v a ⟨[], [], 0⟩ (.slice none 0 0) (.slice none 0 0) (Nat.zero_add _) (Grow.refl v) ⟨sim_rows, sim_rows, fun b hb => (by cases hb), fun b hb => (by cases hb), fun b hb => (by cases hb)⟩ (by rw [List.drop_zero, List.drop_zero]; exact hans) (Nat.le_refl _) (Nat.zero_le _) (hat.sub (AtE.cons rfl (AtE.cons rfl (AtE.cons rfl (AtE.cons rfl (AtE.cons rfl (AtE.cons rfl (AtE.cons rfl (AtE.nil)))))))))
    refine hold_seq <| hold_region (l := [0]) rfl <| h_val noA hbk slAlone_34 rfl rfl (by decide) hat (r_assign rfl) fun a hat => hold_region_end ?_
    exact law_end hI2 (hGe.trans hG') hb (by rw [hbf]; exact slAlone_fn) (by rw [hbf]; exact slAlone_inits) slAlone_res hat rfl
end Go.Proofs.Ytecdiejeofclaaa


/- What stands in an argument: a schedule; scripts. -/
namespace Go.Proofs.Ytecdiejeofclaaa
open Go Go.ChangeShapes Go.WideShapes Go.ChangeAt Go.RowKit Go.Conc Go.ConcN
theorem a_own : ownKnob Try.prog.godebug = none := by kernel_rfl
theorem a_laidOut : laidOutB Try.prog = true := by kernel_rfl
theorem a_cells : Try.prog.cellsOf 3 = 1 := by kernel_rfl
/-- Variables that are not laid yet are out of sight. -/
def unp : Obj → Obj
  | .pending _ _ => .deferred none
  | o => o
def unpend (w : World) : World := { w with heap := w.heap.map unp }
theorem unpend_at (w : World) (b : Nat) : (unpend w).heap[b]? = (w.heap[b]?).map unp := by simp [unpend]
theorem sim_unpend (w : World) : Sim false S0 (unpend w) w := by
  refine ⟨rfl, rfl, by simp [unpend], fun b => ?_, fun _ h => h.elim, fun b c e h => ?_⟩
  · rw [unpend_at]
    cases w.heap[b]? with
    | none => rfl
    | some o => cases o <;> first | exact BSim.refl _ _ | rfl
  · rw [unpend_at] at h
    cases hw : w.heap[b]? with
    | none => rw [hw] at h; cases h
    | some o => rw [hw] at h; cases o <;> simp [unp] at h
theorem unpend_cell {w : World} {ad : Addr} {x : Value} (h : w.cell? ad = some x) : (unpend w).cell? ad = some x := (sim_unpend w).cell ad ▸ h
theorem below_of {W v w : World} {S : Addr → Prop} (hG : Grow (unpend W) v) (hs : Sim false S v w) (hsh : Shape W w) : Below W.heap.size W w := by
  have hsz : (unpend W).heap.size = W.heap.size := by simp [unpend]
  refine ⟨hsh.os, hsh.tape, hsh.output, by rw [← hs.size, ← hsz]; exact hG.size, fun b hb => ?_⟩
  have h1 := hs.block b
  rw [hG.same b (by rw [hsz]; exact hb), unpend_at] at h1
  obtain ⟨o, ho⟩ : ∃ o, W.heap[b]? = some o := ⟨W.heap[b], by simp [hb]⟩
  rw [ho] at h1 ⊢
  by_cases hc : ∃ c e f, o = .cells c e f
  · obtain ⟨c, e, f, rfl⟩ := hc
    obtain ⟨c', hc'⟩ := hsh.block b c e f ho
    rw [hc'] at h1 ⊢
    obtain ⟨e1, _, _⟩ := h1
    rw [e1]
  · by_cases hch : ∃ cap buf cl x y tm, o = .chan cap buf cl x y tm
    · obtain ⟨cap, buf, cl, x, y, tm, rfl⟩ := hch
      have h2 : some (Obj.chan cap buf cl x y tm) = w.heap[b]? := h1
      exact h2.symm
    · exact hsh.pend b o ho (fun c e f e1 => hc ⟨c, e, f, e1⟩) (fun cap buf cl x y tm e1 => hch ⟨cap, buf, cl, x, y, tm, e1⟩)
theorem no_sub {w : World} {B O s : Nat} {x : Value} (h : w.cell? ⟨B, O, some s⟩ = some x) : False := by
  have : w.cell? ⟨B, O, some s⟩ = none := by
    unfold World.cell?
    split
    · simp
    · rfl
  rw [this] at h; cases h
theorem add_plain (B O i : Nat) : (⟨B, O, none⟩ : Addr).add i = ⟨B, O + i, none⟩ := by simp [Addr.add]
/-- An address at which something stands is plain. -/
theorem plain_of {w : World} {a : Addr} {x : Value} (h : w.cell? (a.add 0) = some x) : ∃ B O, a = ⟨B, O, none⟩ := by
  obtain ⟨B, O, sp⟩ := a
  cases sp with
  | none => exact ⟨B, O, rfl⟩
  | some s =>
    have e0 : (⟨B, O, some s⟩ : Addr).add 0 = ⟨B, O, some s⟩ := by simp [Addr.add]
    rw [e0] at h
    exact (no_sub h).elim
theorem a_cells4 : Try.prog.cellsOf 39 = 4 := by kernel_rfl
set_option maxRecDepth 100000 in
theorem calls_open {H : Type} {enc : TypeId × Value → H} {W : World} {base fuel : Nat} {v : Value} {x : DataW H × List MemPlace} (h : DataW.trod enc Try.prog W 0 (fun _ => true) true fuel 25 [v] = some x) :
    ∃ l : List ACall, CallsAt (unpend W) v l ∧ l.length ≤ maxLen ∧ (l = [] ∨ ∃ el sp, x.1 = .slice el sp ∧ l.length = el.length) := by
  rcases Go.Deep.open_slice Try.underlying25 h with ⟨hcs, _⟩ | ⟨a, len, cap, m, n, D, Pl, hcs, _, hl, hm, hmm, hxe, hx⟩
  · obtain rfl : v = .slice none 0 0 := by simpa using hcs
    exact ⟨[], ⟨none, 0, rfl, fun j y hy => by cases hy⟩, Nat.zero_le _, .inl rfl⟩
  · obtain rfl : v = .slice (some a) len cap := by simpa using hcs
    simp only [if_true] at hmm
    subst hmm
    rw [a_cells4] at hx
    have hall : ∀ j, j < len → ∃ y : ACall, W.cell? (a.add (j * 4)) = some (.int .i64 y.op) ∧ W.cell? (a.add (j * 4 + 1)) = some (.int .i64 y.a) ∧ W.cell? (a.add (j * 4 + 2)) = some (.int .i64 y.b) ∧ W.cell? (a.add (j * 4 + 3)) = some (.int .i64 y.c) := fun j hj => by
      obtain ⟨cs', h1, h2⟩ := hx j (by omega)
      obtain ⟨_, h3, h4⟩ := World.cells?_some h1
      obtain ⟨y0, y1, y2, y3, q, _, _, g0, g1, g2, g3⟩ := Go.Joins.trod_struct4 Try.underlying39 h2
      match cs', h3 with
      | [c0, c1, c2, c3], _ =>
        obtain ⟨n0, e0, _, _⟩ := DataW.trod_int Try.underlying3 (by simpa [a_cells] using g0)
        obtain ⟨n1, e1, _, _⟩ := DataW.trod_int Try.underlying3 (by simpa [a_cells] using g1)
        obtain ⟨n2, e2, _, _⟩ := DataW.trod_int Try.underlying3 (by simpa [a_cells] using g2)
        obtain ⟨n3, e3, _, _⟩ := DataW.trod_int Try.underlying3 (by simpa [a_cells] using g3)
        simp only [List.cons.injEq, and_true] at e0 e1 e2 e3
        subst e0 e1 e2 e3
        have k0 := h4 0 (by omega)
        have k1 := h4 1 (by omega)
        have k2 := h4 2 (by omega)
        have k3 := h4 3 (by omega)
        rw [Go.Deep.add_add] at k0 k1 k2 k3
        exact ⟨⟨n0, n1, n2, n3⟩, by simpa using k0, by simpa using k1, by simpa using k2, by simpa using k3⟩
    obtain ⟨F, hF⟩ := Classical.axiomOfChoice (r := fun (j : Nat) (y : ACall) => j < len → W.cell? (a.add (j * 4)) = some (.int .i64 y.op) ∧ W.cell? (a.add (j * 4 + 1)) = some (.int .i64 y.a) ∧ W.cell? (a.add (j * 4 + 2)) = some (.int .i64 y.b) ∧ W.cell? (a.add (j * 4 + 3)) = some (.int .i64 y.c)) fun j => by
      by_cases hj : j < len
      · obtain ⟨y, hy⟩ := hall j hj
        exact ⟨y, fun _ => hy⟩
      · exact ⟨⟨0, 0, 0, 0⟩, fun h => absurd h hj⟩
    refine ⟨(List.range len).map F, ⟨some a, m, by simp, fun j y hy => ?_⟩, by simp; omega, .inr ⟨_, _, congrArg Prod.fst hxe, by simp⟩⟩
    have hj : j < len := by have := (List.getElem?_eq_some_iff.1 hy).1; simpa using this
    have e : y = F j := by simp [hj] at hy; exact hy.symm
    subst e
    obtain ⟨f0, f1, f2, f3⟩ := hF j hj
    obtain ⟨g0, _⟩ := hF 0 (by omega)
    obtain ⟨B, O, rfl⟩ := plain_of (by simpa using g0)
    rw [add_plain] at f0 f1 f2 f3
    exact ⟨B, O, rfl, unpend_cell f0, unpend_cell f1, unpend_cell f2, unpend_cell f3⟩
end Go.Proofs.Ytecdiejeofclaaa


/- SlotsAlone returns true, whatever the number of slots and the calls, and leaves its arguments alone. -/
namespace Go.Proofs.Ytecdiejeofclaaa
open Go Go.ChangeShapes Go.WideShapes Go.ChangeAt Go.RowKit Go.Conc Go.ConcN
theorem slAlone_params : Try.f4.params = #[3, 25] := by kernel_rfl
theorem slAlone_results : Try.f4.resultTypes = #[4] := by kernel_rfl
theorem a_bytes32 : Try.prog.bytesOf 39 = 32 := by kernel_rfl
set_option maxRecDepth 100000 in
theorem slAlone_lifted (os : Os) (started : os.Started) (H : Type) (enc : TypeId × Value → H) :
    ReturnsInLeavingWide {} Try.checked os 4 .any (Rows.slotsAloneSpec.pre6 enc Try.prog Try.f4 Rows.slotsAloneRow.domain false) (Rows.slotsAloneSpec.post enc Try.prog Try.f4 false true false false) := by
  refine returnsInLeavingWide_of_change_sized (C := Try.checked) a_own started Try.func4
    (ChangeSpec.witness6 (enc := enc) (C := Try.checked) false ⟨#[], #[.int .i64 0, .slice none 0 0], []⟩ 8 (by kernel_rfl) (by kernel_rfl) (by kernel_rfl) (by kernel_rfl)) ?_
  intro W base args ds gs before hval0 hW hcnd0 hwt0 _
  have hval : ∀ (j : Nat) t v, Try.f4.params[j]? = some t → args[j]? = some v → Value.okWide Try.prog W .any base t v := hval0
  clear hcnd0
  have hW' := hW
  obtain ⟨p, q, hA0, hV, rfl, _, _⟩ := hW
  have hA : DataW.TrodAll enc Try.prog W 0 (fun _ => true) true Try.f4.params.toList args.toList ds p := hA0
  have hwt : (DataW.weightsEach Try.prog (Try.f4.params.toList ++ Rows.slotsAloneSpec.plain.varTypes Try.prog) (ds ++ gs)).all (· ≤ reachBytes) = true := hwt0
  rw [slAlone_params] at hA hval hwt
  obtain ⟨v0, v1, d0, d1, p0, p1, rfl, rfl, rfl, h0, h1⟩ := trodAll_two hA
  obtain ⟨rfl, rfl⟩ := trodVars_none hV
  obtain ⟨z, rfl, rfl, rfl, hz⟩ := open_int Try.underlying3 (hval 0 3 v0 rfl rfl) h0
  obtain ⟨a0, len, cap, rfl⟩ := okWide_slice Try.underlying25 (hval 1 25 v1 rfl rfl)
  obtain ⟨fuel, hf⟩ := id h1
  obtain ⟨l, hl1, hl2, hl3⟩ := calls_open (base := base) (v := .slice a0 len cap) (by simpa [Value.cells] using hf)
  have hlen : l.length * 32 ≤ 140737488355328 := by
    rcases hl3 with rfl | ⟨el, sp, rfl, hel⟩
    · exact Nat.zero_le _
    · have h := sized_slice hwt (j := 1) (t := 25) (e := 39) rfl rfl Try.underlying25
      rw [a_bytes32] at h
      have hr : reachBytes = 140737488351232 := by decide
      rw [hr] at h
      omega
  simp only [List.append_nil] at hW'
  have hlt : ∀ x ∈ p1, x.block < W.heap.size := fun x hx => by simpa using hW'.lt x (by simpa using hx)
  obtain ⟨M, last, o, w', t', r1, r2, r3, r4⟩ := run_good (sim_unpend W) (slAlone_run (W0 := W) (sim_unpend W).ready (z := z) hl1 hlen)
  refine ⟨M, last, o, w', t', r1, r2, r3, r4.mono fun x hx => ?_⟩
  obtain ⟨rfl, v, S, hG, hs, hsh⟩ := hx
  have hb := below_of hG hs hsh
  have t0 : DataW.Trod enc Try.prog w' 0 (fun b => decide (b < W.heap.size)) true 3 (.int .i64 z) (.lit (.int .i64 z)) [] := shut_int Try.underlying3 hz
  have t1 := Below.trod a_laidOut (by kernel_rfl) (of_decide_eq_true (by kernel_rfl)) h1 hb (fun x hx => hlt x (by simp [hx]))
  refine ⟨_, _, _, [], [] ++ p1, [], hW', ?_, ?_, rfl, hb.frame _, fun h => by cases h⟩
  · rw [slAlone_results]
    exact trodAll_mk1 (shut_bool Try.underlying4 true)
  · rw [slAlone_params]
    exact trodAll_mk2 t0 t1
/-- SlotsAlone: whatever comes in: true; and what came in reads as it did. -/
theorem sl_alone_holds : Rows.SlotsAloneSaid :=
  OpenClaim.holds_of_wide_leaving 4 Try.f4 rfl rfl rfl rfl rfl rfl rfl ⟨rfl, rfl, rfl, rfl, rfl⟩ rfl rfl rfl rfl rfl (by kernel_rfl) Try.func4 (by kernel_rfl)
    (of_decide_eq_true (by kernel_rfl)) (by unfold Func.isWrapper; first | (rw [if_pos (by decide +kernel)]; kernel_rfl) | (rw [if_neg (by decide +kernel)]; exact ⟨rfl, rfl⟩))
    (fun os started H enc _ => slAlone_lifted os started H enc)
#print axioms sl_alone_holds
end Go.Proofs.Ytecdiejeofclaaa

