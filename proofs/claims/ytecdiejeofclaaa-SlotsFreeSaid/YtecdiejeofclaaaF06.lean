/- SlotsFree returns true, whatever the number of slots and the calls, and leaves its arguments alone. -/
import Derived.Test.YtecdiejeofclaaaF05
import Derived.KernelRfl
import Derived.Laws.StructEq
import Derived.Below
import Derived.Test.YtecdiejeofclaaaRows
import Derived.Conc.LeavingOf
import Derived.Conc.Holds
import Derived.Carry
import Derived.ChangeSlices
import Derived.Deep.Slices
import Derived.Lib.SmallJoins
import Derived.RowKit
set_option linter.all false
/- slots.Play's closure: what a call does. -/
namespace Go.Proofs.Ytecdiejeofclaaa
open Go Go.Conc
section
variable {H i : Nat} {Fin : List (Int × Int) → Gho → World → Prop} {N : Nat} {D : List Deferred} {b : Frame} {k : List Item} {cs : List Frame} {ops : Array Oper} {ord bigs l : List Nat} {e : Env} {s : PS} {a : Act}
variable {L : Allow} {Lv : List (Option Nat × Op × Option (Nat × Bool))} {j : Nat} {op : Op}
/-- It writes, behind all that stand ahead of it. -/
theorem tp_put (hA : ∀ f ∈ L.A, AtomOk Try.prog f) (hb : b.kind ≠ .early) (hl : ops.toList.map view = Lv) (hi : Lv[j]? = some (none, op, none)) (hok : opOk Try.prog L op = true) (hbig : bigs.contains j = true) (hfull : fullB ops ord j = true) {B : Nat} {o : Obj} (hrun : ∃ v', RunsTo Try.prog (restr e op) op s.w .skip v' ∧ Puts s.w v' B o)
    (HT : ∀ v', Puts s.w v' B o → v'.heap[B]? = some o → Tx (XP i Fin) (RP H i) Eq N D b k cs ops ord bigs l e ⟨s.Γ0, s.v0, s.Γ, s.A, s.p, v'⟩) : Tx (XP i Fin) (RP H i) Eq N D b k cs ops ord bigs (j :: l) e s := by
  obtain ⟨oo, ho, hdst, hop, hgd⟩ := at_viewg hl hi
  obtain ⟨v', h1, h2⟩ := hrun
  unfold Tx
  rw [if_pos hbig]
  refine ⟨oo, ho, hgd, ?_⟩
  rintro _ a rest rfl hat K
  rw [hop] at hat
  refine HP.walk (hold_unitW hA hb ho (wanted_of hgd _) (by rw [hop]; exact hok) fun t dd => ⟨_, h1 _ oo (fun q z hz => hat.eval hz) hop t dd, ?_⟩)
  refine Hold.re (HP.stop (K ⟨s.Γ0, s.v0, s.Γ, s.A, s.p, v'⟩ undef (.inl hfull) ?_)) t dd
  rw [hdst]; exact HT v' h2 h2.at_
end
abbrev slotsV (bx bh : Nat) : Value := .func (.func 26) #[] #[.pointer (some ⟨bx, 0, none⟩), .pointer (some ⟨bh, 0, none⟩)]
/-- All that a call finds. -/
structure PEnv (i bx bh Bh nh ch s gN gU cn cu n : Nat) (aN aU : Option Addr) (cbf : Nat → Nat) (hand : List Int) (Γ : Gho) (v : World) : Prop where
  bx : v.heap[bx]? = some (.cells #[.pointer (some ⟨s, 0, none⟩)] 43 (0, 0)) ∧ Γ.own bx = .const
  bh : v.heap[bh]? = some (.cells #[.slice (some ⟨Bh, 0, none⟩) nh ch] 63 (0, 0)) ∧ Γ.own bh = .const
  env : SEnv s gN gU cn cu n aN aU cbf Γ v
  hand : HandAt i Bh hand Γ v
theorem PEnv.keep {i bx bh Bh nh ch s gN gU cn cu n : Nat} {aN aU : Option Addr} {cbf : Nat → Nat} {hand hand' : List Int} {Γ Γ' : Gho} {v v' : World} (h : PEnv i bx bh Bh nh ch s gN gU cn cu n aN aU cbf hand Γ v) (hS : StayC Γ v Γ' v') (hH : HandAt i Bh hand' Γ' v') : PEnv i bx bh Bh nh ch s gN gU cn cu n aN aU cbf hand' Γ' v' :=
  ⟨⟨(hS.keep _ _ _ _ h.bx.1 h.bx.2 (by decide)).trans h.bx.1, (hS.own _ (lt_of_heap h.bx.1)).trans h.bx.2⟩, ⟨(hS.keep _ _ _ _ h.bh.1 h.bh.2 (by decide)).trans h.bh.1, (hS.own _ (lt_of_heap h.bh.1)).trans h.bh.2⟩, h.env.keep hS, hH⟩
theorem zip_snoc {α β : Type} : ∀ (l : List α) (m : List β) (x : α) (y : β), l[m.length]? = some x → l.zip (m ++ [y]) = l.zip m ++ [(x, y)]
  | [], m, x, y, h => by cases h
  | a :: l, [], x, y, h => by simp at h; simp [h]
  | a :: l, b :: m, x, y, h => by
    have := zip_snoc l m x y (by simpa using h)
    simp [this]
theorem handOf_snoc {l : List ACall} {acc : List (Int × Int)} {x : ACall} (r : Int × Int) (h : l[acc.length]? = some x) : handOf l (acc ++ [r]) = handStep (handOf l acc) x r := by
  unfold handOf
  rw [zip_snoc l acc x r h, List.foldl_append]; rfl
theorem handFold_length : ∀ (z : List (ACall × (Int × Int))) (hd : List Int), (z.foldl (fun hd p => handStep hd p.1 p.2) hd).length ≤ hd.length + z.length
  | [], hd => by simp
  | p :: z, hd => by
    have h := handFold_length z (handStep hd p.1 p.2)
    have h2 : (handStep hd p.1 p.2).length ≤ hd.length + 1 := by
      unfold handStep
      split
      · split <;> simp
      · split
        · simp; omega
        · omega
    simp only [List.foldl_cons, List.length_cons]
    omega
theorem handOf_length (l : List ACall) (acc : List (Int × Int)) : (handOf l acc).length ≤ l.length := by
  have h := handFold_length (l.zip acc) []
  have h2 : (l.zip acc).length ≤ l.length := by rw [List.length_zip]; omega
  simp only [List.length_nil] at h
  unfold handOf
  omega
theorem slots_do {i : Nat} {Fin : List (Int × Int) → Gho → World → Prop} (f : Nat) {bx bh Bh nh ch s gN gU cn cu n : Nat} {aN aU : Option Addr} {cbf : Nat → Nat} {l : List ACall} (hl : l.length ≤ 64) (hin : i < nh) :
    DoSpec i Fin (slotsV bx bh) (fun acc => slotsP f n (handOf l acc)) (fun acc => PEnv i bx bh Bh nh ch s gN gU cn cu n aN aU cbf (handOf l acc)) l Bh := by
  refine ⟨_, _, _, rfl, slPlayF_fn, slPlayF_bd, slPlayF_nm, fun _ Γ v Γ' v' h hR => h.keep hR.stay (h.hand.keep hR), fun _ Γ v Γ' v' h hR => h.keep hR.stay (h.hand.ans hR), fun acc x Γ0 v0 Γ_ A v c cs k hx hW hG hil hE hK => ?_⟩
  have hT := (TS.start hW hG hil).toI Bh
  have hlen : (handOf l acc).length ≤ 1000 := Nat.le_trans (handOf_length l acc) (by omega)
  obtain ⟨FX, own_FX⟩ := hE.bx
  obtain ⟨FH, own_FH⟩ := hE.bh
  generalize hTb : Γ_.tb i = T
  have hxv : acallV x = .agg #[.int .i64 x.op, .int .i64 x.a, .int .i64 x.b, .int .i64 x.c] := rfl
  have hargs : (#[.pointer (some ⟨T, 0, none⟩), acallV x] ++ #[.pointer (some ⟨bx, 0, none⟩), .pointer (some ⟨bh, 0, none⟩)] : Array Value) = #[.pointer (some ⟨T, 0, none⟩), .agg #[.int .i64 x.op, .int .i64 x.a, .int .i64 x.b, .int .i64 x.c], .pointer (some ⟨bx, 0, none⟩), .pointer (some ⟨bh, 0, none⟩)] := rfl
  rw [hargs]
  change HP i Fin (slotsP f n (handOf l acc) x k) Γ0 v0 A _ v
  generalize hp : slotsP f n (handOf l acc) x k = p
  refine HP.walk ?_
  obtain ⟨b, a, hEq, hb, hbf, hat⟩ := enter_is slPlayF_fn slPlayF_body slPlayF_tmps #[.pointer (some ⟨T, 0, none⟩), .agg #[.int .i64 x.op, .int .i64 x.a, .int .i64 x.b, .int .i64 x.c], .pointer (some ⟨bx, 0, none⟩), .pointer (some ⟨bh, 0, none⟩)] [(0, .pointer (some ⟨T, 0, none⟩)), (1, .agg #[.int .i64 x.op, .int .i64 x.a, .int .i64 x.b, .int .i64 x.c]), (2, .pointer (some ⟨bx, 0, none⟩)), (3, .pointer (some ⟨bh, 0, none⟩))] rfl (by simp)
  rw [hEq]
  have hbk := not_early hb
  refine hold_unf slPlayF_code_def ?_
  have hHA := hE.hand
  refine hold_seq <| hold_region (l := [0,1]) rfl <| h_new noA hbk slPlayF_0 rfl rfl (by decide) hat (bx_39 rfl) fun v a B5 hB5 hsB5 hg F5 hat => ?_
  have n_F5_FX := ne_new FX hB5
  have n_F5_FH := ne_new FH hB5
  obtain ⟨Γ, hT, hR, own_F5, gB5, hO⟩ := hT.new hB5 hg
  replace own_FX := hO _ _ (lt_heap FX) own_FX
  replace own_FH := hO _ _ (lt_heap FH) own_FH
  replace FX := hg.at FX
  replace FH := hg.at FH
  replace hHA := hHA.keep hR
  refine h_new noA hbk slPlayF_0 rfl rfl (by decide) hat al_37 fun v a B6 hB6 hsB6 hg F6 hat => ?_
  have n_F6_FX := ne_new FX hB6
  have n_F6_FH := ne_new FH hB6
  have n_F6_F5 := ne_new F5 hB6
  obtain ⟨Γ, hT, hR, own_F6, gB6, hO⟩ := hT.new hB6 hg
  replace own_FX := hO _ _ (lt_heap FX) own_FX
  replace own_FH := hO _ _ (lt_heap FH) own_FH
  replace own_F5 := hO _ _ (lt_heap F5) own_F5
  replace FX := hg.at FX
  replace FH := hg.at FH
  replace F5 := hg.at F5
  refine hold_region_end <| hold_seq ?_
  replace hHA := hHA.keep hR
  refine HP.stop (hp_draw (H := Bh) (s := ⟨Γ0, v0, Γ, A, _, v⟩) (ord := [0,1,2,3,4,5,6,7,8]) (bigs := [5,7,8]) (by kernel_rfl) (by kernel_rfl) hat ?_)
  refine tp_val noA hbk slPlayF_1 rfl rfl rfl (fun sX hR => (r_load ld_43 rfl (cell_at' ((hR.keep _ (lt_heap FX) (.inl own_FX)).trans FX)))) <| tp_val noA hbk slPlayF_1 rfl rfl rfl (fun sX hR => (r_move rfl)) <| tp_val noA hbk slPlayF_1 rfl rfl rfl (fun sX hR => (lg_39 rfl (cell_at' ((hR.keep _ (lt_heap F5) (.inr ⟨own_F5, (fun ⟨c, fr, e⟩ => by rw [F5] at e; simp at e)⟩)).trans F5)) (cell_at' ((hR.keep _ (lt_heap F5) (.inr ⟨own_F5, (fun ⟨c, fr, e⟩ => by rw [F5] at e; simp at e)⟩)).trans F5)) (cell_at' ((hR.keep _ (lt_heap F5) (.inr ⟨own_F5, (fun ⟨c, fr, e⟩ => by rw [F5] at e; simp at e)⟩)).trans F5)) (cell_at' ((hR.keep _ (lt_heap F5) (.inr ⟨own_F5, (fun ⟨c, fr, e⟩ => by rw [F5] at e; simp at e)⟩)).trans F5)))) <| tp_val noA hbk slPlayF_1 rfl rfl rfl (fun sX hR => (r_load ld_63 rfl (cell_at' ((hR.keep _ (lt_heap FH) (.inl own_FH)).trans FH)))) <| tp_val noA hbk slPlayF_1 rfl rfl rfl (fun sX hR => (r_move rfl)) ?_
  have hth := (hT.wi.th i A.ths[i] (by simp [hil])).1
  have hTb' := hT.rely.same.2.2.2.1.trans hTb
  rw [hTb'] at hth
  refine tp_call hbk slPlayF_1 rfl rfl Id_fn Id_bd Id_nm (vals := #[_]) rfl (fun c KK => ?_)
  refine HP.walk (Id_hold hth rfl (HP.stop ?_))
  have hR := Rely.refl i Γ v
  refine KK _ ⟨Γ0, v0, Γ, A, _, v⟩ (hR.toI _) <| tp_val noA hbk slPlayF_1 rfl rfl rfl (fun sX hR => (r_index (kk := 1) (B := Bh) (n := nh) ix_63 rfl rfl (by omega) (by omega))) ?_
  refine tp_call hbk slPlayF_1 rfl rfl slCall_fn slCall_bd slCall_nm (vals := #[_, _, _, _]) rfl (fun c KK => ?_)
  have hidx : (0 : Nat) + (i : Int).toNat * 1 = i := by omega
  rw [hidx, ← hTb', ← hp]
  change HP i Fin (slotsP f n (handOf l acc) x k) Γ0 v0 A (G (Frame.enter Try.prog 27 #[.pointer (some ⟨s, 0, none⟩), .pointer (some ⟨Γ.tb i, 0, none⟩), acallV x, .pointer (some ⟨Bh, i, none⟩)] .normal) (c :: _ :: cs)) v
  refine slcall_hp f x hT.wi hT.guar hT.lt (hE.env.keep hT.rely.stay) hHA hlen _ _ fun r => ?_
  intro Γ0 v0 Γ v A hR hW hi hG hHV
  replace hT := hT.later hR hW hi hG
  have own_x := (hR.own _ (lt_heap F6)).trans own_F6
  replace F6 := (hR.keep _ (lt_heap F6) (.inr ⟨own_F6, fun ⟨c, fr, e⟩ => by rw [F6] at e; simp at e⟩)).trans F6
  replace own_F6 := own_x; clear own_x
  refine KK (ansV r) ⟨Γ0, v0, Γ, A, _, v⟩ hR <| tp_put noA hbk slPlayF_1 rfl rfl rfl (by kernel_rfl) (pg_37 rfl rfl F6 rfl rfl rfl rfl rfl) fun v hP F6x => ?_
  obtain ⟨hv, hHV⟩ := hHV
  have hne6 : B6 ≠ Bh := fun e => by have h8 := own_F6; rw [e, hHV.row.2] at h8; cases h8
  obtain ⟨Γ, hT, hΓ1, hΓ2, hΓ3, hO⟩ := hT.put hP gB6 own_F6
  replace hHV := hHV.other hP F6 (by decide) hne6 hO
  have F6 := F6x
  refine tp_end fun a hat => HP.walk <| hold_region_end ?_
  refine hold_retdV hb hbf slPlayF_fn hat.defers (ret_cell1 slPlayF_res hat rfl (var_answer (cell_at' F6) (cell_at' F6))) (HP.stop ?_)
  refine hK r _ _ _ _ _ hT.rely hT.wi hT.lt hT.guar (hE.keep hT.rely.stay ?_)
  rw [handOf_snoc r hx]
  exact ⟨hv, hHV⟩
end Go.Proofs.Ytecdiejeofclaaa


/- A cell is made, and its place appended to a row that a block holds. -/
namespace Go.Proofs.Ytecdiejeofclaaa
open Go Go.Conc
abbrev cRow (cb : Nat → Nat) (k : Nat) : List Value := (List.range k).map fun j => .pointer (some ⟨cb j, 0, none⟩)
theorem cRow_snoc {cb cb' : Nat → Nat} {k : Nat} (h : ∀ j, j < k → cb' j = cb j) : cRow cb' (k + 1) = cRow cb k ++ [.pointer (some ⟨cb' k, 0, none⟩)] := by
  unfold cRow
  rw [List.range_succ, List.map_append, List.map_cons, List.map_nil]
  congr 1
  exact List.map_congr_left fun j hj => by rw [h j (List.mem_range.1 hj)]
theorem push_state {W n m k B C g cap : Nat} {x0 : Int} {rv us la tv tr st ran ch cv0 cv cv' lv : Value} {xs row : List Value} {arr arr' : Array Value} {u v v' v2 w v5 : World} (hC : Cells W rv us la tv tr st ran ch cv0 n xs u v cv m)
    (hM : Mods (fun b => b = W ∨ cv.ownBlock = some b) v v') (hw' : v'.heap[W]? = some (.cells #[rv, us, la, cv', tv, tr, st, ran, ch] 74 (0, 0))) (ho' : v'.ownsRow 0 3 1 cv' (n + m + 1) ((xs ++ List.replicate m (.int .i64 0)) ++ [.int .i64 0])) (hown' : cv'.ownBlock = cv.ownBlock ∨ ∀ b, cv'.ownBlock = some b → v.heap.size ≤ b)
    (hB : v.heap.size ≤ B) (hB' : v'.heap[B]? = some (.cells #[.int .i64 ((n + m : Nat) : Int), .int .i64 x0] 100 (0, 0))) (hg : Grow v' v2) (hl : v.ownsRow 0 77 1 lv k row) (hlow : ∀ b, lv.ownBlock = some b → u.heap.size ≤ b)
    (hAp : Apped v2 lv 77 1 (k + 1) (row ++ [.pointer (some ⟨B, 0, none⟩)]) g cap w) (hCs : v.heap[C]? = some (.cells arr 81 (0, 0))) (hP : Puts w v5 C (.cells arr' 81 (0, 0))) (hCu : u.heap.size ≤ C) :
    Cells W rv us la tv tr st ran ch cv0 n xs u v5 cv' (m + 1) ∧ v5.ownsRow 0 77 1 (.slice (some ⟨g, 0, none⟩) (k + 1) cap) (k + 1) (row ++ [.pointer (some ⟨B, 0, none⟩)]) ∧ u.heap.size ≤ g ∧ (lv.ownBlock = some g ∨ v.heap.size ≤ g) ∧
    (∀ (x : Nat) (c : Array Value) (t : TypeId) (fr : Nat × Nat), v.heap[x]? = some (.cells c t fr) → t ≠ 74 → t ≠ 3 → t ≠ 77 → t ≠ 81 → v5.heap[x]? = some (.cells c t fr)) ∧
    (∀ lo k' row', v.ownsRow 0 77 1 lo k' row' → (∀ b, lo.ownBlock = some b → lv.ownBlock ≠ some b) → v5.ownsRow 0 77 1 lo k' row') ∧ u.heap.size ≤ B ∧ v5.heap[B]? = some (.cells #[.int .i64 ((n + m : Nat) : Int), .int .i64 x0] 100 (0, 0)) := by
  have nW : ∀ (x : Nat) (arr : Array Value) (t : TypeId) (fr : Nat × Nat), v.heap[x]? = some (.cells arr t fr) → t ≠ 74 → t ≠ 3 → ¬ (x = W ∨ cv.ownBlock = some x) := fun x arr t fr hx h1 h2 h => by
    rcases h with rfl | h
    · rw [hC.w] at hx; cases hx; exact h1 rfl
    · exact own_ne hC.owns hx h2 h
  have hl2 : v2.ownsRow 0 77 1 lv k row := ownsRow_keep hl fun x y hx hy => (hg.at (hM.at (nW _ _ _ _ hy (by decide) (by decide)) hy)).trans hy.symm
  have kp : ∀ (x : Nat) (arr : Array Value) (t : TypeId) (fr : Nat × Nat), v'.heap[x]? = some (.cells arr t fr) → t ≠ 77 → w.heap[x]? = some (.cells arr t fr) := fun x arr t fr hx ht => (hAp.same x (lt_of_heap (hg.at hx)) (own_ne hl2 (hg.at hx) ht)).trans (hg.at hx)
  have hC3 : w.heap[C]? = some (.cells arr 81 (0, 0)) := kp _ _ _ _ (hM.at (nW _ _ _ _ hCs (by decide) (by decide)) hCs) (by decide)
  have kp5 : ∀ (x : Nat) (arr : Array Value) (t : TypeId) (fr : Nat × Nat), w.heap[x]? = some (.cells arr t fr) → t ≠ 81 → v5.heap[x]? = some (.cells arr t fr) := fun x arr t fr hx ht => (hP.other x (fun e => by rw [e, hC3] at hx; cases hx; exact ht rfl)).trans hx
  refine ⟨⟨⟨?_, fun x hx hX => ?_, fun hr => ?_⟩, kp5 _ _ _ _ (kp _ _ _ _ hw' (by decide)) (by decide), ?_, ?_⟩, ownsRow_keep hAp.owns fun x y hx hy => (kp5 _ _ _ _ hy (by decide)).trans hy.symm, ?_, ?_, fun x c t fr hx n1 n2 n3 n4 => kp5 _ _ _ _ (kp _ _ _ _ (hM.at (nW _ _ _ _ hx n1 n2) hx) n3) n4, fun lo k' row' ho hne => ?_, Nat.le_trans hC.mods.size hB, kp5 _ _ _ _ (kp _ _ _ _ hB' (by decide)) (by decide)⟩
  · rw [hP.size]
    exact Nat.le_trans hC.mods.size (Nat.le_trans hM.size (Nat.le_trans hg.size hAp.size))
  · have n1 : lv.ownBlock ≠ some x := fun e => by have := hlow x e; omega
    have n2 : ¬ (x = W ∨ cv.ownBlock = some x) := fun h => by
      rcases h with h | h
      · exact hX (.inl h)
      · rcases hC.where_ with e | e
        · exact hX (.inr (by rw [← e]; exact h))
        · have := e x h; omega
    have l1 := Nat.lt_of_lt_of_le hx hC.mods.size
    have l2 := Nat.lt_of_lt_of_le l1 hM.size
    have l3 := Nat.lt_of_lt_of_le l2 hg.size
    exact (hP.other x (by omega)).trans ((hAp.same x l3 n1).trans ((hg.same x l2).trans ((hM.same x l1 n2).trans (hC.mods.same x hx hX))))
  · exact hP.ready hAp.ready
  · have e : xs ++ List.replicate (m + 1) (.int .i64 0) = (xs ++ List.replicate m (.int .i64 0)) ++ [.int .i64 0] := by rw [List.replicate_succ', List.append_assoc]
    rw [e]
    exact ownsRow_keep ho' fun x y hx hy => (kp5 _ _ _ _ (kp _ _ _ _ hy (by decide)) (by decide)).trans hy.symm
  · rcases hown' with h | h
    · rw [h]; exact hC.where_
    · exact .inr fun x hx => Nat.le_trans hC.mods.size (h x hx)
  · rcases hAp.where_ with e | e
    · exact hlow g e
    · rw [e]; exact Nat.le_trans hC.mods.size (Nat.le_trans hM.size hg.size)
  · exact hAp.where_.imp id fun e => by rw [e]; exact Nat.le_trans hM.size hg.size
  · refine ownsRow_keep ho fun x y hx hy => ?_
    have h1 := hM.at (nW _ _ _ _ hy (by decide) (by decide)) hy
    have h2 := hg.at h1
    exact (kp5 _ _ _ _ ((hAp.same x (lt_of_heap h2) (hne x hx)).trans h2) (by decide)).trans hy.symm
end Go.Proofs.Ytecdiejeofclaaa


/- slots.New. -/
namespace Go.Proofs.Ytecdiejeofclaaa
open Go Go.Conc
/-- With what a cell begins. -/
def slInit (N c : Nat) : Nat := if c = 0 then min N 1 else if c % 2 = 1 then (if (c - 1) / 2 + 1 = N then 0 else (c - 1) / 2 + 2) else 0
/-- Slots, so far as they are made. -/
structure SlotsIn (nm : Nat → Nat) (lo N : Nat) (v : World) (C : Nat) (lN lU : Value) (cb : Nat → Nat) (i d : Nat) : Prop where
  c : v.heap[C]? = some (.cells #[.pointer (some ⟨cb 0, 0, none⟩), lN, lU] 81 (0, 0))
  nx : v.ownsRow 0 77 1 lN (i + d) (cRow (fun j => cb (1 + 2 * j)) (i + d))
  us : v.ownsRow 0 77 1 lU i (cRow (fun j => cb (2 + 2 * j)) i)
  apart : ∀ b, lN.ownBlock = some b → lU.ownBlock ≠ some b
  lows : lo ≤ C ∧ (∀ b, lN.ownBlock = some b → lo ≤ b) ∧ ∀ b, lU.ownBlock = some b → lo ≤ b
  cells : ∀ c, c < 2 * i + 1 + d → lo ≤ cb c ∧ v.heap[cb c]? = some (.cells #[.int .i64 (nm c : Nat), .int .i64 (slInit N c : Nat)] 100 (0, 0))
  inj : ∀ x y, x < y → y < 2 * i + 1 + d → cb x < cb y
abbrev updB (cb : Nat → Nat) (m B : Nat) : Nat → Nat := fun c => if c = m then B else cb c
section
variable {nm : Nat → Nat} {lo N C i B g cap : Nat} {lN lU : Value} {cb : Nat → Nat} {v v5 : World}
theorem SlotsIn.next (h : SlotsIn nm lo N v C lN lU cb i 0) (hBn : v.heap.size ≤ B) (hC : v5.heap[C]? = some (.cells #[.pointer (some ⟨cb 0, 0, none⟩), .slice (some ⟨g, 0, none⟩) (i + 1) cap, lU] 81 (0, 0)))
    (hr : v5.ownsRow 0 77 1 (.slice (some ⟨g, 0, none⟩) (i + 1) cap) (i + 1) (cRow (fun j => cb (1 + 2 * j)) i ++ [.pointer (some ⟨B, 0, none⟩)])) (hg : lo ≤ g) (hgw : lN.ownBlock = some g ∨ v.heap.size ≤ g)
    (hk : ∀ (x : Nat) (c : Array Value) (t : TypeId) (fr : Nat × Nat), v.heap[x]? = some (.cells c t fr) → t ≠ 74 → t ≠ 3 → t ≠ 77 → t ≠ 81 → v5.heap[x]? = some (.cells c t fr))
    (ho : ∀ lo k' row', v.ownsRow 0 77 1 lo k' row' → (∀ b, lo.ownBlock = some b → lN.ownBlock ≠ some b) → v5.ownsRow 0 77 1 lo k' row') (hB : lo ≤ B) (hBv : v5.heap[B]? = some (.cells #[.int .i64 (nm (2 * i + 1) : Nat), .int .i64 (slInit N (2 * i + 1) : Nat)] 100 (0, 0))) :
    SlotsIn nm lo N v5 C (.slice (some ⟨g, 0, none⟩) (i + 1) cap) lU (updB cb (2 * i + 1) B) i 1 := by
  have hap := h.apart
  refine ⟨by simpa [updB] using hC, ?_, ?_, fun b hb hu => ?_, ⟨h.lows.1, fun b hb => by cases hb; exact hg, h.lows.2.2⟩, fun c hc => ?_, fun x y hxy hy => ?_⟩
  · rw [cRow_snoc (cb := fun j => cb (1 + 2 * j)) (fun j hj => by simp only [updB]; rw [if_neg (by omega)])]
    simpa [updB, Nat.add_comm 1] using hr
  · have e : cRow (fun j => updB cb (2 * i + 1) B (2 + 2 * j)) i = cRow (fun j => cb (2 + 2 * j)) i := List.map_congr_left fun j hj => by have := List.mem_range.1 hj; simp only [updB]; rw [if_neg (by omega)]
    rw [e]
    exact ho _ _ _ h.us fun b hb hn => hap b hn hb
  · cases hb
    rcases hgw with e | e
    · exact hap g e hu
    · have h9 : g < v.heap.size := own_lt h.us hu; omega
  · by_cases e : c = 2 * i + 1
    · subst e
      simp only [updB, if_pos]
      exact ⟨hB, by simpa using hBv⟩
    · simp only [updB, if_neg e]
      obtain ⟨h1, h2⟩ := h.cells c (by omega)
      exact ⟨h1, hk _ _ _ _ h2 (by decide) (by decide) (by decide) (by decide)⟩
  · by_cases e : y = 2 * i + 1
    · subst e
      simp only [updB, if_pos]
      rw [if_neg (by omega)]
      exact Nat.lt_of_lt_of_le (lt_of_heap (h.cells x (by omega)).2) hBn
    · simp only [updB, if_neg e]
      rw [if_neg (by omega)]
      exact h.inj x y hxy (by omega)
theorem SlotsIn.used (h : SlotsIn nm lo N v C lN lU cb i 1) (hBn : v.heap.size ≤ B) (hC : v5.heap[C]? = some (.cells #[.pointer (some ⟨cb 0, 0, none⟩), lN, .slice (some ⟨g, 0, none⟩) (i + 1) cap] 81 (0, 0)))
    (hr : v5.ownsRow 0 77 1 (.slice (some ⟨g, 0, none⟩) (i + 1) cap) (i + 1) (cRow (fun j => cb (2 + 2 * j)) i ++ [.pointer (some ⟨B, 0, none⟩)])) (hg : lo ≤ g) (hgw : lU.ownBlock = some g ∨ v.heap.size ≤ g)
    (hk : ∀ (x : Nat) (c : Array Value) (t : TypeId) (fr : Nat × Nat), v.heap[x]? = some (.cells c t fr) → t ≠ 74 → t ≠ 3 → t ≠ 77 → t ≠ 81 → v5.heap[x]? = some (.cells c t fr))
    (ho : ∀ lo k' row', v.ownsRow 0 77 1 lo k' row' → (∀ b, lo.ownBlock = some b → lU.ownBlock ≠ some b) → v5.ownsRow 0 77 1 lo k' row') (hB : lo ≤ B) (hBv : v5.heap[B]? = some (.cells #[.int .i64 (nm (2 * i + 2) : Nat), .int .i64 0] 100 (0, 0))) :
    SlotsIn nm lo N v5 C lN (.slice (some ⟨g, 0, none⟩) (i + 1) cap) (updB cb (2 * i + 2) B) (i + 1) 0 := by
  have hap := h.apart
  refine ⟨by simpa [updB] using hC, ?_, ?_, fun b hb hu => ?_, ⟨h.lows.1, h.lows.2.1, fun b hb => by cases hb; exact hg⟩, fun c hc => ?_, fun x y hxy hy => ?_⟩
  · have e : cRow (fun j => updB cb (2 * i + 2) B (1 + 2 * j)) (i + 1) = cRow (fun j => cb (1 + 2 * j)) (i + 1) := List.map_congr_left fun j hj => by have := List.mem_range.1 hj; simp only [updB]; rw [if_neg (by omega)]
    show v5.ownsRow 0 _ 1 lN (i + 1) (cRow (fun j => updB cb (2 * i + 2) B (1 + 2 * j)) (i + 1))
    rw [e]
    exact ho _ _ _ h.nx fun b hb hn => hap b hb hn
  · rw [cRow_snoc (cb := fun j => cb (2 + 2 * j)) (fun j hj => by simp only [updB]; rw [if_neg (by omega)])]
    simpa [updB, Nat.add_comm 2] using hr
  · cases hu
    rcases hgw with e | e
    · exact hap g hb e
    · have h9 : g < v.heap.size := own_lt h.nx hb; omega
  · by_cases e : c = 2 * i + 2
    · subst e
      simp only [updB, if_pos]
      have e0 : slInit N (2 * i + 2) = 0 := by unfold slInit; rw [if_neg (by omega), if_neg (by omega)]
      rw [e0]
      exact ⟨hB, by simpa using hBv⟩
    · simp only [updB, if_neg e]
      obtain ⟨h1, h2⟩ := h.cells c (by omega)
      exact ⟨h1, hk _ _ _ _ h2 (by decide) (by decide) (by decide) (by decide)⟩
  · by_cases e : y = 2 * i + 2
    · subst e
      simp only [updB, if_pos]
      rw [if_neg (by omega)]
      exact Nat.lt_of_lt_of_le (lt_of_heap (h.cells x (by omega)).2) hBn
    · simp only [updB, if_neg e]
      rw [if_neg (by omega)]
      exact h.inj x y hxy (by omega)
end
section
variable {S : Addr → Prop} {main : Bool} {Stop : Goroutine → World → Prop} {cs : List Frame} {c : Frame} {v : World}
theorem slNew_loop {b : Frame} (hbk : b.kind ≠ .early) {k : List Item} {W N C : Nat} {rv us la cv0 tv tr st ran ch : Value} {u : World} (hN : N ≤ 1000)
    (H : ∀ v a cv lN lU cb, Ready0 v → Cells W rv us la tv tr st ran ch cv0 0 [] u v cv (2 * N + 1) → SlotsIn id u.heap.size N v C lN lU cb N 0 → AtE 52 [] [(5, .pointer (some ⟨C, 0, none⟩))] a → Hold Try.prog main S Stop (G (b.at a k) cs) v) :
    ∀ (r i : Nat) (v : World) (a : Act) (cv lN lU : Value) (cb : Nat → Nat), i + r = N → Ready0 v → Cells W rv us la tv tr st ran ch cv0 0 [] u v cv (2 * i + 1) → SlotsIn id u.heap.size N v C lN lU cb i 0 →
      AtE 52 [] [(18, .int .i64 i), (17, .int .i64 N), (5, .pointer (some ⟨C, 0, none⟩)), (1, .int .i64 N), (0, .pointer (some ⟨W, 0, none⟩))] a → Hold Try.prog main S Stop (G (b.at a (.code slNew_L0 :: .inLoop slNew_L0 :: .inBlock 0 :: k)) cs) v := by
  intro r
  induction r with
  | zero =>
    intro i v a cv lN lU cb hi hrd hC hSh hat
    obtain rfl : i = N := by omega
    refine hold_unf slNew_L0_def <| hold_seq <| hold_region (l := [0]) rfl <| h_val noA hbk slNew_4 rfl rfl (by decide) hat (r_bool (t' := false) (r_lss rfl rfl) (by first | (simp; omega) | (simp; done) | (simp_all; done) | (simp_all; omega))) fun a hat => hold_region_end <| hold_seq <| hold_condF (hat.eval (q := .tmp 19) rfl) rfl <| hold_exit (k' := _) rfl ?_
    exact H v a cv lN lU cb hrd hC hSh (hat.sub (AtE.cons rfl (AtE.nil)))
  | succ r ih =>
    intro i v a cv lN lU cb hi hrd hC hSh hat
    refine hold_unf slNew_L0_def <| hold_seq <| hold_region (l := [0]) rfl <| h_val noA hbk slNew_4 rfl rfl (by decide) hat (r_bool (t' := true) (r_lss rfl rfl) (by first | (simp; omega) | (simp; done) | (simp_all; done) | (simp_all; omega))) fun a hat => hold_region_end <| hold_seq <| hold_condT (hat.eval (q := .tmp 19) rfl) rfl <| hold_skip <| hold_seq <| hold_block <| hold_seq <| hold_region (l := [0,1]) rfl <| h_val noA hbk slNew_5 rfl rfl (by decide) hat (r_move rfl) fun a hat => ?_
    refine h_val noA hbk slNew_5 rfl rfl (by decide) hat (r_assign rfl) fun a hat => hold_region_end <| hold_seq <| hold_region (l := [0,1,2]) rfl <| h_val noA hbk slNew_6 rfl rfl (by decide) hat (r_move rfl) fun a hat => h_val noA hbk slNew_6 rfl rfl (by decide) hat (r_add rfl rfl (by first | omega | (simp; omega))) fun a hat => h_val noA hbk slNew_6 rfl rfl (by decide) hat (r_assign rfl) fun a hat => hold_region_end <| hold_seq <| hold_seq <| hold_region (l := [0,1,2,3]) rfl <| h_val noA hbk slNew_7 rfl rfl (by decide) hat (r_move rfl) fun a hat => h_val noA hbk slNew_7 rfl rfl (by decide) hat (r_move rfl) fun a hat => ?_
    refine h_val noA hbk slNew_7 rfl rfl (by decide) hat (r_sub rfl rfl (by first | omega | (simp; omega))) fun a hat => ?_
    by_cases hl : i + 1 = N
    · have hto : (0 : Int) = ((slInit N (2 * i + 1) : Nat) : Int) := by unfold slInit; rw [if_neg (by omega), if_pos (by omega), if_pos (by omega)]; rfl
      refine h_val noA hbk slNew_7 rfl (opOk_eq (by kernel_rfl)) (by decide) hat (r_bool (t' := true) (r_eql rfl rfl) (by simp; omega)) fun a hat => hold_region_end <| hold_condT (hat.eval (q := .tmp 26) rfl) rfl <| hold_region (l := [0]) rfl <| h_val noA hbk slNew_8 rfl rfl (by decide) hat (r_assign rfl) fun a hat => hold_region_end <| hold_seq ?_
      have hCs := hSh.c
      refine hold_drawK (ts := [74, 3, 77]) (ord := [0,1,2,3,4,5,6,7,8,9,10,11,12]) (bigs := [7,8,9,12]) (by kernel_rfl) (by kernel_rfl) hat <| tk_val noA hbk slNew_9 rfl rfl rfl (fun v' hk => r_move rfl) <| tk_val noA hbk slNew_9 rfl rfl rfl (fun v' hk => r_move rfl) <| tk_val noA hbk slNew_9 rfl rfl rfl (fun v' hk => r_nil rfl) <| tk_val noA hbk slNew_9 rfl rfl rfl (fun v' hk => r_field fk_81_1 rfl) <| tk_val noA hbk slNew_9 rfl rfl rfl (fun v' hk => r_load ld_79 rfl (cell_at' (hk.same _ _ _ _ hCs (by decide)))) <| tk_val noA hbk slNew_9 rfl rfl rfl (fun v' hk => r_move rfl) <| tk_val noA hbk slNew_9 rfl rfl rfl (fun v' hk => r_move rfl) <| tk_call hbk slNew_9 rfl rfl cellNew_fn cellNew_bd cellNew_nm (vals := #[_, _]) rfl fun c K => cellNew_hold (x0 := 0) hrd hC.w hC.owns (by omega) fun v' cv' B hM hw' ho' hown' hB hB' => ?_
      have nW : ∀ (x : Nat) (arr : Array Value) (t : TypeId) (fr : Nat × Nat), v.heap[x]? = some (.cells arr t fr) → t ≠ 74 → t ≠ 3 → ¬ (x = W ∨ cv.ownBlock = some x) := fun x arr t fr hx h1 h2 h => by
        rcases h with rfl | h
        · rw [hC.w] at hx; cases hx; exact h1 rfl
        · exact own_ne hC.owns hx h2 h
      have hk : KeepT [74, 3, 77] v v' := ⟨hM.size, fun x arr t fr hx ht => hM.at (nW _ _ _ _ hx (fun e => ht (by rw [e]; decide)) (fun e => ht (by rw [e]; decide))) hx⟩
      refine K _ v' hk ?_
      have hrd' := hM.ready hrd
      refine tk_step noA hbk slNew_9 rfl rfl rfl (bs_79_1_0 rfl rfl) (Grow.keepT grow_alloc) ?_
      have hg : Grow v' (v'.alloc (.cells #[.pointer (some ⟨B, 0, none⟩)] 77 (0, 0))) := grow_alloc
      have hat2 : (v'.alloc (.cells #[.pointer (some ⟨B, 0, none⟩)] 77 (0, 0))).heap[v'.heap.size]? = some (.cells #[.pointer (some ⟨B, 0, none⟩)] 77 (0, 0)) := by show (v'.heap.push _)[_]? = _; simp
      generalize v'.alloc (.cells #[.pointer (some ⟨B, 0, none⟩)] 77 (0, 0)) = v2 at hg hat2 ⊢
      have hrd2 := hg.ready hrd'
      have hl2 := ownsRow_keep (w' := v2) hSh.nx fun x y hx hy => (hg.at (hM.at (nW _ _ _ _ hy (by decide) (by decide)) hy)).trans hy.symm
      refine tk_any noA hbk slNew_9 rfl rfl rfl hrd2 (app_runs ek_79 hl2 rfl rfl hat2 rfl (by simp [Value.oneCell']) (by decide) (Nat.le_trans (show _ ≤ 1002 by omega) (by decide)) (by omega)) (fun y w ⟨g, cap, _, hk', _⟩ => ?_) fun y w hQ hrd3 => ?_
      · refine ⟨hk'.1, fun x arr t fr hx ht => (hk'.2 x (lt_of_heap hx) (own_ne hl2 hx fun e => ht (by rw [e]; decide))).trans hx⟩
      obtain ⟨g, cap, rfl, _, hAp⟩ := hQ
      have hAp := hAp hrd3
      refine tk_val noA hbk slNew_9 rfl rfl rfl (fun v' hk => r_nil rfl) <| tk_val noA hbk slNew_9 rfl rfl rfl (fun v' hk => r_field fk_81_1 rfl) ?_
      have kp : ∀ (x : Nat) (arr : Array Value) (t : TypeId) (fr : Nat × Nat), v'.heap[x]? = some (.cells arr t fr) → t ≠ 77 → w.heap[x]? = some (.cells arr t fr) := fun x arr t fr hx ht => (hAp.same x (lt_of_heap (hg.at hx)) (own_ne hl2 (hg.at hx) ht)).trans (hg.at hx)
      have hC3 := kp _ _ _ _ (hk.same _ _ _ _ hCs (by decide)) (by decide)
      refine tk_put noA hbk slNew_9 rfl rfl rfl (by kernel_rfl) (p_store st_79 rfl rfl rfl hC3 rfl rfl) fun v5 hP => ?_
      have hlow := hSh.lows
      obtain ⟨k1, k2, k3, k4, k5, k6, k7, k8⟩ := push_state hC hM hw' ho' hown' hB hB' hg hSh.nx hlow.2.1 hAp hCs hP hlow.1
      have hC5 := hP.at_
      simp only [List.setIfInBounds_toArray, List.set_cons_zero, List.set_cons_succ] at hC5
      have hSh := hSh.next hB hC5 k2 k3 k4 k5 k6 k7 (by rw [← hto]; simpa using k8)
      have hC := k1
      have hrd := hP.ready hrd3
      clear hCs hM hw' ho' hown' hB hB' nW hk hrd' hg hat2 hrd2 hl2 hAp kp hC3 hlow k1 k2 k3 k4 k5 k6 k7 k8 hC5 hP hrd3
      refine tk_end fun a hat => ?_
      have hCs := hSh.c
      refine hold_drawK (ts := [74, 3, 77]) (ord := [0,1,2,3,4,5,6,7,8,9,10,11]) (bigs := [6,7,8,11]) (by kernel_rfl) (by kernel_rfl) hat <| tk_val noA hbk slNew_10 rfl rfl rfl (fun v' hk => r_move rfl) <| tk_val noA hbk slNew_10 rfl rfl rfl (fun v' hk => r_move rfl) <| tk_val noA hbk slNew_10 rfl rfl rfl (fun v' hk => r_nil rfl) <| tk_val noA hbk slNew_10 rfl rfl rfl (fun v' hk => r_field fk_81_2 rfl) <| tk_val noA hbk slNew_10 rfl rfl rfl (fun v' hk => r_load ld_79 rfl (cell_at' (hk.same _ _ _ _ hCs (by decide)))) <| tk_val noA hbk slNew_10 rfl rfl rfl (fun v' hk => r_move rfl) <| tk_call hbk slNew_10 rfl rfl cellNew_fn cellNew_bd cellNew_nm (vals := #[_, _]) rfl fun c K => cellNew_hold (x0 := 0) hrd hC.w hC.owns (by omega) fun v' cw B hM hw' ho' hown' hB hB' => ?_
      have nW : ∀ (x : Nat) (arr : Array Value) (t : TypeId) (fr : Nat × Nat), v5.heap[x]? = some (.cells arr t fr) → t ≠ 74 → t ≠ 3 → ¬ (x = W ∨ cv'.ownBlock = some x) := fun x arr t fr hx h1 h2 h => by
        rcases h with rfl | h
        · rw [hC.w] at hx; cases hx; exact h1 rfl
        · exact own_ne hC.owns hx h2 h
      have hk : KeepT [74, 3, 77] v5 v' := ⟨hM.size, fun x arr t fr hx ht => hM.at (nW _ _ _ _ hx (fun e => ht (by rw [e]; decide)) (fun e => ht (by rw [e]; decide))) hx⟩
      refine K _ v' hk ?_
      have hrd' := hM.ready hrd
      refine tk_step noA hbk slNew_10 rfl rfl rfl (bs_79_1_0 rfl rfl) (Grow.keepT grow_alloc) ?_
      have hg : Grow v' (v'.alloc (.cells #[.pointer (some ⟨B, 0, none⟩)] 77 (0, 0))) := grow_alloc
      have hat2 : (v'.alloc (.cells #[.pointer (some ⟨B, 0, none⟩)] 77 (0, 0))).heap[v'.heap.size]? = some (.cells #[.pointer (some ⟨B, 0, none⟩)] 77 (0, 0)) := by show (v'.heap.push _)[_]? = _; simp
      generalize v'.alloc (.cells #[.pointer (some ⟨B, 0, none⟩)] 77 (0, 0)) = v2 at hg hat2 ⊢
      have hrd2 := hg.ready hrd'
      have hl2 := ownsRow_keep (w' := v2) hSh.us fun x y hx hy => (hg.at (hM.at (nW _ _ _ _ hy (by decide) (by decide)) hy)).trans hy.symm
      refine tk_any noA hbk slNew_10 rfl rfl rfl hrd2 (app_runs ek_79 hl2 rfl rfl hat2 rfl (by simp [Value.oneCell']) (by decide) (Nat.le_trans (show _ ≤ 1002 by omega) (by decide)) (by omega)) (fun y w ⟨g, cap, _, hk', _⟩ => ?_) fun y w hQ hrd3 => ?_
      · refine ⟨hk'.1, fun x arr t fr hx ht => (hk'.2 x (lt_of_heap hx) (own_ne hl2 hx fun e => ht (by rw [e]; decide))).trans hx⟩
      obtain ⟨g, cap, rfl, _, hAp⟩ := hQ
      have hAp := hAp hrd3
      refine tk_val noA hbk slNew_10 rfl rfl rfl (fun v' hk => r_nil rfl) <| tk_val noA hbk slNew_10 rfl rfl rfl (fun v' hk => r_field fk_81_2 rfl) ?_
      have kp : ∀ (x : Nat) (arr : Array Value) (t : TypeId) (fr : Nat × Nat), v'.heap[x]? = some (.cells arr t fr) → t ≠ 77 → w.heap[x]? = some (.cells arr t fr) := fun x arr t fr hx ht => (hAp.same x (lt_of_heap (hg.at hx)) (own_ne hl2 (hg.at hx) ht)).trans (hg.at hx)
      have hC3 := kp _ _ _ _ (hk.same _ _ _ _ hCs (by decide)) (by decide)
      refine tk_put noA hbk slNew_10 rfl rfl rfl (by kernel_rfl) (p_store st_79 rfl rfl rfl hC3 rfl rfl) fun v9 hP => ?_
      have hlow := hSh.lows
      obtain ⟨k1, k2, k3, k4, k5, k6, k7, k8⟩ := push_state hC hM hw' ho' hown' hB hB' hg hSh.us hlow.2.2 hAp hCs hP hlow.1
      have hC5 := hP.at_
      simp only [List.setIfInBounds_toArray, List.set_cons_zero, List.set_cons_succ] at hC5
      have hSh := hSh.used hB hC5 k2 k3 k4 k5 k6 k7 (by rw [show 0 + (2 * i + 1 + 1) = 2 * i + 2 by omega] at k8; exact k8)
      have hC := k1
      have hrd := hP.ready hrd3
      clear hCs hM hw' ho' hown' hB hB' nW hk hrd' hg hat2 hrd2 hl2 hAp kp hC3 hlow k1 k2 k3 k4 k5 k6 k7 k8 hC5 hP hrd3
      refine tk_end fun a hat => hold_inBlock <| hold_region (l := [0,1]) rfl <| h_val noA hbk slNew_11 rfl rfl (by decide) hat (r_add rfl rfl (by first | omega | (simp; omega))) fun a hat => h_val noA hbk slNew_11 rfl rfl (by decide) hat (r_move rfl) fun a hat => hold_region_end <| hold_inLoop ?_
      exact ih (i + 1) _ _ _ _ _ _ (by omega) hrd hC hSh (hat.sub (AtE.cons rfl (AtE.cons rfl (AtE.cons rfl (AtE.cons rfl (AtE.cons rfl (AtE.nil)))))))
    · have hto : ((i : Int) + 2) = ((slInit N (2 * i + 1) : Nat) : Int) := by unfold slInit; rw [if_neg (by omega), if_pos (by omega), if_neg (by omega)]; omega
      refine h_val noA hbk slNew_7 rfl (opOk_eq (by kernel_rfl)) (by decide) hat (r_bool (t' := false) (r_eql rfl rfl) (by simp; omega)) fun a hat => hold_region_end <| hold_condF (hat.eval (q := .tmp 26) rfl) rfl <| hold_skip <| hold_seq ?_
      have hCs := hSh.c
      refine hold_drawK (ts := [74, 3, 77]) (ord := [0,1,2,3,4,5,6,7,8,9,10,11,12]) (bigs := [7,8,9,12]) (by kernel_rfl) (by kernel_rfl) hat <| tk_val noA hbk slNew_9 rfl rfl rfl (fun v' hk => r_move rfl) <| tk_val noA hbk slNew_9 rfl rfl rfl (fun v' hk => r_move rfl) <| tk_val noA hbk slNew_9 rfl rfl rfl (fun v' hk => r_nil rfl) <| tk_val noA hbk slNew_9 rfl rfl rfl (fun v' hk => r_field fk_81_1 rfl) <| tk_val noA hbk slNew_9 rfl rfl rfl (fun v' hk => r_load ld_79 rfl (cell_at' (hk.same _ _ _ _ hCs (by decide)))) <| tk_val noA hbk slNew_9 rfl rfl rfl (fun v' hk => r_move rfl) <| tk_val noA hbk slNew_9 rfl rfl rfl (fun v' hk => r_move rfl) <| tk_call hbk slNew_9 rfl rfl cellNew_fn cellNew_bd cellNew_nm (vals := #[_, _]) rfl fun c K => cellNew_hold (x0 := (i : Int) + 2) hrd hC.w hC.owns (by omega) fun v' cv' B hM hw' ho' hown' hB hB' => ?_
      have nW : ∀ (x : Nat) (arr : Array Value) (t : TypeId) (fr : Nat × Nat), v.heap[x]? = some (.cells arr t fr) → t ≠ 74 → t ≠ 3 → ¬ (x = W ∨ cv.ownBlock = some x) := fun x arr t fr hx h1 h2 h => by
        rcases h with rfl | h
        · rw [hC.w] at hx; cases hx; exact h1 rfl
        · exact own_ne hC.owns hx h2 h
      have hk : KeepT [74, 3, 77] v v' := ⟨hM.size, fun x arr t fr hx ht => hM.at (nW _ _ _ _ hx (fun e => ht (by rw [e]; decide)) (fun e => ht (by rw [e]; decide))) hx⟩
      refine K _ v' hk ?_
      have hrd' := hM.ready hrd
      refine tk_step noA hbk slNew_9 rfl rfl rfl (bs_79_1_0 rfl rfl) (Grow.keepT grow_alloc) ?_
      have hg : Grow v' (v'.alloc (.cells #[.pointer (some ⟨B, 0, none⟩)] 77 (0, 0))) := grow_alloc
      have hat2 : (v'.alloc (.cells #[.pointer (some ⟨B, 0, none⟩)] 77 (0, 0))).heap[v'.heap.size]? = some (.cells #[.pointer (some ⟨B, 0, none⟩)] 77 (0, 0)) := by show (v'.heap.push _)[_]? = _; simp
      generalize v'.alloc (.cells #[.pointer (some ⟨B, 0, none⟩)] 77 (0, 0)) = v2 at hg hat2 ⊢
      have hrd2 := hg.ready hrd'
      have hl2 := ownsRow_keep (w' := v2) hSh.nx fun x y hx hy => (hg.at (hM.at (nW _ _ _ _ hy (by decide) (by decide)) hy)).trans hy.symm
      refine tk_any noA hbk slNew_9 rfl rfl rfl hrd2 (app_runs ek_79 hl2 rfl rfl hat2 rfl (by simp [Value.oneCell']) (by decide) (Nat.le_trans (show _ ≤ 1002 by omega) (by decide)) (by omega)) (fun y w ⟨g, cap, _, hk', _⟩ => ?_) fun y w hQ hrd3 => ?_
      · refine ⟨hk'.1, fun x arr t fr hx ht => (hk'.2 x (lt_of_heap hx) (own_ne hl2 hx fun e => ht (by rw [e]; decide))).trans hx⟩
      obtain ⟨g, cap, rfl, _, hAp⟩ := hQ
      have hAp := hAp hrd3
      refine tk_val noA hbk slNew_9 rfl rfl rfl (fun v' hk => r_nil rfl) <| tk_val noA hbk slNew_9 rfl rfl rfl (fun v' hk => r_field fk_81_1 rfl) ?_
      have kp : ∀ (x : Nat) (arr : Array Value) (t : TypeId) (fr : Nat × Nat), v'.heap[x]? = some (.cells arr t fr) → t ≠ 77 → w.heap[x]? = some (.cells arr t fr) := fun x arr t fr hx ht => (hAp.same x (lt_of_heap (hg.at hx)) (own_ne hl2 (hg.at hx) ht)).trans (hg.at hx)
      have hC3 := kp _ _ _ _ (hk.same _ _ _ _ hCs (by decide)) (by decide)
      refine tk_put noA hbk slNew_9 rfl rfl rfl (by kernel_rfl) (p_store st_79 rfl rfl rfl hC3 rfl rfl) fun v5 hP => ?_
      have hlow := hSh.lows
      obtain ⟨k1, k2, k3, k4, k5, k6, k7, k8⟩ := push_state hC hM hw' ho' hown' hB hB' hg hSh.nx hlow.2.1 hAp hCs hP hlow.1
      have hC5 := hP.at_
      simp only [List.setIfInBounds_toArray, List.set_cons_zero, List.set_cons_succ] at hC5
      have hSh := hSh.next hB hC5 k2 k3 k4 k5 k6 k7 (by rw [← hto]; simpa using k8)
      have hC := k1
      have hrd := hP.ready hrd3
      clear hCs hM hw' ho' hown' hB hB' nW hk hrd' hg hat2 hrd2 hl2 hAp kp hC3 hlow k1 k2 k3 k4 k5 k6 k7 k8 hC5 hP hrd3
      refine tk_end fun a hat => ?_
      have hCs := hSh.c
      refine hold_drawK (ts := [74, 3, 77]) (ord := [0,1,2,3,4,5,6,7,8,9,10,11]) (bigs := [6,7,8,11]) (by kernel_rfl) (by kernel_rfl) hat <| tk_val noA hbk slNew_10 rfl rfl rfl (fun v' hk => r_move rfl) <| tk_val noA hbk slNew_10 rfl rfl rfl (fun v' hk => r_move rfl) <| tk_val noA hbk slNew_10 rfl rfl rfl (fun v' hk => r_nil rfl) <| tk_val noA hbk slNew_10 rfl rfl rfl (fun v' hk => r_field fk_81_2 rfl) <| tk_val noA hbk slNew_10 rfl rfl rfl (fun v' hk => r_load ld_79 rfl (cell_at' (hk.same _ _ _ _ hCs (by decide)))) <| tk_val noA hbk slNew_10 rfl rfl rfl (fun v' hk => r_move rfl) <| tk_call hbk slNew_10 rfl rfl cellNew_fn cellNew_bd cellNew_nm (vals := #[_, _]) rfl fun c K => cellNew_hold (x0 := 0) hrd hC.w hC.owns (by omega) fun v' cw B hM hw' ho' hown' hB hB' => ?_
      have nW : ∀ (x : Nat) (arr : Array Value) (t : TypeId) (fr : Nat × Nat), v5.heap[x]? = some (.cells arr t fr) → t ≠ 74 → t ≠ 3 → ¬ (x = W ∨ cv'.ownBlock = some x) := fun x arr t fr hx h1 h2 h => by
        rcases h with rfl | h
        · rw [hC.w] at hx; cases hx; exact h1 rfl
        · exact own_ne hC.owns hx h2 h
      have hk : KeepT [74, 3, 77] v5 v' := ⟨hM.size, fun x arr t fr hx ht => hM.at (nW _ _ _ _ hx (fun e => ht (by rw [e]; decide)) (fun e => ht (by rw [e]; decide))) hx⟩
      refine K _ v' hk ?_
      have hrd' := hM.ready hrd
      refine tk_step noA hbk slNew_10 rfl rfl rfl (bs_79_1_0 rfl rfl) (Grow.keepT grow_alloc) ?_
      have hg : Grow v' (v'.alloc (.cells #[.pointer (some ⟨B, 0, none⟩)] 77 (0, 0))) := grow_alloc
      have hat2 : (v'.alloc (.cells #[.pointer (some ⟨B, 0, none⟩)] 77 (0, 0))).heap[v'.heap.size]? = some (.cells #[.pointer (some ⟨B, 0, none⟩)] 77 (0, 0)) := by show (v'.heap.push _)[_]? = _; simp
      generalize v'.alloc (.cells #[.pointer (some ⟨B, 0, none⟩)] 77 (0, 0)) = v2 at hg hat2 ⊢
      have hrd2 := hg.ready hrd'
      have hl2 := ownsRow_keep (w' := v2) hSh.us fun x y hx hy => (hg.at (hM.at (nW _ _ _ _ hy (by decide) (by decide)) hy)).trans hy.symm
      refine tk_any noA hbk slNew_10 rfl rfl rfl hrd2 (app_runs ek_79 hl2 rfl rfl hat2 rfl (by simp [Value.oneCell']) (by decide) (Nat.le_trans (show _ ≤ 1002 by omega) (by decide)) (by omega)) (fun y w ⟨g, cap, _, hk', _⟩ => ?_) fun y w hQ hrd3 => ?_
      · refine ⟨hk'.1, fun x arr t fr hx ht => (hk'.2 x (lt_of_heap hx) (own_ne hl2 hx fun e => ht (by rw [e]; decide))).trans hx⟩
      obtain ⟨g, cap, rfl, _, hAp⟩ := hQ
      have hAp := hAp hrd3
      refine tk_val noA hbk slNew_10 rfl rfl rfl (fun v' hk => r_nil rfl) <| tk_val noA hbk slNew_10 rfl rfl rfl (fun v' hk => r_field fk_81_2 rfl) ?_
      have kp : ∀ (x : Nat) (arr : Array Value) (t : TypeId) (fr : Nat × Nat), v'.heap[x]? = some (.cells arr t fr) → t ≠ 77 → w.heap[x]? = some (.cells arr t fr) := fun x arr t fr hx ht => (hAp.same x (lt_of_heap (hg.at hx)) (own_ne hl2 (hg.at hx) ht)).trans (hg.at hx)
      have hC3 := kp _ _ _ _ (hk.same _ _ _ _ hCs (by decide)) (by decide)
      refine tk_put noA hbk slNew_10 rfl rfl rfl (by kernel_rfl) (p_store st_79 rfl rfl rfl hC3 rfl rfl) fun v9 hP => ?_
      have hlow := hSh.lows
      obtain ⟨k1, k2, k3, k4, k5, k6, k7, k8⟩ := push_state hC hM hw' ho' hown' hB hB' hg hSh.us hlow.2.2 hAp hCs hP hlow.1
      have hC5 := hP.at_
      simp only [List.setIfInBounds_toArray, List.set_cons_zero, List.set_cons_succ] at hC5
      have hSh := hSh.used hB hC5 k2 k3 k4 k5 k6 k7 (by rw [show 0 + (2 * i + 1 + 1) = 2 * i + 2 by omega] at k8; exact k8)
      have hC := k1
      have hrd := hP.ready hrd3
      clear hCs hM hw' ho' hown' hB hB' nW hk hrd' hg hat2 hrd2 hl2 hAp kp hC3 hlow k1 k2 k3 k4 k5 k6 k7 k8 hC5 hP hrd3
      refine tk_end fun a hat => hold_inBlock <| hold_region (l := [0,1]) rfl <| h_val noA hbk slNew_11 rfl rfl (by decide) hat (r_add rfl rfl (by first | omega | (simp; omega))) fun a hat => h_val noA hbk slNew_11 rfl rfl (by decide) hat (r_move rfl) fun a hat => hold_region_end <| hold_inLoop ?_
      exact ih (i + 1) _ _ _ _ _ _ (by omega) hrd hC hSh (hat.sub (AtE.cons rfl (AtE.cons rfl (AtE.cons rfl (AtE.cons rfl (AtE.cons rfl (AtE.nil)))))))
/-- How many slots are made. -/
def slMany (n : Int) : Nat := (if 1000 < (if 0 > n then 0 else n) then 1000 else (if 0 > n then 0 else n)).toNat
theorem slMany_is (n : Int) : ((slMany n : Nat) : Int) = if 1000 < (if 0 > n then 0 else n) then 1000 else (if 0 > n then 0 else n) := by unfold slMany; omega
theorem slMany_le (n : Int) : slMany n ≤ 1000 := by unfold slMany; omega
theorem slNew_hold {u : World} {W : Nat} {n : Int} {rv us la cv tv tr st ran ch : Value} (hr : Ready0 u) (hw : u.heap[W]? = some (.cells #[rv, us, la, cv, tv, tr, st, ran, ch] 74 (0, 0))) (hcv : u.ownsRow 0 3 1 cv 0 [])
    (H : ∀ v' cv' C lN lU cb, Ready0 v' → Cells W rv us la tv tr st ran ch cv 0 [] u v' cv' (2 * slMany n + 1) → SlotsIn id u.heap.size (slMany n) v' C lN lU cb (slMany n) 0 → Hold Try.prog main S Stop (G (c.finish (.pointer (some ⟨C, 0, none⟩))) cs) v') :
    Hold Try.prog main S Stop (G (Frame.enter Try.prog 14 #[.pointer (some ⟨W, 0, none⟩), .int .i64 n] .normal) (c :: cs)) u := by
  have hG := Grow.refl u
  obtain ⟨b, a, hEq, hb, hbf, hat⟩ := enter_is slNew_fn slNew_body slNew_tmps #[.pointer (some ⟨W, 0, none⟩), .int .i64 n] [(0, .pointer (some ⟨W, 0, none⟩)), (1, .int .i64 n)] rfl (by simp)
  rw [hEq]
  have hbk := not_early hb
  refine hold_unf slNew_code_def <| hold_seq <| hold_region (l := [0]) rfl <| h_val noA hbk slNew_0 rfl rfl (by decide) hat (r_assign rfl) fun a hat => hold_region_end <| hold_seq <| hold_region (l := [0,1,2,3]) rfl <| h_val noA hbk slNew_1 rfl rfl (by decide) hat (r_move rfl) fun a hat => h_still hbk slNew_1 rfl (by decide) hat (r_max rfl rfl) fun a hat => h_still hbk slNew_1 rfl (by decide) hat (r_min rfl rfl) fun a hat => h_val noA hbk slNew_1 rfl rfl (by decide) hat (r_assign rfl) fun a hat => hold_region_end <| hold_seq ?_
  refine hold_region (l := [0,1,2,3,4,5,6]) rfl <| h_val noA hbk slNew_2 rfl rfl (by decide) hat (r_move rfl) fun a hat => h_val noA hbk slNew_2 rfl rfl (by decide) hat (r_move rfl) fun a hat => ?_
  rw [← slMany_is n] at hat
  have hm := slMany_le n
  generalize slMany n = N at *
  refine h_still hbk slNew_2 rfl (by decide) hat (r_min rfl rfl) fun a hat => h_callc hbk slNew_2 rfl (by decide) hat cellNew_fn cellNew_bd cellNew_nm (vals := #[_, _]) rfl fun c hc => ?_
  have h1 : (if (1 : Int) < (N : Int) then (1 : Int) else (N : Int)) = ((slInit N 0 : Nat) : Int) := by unfold slInit; rw [if_pos rfl]; omega
  rw [h1]
  refine cellNew_hold hr hw hcv (by decide) fun v cv' B hM hw' ho' hown' hB hB' => hold_fin hc fun a hat => ?_
  have hrd' := hM.ready hr
  have hG := Grow.refl v
  refine h_val noA hbk slNew_2 rfl rfl (by decide) hat (bu_81_0 rfl rfl) fun a hat => h_new noA hbk slNew_2 rfl rfl (by decide) hat (bx_81 rfl) fun v a B16 hB16 hsB16 hg F16 hat => ?_
  have gB16 := Nat.le_trans hG.size (Nat.le_of_eq hB16)
  replace hG := hG.trans hg
  refine h_val noA hbk slNew_2 rfl rfl (by decide) hat (r_assign rfl) fun a hat => hold_region_end <| hold_seq <| hold_seq <| hold_region (l := [0,1]) rfl <| h_val noA hbk slNew_3 rfl rfl (by decide) hat (r_move rfl) fun a hat => h_val noA hbk slNew_3 rfl rfl (by decide) hat (r_move rfl) fun a hat => hold_region_end <| hold_block <| hold_loop ?_
  refine slNew_loop hbk hm (fun v a cv2 lN lU cb hrd hC hSh hat => ?_) N 0 v a cv' (.slice none 0 0) (.slice none 0 0) (fun _ => B) (by omega) (hG.ready hrd') ⟨hM.trans hG.mods, hG.at hw', by simpa using owns_grow ho' hG, hown'⟩ ⟨F16, ⟨rfl, .inl ⟨rfl, rfl⟩⟩, ⟨rfl, .inl ⟨rfl, rfl⟩⟩, fun b hb => by (cases hb), ⟨Nat.le_trans hM.size gB16, fun b hb => by (cases hb), fun b hb => by (cases hb)⟩, fun c hc => ?_, fun x y hxy hy => by omega⟩ (hat.sub (AtE.cons rfl (AtE.cons rfl (AtE.cons rfl (AtE.cons rfl (AtE.cons rfl (AtE.nil)))))))
  · skip
    refine hold_seq <| hold_region (l := [0,1]) rfl <| h_val noA hbk slNew_12 rfl rfl (by decide) hat (r_move rfl) fun a hat => h_val noA hbk slNew_12 rfl rfl (by decide) hat (r_assign rfl) fun a hat => hold_region_end <| hold_retd hb hbf slNew_fn hat.defers (ret_one slNew_res hat rfl) ?_
    exact H v cv2 _ lN lU cb hrd hC hSh
  · obtain rfl : c = 0 := by omega
    exact ⟨hB, hG.at hB'⟩
end
end Go.Proofs.Ytecdiejeofclaaa


/- slots.Play, of a new world. -/
namespace Go.Proofs.Ytecdiejeofclaaa
open Go Go.Conc
theorem Hand0.ext {i Bh : Nat} {Γ Γ' : Gho} {u v : World} (h : Hand0 i Bh Γ u) (hX : Ext Γ u Γ' v) : Hand0 i Bh Γ' v :=
  ⟨⟨Nat.lt_of_lt_of_le h.row.1 hX.grow.size, (hX.own _ h.row.1).trans h.row.2⟩, (cell_same (hX.grow.same _ h.row.1)).trans h.cell, (frozen_same (hX.grow.same _ h.row.1)).trans h.open_⟩
theorem Hand0.ans {i Bh : Nat} {Γ Γ' : Gho} {u v : World} (h : Hand0 i Bh Γ u) (hX : AnsOnly i Γ u Γ' v) : Hand0 i Bh Γ' v :=
  ⟨⟨Nat.lt_of_lt_of_le h.row.1 hX.size, (hX.own _ h.row.1).trans h.row.2⟩, (cell_same (hX.mixed _ h.row.1 h.row.2)).trans h.cell, (frozen_same (hX.mixed _ h.row.1 h.row.2)).trans h.open_⟩
/-- All that a script's calls find. -/
def SEnvA (i bx bh Bh nh ch s gN gU cn cu n : Nat) (aN aU : Option Addr) (cbf : Nat → Nat) (l : List ACall) (acc : List (Int × Int)) (Γ : Gho) (v : World) : Prop :=
  PEnv i bx bh Bh nh ch s gN gU cn cu n aN aU cbf (handOf l acc) Γ v ∧ (acc = [] → Hand0 i Bh Γ v)
theorem handOf_nil (l : List ACall) : handOf l [] = [] := by simp [handOf]
section
variable {i : Nat} {Fin : List (Int × Int) → Gho → World → Prop} {bx bh Bh nh ch s gN gU cn cu n : Nat} {aN aU : Option Addr} {cbf : Nat → Nat} {l : List ACall}
theorem SEnvA.stay0 {Γ Γ' : Gho} {v v' : World} (h : SEnvA i bx bh Bh nh ch s gN gU cn cu n aN aU cbf l [] Γ v) (hS : StayC Γ v Γ' v') (h0 : Hand0 i Bh Γ v → Hand0 i Bh Γ' v') : SEnvA i bx bh Bh nh ch s gN gU cn cu n aN aU cbf l [] Γ' v' :=
  ⟨h.1.keep hS (by rw [handOf_nil]; exact (h0 (h.2 rfl)).at), fun _ => h0 (h.2 rfl)⟩
theorem slots_doA (f : Nat) (hl : l.length ≤ 64) (hin : i < nh) : DoSpec i Fin (slotsV bx bh) (fun acc => slotsP f n (handOf l acc)) (SEnvA i bx bh Bh nh ch s gN gU cn cu n aN aU cbf l) l Bh := by
  obtain ⟨f, fn, cap, h1, h2, h3, h4, h5, h6, h7⟩ := slots_do (Fin := Fin) f (bx := bx) (bh := bh) (Bh := Bh) (ch := ch) (s := s) (gN := gN) (gU := gU) (cn := cn) (cu := cu) (n := n) (aN := aN) (aU := aU) (cbf := cbf) hl hin
  refine ⟨f, fn, cap, h1, h2, h3, h4, fun acc Γ v Γ' v' h hR => ⟨h5 _ _ _ _ _ h.1 hR, fun e => (h.2 e).keepU hR.urely⟩, fun acc Γ v Γ' v' h hR => ⟨h6 _ _ _ _ _ h.1 hR, fun e => (h.2 e).ans hR⟩, fun acc x Γ0 v0 Γ A v c cs k hx hW hG hi hE hK => h7 acc x Γ0 v0 Γ A v c cs k hx hW hG hi hE.1 fun r Γ0' v0' Γ' v' A' hR hW' hi' hG' hE' => hK r Γ0' v0' Γ' v' A' hR hW' hi' hG' ⟨hE', fun e => by simp at e⟩⟩
end
open Classical in
/-- Whose is what, where each thread has a cell of its own in a row. -/
noncomputable def ownM (X : Nat → Prop) (H : Nat) : Nat → Own := fun b => if b = H then .mixed else ownOf X b
theorem ownM_sys {X : Nat → Prop} {H b : Nat} (hn : b ≠ H) (h : X b) : ownM X H b = .sys := (if_neg hn).trans (ownOf_sys h)
theorem ownM_const {X : Nat → Prop} {H b : Nat} (hn : b ≠ H) (h : ¬ X b) : ownM X H b = .const := (if_neg hn).trans (ownOf_const h)
theorem ownM_mixed {X : Nat → Prop} {H : Nat} : ownM X H H = .mixed := if_pos rfl
/-- The slots' world, ahead of the run. -/
def slSys (sl : List Int) (N : Nat) : Sys := ⟨sl, 0, -1, List.replicate (2 * N + 1) 0, (List.range (2 * N + 1)).map fun c => (slInit N c : Int), [], false, []⟩
/-- What the threads do. -/
def slProgs (f N n : Nat) (l : Nat → List ACall) : List Prog := (List.range n).map fun i => Prog.callsA (fun acc => slotsP f N (handOf (l i) acc)) false 0 (l i) [] .done
theorem slInit_le {N c : Nat} (hN : N ≤ 1000) : slInit N c ≤ 2 * c + 1000 := by
  unfold slInit
  split
  · omega
  · split
    · split <;> omega
    · omega
theorem r_make1 {P : Program} {v : World} {e : Env} {t te : TypeId} {y z : Value} {bytes : Nat} (ht : P.underlying t = some (.slice te)) (hinfo : (P.info? te).map (fun i => (i.zero, i.size, i.bytes)) = some (some z, 1, bytes)) (hz1 : z.cells = #[y]) {q0 q1 : Operand} {n : Nat} (h0 : opv e q0 = some (.int .i64 (n : Int))) (h1 : opv e q1 = some (.int .i64 (n : Int))) (hb : bytes * n ≤ 281474976710656) (h63 : n ≤ 9223372036854775807) :
    RunsTo P e (.makeSlice t q0 q1) v (.value (.slice (some ⟨v.heap.size, 0, none⟩) n n)) (v.alloc (.cells (madeCells #[y] n) te (0, 0))) := fun ρ o hρ ho tt dd => by
  obtain ⟨i, hi, hzz⟩ := Option.map_eq_some_iff.1 hinfo
  simp only [Prod.mk.injEq] at hzz
  obtain ⟨hz, hs, hbb⟩ := hzz
  have hb' : (i.bytes : Int) * (n : Int) ≤ 281474976710656 := by
    have h : ((i.bytes * n : Nat) : Int) ≤ 281474976710656 := by rw [hbb]; omega
    rwa [Int.natCast_mul] at h
  have hr := run_make (P := P) (v.re tt dd) t te i z ht hi hz .i64 .i64 n n (by omega) (Int.le_refl _) hb' (by omega)
  simp only [Int.toNat_natCast, hs, Nat.mul_one, hz1] at hr
  simp only [execOp, ho, hρ _ _ h0, hρ _ _ h1]
  exact run_then hr rfl
section
variable {Done : Goroutine → World → Prop}
theorem slPlay_run {u : World} {W ch N0 : Nat} {rv : Value} {sl : List Int} (hr : Ready0 u) (hN : NewW u W ch rv sl) (hsl : (∀ x ∈ sl, -9223372036854775808 ≤ x ∧ x ≤ 9223372036854775807) ∧ sl.length < 2 ^ 62) (hN0 : 0 < N0) {I : Inbs} (hI : ∀ x, x ≠ 0 → I x = none) {sh : Int} {sv : Value} {n : Nat} {lv : Nat → Value} {l : Nat → List ACall}
    (hS : Scripts u sv n lv fun j => (l j).length) (hsv : ∃ ad cp, sv = .slice ad n cp) (hsb : 0 < n → ∀ B O cp, sv = .slice (some ⟨B, O, none⟩) n cp → ¬ wordsOf W ch rv B) (hscr : ∀ j, j < n → ScrAt (wordsOf W ch rv) u (lv j) (l j)) {c0 : Frame} {cs : List Frame}
    (he : ∀ v', Grow u v' → mayE n (fun j => (l j).length) false ≠ 0 → Run Try.prog Done S0 0 N0 I (G (c0.finish (.tuple #[.slice none 0 0, .int .i64 (mayE n (fun j => (l j).length) false)])) cs) v')
    (hbad : ∀ v', Grow u v' → mayE n (fun j => (l j).length) false = 0 → (sh < 0 ∨ 1000 < sh) → Run Try.prog Done S0 0 N0 I (G (c0.finish (.tuple #[.slice none 0 0, .int .i64 1])) cs) v')
    {fu f : Nat} (hrun : mayE n (fun j => (l j).length) false = 0 → 0 ≤ sh → sh ≤ 1000 → ∃ res, runs f (slSys sl sh.toNat) (slProgs fu sh.toNat n l) = some res ∧
      ∀ Γ' v' I' ob, WI Γ' res.1 v' → (∀ x, x ≠ 0 → I' x = none) → res.2.length = n → (∀ i r, res.2[i]? = some r → FinOut i ob r Γ' v') → (∀ b, b < u.heap.size → ¬ wordsOf W ch rv b → v'.heap[b]? = u.heap[b]?) → Γ'.W = W → u.heap.size ≤ ob →
        Run Try.prog Done S0 0 (N0 + n) I' (G (c0.finish (.tuple #[.slice (some ⟨ob, 0, none⟩) n n, .int .i64 0])) cs) v') :
    Run Try.prog Done S0 0 N0 I (G (Frame.enter Try.prog 11 #[.pointer (some ⟨W, 0, none⟩), .int .i64 sh, sv] .normal) (c0 :: cs)) u := by
  obtain ⟨ad, cp, rfl⟩ := hsv
  have hw := hN.w
  refine Run.of_hold ?_
  obtain ⟨b, a, hEq, hb, hbf, hat⟩ := enter_is slPlay_fn slPlay_body slPlay_tmps #[.pointer (some ⟨W, 0, none⟩), .int .i64 sh, .slice ad n cp] [(0, .pointer (some ⟨W, 0, none⟩)), (1, .int .i64 sh), (2, .slice ad n cp)] rfl (by simp)
  rw [hEq]
  have hbk := not_early hb
  refine hold_unf slPlay_code_def <| hold_seq <| hold_region (l := [0,1]) rfl <| h_val noA hbk slPlay_0 rfl rfl (by decide) hat (r_assign rfl) fun a hat => h_val noA hbk slPlay_0 rfl rfl (by decide) hat (r_assign rfl) fun a hat => hold_region_end <| hold_seq <| hold_seq <| hold_region (l := [0,1,2,3]) rfl <| h_val noA hbk slPlay_1 rfl rfl (by decide) hat (r_move rfl) fun a hat => h_val noA hbk slPlay_1 rfl rfl (by decide) hat (r_move rfl) fun a hat => h_callc hbk slPlay_1 rfl (by decide) hat May_fn May_bd May_nm (vals := #[_, _, _]) rfl fun c hc => May_hold hw rfl hS ⟨_, _, rfl⟩ fun v hg0 => ?_
  refine hold_fin hc fun a hat => h_val noA hbk slPlay_1 rfl rfl (by decide) hat (r_assign rfl) fun a hat => hold_region_end <| hold_seq <| hold_region (l := [0,1]) rfl <| h_val noA hbk slPlay_2 rfl rfl (by decide) hat (r_move rfl) fun a hat => ?_
  by_cases h0 : mayE n (fun j => (l j).length) false = 0
  rotate_left
  · refine h_val noA hbk slPlay_2 rfl (opOk_eq (by kernel_rfl)) (by decide) hat (r_bool (t' := true) (r_neq rfl rfl) (by simpa using h0)) fun a hat => hold_region_end <| hold_condT (hat.eval (q := .tmp 15) rfl) rfl <| hold_seq <| hold_region (l := [0,1,2]) rfl <| h_val noA hbk slPlay_3 rfl rfl (by decide) hat (r_move rfl) fun a hat => h_val noA hbk slPlay_3 rfl rfl (by decide) hat (r_assign rfl) fun a hat => h_val noA hbk slPlay_3 rfl rfl (by decide) hat (r_assign rfl) fun a hat => hold_region_end <| hold_retd hb hbf slPlay_fn hat.defers (ret_two slPlay_res hat rfl rfl) ?_
    exact hold_run (he _ hg0 h0)
  refine h_val noA hbk slPlay_2 rfl (opOk_eq (by kernel_rfl)) (by decide) hat (r_bool (t' := false) (r_neq rfl rfl) (by simpa using h0)) fun a hat => hold_region_end <| hold_condF (hat.eval (q := .tmp 15) rfl) rfl <| hold_skip <| hold_seq <| hold_seq <| hold_region (l := [0,1,2,3,4,5]) rfl <| h_val noA hbk slPlay_4 rfl rfl (by decide) hat (r_move rfl) fun a hat => ?_
  by_cases h1 : sh < 0
  · refine h_val noA hbk slPlay_4 rfl rfl (by decide) hat (r_bool (t' := true) (r_lss rfl rfl) (by simp; omega)) fun a hat => h_val noA hbk slPlay_4 rfl rfl (by decide) hat (r_move rfl) fun a hat => hg_no slPlay_4 rfl rfl rfl rfl (by decide) hat fun a hat => hg_no slPlay_4 rfl rfl rfl rfl (by decide) hat fun a hat => h_val noA hbk slPlay_4 rfl rfl (by decide) hat (r_pick rfl rfl) fun a hat => hold_region_end <| hold_condT (hat.eval (q := .tmp 22) rfl) rfl <| hold_seq <| hold_region (l := [0,1]) rfl <| h_val noA hbk slPlay_5 rfl rfl (by decide) hat (r_assign rfl) fun a hat => h_val noA hbk slPlay_5 rfl rfl (by decide) hat (r_assign rfl) fun a hat => hold_region_end <| hold_retd hb hbf slPlay_fn hat.defers (ret_two slPlay_res hat rfl rfl) ?_
    exact hold_run (hbad _ hg0 h0 (.inl h1))
  refine h_val noA hbk slPlay_4 rfl rfl (by decide) hat (r_bool (t' := false) (r_lss rfl rfl) (by simp; omega)) fun a hat => h_val noA hbk slPlay_4 rfl rfl (by decide) hat (r_move rfl) fun a hat => hg_yes noA hbk slPlay_4 rfl rfl rfl rfl (by decide) hat (r_move rfl) fun a hat => ?_
  by_cases h2 : 1000 < sh
  · refine hg_yes noA hbk slPlay_4 rfl rfl rfl rfl (by decide) hat (r_bool (t' := true) (r_gtr rfl rfl) (by simp; omega)) fun a hat => h_val noA hbk slPlay_4 rfl rfl (by decide) hat (r_pick rfl rfl) fun a hat => hold_region_end <| hold_condT (hat.eval (q := .tmp 22) rfl) rfl <| hold_seq <| hold_region (l := [0,1]) rfl <| h_val noA hbk slPlay_5 rfl rfl (by decide) hat (r_assign rfl) fun a hat => h_val noA hbk slPlay_5 rfl rfl (by decide) hat (r_assign rfl) fun a hat => hold_region_end <| hold_retd hb hbf slPlay_fn hat.defers (ret_two slPlay_res hat rfl rfl) ?_
    exact hold_run (hbad _ hg0 h0 (.inr h2))
  refine hg_yes noA hbk slPlay_4 rfl rfl rfl rfl (by decide) hat (r_bool (t' := false) (r_gtr rfl rfl) (by simp; omega)) fun a hat => h_val noA hbk slPlay_4 rfl rfl (by decide) hat (r_pick rfl rfl) fun a hat => hold_region_end <| hold_condF (hat.eval (q := .tmp 22) rfl) rfl <| hold_skip <| hold_seq <| hold_region (l := [0,1,2,3,4]) rfl <| h_val noA hbk slPlay_6 rfl rfl (by decide) hat (r_move rfl) fun a hat => h_val noA hbk slPlay_6 rfl rfl (by decide) hat (r_move rfl) fun a hat => h_callc hbk slPlay_6 rfl (by decide) hat slNew_fn slNew_bd slNew_nm (vals := #[_, _]) rfl fun c hc => slNew_hold (hg0.ready hr) (hg0.at hw) sim_rows fun v cv C lN lU cb hr2 hC hSh => hold_fin hc fun a hat => ?_
  have hG := Grow.refl v
  have hn8 : 1 ≤ n ∧ n ≤ 8 := by
    unfold mayE at h0
    split at h0
    · cases h0
    · split at h0
      · cases h0
      · omega
  refine h_new noA hbk slPlay_6 rfl rfl (by decide) hat al_43 fun v a B9 hB9 hsB9 hg F9 hat => ?_
  have gB9 := Nat.le_trans hG.size (Nat.le_of_eq hB9)
  replace hG := hG.trans hg
  refine h_put noA hbk slPlay_6 rfl rfl hat (p_store st_43 rfl rfl rfl F9 rfl rfl) fun v a hP F9x hat => ?_
  simp only [List.setIfInBounds_toArray, List.set_cons_succ, List.set_cons_zero] at F9x
  replace hG := hG.put hP gB9
  replace F9 := F9x; clear F9x
  refine hold_region_end <| hold_seq <| hold_region (l := [0,1,2,3,4]) rfl <| h_val noA hbk slPlay_7 rfl rfl (by decide) hat (r_move rfl) fun a hat => h_val noA hbk slPlay_7 rfl rfl (by decide) hat (r_len lk_26 rfl) fun a hat => h_news noA hbk slPlay_7 rfl rfl (by decide) hat (r_make1 Try.underlying63 (y := .slice none 0 0) (z := .agg #[.slice none 0 0]) (bytes := 24) (by kernel_rfl) rfl rfl rfl (by omega) (by omega)) fun v a B28 hB28 hsB28 hg F28 hat => ?_
  have n_F28_F9 := ne_new F9 hB28
  have gB28 := Nat.le_trans hG.size (Nat.le_of_eq hB28)
  replace hG := hG.trans hg
  replace F9 := hg.at F9
  refine h_new noA hbk slPlay_7 rfl rfl (by decide) hat al_63 fun v a B10 hB10 hsB10 hg F10 hat => ?_
  have n_F10_F9 := ne_new F9 hB10
  have n_F10_F28 := ne_new F28 hB10
  have gB10 := Nat.le_trans hG.size (Nat.le_of_eq hB10)
  replace hG := hG.trans hg
  replace F9 := hg.at F9
  replace F28 := hg.at F28
  refine h_put noA hbk slPlay_7 rfl rfl hat (p_store st_63 rfl rfl rfl F10 rfl rfl) fun v a hP F10x hat => ?_
  simp only [List.setIfInBounds_toArray, List.set_cons_succ, List.set_cons_zero] at F10x
  replace F9 := hP.keep (by first | exact n_F10_F9 | exact n_F9_F10.symm | exact ne_of_types F9 F10 (by decide) | omega) F9
  replace F28 := hP.keep (by first | exact n_F10_F28 | exact n_F28_F10.symm | exact ne_of_types F28 F10 (by decide) | omega) F28
  replace hG := hG.put hP gB10
  replace F10 := F10x; clear F10x
  refine hold_region_end <| hold_seq <| hold_region (l := [0,1,2,3,4,5]) rfl <| h_val noA hbk slPlay_8 rfl rfl (by decide) hat (r_move rfl) fun a hat => h_val noA hbk slPlay_8 rfl rfl (by decide) hat (r_move rfl) fun a hat => h_val noA hbk slPlay_8 rfl rfl (by decide) hat (mf_26_2 rfl rfl) fun a hat => h_callc hbk slPlay_8 rfl (by decide) hat PRun_fn PRun_bd PRun_nm (vals := #[_, _, _]) rfl fun c hc => ?_
  have hm : slMany sh = sh.toNat := by unfold slMany; omega
  rw [hm] at hC hSh
  obtain ⟨res, hres, K⟩ := hrun h0 (by omega) (by omega)
  have hN1 : sh.toNat ≤ 1000 := by omega
  generalize hmm : sh.toNat = N at *
  clear hm
  generalize hBH : B28 = BH at *
  have hCw := hG.at hC.w
  have hCo := owns_grow hC.owns hG
  simp only [Nat.zero_add, List.nil_append] at hCo
  have hc3 := hG.at hSh.c
  have hnx := owns_grow hSh.nx hG
  have hus := owns_grow hSh.us hG
  simp only [Nat.add_zero] at hnx
  have hmods : Mods (fun b => b = W) u v := hg0.mods.trans ((hC.mods.mono fun b _ h => h.resolve_right fun h => by cases h).trans hG.mods)
  have hsz1 : u.heap.size ≤ _ := Nat.le_trans hg0.size hC.mods.size
  have hchW : ch ≠ W := fun e => by have := hN.c; rw [e, hw] at this; cases this
  have hch3 : v.heap[ch]? = some (.chan 0 #[] false 0 0 false) := hmods.at hchW hN.c
  have hrvW := own_ne hN.owns hw (by decide)
  have hrv3 : v.ownsRow 0 3 1 rv sl.length (ints sl) := ownsRow_keep hN.owns fun b c' hb hc' => (hmods.same b (lt_of_heap hc') fun e => hrvW (by rw [hb, e]))
  have hcells : ∀ j, j < 2 * N + 1 → u.heap.size ≤ cb j ∧ v.heap[cb j]? = some (.cells #[.int .i64 j, .int .i64 (slInit N j : Nat)] 100 (0, 0)) := fun j hj => by
    obtain ⟨c1, c2⟩ := hSh.cells j hj
    exact ⟨Nat.le_trans hg0.size c1, hG.at c2⟩
  have hcvn : cv.ownBlock = none ∨ ∀ b, cv.ownBlock = some b → u.heap.size ≤ b := hC.where_.imp id fun h b hb => Nat.le_trans hg0.size (h b hb)
  have hrd3 := hG.ready hr2
  obtain ⟨X, hXX⟩ : ∃ X : Nat → Prop, ∀ b, X b ↔ (wordsOf W ch rv b ∨ cv.ownBlock = some b ∨ ∃ j, j < 2 * N + 1 ∧ b = cb j) := ⟨_, fun _ => Iff.rfl⟩
  have hX1 : ∀ b, b < u.heap.size → X b → wordsOf W ch rv b := fun b hb h => by
    rcases (hXX b).1 h with h | h | ⟨j, hj, rfl⟩
    · exact h
    · rcases hcvn with h' | h'
      · rw [h'] at h; cases h
      · have := h' b h; omega
    · have := (hcells j hj).1; omega
  have hX2 : ∀ (b : Nat) (arr : Array Value) (t : TypeId) (fr : Nat × Nat), v.heap[b]? = some (.cells arr t fr) → t ≠ 74 → t ≠ 3 → t ≠ 100 → ¬ X b := fun b arr t fr hb n1 n2 n3 h => by
    rcases (hXX b).1 h with (rfl | rfl | h) | h | ⟨j, hj, rfl⟩
    · rw [hCw] at hb; cases hb; exact n1 rfl
    · rw [hch3] at hb; cases hb
    · exact own_ne hrv3 hb n2 h
    · exact own_ne hCo hb n2 h
    · rw [(hcells j hj).2] at hb; cases hb; exact n3 rfl
  have hltW := lt_of_heap hCw
  have hBHs : u.heap.size ≤ BH := Nat.le_trans hsz1 gB28
  have hBHX : ∀ b, X b → b ≠ BH := fun b h e => hX2 _ _ _ _ F28 (by decide) (by decide) (by decide) (e ▸ h)
  have hsX : ∀ b, wordsOf W ch rv b ∨ cv.ownBlock = some b ∨ (∃ j, j < 2 * N + 1 ∧ b = cb j) → ownM X BH b = .sys := fun b h => ownM_sys (hBHX b ((hXX b).2 h)) ((hXX b).2 h)
  have hcX : ∀ (b : Nat) (arr : Array Value) (t : TypeId) (fr : Nat × Nat), v.heap[b]? = some (.cells arr t fr) → t ≠ 74 → t ≠ 3 → t ≠ 100 → t ≠ 68 → ownM X BH b = .const := fun b arr t fr hb n1 n2 n3 n4 => ownM_const (fun e => by rw [e, F28] at hb; cases hb; exact n4 rfl) (hX2 b arr t fr hb n1 n2 n3)
  have hcvW := own_ne hCo hCw (by decide)
  have hWN : WNew ⟨W, ch, N0, fun _ => 0, fun _ => 0, cb, 2 * N + 1, ownM X BH⟩ (slSys sl N) v := by
    refine ⟨rv, .int .i64 0, .int .i64 (-1), cv, .slice none 0 0, .slice none 0 0, .bool false, hCw, ⟨fun r x y hr => ?_, ⟨rv, cv, .slice none 0 0, .slice none 0 0, stand_at hltW, ownsRow_keep hrv3 fun b _ hb hb' => stand_ne fun e => ?_, ?_, ⟨rfl, .inl ⟨rfl, rfl⟩⟩, ⟨rfl, .inl ⟨rfl, rfl⟩⟩, fun b hb => hsX b (.inl (.inr (.inr hb))), fun b hb => hsX b (.inr (.inl hb)), fun b hb => by (cases hb), fun b hb => by (cases hb), ?_⟩, fun j t h => by simp [slSys] at h, ⟨⟨0, (stand_ne hchW).trans hch3⟩, hsX _ (.inl (.inr (.inl rfl))), hsX _ (.inl (.inl rfl))⟩, fun c x hc => ?_, Nat.zero_le _, fun x hx => ?_, fun i j hi => by simp [slSys] at hi, fun i hi => by simp [slSys] at hi, by simp [slSys], fun x hx => ?_⟩⟩
    · by_cases e : r = W
      · rw [e, stand_at hltW] at hr; cases hr
      · rw [stand_ne e] at hr; exact hrd3 r x y hr
    · exact own_ne hrv3 hCw (by decide) (by rw [hb, e])
    · have e0 : (slSys sl N).cnt.length = 2 * N + 1 := by simp [slSys]
      have e1 : ints (slSys sl N).cnt = List.replicate (2 * N + 1) (.int .i64 0) := by simp [slSys, ints]
      rw [e0, e1]
      exact ownsRow_keep hCo fun b _ hb hb' => stand_ne fun e => hcvW (by rw [hb, e])
    · rcases hcvn with h | h
      · by_cases e : rv.ownBlock = none
        · exact .inl e
        · right; rw [h]; exact e
      · by_cases e : rv.ownBlock = none
        · exact .inl e
        · right
          intro e2
          obtain ⟨b, hb⟩ := Option.ne_none_iff_exists'.1 e
          have := own_lt hN.owns hb
          have := h b (by rw [← e2]; exact hb)
          omega
    · have hcm : c < 2 * N + 1 := by have := (List.getElem?_eq_some_iff.1 hc).1; simpa [slSys] using this
      have hx0 : x = (slInit N c : Nat) := by
        simp only [slSys, List.getElem?_map, List.getElem?_range hcm, Option.map_some, Option.some.injEq] at hc
        exact hc.symm
      subst hx0
      obtain ⟨c1, c2⟩ := hcells c hcm
      exact ⟨(stand_ne fun (e : cb c = W) => by rw [e, hCw] at c2; injection c2 with c2; injection c2 with q1 q2; exact absurd q2 (by decide)).trans c2, hsX _ (.inr (.inr ⟨c, hcm, rfl⟩))⟩
    · simp [slSys] at hx; rw [hx]; decide
    · simp only [slSys, List.mem_map, List.mem_range] at hx
      obtain ⟨c, hc, rfl⟩ := hx
      have := slInit_le (N := N) (c := c) hN1
      omega
  have hlow : ∀ j, j < 2 * N + 1 → cb j < v.heap.size := fun j hj => lt_of_heap (hcells j hj).2
  have hSE : ∃ gN gU cn cu aN aU, SEnv C gN gU cn cu N aN aU cb ⟨W, ch, N0, fun _ => 0, fun _ => 0, cb, 2 * N + 1, ownM X BH⟩ v := by
    have row : ∀ (lv : Value) (f : Nat → Nat), v.ownsRow 0 77 1 lv N (cRow f N) → ∃ g c a, lv = .slice a N c ∧ (0 < N → a = some ⟨g, 0, none⟩ ∧ CRow g N f ⟨W, ch, N0, fun _ => 0, fun _ => 0, cb, 2 * N + 1, ownM X BH⟩ v) := fun lv f h => by
      rcases h.2 with ⟨rfl, h0⟩ | ⟨g, cap', cur, rfl, _, hg', hcap, hcapm, hsz, htk⟩
      · exact ⟨0, 0, none, by rw [h0], fun h => by omega⟩
      · refine ⟨g, cap', _, rfl, fun _ => ⟨rfl, ⟨cur, _, hg', fun j hj => ?_⟩, hcX _ _ _ _ hg' (by decide) (by decide) (by decide) (by decide)⟩⟩
        have h1 : (cur.toList.take (N * 1))[j]? = some (.pointer (some ⟨f j, 0, none⟩)) := by rw [htk]; simp [cRow, hj]
        rw [List.getElem?_take_of_lt (by omega)] at h1
        simpa using h1
    obtain ⟨gN, cn, aN, rfl, hN'⟩ := row _ _ hnx
    obtain ⟨gU, cu, aU, rfl, hU'⟩ := row _ _ hus
    exact ⟨gN, gU, cn, cu, aN, aU, ⟨hc3, hcX _ _ _ _ hc3 (by decide) (by decide) (by decide) (by decide)⟩, hN', hU', fun c hc => ⟨rfl, hlow c hc⟩, hN1, Nat.le_refl _⟩
  obtain ⟨gN, gU, cn, cu, aN, aU, hSE⟩ := hSE
  have hHand : ∀ i, i < n → Hand0 i BH ⟨W, ch, N0, fun _ => 0, fun _ => 0, cb, 2 * N + 1, ownM X BH⟩ v := fun i hi => ⟨⟨lt_of_heap F28, ownM_mixed⟩, (cell_at' F28).trans (madeCells_get _ _ _ hi), by rw [frozen_at' F28]; simp⟩
  have hCE : ∀ i, i < n → SEnvA i B9 B10 BH n n C gN gU cn cu N aN aU cb (l i) [] ⟨W, ch, N0, fun _ => 0, fun _ => 0, cb, 2 * N + 1, ownM X BH⟩ v := fun i hi =>
    ⟨⟨⟨F9, hcX _ _ _ _ F9 (by decide) (by decide) (by decide) (by decide)⟩, ⟨F10, hcX _ _ _ _ F10 (by decide) (by decide) (by decide) (by decide)⟩, hSE, by rw [handOf_nil]; exact (hHand i hi).at⟩, fun _ => hHand i hi⟩
  have hlen : ∀ j, j < n → (l j).length ≤ 64 := fun j hj => by
    unfold mayE at h0
    split at h0
    · cases h0
    · rename_i hno
      by_cases h : (l j).length ≤ 64
      · exact h
      · exact absurd ⟨j, hj, (by show 64 < (l j).length; omega)⟩ hno
  obtain ⟨ad', cp', hsve, hat0⟩ := hS.at_
  cases hsve
  obtain ⟨sb, so, rfl, _⟩ := hat0 0 (by omega)
  have hsbW := hsb (by omega) sb so cp rfl
  have hkeep : ∀ b, b < u.heap.size → ¬ wordsOf W ch rv b → v.heap[b]? = u.heap[b]? := fun b hb hx => hmods.same b hb fun e => hx (.inl e)
  have hkc : ∀ B O x, u.cell? ⟨B, O, none⟩ = some x → ¬ wordsOf W ch rv B → v.cell? ⟨B, O, none⟩ = some x := fun B O x hx hn => (cell_same (hkeep B (cell_low hx) hn)).trans hx
  refine hold_run (PRun_run (Γ := ⟨W, ch, N0, fun _ => 0, fun _ => 0, cb, 2 * N + 1, ownM X BH⟩) ⟨n, fun _ => 0, fun _ => 0, 0, 0, 0, lv, slotsV B9 B10, fun i acc => slotsP fu N (handOf (l i) acc), l, fun i => SEnvA i B9 B10 BH n n C gN gU cn cu N aN aU cb (l i), BH⟩ (by show 0 < n; omega) (by show n ≤ 1000; omega) (fun ob i hi => slots_doA fu (hlen i hi) hi) (fun i Γ v Γ' v' h hR => h.stay0 hR.stay fun h => h.keepU hR) rfl hWN rfl ⟨hsl.1, hsl.2⟩ hN0 hI (lt_of_heap F28) (fun i Γ' v' hi hX => (hCE i hi).stay0 hX.stay fun h => h.ext hX) (fun j hj => ?_) (fun j hj => ?_) hres c (c0 :: cs) fun Γ' v' I' ob hWI hI' hlr hfin hM hob => ?_)
  · obtain ⟨B, O, e1, e2⟩ := hat0 j hj
    cases e1
    exact hkc _ _ _ e2 hsbW
  · obtain ⟨a', cap', e1, e2⟩ := hscr j hj
    refine ⟨a', cap', e1, hlen j hj, fun x y hx => ?_⟩
    obtain ⟨B, O, g1, g2, g3, g4, g5, g6, g7⟩ := e2 x y hx
    exact ⟨B, O, g1, Nat.lt_of_lt_of_le g2 hmods.size, ownM_const (by omega) fun h => g3 (hX1 B g2 h), hkc _ _ _ g4 g3, hkc _ _ _ g5 g3, hkc _ _ _ g6 g3, hkc _ _ _ g7 g3⟩
  · refine Run.of_hold <| hold_fin hc fun a hat => h_val noA hbk slPlay_8 rfl rfl (by decide) hat (r_assign rfl) fun a hat => h_val noA hbk slPlay_8 rfl rfl (by decide) hat (r_assign rfl) fun a hat => hold_region_end <| hold_retd hb hbf slPlay_fn hat.defers (ret_two slPlay_res hat rfl rfl) ?_
    exact hold_run (K Γ' v' I' ob hWI hI' hlr hfin (fun b hb hx => (hM.keep b (Nat.lt_of_lt_of_le hb hmods.size) (.inr (ownM_const (by omega) fun h => hx (hX1 b hb h)))).trans (hkeep b hb hx)) hM.same.1 (Nat.le_trans hmods.size hob))
end
end Go.Proofs.Ytecdiejeofclaaa


/- Plain: a run comes to an end, and keeps what each go keeps. -/
namespace Go.Proofs.Ytecdiejeofclaaa
open Go
/-- What a thread's going comes to, limits left aside. -/
def Prog.wp (i : Nat) : Prog → Sys → (Sys → Left → Prop) → Prop
  | .done r, A, Q => Q (A.setSt i 3) (.inr r)
  | .out, _, _ => False
  | .wait st op c k, A, Q => Q (A.park i st op c) (.inl k)
  | .rd c k, A, Q => (k (A.get c)).wp i A Q
  | .wr c x k, A, Q => k.wp i (A.put c x) Q
  | .note op c a b k, A, Q => k.wp i (A.note i op c a b) Q
  | .bump c k, A, Q => k.wp i (A.bump c) Q
  | .stk k, A, Q => (k A.stuck).wp i A Q
/-- So many stops and notes at most. -/
def Prog.bd : Prog → Nat → Prop
  | .done _, _ => True
  | .out, _ => True
  | .wait _ _ _ k, n => ∃ m, n = m + 1 ∧ k.bd m
  | .rd _ k, n => ∀ x, (k x).bd n
  | .wr _ _ k, n => k.bd n
  | .note _ _ _ _ k, n => ∃ m, n = m + 1 ∧ k.bd m
  | .bump _ k, n => ∃ m, n = m + 1 ∧ k.bd m
  | .stk k, n => ∀ b, (k b).bd n
/-- A left one, and its weight. -/
def Left.wt : Left → Nat → Prop
  | .inl k, b => ∃ n, b = n + 1 ∧ k.bd n
  | .inr _, _ => True
/-- All that are left, and their weights. -/
def Wts (ps : List Left) (bs : List Nat) : Prop := bs.length = ps.length ∧ ∀ (i : Nat) (q : Left) (b : Nat), ps[i]? = some q → bs[i]? = some b → Left.wt q b
theorem Wts.set {ps : List Left} {bs : List Nat} (h : Wts ps bs) {j : Nat} {q : Left} {b : Nat} (hq : Left.wt q b) : Wts (ps.set j q) (bs.set j b) := by
  refine ⟨by simpa using h.1, fun i q' b' h1 h2 => ?_⟩
  rw [List.getElem?_set] at h1 h2
  by_cases e : j = i
  · simp only [e, if_true] at h1 h2
    split at h1
    · split at h2
      · cases h1; cases h2; exact hq
      · cases h2
    · cases h1
  · simp only [e, if_false] at h1 h2
    exact h.2 i q' b' h1 h2
section
variable {N : Nat} {Inv : Sys → List Left → Prop}
  (hEnd : ∀ A ps, Inv A ps → ps.length = N → A.ths.length = N → A.readyL = [] → A.waits = false → ∀ q ∈ ps, ∃ r, q = .inr r)
  (hStk : ∀ A ps, Inv A ps → ps.length = N → A.ths.length = N → A.readyL = [] → A.waits = true → A.stuck = false → Inv A.setStuck ps)
  (hGo : ∀ A ps x l, Inv A ps → ps.length = N → A.ths.length = N → A.readyL = x :: l → ∃ k, ps[(A.pick (x :: l)).1]? = some (.inl k) ∧
    k.wp (A.pick (x :: l)).1 ((A.pick (x :: l)).2.letGo (A.pick (x :: l)).1) fun A' q => Inv A' (ps.set (A.pick (x :: l)).1 q))
include hEnd hStk hGo
end
end Go.Proofs.Ytecdiejeofclaaa


/- Plain: a run of threads that never await. -/
namespace Go.Proofs.Ytecdiejeofclaaa
open Go
structure Mem where
  vals : List Int
  cnt : List Int
  trace : List TStep
namespace Mem
def get (M : Mem) (c : Nat) : Int := (M.vals[c]?).getD 0
def put (M : Mem) (c : Nat) (x : Int) : Mem := { M with vals := M.vals.set c x }
def note (M : Mem) (i : Int) (op c a b : Int) : Mem := { M with trace := M.trace ++ [⟨i, c, op, a, b⟩] }
def bump (M : Mem) (c : Nat) : Mem := { M with cnt := M.cnt.modify c (· + 1) }
end Mem
def Sys.mem (A : Sys) : Mem := ⟨A.vals, A.cnt, A.trace⟩
end Go.Proofs.Ytecdiejeofclaaa


/- Plain: bounds of processes; a run of one thread alone. -/
namespace Go.Proofs.Ytecdiejeofclaaa
open Go
/-- What a thread alone comes to. -/
def Prog.ev : Prog → Mem → (Mem → Answers → Prop) → Prop
  | .done r, M, Q => Q M r
  | .out, _, _ => False
  | .wait st _ _ k, M, Q => st = 1 ∧ k.ev M Q
  | .rd c k, M, Q => (k (M.get c)).ev M Q
  | .wr c x k, M, Q => k.ev (M.put c x) Q
  | .note op c a b k, M, Q => k.ev (M.note 0 op c a b) Q
  | .bump c k, M, Q => k.ev (M.bump c) Q
  | .stk k, M, Q => (k false).ev M Q
end Go.Proofs.Ytecdiejeofclaaa


/- Plain: slots, by one thread alone. -/
namespace Go.Proofs.Ytecdiejeofclaaa
open Go
theorem low32 (n : Nat) : getN n 0 32 = n % 4294967296 := by unfold getN; rw [Nat.pow_zero, Nat.div_one]
theorem put_low {z : Nat} (hz : z < 4294967296) : putN 0 0 32 z = z := by
  unfold putN
  rw [Nat.pow_zero, Nat.mod_one, Nat.zero_add, Nat.mul_one, Nat.zero_div, Nat.zero_mul, Nat.add_zero]
  exact Nat.mod_eq_of_lt hz
theorem put_high (n y : Nat) : putN n 32 30 y % 4294967296 = n % 4294967296 := by unfold putN; omega
theorem firstN_chg {h : Int} {to : Nat} (hto : to < 4294967296) : firstN (chgX h to) = to := by
  unfold firstN chgX
  have e0 : u64 0 = 0 := rfl
  have h1 : u64 (i64 to) = to := u64_i64 (by omega)
  rw [e0, put_low hto, h1, u64_i64 (putN_lt _ (by omega) (by omega)), low32, put_high]
  omega
def getV (V : List Int) (c : Nat) : Int := (V[c]?).getD 0
theorem getV_set {V : List Int} {c d : Nat} {x : Int} (hc : c < V.length) : getV (V.set c x) d = if d = c then x else getV V d := by
  unfold getV
  rw [List.getElem?_set]
  by_cases e : c = d
  · subst e; simp [hc]
  · rw [if_neg e, if_neg (fun h => e h.symm)]
def nextOf : List Nat → Nat
  | [] => 0
  | x :: _ => x + 1
/-- The slots that are free, in their row. -/
def RowIs (V : List Int) : List Nat → Prop
  | [] => True
  | x :: F => getV V (1 + 2 * x) = (nextOf F : Nat) ∧ RowIs V F
structure OneV (N : Nat) (V : List Int) (F : List Nat) : Prop where
  len : V.length = 2 * N + 1
  hd : firstN (getV V 0) = nextOf F
  row : RowIs V F
  lt : ∀ x ∈ F, x < N
  nd : F.Nodup
  used : ∀ x, x < N → getV V (2 + 2 * x) = if x ∈ F then 0 else 1
theorem nextOf_le {N : Nat} {F : List Nat} (h : ∀ x ∈ F, x < N) : nextOf F ≤ N := by
  cases F with
  | nil => exact Nat.zero_le _
  | cons x F => exact h x (by simp)
theorem RowIs.set {V : List Int} {c : Nat} {x : Int} (hc : c < V.length) : ∀ {F : List Nat}, RowIs V F → (∀ y ∈ F, 1 + 2 * y ≠ c) → RowIs (V.set c x) F
  | [], _, _ => trivial
  | y :: F, ⟨h1, h2⟩, hn => ⟨by rw [getV_set hc, if_neg (hn y (by simp))]; exact h1, RowIs.set hc h2 fun z hz => hn z (by simp [hz])⟩
theorem OneV.take {N x : Nat} {V : List Int} {F : List Nat} (h : OneV N V (x :: F)) (hN : N ≤ 1000) : OneV N ((V.set 0 (chgX (getV V 0) (nextOf F))).set (2 + 2 * x) 1) F := by
  have hx : x < N := h.lt x (by simp)
  have hl := h.len
  have hnx : nextOf F ≤ N := nextOf_le fun y hy => h.lt y (by simp [hy])
  have nd := List.nodup_cons.1 h.nd
  refine ⟨by simp [hl], ?_, ?_, fun y hy => h.lt y (by simp [hy]), nd.2, fun y hy => ?_⟩
  · rw [getV_set (by simp; omega), if_neg (by omega), getV_set (by omega), if_pos rfl, firstN_chg (by omega)]
  · exact (h.row.2.set (by omega) fun y _ => by omega).set (by simp; omega) fun y _ => by omega
  · rw [getV_set (by simp; omega), getV_set (by omega), if_neg (show ¬ 2 + 2 * y = 0 by omega), h.used y hy]
    by_cases e : y = x
    · subst e; rw [if_pos rfl, if_neg nd.1]
    · rw [if_neg (by omega)]
      simp [e]
theorem OneV.give {N x : Nat} {V : List Int} {F : List Nat} (h : OneV N V F) (hN : N ≤ 1000) (hx : x < N) (hxF : x ∉ F) : OneV N (((V.set (2 + 2 * x) 0).set (1 + 2 * x) (firstN (getV V 0) : Nat)).set 0 (chgX (getV V 0) (x + 1))) (x :: F) := by
  have hl := h.len
  refine ⟨by simp [hl], ?_, ⟨?_, ?_⟩, fun y hy => ?_, List.nodup_cons.2 ⟨hxF, h.nd⟩, fun y hy => ?_⟩
  · rw [getV_set (by simp; omega), if_pos rfl, firstN_chg (by omega)]; rfl
  · rw [getV_set (by simp; omega), if_neg (by omega), getV_set (by simp; omega), if_pos rfl, h.hd]
  · refine ((h.row.set (by omega) fun y _ => by omega).set (by simp; omega) fun y hy => fun e => hxF ?_).set (by simp; omega) fun y _ => by omega
    rw [show x = y by omega]; exact hy
  · rcases List.mem_cons.1 hy with rfl | hy
    · exact hx
    · exact h.lt y hy
  · rw [getV_set (by simp; omega), if_neg (by omega), getV_set (by simp; omega), if_neg (by omega), getV_set (by omega)]
    by_cases e : y = x
    · subst e; rw [if_pos rfl]; simp
    · rw [if_neg (by omega), h.used y hy]; simp [e]
/-- What one thread alone is told. -/
structure AS where
  given : List Nat
  taken : List Nat
  fresh : Nat
def AS.row (N : Nat) (s : AS) : List Nat := s.given.reverse ++ List.range' s.fresh (N - s.fresh)
theorem getLastD_snoc {α : Type} (l : List α) (x d : α) : (l ++ [x]).getLastD d = x := by simp [List.getLastD_eq_getLast?]
theorem snoc_of_ne {α : Type} {l : List α} (h : l ≠ []) : ∃ G x, l = G ++ [x] := ⟨_, _, (List.dropLast_concat_getLast h).symm⟩
end Go.Proofs.Ytecdiejeofclaaa


/- Free threads, of no world: cells. -/
namespace Go.Proofs.Ytecdiejeofclaaa
open Go Go.Conc
section
variable {S : Addr → Prop} {main : Bool} {Stop : Goroutine → World → Prop} {cs : List Frame} {c : Frame} {v : World}
/-- A thread of no world. -/
def FreeT (v : World) (T : Nat) (id : Int) : Prop := v.heap[T]? = some (.cells #[.pointer none, .int .i64 id, .chan none, .int .i64 0, .int .i64 0, .int .i64 0, .int .i64 0] 76 (0, 0))
theorem Free_hold {id : Int} (H : ∀ v' T, Grow v v' → v.heap.size ≤ T → FreeT v' T id → Hold Try.prog main S Stop (G (c.finish (.pointer (some ⟨T, 0, none⟩))) cs) v') :
    Hold Try.prog main S Stop (G (Frame.enter Try.prog 13 #[.int .i64 id] .normal) (c :: cs)) v := by
  have hG := Grow.refl v
  obtain ⟨b, a, hEq, hb, hbf, hat⟩ := enter_is Free_fn Free_body Free_tmps #[.int .i64 id] [(0, .int .i64 id)] rfl (by simp)
  rw [hEq]
  have hbk := not_early hb
  refine hold_unf Free_code_def <| hold_seq <| hold_region (l := [0]) rfl <| h_val noA hbk Free_0 rfl rfl (by decide) hat (r_assign rfl) fun a hat => hold_region_end <| hold_seq <| hold_region (l := [0,1,2,3]) rfl <| h_val noA hbk Free_1 rfl rfl (by decide) hat (r_move rfl) fun a hat => h_val noA hbk Free_1 rfl rfl (by decide) hat (bu_76_1 rfl rfl) fun a hat => h_new noA hbk Free_1 rfl rfl (by decide) hat (bx_76 rfl) fun v a B5 hB5 hsB5 hg F5 hat => ?_
  have gB5 := Nat.le_trans hG.size (Nat.le_of_eq hB5)
  replace hG := hG.trans hg
  refine h_val noA hbk Free_1 rfl rfl (by decide) hat (r_assign rfl) fun a hat => hold_region_end <| hold_retd hb hbf Free_fn hat.defers (ret_one Free_res hat rfl) ?_
  exact H _ _ hG gB5 F5
theorem TurnF_hold {T : Nat} {id x y : Int} (F : FreeT v T id) (H : Hold Try.prog main S Stop (G (c.finish (.tuple #[])) cs) v) :
    Hold Try.prog main S Stop (G (Frame.enter Try.prog 42 #[.pointer (some ⟨T, 0, none⟩), .int .i64 x, .int .i64 y] .normal) (c :: cs)) v := by
  unfold FreeT at F
  obtain ⟨b, a, hEq, hb, hbf, hat⟩ := enter_is Turn_fn Turn_body Turn_tmps #[.pointer (some ⟨T, 0, none⟩), .int .i64 x, .int .i64 y] [(0, .pointer (some ⟨T, 0, none⟩)), (1, .int .i64 x), (2, .int .i64 y)] rfl (by simp)
  rw [hEq]
  have hbk := not_early hb
  refine hold_unf Turn_code_def <| hold_seq <| hold_region (l := [0,1,2,3,4]) rfl <| h_val noA hbk Turn_0 rfl rfl (by decide) hat (r_move rfl) fun a hat => h_val noA hbk Turn_0 rfl rfl (by decide) hat (r_nil rfl) fun a hat => h_val noA hbk Turn_0 rfl rfl (by decide) hat (r_field fk_76_0 rfl) fun a hat => h_val noA hbk Turn_0 rfl rfl (by decide) hat (r_load ld_32 rfl (cell_at' F)) fun a hat => h_val noA hbk Turn_0 rfl opOk_nil (by decide) hat (r_notnil nk_32 rfl) fun a hat => hold_region_end <| hold_condF (hat.eval (q := .tmp 10) rfl) rfl <| hold_skip ?_
  refine hold_done hb hbf Turn_fn hat.defers (ret_none Turn_res _) H
theorem DidF_hold {T : Nat} {id x y : Int} (F : FreeT v T id) (H : Hold Try.prog main S Stop (G (c.finish (.tuple #[])) cs) v) :
    Hold Try.prog main S Stop (G (Frame.enter Try.prog 44 #[.pointer (some ⟨T, 0, none⟩), .int .i64 x, .int .i64 y] .normal) (c :: cs)) v := by
  unfold FreeT at F
  obtain ⟨b, a, hEq, hb, hbf, hat⟩ := enter_is Did_fn Did_body Did_tmps #[.pointer (some ⟨T, 0, none⟩), .int .i64 x, .int .i64 y] [(0, .pointer (some ⟨T, 0, none⟩)), (1, .int .i64 x), (2, .int .i64 y)] rfl (by simp)
  rw [hEq]
  have hbk := not_early hb
  refine hold_unf Did_code_def <| hold_seq <| hold_seq <| hold_region (l := [0,1,2,3,4]) rfl <| h_val noA hbk Did_0 rfl rfl (by decide) hat (r_move rfl) fun a hat => h_val noA hbk Did_0 rfl rfl (by decide) hat (r_nil rfl) fun a hat => h_val noA hbk Did_0 rfl rfl (by decide) hat (r_field fk_76_0 rfl) fun a hat => h_val noA hbk Did_0 rfl rfl (by decide) hat (r_load ld_32 rfl (cell_at' F)) fun a hat => h_val noA hbk Did_0 rfl opOk_nil (by decide) hat (r_isnil nk_32 rfl) fun a hat => hold_region_end <| hold_condT (hat.eval (q := .tmp 10) rfl) rfl ?_
  refine hold_retd hb hbf Did_fn hat.defers (ret_none Did_res _) H
/-- A cell. -/
def CellAt (v : World) (B : Nat) (n x : Int) : Prop := v.heap[B]? = some (.cells #[.int .i64 n, .int .i64 x] 100 (0, 0))
theorem LoadF_hold {T B : Nat} {id n x : Int} (FT : FreeT v T id) (FB : CellAt v B n x) (H : Hold Try.prog main S Stop (G (c.finish (.int .i64 x)) cs) v) :
    Hold Try.prog main S Stop (G (Frame.enter Try.prog 30 #[.pointer (some ⟨B, 0, none⟩), .pointer (some ⟨T, 0, none⟩)] .normal) (c :: cs)) v := by
  unfold CellAt at FB
  obtain ⟨b, a, hEq, hb, hbf, hat⟩ := enter_is Load_fn Load_body Load_tmps #[.pointer (some ⟨B, 0, none⟩), .pointer (some ⟨T, 0, none⟩)] [(0, .pointer (some ⟨B, 0, none⟩)), (1, .pointer (some ⟨T, 0, none⟩))] rfl (by simp)
  rw [hEq]
  have hbk := not_early hb
  refine hold_unf Load_code_def <| hold_seq <| hold_region (l := [0]) rfl <| h_val noA hbk Load_0 rfl rfl (by decide) hat (r_assign rfl) fun a hat => hold_region_end <| hold_seq <| hold_region (l := [0,1,2,3,4,5]) rfl <| h_val noA hbk Load_1 rfl rfl (by decide) hat (r_move rfl) fun a hat => h_val noA hbk Load_1 rfl rfl (by decide) hat (r_move rfl) fun a hat => h_val noA hbk Load_1 rfl rfl (by decide) hat (r_nil rfl) fun a hat => h_val noA hbk Load_1 rfl rfl (by decide) hat (r_field fk_100_0 rfl) fun a hat => h_val noA hbk Load_1 rfl rfl (by decide) hat (r_load ld_3 rfl (cell_at' FB)) fun a hat => h_callc hbk Load_1 rfl (by decide) hat Turn_fn Turn_bd Turn_nm (vals := #[_, _, _]) rfl fun c hc => ?_
  refine TurnF_hold FT <| hold_fin hc fun a hat => hold_region_end <| hold_seq <| hold_region (l := [0,1,2,3,4]) rfl <| h_val noA hbk Load_2 rfl rfl (by decide) hat (r_move rfl) fun a hat => h_val noA hbk Load_2 rfl rfl (by decide) hat (r_nil rfl) fun a hat => h_val noA hbk Load_2 rfl rfl (by decide) hat (r_field fk_100_1 rfl) fun a hat => h_callc hbk Load_2 rfl (by decide) hat ALoad_fn ALoad_bd ALoad_nm (vals := #[_]) rfl fun c hc => aload_hold (cell_at' FB) <| hold_fin hc fun a hat => h_val noA hbk Load_2 rfl rfl (by decide) hat (r_assign rfl) fun a hat => hold_region_end ?_
  refine hold_seq <| hold_region (l := [0,1,2,3]) rfl <| h_val noA hbk Load_3 rfl rfl (by decide) hat (r_move rfl) fun a hat => h_val noA hbk Load_3 rfl rfl (by decide) hat (r_move rfl) fun a hat => h_val noA hbk Load_3 rfl rfl (by decide) hat (r_move rfl) fun a hat => h_callc hbk Load_3 rfl (by decide) hat Did_fn Did_bd Did_nm (vals := #[_, _, _]) rfl fun c hc => DidF_hold FT <| hold_fin hc fun a hat => hold_region_end <| hold_seq <| hold_region (l := [0,1]) rfl <| h_val noA hbk Load_4 rfl rfl (by decide) hat (r_move rfl) fun a hat => h_val noA hbk Load_4 rfl rfl (by decide) hat (r_assign rfl) fun a hat => ?_
  refine hold_region_end <| hold_retd hb hbf Load_fn hat.defers (ret_one Load_res hat rfl) ?_
  exact H
theorem CasF_hold {T B : Nat} {id n x y : Int} (FT : FreeT v T id) (FB : CellAt v B n x) (H : ∀ v', Puts v v' B (.cells #[.int .i64 n, .int .i64 y] 100 (0, 0)) → Hold Try.prog main S Stop (G (c.finish (.bool true)) cs) v') :
    Hold Try.prog main S Stop (G (Frame.enter Try.prog 33 #[.pointer (some ⟨B, 0, none⟩), .pointer (some ⟨T, 0, none⟩), .int .i64 x, .int .i64 y] .normal) (c :: cs)) v := by
  unfold CellAt at FB
  obtain ⟨b, a, hEq, hb, hbf, hat⟩ := enter_is Cas_fn Cas_body Cas_tmps #[.pointer (some ⟨B, 0, none⟩), .pointer (some ⟨T, 0, none⟩), .int .i64 x, .int .i64 y] [(0, .pointer (some ⟨B, 0, none⟩)), (1, .pointer (some ⟨T, 0, none⟩)), (2, .int .i64 x), (3, .int .i64 y)] rfl (by simp)
  rw [hEq]
  have hbk := not_early hb
  refine hold_unf Cas_code_def <| hold_seq <| hold_region (l := [0]) rfl <| h_val noA hbk Cas_0 rfl rfl (by decide) hat (r_assign rfl) fun a hat => hold_region_end <| hold_seq <| hold_region (l := [0,1,2,3,4,5]) rfl <| h_val noA hbk Cas_1 rfl rfl (by decide) hat (r_move rfl) fun a hat => h_val noA hbk Cas_1 rfl rfl (by decide) hat (r_move rfl) fun a hat => h_val noA hbk Cas_1 rfl rfl (by decide) hat (r_nil rfl) fun a hat => h_val noA hbk Cas_1 rfl rfl (by decide) hat (r_field fk_100_0 rfl) fun a hat => h_val noA hbk Cas_1 rfl rfl (by decide) hat (r_load ld_3 rfl (cell_at' FB)) fun a hat => h_callc hbk Cas_1 rfl (by decide) hat Turn_fn Turn_bd Turn_nm (vals := #[_, _, _]) rfl fun c hc => ?_
  refine TurnF_hold FT <| hold_fin hc fun a hat => hold_region_end <| hold_seq <| hold_seq <| hold_region (l := [0,1,2,3,4,5]) rfl <| h_val noA hbk Cas_2 rfl rfl (by decide) hat (r_move rfl) fun a hat => h_val noA hbk Cas_2 rfl rfl (by decide) hat (r_nil rfl) fun a hat => h_val noA hbk Cas_2 rfl rfl (by decide) hat (r_field fk_100_1 rfl) fun a hat => h_val noA hbk Cas_2 rfl rfl (by decide) hat (r_move rfl) fun a hat => h_val noA hbk Cas_2 rfl rfl (by decide) hat (r_move rfl) fun a hat => h_callc hbk Cas_2 rfl (by decide) hat ACas_fn ACas_bd ACas_nm (vals := #[_, _, _]) rfl fun c hc => acas_hold (cell_at' FB) (frozen_at' FB) ?_
  rw [if_pos rfl]
  have hP : Puts v (v.setCell ⟨B, 0 + 1, none⟩ (.int .i64 y)) B (.cells #[.int .i64 n, .int .i64 y] 100 (0, 0)) := puts_set FB
  generalize v.setCell ⟨B, 0 + 1, none⟩ (.int .i64 y) = v2 at hP ⊢
  have FT2 : FreeT v2 T id := (hP.other T (ne_of_types FT FB (by decide))).trans FT
  refine hold_fin hc fun a hat => hold_region_end <| hold_condT (hat.eval (q := .tmp 21) rfl) rfl <| hold_seq <| hold_region (l := [0,1,2,3]) rfl <| h_val noA hbk Cas_3 rfl rfl (by decide) hat (r_move rfl) fun a hat => h_val noA hbk Cas_3 rfl rfl (by decide) hat (r_move rfl) fun a hat => h_val noA hbk Cas_3 rfl rfl (by decide) hat (r_move rfl) fun a hat => h_callc hbk Cas_3 rfl (by decide) hat Did_fn Did_bd Did_nm (vals := #[_, _, _]) rfl fun c hc => DidF_hold FT2 <| hold_fin hc fun a hat => hold_region_end <| hold_seq ?_
  refine hold_region (l := [0]) rfl <| h_val noA hbk Cas_4 rfl rfl (by decide) hat (r_assign rfl) fun a hat => hold_region_end <| hold_retd hb hbf Cas_fn hat.defers (ret_one Cas_res hat rfl) ?_
  exact H _ hP
theorem wCell0_hold (H : Hold Try.prog main S Stop (G (c.finish (.int .i64 0)) cs) v) : Hold Try.prog main S Stop (G (Frame.enter Try.prog 40 #[.pointer none] .normal) (c :: cs)) v := by
  obtain ⟨b, a, hEq, hb, hbf, hat⟩ := enter_is wCell_fn wCell_body wCell_tmps #[.pointer none] [(0, .pointer none)] rfl (by simp)
  rw [hEq]
  have hbk := not_early hb
  refine hold_unf wCell_code_def <| hold_seq <| hold_region (l := [0]) rfl <| h_val noA hbk wCell_0 rfl rfl (by decide) hat (r_assign rfl) fun a hat => hold_region_end <| hold_seq <| hold_seq <| hold_region (l := [0,1]) rfl <| h_val noA hbk wCell_1 rfl rfl (by decide) hat (r_move rfl) fun a hat => h_val noA hbk wCell_1 rfl opOk_nil (by decide) hat (r_isnil nk_32 rfl) fun a hat => hold_region_end <| hold_condT (hat.eval (q := .tmp 4) rfl) rfl <| hold_seq ?_
  refine hold_region (l := [0]) rfl <| h_val noA hbk wCell_2 rfl rfl (by decide) hat (r_assign rfl) fun a hat => hold_region_end <| hold_retd hb hbf wCell_fn hat.defers (ret_one wCell_res hat rfl) ?_
  exact H
theorem cellNew0_hold {x0 : Int} (H : ∀ v' B, Grow v v' → v.heap.size ≤ B → CellAt v' B 0 x0 → Hold Try.prog main S Stop (G (c.finish (.pointer (some ⟨B, 0, none⟩))) cs) v') :
    Hold Try.prog main S Stop (G (Frame.enter Try.prog 29 #[.pointer none, .int .i64 x0] .normal) (c :: cs)) v := by
  have hG := Grow.refl v
  obtain ⟨b, a, hEq, hb, hbf, hat⟩ := enter_is cellNew_fn cellNew_body cellNew_tmps #[.pointer none, .int .i64 x0] [(0, .pointer none), (1, .int .i64 x0)] rfl (by simp)
  rw [hEq]
  have hbk := not_early hb
  refine hold_unf cellNew_code_def <| hold_seq <| hold_region (l := [0]) rfl <| h_val noA hbk cellNew_0 rfl rfl (by decide) hat (r_assign rfl) fun a hat => hold_region_end <| hold_seq <| hold_region (l := [0,1,2,3,4]) rfl <| h_val noA hbk cellNew_1 rfl rfl (by decide) hat (r_move rfl) fun a hat => h_callc hbk cellNew_1 rfl (by decide) hat wCell_fn wCell_bd wCell_nm (vals := #[_]) rfl fun c hc => wCell0_hold <| hold_fin hc fun a hat => h_val noA hbk cellNew_1 rfl rfl (by decide) hat (bu_100_0 rfl rfl) fun a hat => h_new noA hbk cellNew_1 rfl rfl (by decide) hat (bx_100 rfl) fun v a B9 hB9 hsB9 hg F9 hat => ?_
  have gB9 := Nat.le_trans hG.size (Nat.le_of_eq hB9)
  replace hG := hG.trans hg
  refine h_val noA hbk cellNew_1 rfl rfl (by decide) hat (r_assign rfl) fun a hat => hold_region_end <| hold_seq <| hold_region (l := [0,1,2,3,4]) rfl <| h_val noA hbk cellNew_2 rfl rfl (by decide) hat (r_move rfl) fun a hat => h_val noA hbk cellNew_2 rfl rfl (by decide) hat (r_nil rfl) fun a hat => h_val noA hbk cellNew_2 rfl rfl (by decide) hat (r_field fk_100_1 rfl) fun a hat => h_val noA hbk cellNew_2 rfl rfl (by decide) hat (r_move rfl) fun a hat => h_callc hbk cellNew_2 rfl (by decide) hat AStore_fn AStore_bd AStore_nm (vals := #[_, _]) rfl fun c hc => astore_hold F9 rfl rfl fun v hP => hold_fin hc fun a hat => ?_
  have F9 := hP.at_
  refine hold_region_end <| hold_seq <| hold_region (l := [0,1]) rfl <| h_val noA hbk cellNew_3 rfl rfl (by decide) hat (r_move rfl) fun a hat => h_val noA hbk cellNew_3 rfl rfl (by decide) hat (r_assign rfl) fun a hat => hold_region_end <| hold_retd hb hbf cellNew_fn hat.defers (ret_one cellNew_res hat rfl) ?_
  exact H _ B9 (hG.put hP gB9) gB9 F9
end
end Go.Proofs.Ytecdiejeofclaaa


/- Slots of no world, by a free thread: Take. -/
namespace Go.Proofs.Ytecdiejeofclaaa
open Go Go.Conc
section
variable {S : Addr → Prop} {main : Bool} {Stop : Goroutine → World → Prop} {cs : List Frame} {c : Frame} {v : World}
theorem CasN_hold {T B : Nat} {id n x o y : Int} (FT : FreeT v T id) (FB : CellAt v B n x) (hne : x ≠ o) (H : Hold Try.prog main S Stop (G (c.finish (.bool false)) cs) v) :
    Hold Try.prog main S Stop (G (Frame.enter Try.prog 33 #[.pointer (some ⟨B, 0, none⟩), .pointer (some ⟨T, 0, none⟩), .int .i64 o, .int .i64 y] .normal) (c :: cs)) v := by
  unfold CellAt at FB
  obtain ⟨b, a, hEq, hb, hbf, hat⟩ := enter_is Cas_fn Cas_body Cas_tmps #[.pointer (some ⟨B, 0, none⟩), .pointer (some ⟨T, 0, none⟩), .int .i64 o, .int .i64 y] [(0, .pointer (some ⟨B, 0, none⟩)), (1, .pointer (some ⟨T, 0, none⟩)), (2, .int .i64 o), (3, .int .i64 y)] rfl (by simp)
  rw [hEq]
  have hbk := not_early hb
  refine hold_unf Cas_code_def <| hold_seq <| hold_region (l := [0]) rfl <| h_val noA hbk Cas_0 rfl rfl (by decide) hat (r_assign rfl) fun a hat => hold_region_end <| hold_seq <| hold_region (l := [0,1,2,3,4,5]) rfl <| h_val noA hbk Cas_1 rfl rfl (by decide) hat (r_move rfl) fun a hat => h_val noA hbk Cas_1 rfl rfl (by decide) hat (r_move rfl) fun a hat => h_val noA hbk Cas_1 rfl rfl (by decide) hat (r_nil rfl) fun a hat => h_val noA hbk Cas_1 rfl rfl (by decide) hat (r_field fk_100_0 rfl) fun a hat => h_val noA hbk Cas_1 rfl rfl (by decide) hat (r_load ld_3 rfl (cell_at' FB)) fun a hat => h_callc hbk Cas_1 rfl (by decide) hat Turn_fn Turn_bd Turn_nm (vals := #[_, _, _]) rfl fun c hc => ?_
  refine TurnF_hold FT <| hold_fin hc fun a hat => hold_region_end <| hold_seq <| hold_seq <| hold_region (l := [0,1,2,3,4,5]) rfl <| h_val noA hbk Cas_2 rfl rfl (by decide) hat (r_move rfl) fun a hat => h_val noA hbk Cas_2 rfl rfl (by decide) hat (r_nil rfl) fun a hat => h_val noA hbk Cas_2 rfl rfl (by decide) hat (r_field fk_100_1 rfl) fun a hat => h_val noA hbk Cas_2 rfl rfl (by decide) hat (r_move rfl) fun a hat => h_val noA hbk Cas_2 rfl rfl (by decide) hat (r_move rfl) fun a hat => h_callc hbk Cas_2 rfl (by decide) hat ACas_fn ACas_bd ACas_nm (vals := #[_, _, _]) rfl fun c hc => acas_hold (cell_at' FB) (frozen_at' FB) ?_
  rw [if_neg hne]
  refine hold_fin hc fun a hat => hold_region_end <| hold_condF (hat.eval (q := .tmp 21) rfl) rfl <| hold_skip <| hold_seq <| hold_region (l := [0,1,2,3,4]) rfl <| h_val noA hbk Cas_5 rfl rfl (by decide) hat (r_move rfl) fun a hat => h_val noA hbk Cas_5 rfl rfl (by decide) hat (r_nil rfl) fun a hat => h_val noA hbk Cas_5 rfl rfl (by decide) hat (r_field fk_100_1 rfl) fun a hat => h_callc hbk Cas_5 rfl (by decide) hat ALoad_fn ALoad_bd ALoad_nm (vals := #[_]) rfl fun c hc => aload_hold (cell_at' FB) <| hold_fin hc fun a hat => h_val noA hbk Cas_5 rfl rfl (by decide) hat (r_assign rfl) fun a hat => ?_
  refine hold_region_end <| hold_seq <| hold_region (l := [0,1,2,3]) rfl <| h_val noA hbk Cas_6 rfl rfl (by decide) hat (r_move rfl) fun a hat => h_val noA hbk Cas_6 rfl rfl (by decide) hat (r_move rfl) fun a hat => h_val noA hbk Cas_6 rfl rfl (by decide) hat (r_move rfl) fun a hat => h_callc hbk Cas_6 rfl (by decide) hat Did_fn Did_bd Did_nm (vals := #[_, _, _]) rfl fun c hc => DidF_hold FT <| hold_fin hc fun a hat => hold_region_end <| hold_seq <| hold_region (l := [0]) rfl <| h_val noA hbk Cas_7 rfl rfl (by decide) hat (r_assign rfl) fun a hat => ?_
  refine hold_region_end <| hold_retd hb hbf Cas_fn hat.defers (ret_one Cas_res hat rfl) ?_
  exact H
theorem StoreF_hold {T B : Nat} {id n x y : Int} (FT : FreeT v T id) (FB : CellAt v B n x) (H : ∀ v', Puts v v' B (.cells #[.int .i64 n, .int .i64 y] 100 (0, 0)) → Hold Try.prog main S Stop (G (c.finish (.tuple #[])) cs) v') :
    Hold Try.prog main S Stop (G (Frame.enter Try.prog 35 #[.pointer (some ⟨B, 0, none⟩), .pointer (some ⟨T, 0, none⟩), .int .i64 y] .normal) (c :: cs)) v := by
  unfold CellAt at FB
  obtain ⟨b, a, hEq, hb, hbf, hat⟩ := enter_is CStore_fn CStore_body CStore_tmps #[.pointer (some ⟨B, 0, none⟩), .pointer (some ⟨T, 0, none⟩), .int .i64 y] [(0, .pointer (some ⟨B, 0, none⟩)), (1, .pointer (some ⟨T, 0, none⟩)), (2, .int .i64 y)] rfl (by simp)
  rw [hEq]
  have hbk := not_early hb
  refine hold_unf CStore_code_def <| hold_seq <| hold_region (l := [0,1,2,3,4,5]) rfl <| h_val noA hbk CStore_0 rfl rfl (by decide) hat (r_move rfl) fun a hat => h_val noA hbk CStore_0 rfl rfl (by decide) hat (r_move rfl) fun a hat => h_val noA hbk CStore_0 rfl rfl (by decide) hat (r_nil rfl) fun a hat => h_val noA hbk CStore_0 rfl rfl (by decide) hat (r_field fk_100_0 rfl) fun a hat => h_val noA hbk CStore_0 rfl rfl (by decide) hat (r_load ld_3 rfl (cell_at' FB)) fun a hat => h_callc hbk CStore_0 rfl (by decide) hat Turn_fn Turn_bd Turn_nm (vals := #[_, _, _]) rfl fun c hc => TurnF_hold FT <| hold_fin hc fun a hat => hold_region_end <| hold_region (l := [0,1,2,3,4,5,6,7]) rfl ?_
  refine h_val noA hbk CStore_1 rfl rfl (by decide) hat (r_move rfl) fun a hat => h_val noA hbk CStore_1 rfl rfl (by decide) hat (r_move rfl) fun a hat => h_val noA hbk CStore_1 rfl rfl (by decide) hat (r_nil rfl) fun a hat => h_val noA hbk CStore_1 rfl rfl (by decide) hat (r_field fk_100_1 rfl) fun a hat => h_val noA hbk CStore_1 rfl rfl (by decide) hat (r_move rfl) fun a hat => h_callc hbk CStore_1 rfl (by decide) hat ASwap_fn ASwap_bd ASwap_nm (vals := #[_, _]) rfl fun c hc => aswap_hold (cell_at' FB) (frozen_at' FB) ?_
  have hP : Puts v (v.setCell ⟨B, 0 + 1, none⟩ (.int .i64 y)) B (.cells #[.int .i64 n, .int .i64 y] 100 (0, 0)) := puts_set FB
  generalize v.setCell ⟨B, 0 + 1, none⟩ (.int .i64 y) = v2 at hP ⊢
  have FT2 : FreeT v2 T id := (hP.other T (ne_of_types FT FB (by decide))).trans FT
  refine hold_fin hc fun a hat => h_val noA hbk CStore_1 rfl rfl (by decide) hat (r_move rfl) fun a hat => h_callc hbk CStore_1 rfl (by decide) hat Did_fn Did_bd Did_nm (vals := #[_, _, _]) rfl fun c hc => DidF_hold FT2 <| hold_fin hc fun a hat => hold_region_end <| hold_done hb hbf CStore_fn hat.defers (ret_none CStore_res _) ?_
  exact H _ hP
end
/-- Slots of no world. -/
structure FreeSl (v : World) (s N : Nat) (lN lU : Value) (cb : Nat → Nat) (V : List Int) : Prop where
  c : v.heap[s]? = some (.cells #[.pointer (some ⟨cb 0, 0, none⟩), lN, lU] 81 (0, 0))
  nx : v.ownsRow 0 77 1 lN N (cRow (fun j => cb (1 + 2 * j)) N)
  us : v.ownsRow 0 77 1 lU N (cRow (fun j => cb (2 + 2 * j)) N)
  cells : ∀ c, c < 2 * N + 1 → CellAt v (cb c) 0 (getV V c)
  len : V.length = 2 * N + 1
  inj : ∀ i j, i < 2 * N + 1 → j < 2 * N + 1 → cb i = cb j → i = j
section
variable {v v' : World} {s N : Nat} {lN lU : Value} {cb : Nat → Nat} {V : List Int}
theorem FreeSl.grow (h : FreeSl v s N lN lU cb V) (hG : Grow v v') : FreeSl v' s N lN lU cb V := ⟨hG.at h.c, owns_grow h.nx hG, owns_grow h.us hG, fun c hc => hG.at (h.cells c hc), h.len, h.inj⟩
theorem FreeSl.put (h : FreeSl v s N lN lU cb V) {c : Nat} (hc : c < 2 * N + 1) {y : Int} (hP : Puts v v' (cb c) (.cells #[.int .i64 0, .int .i64 y] 100 (0, 0))) : FreeSl v' s N lN lU cb (V.set c y) := by
  have hcc := h.cells c hc
  have hl := h.len
  refine ⟨hP.keep (ne_of_types h.c hcc (by decide)) h.c, ownsRow_keep h.nx fun b x hb hx => hP.other b (ne_of_types hx hcc (by decide)), ownsRow_keep h.us fun b x hb hx => hP.other b (ne_of_types hx hcc (by decide)), fun d hd => ?_, by simp [hl], h.inj⟩
  rw [getV_set (by omega)]
  by_cases e : d = c
  · subst e; rw [if_pos rfl]; exact hP.at_
  · rw [if_neg e]; exact hP.keep (fun e2 => e (h.inj d c hd hc e2)) (h.cells d hd)
theorem cRow_get {f : Nat → Nat} {n j : Nat} (h : j < n) : (cRow f n)[j]? = some (.pointer (some ⟨f j, 0, none⟩)) := by simp [cRow, h]
end
/-- Their cells' blocks. -/
abbrev cellsOfSl (cb : Nat → Nat) (N : Nat) : Nat → Prop := fun b => ∃ c, c < 2 * N + 1 ∧ b = cb c
theorem Puts.modsS {v v' : World} {cb : Nat → Nat} {N c : Nat} {o : Obj} (h : Puts v v' (cb c) o) (hc : c < 2 * N + 1) : Mods (cellsOfSl cb N) v v' := ⟨Nat.le_of_eq h.size.symm, fun b _ hn => h.other b fun e => hn ⟨c, hc, e⟩, fun r => h.ready r⟩
theorem FreeT.put {v v' : World} {T B : Nat} {id n x : Int} {o : Obj} (h : FreeT v T id) (hB : CellAt v B n x) (hP : Puts v v' B o) : FreeT v' T id := (hP.other T (ne_of_types h hB (by decide))).trans h
section
variable {S : Addr → Prop} {main : Bool} {Stop : Goroutine → World → Prop} {cs : List Frame} {c : Frame} {v : World}
theorem TakeF_body0 {s N T : Nat} {lN lU : Value} {cb : Nat → Nat} {V : List Int} {id : Int} (hS : FreeSl v s N lN lU cb V) (FT : FreeT v T id) (hV : OneV N V []) {b : Frame} (hb : b.kind = .normal) (hbf : b.fn = 15) {k : List Item}
    (H : ∀ v', Grow v v' → Hold Try.prog main S Stop (G (c.finish (.tuple #[.int .i64 0, .int .i64 80])) cs) v') {a : Act}
    (hat : AtE 51 [] [(1, .pointer (some ⟨T, 0, none⟩)), (0, .pointer (some ⟨s, 0, none⟩))] a) : Hold Try.prog main S Stop (G (b.at a (.code Take_L0 :: .inLoop Take_L0 :: .inBlock 0 :: k)) (c :: cs)) v := by
  have hbk := not_early hb
  have hG := Grow.refl v
  have F := hS.c
  refine hold_unf Take_L0_def <| hold_block <| hold_seq <| hold_region (l := [0,1,2,3,4,5,6]) rfl <| h_val noA hbk Take_1 rfl rfl (by decide) hat (r_move rfl) fun a hat => h_val noA hbk Take_1 rfl rfl (by decide) hat (r_nil rfl) fun a hat => h_val noA hbk Take_1 rfl rfl (by decide) hat (r_field fk_81_0 rfl) fun a hat => h_val noA hbk Take_1 rfl rfl (by decide) hat (r_load ld_77 rfl (cell_at' F)) fun a hat => h_val noA hbk Take_1 rfl rfl (by decide) hat (r_move rfl) fun a hat => h_callc hbk Take_1 rfl (by decide) hat Load_fn Load_bd Load_nm (vals := #[_, _]) rfl fun c hc => LoadF_hold (hG.at FT) (hG.at (hS.cells 0 (by omega))) <| hold_fin hc fun a hat => h_val noA hbk Take_1 rfl rfl (by decide) hat (r_assign rfl) fun a hat => ?_
  refine hold_region_end <| hold_seq <| hold_region (l := [0,1,2,3,4]) rfl <| h_val noA hbk Take_2 rfl rfl (by decide) hat (r_move rfl) fun a hat => h_callc hbk Take_2 rfl (by decide) hat slFirst_fn slFirst_bd slFirst_nm (vals := #[]) rfl fun c hc => slFirst_hold fun v hg => ?_
  replace F := hg.at F
  replace hG := hG.trans hg
  refine hold_fin hc fun a hat => h_callc hbk Take_2 rfl (by decide) hat wGet_fn wGet_bd wGet_nm (vals := #[_, _]) rfl fun c hc => wGet_hold (p := 0) (q := 32) (by omega) fun v hg => ?_
  replace F := hg.at F
  replace hG := hG.trans hg
  refine hold_fin hc fun a hat => ?_
  have hfx : getN (u64 (getV V 0)) 0 32 = 0 := hV.hd
  rw [hfx] at hat
  refine h_val noA hbk Take_2 rfl rfl (by decide) hat (r_sub rfl rfl (by first | omega | (simp; omega))) fun a hat => h_val noA hbk Take_2 rfl rfl (by decide) hat (r_assign rfl) fun a hat => hold_region_end <| hold_seq <| hold_seq <| hold_region (l := [0,1]) rfl <| h_val noA hbk Take_3 rfl rfl (by decide) hat (r_move rfl) fun a hat => h_val noA hbk Take_3 rfl rfl (by decide) hat (r_bool (t' := true) (r_lss rfl rfl) (by first | (simp; omega) | (simp; done) | (simp_all; done) | (simp_all; omega))) fun a hat => hold_region_end <| hold_condT (hat.eval (q := .tmp 20) rfl) rfl <| hold_seq <| hold_region (l := [0,1]) rfl <| h_val noA hbk Take_4 rfl rfl (by decide) hat (r_assign rfl) fun a hat => ?_
  refine h_val noA hbk Take_4 rfl rfl (by decide) hat (r_assign rfl) fun a hat => hold_region_end <| hold_retd hb hbf Take_fn hat.defers (ret_two Take_res hat rfl rfl) ?_
  exact H v hG
theorem TakeF_body1 {s N T x : Nat} {lN lU : Value} {cb : Nat → Nat} {V : List Int} {F0 : List Nat} {id : Int} (hN : N ≤ 1000) (hS : FreeSl v s N lN lU cb V) (FT : FreeT v T id) (hV : OneV N V (x :: F0)) {b : Frame} (hb : b.kind = .normal) (hbf : b.fn = 15) {k : List Item}
    (H : ∀ v' V', Mods (cellsOfSl cb N) v v' → FreeSl v' s N lN lU cb V' → FreeT v' T id → OneV N V' F0 → Hold Try.prog main S Stop (G (c.finish (.tuple #[.int .i64 (x : Nat), .int .i64 0])) cs) v') {a : Act}
    (hat : AtE 51 [] [(1, .pointer (some ⟨T, 0, none⟩)), (0, .pointer (some ⟨s, 0, none⟩))] a) : Hold Try.prog main S Stop (G (b.at a (.code Take_L0 :: .inLoop Take_L0 :: .inBlock 0 :: k)) (c :: cs)) v := by
  have hbk := not_early hb
  have hG := Grow.refl v
  have hx : x < N := hV.lt x (by simp)
  have hnx : nextOf F0 ≤ N := nextOf_le fun y hy => hV.lt y (by simp [hy])
  have hS0 := hS
  obtain ⟨gN, capN, rfl, hnc, _⟩ := ownsRow_at1 hS.nx (cRow_get hx)
  obtain ⟨gU, capU, rfl, huc, _⟩ := ownsRow_at1 hS.us (cRow_get hx)
  have F := hS.c
  refine hold_unf Take_L0_def <| hold_block <| hold_seq <| hold_region (l := [0,1,2,3,4,5,6]) rfl <| h_val noA hbk Take_1 rfl rfl (by decide) hat (r_move rfl) fun a hat => h_val noA hbk Take_1 rfl rfl (by decide) hat (r_nil rfl) fun a hat => h_val noA hbk Take_1 rfl rfl (by decide) hat (r_field fk_81_0 rfl) fun a hat => h_val noA hbk Take_1 rfl rfl (by decide) hat (r_load ld_77 rfl (cell_at' F)) fun a hat => h_val noA hbk Take_1 rfl rfl (by decide) hat (r_move rfl) fun a hat => h_callc hbk Take_1 rfl (by decide) hat Load_fn Load_bd Load_nm (vals := #[_, _]) rfl fun c hc => LoadF_hold (hG.at FT) (hG.at (hS.cells 0 (by omega))) <| hold_fin hc fun a hat => h_val noA hbk Take_1 rfl rfl (by decide) hat (r_assign rfl) fun a hat => ?_
  refine hold_region_end <| hold_seq <| hold_region (l := [0,1,2,3,4]) rfl <| h_val noA hbk Take_2 rfl rfl (by decide) hat (r_move rfl) fun a hat => h_callc hbk Take_2 rfl (by decide) hat slFirst_fn slFirst_bd slFirst_nm (vals := #[]) rfl fun c hc => slFirst_hold fun v hg => ?_
  replace F := hg.at F
  replace hG := hG.trans hg
  refine hold_fin hc fun a hat => h_callc hbk Take_2 rfl (by decide) hat wGet_fn wGet_bd wGet_nm (vals := #[_, _]) rfl fun c hc => wGet_hold (p := 0) (q := 32) (by omega) fun v hg => ?_
  replace F := hg.at F
  replace hG := hG.trans hg
  refine hold_fin hc fun a hat => ?_
  have hfx : getN (u64 (getV V 0)) 0 32 = x + 1 := hV.hd
  have hjI : (((x + 1 : Nat) : Int) - 1) = (x : Nat) := by omega
  rw [hfx] at hat
  refine h_val noA hbk Take_2 rfl rfl (by decide) hat (r_sub rfl rfl (by first | omega | (simp; omega))) fun a hat => h_val noA hbk Take_2 rfl rfl (by decide) hat (r_assign rfl) fun a hat => hold_region_end <| hold_seq <| hold_seq <| hold_region (l := [0,1]) rfl <| h_val noA hbk Take_3 rfl rfl (by decide) hat (r_move rfl) fun a hat => h_val noA hbk Take_3 rfl rfl (by decide) hat (r_bool (t' := false) (r_lss rfl rfl) (by simp)) fun a hat => hold_region_end <| hold_condF (hat.eval (q := .tmp 20) rfl) rfl <| hold_skip <| hold_seq <| hold_region (l := [0,1,2,3,4,5,6,7,8,9]) rfl ?_
  refine h_val noA hbk Take_5 rfl rfl (by decide) hat (r_move rfl) fun a hat => h_val noA hbk Take_5 rfl rfl (by decide) hat (r_nil rfl) fun a hat => h_val noA hbk Take_5 rfl rfl (by decide) hat (r_field fk_81_1 rfl) fun a hat => h_val noA hbk Take_5 rfl rfl (by decide) hat (r_load ld_79 rfl (cell_at' F)) fun a hat => h_val noA hbk Take_5 rfl rfl (by decide) hat (r_move rfl) fun a hat => h_val noA hbk Take_5 rfl rfl (by decide) hat (r_index ix_79 rfl rfl (by omega) (by omega)) fun a hat => h_val noA hbk Take_5 rfl rfl (by decide) hat (r_load ld_77 rfl (by simpa using grow_cell hG hnc)) fun a hat => h_val noA hbk Take_5 rfl rfl (by decide) hat (r_move rfl) fun a hat => h_callc hbk Take_5 rfl (by decide) hat Load_fn Load_bd Load_nm (vals := #[_, _]) rfl fun c hc => LoadF_hold (hG.at FT) (hG.at (hS0.cells (1 + 2 * x) (by omega))) ?_
  rw [hV.row.1]
  refine hold_fin hc fun a hat => h_val noA hbk Take_5 rfl rfl (by decide) hat (r_assign rfl) fun a hat => hold_region_end <| hold_seq <| hold_seq <| hold_drawK (ts := [100]) (ord := [0,1,2,3,4,5,6,7,8,9,10]) (bigs := [8,9]) (by kernel_rfl) (by kernel_rfl) hat <| tk_val noA hbk Take_6 rfl rfl rfl (fun v' hk => r_move rfl) <| tk_val noA hbk Take_6 rfl rfl rfl (fun v' hk => r_nil rfl) <| tk_val noA hbk Take_6 rfl rfl rfl (fun v' hk => r_field fk_81_0 rfl) <| tk_val noA hbk Take_6 rfl rfl rfl (fun v' hk => r_load ld_77 rfl (cell_at' (hk.same _ _ _ _ F (by decide)))) <| tk_val noA hbk Take_6 rfl rfl rfl (fun v' hk => r_move rfl) <| tk_val noA hbk Take_6 rfl rfl rfl (fun v' hk => r_move rfl) <| tk_val noA hbk Take_6 rfl rfl rfl (fun v' hk => r_move rfl) ?_
  refine tk_val noA hbk Take_6 rfl rfl rfl (fun v' hk => r_move rfl) <| tk_call hbk Take_6 rfl rfl slChg_fn slChg_bd slChg_nm (vals := #[_, _]) rfl fun c K => slChg_hold (to := nextOf F0) (by omega) fun v1 hg1 => K _ v1 hg1.keepT ?_
  have hGt := hG.trans hg1
  have hc0 := (hS0.grow hGt).cells 0 (by omega)
  refine tk_call hbk Take_6 rfl rfl Cas_fn Cas_bd Cas_nm (vals := #[_, _, _, _]) rfl fun c K => CasF_hold (hGt.at FT) hc0 fun v2 hP => K _ v2 ⟨Nat.le_of_eq hP.size.symm, fun b arr t fr hb ht => hP.keep (fun e => ht (by rw [e] at hb; rw [hc0] at hb; cases hb; decide)) hb⟩ <| tk_val noA hbk Take_6 rfl rfl rfl (fun v' hk => r_not rfl) <| tk_end fun a hat => ?_
  have hS2 := (hS0.grow hGt).put (by omega) hP
  have FT2 := FreeT.put (hGt.at FT) hc0 hP
  obtain ⟨gU', capU', e, huc2, _⟩ := ownsRow_at1 hS2.us (cRow_get hx)
  cases e
  replace F := hS2.c
  have hGm := hGt.mods.trans (hP.modsS (N := N) (cb := cb) (by omega))
  have hG := Grow.refl v2
  refine hold_condF (hat.eval (q := .tmp 40) rfl) rfl <| hold_skip <| hold_seq <| hold_region (l := [0,1,2,3,4,5,6,7,8]) rfl <| h_val noA hbk Take_7 rfl rfl (by decide) hat (r_move rfl) fun a hat => h_val noA hbk Take_7 rfl rfl (by decide) hat (r_nil rfl) fun a hat => h_val noA hbk Take_7 rfl rfl (by decide) hat (r_field fk_81_2 rfl) fun a hat => h_val noA hbk Take_7 rfl rfl (by decide) hat (r_load ld_79 rfl (cell_at' F)) fun a hat => h_val noA hbk Take_7 rfl rfl (by decide) hat (r_move rfl) fun a hat => h_val noA hbk Take_7 rfl rfl (by decide) hat (r_index ix_79 rfl rfl (by omega) (by omega)) fun a hat => h_val noA hbk Take_7 rfl rfl (by decide) hat (r_load ld_77 rfl (by simpa using huc2)) fun a hat => h_val noA hbk Take_7 rfl rfl (by decide) hat (r_move rfl) fun a hat => h_callc hbk Take_7 rfl (by decide) hat CStore_fn CStore_bd CStore_nm (vals := #[_, _, _]) rfl fun c hc => ?_
  have hcu := hS2.cells (2 + 2 * x) (by omega)
  refine StoreF_hold FT2 hcu fun v3 hP3 => hold_fin hc fun a hat => hold_region_end <| hold_seq <| hold_region (l := [0,1,2]) rfl <| h_val noA hbk Take_8 rfl rfl (by decide) hat (r_move rfl) fun a hat => h_val noA hbk Take_8 rfl rfl (by decide) hat (r_assign rfl) fun a hat => h_val noA hbk Take_8 rfl rfl (by decide) hat (r_assign rfl) fun a hat => hold_region_end <| hold_retd hb hbf Take_fn hat.defers (ret_two Take_res hat rfl rfl) ?_
  rw [hjI]
  exact H v3 _ (hGm.trans (hP3.modsS (by omega))) (hS2.put (by omega) hP3) (FreeT.put FT2 hcu hP3) (hV.take hN)
theorem TakeF0_hold {s N T : Nat} {lN lU : Value} {cb : Nat → Nat} {V : List Int} {id : Int} (hS : FreeSl v s N lN lU cb V) (FT : FreeT v T id) (hV : OneV N V [])
    (H : ∀ v', Grow v v' → Hold Try.prog main S Stop (G (c.finish (.tuple #[.int .i64 0, .int .i64 80])) cs) v') :
    Hold Try.prog main S Stop (G (Frame.enter Try.prog 15 #[.pointer (some ⟨s, 0, none⟩), .pointer (some ⟨T, 0, none⟩)] .normal) (c :: cs)) v := by
  obtain ⟨b, a, hEq, hb, hbf, hat⟩ := enter_is Take_fn Take_body Take_tmps #[.pointer (some ⟨s, 0, none⟩), .pointer (some ⟨T, 0, none⟩)] [(0, .pointer (some ⟨s, 0, none⟩)), (1, .pointer (some ⟨T, 0, none⟩))] rfl (by simp)
  rw [hEq]
  have hbk := not_early hb
  refine hold_unf Take_code_def <| hold_seq <| hold_region (l := [0,1]) rfl <| h_val noA hbk Take_0 rfl rfl (by decide) hat (r_assign rfl) fun a hat => h_val noA hbk Take_0 rfl rfl (by decide) hat (r_assign rfl) fun a hat => hold_region_end <| hold_scope <| hold_seq <| hold_label <| hold_block <| hold_loop ?_
  exact TakeF_body0 hS FT hV hb hbf H (hat.sub (AtE.cons rfl (AtE.cons rfl (AtE.nil))))
theorem TakeF1_hold {s N T x : Nat} {lN lU : Value} {cb : Nat → Nat} {V : List Int} {F0 : List Nat} {id : Int} (hN : N ≤ 1000) (hS : FreeSl v s N lN lU cb V) (FT : FreeT v T id) (hV : OneV N V (x :: F0))
    (H : ∀ v' V', Mods (cellsOfSl cb N) v v' → FreeSl v' s N lN lU cb V' → FreeT v' T id → OneV N V' F0 → Hold Try.prog main S Stop (G (c.finish (.tuple #[.int .i64 (x : Nat), .int .i64 0])) cs) v') :
    Hold Try.prog main S Stop (G (Frame.enter Try.prog 15 #[.pointer (some ⟨s, 0, none⟩), .pointer (some ⟨T, 0, none⟩)] .normal) (c :: cs)) v := by
  obtain ⟨b, a, hEq, hb, hbf, hat⟩ := enter_is Take_fn Take_body Take_tmps #[.pointer (some ⟨s, 0, none⟩), .pointer (some ⟨T, 0, none⟩)] [(0, .pointer (some ⟨s, 0, none⟩)), (1, .pointer (some ⟨T, 0, none⟩))] rfl (by simp)
  rw [hEq]
  have hbk := not_early hb
  refine hold_unf Take_code_def <| hold_seq <| hold_region (l := [0,1]) rfl <| h_val noA hbk Take_0 rfl rfl (by decide) hat (r_assign rfl) fun a hat => h_val noA hbk Take_0 rfl rfl (by decide) hat (r_assign rfl) fun a hat => hold_region_end <| hold_scope <| hold_seq <| hold_label <| hold_block <| hold_loop ?_
  exact TakeF_body1 hN hS FT hV hb hbf H (hat.sub (AtE.cons rfl (AtE.cons rfl (AtE.nil))))
end
end Go.Proofs.Ytecdiejeofclaaa


/- Slots of no world, by a free thread: Give. -/
namespace Go.Proofs.Ytecdiejeofclaaa
open Go Go.Conc
section
variable {S : Addr → Prop} {main : Bool} {Stop : Goroutine → World → Prop} {cs : List Frame} {c : Frame} {v : World}
theorem GiveF_body {s N T x : Nat} {lN lU : Value} {cb : Nat → Nat} {V1 : List Int} {id : Int} (hN : N ≤ 1000) (hS : FreeSl v s N lN lU cb V1) (FT : FreeT v T id) (hx : x < N) {b : Frame} (hb : b.kind = .normal) (hbf : b.fn = 16) {k : List Item}
    (H : ∀ v' V', Mods (cellsOfSl cb N) v v' → FreeSl v' s N lN lU cb V' → FreeT v' T id → V' = (V1.set (1 + 2 * x) (firstN (getV V1 0) : Nat)).set 0 (chgX (getV V1 0) (x + 1)) → Hold Try.prog main S Stop (G (c.finish (.int .i64 0)) cs) v') {a : Act}
    (hat : AtE 59 [] [(2, .int .i64 (x : Nat)), (1, .pointer (some ⟨T, 0, none⟩)), (0, .pointer (some ⟨s, 0, none⟩))] a) : Hold Try.prog main S Stop (G (b.at a (.code Give_L0 :: .inLoop Give_L0 :: .inBlock 0 :: k)) (c :: cs)) v := by
  have hbk := not_early hb
  have hG := Grow.refl v
  have hS0 := hS
  have hVl := hS.len
  have hg1 := getN_lt (u64 (getV V1 0)) 0 32
  obtain ⟨gN, capN, rfl, hnc, _⟩ := ownsRow_at1 hS.nx (cRow_get hx)
  have hzx : 0 + (x : Int).toNat * 1 = x := by omega
  have F := hS.c
  refine hold_unf Give_L0_def <| hold_block <| hold_seq <| hold_region (l := [0,1,2,3,4,5,6]) rfl <| h_val noA hbk Give_5 rfl rfl (by decide) hat (r_move rfl) fun a hat => h_val noA hbk Give_5 rfl rfl (by decide) hat (r_nil rfl) fun a hat => h_val noA hbk Give_5 rfl rfl (by decide) hat (r_field fk_81_0 rfl) fun a hat => h_val noA hbk Give_5 rfl rfl (by decide) hat (r_load ld_77 rfl (cell_at' F)) fun a hat => h_val noA hbk Give_5 rfl rfl (by decide) hat (r_move rfl) fun a hat => h_callc hbk Give_5 rfl (by decide) hat Load_fn Load_bd Load_nm (vals := #[_, _]) rfl fun c hc => LoadF_hold (hG.at FT) (hG.at (hS.cells 0 (by omega))) <| hold_fin hc fun a hat => h_val noA hbk Give_5 rfl rfl (by decide) hat (r_assign rfl) fun a hat => ?_
  refine hold_region_end <| hold_seq ?_
  have hrow := hS.nx
  have hkn : ∀ v', KeepT [100] v v' → v'.cell? ⟨gN, x, none⟩ = some (.pointer (some ⟨cb (1 + 2 * x), 0, none⟩)) := fun v' hk => by
    obtain ⟨g', cap', e, h, _, cur, hcur⟩ := ownsRow_at1 (ownsRow_keep hrow fun b c hb hc => ((hk.same b _ _ _ hc (by decide)).trans hc.symm)) (cRow_get hx)
    cases e
    exact h
  refine hold_drawK (ts := [100]) (ord := [0,1,2,3,4,5,6,7,8,9,10,11]) (bigs := [9,10,11]) (by kernel_rfl) (by kernel_rfl) hat <| tk_val noA hbk Give_6 rfl rfl rfl (fun v' hk => r_move rfl) <| tk_val noA hbk Give_6 rfl rfl rfl (fun v' hk => r_nil rfl) <| tk_val noA hbk Give_6 rfl rfl rfl (fun v' hk => r_field fk_81_1 rfl) <| tk_val noA hbk Give_6 rfl rfl rfl (fun v' hk => r_load ld_79 rfl (cell_at' (hk.same _ _ _ _ F (by decide)))) <| tk_val noA hbk Give_6 rfl rfl rfl (fun v' hk => r_move rfl) <| tk_val noA hbk Give_6 rfl rfl rfl (fun v' hk => r_index ix_79 rfl rfl (by omega) (by omega)) <| tk_val noA hbk Give_6 rfl rfl rfl (fun v' hk => r_load ld_77 rfl (by rw [hzx]; exact hkn v' hk)) <| tk_val noA hbk Give_6 rfl rfl rfl (fun v' hk => r_move rfl) <| tk_val noA hbk Give_6 rfl rfl rfl (fun v' hk => r_move rfl) <| tk_call hbk Give_6 rfl rfl slFirst_fn slFirst_bd slFirst_nm (vals := #[]) rfl fun c K => ?_
  refine slFirst_hold fun v1 hg1 => K _ v1 hg1.keepT <| tk_call hbk Give_6 rfl rfl wGet_fn wGet_bd wGet_nm (vals := #[_, _]) rfl fun c K => wGet_hold (p := 0) (q := 32) (by omega) fun v2 hg2 => K _ v2 hg2.keepT ?_
  have hGt := hG.trans (hg1.trans hg2)
  have hS1 := hS0.grow hGt
  have hcn := hS1.cells (1 + 2 * x) (by omega)
  refine tk_call hbk Give_6 rfl rfl CStore_fn CStore_bd CStore_nm (vals := #[_, _, _]) rfl fun c K => StoreF_hold (hGt.at FT) hcn fun v3 hP => K _ v3 ⟨Nat.le_of_eq hP.size.symm, fun b arr t fr hb ht => hP.keep (fun e => ht (by rw [e] at hb; rw [hcn] at hb; cases hb; decide)) hb⟩ <| tk_end fun a hat => ?_
  have hS3 := hS1.put (by omega) hP
  have FT3 := FreeT.put (hGt.at FT) hcn hP
  replace F := hS3.c
  have hGm3 := hGt.mods.trans (hP.modsS (N := N) (cb := cb) (by omega))
  have hG := Grow.refl v3
  refine hold_seq <| hold_seq <| hold_drawK (ts := [100]) (ord := [0,1,2,3,4,5,6,7,8,9,10,11]) (bigs := [9,10]) (by kernel_rfl) (by kernel_rfl) hat <| tk_val noA hbk Give_7 rfl rfl rfl (fun v' hk => r_move rfl) <| tk_val noA hbk Give_7 rfl rfl rfl (fun v' hk => r_nil rfl) <| tk_val noA hbk Give_7 rfl rfl rfl (fun v' hk => r_field fk_81_0 rfl) <| tk_val noA hbk Give_7 rfl rfl rfl (fun v' hk => r_load ld_77 rfl (cell_at' (hk.same _ _ _ _ F (by decide)))) <| tk_val noA hbk Give_7 rfl rfl rfl (fun v' hk => r_move rfl) <| tk_val noA hbk Give_7 rfl rfl rfl (fun v' hk => r_move rfl) <| tk_val noA hbk Give_7 rfl rfl rfl (fun v' hk => r_move rfl) <| tk_val noA hbk Give_7 rfl rfl rfl (fun v' hk => r_move rfl) <| tk_val noA hbk Give_7 rfl (by kernel_rfl) rfl (fun v' hk => r_add rfl rfl (by omega)) ?_
  rw [show ((x : Nat) : Int) + 1 = ((x + 1 : Nat) : Int) by omega]
  refine tk_call hbk Give_7 rfl rfl slChg_fn slChg_bd slChg_nm (vals := #[_, _]) rfl fun c K => slChg_hold (to := x + 1) (by omega) fun v4 hg4 => K _ v4 hg4.keepT ?_
  have hS4 := hS3.grow hg4
  have hc0 := hS4.cells 0 (by omega)
  have hv0 : getV (V1.set (1 + 2 * x) (firstN (getV V1 0) : Nat)) 0 = getV V1 0 := by rw [getV_set (by omega), if_neg (by omega)]
  have hc0' := hc0
  rw [show getN (u64 (getV V1 0)) 0 32 = firstN (getV V1 0) from rfl, hv0] at hc0'
  refine tk_call hbk Give_7 rfl rfl Cas_fn Cas_bd Cas_nm (vals := #[_, _, _, _]) rfl fun c K => CasF_hold (hg4.at FT3) hc0' fun v5 hP5 => K _ v5 ⟨Nat.le_of_eq hP5.size.symm, fun b arr t fr hb ht => hP5.keep (fun e => ht (by rw [e] at hb; rw [hc0] at hb; cases hb; decide)) hb⟩ <| tk_val noA hbk Give_7 rfl rfl rfl (fun v' hk => r_not rfl) <| tk_end fun a hat => ?_
  have hS5 := hS4.put (by omega) hP5
  have FT5 := FreeT.put (hg4.at FT3) hc0 hP5
  have hGm5 := hGm3.trans (hg4.mods.trans (hP5.modsS (N := N) (cb := cb) (by omega)))
  refine hold_condF (hat.eval (q := .tmp 58) rfl) rfl <| hold_skip <| hold_seq <| hold_region (l := [0]) rfl <| h_val noA hbk Give_8 rfl rfl (by decide) hat (r_assign rfl) fun a hat => hold_region_end <| hold_retd hb hbf Give_fn hat.defers (ret_one Give_res hat rfl) ?_
  exact H v5 _ hGm5 hS5 FT5 rfl
end
end Go.Proofs.Ytecdiejeofclaaa


/- Slots of no world, by a free thread: Give, whole; slots.New of no world. -/
namespace Go.Proofs.Ytecdiejeofclaaa
open Go Go.Conc
section
variable {S : Addr → Prop} {main : Bool} {Stop : Goroutine → World → Prop} {cs : List Frame} {c : Frame} {v : World}
theorem GiveF_hold {s N T : Nat} {z : Int} {lN lU : Value} {cb : Nat → Nat} {V : List Int} {F0 : List Nat} {id : Int} (hN : N ≤ 1000) (hS : FreeSl v s N lN lU cb V) (FT : FreeT v T id) (hV : OneV N V F0)
    (H1 : (z < 0 ∨ (N : Int) ≤ z) → Hold Try.prog main S Stop (G (c.finish (.int .i64 1)) cs) v)
    (H2 : ∀ x : Nat, z = x → x < N → x ∈ F0 → Hold Try.prog main S Stop (G (c.finish (.int .i64 81)) cs) v)
    (H3 : ∀ (x : Nat) v' V', z = x → x < N → x ∉ F0 → Mods (cellsOfSl cb N) v v' → FreeSl v' s N lN lU cb V' → FreeT v' T id → OneV N V' (x :: F0) → Hold Try.prog main S Stop (G (c.finish (.int .i64 0)) cs) v') :
    Hold Try.prog main S Stop (G (Frame.enter Try.prog 16 #[.pointer (some ⟨s, 0, none⟩), .pointer (some ⟨T, 0, none⟩), .int .i64 z] .normal) (c :: cs)) v := by
  have F := hS.c
  obtain ⟨adN, cN, rfl⟩ := ownsRow_slice hS.nx
  obtain ⟨adU, cU, rfl⟩ := ownsRow_slice hS.us
  obtain ⟨b, a, hEq, hb, hbf, hat⟩ := enter_is Give_fn Give_body Give_tmps #[.pointer (some ⟨s, 0, none⟩), .pointer (some ⟨T, 0, none⟩), .int .i64 z] [(0, .pointer (some ⟨s, 0, none⟩)), (1, .pointer (some ⟨T, 0, none⟩)), (2, .int .i64 z)] rfl (by simp)
  rw [hEq]
  have hbk := not_early hb
  refine hold_unf Give_code_def <| hold_seq <| hold_region (l := [0]) rfl <| h_val noA hbk Give_0 rfl rfl (by decide) hat (r_assign rfl) fun a hat => hold_region_end <| hold_scope <| hold_seq <| hold_seq <| hold_region (l := [0,1,2,3,4,5,6,7,8,9,10]) rfl <| h_val noA hbk Give_1 rfl rfl (by decide) hat (r_move rfl) fun a hat => ?_
  by_cases h0 : z < 0
  · refine h_val noA hbk Give_1 rfl rfl (by decide) hat (r_bool (t' := true) (r_lss rfl rfl) (by simp [h0])) fun a hat => h_val noA hbk Give_1 rfl rfl (by decide) hat (r_move rfl) fun a hat => hg_no Give_1 rfl rfl rfl rfl (by decide) hat fun a hat => hg_no Give_1 rfl rfl rfl rfl (by decide) hat fun a hat => hg_no Give_1 rfl rfl rfl rfl (by decide) hat fun a hat => hg_no Give_1 rfl rfl rfl rfl (by decide) hat fun a hat => hg_no Give_1 rfl rfl rfl rfl (by decide) hat fun a hat => hg_no Give_1 rfl rfl rfl rfl (by decide) hat fun a hat => hg_no Give_1 rfl rfl rfl rfl (by decide) hat fun a hat => h_val noA hbk Give_1 rfl rfl (by decide) hat (r_pick rfl rfl) fun a hat => hold_region_end <| hold_condT (hat.eval (q := .tmp 18) rfl) rfl <| hold_seq ?_
    refine hold_region (l := [0]) rfl <| h_val noA hbk Give_2 rfl rfl (by decide) hat (r_assign rfl) fun a hat => hold_region_end <| hold_retd hb hbf Give_fn hat.defers (ret_one Give_res hat rfl) ?_
    exact H1 (.inl h0)
  · skip
    refine h_val noA hbk Give_1 rfl rfl (by decide) hat (r_bool (t' := false) (r_lss rfl rfl) (by simp; omega)) fun a hat => h_val noA hbk Give_1 rfl rfl (by decide) hat (r_move rfl) fun a hat => hg_yes noA hbk Give_1 rfl rfl rfl rfl (by decide) hat (r_move rfl) fun a hat => hg_yes noA hbk Give_1 rfl rfl rfl rfl (by decide) hat (r_move rfl) fun a hat => hg_yes noA hbk Give_1 rfl rfl rfl rfl (by decide) hat (r_nil rfl) fun a hat => hg_yes noA hbk Give_1 rfl rfl rfl rfl (by decide) hat (r_field fk_81_1 rfl) fun a hat => hg_yes noA hbk Give_1 rfl rfl rfl rfl (by decide) hat (r_load ld_79 rfl (cell_at' F)) fun a hat => hg_yes noA hbk Give_1 rfl rfl rfl rfl (by decide) hat (r_len lk_79 rfl) fun a hat => ?_
    by_cases h1 : (N : Int) ≤ z
    · refine hg_yes noA hbk Give_1 rfl rfl rfl rfl (by decide) hat (r_bool (t' := true) (r_geq rfl rfl) (by simp; omega)) fun a hat => h_val noA hbk Give_1 rfl rfl (by decide) hat (r_pick rfl rfl) fun a hat => hold_region_end <| hold_condT (hat.eval (q := .tmp 18) rfl) rfl <| hold_seq <| hold_region (l := [0]) rfl <| h_val noA hbk Give_2 rfl rfl (by decide) hat (r_assign rfl) fun a hat => hold_region_end <| hold_retd hb hbf Give_fn hat.defers (ret_one Give_res hat rfl) ?_
      exact H1 (.inr h1)
    · skip
      refine hg_yes noA hbk Give_1 rfl rfl rfl rfl (by decide) hat (r_bool (t' := false) (r_geq rfl rfl) (by simp; omega)) fun a hat => ?_
      obtain ⟨x, rfl⟩ : ∃ x : Nat, z = x := ⟨z.toNat, by omega⟩
      have hx : x < N := by omega
      obtain ⟨gU, capU, e, huc, _⟩ := ownsRow_at1 hS.us (cRow_get hx)
      cases e
      refine h_val noA hbk Give_1 rfl rfl (by decide) hat (r_pick rfl rfl) fun a hat => hold_region_end <| hold_condF (hat.eval (q := .tmp 18) rfl) rfl <| hold_skip <| hold_seq <| hold_seq <| hold_region (l := [0,1,2,3,4,5,6,7,8,9]) rfl <| h_val noA hbk Give_3 rfl rfl (by decide) hat (r_move rfl) fun a hat => h_val noA hbk Give_3 rfl rfl (by decide) hat (r_nil rfl) fun a hat => h_val noA hbk Give_3 rfl rfl (by decide) hat (r_field fk_81_2 rfl) fun a hat => h_val noA hbk Give_3 rfl rfl (by decide) hat (r_load ld_79 rfl (cell_at' F)) fun a hat => h_val noA hbk Give_3 rfl rfl (by decide) hat (r_move rfl) fun a hat => h_val noA hbk Give_3 rfl rfl (by decide) hat (r_index ix_79 rfl rfl (by omega) (by omega)) fun a hat => ?_
      refine h_val noA hbk Give_3 rfl rfl (by decide) hat (r_load ld_77 rfl (by simpa using huc)) fun a hat => h_val noA hbk Give_3 rfl rfl (by decide) hat (r_move rfl) fun a hat => h_callc hbk Give_3 rfl (by decide) hat Cas_fn Cas_bd Cas_nm (vals := #[_, _, _, _]) rfl fun c hc => ?_
      have hcu := hS.cells (2 + 2 * x) (by omega)
      have hused := hV.used x hx
      by_cases hf : x ∈ F0
      · rw [if_pos hf] at hused
        rw [hused] at hcu
        refine CasN_hold FT hcu (by decide) <| hold_fin hc fun a hat => h_val noA hbk Give_3 rfl rfl (by decide) hat (r_not rfl) fun a hat => hold_region_end <| hold_condT (hat.eval (q := .tmp 28) rfl) rfl <| hold_seq <| hold_region (l := [0]) rfl <| h_val noA hbk Give_4 rfl rfl (by decide) hat (r_assign rfl) fun a hat => hold_region_end <| hold_retd hb hbf Give_fn hat.defers (ret_one Give_res hat rfl) ?_
        exact H2 x rfl hx hf
      · rw [if_neg hf] at hused
        rw [hused] at hcu
        refine CasF_hold FT hcu fun v2 hP => ?_
        have hS2 := hS.put (by omega) hP
        have FT2 := FreeT.put FT hcu hP
        have hl := hS.len
        refine hold_fin hc fun a hat => h_val noA hbk Give_3 rfl rfl (by decide) hat (r_not rfl) fun a hat => hold_region_end <| hold_condF (hat.eval (q := .tmp 28) rfl) rfl <| hold_skip <| hold_seq <| hold_label <| hold_block <| hold_loop ?_
        refine GiveF_body hN hS2 FT2 hx hb hbf (fun v' V' hM hS' hT' hV' => H3 x v' V' rfl hx hf ((hP.modsS (by omega)).trans hM) hS' hT' ?_) (hat.sub (AtE.cons rfl (AtE.cons rfl (AtE.cons rfl (AtE.nil)))))
        subst hV'
        have h0 : getV (V.set (2 + 2 * x) 0) 0 = getV V 0 := by rw [getV_set (by omega), if_neg (by omega)]
        rw [h0]
        exact hV.give hN hx hf
end
end Go.Proofs.Ytecdiejeofclaaa


/- Plain: a run of slots by one thread alone comes to an end, and tells what it should. -/
namespace Go.Proofs.Ytecdiejeofclaaa
open Go
theorem getV_begin {sl : List Int} {N c : Nat} (h : c < 2 * N + 1) : getV (slSys sl N).vals c = (slInit N c : Nat) := by
  unfold getV slSys
  simp only [List.getElem?_map, List.getElem?_range h, Option.map_some, Option.getD_some]
theorem row_begin {sl : List Int} {N : Nat} : ∀ (m j : Nat), j + m = N → RowIs (slSys sl N).vals (List.range' j m)
  | 0, j, _ => trivial
  | m + 1, j, h => by
    rw [List.range'_succ]
    refine ⟨?_, row_begin m (j + 1) (by omega)⟩
    rw [getV_begin (by omega)]
    congr 1
    unfold slInit
    rw [if_neg (by omega), if_pos (by omega)]
    have e : (1 + 2 * j - 1) / 2 = j := by omega
    rw [e]
    cases m with
    | zero => rw [if_pos (by omega)]; rfl
    | succ m => rw [if_neg (by omega), List.range'_succ]; rfl
theorem one_begin {sl : List Int} {N : Nat} (hN : N ≤ 1000) : OneV N (slSys sl N).vals (List.range' 0 N) := by
  refine ⟨by simp [slSys], ?_, row_begin N 0 (by omega), fun x hx => by have := List.mem_range'_1.1 hx; omega, List.nodup_range', fun x hx => ?_⟩
  · rw [getV_begin (by omega)]
    unfold firstN
    have h1 : slInit N 0 = min N 1 := by unfold slInit; rw [if_pos rfl]
    rw [h1, u64_nat (by omega), low32]
    cases N with
    | zero => rfl
    | succ n => rw [List.range'_succ]; simp only [nextOf]; omega
  · rw [getV_begin (by omega), if_pos (List.mem_range'_1.2 (by omega))]
    unfold slInit
    rw [if_neg (by omega), if_neg (by omega)]; rfl
end Go.Proofs.Ytecdiejeofclaaa


/- slots.New, of no world. -/
namespace Go.Proofs.Ytecdiejeofclaaa
open Go Go.Conc
theorem push0 {lo k B C g cap : Nat} {x0 : Int} {lv : Value} {row : List Value} {arr arr' : Array Value} {v v' v2 w v5 : World} (hg1 : Grow v v') (hB' : CellAt v' B 0 x0) (hg : Grow v' v2) (hl : v.ownsRow 0 77 1 lv k row) (hlow : ∀ b, lv.ownBlock = some b → lo ≤ b) (hlo : lo ≤ v.heap.size)
    (hAp : Apped v2 lv 77 1 (k + 1) (row ++ [.pointer (some ⟨B, 0, none⟩)]) g cap w) (hCs : v.heap[C]? = some (.cells arr 81 (0, 0))) (hP : Puts w v5 C (.cells arr' 81 (0, 0))) (hC : lo ≤ C) :
    v5.ownsRow 0 77 1 (.slice (some ⟨g, 0, none⟩) (k + 1) cap) (k + 1) (row ++ [.pointer (some ⟨B, 0, none⟩)]) ∧ lo ≤ g ∧ (lv.ownBlock = some g ∨ v.heap.size ≤ g) ∧
    (∀ (x : Nat) (c : Array Value) (t : TypeId) (fr : Nat × Nat), v.heap[x]? = some (.cells c t fr) → t ≠ 74 → t ≠ 3 → t ≠ 77 → t ≠ 81 → v5.heap[x]? = some (.cells c t fr)) ∧
    (∀ lo k' row', v.ownsRow 0 77 1 lo k' row' → (∀ b, lo.ownBlock = some b → lv.ownBlock ≠ some b) → v5.ownsRow 0 77 1 lo k' row') ∧ v5.heap[B]? = some (.cells #[.int .i64 0, .int .i64 x0] 100 (0, 0)) ∧
    (∀ b, b < lo → v5.heap[b]? = v.heap[b]?) ∧ v.heap.size ≤ v5.heap.size := by
  have hl2 : v2.ownsRow 0 77 1 lv k row := owns_grow hl (hg1.trans hg)
  have kp : ∀ (x : Nat) (arr : Array Value) (t : TypeId) (fr : Nat × Nat), v'.heap[x]? = some (.cells arr t fr) → t ≠ 77 → w.heap[x]? = some (.cells arr t fr) := fun x arr t fr hx ht => (hAp.same x (lt_of_heap (hg.at hx)) (own_ne hl2 (hg.at hx) ht)).trans (hg.at hx)
  have hC3 : w.heap[C]? = some (.cells arr 81 (0, 0)) := kp _ _ _ _ (hg1.at hCs) (by decide)
  have kp5 : ∀ (x : Nat) (arr : Array Value) (t : TypeId) (fr : Nat × Nat), w.heap[x]? = some (.cells arr t fr) → t ≠ 81 → v5.heap[x]? = some (.cells arr t fr) := fun x arr t fr hx ht => (hP.other x (fun e => by rw [e, hC3] at hx; cases hx; exact ht rfl)).trans hx
  have hsz := Nat.le_trans hg1.size hg.size
  refine ⟨ownsRow_keep hAp.owns fun x y hx hy => (kp5 _ _ _ _ hy (by decide)).trans hy.symm, ?_, ?_, fun x c t fr hx n1 n2 n3 n4 => kp5 _ _ _ _ (kp _ _ _ _ (hg1.at hx) n3) n4, fun lo k' row' ho hne => ?_, kp5 _ _ _ _ (kp _ _ _ _ hB' (by decide)) (by decide), fun b hb => ?_, ?_⟩
  · rcases hAp.where_ with e | e
    · exact hlow g e
    · omega
  · exact hAp.where_.imp id fun e => by omega
  · refine ownsRow_keep ho fun x y hx hy => ?_
    have h2 := (hg1.trans hg).at hy
    exact (kp5 _ _ _ _ ((hAp.same x (lt_of_heap h2) (hne x hx)).trans h2) (by decide)).trans hy.symm
  · have n1 : lv.ownBlock ≠ some b := fun e => by have := hlow b e; omega
    exact (hP.other b (by omega)).trans ((hAp.same b (by omega) n1).trans (((hg1.trans hg).same b (by omega))))
  · rw [hP.size]
    exact Nat.le_trans hsz hAp.size
section
variable {S : Addr → Prop} {main : Bool} {Stop : Goroutine → World → Prop} {cs : List Frame} {c : Frame} {v : World}
theorem slNew0_loop {b : Frame} (hbk : b.kind ≠ .early) {k : List Item} {N C : Nat} {u : World} (hN : N ≤ 1000) (hr0 : Ready0 u)
    (H : ∀ v a lN lU cb, Grow u v → SlotsIn (fun _ => 0) u.heap.size N v C lN lU cb N 0 → AtE 52 [] [(5, .pointer (some ⟨C, 0, none⟩))] a → Hold Try.prog main S Stop (G (b.at a k) cs) v) :
    ∀ (r i : Nat) (v : World) (a : Act) (lN lU : Value) (cb : Nat → Nat), i + r = N → Grow u v → SlotsIn (fun _ => 0) u.heap.size N v C lN lU cb i 0 →
      AtE 52 [] [(18, .int .i64 i), (17, .int .i64 N), (5, .pointer (some ⟨C, 0, none⟩)), (1, .int .i64 N), (0, .pointer none)] a → Hold Try.prog main S Stop (G (b.at a (.code slNew_L0 :: .inLoop slNew_L0 :: .inBlock 0 :: k)) cs) v := by
  intro r
  induction r with
  | zero =>
    intro i v a lN lU cb hi hGv hSh hat
    obtain rfl : i = N := by omega
    refine hold_unf slNew_L0_def <| hold_seq <| hold_region (l := [0]) rfl <| h_val noA hbk slNew_4 rfl rfl (by decide) hat (r_bool (t' := false) (r_lss rfl rfl) (by first | (simp; omega) | (simp; done) | (simp_all; done) | (simp_all; omega))) fun a hat => hold_region_end <| hold_seq <| hold_condF (hat.eval (q := .tmp 19) rfl) rfl <| hold_exit (k' := _) rfl ?_
    exact H v a lN lU cb hGv hSh (hat.sub (AtE.cons rfl (AtE.nil)))
  | succ r ih =>
    intro i v a lN lU cb hi hGv hSh hat
    refine hold_unf slNew_L0_def <| hold_seq <| hold_region (l := [0]) rfl <| h_val noA hbk slNew_4 rfl rfl (by decide) hat (r_bool (t' := true) (r_lss rfl rfl) (by first | (simp; omega) | (simp; done) | (simp_all; done) | (simp_all; omega))) fun a hat => hold_region_end <| hold_seq <| hold_condT (hat.eval (q := .tmp 19) rfl) rfl <| hold_skip <| hold_seq <| hold_block <| hold_seq <| hold_region (l := [0,1]) rfl <| h_val noA hbk slNew_5 rfl rfl (by decide) hat (r_move rfl) fun a hat => ?_
    refine h_val noA hbk slNew_5 rfl rfl (by decide) hat (r_assign rfl) fun a hat => hold_region_end <| hold_seq <| hold_region (l := [0,1,2]) rfl <| h_val noA hbk slNew_6 rfl rfl (by decide) hat (r_move rfl) fun a hat => h_val noA hbk slNew_6 rfl rfl (by decide) hat (r_add rfl rfl (by first | omega | (simp; omega))) fun a hat => h_val noA hbk slNew_6 rfl rfl (by decide) hat (r_assign rfl) fun a hat => hold_region_end <| hold_seq <| hold_seq <| hold_region (l := [0,1,2,3]) rfl <| h_val noA hbk slNew_7 rfl rfl (by decide) hat (r_move rfl) fun a hat => h_val noA hbk slNew_7 rfl rfl (by decide) hat (r_move rfl) fun a hat => ?_
    refine h_val noA hbk slNew_7 rfl rfl (by decide) hat (r_sub rfl rfl (by first | omega | (simp; omega))) fun a hat => ?_
    by_cases hl : i + 1 = N
    · have hto : (0 : Int) = ((slInit N (2 * i + 1) : Nat) : Int) := by unfold slInit; rw [if_neg (by omega), if_pos (by omega), if_pos (by omega)]; rfl
      refine h_val noA hbk slNew_7 rfl (opOk_eq (by kernel_rfl)) (by decide) hat (r_bool (t' := true) (r_eql rfl rfl) (by simp; omega)) fun a hat => hold_region_end <| hold_condT (hat.eval (q := .tmp 26) rfl) rfl <| hold_region (l := [0]) rfl <| h_val noA hbk slNew_8 rfl rfl (by decide) hat (r_assign rfl) fun a hat => hold_region_end <| hold_seq ?_
      have hCs := hSh.c
      refine hold_drawK (ts := [77]) (ord := [0,1,2,3,4,5,6,7,8,9,10,11,12]) (bigs := [7,8,9,12]) (by kernel_rfl) (by kernel_rfl) hat <| tk_val noA hbk slNew_9 rfl rfl rfl (fun v' hk => r_move rfl) <| tk_val noA hbk slNew_9 rfl rfl rfl (fun v' hk => r_move rfl) <| tk_val noA hbk slNew_9 rfl rfl rfl (fun v' hk => r_nil rfl) <| tk_val noA hbk slNew_9 rfl rfl rfl (fun v' hk => r_field fk_81_1 rfl) <| tk_val noA hbk slNew_9 rfl rfl rfl (fun v' hk => r_load ld_79 rfl (cell_at' (hk.same _ _ _ _ hCs (by decide)))) <| tk_val noA hbk slNew_9 rfl rfl rfl (fun v' hk => r_move rfl) <| tk_val noA hbk slNew_9 rfl rfl rfl (fun v' hk => r_move rfl) <| tk_call hbk slNew_9 rfl rfl cellNew_fn cellNew_bd cellNew_nm (vals := #[_, _]) rfl fun c K => cellNew0_hold (x0 := 0) fun v' B hg1 hB hB' => K _ v' hg1.keepT <| tk_step noA hbk slNew_9 rfl rfl rfl (bs_79_1_0 rfl rfl) (Grow.keepT grow_alloc) ?_
      have hg : Grow v' (v'.alloc (.cells #[.pointer (some ⟨B, 0, none⟩)] 77 (0, 0))) := grow_alloc
      have hat2 : (v'.alloc (.cells #[.pointer (some ⟨B, 0, none⟩)] 77 (0, 0))).heap[v'.heap.size]? = some (.cells #[.pointer (some ⟨B, 0, none⟩)] 77 (0, 0)) := by show (v'.heap.push _)[_]? = _; simp
      generalize v'.alloc (.cells #[.pointer (some ⟨B, 0, none⟩)] 77 (0, 0)) = v2 at hg hat2 ⊢
      have hl2 := owns_grow hSh.nx (hg1.trans hg)
      refine tk_any noA hbk slNew_9 rfl rfl rfl ((hGv.trans (hg1.trans hg)).ready hr0) (app_runs ek_79 hl2 rfl rfl hat2 rfl (by simp [Value.oneCell']) (by decide) (Nat.le_trans (show _ ≤ 1002 by omega) (by decide)) (by omega)) (fun y w ⟨g, cap, _, hk', _⟩ => ?_) fun y w hQ hrd3 => ?_
      · refine ⟨hk'.1, fun x arr t fr hx ht => (hk'.2 x (lt_of_heap hx) (own_ne hl2 hx fun e => ht (by rw [e]; decide))).trans hx⟩
      obtain ⟨g, cap, rfl, _, hAp⟩ := hQ
      have hAp := hAp hrd3
      refine tk_val noA hbk slNew_9 rfl rfl rfl (fun v' hk => r_nil rfl) <| tk_val noA hbk slNew_9 rfl rfl rfl (fun v' hk => r_field fk_81_1 rfl) ?_
      have hC3 := (hAp.same C (lt_of_heap (hg.at (hg1.at hCs))) (own_ne hl2 (hg.at (hg1.at hCs)) (by decide))).trans (hg.at (hg1.at hCs))
      refine tk_put noA hbk slNew_9 rfl rfl rfl (by kernel_rfl) (p_store st_79 rfl rfl rfl hC3 rfl rfl) fun v5 hP => ?_
      have hlow := hSh.lows
      obtain ⟨k2, k3, k4, k5, k6, k8, k9, k10⟩ := push0 hg1 hB' hg hSh.nx hlow.2.1 hGv.size hAp hCs hP hlow.1
      have hC5 := hP.at_
      simp only [List.setIfInBounds_toArray, List.set_cons_zero, List.set_cons_succ] at hC5
      have hSh := hSh.next hB hC5 k2 k3 k4 k5 k6 (Nat.le_trans hGv.size hB) (by rw [← hto]; exact k8)
      have hGv : Grow u v5 := ⟨Nat.le_trans hGv.size k10, fun b hb => (k9 b hb).trans (hGv.same b hb), fun _ => hP.ready hrd3⟩
      clear hCs hg1 hB hB' hg hat2 hl2 hAp hC3 hlow k2 k3 k4 k5 k6 k8 k9 k10 hC5 hP hrd3
      refine tk_end fun a hat => ?_
      have hCs := hSh.c
      refine hold_drawK (ts := [77]) (ord := [0,1,2,3,4,5,6,7,8,9,10,11]) (bigs := [6,7,8,11]) (by kernel_rfl) (by kernel_rfl) hat <| tk_val noA hbk slNew_10 rfl rfl rfl (fun v' hk => r_move rfl) <| tk_val noA hbk slNew_10 rfl rfl rfl (fun v' hk => r_move rfl) <| tk_val noA hbk slNew_10 rfl rfl rfl (fun v' hk => r_nil rfl) <| tk_val noA hbk slNew_10 rfl rfl rfl (fun v' hk => r_field fk_81_2 rfl) <| tk_val noA hbk slNew_10 rfl rfl rfl (fun v' hk => r_load ld_79 rfl (cell_at' (hk.same _ _ _ _ hCs (by decide)))) <| tk_val noA hbk slNew_10 rfl rfl rfl (fun v' hk => r_move rfl) <| tk_call hbk slNew_10 rfl rfl cellNew_fn cellNew_bd cellNew_nm (vals := #[_, _]) rfl fun c K => cellNew0_hold (x0 := 0) fun v' B hg1 hB hB' => K _ v' hg1.keepT <| tk_step noA hbk slNew_10 rfl rfl rfl (bs_79_1_0 rfl rfl) (Grow.keepT grow_alloc) ?_
      have hg : Grow v' (v'.alloc (.cells #[.pointer (some ⟨B, 0, none⟩)] 77 (0, 0))) := grow_alloc
      have hat2 : (v'.alloc (.cells #[.pointer (some ⟨B, 0, none⟩)] 77 (0, 0))).heap[v'.heap.size]? = some (.cells #[.pointer (some ⟨B, 0, none⟩)] 77 (0, 0)) := by show (v'.heap.push _)[_]? = _; simp
      generalize v'.alloc (.cells #[.pointer (some ⟨B, 0, none⟩)] 77 (0, 0)) = v2 at hg hat2 ⊢
      have hl2 := owns_grow hSh.us (hg1.trans hg)
      refine tk_any noA hbk slNew_10 rfl rfl rfl ((hGv.trans (hg1.trans hg)).ready hr0) (app_runs ek_79 hl2 rfl rfl hat2 rfl (by simp [Value.oneCell']) (by decide) (Nat.le_trans (show _ ≤ 1002 by omega) (by decide)) (by omega)) (fun y w ⟨g, cap, _, hk', _⟩ => ?_) fun y w hQ hrd3 => ?_
      · refine ⟨hk'.1, fun x arr t fr hx ht => (hk'.2 x (lt_of_heap hx) (own_ne hl2 hx fun e => ht (by rw [e]; decide))).trans hx⟩
      obtain ⟨g, cap, rfl, _, hAp⟩ := hQ
      have hAp := hAp hrd3
      refine tk_val noA hbk slNew_10 rfl rfl rfl (fun v' hk => r_nil rfl) <| tk_val noA hbk slNew_10 rfl rfl rfl (fun v' hk => r_field fk_81_2 rfl) ?_
      have hC3 := (hAp.same C (lt_of_heap (hg.at (hg1.at hCs))) (own_ne hl2 (hg.at (hg1.at hCs)) (by decide))).trans (hg.at (hg1.at hCs))
      refine tk_put noA hbk slNew_10 rfl rfl rfl (by kernel_rfl) (p_store st_79 rfl rfl rfl hC3 rfl rfl) fun v9 hP => ?_
      have hlow := hSh.lows
      obtain ⟨k2, k3, k4, k5, k6, k8, k9, k10⟩ := push0 hg1 hB' hg hSh.us hlow.2.2 hGv.size hAp hCs hP hlow.1
      have hC5 := hP.at_
      simp only [List.setIfInBounds_toArray, List.set_cons_zero, List.set_cons_succ] at hC5
      have hSh := hSh.used hB hC5 k2 k3 k4 k5 k6 (Nat.le_trans hGv.size hB) k8
      have hGv : Grow u v9 := ⟨Nat.le_trans hGv.size k10, fun b hb => (k9 b hb).trans (hGv.same b hb), fun _ => hP.ready hrd3⟩
      clear hCs hg1 hB hB' hg hat2 hl2 hAp hC3 hlow k2 k3 k4 k5 k6 k8 k9 k10 hC5 hP hrd3
      refine tk_end fun a hat => hold_inBlock <| hold_region (l := [0,1]) rfl <| h_val noA hbk slNew_11 rfl rfl (by decide) hat (r_add rfl rfl (by first | omega | (simp; omega))) fun a hat => h_val noA hbk slNew_11 rfl rfl (by decide) hat (r_move rfl) fun a hat => hold_region_end <| hold_inLoop ?_
      exact ih (i + 1) _ _ _ _ _ (by omega) hGv hSh (hat.sub (AtE.cons rfl (AtE.cons rfl (AtE.cons rfl (AtE.cons rfl (AtE.cons rfl (AtE.nil)))))))
    · have hto : ((i : Int) + 2) = ((slInit N (2 * i + 1) : Nat) : Int) := by unfold slInit; rw [if_neg (by omega), if_pos (by omega), if_neg (by omega)]; omega
      refine h_val noA hbk slNew_7 rfl (opOk_eq (by kernel_rfl)) (by decide) hat (r_bool (t' := false) (r_eql rfl rfl) (by simp; omega)) fun a hat => hold_region_end <| hold_condF (hat.eval (q := .tmp 26) rfl) rfl <| hold_skip <| hold_seq ?_
      have hCs := hSh.c
      refine hold_drawK (ts := [77]) (ord := [0,1,2,3,4,5,6,7,8,9,10,11,12]) (bigs := [7,8,9,12]) (by kernel_rfl) (by kernel_rfl) hat <| tk_val noA hbk slNew_9 rfl rfl rfl (fun v' hk => r_move rfl) <| tk_val noA hbk slNew_9 rfl rfl rfl (fun v' hk => r_move rfl) <| tk_val noA hbk slNew_9 rfl rfl rfl (fun v' hk => r_nil rfl) <| tk_val noA hbk slNew_9 rfl rfl rfl (fun v' hk => r_field fk_81_1 rfl) <| tk_val noA hbk slNew_9 rfl rfl rfl (fun v' hk => r_load ld_79 rfl (cell_at' (hk.same _ _ _ _ hCs (by decide)))) <| tk_val noA hbk slNew_9 rfl rfl rfl (fun v' hk => r_move rfl) <| tk_val noA hbk slNew_9 rfl rfl rfl (fun v' hk => r_move rfl) <| tk_call hbk slNew_9 rfl rfl cellNew_fn cellNew_bd cellNew_nm (vals := #[_, _]) rfl fun c K => cellNew0_hold (x0 := (i : Int) + 2) fun v' B hg1 hB hB' => K _ v' hg1.keepT <| tk_step noA hbk slNew_9 rfl rfl rfl (bs_79_1_0 rfl rfl) (Grow.keepT grow_alloc) ?_
      have hg : Grow v' (v'.alloc (.cells #[.pointer (some ⟨B, 0, none⟩)] 77 (0, 0))) := grow_alloc
      have hat2 : (v'.alloc (.cells #[.pointer (some ⟨B, 0, none⟩)] 77 (0, 0))).heap[v'.heap.size]? = some (.cells #[.pointer (some ⟨B, 0, none⟩)] 77 (0, 0)) := by show (v'.heap.push _)[_]? = _; simp
      generalize v'.alloc (.cells #[.pointer (some ⟨B, 0, none⟩)] 77 (0, 0)) = v2 at hg hat2 ⊢
      have hl2 := owns_grow hSh.nx (hg1.trans hg)
      refine tk_any noA hbk slNew_9 rfl rfl rfl ((hGv.trans (hg1.trans hg)).ready hr0) (app_runs ek_79 hl2 rfl rfl hat2 rfl (by simp [Value.oneCell']) (by decide) (Nat.le_trans (show _ ≤ 1002 by omega) (by decide)) (by omega)) (fun y w ⟨g, cap, _, hk', _⟩ => ?_) fun y w hQ hrd3 => ?_
      · refine ⟨hk'.1, fun x arr t fr hx ht => (hk'.2 x (lt_of_heap hx) (own_ne hl2 hx fun e => ht (by rw [e]; decide))).trans hx⟩
      obtain ⟨g, cap, rfl, _, hAp⟩ := hQ
      have hAp := hAp hrd3
      refine tk_val noA hbk slNew_9 rfl rfl rfl (fun v' hk => r_nil rfl) <| tk_val noA hbk slNew_9 rfl rfl rfl (fun v' hk => r_field fk_81_1 rfl) ?_
      have hC3 := (hAp.same C (lt_of_heap (hg.at (hg1.at hCs))) (own_ne hl2 (hg.at (hg1.at hCs)) (by decide))).trans (hg.at (hg1.at hCs))
      refine tk_put noA hbk slNew_9 rfl rfl rfl (by kernel_rfl) (p_store st_79 rfl rfl rfl hC3 rfl rfl) fun v5 hP => ?_
      have hlow := hSh.lows
      obtain ⟨k2, k3, k4, k5, k6, k8, k9, k10⟩ := push0 hg1 hB' hg hSh.nx hlow.2.1 hGv.size hAp hCs hP hlow.1
      have hC5 := hP.at_
      simp only [List.setIfInBounds_toArray, List.set_cons_zero, List.set_cons_succ] at hC5
      have hSh := hSh.next hB hC5 k2 k3 k4 k5 k6 (Nat.le_trans hGv.size hB) (by rw [← hto]; exact k8)
      have hGv : Grow u v5 := ⟨Nat.le_trans hGv.size k10, fun b hb => (k9 b hb).trans (hGv.same b hb), fun _ => hP.ready hrd3⟩
      clear hCs hg1 hB hB' hg hat2 hl2 hAp hC3 hlow k2 k3 k4 k5 k6 k8 k9 k10 hC5 hP hrd3
      refine tk_end fun a hat => ?_
      have hCs := hSh.c
      refine hold_drawK (ts := [77]) (ord := [0,1,2,3,4,5,6,7,8,9,10,11]) (bigs := [6,7,8,11]) (by kernel_rfl) (by kernel_rfl) hat <| tk_val noA hbk slNew_10 rfl rfl rfl (fun v' hk => r_move rfl) <| tk_val noA hbk slNew_10 rfl rfl rfl (fun v' hk => r_move rfl) <| tk_val noA hbk slNew_10 rfl rfl rfl (fun v' hk => r_nil rfl) <| tk_val noA hbk slNew_10 rfl rfl rfl (fun v' hk => r_field fk_81_2 rfl) <| tk_val noA hbk slNew_10 rfl rfl rfl (fun v' hk => r_load ld_79 rfl (cell_at' (hk.same _ _ _ _ hCs (by decide)))) <| tk_val noA hbk slNew_10 rfl rfl rfl (fun v' hk => r_move rfl) <| tk_call hbk slNew_10 rfl rfl cellNew_fn cellNew_bd cellNew_nm (vals := #[_, _]) rfl fun c K => cellNew0_hold (x0 := 0) fun v' B hg1 hB hB' => K _ v' hg1.keepT <| tk_step noA hbk slNew_10 rfl rfl rfl (bs_79_1_0 rfl rfl) (Grow.keepT grow_alloc) ?_
      have hg : Grow v' (v'.alloc (.cells #[.pointer (some ⟨B, 0, none⟩)] 77 (0, 0))) := grow_alloc
      have hat2 : (v'.alloc (.cells #[.pointer (some ⟨B, 0, none⟩)] 77 (0, 0))).heap[v'.heap.size]? = some (.cells #[.pointer (some ⟨B, 0, none⟩)] 77 (0, 0)) := by show (v'.heap.push _)[_]? = _; simp
      generalize v'.alloc (.cells #[.pointer (some ⟨B, 0, none⟩)] 77 (0, 0)) = v2 at hg hat2 ⊢
      have hl2 := owns_grow hSh.us (hg1.trans hg)
      refine tk_any noA hbk slNew_10 rfl rfl rfl ((hGv.trans (hg1.trans hg)).ready hr0) (app_runs ek_79 hl2 rfl rfl hat2 rfl (by simp [Value.oneCell']) (by decide) (Nat.le_trans (show _ ≤ 1002 by omega) (by decide)) (by omega)) (fun y w ⟨g, cap, _, hk', _⟩ => ?_) fun y w hQ hrd3 => ?_
      · refine ⟨hk'.1, fun x arr t fr hx ht => (hk'.2 x (lt_of_heap hx) (own_ne hl2 hx fun e => ht (by rw [e]; decide))).trans hx⟩
      obtain ⟨g, cap, rfl, _, hAp⟩ := hQ
      have hAp := hAp hrd3
      refine tk_val noA hbk slNew_10 rfl rfl rfl (fun v' hk => r_nil rfl) <| tk_val noA hbk slNew_10 rfl rfl rfl (fun v' hk => r_field fk_81_2 rfl) ?_
      have hC3 := (hAp.same C (lt_of_heap (hg.at (hg1.at hCs))) (own_ne hl2 (hg.at (hg1.at hCs)) (by decide))).trans (hg.at (hg1.at hCs))
      refine tk_put noA hbk slNew_10 rfl rfl rfl (by kernel_rfl) (p_store st_79 rfl rfl rfl hC3 rfl rfl) fun v9 hP => ?_
      have hlow := hSh.lows
      obtain ⟨k2, k3, k4, k5, k6, k8, k9, k10⟩ := push0 hg1 hB' hg hSh.us hlow.2.2 hGv.size hAp hCs hP hlow.1
      have hC5 := hP.at_
      simp only [List.setIfInBounds_toArray, List.set_cons_zero, List.set_cons_succ] at hC5
      have hSh := hSh.used hB hC5 k2 k3 k4 k5 k6 (Nat.le_trans hGv.size hB) k8
      have hGv : Grow u v9 := ⟨Nat.le_trans hGv.size k10, fun b hb => (k9 b hb).trans (hGv.same b hb), fun _ => hP.ready hrd3⟩
      clear hCs hg1 hB hB' hg hat2 hl2 hAp hC3 hlow k2 k3 k4 k5 k6 k8 k9 k10 hC5 hP hrd3
      refine tk_end fun a hat => hold_inBlock <| hold_region (l := [0,1]) rfl <| h_val noA hbk slNew_11 rfl rfl (by decide) hat (r_add rfl rfl (by first | omega | (simp; omega))) fun a hat => h_val noA hbk slNew_11 rfl rfl (by decide) hat (r_move rfl) fun a hat => hold_region_end <| hold_inLoop ?_
      exact ih (i + 1) _ _ _ _ _ (by omega) hGv hSh (hat.sub (AtE.cons rfl (AtE.cons rfl (AtE.cons rfl (AtE.cons rfl (AtE.cons rfl (AtE.nil)))))))
theorem SlotsIn.free {u v : World} {N C : Nat} {lN lU : Value} {cb : Nat → Nat} (h : SlotsIn (fun _ => 0) u.heap.size N v C lN lU cb N 0) : FreeSl v C N lN lU cb (slSys [] N).vals := by
  refine ⟨h.c, h.nx, h.us, fun c hc => ?_, by simp [slSys], fun i j hi hj e => ?_⟩
  · rw [getV_begin hc]
    exact (h.cells c hc).2
  · rcases Nat.lt_trichotomy i j with hl | hl | hl
    · have := h.inj i j hl hj; omega
    · exact hl
    · have := h.inj j i hl hi; omega
theorem slNew0_hold {u : World} {n : Int} (hr : Ready0 u)
    (H : ∀ v' C lN lU cb, Grow u v' → u.heap.size ≤ C → FreeSl v' C (slMany n) lN lU cb (slSys [] (slMany n)).vals → (∀ c, c < 2 * slMany n + 1 → u.heap.size ≤ cb c) → Hold Try.prog main S Stop (G (c.finish (.pointer (some ⟨C, 0, none⟩))) cs) v') :
    Hold Try.prog main S Stop (G (Frame.enter Try.prog 14 #[.pointer none, .int .i64 n] .normal) (c :: cs)) u := by
  have hG := Grow.refl u
  obtain ⟨b, a, hEq, hb, hbf, hat⟩ := enter_is slNew_fn slNew_body slNew_tmps #[.pointer none, .int .i64 n] [(0, .pointer none), (1, .int .i64 n)] rfl (by simp)
  rw [hEq]
  have hbk := not_early hb
  refine hold_unf slNew_code_def <| hold_seq <| hold_region (l := [0]) rfl <| h_val noA hbk slNew_0 rfl rfl (by decide) hat (r_assign rfl) fun a hat => hold_region_end <| hold_seq <| hold_region (l := [0,1,2,3]) rfl <| h_val noA hbk slNew_1 rfl rfl (by decide) hat (r_move rfl) fun a hat => h_still hbk slNew_1 rfl (by decide) hat (r_max rfl rfl) fun a hat => h_still hbk slNew_1 rfl (by decide) hat (r_min rfl rfl) fun a hat => h_val noA hbk slNew_1 rfl rfl (by decide) hat (r_assign rfl) fun a hat => hold_region_end <| hold_seq ?_
  refine hold_region (l := [0,1,2,3,4,5,6]) rfl <| h_val noA hbk slNew_2 rfl rfl (by decide) hat (r_move rfl) fun a hat => h_val noA hbk slNew_2 rfl rfl (by decide) hat (r_move rfl) fun a hat => ?_
  rw [← slMany_is n] at hat
  have hm := slMany_le n
  generalize slMany n = N at *
  refine h_still hbk slNew_2 rfl (by decide) hat (r_min rfl rfl) fun a hat => h_callc hbk slNew_2 rfl (by decide) hat cellNew_fn cellNew_bd cellNew_nm (vals := #[_, _]) rfl fun c hc => ?_
  have h1 : (if (1 : Int) < (N : Int) then (1 : Int) else (N : Int)) = ((slInit N 0 : Nat) : Int) := by unfold slInit; rw [if_pos rfl]; omega
  rw [h1]
  refine cellNew0_hold fun v B hg1 hB hB' => hold_fin hc fun a hat => ?_
  have hG := Grow.refl v
  refine h_val noA hbk slNew_2 rfl rfl (by decide) hat (bu_81_0 rfl rfl) fun a hat => h_new noA hbk slNew_2 rfl rfl (by decide) hat (bx_81 rfl) fun v a B16 hB16 hsB16 hg F16 hat => ?_
  have gB16 := Nat.le_trans hG.size (Nat.le_of_eq hB16)
  replace hG := hG.trans hg
  refine h_val noA hbk slNew_2 rfl rfl (by decide) hat (r_assign rfl) fun a hat => hold_region_end <| hold_seq <| hold_seq <| hold_region (l := [0,1]) rfl <| h_val noA hbk slNew_3 rfl rfl (by decide) hat (r_move rfl) fun a hat => h_val noA hbk slNew_3 rfl rfl (by decide) hat (r_move rfl) fun a hat => hold_region_end <| hold_block <| hold_loop ?_
  refine slNew0_loop hbk hm hr (fun v a lN lU cb hGv hSh hat => ?_) N 0 v a (.slice none 0 0) (.slice none 0 0) (fun _ => B) (by omega) (hg1.trans hG) ⟨F16, ⟨rfl, .inl ⟨rfl, rfl⟩⟩, ⟨rfl, .inl ⟨rfl, rfl⟩⟩, fun b hb => by (cases hb), ⟨Nat.le_trans hg1.size gB16, fun b hb => by (cases hb), fun b hb => by (cases hb)⟩, fun c hc => ?_, fun x y hxy hy => by omega⟩ (hat.sub (AtE.cons rfl (AtE.cons rfl (AtE.cons rfl (AtE.cons rfl (AtE.cons rfl (AtE.nil)))))))
  · skip
    refine hold_seq <| hold_region (l := [0,1]) rfl <| h_val noA hbk slNew_12 rfl rfl (by decide) hat (r_move rfl) fun a hat => h_val noA hbk slNew_12 rfl rfl (by decide) hat (r_assign rfl) fun a hat => hold_region_end <| hold_retd hb hbf slNew_fn hat.defers (ret_one slNew_res hat rfl) ?_
    exact H v _ lN lU cb hGv hSh.lows.1 hSh.free fun c hc => (hSh.cells c hc).1
  · obtain rfl : c = 0 := by omega
    exact ⟨hB, hG.at hB'⟩
end
end Go.Proofs.Ytecdiejeofclaaa


/- butlerref02.May; fair. -/
namespace Go.Proofs.Ytecdiejeofclaaa
open Go Go.Conc
section
variable {S : Addr → Prop} {main : Bool} {Stop : Goroutine → World → Prop} {cs : List Frame} {c : Frame} {v : World}
def callsFlat (l : List ACall) : List Value := l.flatMap fun x => [.int .i64 x.op, .int .i64 x.a, .int .i64 x.b, .int .i64 x.c]
end
end Go.Proofs.Ytecdiejeofclaaa


/- fair. -/
namespace Go.Proofs.Ytecdiejeofclaaa
open Go Go.Conc
/-- The scripts that 'fair' makes. -/
structure FairAt (lo : Nat) (v : World) (sv : Value) (n : Nat) (lv : Nat → Value) (L : Nat → List ACall) : Prop where
  rows : v.ownsRow 0 25 1 sv n ((List.range n).map lv)
  low : ∀ b, sv.ownBlock = some b → lo ≤ b
  each : ∀ j, j < n → v.ownsRow 0 39 4 (lv j) (L j).length (callsFlat (L j))
  lows : ∀ j, j < n → ∀ b, (lv j).ownBlock = some b → lo ≤ b
theorem FairAt.keep {lo n : Nat} {v v' : World} {sv : Value} {lv : Nat → Value} {L : Nat → List ACall} (h : FairAt lo v sv n lv L) (hG : Grow v v') : FairAt lo v' sv n lv L :=
  ⟨owns_grow h.rows hG, h.low, fun j hj => owns_grow (h.each j hj) hG, h.lows⟩
section
variable {S : Addr → Prop} {main : Bool} {Stop : Goroutine → World → Prop} {cs : List Frame} {c : Frame}
end
end Go.Proofs.Ytecdiejeofclaaa


/- Two rows of ints that a function has in hand. -/
namespace Go.Proofs.Ytecdiejeofclaaa
open Go Go.Conc
abbrev intsN (X : List Nat) : List Value := ints (X.map Int.ofNat)
theorem intsN_last {X : List Nat} (h : X ≠ []) : (intsN X)[((X.length : Int) - 1).toNat]? = some (.int .i64 (X.getLastD 0 : Nat)) := by
  obtain ⟨l, x, rfl⟩ := snoc_of_ne h
  simp [ints]
theorem row_last {v : World} {xv : Value} {X : List Nat} (h : v.ownsRow 0 3 1 xv X.length (intsN X)) (h0 : X ≠ []) :
    ∃ g cap, xv = .slice (some ⟨g, 0, none⟩) X.length cap ∧ v.cell? ⟨g, ((X.length : Int) - 1).toNat, none⟩ = some (.int .i64 (X.getLastD 0 : Nat)) ∧ X.length ≤ cap ∧ v.ownsRow 0 3 1 (.slice (some ⟨g, 0, none⟩) ((X.length : Int) - 1).toNat cap) X.dropLast.length (intsN X.dropLast) := by
  have hpos := List.length_pos_iff.2 h0
  obtain ⟨g, cap, rfl, h2, _⟩ := ownsRow_at1 h (intsN_last h0)
  refine ⟨g, cap, rfl, h2, ?_⟩
  rcases h.2 with ⟨h1, _⟩ | ⟨g', cap', cur, h1, e1, e2, e3, e4, e5, e6⟩
  · cases h1
  · cases h1
    refine ⟨e3, by simp [ints], .inr ⟨g, cap, cur, ?_, Nat.zero_le _, e2, by simp; omega, e4, e5, ?_⟩⟩
    · simp
    · rw [Nat.mul_one] at e6
      simp only [List.length_dropLast, Nat.mul_one]
      have := congrArg (List.take (X.length - 1)) e6
      rw [List.take_take, Nat.min_eq_left (by omega)] at this
      rw [this, List.dropLast_eq_take]
      simp [ints, List.map_take]
/-- Two rows, apart from each other, and both new. -/
structure TwoRows (lo : Nat) (v : World) (x y : Value) (X Y : List Nat) : Prop where
  rx : v.ownsRow 0 3 1 x X.length (intsN X)
  ry : v.ownsRow 0 3 1 y Y.length (intsN Y)
  apart : ∀ b, x.ownBlock = some b → y.ownBlock ≠ some b
  lx : ∀ b, x.ownBlock = some b → lo ≤ b
  ly : ∀ b, y.ownBlock = some b → lo ≤ b
section
variable {lo : Nat} {v v' : World} {x y : Value} {X Y : List Nat}
theorem TwoRows.swap (h : TwoRows lo v x y X Y) : TwoRows lo v y x Y X := ⟨h.ry, h.rx, fun b hb h' => h.apart b h' hb, h.ly, h.lx⟩
theorem TwoRows.keep (h : TwoRows lo v x y X Y) (hG : Grow v v') : TwoRows lo v' x y X Y := ⟨owns_grow h.rx hG, owns_grow h.ry hG, h.apart, h.lx, h.ly⟩
theorem TwoRows.put (h : TwoRows lo v x y X Y) {B : Nat} {o : Obj} {arr : Array Value} {t : TypeId} {fr : Nat × Nat} (hP : Puts v v' B o) (hb : v.heap[B]? = some (.cells arr t fr)) (ht : t ≠ 3) : TwoRows lo v' x y X Y :=
  ⟨ownsRow_keep h.rx fun b c hb' hc => hP.other b fun e => own_ne h.rx hb ht (by rw [hb', e]), ownsRow_keep h.ry fun b c hb' hc => hP.other b fun e => own_ne h.ry hb ht (by rw [hb', e]), h.apart, h.lx, h.ly⟩
theorem TwoRows.app (h : TwoRows lo v x y X Y) {z g cap : Nat} (hlo : lo ≤ v.heap.size) (hA : Apped v y 3 1 (Y.length + 1) (intsN Y ++ [.int .i64 (z : Nat)]) g cap v') : TwoRows lo v' x (.slice (some ⟨g, 0, none⟩) (Y.length + 1) cap) X (Y ++ [z]) := by
  refine ⟨ownsRow_keep h.rx fun b c hb hc => hA.same b (own_lt h.rx hb) (h.apart b hb), ?_, fun b hb e => ?_, h.lx, fun b hb => ?_⟩
  · have := hA.owns
    simpa [ints] using this
  · cases e
    rcases hA.where_ with e | e
    · exact h.apart g hb e
    · have h9 : g < v.heap.size := own_lt h.rx hb
      omega
  · cases hb
    rcases hA.where_ with e | e
    · exact h.ly g e
    · show lo ≤ g
      omega
theorem TwoRows.drop (h : TwoRows lo v x y X Y) (h0 : X ≠ []) : ∃ g cap, x = .slice (some ⟨g, 0, none⟩) X.length cap ∧ v.cell? ⟨g, ((X.length : Int) - 1).toNat, none⟩ = some (.int .i64 (X.getLastD 0 : Nat)) ∧ X.length ≤ cap ∧ TwoRows lo v (.slice (some ⟨g, 0, none⟩) ((X.length : Int) - 1).toNat cap) y X.dropLast Y := by
  obtain ⟨g, cap, rfl, h1, h2, h3⟩ := row_last h.rx h0
  exact ⟨g, cap, rfl, h1, h2, h3, h.ry, h.apart, h.lx, h.ly⟩
end
end Go.Proofs.Ytecdiejeofclaaa


/- SlotsFree: what its loops keep. -/
namespace Go.Proofs.Ytecdiejeofclaaa
open Go Go.Conc
theorem Puts.keepT {ts : List TypeId} {v v' : World} {B : Nat} {o : Obj} {arr : Array Value} {t : TypeId} {fr : Nat × Nat} (h : Puts v v' B o) (hb : v.heap[B]? = some (.cells arr t fr)) (ht : t ∈ ts) : KeepT ts v v' :=
  ⟨Nat.le_of_eq h.size.symm, fun b a' t' f' hb' ht' => h.keep (fun e => ht' (by rw [e, hb] at hb'; cases hb'; exact ht)) hb'⟩
theorem Apped.keepT {ts : List TypeId} {v v' : World} {ov : Value} {te : TypeId} {sz n n0 g cap : Nat} {xs xs0 : List Value} (h : Apped v ov te sz n xs g cap v') (ho : v.ownsRow 0 te sz ov n0 xs0) (ht : te ∈ ts) : KeepT ts v v' :=
  ⟨h.size, fun b a' t' f' hb' ht' => (h.same b (lt_of_heap hb') (own_ne ho hb' fun e => ht' (by rw [e]; exact ht))).trans hb'⟩
abbrev freeTs : List TypeId := [47, 4, 3]
theorem FreeSl.keepT {v v' : World} {s N : Nat} {lN lU : Value} {cb : Nat → Nat} {V : List Int} (h : FreeSl v s N lN lU cb V) (hk : KeepT freeTs v v') : FreeSl v' s N lN lU cb V :=
  ⟨hk.same _ _ _ _ h.c (by decide), ownsRow_keep h.nx fun b c hb hc => (hk.same b _ _ _ hc (by decide)).trans hc.symm, ownsRow_keep h.us fun b c hb hc => (hk.same b _ _ _ hc (by decide)).trans hc.symm, fun c hc => hk.same _ _ _ _ (h.cells c hc) (by decide), h.len, h.inj⟩
theorem FreeT.keepT {v v' : World} {T : Nat} {id : Int} (h : FreeT v T id) (hk : KeepT freeTs v v') : FreeT v' T id := hk.same _ _ _ _ h (by decide)
theorem Grow.andMods {u v v' : World} {X : Nat → Prop} (h : Grow u v) (hM : Mods X v v') (hX : ∀ b, X b → u.heap.size ≤ b) : Grow u v' :=
  ⟨Nat.le_trans h.size hM.size, fun b hb => (hM.same b (Nat.lt_of_lt_of_le hb h.size) fun hx => by have := hX b hx; omega).trans (h.same b hb), fun r => hM.ready (h.ready r)⟩
/-- Blocks of other types than cells stand. -/
theorem Mods.other {v v' : World} {cb : Nat → Nat} {N s : Nat} {lN lU : Value} {V : List Int} (hM : Mods (cellsOfSl cb N) v v') (hS : FreeSl v s N lN lU cb V) {b : Nat} {arr : Array Value} {t : TypeId} {fr : Nat × Nat} (hb : v.heap[b]? = some (.cells arr t fr)) (ht : t ≠ 100) : v'.heap[b]? = some (.cells arr t fr) :=
  hM.at (fun ⟨c, hc, e⟩ => by subst e; have := hS.cells c hc; unfold CellAt at this; rw [hb] at this; cases this; exact ht rfl) hb
/-- Which slots are given out. -/
def usedRow (N : Nat) (G : List Nat) : Array Value := rowF N fun y => .bool (decide (y ∉ G))
theorem usedRow_get {N y : Nat} {G : List Nat} (h : y < N) : (usedRow N G)[y]? = some (.bool (decide (y ∉ G))) := by simp [usedRow, rowF, h]
theorem usedRow_set {N x : Nat} {G G' : List Nat} {t : Bool} (hx : x < N) (h : ∀ y, y < N → decide (y ∉ G') = if y = x then t else decide (y ∉ G)) : (usedRow N G).setIfInBounds x (.bool t) = usedRow N G' := by
  apply Array.ext_getElem?
  intro j
  rw [Array.getElem?_setIfInBounds]
  by_cases hj : j < N
  · rw [usedRow_get (G := G') hj, h j hj]
    by_cases e : x = j
    · subst e
      have : x < (usedRow N G).size := by simp [usedRow, rowF, hx]
      simp [this]
    · rw [if_neg e, usedRow_get hj, if_neg (fun h => e h.symm)]
  · have h1 : (usedRow N G).size = N := by simp [usedRow, rowF]
    have h2 : (usedRow N G').size = N := by simp [usedRow, rowF]
    have e : ¬ x = j := by omega
    rw [if_neg e, Array.getElem?_eq_none (by omega), Array.getElem?_eq_none (by omega)]
theorem range'_down {r m : Nat} (h : r < m) : (List.range' (r + 1) (m - (r + 1))).reverse ++ [r] = (List.range' r (m - r)).reverse := by
  rw [show m - r = (m - (r + 1)) + 1 by omega, List.range'_succ, List.reverse_cons]
section
variable {S : Addr → Prop} {main : Bool} {Stop : Goroutine → World → Prop} {cs : List Frame} {c : Frame} {v : World}
theorem slFree_loop0 {u : World} (hr0 : Ready0 u) {m B9 B31 : Nat} (hm : m ≤ 1000) (gB9 : u.heap.size ≤ B9) {b : Frame} (hbk : b.kind ≠ .early) {y8 y7 y6 y1 : Value} {arr31 : Array Value} {K : List Item}
    (H : ∀ v a gv, Grow u v → v.heap[B9]? = some (.cells #[gv, .slice (some ⟨B31, 0, none⟩) m m] 47 (0, 0)) → v.heap[B31]? = some (.cells arr31 4 (0, 0)) → v.ownsRow 0 3 1 gv m (intsN (List.range' 0 m).reverse) → (∀ b, gv.ownBlock = some b → u.heap.size ≤ b) → AtE 135 [] [(9, .pointer (some ⟨B9, 0, none⟩)), (8, y8), (7, y7), (6, y6), (1, y1)] a → Hold Try.prog main S Stop (G (b.at a K) cs) v) :
    ∀ (r : Nat) (v : World) (a : Act) (gv : Value), r ≤ m → Grow u v → v.heap[B9]? = some (.cells #[gv, .slice (some ⟨B31, 0, none⟩) m m] 47 (0, 0)) → v.heap[B31]? = some (.cells arr31 4 (0, 0)) → v.ownsRow 0 3 1 gv (m - r) (intsN (List.range' r (m - r)).reverse) → (∀ b, gv.ownBlock = some b → u.heap.size ≤ b) →
      AtE 135 [] [(10, .int .i64 ((r : Int) - 1)), (9, .pointer (some ⟨B9, 0, none⟩)), (8, y8), (7, y7), (6, y6), (1, y1)] a → Hold Try.prog main S Stop (G (b.at a (.code slFree_L0 :: .inLoop slFree_L0 :: .inBlock 0 :: K)) cs) v := by
  intro r
  induction r with
  | zero =>
    intro v a gv hr hG F9 F31 hrow hlow hat
    refine hold_unf slFree_L0_def <| hold_seq <| hold_seq <| hold_region (l := [0,1]) rfl <| h_val noA hbk slFree_9 rfl rfl (by decide) hat (r_move rfl) fun a hat => h_val noA hbk slFree_9 rfl rfl (by decide) hat (r_bool (t' := false) (r_geq rfl rfl) (by first | (simp; omega) | (simp; done) | (simp_all; done) | (simp_all; omega))) fun a hat => hold_region_end <| hold_condF (hat.eval (q := .tmp 36) rfl) rfl <| hold_exit (k' := _) rfl ?_
    exact H v a gv hG F9 F31 hrow hlow (hat.sub (AtE.cons rfl (AtE.cons rfl (AtE.cons rfl (AtE.cons rfl (AtE.cons rfl (AtE.nil)))))))
  | succ r ih =>
    intro v a gv hr hG F9 F31 hrow hlow hat
    have hr1 : ((r + 1 : Nat) : Int) - 1 = (r : Nat) := by omega
    rw [hr1] at hat
    obtain ⟨adg, capg, rfl⟩ := ownsRow_slice hrow
    refine hold_unf slFree_L0_def <| hold_seq <| hold_seq <| hold_region (l := [0,1]) rfl <| h_val noA hbk slFree_9 rfl rfl (by decide) hat (r_move rfl) fun a hat => h_val noA hbk slFree_9 rfl rfl (by decide) hat (r_bool (t' := true) (r_geq rfl rfl) (by first | (simp; omega) | (simp; done) | (simp_all; done) | (simp_all; omega))) fun a hat => hold_region_end <| hold_condT (hat.eval (q := .tmp 36) rfl) rfl <| hold_skip <| hold_seq <| hold_block <| hold_region (l := [0,1,2,3,4,5,6]) rfl <| h_val noA hbk slFree_10 rfl rfl (by decide) hat (r_field fk_47_0 rfl) fun a hat => ?_
    refine h_val noA hbk slFree_10 rfl rfl (by decide) hat (r_load ld_35 rfl (cell_at' F9)) fun a hat => h_val noA hbk slFree_10 rfl rfl (by decide) hat (r_move rfl) fun a hat => h_news noA hbk slFree_10 rfl rfl (by decide) hat (bs_35_1_0 rfl rfl) fun v a B42 hB42 hsB42 hg F42 hat => ?_
    have n_F42_F9 := ne_new F9 hB42
    have n_F42_F31 := ne_new F31 hB42
    have gB42 := Nat.le_trans hG.size (Nat.le_of_eq hB42)
    replace hG := hG.trans hg
    replace F9 := hg.at F9
    replace F31 := hg.at F31
    have hrow2 := owns_grow hrow hg
    refine h_app noA hbk slFree_10 rfl (by decide) hat ek_35 (hG.ready hr0) hrow2 rfl rfl F42 rfl (by simp [Value.oneCell']) (by decide) (Nat.le_trans (show _ ≤ 1001 by omega) (by decide)) (by omega) fun g cap v a hAp hat => ?_
    obtain ⟨hG2, hlow2⟩ := hAp.grow hG hlow
    replace F9 := (hAp.same B9 (lt_of_heap F9) (own_ne hrow2 F9 (by decide))).trans F9
    replace F31 := (hAp.same B31 (lt_of_heap F31) (own_ne hrow2 F31 (by decide))).trans F31
    replace hG := hG2
    have hn9 : ∀ b c, v.heap[b]? = some (.cells c 3 (0, 0)) → b ≠ B9 := fun b c hc => ne_of_types hc F9 (by decide)
    refine h_val noA hbk slFree_10 rfl rfl (by decide) hat (r_field fk_47_0 rfl) fun a hat => h_put noA hbk slFree_10 rfl rfl hat (p_store st_35 rfl rfl rfl F9 rfl rfl) fun v a hP F9x hat => ?_
    simp only [List.setIfInBounds_toArray, List.set_cons_succ, List.set_cons_zero] at F9x
    replace F31 := hP.keep (by first | exact n_F9_F31 | exact n_F31_F9.symm | exact ne_of_types F31 F9 (by decide) | omega) F31
    replace hG := hG.put hP gB9
    replace F9 := F9x; clear F9x
    refine hold_region_end <| hold_inBlock <| hold_region (l := [0,1,2]) rfl <| h_val noA hbk slFree_11 rfl rfl (by decide) hat (r_move rfl) fun a hat => h_val noA hbk slFree_11 rfl rfl (by decide) hat (r_sub rfl rfl (by first | omega | (simp; omega))) fun a hat => h_val noA hbk slFree_11 rfl rfl (by decide) hat (r_assign rfl) fun a hat => hold_region_end <| hold_inLoop ?_
    have e1 : m - (r + 1) + 1 = m - r := by omega
    have hrow3 := ownsRow_keep hAp.owns fun b c hb hc => hP.other b (hn9 b c hc)
    rw [e1] at hrow3 F9
    refine ih _ _ _ (by omega) hG F9 F31 ?_ (fun b hb => hlow2 b hb) (hat.sub (AtE.cons rfl (AtE.cons rfl (AtE.cons rfl (AtE.cons rfl (AtE.cons rfl (AtE.cons rfl (AtE.nil))))))))
    rw [← range'_down (by omega)]
    simpa [ints] using hrow3
end
end Go.Proofs.Ytecdiejeofclaaa


/- SlotsFree: the loop over the calls. -/
namespace Go.Proofs.Ytecdiejeofclaaa
open Go Go.Conc
theorem nodup_lt_length : ∀ {N : Nat} {l : List Nat}, l.Nodup → (∀ x ∈ l, x < N) → l.length ≤ N
  | 0, l, _, h => by
    cases l with
    | nil => exact Nat.le_refl _
    | cons x l => exact absurd (h x (by simp)) (by omega)
  | N + 1, l, hn, h => by
    have ih := nodup_lt_length (N := N) (l := l.erase N) (hn.erase N) fun x hx => by
      have h1 := (List.Nodup.mem_erase_iff hn).1 hx
      have := h x h1.2
      have := h1.1
      omega
    by_cases hm : N ∈ l
    · rw [List.length_erase_of_mem hm] at ih; omega
    · rw [List.erase_of_not_mem hm] at ih; omega
section
variable {S : Addr → Prop} {main : Bool} {Stop : Goroutine → World → Prop} {cs : List Frame} {c : Frame}
set_option maxHeartbeats 1000000 in
theorem slFree_loop1 {u : World} (hr0 : Ready0 u) {N : Nat} (hN : N ≤ 1000) {l : List ACall} {cvs : Value} (hC : CallsAt u cvs l) (hlm : l.length ≤ maxLen) {s T B9 B31 : Nat} {lN lU : Value} {cb : Nat → Nat} {id : Int} (hcb : ∀ c, c < 2 * N + 1 → u.heap.size ≤ cb c) (gB9 : u.heap.size ≤ B9) (gB31 : u.heap.size ≤ B31) {b : Frame} (hbk : b.kind ≠ .early) {K : List Item}
    (H : ∀ v a, Grow u v → AtE 135 [] [] a → Hold Try.prog main S Stop (G (b.at a K) cs) v) :
    ∀ (r k : Nat) (v : World) (a : Act) (V : List Int) (Gl : List Nat) (gv : Value), k + r = l.length → Grow u v → FreeSl v s N lN lU cb V → FreeT v T id → OneV N V Gl.reverse → v.heap[B9]? = some (.cells #[gv, .slice (some ⟨B31, 0, none⟩) N N] 47 (0, 0)) → v.heap[B31]? = some (.cells (usedRow N Gl) 4 (0, 0)) →
      v.ownsRow 0 3 1 gv Gl.length (intsN Gl) → (∀ b, gv.ownBlock = some b → u.heap.size ≤ b) → AtE 135 [] [(11, .int .i64 k), (9, .pointer (some ⟨B9, 0, none⟩)), (8, .int .i64 N), (7, .pointer (some ⟨s, 0, none⟩)), (6, .pointer (some ⟨T, 0, none⟩)), (1, cvs)] a →
      Hold Try.prog main S Stop (G (b.at a (.code slFree_L1 :: .inLoop slFree_L1 :: .inBlock 2 :: K)) cs) v := by
  obtain ⟨adc, capc, rfl, hcl⟩ := hC
  simp only [maxLen] at hlm
  intro r
  induction r with
  | zero =>
    intro k v a V Gl gv hk hG hS FT hV F9 F31 hrow hlow hat
    refine hold_unf slFree_L1_def <| hold_seq <| hold_seq <| hold_region (l := [0,1,2,3]) rfl <| h_val noA hbk slFree_13 rfl rfl (by decide) hat (r_move rfl) fun a hat => h_val noA hbk slFree_13 rfl rfl (by decide) hat (r_move rfl) fun a hat => h_val noA hbk slFree_13 rfl rfl (by decide) hat (r_len lk_25 rfl) fun a hat => h_val noA hbk slFree_13 rfl rfl (by decide) hat (r_bool (t' := false) (r_lss rfl rfl) (by first | (simp; omega) | (simp; done) | (simp_all; done) | (simp_all; omega))) fun a hat => hold_region_end <| hold_condF (hat.eval (q := .tmp 48) rfl) rfl <| hold_exit (k' := _) rfl ?_
    exact H v a hG (hat.sub (AtE.nil))
  | succ r ih =>
    intro k v a V Gl gv hk hG hS FT hV F9 F31 hrow hlow hat
    obtain ⟨x, hx⟩ : ∃ x, l[k]? = some x := ⟨l[k]'(by omega), by simp⟩
    obtain ⟨Bc, Oc, rfl, hc0, hc1, _, _⟩ := hcl k x hx
    have hi4 : (k : Int).toNat * 4 = k * 4 := by omega
    have hGl : Gl.length ≤ 1000 := by
      have := nodup_lt_length hV.nd hV.lt
      rw [List.length_reverse] at this
      omega
    refine hold_unf slFree_L1_def <| hold_seq <| hold_seq <| hold_region (l := [0,1,2,3]) rfl <| h_val noA hbk slFree_13 rfl rfl (by decide) hat (r_move rfl) fun a hat => h_val noA hbk slFree_13 rfl rfl (by decide) hat (r_move rfl) fun a hat => h_val noA hbk slFree_13 rfl rfl (by decide) hat (r_len lk_25 rfl) fun a hat => h_val noA hbk slFree_13 rfl rfl (by decide) hat (r_bool (t' := true) (r_lss rfl rfl) (by first | (simp; omega) | (simp; done) | (simp_all; done) | (simp_all; omega))) fun a hat => hold_region_end <| hold_condT (hat.eval (q := .tmp 48) rfl) rfl <| hold_skip <| hold_seq <| hold_block ?_
    refine hold_seq <| hold_seq <| hold_region (l := [0,1,2,3,4,5]) rfl <| h_val noA hbk slFree_14 rfl rfl (by decide) hat (r_move rfl) fun a hat => h_val noA hbk slFree_14 rfl rfl (by decide) hat (r_move rfl) fun a hat => h_val noA hbk slFree_14 rfl rfl (by decide) hat (r_index ix_25 rfl rfl (by omega) (by omega)) fun a hat => ?_
    rw [hi4] at hat
    refine h_val noA hbk slFree_14 rfl rfl (by decide) hat (r_field fk_39_0 rfl) fun a hat => h_val noA hbk slFree_14 rfl rfl (by decide) hat (r_load ld_3 rfl (by simpa using grow_cell hG hc0)) fun a hat => ?_
    by_cases h1 : x.op = 1
    · refine h_val noA hbk slFree_14 rfl (opOk_eq (by kernel_rfl)) (by decide) hat (r_bool (t' := true) (r_eql rfl rfl) (by simp [h1])) fun a hat => hold_region_end <| hold_condT (hat.eval (q := .tmp 56) rfl) rfl <| hold_seq <| hold_region (l := [0,1,2,3,4,5,6,7]) rfl <| h_val noA hbk slFree_15 rfl rfl (by decide) hat (r_move rfl) fun a hat => h_val noA hbk slFree_15 rfl rfl (by decide) hat (r_move rfl) fun a hat => h_callc hbk slFree_15 rfl (by decide) hat Take_fn Take_bd Take_nm (vals := #[_, _]) rfl fun c hc => ?_
      by_cases hg : Gl = []
      · have hl0 : Gl.length = 0 := by simp [hg]
        obtain ⟨adg, capg, rfl⟩ := ownsRow_slice hrow
        have hV0 : OneV N V [] := by simpa [hg] using hV
        refine TakeF0_hold hS FT hV0 fun v hg => ?_
        have hS2 := hS.grow hg
        have FT2 : FreeT v T id := hg.at FT
        have hrow2 := owns_grow hrow hg
        replace F9 := hg.at F9
        replace F31 := hg.at F31
        replace hG := hG.trans hg
        refine hold_fin hc fun a hat => h_val noA hbk slFree_15 rfl rfl (by decide) hat (r_move rfl) fun a hat => h_val noA hbk slFree_15 rfl rfl (by decide) hat (r_extract rfl rfl) fun a hat => h_val noA hbk slFree_15 rfl rfl (by decide) hat (r_extract rfl rfl) fun a hat => h_val noA hbk slFree_15 rfl rfl (by decide) hat (r_assign rfl) fun a hat => h_val noA hbk slFree_15 rfl rfl (by decide) hat (r_assign rfl) fun a hat => hold_region_end <| hold_seq <| hold_region (l := [0,1,2,3,4]) rfl <| h_val noA hbk slFree_16 rfl rfl (by decide) hat (r_field fk_47_0 rfl) fun a hat => h_val noA hbk slFree_16 rfl rfl (by decide) hat (r_load ld_35 rfl (cell_at' F9)) fun a hat => h_val noA hbk slFree_16 rfl rfl (by decide) hat (r_len lk_35 rfl) fun a hat => h_val noA hbk slFree_16 rfl rfl (by decide) hat (r_sub rfl rfl (by first | omega | (simp; omega))) fun a hat => ?_
        refine h_val noA hbk slFree_16 rfl rfl (by decide) hat (r_assign rfl) fun a hat => hold_region_end <| hold_seq <| hold_seq <| hold_region (l := [0,1]) rfl <| h_val noA hbk slFree_17 rfl rfl (by decide) hat (r_move rfl) fun a hat => h_val noA hbk slFree_17 rfl rfl (by decide) hat (r_bool (t' := true) (r_lss rfl rfl) (by simp; omega)) fun a hat => hold_region_end <| hold_condT (hat.eval (q := .tmp 68) rfl) rfl <| hold_seq <| hold_seq <| hold_region (l := [0,1,2,3,4,5]) rfl <| h_val noA hbk slFree_18 rfl rfl (by decide) hat (r_move rfl) fun a hat => ?_
        refine h_val noA hbk slFree_18 rfl (opOk_eq (by kernel_rfl)) (by decide) hat (r_bool (t' := false) (r_neq rfl rfl) (by first | (simp; omega) | (simp; done) | (simp_all; done) | (simp_all; omega))) fun a hat => h_val noA hbk slFree_18 rfl rfl (by decide) hat (r_move rfl) fun a hat => hg_yes noA hbk slFree_18 rfl rfl rfl rfl (by decide) hat (r_move rfl) fun a hat => hg_yes noA hbk slFree_18 rfl rfl rfl (opOk_eq (by kernel_rfl)) (by decide) hat (r_bool (t' := false) (r_neq rfl rfl) (by first | (simp; omega) | (simp; done) | (simp_all; done) | (simp_all; omega))) fun a hat => h_val noA hbk slFree_18 rfl rfl (by decide) hat (r_pick rfl rfl) fun a hat => hold_region_end <| hold_condF (hat.eval (q := .tmp 74) rfl) rfl <| hold_skip <| hold_exit (k' := _) rfl <| hold_region (l := [0,1,2]) rfl <| h_val noA hbk slFree_36 rfl rfl (by decide) hat (r_move rfl) fun a hat => h_val noA hbk slFree_36 rfl rfl (by decide) hat (r_add rfl rfl (by first | omega | (simp; omega))) fun a hat => ?_
        refine h_val noA hbk slFree_36 rfl rfl (by decide) hat (r_assign rfl) fun a hat => hold_region_end <| hold_inLoop ?_
        exact ih (k + 1) _ _ V Gl _ (by omega) hG hS2 FT2 hV F9 F31 hrow2 hlow (hat.sub (AtE.cons rfl (AtE.cons rfl (AtE.cons rfl (AtE.cons rfl (AtE.cons rfl (AtE.cons rfl (AtE.nil))))))))
      · skip
        obtain ⟨Gl, y, rfl⟩ := snoc_of_ne hg
        have hV1 : OneV N V (y :: Gl.reverse) := by simpa using hV
        have hy : y < N := hV1.lt y (by simp)
        have hnd : y ∉ Gl := by have := (List.nodup_cons.1 hV1.nd).1; simpa using this
        refine TakeF1_hold hN hS FT hV1 fun v V2 hM hS2 FT2 hV2 => ?_
        have hrow2 := ownsRow_keep hrow fun b c hb hc => (hM.other hS hc (by decide)).trans hc.symm
        replace F9 := hM.other hS F9 (by decide)
        replace F31 := hM.other hS F31 (by decide)
        replace hG := hG.andMods hM fun b ⟨c, hc, e⟩ => by rw [e]; exact hcb c hc
        obtain ⟨g0, cp0, e, hlast, hcap, hdrop⟩ := row_last hrow2 hg
        subst e
        rw [getLastD_snoc] at hlast
        have hlen : (Gl ++ [y]).length = Gl.length + 1 := by simp
        refine hold_fin hc fun a hat => h_val noA hbk slFree_15 rfl rfl (by decide) hat (r_move rfl) fun a hat => h_val noA hbk slFree_15 rfl rfl (by decide) hat (r_extract rfl rfl) fun a hat => h_val noA hbk slFree_15 rfl rfl (by decide) hat (r_extract rfl rfl) fun a hat => h_val noA hbk slFree_15 rfl rfl (by decide) hat (r_assign rfl) fun a hat => h_val noA hbk slFree_15 rfl rfl (by decide) hat (r_assign rfl) fun a hat => hold_region_end <| hold_seq <| hold_region (l := [0,1,2,3,4]) rfl <| h_val noA hbk slFree_16 rfl rfl (by decide) hat (r_field fk_47_0 rfl) fun a hat => h_val noA hbk slFree_16 rfl rfl (by decide) hat (r_load ld_35 rfl (cell_at' F9)) fun a hat => h_val noA hbk slFree_16 rfl rfl (by decide) hat (r_len lk_35 rfl) fun a hat => h_val noA hbk slFree_16 rfl rfl (by decide) hat (r_sub rfl rfl (by first | omega | (simp; omega))) fun a hat => ?_
        refine h_val noA hbk slFree_16 rfl rfl (by decide) hat (r_assign rfl) fun a hat => hold_region_end <| hold_seq <| hold_seq <| hold_region (l := [0,1]) rfl <| h_val noA hbk slFree_17 rfl rfl (by decide) hat (r_move rfl) fun a hat => h_val noA hbk slFree_17 rfl rfl (by decide) hat (r_bool (t' := false) (r_lss rfl rfl) (by simp)) fun a hat => hold_region_end <| hold_condF (hat.eval (q := .tmp 68) rfl) rfl <| hold_skip <| hold_seq <| hold_seq <| hold_region (l := [0,1,2,3,4,5,6,7,8,9,10]) rfl ?_
        refine h_val noA hbk slFree_20 rfl rfl (by decide) hat (r_move rfl) fun a hat => h_val noA hbk slFree_20 rfl (opOk_eq (by kernel_rfl)) (by decide) hat (r_bool (t' := false) (r_neq rfl rfl) (by first | (simp; omega) | (simp; done) | (simp_all; done) | (simp_all; omega))) fun a hat => h_val noA hbk slFree_20 rfl rfl (by decide) hat (r_move rfl) fun a hat => hg_yes noA hbk slFree_20 rfl rfl rfl rfl (by decide) hat (r_move rfl) fun a hat => hg_yes noA hbk slFree_20 rfl rfl rfl rfl (by decide) hat (r_field fk_47_0 rfl) fun a hat => hg_yes noA hbk slFree_20 rfl rfl rfl rfl (by decide) hat (r_load ld_35 rfl (cell_at' F9)) fun a hat => hg_yes noA hbk slFree_20 rfl rfl rfl rfl (by decide) hat (r_move rfl) fun a hat => hg_yes noA hbk slFree_20 rfl rfl rfl rfl (by decide) hat (r_index ix_35 rfl rfl (by omega) (by omega)) fun a hat => hg_yes noA hbk slFree_20 rfl rfl rfl rfl (by decide) hat (r_load ld_3 rfl (by simpa using hlast)) fun a hat => ?_
        refine hg_yes noA hbk slFree_20 rfl rfl rfl (opOk_eq (by kernel_rfl)) (by decide) hat (r_bool (t' := false) (r_neq rfl rfl) (by first | (simp; omega) | (simp; done) | (simp_all; done) | (simp_all; omega))) fun a hat => h_val noA hbk slFree_20 rfl rfl (by decide) hat (r_pick rfl rfl) fun a hat => hold_region_end <| hold_condF (hat.eval (q := .tmp 85) rfl) rfl <| hold_skip <| hold_seq <| hold_region (l := [0,1,2,3,4]) rfl <| h_val noA hbk slFree_22 rfl rfl (by decide) hat (r_field fk_47_1 rfl) fun a hat => h_val noA hbk slFree_22 rfl rfl (by decide) hat (r_load ld_45 rfl (cell_at' F9)) fun a hat => h_val noA hbk slFree_22 rfl rfl (by decide) hat (r_move rfl) fun a hat => h_val noA hbk slFree_22 rfl rfl (by decide) hat (r_index ix_45 rfl rfl (by omega) (by omega)) fun a hat => ?_
        rw [show 0 + (y : Int).toNat * 1 = y from by omega] at hat
        have hk1 : KeepT freeTs v v := KeepT.refl _ v
        refine h_put noA hbk slFree_22 rfl rfl hat (p_store st_4 rfl rfl rfl F31 (usedRow_get hy) rfl) fun v3 a hP Fx hat => ?_
        have hrow3 := ownsRow_keep hdrop fun b c hb hc => hP.other b (ne_of_types hc F31 (by decide))
        replace F9 := hP.keep (ne_of_types F9 F31 (by decide)) F9
        have hk3 := hP.keepT (ts := freeTs) F31 (by decide)
        replace hG := hG.put hP gB31
        replace F31 := Fx
        clear hP Fx
        rw [usedRow_set (G' := Gl) hy fun z hz => by
          by_cases e : z = y
          · subst e; simp [hnd]
          · simp [e]] at F31
        refine hold_region_end <| hold_seq <| hold_region (l := [0,1,2,3,4,5]) rfl <| h_val noA hbk slFree_23 rfl rfl (by decide) hat (r_field fk_47_0 rfl) fun a hat => h_val noA hbk slFree_23 rfl rfl (by decide) hat (r_load ld_35 rfl (cell_at' F9)) fun a hat => h_val noA hbk slFree_23 rfl rfl (by decide) hat (r_move rfl) fun a hat => h_val noA hbk slFree_23 rfl rfl (by decide) hat (r_sliceHi rfl rfl (by omega) (by omega)) fun a hat => ?_
        have hn9 : ∀ b c, v3.heap[b]? = some (.cells c 3 (0, 0)) → b ≠ B9 := fun b c hc => ne_of_types hc F9 (by decide)
        have F9o := F9
        refine h_val noA hbk slFree_23 rfl rfl (by decide) hat (r_field fk_47_0 rfl) fun a hat => h_put noA hbk slFree_23 rfl rfl hat (p_store st_35 rfl rfl rfl F9 rfl rfl) fun v a hP F9x hat => ?_
        simp only [List.setIfInBounds_toArray, List.set_cons_succ, List.set_cons_zero] at F9x
        replace F31 := hP.keep (by first | exact n_F9_F31 | exact n_F31_F9.symm | exact ne_of_types F31 F9 (by decide) | omega) F31
        replace hG := hG.put hP gB9
        replace F9 := F9x; clear F9x
        refine hold_region_end <| hold_exit (k' := _) rfl <| hold_region (l := [0,1,2]) rfl <| h_val noA hbk slFree_36 rfl rfl (by decide) hat (r_move rfl) fun a hat => h_val noA hbk slFree_36 rfl rfl (by decide) hat (r_add rfl rfl (by first | omega | (simp; omega))) fun a hat => h_val noA hbk slFree_36 rfl rfl (by decide) hat (r_assign rfl) fun a hat => hold_region_end <| hold_inLoop ?_
        have hk4 := hk3.trans (hP.keepT (ts := freeTs) F9o (by decide))
        have hrow4 := ownsRow_keep hrow3 fun b c hb hc => hP.other b (hn9 b c hc)
        refine ih (k + 1) _ _ V2 Gl (.slice (some ⟨g0, 0, none⟩) (((Gl ++ [y]).length : Int) - 1).toNat cp0) (by omega) hG (hS2.keepT hk4) (FT2.keepT hk4) hV2 F9 F31 ?_ (fun b hb => hlow b hb) (hat.sub (AtE.cons rfl (AtE.cons rfl (AtE.cons rfl (AtE.cons rfl (AtE.cons rfl (AtE.cons rfl (AtE.nil))))))))
        simpa using hrow4
    · skip
      refine h_val noA hbk slFree_14 rfl (opOk_eq (by kernel_rfl)) (by decide) hat (r_bool (t' := false) (r_eql rfl rfl) (by simp [h1])) fun a hat => hold_region_end <| hold_condF (hat.eval (q := .tmp 56) rfl) rfl <| hold_skip <| hold_seq <| hold_region (l := [0,1,2,3,4,5]) rfl <| h_val noA hbk slFree_24 rfl rfl (by decide) hat (r_move rfl) fun a hat => h_val noA hbk slFree_24 rfl rfl (by decide) hat (r_move rfl) fun a hat => h_val noA hbk slFree_24 rfl rfl (by decide) hat (r_index ix_25 rfl rfl (by omega) (by omega)) fun a hat => ?_
      rw [hi4] at hat
      refine h_val noA hbk slFree_24 rfl rfl (by decide) hat (r_field fk_39_1 rfl) fun a hat => h_val noA hbk slFree_24 rfl rfl (by decide) hat (r_load ld_3 rfl (by simpa using grow_cell hG hc1)) fun a hat => h_val noA hbk slFree_24 rfl rfl (by decide) hat (r_assign rfl) fun a hat => hold_region_end <| hold_seq <| hold_region (l := [0,1,2,3,4]) rfl <| h_val noA hbk slFree_25 rfl rfl (by decide) hat (r_move rfl) fun a hat => h_val noA hbk slFree_25 rfl rfl (by decide) hat (r_move rfl) fun a hat => h_val noA hbk slFree_25 rfl rfl (by decide) hat (r_move rfl) fun a hat => h_callc hbk slFree_25 rfl (by decide) hat Give_fn Give_bd Give_nm (vals := #[_, _, _]) rfl fun c hc => ?_
      refine GiveF_hold hN hS FT hV (fun hz => ?_) (fun y hz hy hm => ?_) (fun y v V2 hz hy hm hM hS2 FT2 hV2 => ?_)
      · refine hold_fin hc fun a hat => h_val noA hbk slFree_25 rfl rfl (by decide) hat (r_assign rfl) fun a hat => hold_region_end <| hold_block <| hold_seq <| hold_region (l := [0,1,2,3,4,5,6,7]) rfl <| h_val noA hbk slFree_26 rfl rfl (by decide) hat (r_move rfl) fun a hat => ?_
        by_cases h0 : x.a < 0
        · refine h_val noA hbk slFree_26 rfl rfl (by decide) hat (r_bool (t' := true) (r_lss rfl rfl) (by simp [h0])) fun a hat => h_val noA hbk slFree_26 rfl rfl (by decide) hat (r_move rfl) fun a hat => hg_no slFree_26 rfl rfl rfl rfl (by decide) hat fun a hat => hg_no slFree_26 rfl rfl rfl rfl (by decide) hat fun a hat => hg_no slFree_26 rfl rfl rfl rfl (by decide) hat fun a hat => h_val noA hbk slFree_26 rfl rfl (by decide) hat (r_pick rfl rfl) fun a hat => h_val noA hbk slFree_26 rfl rfl (by decide) hat (r_assign rfl) fun a hat => hold_region_end <| hold_condT (hat.eval (q := .tmp 116) rfl) rfl <| hold_seq <| hold_region (l := [0,1]) rfl <| h_val noA hbk slFree_27 rfl rfl (by decide) hat (r_move rfl) fun a hat => h_val noA hbk slFree_27 rfl (opOk_eq (by kernel_rfl)) (by decide) hat (r_bool (t' := false) (r_neq rfl rfl) (by first | (simp; omega) | (simp; done) | (simp_all; done) | (simp_all; omega))) fun a hat => ?_
          refine hold_region_end <| hold_condF (hat.eval (q := .tmp 125) rfl) rfl <| hold_skip <| hold_inBlock <| hold_inBlock <| hold_region (l := [0,1,2]) rfl <| h_val noA hbk slFree_36 rfl rfl (by decide) hat (r_move rfl) fun a hat => h_val noA hbk slFree_36 rfl rfl (by decide) hat (r_add rfl rfl (by first | omega | (simp; omega))) fun a hat => h_val noA hbk slFree_36 rfl rfl (by decide) hat (r_assign rfl) fun a hat => hold_region_end <| hold_inLoop ?_
          exact ih (k + 1) _ _ V Gl gv (by omega) hG hS FT hV F9 F31 hrow hlow (hat.sub (AtE.cons rfl (AtE.cons rfl (AtE.cons rfl (AtE.cons rfl (AtE.cons rfl (AtE.cons rfl (AtE.nil))))))))
        · skip
          refine h_val noA hbk slFree_26 rfl rfl (by decide) hat (r_bool (t' := false) (r_lss rfl rfl) (by simp; omega)) fun a hat => h_val noA hbk slFree_26 rfl rfl (by decide) hat (r_move rfl) fun a hat => hg_yes noA hbk slFree_26 rfl rfl rfl rfl (by decide) hat (r_move rfl) fun a hat => hg_yes noA hbk slFree_26 rfl rfl rfl rfl (by decide) hat (r_move rfl) fun a hat => hg_yes noA hbk slFree_26 rfl rfl rfl rfl (by decide) hat (r_bool (t' := true) (r_geq rfl rfl) (by simp; omega)) fun a hat => h_val noA hbk slFree_26 rfl rfl (by decide) hat (r_pick rfl rfl) fun a hat => h_val noA hbk slFree_26 rfl rfl (by decide) hat (r_assign rfl) fun a hat => hold_region_end <| hold_condT (hat.eval (q := .tmp 116) rfl) rfl <| hold_seq <| hold_region (l := [0,1]) rfl <| h_val noA hbk slFree_27 rfl rfl (by decide) hat (r_move rfl) fun a hat => h_val noA hbk slFree_27 rfl (opOk_eq (by kernel_rfl)) (by decide) hat (r_bool (t' := false) (r_neq rfl rfl) (by first | (simp; omega) | (simp; done) | (simp_all; done) | (simp_all; omega))) fun a hat => ?_
          refine hold_region_end <| hold_condF (hat.eval (q := .tmp 125) rfl) rfl <| hold_skip <| hold_inBlock <| hold_inBlock <| hold_region (l := [0,1,2]) rfl <| h_val noA hbk slFree_36 rfl rfl (by decide) hat (r_move rfl) fun a hat => h_val noA hbk slFree_36 rfl rfl (by decide) hat (r_add rfl rfl (by first | omega | (simp; omega))) fun a hat => h_val noA hbk slFree_36 rfl rfl (by decide) hat (r_assign rfl) fun a hat => hold_region_end <| hold_inLoop ?_
          exact ih (k + 1) _ _ V Gl gv (by omega) hG hS FT hV F9 F31 hrow hlow (hat.sub (AtE.cons rfl (AtE.cons rfl (AtE.cons rfl (AtE.cons rfl (AtE.cons rfl (AtE.cons rfl (AtE.nil))))))))
      · have hm2 : y ∈ Gl := by simpa using hm
        refine hold_fin hc fun a hat => ?_
        rw [hz] at hat
        refine h_val noA hbk slFree_25 rfl rfl (by decide) hat (r_assign rfl) fun a hat => hold_region_end <| hold_block <| hold_seq <| hold_region (l := [0,1,2,3,4,5,6,7]) rfl <| h_val noA hbk slFree_26 rfl rfl (by decide) hat (r_move rfl) fun a hat => h_val noA hbk slFree_26 rfl rfl (by decide) hat (r_bool (t' := false) (r_lss rfl rfl) (by simp)) fun a hat => h_val noA hbk slFree_26 rfl rfl (by decide) hat (r_move rfl) fun a hat => hg_yes noA hbk slFree_26 rfl rfl rfl rfl (by decide) hat (r_move rfl) fun a hat => hg_yes noA hbk slFree_26 rfl rfl rfl rfl (by decide) hat (r_move rfl) fun a hat => hg_yes noA hbk slFree_26 rfl rfl rfl rfl (by decide) hat (r_bool (t' := false) (r_geq rfl rfl) (by simp; omega)) fun a hat => h_val noA hbk slFree_26 rfl rfl (by decide) hat (r_pick rfl rfl) fun a hat => h_val noA hbk slFree_26 rfl rfl (by decide) hat (r_assign rfl) fun a hat => ?_
        refine hold_region_end <| hold_condF (hat.eval (q := .tmp 116) rfl) rfl <| hold_seq <| hold_region (l := [0,1,2,3,4,5,6]) rfl <| h_val noA hbk slFree_29 rfl rfl (by decide) hat (r_field fk_47_1 rfl) fun a hat => h_val noA hbk slFree_29 rfl rfl (by decide) hat (r_load ld_45 rfl (cell_at' F9)) fun a hat => h_val noA hbk slFree_29 rfl rfl (by decide) hat (r_move rfl) fun a hat => h_val noA hbk slFree_29 rfl rfl (by decide) hat (r_index ix_45 rfl rfl (by omega) (by omega)) fun a hat => ?_
        rw [show 0 + (y : Int).toNat * 1 = y from by omega] at hat
        refine h_val noA hbk slFree_29 rfl rfl (by decide) hat (r_load (y := .bool false) ld_4 rfl ((cell_at' F31).trans ((usedRow_get hy).trans (by simp [hm2])))) fun a hat => h_val noA hbk slFree_29 rfl rfl (by decide) hat (r_not rfl) fun a hat => h_val noA hbk slFree_29 rfl rfl (by decide) hat (r_assign rfl) fun a hat => hold_region_end <| hold_condT (hat.eval (q := .tmp 126) rfl) rfl <| hold_seq <| hold_region (l := [0,1]) rfl <| h_val noA hbk slFree_30 rfl rfl (by decide) hat (r_move rfl) fun a hat => h_val noA hbk slFree_30 rfl (opOk_eq (by kernel_rfl)) (by decide) hat (r_bool (t' := false) (r_neq rfl rfl) (by first | (simp; omega) | (simp; done) | (simp_all; done) | (simp_all; omega))) fun a hat => hold_region_end <| hold_condF (hat.eval (q := .tmp 134) rfl) rfl <| hold_skip <| hold_inBlock ?_
        refine hold_inBlock <| hold_region (l := [0,1,2]) rfl <| h_val noA hbk slFree_36 rfl rfl (by decide) hat (r_move rfl) fun a hat => h_val noA hbk slFree_36 rfl rfl (by decide) hat (r_add rfl rfl (by first | omega | (simp; omega))) fun a hat => h_val noA hbk slFree_36 rfl rfl (by decide) hat (r_assign rfl) fun a hat => hold_region_end <| hold_inLoop ?_
        exact ih (k + 1) _ _ V Gl gv (by omega) hG hS FT hV F9 F31 hrow hlow (hat.sub (AtE.cons rfl (AtE.cons rfl (AtE.cons rfl (AtE.cons rfl (AtE.cons rfl (AtE.cons rfl (AtE.nil))))))))
      · have hm2 : y ∉ Gl := by simpa using hm
        have hrow2 := ownsRow_keep hrow fun b c hb hc => (hM.other hS hc (by decide)).trans hc.symm
        replace F9 := hM.other hS F9 (by decide)
        replace F31 := hM.other hS F31 (by decide)
        replace hG := hG.andMods hM fun b ⟨c, hc, e⟩ => by rw [e]; exact hcb c hc
        obtain ⟨adg, capg, rfl⟩ := ownsRow_slice hrow
        refine hold_fin hc fun a hat => ?_
        rw [hz] at hat
        refine h_val noA hbk slFree_25 rfl rfl (by decide) hat (r_assign rfl) fun a hat => hold_region_end <| hold_block <| hold_seq <| hold_region (l := [0,1,2,3,4,5,6,7]) rfl <| h_val noA hbk slFree_26 rfl rfl (by decide) hat (r_move rfl) fun a hat => h_val noA hbk slFree_26 rfl rfl (by decide) hat (r_bool (t' := false) (r_lss rfl rfl) (by simp)) fun a hat => h_val noA hbk slFree_26 rfl rfl (by decide) hat (r_move rfl) fun a hat => hg_yes noA hbk slFree_26 rfl rfl rfl rfl (by decide) hat (r_move rfl) fun a hat => hg_yes noA hbk slFree_26 rfl rfl rfl rfl (by decide) hat (r_move rfl) fun a hat => hg_yes noA hbk slFree_26 rfl rfl rfl rfl (by decide) hat (r_bool (t' := false) (r_geq rfl rfl) (by simp; omega)) fun a hat => h_val noA hbk slFree_26 rfl rfl (by decide) hat (r_pick rfl rfl) fun a hat => h_val noA hbk slFree_26 rfl rfl (by decide) hat (r_assign rfl) fun a hat => ?_
        refine hold_region_end <| hold_condF (hat.eval (q := .tmp 116) rfl) rfl <| hold_seq <| hold_region (l := [0,1,2,3,4,5,6]) rfl <| h_val noA hbk slFree_29 rfl rfl (by decide) hat (r_field fk_47_1 rfl) fun a hat => h_val noA hbk slFree_29 rfl rfl (by decide) hat (r_load ld_45 rfl (cell_at' F9)) fun a hat => h_val noA hbk slFree_29 rfl rfl (by decide) hat (r_move rfl) fun a hat => h_val noA hbk slFree_29 rfl rfl (by decide) hat (r_index ix_45 rfl rfl (by omega) (by omega)) fun a hat => ?_
        rw [show 0 + (y : Int).toNat * 1 = y from by omega] at hat
        refine h_val noA hbk slFree_29 rfl rfl (by decide) hat (r_load (y := .bool true) ld_4 rfl ((cell_at' F31).trans ((usedRow_get hy).trans (by simp [hm2])))) fun a hat => h_val noA hbk slFree_29 rfl rfl (by decide) hat (r_not rfl) fun a hat => h_val noA hbk slFree_29 rfl rfl (by decide) hat (r_assign rfl) fun a hat => hold_region_end <| hold_condF (hat.eval (q := .tmp 126) rfl) rfl <| hold_seq <| hold_seq <| hold_region (l := [0,1]) rfl <| h_val noA hbk slFree_32 rfl rfl (by decide) hat (r_move rfl) fun a hat => h_val noA hbk slFree_32 rfl (opOk_eq (by kernel_rfl)) (by decide) hat (r_bool (t' := false) (r_neq rfl rfl) (by first | (simp; omega) | (simp; done) | (simp_all; done) | (simp_all; omega))) fun a hat => hold_region_end <| hold_condF (hat.eval (q := .tmp 105) rfl) rfl <| hold_skip ?_
        refine hold_seq <| hold_region (l := [0,1,2,3,4]) rfl <| h_val noA hbk slFree_34 rfl rfl (by decide) hat (r_field fk_47_1 rfl) fun a hat => h_val noA hbk slFree_34 rfl rfl (by decide) hat (r_load ld_45 rfl (cell_at' F9)) fun a hat => h_val noA hbk slFree_34 rfl rfl (by decide) hat (r_move rfl) fun a hat => h_val noA hbk slFree_34 rfl rfl (by decide) hat (r_index ix_45 rfl rfl (by omega) (by omega)) fun a hat => ?_
        rw [show 0 + (y : Int).toNat * 1 = y from by omega] at hat
        refine h_put noA hbk slFree_34 rfl rfl hat (p_store st_4 rfl rfl rfl F31 (usedRow_get hy) rfl) fun v3 a hP Fx hat => ?_
        have hrow3 := ownsRow_keep hrow2 fun b c hb hc => hP.other b (ne_of_types hc F31 (by decide))
        replace F9 := hP.keep (ne_of_types F9 F31 (by decide)) F9
        have hk3 := hP.keepT (ts := freeTs) F31 (by decide)
        replace hG := hG.put hP gB31
        replace F31 := Fx
        clear hP Fx
        rw [usedRow_set (G' := Gl ++ [y]) hy fun z hz => by
          by_cases e : z = y
          · subst e; simp
          · simp [e]] at F31
        refine hold_region_end <| hold_region (l := [0,1,2,3,4,5,6]) rfl <| h_val noA hbk slFree_35 rfl rfl (by decide) hat (r_field fk_47_0 rfl) fun a hat => h_val noA hbk slFree_35 rfl rfl (by decide) hat (r_load ld_35 rfl (cell_at' F9)) fun a hat => h_val noA hbk slFree_35 rfl rfl (by decide) hat (r_move rfl) fun a hat => h_news noA hbk slFree_35 rfl rfl (by decide) hat (bs_35_1_0 rfl rfl) fun v a B113 hB113 hsB113 hg F113 hat => ?_
        have n_F113_F9 := ne_new F9 hB113
        have n_F113_F31 := ne_new F31 hB113
        have gB113 := Nat.le_trans hG.size (Nat.le_of_eq hB113)
        replace hG := hG.trans hg
        replace F9 := hg.at F9
        replace F31 := hg.at F31
        have hrow4 := owns_grow hrow3 hg
        have hk4 := hk3.trans (Grow.keepT (ts := freeTs) hg)
        refine h_app noA hbk slFree_35 rfl (by decide) hat ek_35 (hG.ready hr0) hrow4 rfl rfl F113 rfl (by simp [Value.oneCell']) (by decide) (Nat.le_trans (show _ ≤ 1001 by omega) (by decide)) (by omega) fun g cap v a hAp hat => ?_
        obtain ⟨hG2, hlow2⟩ := hAp.grow hG hlow
        replace F9 := (hAp.same B9 (lt_of_heap F9) (own_ne hrow4 F9 (by decide))).trans F9
        replace F31 := (hAp.same B31 (lt_of_heap F31) (own_ne hrow4 F31 (by decide))).trans F31
        have hk5 := hk4.trans (hAp.keepT (ts := freeTs) hrow4 (by decide))
        replace hG := hG2
        have hn9 : ∀ b c, v.heap[b]? = some (.cells c 3 (0, 0)) → b ≠ B9 := fun b c hc => ne_of_types hc F9 (by decide)
        have F9o := F9
        refine h_val noA hbk slFree_35 rfl rfl (by decide) hat (r_field fk_47_0 rfl) fun a hat => h_put noA hbk slFree_35 rfl rfl hat (p_store st_35 rfl rfl rfl F9 rfl rfl) fun v a hP F9x hat => ?_
        simp only [List.setIfInBounds_toArray, List.set_cons_succ, List.set_cons_zero] at F9x
        replace F31 := hP.keep (by first | exact n_F9_F31 | exact n_F31_F9.symm | exact ne_of_types F31 F9 (by decide) | omega) F31
        replace hG := hG.put hP gB9
        replace F9 := F9x; clear F9x
        refine hold_region_end <| hold_inBlock <| hold_inBlock <| hold_region (l := [0,1,2]) rfl <| h_val noA hbk slFree_36 rfl rfl (by decide) hat (r_move rfl) fun a hat => h_val noA hbk slFree_36 rfl rfl (by decide) hat (r_add rfl rfl (by first | omega | (simp; omega))) fun a hat => h_val noA hbk slFree_36 rfl rfl (by decide) hat (r_assign rfl) fun a hat => hold_region_end <| hold_inLoop ?_
        have hk6 := hk5.trans (hP.keepT (ts := freeTs) F9o (by decide))
        have hrow5 := ownsRow_keep hAp.owns fun b c hb hc => hP.other b (hn9 b c hc)
        refine ih (k + 1) _ _ V2 (Gl ++ [y]) (.slice (some ⟨g, 0, none⟩) (Gl.length + 1) cap) (by omega) hG (hS2.keepT hk6) (FT2.keepT hk6) (by simpa using hV2) F9 F31 ?_ (fun b hb => hlow2 b hb) (hat.sub (AtE.cons rfl (AtE.cons rfl (AtE.cons rfl (AtE.cons rfl (AtE.cons rfl (AtE.cons rfl (AtE.nil))))))))
        simpa [ints] using hrow5
end
end Go.Proofs.Ytecdiejeofclaaa


/- slots' awake. -/
namespace Go.Proofs.Ytecdiejeofclaaa
open Go Go.Conc
def awakeSl : List ACall := [⟨1, 0, 0, 0⟩, ⟨1, 0, 0, 0⟩, ⟨3, 0, 0, 0⟩, ⟨3, 0, 0, 0⟩, ⟨2, 0, 0, 0⟩]
theorem awakeSl_runs : (runs 60 (slSys [] 1) (slProgs 8 1 1 fun _ => awakeSl)).map (·.2) = some [[(0, 0), (80, 0), (0, 0), (1, 0), (81, 0)]] := by kernel_rfl
theorem r_eqAns {e : Env} {q q' : Operand} {t' : TypeId} {v : World} {x0 x1 y0 y1 : Int} (h : opv e q = some (.agg #[.int .i64 x0, .int .i64 x1])) (h' : opv e q' = some (.agg #[.int .i64 y0, .int .i64 y1])) (he : x0 = y0 ∧ x1 = y1) : RunsTo Try.prog e (.binOp .eql 37 q q' t') v (.value (.bool true)) v := fun ρ o hρ ho t d => by
  simp only [execOp, ho, hρ _ _ h, hρ _ _ h']
  simp [go_sem, he]
section
variable {Done : Goroutine → World → Prop}
theorem slAwake_run {u : World} {N : Nat} (hr : Ready0 u) (hN0 : 0 < N) {I : Inbs} (hI : ∀ x, x ≠ 0 → I x = none) {c0 : Frame} {cs : List Frame}
    (K : ∀ v' I', (∀ x, x ≠ 0 → I' x = none) → Grow u v' → Run Try.prog Done S0 0 (N + 1) I' (G (c0.finish (.bool true)) cs) v') :
    Run Try.prog Done S0 0 N I (G (Frame.enter Try.prog 7 #[] .normal) (c0 :: cs)) u := by
  refine Run.of_hold ?_
  obtain ⟨b, a, hEq, hb, hbf, hat⟩ := enter_is slAwake_fn slAwake_body slAwake_tmps #[] [] rfl (by simp)
  rw [hEq]
  have hbk := not_early hb
  refine hold_unf slAwake_code_def <| hold_seq <| hold_region (l := [0]) rfl <| h_val noA hbk slAwake_0 rfl rfl (by decide) hat (r_assign rfl) fun a hat => hold_region_end <| hold_seq <| hold_region (l := [0,1]) rfl <| h_callc hbk slAwake_1 rfl (by decide) hat wNew_fn wNew_bd wNew_nm (vals := #[_]) rfl fun c hc => wNew_hold (sl := []) hr ⟨rfl, .inl ⟨0, rfl, rfl⟩, by simp [ints]⟩ (by decide) fun v W ch rv hg1 hw hWl hcl hch hrv hrvn hrvW => hold_fin hc fun a hat => ?_
  have hG := Grow.refl v
  refine h_val noA hbk slAwake_1 rfl rfl (by decide) hat (r_assign rfl) fun a hat => hold_region_end <| hold_seq <| hold_region (l := [0,1,2,3,4,5,6,7,8,9,10,11,12,13]) rfl <| h_val noA hbk slAwake_2 rfl rfl (by decide) hat (r_move rfl) fun a hat => h_val noA hbk slAwake_2 rfl rfl (by decide) hat (bu_39_0 rfl rfl) fun a hat => h_val noA hbk slAwake_2 rfl rfl (by decide) hat (bu_39_0 rfl rfl) fun a hat => h_val noA hbk slAwake_2 rfl rfl (by decide) hat (bu_39_0 rfl rfl) fun a hat => h_val noA hbk slAwake_2 rfl rfl (by decide) hat (bu_39_0 rfl rfl) fun a hat => h_val noA hbk slAwake_2 rfl rfl (by decide) hat (bu_39_0 rfl rfl) fun a hat => h_news noA hbk slAwake_2 rfl rfl (by decide) hat (bs_25_5_0_1_2_3_4 rfl rfl rfl rfl rfl) fun v a B12 hB12 hsB12 hg F12 hat => ?_
  have gB12 := Nat.le_trans hG.size (Nat.le_of_eq hB12)
  replace hG := hG.trans hg
  refine h_news noA hbk slAwake_2 rfl rfl (by decide) hat (bs_26_1_0 rfl rfl) fun v a B13 hB13 hsB13 hg F13 hat => ?_
  have n_F13_F12 := ne_new F12 hB13
  have gB13 := Nat.le_trans hG.size (Nat.le_of_eq hB13)
  replace hG := hG.trans hg
  replace F12 := hg.at F12
  refine h_callc hbk slAwake_2 rfl (by decide) hat slPlay_fn slPlay_bd slPlay_nm (vals := #[_, _, _]) rfl fun c hc => ?_
  have hne : ∀ {b arr t fr}, v.heap[b]? = some (.cells arr t fr) → t ≠ 74 → t ≠ 3 → ¬ wordsOf W ch rv b := fun {b arr t fr} hb n1 n2 h => by
    rcases h with rfl | rfl | h
    · rw [hG.at hw] at hb; cases hb; exact n1 rfl
    · rw [hG.at hch] at hb; cases hb
    · exact own_ne (owns_grow hrv hG) hb n2 h
  have hwl : ∀ b, wordsOf W ch rv b → u.heap.size ≤ b := fun b h => by
    rcases h with rfl | rfl | h
    · exact hWl
    · exact hcl
    · exact hrvn b h
  have hm0 : mayE 1 (fun j => awakeSl.length) false = 0 := by
    unfold mayE
    rw [if_neg, if_neg (by decide)]
    rintro ⟨j, hj, h⟩
    exact absurd h (show ¬ 64 < awakeSl.length by decide)
  have hlen := hG.size
  refine hold_run (slPlay_run (fu := 8) (f := 60) (l := fun _ => awakeSl) (lv := fun _ => .slice (some ⟨B12, 0, none⟩) 5 5) (hG.ready (hg1.ready hr)) ⟨hG.at hw, hG.at hch, owns_grow hrv hG⟩ ⟨by simp, by decide⟩ hN0 hI ⟨⟨_, _, rfl, fun j hj => ⟨B13, 0, rfl, ?_⟩⟩, fun j hj => ⟨_, _, rfl⟩, by decide, fun j hj => (by decide : awakeSl.length ≤ maxLen)⟩ ⟨_, _, rfl⟩ (fun _ B O cp h => ?_) (fun j hj => ?_) (fun v' _ h => absurd hm0 h) (fun v' _ _ h => by omega) (fun _ _ _ => ?_))
  · obtain rfl : j = 0 := by omega
    exact cell_at' F13
  · cases h
    exact hne F13 (by decide) (by decide)
  · refine ⟨_, _, rfl, fun i x hx => ⟨B12, 0, rfl, lt_of_heap F12, hne F12 (by decide) (by decide), ?_⟩⟩
    have hi : i < 5 := (List.getElem?_eq_some_iff.1 hx).1
    rcases (show i = 0 ∨ i = 1 ∨ i = 2 ∨ i = 3 ∨ i = 4 by omega) with rfl | rfl | rfl | rfl | rfl <;> (cases hx; exact ⟨cell_at' F12, cell_at' F12, cell_at' F12, cell_at' F12⟩)
  · obtain ⟨⟨A', rs⟩, hA', hrs⟩ := Option.map_eq_some_iff.1 awakeSl_runs
    refine ⟨(A', rs), hA', ?_⟩
    simp only at hrs
    subst hrs
    intro Γ' v2 I' ob hWI hI' hlr hfin hkeep hW' hob
    refine Run.of_hold <| hold_fin hc fun a hat => ?_
    have hwl' : ∀ b, b < u.heap.size → ¬ wordsOf W ch rv b := fun b hb h => by have := hwl b h; omega
    have hG1 : Grow u v2 := ⟨Nat.le_trans hg1.size (Nat.le_trans hG.size (Nat.le_trans hob (Nat.le_of_lt (hfin 0 _ rfl).1.1))), fun b hb => (hkeep b (Nat.lt_of_lt_of_le hb (Nat.le_trans hg1.size hG.size)) (hwl' b hb)).trans ((hG.same b (Nat.lt_of_lt_of_le hb hg1.size)).trans (hg1.same b hb)), fun _ => hWI.ready⟩
    obtain ⟨ad, cap, hav, hA0⟩ := anssAt_fin hlr hfin
    obtain ⟨B, O, x, rfl, hx0, ad1, cap1, rfl, hA1⟩ := hA0 0 _ rfl
    simp only [Nat.add_zero] at hx0
    have hG := Grow.refl v2
    cases hav
    refine h_val noA hbk slAwake_2 rfl rfl (by decide) hat (r_move rfl) fun a hat => h_val noA hbk slAwake_2 rfl rfl (by decide) hat (r_extract rfl rfl) fun a hat => h_val noA hbk slAwake_2 rfl rfl (by decide) hat (r_extract rfl rfl) fun a hat => h_val noA hbk slAwake_2 rfl rfl (by decide) hat (r_assign rfl) fun a hat => h_val noA hbk slAwake_2 rfl rfl (by decide) hat (r_assign rfl) fun a hat => hold_region_end <| hold_seq <| hold_seq <| hold_region (l := [0,1,2,3,4,5,6,7,8,9,10,11,12,13]) rfl <| h_val noA hbk slAwake_3 rfl rfl (by decide) hat (r_move rfl) fun a hat => h_val noA hbk slAwake_3 rfl (opOk_eq (by kernel_rfl)) (by decide) hat (r_bool (t' := false) (r_neq rfl rfl) (by first | (simp; omega) | (simp; done) | (simp_all; done) | (simp_all; omega))) fun a hat => h_val noA hbk slAwake_3 rfl rfl (by decide) hat (r_move rfl) fun a hat => hg_yes noA hbk slAwake_3 rfl rfl rfl rfl (by decide) hat (r_move rfl) fun a hat => ?_
    refine hg_yes noA hbk slAwake_3 rfl rfl rfl rfl (by decide) hat (r_len lk_29 rfl) fun a hat => hg_yes noA hbk slAwake_3 rfl rfl rfl (opOk_eq (by kernel_rfl)) (by decide) hat (r_bool (t' := false) (r_neq rfl rfl) (by first | (simp; omega) | (simp; done) | (simp_all; done) | (simp_all; omega))) fun a hat => h_val noA hbk slAwake_3 rfl rfl (by decide) hat (r_pick rfl rfl) fun a hat => h_val noA hbk slAwake_3 rfl rfl (by decide) hat (r_move rfl) fun a hat => hg_yes noA hbk slAwake_3 rfl rfl rfl rfl (by decide) hat (r_move rfl) fun a hat => hg_yes noA hbk slAwake_3 rfl rfl rfl rfl (by decide) hat (r_index ix_29 rfl rfl (by decide) (by decide)) fun a hat => hg_yes noA hbk slAwake_3 rfl rfl rfl rfl (by decide) hat (r_load ld_34 rfl hx0) fun a hat => hg_yes noA hbk slAwake_3 rfl rfl rfl rfl (by decide) hat (r_len lk_34 rfl) fun a hat => hg_yes noA hbk slAwake_3 rfl rfl rfl (opOk_eq (by kernel_rfl)) (by decide) hat (r_bool (t' := false) (r_neq rfl rfl) (by first | (simp; omega) | (simp; done) | (simp_all; done) | (simp_all; omega))) fun a hat => ?_
    obtain ⟨B1, O1, rfl⟩ : ∃ B1 O1, ad1 = some ⟨B1, O1, none⟩ := by
      obtain ⟨B, O, e, _⟩ := hA1 0 (0, 0) rfl
      exact ⟨B, O, e⟩
    have hA1 : ∀ (j : Nat) (x : Int × Int), [((0 : Int), (0 : Int)), (80, 0), (0, 0), (1, 0), (81, 0)][j]? = some x → v2.cell? ⟨B1, O1 + j * 2, none⟩ = some (.int .i64 x.1) ∧ v2.cell? ⟨B1, O1 + j * 2 + 1, none⟩ = some (.int .i64 x.2) := fun j x hx => by
      obtain ⟨B, O, e, h⟩ := hA1 j x hx
      cases e
      exact h
    refine h_val noA hbk slAwake_3 rfl rfl (by decide) hat (r_pick rfl rfl) fun a hat => hold_region_end <| hold_condF (hat.eval (q := .tmp 30) rfl) rfl <| hold_skip <| hold_seq <| hold_region (l := [0,1,2,3,4,5,6,7,8,9,10,11,12,13,14,15,16,17,18,19,20,21,22,23,24,25,26,27,28,29,30,31,32,33,34,35,36,37,38,39,40,41,42,43]) rfl <| h_val noA hbk slAwake_5 rfl rfl (by decide) hat (r_move rfl) fun a hat => h_val noA hbk slAwake_5 rfl rfl (by decide) hat (r_index ix_29 rfl rfl (by decide) (by decide)) fun a hat => h_val noA hbk slAwake_5 rfl rfl (by decide) hat (r_load ld_34 rfl hx0) fun a hat => h_val noA hbk slAwake_5 rfl rfl (by decide) hat (r_index ix_34 rfl rfl (by decide) (by decide)) fun a hat => h_val noA hbk slAwake_5 rfl rfl (by decide) hat (x_load_ans rfl (hA1 0 (0, 0) rfl).1 (hA1 0 (0, 0) rfl).2) fun a hat => h_val noA hbk slAwake_5 rfl rfl (by decide) hat bu_37 fun a hat => h_val noA hbk slAwake_5 rfl (opOk_eq (by kernel_rfl)) (by decide) hat (r_eqAns rfl rfl ⟨rfl, rfl⟩) fun a hat => ?_
    refine h_val noA hbk slAwake_5 rfl rfl (by decide) hat (r_move rfl) fun a hat => hg_yes noA hbk slAwake_5 rfl rfl rfl rfl (by decide) hat (r_move rfl) fun a hat => hg_yes noA hbk slAwake_5 rfl rfl rfl rfl (by decide) hat (r_index ix_29 rfl rfl (by decide) (by decide)) fun a hat => hg_yes noA hbk slAwake_5 rfl rfl rfl rfl (by decide) hat (r_load ld_34 rfl hx0) fun a hat => hg_yes noA hbk slAwake_5 rfl rfl rfl rfl (by decide) hat (r_index ix_34 rfl rfl (by decide) (by decide)) fun a hat => hg_yes noA hbk slAwake_5 rfl rfl rfl rfl (by decide) hat (r_field fk_37_0 rfl) fun a hat => hg_yes noA hbk slAwake_5 rfl rfl rfl rfl (by decide) hat (r_load ld_24 rfl (hA1 1 (80, 0) rfl).1) fun a hat => hg_yes noA hbk slAwake_5 rfl rfl rfl (opOk_eq (by kernel_rfl)) (by decide) hat (r_bool (t' := true) (r_eql rfl rfl) (by first | (simp; omega) | (simp; done) | (simp_all; done) | (simp_all; omega))) fun a hat => ?_
    refine h_val noA hbk slAwake_5 rfl rfl (by decide) hat (r_pick rfl rfl) fun a hat => h_val noA hbk slAwake_5 rfl rfl (by decide) hat (r_move rfl) fun a hat => hg_yes noA hbk slAwake_5 rfl rfl rfl rfl (by decide) hat (r_move rfl) fun a hat => hg_yes noA hbk slAwake_5 rfl rfl rfl rfl (by decide) hat (r_index ix_29 rfl rfl (by decide) (by decide)) fun a hat => hg_yes noA hbk slAwake_5 rfl rfl rfl rfl (by decide) hat (r_load ld_34 rfl hx0) fun a hat => hg_yes noA hbk slAwake_5 rfl rfl rfl rfl (by decide) hat (r_index ix_34 rfl rfl (by decide) (by decide)) fun a hat => hg_yes noA hbk slAwake_5 rfl rfl rfl rfl (by decide) hat (x_load_ans rfl (hA1 2 (0, 0) rfl).1 (hA1 2 (0, 0) rfl).2) fun a hat => hg_yes noA hbk slAwake_5 rfl rfl rfl rfl (by decide) hat bu_37 fun a hat => hg_yes noA hbk slAwake_5 rfl rfl rfl (opOk_eq (by kernel_rfl)) (by decide) hat (r_eqAns rfl rfl ⟨rfl, rfl⟩) fun a hat => ?_
    refine h_val noA hbk slAwake_5 rfl rfl (by decide) hat (r_pick rfl rfl) fun a hat => h_val noA hbk slAwake_5 rfl rfl (by decide) hat (r_move rfl) fun a hat => hg_yes noA hbk slAwake_5 rfl rfl rfl rfl (by decide) hat (r_move rfl) fun a hat => hg_yes noA hbk slAwake_5 rfl rfl rfl rfl (by decide) hat (r_index ix_29 rfl rfl (by decide) (by decide)) fun a hat => hg_yes noA hbk slAwake_5 rfl rfl rfl rfl (by decide) hat (r_load ld_34 rfl hx0) fun a hat => hg_yes noA hbk slAwake_5 rfl rfl rfl rfl (by decide) hat (r_index ix_34 rfl rfl (by decide) (by decide)) fun a hat => hg_yes noA hbk slAwake_5 rfl rfl rfl rfl (by decide) hat (r_field fk_37_0 rfl) fun a hat => hg_yes noA hbk slAwake_5 rfl rfl rfl rfl (by decide) hat (r_load ld_24 rfl (hA1 3 (1, 0) rfl).1) fun a hat => hg_yes noA hbk slAwake_5 rfl rfl rfl (opOk_eq (by kernel_rfl)) (by decide) hat (r_bool (t' := true) (r_eql rfl rfl) (by first | (simp; omega) | (simp; done) | (simp_all; done) | (simp_all; omega))) fun a hat => ?_
    refine h_val noA hbk slAwake_5 rfl rfl (by decide) hat (r_pick rfl rfl) fun a hat => h_val noA hbk slAwake_5 rfl rfl (by decide) hat (r_move rfl) fun a hat => hg_yes noA hbk slAwake_5 rfl rfl rfl rfl (by decide) hat (r_move rfl) fun a hat => hg_yes noA hbk slAwake_5 rfl rfl rfl rfl (by decide) hat (r_index ix_29 rfl rfl (by decide) (by decide)) fun a hat => hg_yes noA hbk slAwake_5 rfl rfl rfl rfl (by decide) hat (r_load ld_34 rfl hx0) fun a hat => hg_yes noA hbk slAwake_5 rfl rfl rfl rfl (by decide) hat (r_index ix_34 rfl rfl (by decide) (by decide)) fun a hat => hg_yes noA hbk slAwake_5 rfl rfl rfl rfl (by decide) hat (r_field fk_37_0 rfl) fun a hat => hg_yes noA hbk slAwake_5 rfl rfl rfl rfl (by decide) hat (r_load ld_24 rfl (hA1 4 (81, 0) rfl).1) fun a hat => hg_yes noA hbk slAwake_5 rfl rfl rfl (opOk_eq (by kernel_rfl)) (by decide) hat (r_bool (t' := true) (r_eql rfl rfl) (by first | (simp; omega) | (simp; done) | (simp_all; done) | (simp_all; omega))) fun a hat => ?_
    refine h_val noA hbk slAwake_5 rfl rfl (by decide) hat (r_pick rfl rfl) fun a hat => h_val noA hbk slAwake_5 rfl rfl (by decide) hat (r_assign rfl) fun a hat => hold_region_end <| hold_retd hb hbf slAwake_fn hat.defers (ret_one slAwake_res hat rfl) ?_
    exact hold_run (K _ I' hI' (hG1.trans hG))
end
end Go.Proofs.Ytecdiejeofclaaa


/- SlotsFree, to the end of its run. -/
namespace Go.Proofs.Ytecdiejeofclaaa
open Go Go.Conc
theorem slFree_inits : Try.prog.inits.idxOf? 5 = none := by kernel_rfl
theorem slFree_run {u W0 : World} (hr : Ready0 u) {z : Int} {cv : Value} {l : List ACall} (hC : CallsAt u cv l) (hlm : l.length ≤ maxLen) :
    Run Try.prog (AtDone Try.prog W0 (AlonePost u W0)) S0 0 1 (fun _ => none) (G (Frame.enter Try.prog 5 #[.int .i64 z, cv] .normal) []) u := by
  obtain ⟨adc, capc, rfl, hC2⟩ := id hC
  refine Run.of_hold ?_
  obtain ⟨b, a, hEq, hb, hbf, hat⟩ := enter_is slFree_fn slFree_body slFree_tmps #[.int .i64 z, .slice adc l.length capc] [(0, .int .i64 z), (1, .slice adc l.length capc)] rfl (by simp)
  rw [hEq]
  have hbk := not_early hb
  refine hold_unf slFree_code_def <| hold_seq <| hold_region (l := [0]) rfl <| h_val noA hbk slFree_0 rfl rfl (by decide) hat (r_assign rfl) fun a hat => hold_region_end <| hold_seq <| hold_region (l := [0,1]) rfl <| h_callc hbk slFree_1 rfl (by decide) hat slAwake_fn slAwake_bd slAwake_nm (vals := #[]) rfl fun c hc => ?_
  refine hold_run (slAwake_run hr (by decide) (fun _ _ => rfl) fun v I' hI' hGa => ?_)
  refine Run.of_hold <| hold_fin hc fun a hat => h_val noA hbk slFree_1 rfl rfl (by decide) hat (r_assign rfl) fun a hat => hold_region_end <| hold_seq <| hold_region (l := [0,1]) rfl <| h_callc hbk slFree_2 rfl (by decide) hat Free_fn Free_bd Free_nm (vals := #[_]) rfl fun c hc => Free_hold fun v T hg1 hT FT => ?_
  have hG1 := hGa.trans hg1
  refine hold_fin hc fun a hat => h_val noA hbk slFree_2 rfl rfl (by decide) hat (r_assign rfl) fun a hat => hold_region_end <| hold_seq <| hold_region (l := [0,1,2]) rfl <| h_val noA hbk slFree_3 rfl rfl (by decide) hat (r_move rfl) fun a hat => h_callc hbk slFree_3 rfl (by decide) hat slNew_fn slNew_bd slNew_nm (vals := #[_, _]) rfl fun c hc => slNew0_hold (hG1.ready hr) fun v C lN lU cb hgN hCl hS hcb => ?_
  have FC := hS.c
  have hN := slMany_le z
  refine hold_fin hc fun a hat => ?_
  have hG := Grow.refl v
  refine h_val noA hbk slFree_3 rfl rfl (by decide) hat (r_assign rfl) fun a hat => hold_region_end <| hold_seq <| hold_seq <| hold_region (l := [0,1,2,3,4,5]) rfl <| h_val noA hbk slFree_4 rfl rfl (by decide) hat (r_move rfl) fun a hat => h_val noA hbk slFree_4 rfl rfl (by decide) hat (r_not rfl) fun a hat => h_val noA hbk slFree_4 rfl rfl (by decide) hat (r_move rfl) fun a hat => hg_yes noA hbk slFree_4 rfl rfl rfl rfl (by decide) hat (r_move rfl) fun a hat => hg_yes noA hbk slFree_4 rfl rfl rfl opOk_nil (by decide) hat (r_isnil nk_43 rfl) fun a hat => h_val noA hbk slFree_4 rfl rfl (by decide) hat (r_pick rfl rfl) fun a hat => hold_region_end <| hold_condF (hat.eval (q := .tmp 26) rfl) rfl ?_
  refine hold_skip <| hold_seq <| hold_region (l := [0,1,2,3]) rfl <| h_val noA hbk slFree_6 rfl rfl (by decide) hat (r_move rfl) fun a hat => h_still hbk slFree_6 rfl (by decide) hat (r_min rfl rfl) fun a hat => h_still hbk slFree_6 rfl (by decide) hat (r_max rfl rfl) fun a hat => ?_
  have hmm : (if (if (1000 : Int) < z then 1000 else z) > 0 then (if (1000 : Int) < z then 1000 else z) else 0) = ((slMany z : Nat) : Int) := by unfold slMany; omega
  rw [hmm] at hat
  generalize slMany z = N at *
  refine h_val noA hbk slFree_6 rfl rfl (by decide) hat (r_assign rfl) fun a hat => hold_region_end <| hold_seq <| hold_region (l := [0,1,2,3,4]) rfl <| h_val noA hbk slFree_7 rfl rfl (by decide) hat (r_move rfl) fun a hat => h_news noA hbk slFree_7 rfl rfl (by decide) hat (r_make Try.underlying45 (z := .bool false) (bytes := 1) (by kernel_rfl) rfl rfl rfl (by omega) (by omega)) fun v a B31 hB31 hsB31 hg F31 hat => ?_
  have n_F31_FC := ne_new FC hB31
  have gB31 := Nat.le_trans hG.size (Nat.le_of_eq hB31)
  replace hG := hG.trans hg
  replace FC := hg.at FC
  refine h_val noA hbk slFree_7 rfl rfl (by decide) hat (bu_47_1 rfl rfl) fun a hat => h_new noA hbk slFree_7 rfl rfl (by decide) hat al_47 fun v a B9 hB9 hsB9 hg F9 hat => ?_
  have n_F9_FC := ne_new FC hB9
  have n_F9_F31 := ne_new F31 hB9
  have gB9 := Nat.le_trans hG.size (Nat.le_of_eq hB9)
  replace hG := hG.trans hg
  replace FC := hg.at FC
  replace F31 := hg.at F31
  refine h_put noA hbk slFree_7 rfl rfl hat (pg_47 rfl rfl F9 rfl rfl rfl rfl rfl) fun v a hP F9x hat => ?_
  simp only [List.setIfInBounds_toArray, List.set_cons_succ, List.set_cons_zero] at F9x
  replace FC := hP.keep (by first | exact n_F9_FC | exact n_FC_F9.symm | exact ne_of_types FC F9 (by decide) | omega) FC
  replace F31 := hP.keep (by first | exact n_F9_F31 | exact n_F31_F9.symm | exact ne_of_types F31 F9 (by decide) | omega) F31
  replace hG := hG.put hP gB9
  replace F9 := F9x; clear F9x
  refine hold_region_end <| hold_seq <| hold_seq <| hold_region (l := [0,1,2]) rfl <| h_val noA hbk slFree_8 rfl rfl (by decide) hat (r_move rfl) fun a hat => h_val noA hbk slFree_8 rfl rfl (by decide) hat (r_sub rfl rfl (by first | omega | (simp; omega))) fun a hat => h_val noA hbk slFree_8 rfl rfl (by decide) hat (r_assign rfl) fun a hat => hold_region_end <| hold_block <| hold_loop ?_
  rw [rowF_made] at F31
  refine slFree_loop0 ((hG1.trans hgN).ready hr) hN gB9 hbk (fun v a gv hG F9 F31 hrow hlow hat => ?_) N v _ (.slice none 0 0) (Nat.le_refl _) hG F9 F31 ⟨by simp [ints], .inl ⟨rfl, by omega⟩⟩ (fun b hb => by cases hb) (hat.sub (AtE.cons rfl (AtE.cons rfl (AtE.cons rfl (AtE.cons rfl (AtE.cons rfl (AtE.cons rfl (AtE.nil))))))))
  have hus : (rowF N fun _ => Value.bool false) = usedRow N (List.range' 0 N).reverse := rowF_congr fun j hj => by simp [List.mem_range'_1, hj]
  rw [hus] at F31
  have hsz := hgN.size
  refine hold_seq <| hold_seq <| hold_region (l := [0]) rfl <| h_val noA hbk slFree_12 rfl rfl (by decide) hat (r_assign rfl) fun a hat => hold_region_end <| hold_block <| hold_loop ?_
  refine slFree_loop1 (u := _) (hG1.ready hr) hN (cvs := .slice adc l.length capc) (l := l) ?_ hlm hcb (Nat.le_trans hsz gB9) (Nat.le_trans hsz gB31) hbk (fun v a hG' hat => ?_) l.length 0 v a (slSys [] N).vals (List.range' 0 N).reverse gv (by omega) (hgN.trans hG) (hS.grow hG) ((hgN.trans hG).at FT) (by rw [List.reverse_reverse]; exact one_begin hN) F9 F31 (by simpa using hrow) (fun b hb => Nat.le_trans hsz (hlow b hb)) (hat.sub (AtE.cons rfl (AtE.cons rfl (AtE.cons rfl (AtE.cons rfl (AtE.cons rfl (AtE.cons rfl (AtE.nil))))))))
  · refine ⟨adc, capc, rfl, fun j x hx => ?_⟩
    obtain ⟨B, O, e, e0, e1, e2, e3⟩ := hC2 j x hx
    exact ⟨B, O, e, grow_cell hG1 e0, grow_cell hG1 e1, grow_cell hG1 e2, grow_cell hG1 e3⟩
  · skip
    refine hold_seq <| hold_region (l := [0]) rfl <| h_val noA hbk slFree_37 rfl rfl (by decide) hat (r_assign rfl) fun a hat => hold_region_end ?_
    exact law_end hI' (hG1.trans hG') hb (by rw [hbf]; exact slFree_fn) (by rw [hbf]; exact slFree_inits) slFree_res hat rfl
end Go.Proofs.Ytecdiejeofclaaa


/- What stands in an argument: a schedule; scripts. -/
namespace Go.Proofs.Ytecdiejeofclaaa
open Go Go.ChangeShapes Go.WideShapes Go.ChangeAt Go.RowKit Go.Conc Go.ConcN
theorem a_own : ownKnob Try.prog.godebug = none := by kernel_rfl
theorem a_laidOut : laidOutB Try.prog = true := by kernel_rfl
theorem a_cells : Try.prog.cellsOf 3 = 1 := by kernel_rfl
/-- Variables that are not laid yet are out of sight. -/
def unp : Obj → Obj
  | .pending _ _ => .deferred none
  | o => o
def unpend (w : World) : World := { w with heap := w.heap.map unp }
theorem unpend_at (w : World) (b : Nat) : (unpend w).heap[b]? = (w.heap[b]?).map unp := by simp [unpend]
theorem sim_unpend (w : World) : Sim false S0 (unpend w) w := by
  refine ⟨rfl, rfl, by simp [unpend], fun b => ?_, fun _ h => h.elim, fun b c e h => ?_⟩
  · rw [unpend_at]
    cases w.heap[b]? with
    | none => rfl
    | some o => cases o <;> first | exact BSim.refl _ _ | rfl
  · rw [unpend_at] at h
    cases hw : w.heap[b]? with
    | none => rw [hw] at h; cases h
    | some o => rw [hw] at h; cases o <;> simp [unp] at h
theorem unpend_cell {w : World} {ad : Addr} {x : Value} (h : w.cell? ad = some x) : (unpend w).cell? ad = some x := (sim_unpend w).cell ad ▸ h
theorem below_of {W v w : World} {S : Addr → Prop} (hG : Grow (unpend W) v) (hs : Sim false S v w) (hsh : Shape W w) : Below W.heap.size W w := by
  have hsz : (unpend W).heap.size = W.heap.size := by simp [unpend]
  refine ⟨hsh.os, hsh.tape, hsh.output, by rw [← hs.size, ← hsz]; exact hG.size, fun b hb => ?_⟩
  have h1 := hs.block b
  rw [hG.same b (by rw [hsz]; exact hb), unpend_at] at h1
  obtain ⟨o, ho⟩ : ∃ o, W.heap[b]? = some o := ⟨W.heap[b], by simp [hb]⟩
  rw [ho] at h1 ⊢
  by_cases hc : ∃ c e f, o = .cells c e f
  · obtain ⟨c, e, f, rfl⟩ := hc
    obtain ⟨c', hc'⟩ := hsh.block b c e f ho
    rw [hc'] at h1 ⊢
    obtain ⟨e1, _, _⟩ := h1
    rw [e1]
  · by_cases hch : ∃ cap buf cl x y tm, o = .chan cap buf cl x y tm
    · obtain ⟨cap, buf, cl, x, y, tm, rfl⟩ := hch
      have h2 : some (Obj.chan cap buf cl x y tm) = w.heap[b]? := h1
      exact h2.symm
    · exact hsh.pend b o ho (fun c e f e1 => hc ⟨c, e, f, e1⟩) (fun cap buf cl x y tm e1 => hch ⟨cap, buf, cl, x, y, tm, e1⟩)
theorem no_sub {w : World} {B O s : Nat} {x : Value} (h : w.cell? ⟨B, O, some s⟩ = some x) : False := by
  have : w.cell? ⟨B, O, some s⟩ = none := by
    unfold World.cell?
    split
    · simp
    · rfl
  rw [this] at h; cases h
theorem add_plain (B O i : Nat) : (⟨B, O, none⟩ : Addr).add i = ⟨B, O + i, none⟩ := by simp [Addr.add]
/-- An address at which something stands is plain. -/
theorem plain_of {w : World} {a : Addr} {x : Value} (h : w.cell? (a.add 0) = some x) : ∃ B O, a = ⟨B, O, none⟩ := by
  obtain ⟨B, O, sp⟩ := a
  cases sp with
  | none => exact ⟨B, O, rfl⟩
  | some s =>
    have e0 : (⟨B, O, some s⟩ : Addr).add 0 = ⟨B, O, some s⟩ := by simp [Addr.add]
    rw [e0] at h
    exact (no_sub h).elim
theorem a_cells4 : Try.prog.cellsOf 39 = 4 := by kernel_rfl
set_option maxRecDepth 100000 in
theorem calls_open {H : Type} {enc : TypeId × Value → H} {W : World} {base fuel : Nat} {v : Value} {x : DataW H × List MemPlace} (h : DataW.trod enc Try.prog W 0 (fun _ => true) true fuel 25 [v] = some x) :
    ∃ l : List ACall, CallsAt (unpend W) v l ∧ l.length ≤ maxLen ∧ (l = [] ∨ ∃ el sp, x.1 = .slice el sp ∧ l.length = el.length) := by
  rcases Go.Deep.open_slice Try.underlying25 h with ⟨hcs, _⟩ | ⟨a, len, cap, m, n, D, Pl, hcs, _, hl, hm, hmm, hxe, hx⟩
  · obtain rfl : v = .slice none 0 0 := by simpa using hcs
    exact ⟨[], ⟨none, 0, rfl, fun j y hy => by cases hy⟩, Nat.zero_le _, .inl rfl⟩
  · obtain rfl : v = .slice (some a) len cap := by simpa using hcs
    simp only [if_true] at hmm
    subst hmm
    rw [a_cells4] at hx
    have hall : ∀ j, j < len → ∃ y : ACall, W.cell? (a.add (j * 4)) = some (.int .i64 y.op) ∧ W.cell? (a.add (j * 4 + 1)) = some (.int .i64 y.a) ∧ W.cell? (a.add (j * 4 + 2)) = some (.int .i64 y.b) ∧ W.cell? (a.add (j * 4 + 3)) = some (.int .i64 y.c) := fun j hj => by
      obtain ⟨cs', h1, h2⟩ := hx j (by omega)
      obtain ⟨_, h3, h4⟩ := World.cells?_some h1
      obtain ⟨y0, y1, y2, y3, q, _, _, g0, g1, g2, g3⟩ := Go.Joins.trod_struct4 Try.underlying39 h2
      match cs', h3 with
      | [c0, c1, c2, c3], _ =>
        obtain ⟨n0, e0, _, _⟩ := DataW.trod_int Try.underlying3 (by simpa [a_cells] using g0)
        obtain ⟨n1, e1, _, _⟩ := DataW.trod_int Try.underlying3 (by simpa [a_cells] using g1)
        obtain ⟨n2, e2, _, _⟩ := DataW.trod_int Try.underlying3 (by simpa [a_cells] using g2)
        obtain ⟨n3, e3, _, _⟩ := DataW.trod_int Try.underlying3 (by simpa [a_cells] using g3)
        simp only [List.cons.injEq, and_true] at e0 e1 e2 e3
        subst e0 e1 e2 e3
        have k0 := h4 0 (by omega)
        have k1 := h4 1 (by omega)
        have k2 := h4 2 (by omega)
        have k3 := h4 3 (by omega)
        rw [Go.Deep.add_add] at k0 k1 k2 k3
        exact ⟨⟨n0, n1, n2, n3⟩, by simpa using k0, by simpa using k1, by simpa using k2, by simpa using k3⟩
    obtain ⟨F, hF⟩ := Classical.axiomOfChoice (r := fun (j : Nat) (y : ACall) => j < len → W.cell? (a.add (j * 4)) = some (.int .i64 y.op) ∧ W.cell? (a.add (j * 4 + 1)) = some (.int .i64 y.a) ∧ W.cell? (a.add (j * 4 + 2)) = some (.int .i64 y.b) ∧ W.cell? (a.add (j * 4 + 3)) = some (.int .i64 y.c)) fun j => by
      by_cases hj : j < len
      · obtain ⟨y, hy⟩ := hall j hj
        exact ⟨y, fun _ => hy⟩
      · exact ⟨⟨0, 0, 0, 0⟩, fun h => absurd h hj⟩
    refine ⟨(List.range len).map F, ⟨some a, m, by simp, fun j y hy => ?_⟩, by simp; omega, .inr ⟨_, _, congrArg Prod.fst hxe, by simp⟩⟩
    have hj : j < len := by have := (List.getElem?_eq_some_iff.1 hy).1; simpa using this
    have e : y = F j := by simp [hj] at hy; exact hy.symm
    subst e
    obtain ⟨f0, f1, f2, f3⟩ := hF j hj
    obtain ⟨g0, _⟩ := hF 0 (by omega)
    obtain ⟨B, O, rfl⟩ := plain_of (by simpa using g0)
    rw [add_plain] at f0 f1 f2 f3
    exact ⟨B, O, rfl, unpend_cell f0, unpend_cell f1, unpend_cell f2, unpend_cell f3⟩
end Go.Proofs.Ytecdiejeofclaaa


/- SlotsFree returns true, whatever the number of slots and the calls, and leaves its arguments alone. -/
namespace Go.Proofs.Ytecdiejeofclaaa
open Go Go.ChangeShapes Go.WideShapes Go.ChangeAt Go.RowKit Go.Conc Go.ConcN
theorem slFree_params : Try.f5.params = #[3, 25] := by kernel_rfl
theorem slFree_results : Try.f5.resultTypes = #[4] := by kernel_rfl
set_option maxRecDepth 100000 in
theorem slFree_lifted (os : Os) (started : os.Started) (H : Type) (enc : TypeId × Value → H) :
    ReturnsInLeavingWide {} Try.checked os 5 .any (Rows.slotsFreeSpec.pre6 enc Try.prog Try.f5 Rows.slotsFreeRow.domain false) (Rows.slotsFreeSpec.post enc Try.prog Try.f5 false true false false) := by
  refine returnsInLeavingWide_of_change_sized (C := Try.checked) a_own started Try.func5
    (ChangeSpec.witness6 (enc := enc) (C := Try.checked) false ⟨#[], #[.int .i64 0, .slice none 0 0], []⟩ 8 (by kernel_rfl) (by kernel_rfl) (by kernel_rfl) (by kernel_rfl)) ?_
  intro W base args ds gs before hval0 hW hcnd0 hwt0 _
  have hval : ∀ (j : Nat) t v, Try.f5.params[j]? = some t → args[j]? = some v → Value.okWide Try.prog W .any base t v := hval0
  clear hcnd0
  have hW' := hW
  obtain ⟨p, q, hA0, hV, rfl, _, _⟩ := hW
  have hA : DataW.TrodAll enc Try.prog W 0 (fun _ => true) true Try.f5.params.toList args.toList ds p := hA0
  have hwt : (DataW.weightsEach Try.prog (Try.f5.params.toList ++ Rows.slotsFreeSpec.plain.varTypes Try.prog) (ds ++ gs)).all (· ≤ reachBytes) = true := hwt0
  rw [slFree_params] at hA hval hwt
  obtain ⟨v0, v1, d0, d1, p0, p1, rfl, rfl, rfl, h0, h1⟩ := trodAll_two hA
  obtain ⟨rfl, rfl⟩ := trodVars_none hV
  obtain ⟨z, rfl, rfl, rfl, hz⟩ := open_int Try.underlying3 (hval 0 3 v0 rfl rfl) h0
  obtain ⟨a0, len, cap, rfl⟩ := okWide_slice Try.underlying25 (hval 1 25 v1 rfl rfl)
  obtain ⟨fuel, hf⟩ := id h1
  obtain ⟨l, hl1, hl2, hl3⟩ := calls_open (base := base) (v := .slice a0 len cap) (by simpa [Value.cells] using hf)
  simp only [List.append_nil] at hW'
  have hlt : ∀ x ∈ p1, x.block < W.heap.size := fun x hx => by simpa using hW'.lt x (by simpa using hx)
  obtain ⟨M, last, o, w', t', r1, r2, r3, r4⟩ := run_good (sim_unpend W) (slFree_run (W0 := W) (sim_unpend W).ready (z := z) hl1 hl2)
  refine ⟨M, last, o, w', t', r1, r2, r3, r4.mono fun x hx => ?_⟩
  obtain ⟨rfl, v, S, hG, hs, hsh⟩ := hx
  have hb := below_of hG hs hsh
  have t0 : DataW.Trod enc Try.prog w' 0 (fun b => decide (b < W.heap.size)) true 3 (.int .i64 z) (.lit (.int .i64 z)) [] := shut_int Try.underlying3 hz
  have t1 := Below.trod a_laidOut (by kernel_rfl) (of_decide_eq_true (by kernel_rfl)) h1 hb (fun x hx => hlt x (by simp [hx]))
  refine ⟨_, _, _, [], [] ++ p1, [], hW', ?_, ?_, rfl, hb.frame _, fun h => by cases h⟩
  · rw [slFree_results]
    exact trodAll_mk1 (shut_bool Try.underlying4 true)
  · rw [slFree_params]
    exact trodAll_mk2 t0 t1
/-- SlotsFree: whatever comes in: true; and what came in reads as it did. -/
theorem sl_free_holds : Rows.SlotsFreeSaid :=
  OpenClaim.holds_of_wide_leaving 5 Try.f5 rfl rfl rfl rfl rfl rfl rfl ⟨rfl, rfl, rfl, rfl, rfl⟩ rfl rfl rfl rfl rfl (by kernel_rfl) Try.func5 (by kernel_rfl)
    (of_decide_eq_true (by kernel_rfl)) (by unfold Func.isWrapper; first | (rw [if_pos (by decide +kernel)]; kernel_rfl) | (rw [if_neg (by decide +kernel)]; exact ⟨rfl, rfl⟩))
    (fun os started H enc _ => slFree_lifted os started H enc)
#print axioms sl_free_holds
end Go.Proofs.Ytecdiejeofclaaa

