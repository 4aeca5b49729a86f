/- What the store's Write does: what waits has one more, and it is the block's last. -/
import Derived.Test.YtniadlnbjgodnaaProg
import Derived.Below
import Derived.Deep.Draws
import Derived.Deep.AppendLies
import Derived.Maps.AppendAt
import Derived.OwnWalk
import Derived.Laws.BytesArg
import Derived.Laws.MakeOwn
import Derived.Laws.OwnMore
import Derived.Deep.OwnRows
import Derived.Tactics
import Derived.Lib.ConvBytes
import Derived.Laws.Slices
import Derived.WalkKit
import Derived.KernelRfl
import Derived.RowKit3
import Derived.Deep.LoopGhost
import Derived.Deep.QuietTactic
import Derived.BigQuiet
import Derived.WideLaws
import Derived.Deep.DeepCutAuto
import Derived.Deep.CutBlock
import Derived.Deep.RegionHeld3
import Derived.Laws.Rows
import Derived.Lib.AppendStr
import Derived.ArgAppend
import Derived.Laws.IdiomCopy
import Derived.OrdersHeld
import Derived.Laws.BitsLemmas
import Derived.RowKit
import Derived.LoopN
import Derived.Handy
import Derived.Laws.EntriesVeiled
import Derived.MapKept
import Derived.Laws.Externs
import Derived.ChangeKeysEq
import Derived.Deep.WholeRow
import Derived.Test.YtniadlnbjgodnaaWWords
import Derived.Test.YtniadlnbjgodnaaWLast
import Derived.Test.YtniadlnbjgodnaaWTab
import Derived.Test.YtniadlnbjgodnaaWFour
import Derived.Test.YtniadlnbjgodnaaWQPut
import Derived.Test.YtniadlnbjgodnaaWApart
import Derived.Test.YtniadlnbjgodnaaWArr
import Derived.Test.YtniadlnbjgodnaaWZeros
import Derived.Test.YtniadlnbjgodnaaWFoot
import Derived.Test.YtniadlnbjgodnaaWKept
import Derived.Test.YtniadlnbjgodnaaWShare
import Derived.Test.YtniadlnbjgodnaaWN
import Derived.Test.YtniadlnbjgodnaaWFootNe
import Derived.Test.YtniadlnbjgodnaaWAt
import Derived.Test.YtniadlnbjgodnaaWEqStruct
import Derived.Test.YtniadlnbjgodnaaWRepsOne
import Derived.Test.YtniadlnbjgodnaaWInv
import Derived.Test.YtniadlnbjgodnaaWInvWords
import Derived.Test.YtniadlnbjgodnaaWGuard
import Derived.Test.YtniadlnbjgodnaaWNEv
import Derived.Test.YtniadlnbjgodnaaWMore
import Derived.Test.YtniadlnbjgodnaaBlkA
import Derived.Test.YtniadlnbjgodnaaBlkB
namespace Go.Proofs.Ytniadlnbjgodnaa.Print
open Go.RowKit Go.Proofs.YtniadlnbjgodnaaW.PrintWords Go.Proofs.YtniadlnbjgodnaaW.PrintLast Go.Proofs.YtniadlnbjgodnaaW.PrintMore
attribute [local go_sem] max2_int min2_int max_two min_two max_three min_three max_four min_four
set_option linter.unusedVariables false
set_option linter.unusedSimpArgs false
section
theorem w_und : Try.prog.underlying 74 = some (.slice 100) := by kernel_rfl
variable {B : Nat} {w w' : World} {p gl gm : Nat} {v : Value} {L : List (Bk × Bool)} {W : List (Int × Bk)}
theorem raw_one {w : World} (x : List Value) (hl : x.length = 65) (h1 : ∀ u ∈ x, u.oneCell' = true) {g e : Nat} {fr : Nat × Nat} (h : w.heap[g]? = some (.cells x.toArray e fr)) : ReadsRow (fun (y : List Value) cs => cs = y ∧ cs.length = 65 ∧ ∀ u ∈ cs, u.oneCell' = true) 65 w (some ⟨g, 0, none⟩) 1 [x] := by
  refine ⟨rfl, by omega, fun _ => ⟨⟨g, 0, none⟩, rfl, fun j q hj => ?_⟩⟩
  have hj0 : j = 0 := by
    have := (List.getElem?_eq_some_iff.1 hj).1
    simpa using this
  subst hj0
  obtain rfl : x = q := by simpa using hj
  refine ⟨x, hl, ⟨rfl, hl, h1⟩, fun i u hu => ?_⟩
  have hadd : (⟨g, 0, none⟩ : Addr).add (0 * 65 + i) = ⟨g, i, none⟩ := by unfold Addr.add; split <;> simp_all
  rw [hadd, cell_of_row w g i _ _ _ h]
  simpa using hu
theorem info100 : (Try.prog.info? 100).map (fun i => (i.zero, i.size, i.bytes)) = some (some (.agg (wrow (0, Bk.z)).toArray), 65, 72) := w_info
set_option maxHeartbeats 4000000 in
set_option maxRecDepth 100000 in
theorem b_push {a m : Value} {xs : List (List Value)} (hp : w.heap[p]? = some (.cells #[a, v, m] 78 (0, 0))) (hR : Kd.R (Kd.raw 65) 100 w B (fun _ => True) v xs) (hB : B ≤ w.heap.size) (hlen : xs.length ≤ 4096) (y : Int × Bk) :
    Calls Try.prog 47 #[.pointer (some ⟨p, 1, none⟩), .agg (wrow y).toArray] w fun e w' => e = .returned (.tuple #[]) ∧ ∃ v', Kd.R (Kd.raw 65) 100 w' B (fun _ => True) v' (xs ++ [wrow y]) ∧ w'.heap[p]? = some (.cells #[a, v', m] 78 (0, 0)) ∧ Mv (fun k => k = p ∨ v.ownBlock = some k) (fun k => k = p ∨ v'.ownBlock = some k) w w' := by
  have hb0 := below_alloc (Below.refl w.heap.size w) (.cells (wrow y).toArray 100)
  have hk0 := blk_new w (.cells (wrow y).toArray 100)
  have MV := Aside0.mk (Mv.of_below (F := fun k => k = p ∨ v.ownBlock = some k) hb0)
  have BKp := Aside0.mk (blk_below hp hb0)
  have QB3 := Aside0.mk hk0
  have NO : ∀ k, v.ownBlock = some k → k < w.heap.size := fun k hk => Kd.R_lt hR k hk
  have R8 := Aside0.mk (Kd.R_below hR hb0)
  have hpl := blk_lt hp
  have hbs := fun W => run_one w_und w_info W y
  have hlen := Aside0.mk hlen
  clear hb0 hk0 hp hR
  go_enter Try.func47, Try.ntmps47
  go_wp2_with fail
  generalize w.alloc (.cells (wrow y).toArray 100) = w1 at MV BKp QB3 R8 ⊢
  obtain ⟨g3, hg3⟩ : ∃ g, g = w.heap.size := ⟨_, rfl⟩
  have n_MV := Aside0.mk (MV.out.trans (Mv.of_below (below_drew (Below.refl _ _))))
  have n_BKp := Aside0.mk (blk_below BKp.out (below_drew (Below.refl _ _)))
  have n_QB3 := Aside0.mk (blk_below QB3.out (below_drew (Below.refl _ _)))
  have n_R8 := Aside0.mk (Kd.R_below R8.out (below_drew (Below.refl _ _)))
  clear MV
  have MV := n_MV
  clear n_MV
  clear BKp
  have BKp := n_BKp
  clear n_BKp
  clear QB3
  have QB3 := n_QB3
  clear n_QB3
  clear R8
  have R8 := n_R8
  clear n_R8
  refine start_ (n := 11) (S := fun w' => w'.cell? ⟨p, 1, none⟩ = some v ∧ w'.heap[w.heap.size]? = some (.cells (wrow y).toArray 100 (0, 0))) (ds := [10]) #[false, false, false, false, false, false, false, false, false, false, false] (by kernel_rfl) rfl rfl ⟨(blk_cell BKp.out 1).trans rfl, QB3.out⟩ (fun hHeld => ?_)
  generalize w1.drew = w2 at MV BKp QB3 R8 hHeld ⊢
  refine pure_ (i := 0) (N := some 4) (v := ?_) (a' := ?_) #[true, false, false, false, false, false, false, false, false, false, false] rfl rfl (by kernel_rfl) (fun _ _ _ h => h) (Or.inl ⟨by rfl, ?_⟩) ?_ ?_
  rotate_left
  · intro w'
    go_simp
    with_reducible rfl
  rotate_left
  · simp only [Act.put, List.setIfInBounds_toArray, List.set_cons_zero, List.set_cons_succ, i64_w, i32_w]
    rfl
  refine pure_ (i := 1) (N := some 5) (v := ?_) (a' := ?_) #[true, true, false, false, false, false, false, false, false, false, false] rfl rfl (by kernel_rfl) (fun _ _ _ h => h) (Or.inl ⟨by rfl, ?_⟩) ?_ ?_
  rotate_left
  · intro w'
    go_simp
    with_reducible rfl
  rotate_left
  · simp only [Act.put, List.setIfInBounds_toArray, List.set_cons_zero, List.set_cons_succ, i64_w, i32_w]
    rfl
  refine pure_ (i := 2) (N := some 6) (v := ?_) (a' := ?_) #[true, true, true, false, false, false, false, false, false, false, false] rfl rfl (by kernel_rfl) (fun _ _ _ h => h) (Or.inl ⟨by rfl, ?_⟩) ?_ ?_
  rotate_left
  · intro w'
    go_simp
    with_reducible rfl
  rotate_left
  · simp only [Act.put, List.setIfInBounds_toArray, List.set_cons_zero, List.set_cons_succ, i64_w, i32_w]
    rfl
  refine pure_ (i := 3) (N := some 7) (v := ?_) (a' := ?_) #[true, true, true, true, false, false, false, false, false, false, false] rfl rfl (by kernel_rfl) (fun _ _ _ h => h) (Or.inl ⟨by rfl, ?_⟩) ?_ ?_
  rotate_left
  · intro w'
    go_simp
    with_reducible rfl
  rotate_left
  · simp only [Act.put, List.setIfInBounds_toArray, List.set_cons_zero, List.set_cons_succ, i64_w, i32_w]
    rfl
  refine take_ (i := 4) (N := some 8) (v := ?_) (a' := ?_) #[true, true, true, true, true, false, false, false, false, false, false] rfl rfl (by kernel_rfl) (fun _ _ _ h => h) (Or.inl ⟨by rfl, ?_⟩) hHeld ?_ ?_
  rotate_left
  · rintro w' ⟨s0, s1⟩
    go_simp
    with_reducible rfl
  rotate_left
  · simp only [Act.put, List.setIfInBounds_toArray, List.set_cons_zero, List.set_cons_succ, i64_w, i32_w]
    rfl
  refine take_ (i := 5) (N := some 9) (v := ?_) (a' := ?_) #[true, true, true, true, true, true, false, false, false, false, false] rfl rfl (by kernel_rfl) (fun _ _ _ h => h) (Or.inl ⟨by rfl, ?_⟩) hHeld ?_ ?_
  rotate_left
  · rintro w' ⟨s0, s1⟩
    refine load_run 100 (.tmp 3) ?_ w.heap.size ?_ 100 _ (0, 0) _ s1 Try.underlying100 rfl (by rw [wrow_size]; exact w_isize) <;> rfl
  rotate_left
  · simp only [Act.put, List.setIfInBounds_toArray, List.set_cons_zero, List.set_cons_succ, i64_w, i32_w]
    rfl
  refine one_ (i := 6) (N := some 10) #[true, true, true, true, true, true, true, false, false, false, false] rfl rfl (by kernel_rfl) (by decide) (fun K hK => ?_)
  refine value_ (by rfl) rfl (bslice_run 74 1 _ #[(0, .agg (wrow y).toArray)] rfl (by simp only [List.map_toArray, List.map_cons, List.map_nil]; rfl) (hbs w2)) ?_
  have hb := below_alloc (Below.refl w2.heap.size w2) (.cells (wrow y).toArray 100)
  have hbox := blk_new w2 (.cells (wrow y).toArray 100)
  have m_ := Aside0.mk hbox
  have n_MV := Aside0.mk (MV.out.trans (Mv.of_below hb))
  have n_BKp := Aside0.mk (blk_below BKp.out hb)
  have n_QB3 := Aside0.mk (blk_below QB3.out hb)
  have n_R8 := Aside0.mk (Kd.R_below R8.out hb)
  clear MV
  have MV := n_MV
  clear n_MV
  clear BKp
  have BKp := n_BKp
  clear n_BKp
  clear QB3
  have QB3 := n_QB3
  clear n_QB3
  clear R8
  have R8 := n_R8
  clear n_R8
  clear hb hbox
  generalize w2.alloc (.cells (wrow y).toArray 100) = y1_ at m_ MV BKp QB3 R8 ⊢
  generalize w2.heap.size = gl at m_ ⊢
  have BKgl := m_
  clear m_
  refine hK.out _ _ ⟨(blk_cell BKp.out 1).trans rfl, QB3.out⟩ (fun hHeld => ?_)
  clear hK K
  refine norm_ (a' := ?_) ?_ ?_
  rotate_left
  · show Act.put _ (some 10) _ = _
    simp only [Act.put, List.setIfInBounds_toArray, List.set_cons_zero, List.set_cons_succ, i64_w, i32_w]
    rfl
  refine one_ (i := 7) (N := some 11) #[true, true, true, true, true, true, true, true, false, false, false] rfl rfl (by kernel_rfl) (by decide) (fun K hK => ?_)
  refine Kd.R_append_rows_step (Kd.raw 65) (w0 := y1_) B (by rfl) (.tmp 8) (.tmp 10) 74 100 (.agg (wrow (0, Bk.z)).toArray) 72 rfl Try.underlying74 info100 rfl (by decide) (by omega) (v) (xs) ([wrow y]) _ _ _ (fun _ => True) (fun _ => False) rfl rfl ?aO ?aR (fun _ _ h => h) (fun _ h => h.elim) ?aF ?aB ?aS ?aL ?_
  (case aR => exact raw_one (wrow y) (wrow_len y) (wrow_one y) BKgl.out)
  (case aB => exact Below.refl _ _)
  (case aF => exact fun _ _ => trivial)
  (case aO => exact R8.out)
  (case aS => exact Nat.le_trans hB MV.out.size)
  (case aL => have := hlen.out; omega)
  intro v_ y2_ ho hb hg hat
  have AT : ∀ k, v_.ownBlock = some k → v.ownBlock = some k ∨ w.heap.size ≤ k := fun k hk => hat.elim (fun e_ => .inl (e_.symm.trans hk)) (fun ⟨b, e1, e2⟩ => .inr (by rw [hk] at e1; cases e1; have := MV.out.size; omega))
  have n_MV := Aside0.mk (MV.out.trans (Mv.grown hg (fun k e_ => .inr e_) (fun k h_ => .inl h_)))
  have n_BKp := Aside0.mk (blk_grown BKp.out hg (Kd.R_ne R8.out BKp.out (by decide)))
  have n_QB3 := Aside0.mk (blk_grown QB3.out hg (fun e_ => by have := NO _ e_.symm; omega))
  have m_ := Aside0.mk ho
  clear MV
  clear BKp
  clear QB3
  clear R8
  clear BKgl
  have MV := n_MV
  clear n_MV
  have BKp := n_BKp
  clear n_BKp
  have QB3 := n_QB3
  clear n_QB3
  clear ho hb hg hat
  obtain ⟨A11, c11, eo⟩ := Kd.R_slice m_.out
  subst eo
  have R11 := m_
  clear m_
  refine hK.out _ _ ⟨(blk_cell BKp.out 1).trans rfl, QB3.out⟩ (fun hHeld => ?_)
  clear hK K
  refine norm_ (a' := ?_) ?_ ?_
  rotate_left
  · show Act.put _ (some 11) _ = _
    simp only [Act.put, List.setIfInBounds_toArray, List.set_cons_zero, List.set_cons_succ, i64_w, i32_w]
    rfl
  refine pure_ (i := 8) (N := some 12) (v := ?_) (a' := ?_) #[true, true, true, true, true, true, true, true, true, false, false] rfl rfl (by kernel_rfl) (fun _ _ _ h => h) (Or.inl ⟨by rfl, ?_⟩) ?_ ?_
  rotate_left
  · intro w'
    go_simp
    with_reducible rfl
  rotate_left
  · simp only [Act.put, List.setIfInBounds_toArray, List.set_cons_zero, List.set_cons_succ, i64_w, i32_w]
    rfl
  refine pure_ (i := 9) (N := some 13) (v := ?_) (a' := ?_) #[true, true, true, true, true, true, true, true, true, true, false] rfl rfl (by kernel_rfl) (fun _ _ _ h => h) (Or.inl ⟨by rfl, ?_⟩) ?_ ?_
  rotate_left
  · intro w'
    go_simp
    with_reducible rfl
  rotate_left
  · simp only [Act.put, List.setIfInBounds_toArray, List.set_cons_zero, List.set_cons_succ, i64_w, i32_w]
    rfl
  refine last_ (i := 10) (N := none) #[true, true, true, true, true, true, true, true, true, true, true] rfl rfl (by kernel_rfl) (by decide) (fun K hK => ?_)
  have kf := blk_frozen BKp.out 1
  have kc := (blk_cell BKp.out 1).trans rfl
  refine skip_ (w1 := ?_) (by rfl) rfl ?_ ?_
  rotate_left
  · go_simp
    rfl
  refine hK.out _ _ ?_
  clear hK K
  refine done_ (by kernel_rfl) ?_
  clear hHeld
  go_wp2_with fail
  have hl : (xs ++ [wrow y]).length = xs.length + 1 := by simp
  rw [← hl]
  have hne : ∀ k, (Value.slice A11 (xs ++ [wrow y]).length c11).ownBlock = some k → k ≠ p := fun k hk e_ => Kd.R_ne R11.out BKp.out (by decide) (by rw [hk, e_])
  go_end0
  refine ⟨rfl, .slice A11 (xs ++ [wrow y]).length c11, same_R R11.out (fun k hk => Below.heap_setCell _ _ _ k (hne k hk)), blk_put BKp.out 1 _ rfl, ?_⟩
  refine (MV.out.trans (Mv.cell _ ⟨p, 1, none⟩ (Or.inl rfl) _)).weaken (fun _ h => h) (fun k hk => ?_)
  rcases hk with rfl | hk
  · exact .inl (.inl rfl)
  · exact (AT k hk).elim (fun h => .inl (.inr h)) .inr

/-- What waits has one more; the map has not heard of it yet. -/
structure SP (B : Nat) (w : World) (p gl gm : Nat) (v : Value) (L : List (Bk × Bool)) (W W' : List (Int × Bk)) : Prop where
  hp : w.heap[p]? = some (.cells #[.slice (some ⟨gl, 0, none⟩) L.length L.length, v, .map (some gm)] 78 (0, 0))
  hl : w.heap[gl]? = some (.cells (hcells L) 103 (0, 0))
  hw : Kd.R (Kd.raw 65) 100 w B (fun _ => True) v (W'.map wrow)
  hm : ∃ m, MapAt w gm m ∧ ∀ k, lk m k = (lastOf W k).map Bk.v
theorem SP.below {W' : List (Int × Bk)} (h : SP B w p gl gm v L W W') (hb : Below w.heap.size w w') : SP B w' p gl gm v L W W' := by
  obtain ⟨m, hm, hm2⟩ := h.hm
  exact ⟨blk_below h.hp hb, blk_below h.hl hb, Kd.R_below h.hw hb, ⟨m, hm.below hb, hm2⟩⟩
theorem SP.put {m : List (Int × Value)} {a : Int} {b : Bk} (h : SP B w p gl gm v L W (W ++ [(a, b)])) (_hm : MapAt w gm m) (hm2 : ∀ k, lk m k = (lastOf W k).map Bk.v) (hm9 : MapAt w' gm (upd m a b.v)) (hpm : World.putMap w w' gm) (hLW : Aside0 ((1 ≤ L.length ∧ L.length ≤ 4096) ∧ W.length ≤ 4096 ∧ ∀ x ∈ W, 0 ≤ x.1 ∧ x.1 < L.length)) (hin : 0 ≤ a ∧ a < L.length) (hl : W.length < 4096)
    (hB : B ≤ p ∧ B ≤ gl ∧ B ≤ gm) : SA B w' p gl gm v L (W ++ [(a, b)]) ∧ Mv (foot p gl gm v) (foot p gl gm v) w w' := by
  have hg : ∃ es c, w.heap[gm]? = some (.map es c) := by obtain ⟨es, c, h, _⟩ := _hm; exact ⟨es, c, h⟩
  obtain ⟨es, c, hg⟩ := hg
  have n1 : p ≠ gm := fun e => by have := h.hp; rw [e, hg] at this; injection this with this; cases this
  have n2 : gl ≠ gm := fun e => by have := h.hl; rw [e, hg] at this; injection this with this; cases this
  have n3 : ∀ k, v.ownBlock = some k → k ≠ gm := fun k hk e => by obtain ⟨cs, hc⟩ := own_type h.hw hk; rw [e, hg] at hc; injection hc with hc; cases hc
  refine ⟨⟨(hpm.block p n1).trans h.hp, (hpm.block gl n2).trans h.hl, same_R h.hw (fun k hk => hpm.block k (n3 k hk)), ⟨_, hm9, fun k => ?_⟩, hB, hLW.out.1, ?_, ?_⟩, Mv.putMap (.inr (.inr (.inl rfl))) hpm⟩
  · rw [lastOf_snoc]
    by_cases e : k = a
    · rw [e, lk_upd_same, if_pos rfl]; rfl
    · rw [lk_upd_other _ _ _ _ e, if_neg e, hm2]
  · rw [List.length_append, List.length_singleton]; omega
  · intro x hx
    rcases List.mem_append.1 hx with hx | hx
    · exact hLW.out.2.2 x hx
    · simp at hx; subst hx; exact hin
theorem push_sp (h : SA B w p gl gm v L W) (hB : B ≤ w.heap.size) (hl : W.length < 4096) (y : Int × Bk) :
    Calls Try.prog 47 #[.pointer (some ⟨p, 1, none⟩), .agg (wrow y).toArray] w fun e w' => e = .returned (.tuple #[]) ∧ ∃ v', SP B w' p gl gm v' L W (W ++ [y]) ∧ Mv (foot p gl gm v) (foot p gl gm v') w w' := by
  refine (b_push h.hp h.hw hB (by rw [List.length_map]; omega) y).mono ?_
  rintro e w' ⟨rfl, v', hR, hp', hM⟩
  obtain ⟨m, hm, hm2⟩ := h.hm
  have hfl : ¬ (gl = p ∨ v.ownBlock = some gl) := by
    rintro (e | e)
    · have := h.hp; rw [← e, h.hl] at this; injection this with this; injection this with _ this; exact absurd this (by decide)
    · obtain ⟨cs, hc⟩ := own_type h.hw e; rw [h.hl] at hc; injection hc with hc; injection hc with _ hc; exact absurd hc (by decide)
  have hfm : ¬ (gm = p ∨ v.ownBlock = some gm) := by
    obtain ⟨es, c, hg, _⟩ := hm
    rintro (e | e)
    · have := h.hp; rw [← e, hg] at this; injection this with this; cases this
    · obtain ⟨cs, hc⟩ := own_type h.hw e; rw [hg] at hc; injection hc with hc; cases hc
  refine ⟨rfl, v', ⟨hp', hM.blk h.hl hfl, by rw [List.map_append]; exact hR, ⟨m, hm.same (hM.block gm hm.lt hfm), hm2⟩⟩, hM.weaken (fun k hk => ?_) (fun k hk => ?_)⟩
  · rcases hk with rfl | hk
    · exact .inl rfl
    · exact .inr (.inr (.inr hk))
  · rcases hk with rfl | rfl | rfl | hk
    · exact .inl (.inl rfl)
    · exact .inl (.inr (.inl rfl))
    · exact .inl (.inr (.inr (.inl rfl)))
    · exact (hM.foot k (.inr hk)).elim (fun h2 => h2.elim (fun e => .inl (.inl e)) (fun e => .inl (.inr (.inr (.inr e))))) .inr
set_option maxHeartbeats 4000000 in
set_option maxRecDepth 100000 in
theorem b_Write (h : SA B w p gl gm v L W) (hB : B ≤ w.heap.size) (a : Int) (b : Bk) : Calls Try.prog 20 #[.pointer (some ⟨p, 0, none⟩), .int .i64 a, .agg b.cs.toArray] w fun e w' => e = .returned (.int .i64 (wrc L W a)) ∧ ∃ v', SA B w' p gl gm v' L (wrW L W a b) ∧ Mv (foot p gl gm v) (foot p gl gm v') w w' := by
  obtain ⟨r, hr⟩ : ∃ r, r = wrc L W a := ⟨_, rfl⟩
  obtain ⟨Wn, hn⟩ : ∃ Wn, Wn = wrW L W a b := ⟨_, rfl⟩
  rw [← hr, ← hn]
  rw [wrW, ← hr] at hn
  replace hn := Aside0.mk hn
  replace hr := Aside0.mk hr
  have hb0 := below_alloc (Below.refl w.heap.size w) (.cells b.cs.toArray 46)
  have hk0 := blk_new w (.cells b.cs.toArray 46)
  have hs := h.below hb0
  have hBs : B ≤ w.heap.size := hB
  have hB3 := Aside0.mk h.hB
  have hLW := Aside0.mk (And.intro h.hL h.hW)
  clear h
  go_enter Try.func20, Try.ntmps20
  go_wp2_with fail
  generalize w.alloc (.cells b.cs.toArray 46) = y at hb0 hk0 hs ⊢
  with_reducible refine (b_check hs a).mono ?_
  rintro e w1 ⟨rfl, hb⟩
  have HB := Aside0.mk (below_step hb0 hb)
  have HK := Aside0.mk (blk_below hk0 hb)
  have HS := Aside0.mk (hs.below hb)
  clear hb hb0 hk0 hs y
  by_cases hin : 0 ≤ a ∧ a < L.length
  case neg =>
    rw [if_neg hin]
    have hb2 : ((2 : Int) != 0) = true := rfl
    have hr2 : r = 2 := by rw [hr.out, wrc, if_neg hin]
    obtain rfl : Wn = W := by rw [hn.out, hr2, if_neg (by decide)]
    subst hr2
    go_wp2_with fail
    go_ret
    exact ⟨rfl, v, HS.out, Mv.of_below HB.out⟩
  rw [if_pos hin]
  have hb2 : ((0 : Int) != 0) = false := rfl
  go_wp2_with fail
  with_reducible refine (b_Waiting HS.out).mono ?_
  rintro e w2 ⟨rfl, hb⟩
  have HB' := Aside0.mk (below_step HB.out hb)
  have HK' := Aside0.mk (blk_below HK.out hb)
  have HS' := Aside0.mk (HS.out.below hb)
  clear hb HB HK HS w1
  by_cases hf : 4096 ≤ W.length
  · have hr2 : r = 10 := by rw [hr.out, wrc, if_pos hin, if_pos hf]
    obtain rfl : Wn = W := by rw [hn.out, hr2, if_neg (by decide)]
    subst hr2
    go_wp2_with fail
    go_ret
    exact ⟨rfl, v, HS'.out, Mv.of_below HB'.out⟩
  have hr2 : r = 0 := by rw [hr.out, wrc, if_pos hin, if_neg hf]
  obtain rfl : Wn = W ++ [(a, b)] := by rw [hn.out, hr2, if_pos rfl]
  subst hr2
  clear hr hn
  have MV := Aside0.mk (Mv.of_below (F := foot p gl gm v) HB'.out)
  have BK5 := HK'
  have SS := HS'
  clear HB' HK' HS'
  go_wp2_with fail
  have n_MV := Aside0.mk (MV.out.trans (Mv.of_below (below_drew (Below.refl _ _))))
  have n_BK5 := Aside0.mk (blk_below BK5.out (below_drew (Below.refl _ _)))
  have n_SS := Aside0.mk (SS.out.below (below_drew (Below.refl _ _)))
  clear MV
  have MV := n_MV
  clear n_MV
  clear BK5
  have BK5 := n_BK5
  clear n_BK5
  clear SS
  have SS := n_SS
  clear n_SS
  refine start_ (n := 7) (S := fun w' => w'.heap[w.heap.size]? = some (.cells b.cs.toArray 46 (0, 0))) (ds := []) #[false, false, false, false, false, false, false] (by kernel_rfl) rfl rfl (BK5.out) (fun hHeld => ?_)
  generalize w2.drew = w3 at MV BK5 SS hHeld ⊢
  refine pure_ (i := 0) (N := some 17) (v := ?_) (a' := ?_) #[true, false, false, false, false, false, false] rfl rfl (by kernel_rfl) (fun _ _ _ h => h) (Or.inl ⟨by rfl, ?_⟩) ?_ ?_
  rotate_left
  · intro w'
    go_simp
    with_reducible rfl
  rotate_left
  · simp only [Act.put, List.setIfInBounds_toArray, List.set_cons_zero, List.set_cons_succ, i64_w, i32_w]
    rfl
  refine pure_ (i := 1) (N := some 18) (v := ?_) (a' := ?_) #[true, true, false, false, false, false, false] rfl rfl (by kernel_rfl) (fun _ _ _ h => h) (Or.inl ⟨by rfl, ?_⟩) ?_ ?_
  rotate_left
  · intro w'
    go_simp
    with_reducible rfl
  rotate_left
  · simp only [Act.put, List.setIfInBounds_toArray, List.set_cons_zero, List.set_cons_succ, i64_w, i32_w]
    rfl
  refine pure_ (i := 2) (N := some 19) (v := ?_) (a' := ?_) #[true, true, true, false, false, false, false] rfl rfl (by kernel_rfl) (fun _ _ _ h => h) (Or.inl ⟨by rfl, ?_⟩) ?_ ?_
  rotate_left
  · intro w'
    go_simp
    with_reducible rfl
  rotate_left
  · simp only [Act.put, List.setIfInBounds_toArray, List.set_cons_zero, List.set_cons_succ, i64_w, i32_w]
    rfl
  refine pure_ (i := 3) (N := some 20) (v := ?_) (a' := ?_) #[true, true, true, true, false, false, false] rfl rfl (by kernel_rfl) (fun _ _ _ h => h) (Or.inl ⟨by rfl, ?_⟩) ?_ ?_
  rotate_left
  · intro w'
    go_simp
    with_reducible rfl
  rotate_left
  · simp only [Act.put, List.setIfInBounds_toArray, List.set_cons_zero, List.set_cons_succ, i64_w, i32_w]
    rfl
  refine take_ (i := 4) (N := some 21) (v := ?_) (a' := ?_) #[true, true, true, true, true, false, false] rfl rfl (by kernel_rfl) (fun _ _ _ h => h) (Or.inl ⟨by rfl, ?_⟩) hHeld ?_ ?_
  rotate_left
  · intro w' s0
    refine load_run 46 (.tmp 5) ?_ w.heap.size ?_ 46 _ (0, 0) _ s0 bk_und rfl (by rw [bk_sz]; exact bk_info) <;> rfl
  rotate_left
  · simp only [Act.put, List.setIfInBounds_toArray, List.set_cons_zero, List.set_cons_succ, i64_w, i32_w]
    rfl
  refine pure_ (i := 5) (N := some 22) (v := ?_) (a' := ?_) #[true, true, true, true, true, true, false] rfl rfl (by kernel_rfl) (fun _ _ _ h => h) (Or.inl ⟨by rfl, ?_⟩) ?_ ?_
  rotate_left
  · intro w'
    refine build_run 100 #[(0, .tmp 20), (1, .tmp 21)] #[(0, .int .i64 a), (1, b.v)] ?_ ?_ ?_ <;> first | rw [run_w] | rfl | (simp only [List.map_toArray, List.map_cons, List.map_nil]; rfl)
  rotate_left
  · simp only [Act.put, List.setIfInBounds_toArray, List.set_cons_zero, List.set_cons_succ, i64_w, i32_w]
    rfl
  refine one_ (i := 6) (N := some 23) #[true, true, true, true, true, true, true] rfl rfl (by kernel_rfl) (by decide) (fun K hK => ?_)
  refine goes_ Try.func47 (by kernel_rfl) rfl #[.pointer (some ⟨p, 1, none⟩), .agg (wrow (a, b)).toArray] (by rfl) rfl rfl (by (try simp only [List.map_toArray, List.map_cons, List.map_nil]); first | done | rfl) ?_
  with_reducible refine (push_sp SS.out (Nat.le_trans hBs MV.out.size) (by omega) (a, b)).mono ?_
  rintro e y3_ ⟨rfl, v2, hsp, hb⟩
  refine ⟨_, rfl, ?_⟩
  have m_MV := Aside0.mk (MV.out.trans hb)
  have m_BK5 := Aside0.mk (hb.blk BK5.out (SS.out.far BK5.out (by decide)))
  have m_SP := Aside0.mk (hsp)
  clear hb
  clear MV
  clear BK5
  clear SS
  have MV := m_MV
  clear m_MV
  have BK5 := m_BK5
  clear m_BK5
  have SP := m_SP
  clear m_SP
  clear hsp
  refine hK.out _ _ (BK5.out) (fun hHeld => ?_)
  clear hK K
  refine norm_ (a' := ?_) ?_ ?_
  rotate_left
  · show Act.put _ (some 23) _ = _
    simp only [Act.put, List.setIfInBounds_toArray, List.set_cons_zero, List.set_cons_succ, i64_w, i32_w]
    rfl
  refine done_ (by kernel_rfl) ?_
  clear hHeld
  go_wp2_with fail
  have n_MV := Aside0.mk (MV.out.trans (Mv.of_below (below_drew (Below.refl _ _))))
  have n_BK5 := Aside0.mk (blk_below BK5.out (below_drew (Below.refl _ _)))
  have n_SP := Aside0.mk (SP.out.below (below_drew (Below.refl _ _)))
  clear MV
  have MV := n_MV
  clear n_MV
  clear BK5
  have BK5 := n_BK5
  clear n_BK5
  clear SP
  have SP := n_SP
  clear n_SP
  refine start_ (n := 7) (S := fun w' => w'.heap[w.heap.size]? = some (.cells b.cs.toArray 46 (0, 0)) ∧ w'.cell? ⟨p, 2, none⟩ = some (.map (some gm))) (ds := [6]) #[false, false, false, false, false, false, false] (by kernel_rfl) rfl rfl ⟨BK5.out, (blk_cell SP.out.hp 2).trans rfl⟩ (fun hHeld => ?_)
  generalize y3_.drew = w4 at MV BK5 SP hHeld ⊢
  refine pure_ (i := 0) (N := some 24) (v := ?_) (a' := ?_) #[true, false, false, false, false, false, false] rfl rfl (by kernel_rfl) (fun _ _ _ h => h) (Or.inl ⟨by rfl, ?_⟩) ?_ ?_
  rotate_left
  · intro w'
    go_simp
    with_reducible rfl
  rotate_left
  · simp only [Act.put, List.setIfInBounds_toArray, List.set_cons_zero, List.set_cons_succ, i64_w, i32_w]
    rfl
  refine pure_ (i := 1) (N := some 25) (v := ?_) (a' := ?_) #[true, true, false, false, false, false, false] rfl rfl (by kernel_rfl) (fun _ _ _ h => h) (Or.inl ⟨by rfl, ?_⟩) ?_ ?_
  rotate_left
  · intro w'
    go_simp
    with_reducible rfl
  rotate_left
  · simp only [Act.put, List.setIfInBounds_toArray, List.set_cons_zero, List.set_cons_succ, i64_w, i32_w]
    rfl
  refine pure_ (i := 2) (N := some 26) (v := ?_) (a' := ?_) #[true, true, true, false, false, false, false] rfl rfl (by kernel_rfl) (fun _ _ _ h => h) (Or.inl ⟨by rfl, ?_⟩) ?_ ?_
  rotate_left
  · intro w'
    go_simp
    with_reducible rfl
  rotate_left
  · simp only [Act.put, List.setIfInBounds_toArray, List.set_cons_zero, List.set_cons_succ, i64_w, i32_w]
    rfl
  refine pure_ (i := 4) (N := some 28) (v := ?_) (a' := ?_) #[true, true, true, false, true, false, false] rfl rfl (by kernel_rfl) (fun _ _ _ h => h) (Or.inl ⟨by rfl, ?_⟩) ?_ ?_
  rotate_left
  · intro w'
    go_simp
    with_reducible rfl
  rotate_left
  · simp only [Act.put, List.setIfInBounds_toArray, List.set_cons_zero, List.set_cons_succ, i64_w, i32_w]
    rfl
  refine take_ (i := 3) (N := some 27) (v := ?_) (a' := ?_) #[true, true, true, true, true, false, false] rfl rfl (by kernel_rfl) (fun _ _ _ h => h) (Or.inl ⟨by rfl, ?_⟩) hHeld ?_ ?_
  rotate_left
  · rintro w' ⟨s0, s1⟩
    go_simp
    with_reducible rfl
  rotate_left
  · simp only [Act.put, List.setIfInBounds_toArray, List.set_cons_zero, List.set_cons_succ, i64_w, i32_w]
    rfl
  refine take_ (i := 5) (N := some 29) (v := ?_) (a' := ?_) #[true, true, true, true, true, true, false] rfl rfl (by kernel_rfl) (fun _ _ _ h => h) (Or.inl ⟨by rfl, ?_⟩) hHeld ?_ ?_
  rotate_left
  · rintro w' ⟨s0, s1⟩
    refine load_run 46 (.tmp 5) ?_ w.heap.size ?_ 46 _ (0, 0) _ s0 bk_und rfl (by rw [bk_sz]; exact bk_info) <;> rfl
  rotate_left
  · simp only [Act.put, List.setIfInBounds_toArray, List.set_cons_zero, List.set_cons_succ, i64_w, i32_w]
    rfl
  refine last_ (i := 6) (N := none) #[true, true, true, true, true, true, true] rfl rfl (by kernel_rfl) (by decide) (fun K hK => ?_)
  obtain ⟨m9, hm, hm2⟩ := SP.out.hm
  obtain ⟨w9, hrun, hm9, hpm⟩ := MapAt.update mp_und int_und hm a b.v
  refine skip_ (w1 := w9) (by rfl) rfl (mapUpdate_run rfl rfl rfl rfl hrun) ?_
  refine hK.out _ _ ?_
  clear hK K
  refine done_ (by kernel_rfl) ?_
  clear hHeld
  go_wp2_with fail
  go_ret
  obtain ⟨hsa, hmv⟩ := SP.out.put hm hm2 hm9 hpm hLW hin (by omega) hB3.out
  exact ⟨rfl, v2, hsa, MV.out.trans hmv⟩
end
end Go.Proofs.Ytniadlnbjgodnaa.Print
