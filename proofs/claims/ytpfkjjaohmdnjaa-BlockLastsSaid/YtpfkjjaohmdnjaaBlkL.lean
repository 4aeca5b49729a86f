/- What the document's Write does: what waits has one more. -/
import Derived.Test.YtpfkjjaohmdnjaaProg
import Derived.Below
import Derived.Deep.Draws
import Derived.Deep.AppendLies
import Derived.Maps.AppendAt
import Derived.OwnWalk
import Derived.Laws.BytesArg
import Derived.Laws.MakeOwn
import Derived.Laws.OwnMore
import Derived.Deep.OwnRows
import Derived.Tactics
import Derived.Lib.ConvBytes
import Derived.Laws.Slices
import Derived.WalkKit
import Derived.KernelRfl
import Derived.RowKit3
import Derived.Deep.LoopGhost
import Derived.Deep.QuietTactic
import Derived.BigQuiet
import Derived.WideLaws
import Derived.Deep.DeepCutAuto
import Derived.Deep.CutBlock
import Derived.Deep.RegionHeld3
import Derived.Laws.Rows
import Derived.Lib.AppendStr
import Derived.ArgAppend
import Derived.Laws.IdiomCopy
import Derived.OrdersHeld
import Derived.Laws.BitsLemmas
import Derived.RowKit
import Derived.LoopN
import Derived.Handy
import Derived.Laws.EntriesVeiled
import Derived.MapKept
import Derived.Laws.Externs
import Derived.ChangeKeysEq
import Derived.Deep.WholeRow
import Derived.Test.YtpfkjjaohmdnjaaWWords
import Derived.Test.YtpfkjjaohmdnjaaWLast
import Derived.Test.YtpfkjjaohmdnjaaWTab
import Derived.Test.YtpfkjjaohmdnjaaWFour
import Derived.Test.YtpfkjjaohmdnjaaWQPut
import Derived.Test.YtpfkjjaohmdnjaaWApart
import Derived.Test.YtpfkjjaohmdnjaaWArr
import Derived.Test.YtpfkjjaohmdnjaaWZeros
import Derived.Test.YtpfkjjaohmdnjaaWFoot
import Derived.Test.YtpfkjjaohmdnjaaWKept
import Derived.Test.YtpfkjjaohmdnjaaWShare
import Derived.Test.YtpfkjjaohmdnjaaWN
import Derived.Test.YtpfkjjaohmdnjaaWFootNe
import Derived.Test.YtpfkjjaohmdnjaaWAt
import Derived.Test.YtpfkjjaohmdnjaaWEqStruct
import Derived.Test.YtpfkjjaohmdnjaaWRepsOne
import Derived.Test.YtpfkjjaohmdnjaaWInv
import Derived.Test.YtpfkjjaohmdnjaaWInvWords
import Derived.Test.YtpfkjjaohmdnjaaWGuard
import Derived.Test.YtpfkjjaohmdnjaaWNEv
import Derived.Test.YtpfkjjaohmdnjaaWMore
import Derived.Test.YtpfkjjaohmdnjaaBlkA
import Derived.Test.YtpfkjjaohmdnjaaBlkB
import Derived.Test.YtpfkjjaohmdnjaaBlkE
namespace Go.Proofs.Ytpfkjjaohmdnjaa.Print
open Go.RowKit Go.Proofs.YtpfkjjaohmdnjaaW.PrintWords Go.Proofs.YtpfkjjaohmdnjaaW.PrintLast Go.Proofs.YtpfkjjaohmdnjaaW.PrintMore
attribute [local go_sem] max2_int min2_int max_two min_two max_three min_three max_four min_four
set_option linter.unusedVariables false
set_option linter.unusedSimpArgs false
section
variable {B : Nat} {w w' : World} {p gl gm : Nat} {v : Value} {L : List (Bk × Bool)} {W : List (Int × Bk)}
theorem rw_und : Try.prog.underlying 42 = some (.slice 67) := by kernel_rfl
theorem info67 : (Try.prog.info? 67).map (fun i => (i.zero, i.size, i.bytes)) = some (some (.agg (wrow (0, Bk.z)).toArray), 65, 72) := rw_info
set_option maxHeartbeats 8000000 in
set_option maxRecDepth 100000 in
theorem r_Write (h : RA B w p gl v L W) (hB : B ≤ w.heap.size) (a : Int) (b : Bk) : Calls Try.prog 13 #[.pointer (some ⟨p, 0, none⟩), .int .i64 a, .agg b.cs.toArray] w fun e w' => e = .returned (.int .i64 (wrc L W a)) ∧ ∃ v', RA B w' p gl v' L (wrW L W a b) ∧ Mv (rfoot p gl v) (rfoot p gl v') w w' := by
  obtain ⟨r, hr⟩ : ∃ r, r = wrc L W a := ⟨_, rfl⟩
  obtain ⟨Wn, hn⟩ : ∃ Wn, Wn = wrW L W a b := ⟨_, rfl⟩
  rw [← hr, ← hn]
  rw [wrW, ← hr] at hn
  replace hn := Aside0.mk hn
  replace hr := Aside0.mk hr
  have hb0 := below_alloc (Below.refl w.heap.size w) (.cells b.cs.toArray 37)
  have hk0 := blk_new w (.cells b.cs.toArray 37)
  have HS := Aside0.mk (h.below hb0)
  have HB := Aside0.mk hb0
  have HK := Aside0.mk hk0
  have hLW := Aside0.mk (And.intro h.hB (And.intro h.hL h.hW))
  have hbs := fun W => run_one rw_und rw_info W (a, b)
  obtain ⟨A, c, hv, hc0, _⟩ := Kd.R_reads h.hw
  rw [List.length_map] at hv hc0
  have hL0 := h.hL.2
  have NO : ∀ k, v.ownBlock = some k → k < w.heap.size := fun k hk => Kd.R_lt h.hw k hk
  clear h hb0 hk0 hc0
  subst hv
  have hc0 : (w.alloc (.cells b.cs.toArray 37)).cell? ⟨p, 0, none⟩ = some (.slice (some ⟨gl, 0, none⟩) L.length L.length) := (blk_cell HS.out.hp 0).trans rfl
  have hc1 : (w.alloc (.cells b.cs.toArray 37)).cell? ⟨p, 1, none⟩ = some (.slice A W.length c) := (blk_cell HS.out.hp 1).trans rfl
  go_enter Try.func13, Try.ntmps13
  by_cases h1 : a < 0
  · obtain rfl : r = 2 := by rw [hr.out, wrc, if_neg (by omega)]
    obtain rfl : Wn = W := by rw [hn.out, if_neg (by decide)]
    go_wp2_with fail
    go_ret
    exact ⟨rfl, _, HS.out, Mv.of_below HB.out⟩
  by_cases h2 : (L.length : Int) ≤ a
  · obtain rfl : r = 2 := by rw [hr.out, wrc, if_neg (by omega)]
    obtain rfl : Wn = W := by rw [hn.out, if_neg (by decide)]
    go_wp2_with fail
    go_ret
    exact ⟨rfl, _, HS.out, Mv.of_below HB.out⟩
  by_cases hf : 4096 ≤ W.length
  · obtain rfl : r = 10 := by rw [hr.out, wrc, if_pos ⟨by omega, by omega⟩, if_pos hf]
    obtain rfl : Wn = W := by rw [hn.out, if_neg (by decide)]
    go_wp2_with fail
    go_ret
    exact ⟨rfl, _, HS.out, Mv.of_below HB.out⟩
  obtain rfl : r = 0 := by rw [hr.out, wrc, if_pos ⟨by omega, by omega⟩, if_neg hf]
  obtain rfl : Wn = W ++ [(a, b)] := by rw [hn.out, if_pos rfl]
  clear hr hn
  have hin : 0 ≤ a ∧ a < L.length := ⟨by omega, by omega⟩
  obtain ⟨v, hv⟩ : ∃ v, v = Value.slice A W.length c := ⟨_, rfl⟩
  have MV := Aside0.mk (Mv.of_below (F := rfoot p gl v) HB.out)
  go_wp2_with fail
  generalize w.alloc (.cells b.cs.toArray 37) = w1 at HS HB HK MV hc0 hc1 ⊢
  rw [← hv] at HS hc1 NO ⊢
  replace hv := Aside0.mk hv
  clear hc0 hc1
  have BKp := Aside0.mk HS.out.hp
  have BKl := Aside0.mk HS.out.hl
  have R8 := Aside0.mk HS.out.hw
  have BK5 := HK
  clear HS HB HK
  have n_MV := Aside0.mk (MV.out.trans (Mv.of_below (below_drew (Below.refl _ _))))
  have n_BKp := Aside0.mk (blk_below BKp.out (below_drew (Below.refl _ _)))
  have n_BKl := Aside0.mk (blk_below BKl.out (below_drew (Below.refl _ _)))
  have n_BK5 := Aside0.mk (blk_below BK5.out (below_drew (Below.refl _ _)))
  have n_R8 := Aside0.mk (Kd.R_below R8.out (below_drew (Below.refl _ _)))
  clear MV
  have MV := n_MV
  clear n_MV
  clear BKp
  have BKp := n_BKp
  clear n_BKp
  clear BKl
  have BKl := n_BKl
  clear n_BKl
  clear BK5
  have BK5 := n_BK5
  clear n_BK5
  clear R8
  have R8 := n_R8
  clear n_R8
  refine start_ (n := 13) (S := fun w' => w'.cell? ⟨p, 1, none⟩ = some v ∧ w'.heap[w.heap.size]? = some (.cells b.cs.toArray 37 (0, 0))) (ds := [12]) #[false, false, false, false, false, false, false, false, false, false, false, false, false] (by kernel_rfl) rfl rfl ⟨(blk_cell BKp.out 1).trans rfl, BK5.out⟩ (fun hHeld => ?_)
  generalize w1.drew = w2 at MV BKp BKl BK5 R8 hHeld ⊢
  refine pure_ (i := 0) (N := some 24) (v := ?_) (a' := ?_) #[true, false, false, false, false, false, false, false, false, false, false, false, false] rfl rfl (by kernel_rfl) (fun _ _ _ h => h) (Or.inl ⟨by rfl, ?_⟩) ?_ ?_
  rotate_left
  · intro w'
    go_simp
    with_reducible rfl
  rotate_left
  · simp only [Act.put, List.setIfInBounds_toArray, List.set_cons_zero, List.set_cons_succ, i64_w, i32_w]
    rfl
  refine pure_ (i := 1) (N := some 25) (v := ?_) (a' := ?_) #[true, true, false, false, false, false, false, false, false, false, false, false, false] rfl rfl (by kernel_rfl) (fun _ _ _ h => h) (Or.inl ⟨by rfl, ?_⟩) ?_ ?_
  rotate_left
  · intro w'
    go_simp
    with_reducible rfl
  rotate_left
  · simp only [Act.put, List.setIfInBounds_toArray, List.set_cons_zero, List.set_cons_succ, i64_w, i32_w]
    rfl
  refine pure_ (i := 2) (N := some 26) (v := ?_) (a' := ?_) #[true, true, true, false, false, false, false, false, false, false, false, false, false] rfl rfl (by kernel_rfl) (fun _ _ _ h => h) (Or.inl ⟨by rfl, ?_⟩) ?_ ?_
  rotate_left
  · intro w'
    go_simp
    with_reducible rfl
  rotate_left
  · simp only [Act.put, List.setIfInBounds_toArray, List.set_cons_zero, List.set_cons_succ, i64_w, i32_w]
    rfl
  refine pure_ (i := 3) (N := some 27) (v := ?_) (a' := ?_) #[true, true, true, true, false, false, false, false, false, false, false, false, false] rfl rfl (by kernel_rfl) (fun _ _ _ h => h) (Or.inl ⟨by rfl, ?_⟩) ?_ ?_
  rotate_left
  · intro w'
    go_simp
    with_reducible rfl
  rotate_left
  · simp only [Act.put, List.setIfInBounds_toArray, List.set_cons_zero, List.set_cons_succ, i64_w, i32_w]
    rfl
  refine pure_ (i := 5) (N := some 29) (v := ?_) (a' := ?_) #[true, true, true, true, false, true, false, false, false, false, false, false, false] rfl rfl (by kernel_rfl) (fun _ _ _ h => h) (Or.inl ⟨by rfl, ?_⟩) ?_ ?_
  rotate_left
  · intro w'
    go_simp
    with_reducible rfl
  rotate_left
  · simp only [Act.put, List.setIfInBounds_toArray, List.set_cons_zero, List.set_cons_succ, i64_w, i32_w]
    rfl
  refine take_ (i := 4) (N := some 28) (v := ?_) (a' := ?_) #[true, true, true, true, true, true, false, false, false, false, false, false, false] rfl rfl (by kernel_rfl) (fun _ _ _ h => h) (Or.inl ⟨by rfl, ?_⟩) hHeld ?_ ?_
  rotate_left
  · rintro w' ⟨s0, s1⟩
    go_simp
    with_reducible rfl
  rotate_left
  · simp only [Act.put, List.setIfInBounds_toArray, List.set_cons_zero, List.set_cons_succ, i64_w, i32_w]
    rfl
  refine take_ (i := 6) (N := some 30) (v := ?_) (a' := ?_) #[true, true, true, true, true, true, true, false, false, false, false, false, false] rfl rfl (by kernel_rfl) (fun _ _ _ h => h) (Or.inl ⟨by rfl, ?_⟩) hHeld ?_ ?_
  rotate_left
  · rintro w' ⟨s0, s1⟩
    refine load_run 37 (.tmp 5) ?_ w.heap.size ?_ 37 _ (0, 0) _ s1 rbk_und rfl (by rw [bk_sz]; exact rbk_info) <;> rfl
  rotate_left
  · simp only [Act.put, List.setIfInBounds_toArray, List.set_cons_zero, List.set_cons_succ, i64_w, i32_w]
    rfl
  refine pure_ (i := 7) (N := some 31) (v := ?_) (a' := ?_) #[true, true, true, true, true, true, true, true, false, false, false, false, false] rfl rfl (by kernel_rfl) (fun _ _ _ h => h) (Or.inl ⟨by rfl, ?_⟩) ?_ ?_
  rotate_left
  · intro w'
    refine build_run 67 #[(0, .tmp 29), (1, .tmp 30)] #[(0, .int .i64 a), (1, b.v)] ?_ ?_ ?_ <;> first | rw [run_rw] | rfl | (simp only [List.map_toArray, List.map_cons, List.map_nil]; rfl)
  rotate_left
  · simp only [Act.put, List.setIfInBounds_toArray, List.set_cons_zero, List.set_cons_succ, i64_w, i32_w]
    rfl
  refine one_ (i := 8) (N := some 32) #[true, true, true, true, true, true, true, true, true, false, false, false, false] rfl rfl (by kernel_rfl) (by decide) (fun K hK => ?_)
  refine value_ (by rfl) rfl (bslice_run 42 1 _ #[(0, .agg (wrow (a, b)).toArray)] rfl (by simp only [List.map_toArray, List.map_cons, List.map_nil]; rfl) (hbs w2)) ?_
  have hb := below_alloc (Below.refl w2.heap.size w2) (.cells (wrow (a, b)).toArray 67)
  have hbox := blk_new w2 (.cells (wrow (a, b)).toArray 67)
  have m_ := Aside0.mk hbox
  have n_MV := Aside0.mk (MV.out.trans (Mv.of_below hb))
  have n_BKp := Aside0.mk (blk_below BKp.out hb)
  have n_BKl := Aside0.mk (blk_below BKl.out hb)
  have n_BK5 := Aside0.mk (blk_below BK5.out hb)
  have n_R8 := Aside0.mk (Kd.R_below R8.out hb)
  clear MV
  have MV := n_MV
  clear n_MV
  clear BKp
  have BKp := n_BKp
  clear n_BKp
  clear BKl
  have BKl := n_BKl
  clear n_BKl
  clear BK5
  have BK5 := n_BK5
  clear n_BK5
  clear R8
  have R8 := n_R8
  clear n_R8
  clear hb hbox
  generalize w2.alloc (.cells (wrow (a, b)).toArray 67) = y1_ at m_ MV BKp BKl BK5 R8 ⊢
  generalize w2.heap.size = gq at m_ ⊢
  have BKgq := m_
  clear m_
  refine hK.out _ _ ⟨(blk_cell BKp.out 1).trans rfl, BK5.out⟩ (fun hHeld => ?_)
  clear hK K
  refine norm_ (a' := ?_) ?_ ?_
  rotate_left
  · show Act.put _ (some 32) _ = _
    simp only [Act.put, List.setIfInBounds_toArray, List.set_cons_zero, List.set_cons_succ, i64_w, i32_w]
    rfl
  refine one_ (i := 9) (N := some 33) #[true, true, true, true, true, true, true, true, true, true, false, false, false] rfl rfl (by kernel_rfl) (by decide) (fun K hK => ?_)
  refine Kd.R_append_rows_step (Kd.raw 65) (w0 := y1_) B (by rfl) (.tmp 28) (.tmp 32) 42 67 (.agg (wrow (0, Bk.z)).toArray) 72 rfl Try.underlying42 info67 rfl (by decide) (by omega) (v) (W.map wrow) ([wrow (a, b)]) _ _ _ (fun _ => True) (fun _ => False) rfl rfl ?aO ?aR (fun _ _ h => h) (fun _ h => h.elim) ?aF ?aB ?aS ?aL ?_
  (case aR => exact raw_one (wrow (a, b)) (wrow_len _) (wrow_one _) BKgq.out)
  (case aB => exact Below.refl _ _)
  (case aF => exact fun _ _ => trivial)
  (case aO => exact R8.out)
  (case aS => exact Nat.le_trans hB MV.out.size)
  (case aL => rw [List.length_map]; omega)
  intro v_ y2_ ho hb hg hat
  have AT : ∀ k, v_.ownBlock = some k → v.ownBlock = some k ∨ w.heap.size ≤ k := fun k hk => hat.elim (fun e_ => .inl (e_.symm.trans hk)) (fun ⟨b, e1, e2⟩ => .inr (by rw [hk] at e1; cases e1; have := MV.out.size; omega))
  have n_MV := Aside0.mk (MV.out.trans (Mv.grown hg (fun k e_ => Or.inr (Or.inr e_)) (fun k h_ => .inl h_)))
  have n_BKp := Aside0.mk (blk_grown BKp.out hg (Kd.R_ne R8.out BKp.out (by decide)))
  have n_BKl := Aside0.mk (blk_grown BKl.out hg (Kd.R_ne R8.out BKl.out (by decide)))
  have n_BK5 := Aside0.mk (blk_grown BK5.out hg (Kd.R_ne R8.out BK5.out (by decide)))
  have m_ := Aside0.mk ho
  clear MV
  clear BKp
  clear BKl
  clear BK5
  clear R8
  clear BKgq
  have MV := n_MV
  clear n_MV
  have BKp := n_BKp
  clear n_BKp
  have BKl := n_BKl
  clear n_BKl
  have BK5 := n_BK5
  clear n_BK5
  clear ho hb hg hat
  obtain ⟨A9, c9, eo⟩ := Kd.R_slice m_.out
  subst eo
  have R11 := m_
  clear m_
  refine hK.out _ _ ⟨(blk_cell BKp.out 1).trans rfl, BK5.out⟩ (fun hHeld => ?_)
  clear hK K
  refine norm_ (a' := ?_) ?_ ?_
  rotate_left
  · show Act.put _ (some 33) _ = _
    simp only [Act.put, List.setIfInBounds_toArray, List.set_cons_zero, List.set_cons_succ, i64_w, i32_w]
    rfl
  refine pure_ (i := 10) (N := some 34) (v := ?_) (a' := ?_) #[true, true, true, true, true, true, true, true, true, true, true, false, false] rfl rfl (by kernel_rfl) (fun _ _ _ h => h) (Or.inl ⟨by rfl, ?_⟩) ?_ ?_
  rotate_left
  · intro w'
    go_simp
    with_reducible rfl
  rotate_left
  · simp only [Act.put, List.setIfInBounds_toArray, List.set_cons_zero, List.set_cons_succ, i64_w, i32_w]
    rfl
  refine pure_ (i := 11) (N := some 35) (v := ?_) (a' := ?_) #[true, true, true, true, true, true, true, true, true, true, true, true, false] rfl rfl (by kernel_rfl) (fun _ _ _ h => h) (Or.inl ⟨by rfl, ?_⟩) ?_ ?_
  rotate_left
  · intro w'
    go_simp
    with_reducible rfl
  rotate_left
  · simp only [Act.put, List.setIfInBounds_toArray, List.set_cons_zero, List.set_cons_succ, i64_w, i32_w]
    rfl
  refine last_ (i := 12) (N := none) #[true, true, true, true, true, true, true, true, true, true, true, true, true] rfl rfl (by kernel_rfl) (by decide) (fun K hK => ?_)
  have kf := blk_frozen BKp.out 1
  have kc := (blk_cell BKp.out 1).trans rfl
  refine skip_ (w1 := ?_) (by rfl) rfl ?_ ?_
  rotate_left
  · go_simp
    rfl
  refine hK.out _ _ ?_
  clear hK K
  refine done_ (by kernel_rfl) ?_
  clear hHeld
  go_wp2_with fail
  have hl : (W.map wrow ++ [wrow (a, b)]).length = W.length + 1 := by simp
  rw [← hl]
  have hne : ∀ k, (Value.slice A9 (W.map wrow ++ [wrow (a, b)]).length c9).ownBlock = some k → k ≠ p := fun k hk e_ => Kd.R_ne R11.out BKp.out (by decide) (by rw [hk, e_])
  have hnl : gl ≠ p := fun e => by have := BKp.out; rw [← e, BKl.out] at this; injection this with this; injection this with _ this; exact absurd this (by decide)
  go_ret
  rw [← hv.out]
  refine ⟨rfl, .slice A9 (W.map wrow ++ [wrow (a, b)]).length c9, ⟨blk_put BKp.out 1 _ rfl, (Below.heap_setCell _ _ _ gl hnl).trans BKl.out, by rw [List.map_append]; exact same_R R11.out (fun k hk => Below.heap_setCell _ _ _ k (hne k hk)), hLW.out.1, hLW.out.2.1, ?_, ?_⟩, ?_⟩
  · rw [List.length_append, List.length_singleton]; omega
  · intro x hx
    rcases List.mem_append.1 hx with hx | hx
    · exact hLW.out.2.2.2 x hx
    · simp at hx; subst hx; exact hin
  refine (MV.out.trans (Mv.cell _ ⟨p, 1, none⟩ (Or.inl rfl) _)).weaken (fun _ h => h) (fun k hk => ?_)
  rcases hk with rfl | rfl | hk
  · exact .inl (.inl rfl)
  · exact .inl (.inr (.inl rfl))
  · exact (AT k hk).elim (fun h => .inl (.inr (.inr h))) .inr
end
end Go.Proofs.Ytpfkjjaohmdnjaa.Print
