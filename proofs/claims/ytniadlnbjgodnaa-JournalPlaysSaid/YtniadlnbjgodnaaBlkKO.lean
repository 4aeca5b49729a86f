/- The document's new store. What the document's Write does: what waits has one more. What the document's Read answers. What the document's Sync and Crash do. The block that begins with bytes; and no store's size. -/
import Derived.Test.YtniadlnbjgodnaaProg
import Derived.Below
import Derived.Deep.Draws
import Derived.Deep.AppendLies
import Derived.Maps.AppendAt
import Derived.OwnWalk
import Derived.Laws.BytesArg
import Derived.Laws.MakeOwn
import Derived.Laws.OwnMore
import Derived.Deep.OwnRows
import Derived.Tactics
import Derived.Lib.ConvBytes
import Derived.Laws.Slices
import Derived.WalkKit
import Derived.KernelRfl
import Derived.RowKit3
import Derived.Deep.LoopGhost
import Derived.Deep.QuietTactic
import Derived.BigQuiet
import Derived.WideLaws
import Derived.Deep.DeepCutAuto
import Derived.Deep.CutBlock
import Derived.Deep.RegionHeld3
import Derived.Laws.Rows
import Derived.Lib.AppendStr
import Derived.ArgAppend
import Derived.Laws.IdiomCopy
import Derived.OrdersHeld
import Derived.Laws.BitsLemmas
import Derived.RowKit
import Derived.LoopN
import Derived.Handy
import Derived.Laws.EntriesVeiled
import Derived.MapKept
import Derived.Laws.Externs
import Derived.ChangeKeysEq
import Derived.Deep.WholeRow
import Derived.Test.YtniadlnbjgodnaaWWords
import Derived.Test.YtniadlnbjgodnaaWLast
import Derived.Test.YtniadlnbjgodnaaWTab
import Derived.Test.YtniadlnbjgodnaaWFour
import Derived.Test.YtniadlnbjgodnaaWQPut
import Derived.Test.YtniadlnbjgodnaaWApart
import Derived.Test.YtniadlnbjgodnaaWArr
import Derived.Test.YtniadlnbjgodnaaWZeros
import Derived.Test.YtniadlnbjgodnaaWFoot
import Derived.Test.YtniadlnbjgodnaaWKept
import Derived.Test.YtniadlnbjgodnaaWShare
import Derived.Test.YtniadlnbjgodnaaWN
import Derived.Test.YtniadlnbjgodnaaWFootNe
import Derived.Test.YtniadlnbjgodnaaWAt
import Derived.Test.YtniadlnbjgodnaaWEqStruct
import Derived.Test.YtniadlnbjgodnaaWRepsOne
import Derived.Test.YtniadlnbjgodnaaWInv
import Derived.Test.YtniadlnbjgodnaaWInvWords
import Derived.Test.YtniadlnbjgodnaaWGuard
import Derived.Test.YtniadlnbjgodnaaWNEv
import Derived.Test.YtniadlnbjgodnaaWMore
import Derived.Test.YtniadlnbjgodnaaBlkA
import Derived.Test.YtniadlnbjgodnaaBlkD
import Derived.Test.YtniadlnbjgodnaaBlkB
import Derived.Test.YtniadlnbjgodnaaBlkE
import Derived.Test.YtniadlnbjgodnaaBlkF
import Derived.Test.YtniadlnbjgodnaaBlkJ
namespace Go.Proofs.Ytniadlnbjgodnaa.Print
open Go.RowKit Go.Proofs.YtniadlnbjgodnaaW.PrintWords Go.Proofs.YtniadlnbjgodnaaW.PrintLast Go.Proofs.YtniadlnbjgodnaaW.PrintMore
attribute [local go_sem] max2_int min2_int max_two min_two max_three min_three max_four min_four
set_option linter.unusedVariables false
set_option linter.unusedSimpArgs false
section
variable {w : World}
set_option maxHeartbeats 4000000 in
set_option maxRecDepth 100000 in
theorem r_New_bad (n : Int) (hn : ¬ (1 ≤ n ∧ n ≤ 4096)) : Calls Try.prog 11 #[.int .i64 n] w fun e w' => e = .returned (.tuple #[.pointer none, .int .i64 2]) ∧ Below w.heap.size w w' := by
  by_cases h1 : n < 1
  · go_enter Try.func11, Try.ntmps11
    go_wp2_with fail
    go_ret2
    exact ⟨rfl, Below.refl _ _⟩
  have h2 : 4096 < n := by omega
  go_enter Try.func11, Try.ntmps11
  go_wp2_with fail
  go_ret2
  exact ⟨rfl, Below.refl _ _⟩
theorem rh_info : (Try.prog.info? 94).map (fun i => (i.zero, i.size, i.bytes)) = some (some (.agg (hrow (Bk.z, false)).toArray), 65, 65) := by kernel_rfl
theorem rls_und : Try.prog.underlying 56 = some (.slice 94) := by kernel_rfl
set_option maxHeartbeats 4000000 in
set_option maxRecDepth 100000 in
theorem r_New (n : Nat) (hn : 1 ≤ n ∧ n ≤ 4096) : Calls Try.prog 11 #[.int .i64 n] w fun e w' => ∃ p, e = .returned (.tuple #[.pointer (some ⟨p, 0, none⟩), .int .i64 0]) ∧ ∃ F, RAt w.heap.size w' p F (zeros n) [] ∧ Mv (fun _ => False) F w w' := by
  obtain ⟨i0, hi0, hz0, hsz0, hb0⟩ := info_parts rh_info
  have h1 : ¬ (n : Int) < 1 := by omega
  have h2 : ¬ 4096 < (n : Int) := by omega
  have hmk := run_make (P := Try.prog) w 56 94 i0 _ rls_und hi0 hz0 .i64 .i64 n n (by omega) (by omega) (by rw [hb0]; omega) (by omega)
  rw [Int.toNat_natCast, hsz0] at hmk
  go_enter Try.func11, Try.ntmps11
  go_wp2_with fail
  rw [made_zeros]
  generalize hw1 : w.alloc (.cells (hcells (zeros n)) 94) = w1
  have s1 : w1.heap.size = w.heap.size + 1 := by rw [← hw1]; simp
  have b1 : Below w.heap.size w w1 := by rw [← hw1]; exact below_alloc (Below.refl _ _) _
  have k1 : w1.heap[w.heap.size]? = some (.cells (hcells (zeros n)) 94 (0, 0)) := by rw [← hw1]; exact blk_new w _
  clear hw1
  obtain ⟨O, hO⟩ : ∃ O : Obj, O = .cells #[.slice (some ⟨w.heap.size, 0, none⟩) n n, .slice none 0 0] 59 := ⟨_, rfl⟩
  rw [← hO]
  generalize hw3 : w1.alloc O = w3
  have b3 : Below w.heap.size w w3 := by rw [← hw3]; exact below_alloc b1 _
  have k3 : w3.heap[w.heap.size]? = some (.cells (hcells (zeros n)) 94 (0, 0)) := by rw [← hw3]; exact blk_alloc k1 _
  have p3 : w3.heap[w.heap.size + 1]? = some O := by rw [← hw3, ← s1]; exact blk_new w1 _
  clear hw3
  rw [hO] at p3
  go_ret2
  refine ⟨w.heap.size + 1, rfl, rfoot (w.heap.size + 1) w.heap.size (.slice none 0 0), ⟨w.heap.size, .slice none 0 0, ⟨by rw [zeros_len]; exact p3, k3, Kd.R_nil _ _ _ _ _, ⟨by omega, by omega⟩, by rw [zeros_len]; exact hn, by simp, fun x hx => by simp at hx⟩, rfl⟩, ?_⟩
  refine (Mv.of_below (F := fun _ => False) b3).weaken (fun _ h => h.elim) (fun k hk => .inr ?_)
  rcases hk with rfl | rfl | h
  · omega
  · omega
  · cases h
end
section
variable {B : Nat} {w w' : World} {p gl gm : Nat} {v : Value} {L : List (Bk × Bool)} {W : List (Int × Bk)}
theorem rw_und : Try.prog.underlying 57 = some (.slice 92) := by kernel_rfl
theorem info92 : (Try.prog.info? 92).map (fun i => (i.zero, i.size, i.bytes)) = some (some (.agg (wrow (0, Bk.z)).toArray), 65, 72) := rw_info
set_option maxHeartbeats 8000000 in
set_option maxRecDepth 100000 in
theorem r_Write (h : RA B w p gl v L W) (hB : B ≤ w.heap.size) (a : Int) (b : Bk) : Calls Try.prog 22 #[.pointer (some ⟨p, 0, none⟩), .int .i64 a, .agg b.cs.toArray] w fun e w' => e = .returned (.int .i64 (wrc L W a)) ∧ ∃ v', RA B w' p gl v' L (wrW L W a b) ∧ Mv (rfoot p gl v) (rfoot p gl v') w w' := by
  obtain ⟨r, hr⟩ : ∃ r, r = wrc L W a := ⟨_, rfl⟩
  obtain ⟨Wn, hn⟩ : ∃ Wn, Wn = wrW L W a b := ⟨_, rfl⟩
  rw [← hr, ← hn]
  rw [wrW, ← hr] at hn
  replace hn := Aside0.mk hn
  replace hr := Aside0.mk hr
  have hb0 := below_alloc (Below.refl w.heap.size w) (.cells b.cs.toArray 45)
  have hk0 := blk_new w (.cells b.cs.toArray 45)
  have HS := Aside0.mk (h.below hb0)
  have HB := Aside0.mk hb0
  have HK := Aside0.mk hk0
  have hLW := Aside0.mk (And.intro h.hB (And.intro h.hL h.hW))
  have hbs := fun W => run_one rw_und rw_info W (a, b)
  obtain ⟨A, c, hv, hc0, _⟩ := Kd.R_reads h.hw
  rw [List.length_map] at hv hc0
  have hL0 := h.hL.2
  have NO : ∀ k, v.ownBlock = some k → k < w.heap.size := fun k hk => Kd.R_lt h.hw k hk
  clear h hb0 hk0 hc0
  subst hv
  have hc0 : (w.alloc (.cells b.cs.toArray 45)).cell? ⟨p, 0, none⟩ = some (.slice (some ⟨gl, 0, none⟩) L.length L.length) := (blk_cell HS.out.hp 0).trans rfl
  have hc1 : (w.alloc (.cells b.cs.toArray 45)).cell? ⟨p, 1, none⟩ = some (.slice A W.length c) := (blk_cell HS.out.hp 1).trans rfl
  go_enter Try.func22, Try.ntmps22
  by_cases h1 : a < 0
  · obtain rfl : r = 2 := by rw [hr.out, wrc, if_neg (by omega)]
    obtain rfl : Wn = W := by rw [hn.out, if_neg (by decide)]
    go_wp2_with fail
    go_ret
    exact ⟨rfl, _, HS.out, Mv.of_below HB.out⟩
  by_cases h2 : (L.length : Int) ≤ a
  · obtain rfl : r = 2 := by rw [hr.out, wrc, if_neg (by omega)]
    obtain rfl : Wn = W := by rw [hn.out, if_neg (by decide)]
    go_wp2_with fail
    go_ret
    exact ⟨rfl, _, HS.out, Mv.of_below HB.out⟩
  by_cases hf : 4096 ≤ W.length
  · obtain rfl : r = 10 := by rw [hr.out, wrc, if_pos ⟨by omega, by omega⟩, if_pos hf]
    obtain rfl : Wn = W := by rw [hn.out, if_neg (by decide)]
    go_wp2_with fail
    go_ret
    exact ⟨rfl, _, HS.out, Mv.of_below HB.out⟩
  obtain rfl : r = 0 := by rw [hr.out, wrc, if_pos ⟨by omega, by omega⟩, if_neg hf]
  obtain rfl : Wn = W ++ [(a, b)] := by rw [hn.out, if_pos rfl]
  clear hr hn
  have hin : 0 ≤ a ∧ a < L.length := ⟨by omega, by omega⟩
  obtain ⟨v, hv⟩ : ∃ v, v = Value.slice A W.length c := ⟨_, rfl⟩
  have MV := Aside0.mk (Mv.of_below (F := rfoot p gl v) HB.out)
  go_wp2_with fail
  generalize w.alloc (.cells b.cs.toArray 45) = w1 at HS HB HK MV hc0 hc1 ⊢
  rw [← hv] at HS hc1 NO ⊢
  replace hv := Aside0.mk hv
  clear hc0 hc1
  have BKp := Aside0.mk HS.out.hp
  have BKl := Aside0.mk HS.out.hl
  have R8 := Aside0.mk HS.out.hw
  have BK5 := HK
  clear HS HB HK
  have n_MV := Aside0.mk (MV.out.trans (Mv.of_below (below_drew (Below.refl _ _))))
  have n_BKp := Aside0.mk (blk_below BKp.out (below_drew (Below.refl _ _)))
  have n_BKl := Aside0.mk (blk_below BKl.out (below_drew (Below.refl _ _)))
  have n_BK5 := Aside0.mk (blk_below BK5.out (below_drew (Below.refl _ _)))
  have n_R8 := Aside0.mk (Kd.R_below R8.out (below_drew (Below.refl _ _)))
  clear MV
  have MV := n_MV
  clear n_MV
  clear BKp
  have BKp := n_BKp
  clear n_BKp
  clear BKl
  have BKl := n_BKl
  clear n_BKl
  clear BK5
  have BK5 := n_BK5
  clear n_BK5
  clear R8
  have R8 := n_R8
  clear n_R8
  refine start_ (n := 13) (S := fun w' => w'.cell? ⟨p, 1, none⟩ = some v ∧ w'.heap[w.heap.size]? = some (.cells b.cs.toArray 45 (0, 0))) (ds := [12]) #[false, false, false, false, false, false, false, false, false, false, false, false, false] (by kernel_rfl) rfl rfl ⟨(blk_cell BKp.out 1).trans rfl, BK5.out⟩ (fun hHeld => ?_)
  generalize w1.drew = w2 at MV BKp BKl BK5 R8 hHeld ⊢
  refine pure_ (i := 0) (N := some 24) (v := ?_) (a' := ?_) #[true, false, false, false, false, false, false, false, false, false, false, false, false] rfl rfl (by kernel_rfl) (fun _ _ _ h => h) (Or.inl ⟨by rfl, ?_⟩) ?_ ?_
  rotate_left
  · intro w'
    go_simp
    with_reducible rfl
  rotate_left
  · simp only [Act.put, List.setIfInBounds_toArray, List.set_cons_zero, List.set_cons_succ, i64_w, i32_w]
    rfl
  refine pure_ (i := 1) (N := some 25) (v := ?_) (a' := ?_) #[true, true, false, false, false, false, false, false, false, false, false, false, false] rfl rfl (by kernel_rfl) (fun _ _ _ h => h) (Or.inl ⟨by rfl, ?_⟩) ?_ ?_
  rotate_left
  · intro w'
    go_simp
    with_reducible rfl
  rotate_left
  · simp only [Act.put, List.setIfInBounds_toArray, List.set_cons_zero, List.set_cons_succ, i64_w, i32_w]
    rfl
  refine pure_ (i := 2) (N := some 26) (v := ?_) (a' := ?_) #[true, true, true, false, false, false, false, false, false, false, false, false, false] rfl rfl (by kernel_rfl) (fun _ _ _ h => h) (Or.inl ⟨by rfl, ?_⟩) ?_ ?_
  rotate_left
  · intro w'
    go_simp
    with_reducible rfl
  rotate_left
  · simp only [Act.put, List.setIfInBounds_toArray, List.set_cons_zero, List.set_cons_succ, i64_w, i32_w]
    rfl
  refine pure_ (i := 3) (N := some 27) (v := ?_) (a' := ?_) #[true, true, true, true, false, false, false, false, false, false, false, false, false] rfl rfl (by kernel_rfl) (fun _ _ _ h => h) (Or.inl ⟨by rfl, ?_⟩) ?_ ?_
  rotate_left
  · intro w'
    go_simp
    with_reducible rfl
  rotate_left
  · simp only [Act.put, List.setIfInBounds_toArray, List.set_cons_zero, List.set_cons_succ, i64_w, i32_w]
    rfl
  refine pure_ (i := 5) (N := some 29) (v := ?_) (a' := ?_) #[true, true, true, true, false, true, false, false, false, false, false, false, false] rfl rfl (by kernel_rfl) (fun _ _ _ h => h) (Or.inl ⟨by rfl, ?_⟩) ?_ ?_
  rotate_left
  · intro w'
    go_simp
    with_reducible rfl
  rotate_left
  · simp only [Act.put, List.setIfInBounds_toArray, List.set_cons_zero, List.set_cons_succ, i64_w, i32_w]
    rfl
  refine take_ (i := 4) (N := some 28) (v := ?_) (a' := ?_) #[true, true, true, true, true, true, false, false, false, false, false, false, false] rfl rfl (by kernel_rfl) (fun _ _ _ h => h) (Or.inl ⟨by rfl, ?_⟩) hHeld ?_ ?_
  rotate_left
  · rintro w' ⟨s0, s1⟩
    go_simp
    with_reducible rfl
  rotate_left
  · simp only [Act.put, List.setIfInBounds_toArray, List.set_cons_zero, List.set_cons_succ, i64_w, i32_w]
    rfl
  refine take_ (i := 6) (N := some 30) (v := ?_) (a' := ?_) #[true, true, true, true, true, true, true, false, false, false, false, false, false] rfl rfl (by kernel_rfl) (fun _ _ _ h => h) (Or.inl ⟨by rfl, ?_⟩) hHeld ?_ ?_
  rotate_left
  · rintro w' ⟨s0, s1⟩
    refine load_run 45 (.tmp 5) ?_ w.heap.size ?_ 45 _ (0, 0) _ s1 rbk_und rfl (by rw [bk_sz]; exact rbk_info) <;> rfl
  rotate_left
  · simp only [Act.put, List.setIfInBounds_toArray, List.set_cons_zero, List.set_cons_succ, i64_w, i32_w]
    rfl
  refine pure_ (i := 7) (N := some 31) (v := ?_) (a' := ?_) #[true, true, true, true, true, true, true, true, false, false, false, false, false] rfl rfl (by kernel_rfl) (fun _ _ _ h => h) (Or.inl ⟨by rfl, ?_⟩) ?_ ?_
  rotate_left
  · intro w'
    refine build_run 92 #[(0, .tmp 29), (1, .tmp 30)] #[(0, .int .i64 a), (1, b.v)] ?_ ?_ ?_ <;> first | rw [run_rw] | rfl | (simp only [List.map_toArray, List.map_cons, List.map_nil]; rfl)
  rotate_left
  · simp only [Act.put, List.setIfInBounds_toArray, List.set_cons_zero, List.set_cons_succ, i64_w, i32_w]
    rfl
  refine one_ (i := 8) (N := some 32) #[true, true, true, true, true, true, true, true, true, false, false, false, false] rfl rfl (by kernel_rfl) (by decide) (fun K hK => ?_)
  refine value_ (by rfl) rfl (bslice_run 57 1 _ #[(0, .agg (wrow (a, b)).toArray)] rfl (by simp only [List.map_toArray, List.map_cons, List.map_nil]; rfl) (hbs w2)) ?_
  have hb := below_alloc (Below.refl w2.heap.size w2) (.cells (wrow (a, b)).toArray 92)
  have hbox := blk_new w2 (.cells (wrow (a, b)).toArray 92)
  have m_ := Aside0.mk hbox
  have n_MV := Aside0.mk (MV.out.trans (Mv.of_below hb))
  have n_BKp := Aside0.mk (blk_below BKp.out hb)
  have n_BKl := Aside0.mk (blk_below BKl.out hb)
  have n_BK5 := Aside0.mk (blk_below BK5.out hb)
  have n_R8 := Aside0.mk (Kd.R_below R8.out hb)
  clear MV
  have MV := n_MV
  clear n_MV
  clear BKp
  have BKp := n_BKp
  clear n_BKp
  clear BKl
  have BKl := n_BKl
  clear n_BKl
  clear BK5
  have BK5 := n_BK5
  clear n_BK5
  clear R8
  have R8 := n_R8
  clear n_R8
  clear hb hbox
  generalize w2.alloc (.cells (wrow (a, b)).toArray 92) = y1_ at m_ MV BKp BKl BK5 R8 ⊢
  generalize w2.heap.size = gq at m_ ⊢
  have BKgq := m_
  clear m_
  refine hK.out _ _ ⟨(blk_cell BKp.out 1).trans rfl, BK5.out⟩ (fun hHeld => ?_)
  clear hK K
  refine norm_ (a' := ?_) ?_ ?_
  rotate_left
  · show Act.put _ (some 32) _ = _
    simp only [Act.put, List.setIfInBounds_toArray, List.set_cons_zero, List.set_cons_succ, i64_w, i32_w]
    rfl
  refine one_ (i := 9) (N := some 33) #[true, true, true, true, true, true, true, true, true, true, false, false, false] rfl rfl (by kernel_rfl) (by decide) (fun K hK => ?_)
  refine Kd.R_append_rows_step (Kd.raw 65) (w0 := y1_) B (by rfl) (.tmp 28) (.tmp 32) 57 92 (.agg (wrow (0, Bk.z)).toArray) 72 rfl Try.underlying57 info92 rfl (by decide) (by omega) (v) (W.map wrow) ([wrow (a, b)]) _ _ _ (fun _ => True) (fun _ => False) rfl rfl ?aO ?aR (fun _ _ h => h) (fun _ h => h.elim) ?aF ?aB ?aS ?aL ?_
  (case aR => exact raw_one (wrow (a, b)) (wrow_len _) (wrow_one _) BKgq.out)
  (case aB => exact Below.refl _ _)
  (case aF => exact fun _ _ => trivial)
  (case aO => exact R8.out)
  (case aS => exact Nat.le_trans hB MV.out.size)
  (case aL => rw [List.length_map]; omega)
  intro v_ y2_ ho hb hg hat
  have AT : ∀ k, v_.ownBlock = some k → v.ownBlock = some k ∨ w.heap.size ≤ k := fun k hk => hat.elim (fun e_ => .inl (e_.symm.trans hk)) (fun ⟨b, e1, e2⟩ => .inr (by rw [hk] at e1; cases e1; have := MV.out.size; omega))
  have n_MV := Aside0.mk (MV.out.trans (Mv.grown hg (fun k e_ => Or.inr (Or.inr e_)) (fun k h_ => .inl h_)))
  have n_BKp := Aside0.mk (blk_grown BKp.out hg (Kd.R_ne R8.out BKp.out (by decide)))
  have n_BKl := Aside0.mk (blk_grown BKl.out hg (Kd.R_ne R8.out BKl.out (by decide)))
  have n_BK5 := Aside0.mk (blk_grown BK5.out hg (Kd.R_ne R8.out BK5.out (by decide)))
  have m_ := Aside0.mk ho
  clear MV
  clear BKp
  clear BKl
  clear BK5
  clear R8
  clear BKgq
  have MV := n_MV
  clear n_MV
  have BKp := n_BKp
  clear n_BKp
  have BKl := n_BKl
  clear n_BKl
  have BK5 := n_BK5
  clear n_BK5
  clear ho hb hg hat
  obtain ⟨A9, c9, eo⟩ := Kd.R_slice m_.out
  subst eo
  have R11 := m_
  clear m_
  refine hK.out _ _ ⟨(blk_cell BKp.out 1).trans rfl, BK5.out⟩ (fun hHeld => ?_)
  clear hK K
  refine norm_ (a' := ?_) ?_ ?_
  rotate_left
  · show Act.put _ (some 33) _ = _
    simp only [Act.put, List.setIfInBounds_toArray, List.set_cons_zero, List.set_cons_succ, i64_w, i32_w]
    rfl
  refine pure_ (i := 10) (N := some 34) (v := ?_) (a' := ?_) #[true, true, true, true, true, true, true, true, true, true, true, false, false] rfl rfl (by kernel_rfl) (fun _ _ _ h => h) (Or.inl ⟨by rfl, ?_⟩) ?_ ?_
  rotate_left
  · intro w'
    go_simp
    with_reducible rfl
  rotate_left
  · simp only [Act.put, List.setIfInBounds_toArray, List.set_cons_zero, List.set_cons_succ, i64_w, i32_w]
    rfl
  refine pure_ (i := 11) (N := some 35) (v := ?_) (a' := ?_) #[true, true, true, true, true, true, true, true, true, true, true, true, false] rfl rfl (by kernel_rfl) (fun _ _ _ h => h) (Or.inl ⟨by rfl, ?_⟩) ?_ ?_
  rotate_left
  · intro w'
    go_simp
    with_reducible rfl
  rotate_left
  · simp only [Act.put, List.setIfInBounds_toArray, List.set_cons_zero, List.set_cons_succ, i64_w, i32_w]
    rfl
  refine last_ (i := 12) (N := none) #[true, true, true, true, true, true, true, true, true, true, true, true, true] rfl rfl (by kernel_rfl) (by decide) (fun K hK => ?_)
  have kf := blk_frozen BKp.out 1
  have kc := (blk_cell BKp.out 1).trans rfl
  refine skip_ (w1 := ?_) (by rfl) rfl ?_ ?_
  rotate_left
  · go_simp
    rfl
  refine hK.out _ _ ?_
  clear hK K
  refine done_ (by kernel_rfl) ?_
  clear hHeld
  go_wp2_with fail
  have hl : (W.map wrow ++ [wrow (a, b)]).length = W.length + 1 := by simp
  rw [← hl]
  have hne : ∀ k, (Value.slice A9 (W.map wrow ++ [wrow (a, b)]).length c9).ownBlock = some k → k ≠ p := fun k hk e_ => Kd.R_ne R11.out BKp.out (by decide) (by rw [hk, e_])
  have hnl : gl ≠ p := fun e => by have := BKp.out; rw [← e, BKl.out] at this; injection this with this; injection this with _ this; exact absurd this (by decide)
  go_ret
  rw [← hv.out]
  refine ⟨rfl, .slice A9 (W.map wrow ++ [wrow (a, b)]).length c9, ⟨blk_put BKp.out 1 _ rfl, (Below.heap_setCell _ _ _ gl hnl).trans BKl.out, by rw [List.map_append]; exact same_R R11.out (fun k hk => Below.heap_setCell _ _ _ k (hne k hk)), hLW.out.1, hLW.out.2.1, ?_, ?_⟩, ?_⟩
  · rw [List.length_append, List.length_singleton]; omega
  · intro x hx
    rcases List.mem_append.1 hx with hx | hx
    · exact hLW.out.2.2.2 x hx
    · simp at hx; subst hx; exact hin
  refine (MV.out.trans (Mv.cell _ ⟨p, 1, none⟩ (Or.inl rfl) _)).weaken (fun _ h => h) (fun k hk => ?_)
  rcases hk with rfl | rfl | hk
  · exact .inl (.inl rfl)
  · exact .inl (.inr (.inl rfl))
  · exact (AT k hk).elim (fun h => .inl (.inr (.inr h))) .inr
end
section
variable {B : Nat} {w w' : World} {p gl gm : Nat} {v : Value} {L : List (Bk × Bool)} {W : List (Int × Bk)}
theorem rrd_end {w0 y : World} {g : Nat} {tmps : Array Value} {b : Bk} {c : Int} (h : Below w0.heap.size w0 y) (hg : w0.heap.size ≤ g) (hk : y.heap[g]? = some (.cells b.cs.toArray 45 (0, 0))) (hp : tmps.getD 4 undef = .pointer (some ⟨g, 0, none⟩)) (hc : tmps.getD 5 undef = .int .i64 c) {R : Bk × Int} (hR : R = (b, c)) :
    bodyPost Try.prog Try.f30 (fun e w' => e = .returned (.tuple #[R.1.v, .int .i64 R.2]) ∧ Below w0.heap.size w0 w') .ret { tmps := tmps, defers := [] } y := by
  subst hR
  have := results_ct (P := Try.prog) (fn := Try.f30) (p := 4) (u := 5) (ty := 45) rfl tmps y g 45 b.cs.toArray (0, 0) _ hp hk rbk_und rfl (by rw [rbk_info, bk_sz])
  rw [hc] at this
  exact bodyPost_ret this rfl ⟨rfl, h⟩
set_option maxHeartbeats 8000000 in
set_option maxRecDepth 100000 in
theorem r_Read (h : RA B w p gl v L W) (a : Int) : Calls Try.prog 30 #[.pointer (some ⟨p, 0, none⟩), .int .i64 a] w fun e w' => e = .returned (.tuple #[(rd L W a).1.v, .int .i64 (rd L W a).2]) ∧ Below w.heap.size w w' := by
  have hL0 := h.hL.2
  have hW0 := h.hW.1
  obtain ⟨r, hr⟩ : ∃ r, r = rd L W a := ⟨_, rfl⟩
  rw [← hr]
  replace hr := Aside0.mk hr
  have hb0 := below_alloc (Below.refl w.heap.size w) (.cells Bk.z.cs.toArray 45)
  have HK := Aside0.mk (blk_new w (.cells Bk.z.cs.toArray 45))
  have HB := Aside0.mk hb0
  have HS := Aside0.mk (h.below hb0)
  obtain ⟨A, c, hv, hc0, _⟩ := Kd.R_reads h.hw
  rw [List.length_map] at hv hc0
  subst hv
  clear h hb0
  have hz := fun W => rbk_zero W
  have hzv : Bk.z.v = .agg Bk.z.cs.toArray := rfl
  have hc0 : (w.alloc (.cells Bk.z.cs.toArray 45)).cell? ⟨p, 0, none⟩ = some (.slice (some ⟨gl, 0, none⟩) L.length L.length) := (blk_cell HS.out.hp 0).trans rfl
  have hc1 : (w.alloc (.cells Bk.z.cs.toArray 45)).cell? ⟨p, 1, none⟩ = some (.slice A W.length c) := (blk_cell HS.out.hp 1).trans rfl
  by_cases h1 : a < 0
  · go_enter Try.func30, Try.ntmps30
    go_wp2_with ((with_reducible refine gate_store (t := 45) (p := 4) (v := .tmp 18) rfl ?_); refine wpl_stbk 45 _ _ w.heap.size Bk.z 45 Bk.z rfl rfl rfl rfl rfl HK.out rbk_info ?_)
    refine rrd_end (b := Bk.z) (c := 2) (row_below HB.out (Nat.le_refl _) _) (Nat.le_refl _) (setRow_heap _ _ _ _ _ _ HK.out) rfl rfl ?_
    rw [hr.out, rd, if_neg (by omega)]
  by_cases h2 : (L.length : Int) ≤ a
  · go_enter Try.func30, Try.ntmps30
    go_wp2_with ((with_reducible refine gate_store (t := 45) (p := 4) (v := .tmp 18) rfl ?_); refine wpl_stbk 45 _ _ w.heap.size Bk.z 45 Bk.z rfl rfl rfl rfl rfl HK.out rbk_info ?_)
    refine rrd_end (b := Bk.z) (c := 2) (row_below HB.out (Nat.le_refl _) _) (Nat.le_refl _) (setRow_heap _ _ _ _ _ _ HK.out) rfl rfl ?_
    rw [hr.out, rd, if_neg (by omega)]
  go_enter Try.func30, Try.ntmps30
  go_wp2_with fail
  generalize w.alloc (.cells Bk.z.cs.toArray 45) = w1 at HK HB HS hc0 hc1 ⊢
  go_loopw [6] (fun u wr => wr = w1 ∧ ∃ n : Nat, n ≤ W.length ∧ u = .int .i64 ((n : Int) - 1) ∧ Aside0 (lastOf W a = lastOf (W.take n) a)) (fun u _ => (intOf u + 1).toNat)
  case atStart => exact ⟨rfl, W.length, Nat.le_refl _, rfl, ⟨by rw [List.take_length]⟩⟩
  case round =>
    obtain ⟨rfl, n, hn, rfl, HN⟩ := hrel
    cases n with
    | zero =>
      have hno : lastOf W a = none := by rw [HN.out]; rfl
      obtain ⟨i, rfl⟩ := Int.eq_ofNat_of_zero_le (show 0 ≤ a by omega)
      have hi : i < L.length := by omega
      have hgD : L.getD i (Bk.z, true) = L[i] := by simp [List.getD, hi]
      obtain ⟨t, ht⟩ : ∃ t, L[i].2 = t := ⟨_, rfl⟩
      have hct : wr.cell? ⟨gl, i * 65 + 64, none⟩ = some (.bool t) := by
        rw [blk_cell HS.out.hl, hcells_at L i 64 hi (by omega), hrow, List.getElem?_append_right (by rw [Bk.len]; omega), Bk.len, ht]
        rfl
      have hcb : ∀ j, j < 64 → wr.cell? ⟨gl, i * 65 + j, none⟩ = L[i].1.cs[j]? := fun j hj => by
        rw [blk_cell HS.out.hl, hcells_at L i j hi (by omega), hrow, List.getElem?_append_left (by rw [Bk.len]; omega)]
      replace hcb := Aside0.mk hcb
      have hno := Aside0.mk hno
      cases t with
      | true =>
        go_wp2_with ((with_reducible refine gate_store (t := 45) (p := 4) (v := .tmp 55) rfl ?_); refine wpl_stbk 45 _ _ w.heap.size Bk.z 45 Bk.z rfl rfl rfl rfl rfl HK.out rbk_info ?_)
        refine rrd_end (b := Bk.z) (c := 7) (row_below HB.out (Nat.le_refl _) _) (Nat.le_refl _) (setRow_heap _ _ _ _ _ _ HK.out) rfl rfl ?_
        rw [hr.out, rd, if_pos ⟨by omega, by omega⟩, hno.out]
        simp only [Int.toNat_natCast, hgD, ht, if_true]
      | false =>
        go_wp2_with (first | ((with_reducible refine gate_dst (N := 63) rfl ?_); refine wpl_ldbk_at 45 _ gl (i * 65) L[i].1 _ _ rfl rfl rfl hcb.out rbk_und rbk_info ?_) | ((with_reducible refine gate_store (t := 45) (p := 4) (v := .tmp 63) rfl ?_); refine wpl_stbk 45 _ _ w.heap.size L[i].1 45 Bk.z rfl rfl rfl rfl rfl HK.out rbk_info ?_))
        refine rrd_end (b := L[i].1) (c := 0) (row_below HB.out (Nat.le_refl _) _) (Nat.le_refl _) (setRow_heap _ _ _ _ _ _ HK.out) rfl rfl ?_
        rw [hr.out, rd, if_pos ⟨by omega, by omega⟩, hno.out]
        simp only [Int.toNat_natCast, hgD, ht]
        rfl
    | succ n =>
      have e1 : ((n + 1 : Nat) : Int) - 1 = (n : Int) := by omega
      rw [e1]
      obtain ⟨ad, hA, hcell⟩ := row_get HS.out.hw n (by omega)
      subst hA
      have hca : wr.cell? (ad.add (n * 65)) = some (.int .i64 W[n].1) := by have := hcell 0 _ rfl; rwa [add_add] at this
      have hcb := Aside0.mk (row_bk_at hcell)
      by_cases ha : W[n].1 = a
      · have hbe : (W[n].1 == a) = true := by simpa using ha
        have HF := Aside0.mk (HN.out.trans ((lastOf_take W a n (by omega)).trans (if_pos ha)))
        go_wp2_with (first | ((with_reducible refine gate_dst (N := 46) rfl ?_); refine wpl_value rfl (load_run_at 45 (.tmp 45) rfl ((ad.add (n * 65)).add 1) rfl W[n].2.cs _ hcb.out rbk_und rfl (by rw [Bk.len]; exact rbk_info)) ?_) | ((with_reducible refine gate_store (t := 45) (p := 4) (v := .tmp 46) rfl ?_); refine wpl_stbk 45 _ _ w.heap.size W[n].2 45 Bk.z rfl rfl rfl rfl rfl HK.out rbk_info ?_))
        refine rrd_end (b := W[n].2) (c := 0) (row_below HB.out (Nat.le_refl _) _) (Nat.le_refl _) (setRow_heap _ _ _ _ _ _ HK.out) rfl rfl ?_
        rw [hr.out, rd, if_pos ⟨by omega, by omega⟩, HF.out]
      · have hbe : (W[n].1 == a) = false := by simpa using ha
        have HN' := Aside0.mk (HN.out.trans ((lastOf_take W a n (by omega)).trans (if_neg ha)))
        go_wp2_with fail
        go_roundw
        case rel => exact ⟨trivial, n, by omega, by go_num, HN'⟩
        case measure => first | (simp [intOf]; done) | (simp [intOf]; omega)
end
section
variable {B : Nat} {w w' : World} {p gl gm : Nat} {v : Value} {L : List (Bk × Bool)} {W : List (Int × Bk)}
theorem rwl_zero (W : World) : (zeroValue 92).run Try.prog W = .ok (.agg (wrow (0, Bk.z)).toArray) W := by kernel_rfl
theorem RA.set (h : RA B w p gl v L W) (q : Nat) (z : Bk × Bool) : RA B (w.setRow gl (hcells (L.set q z))) p gl v (L.set q z) W := by
  have hg : ∀ k, k ≠ gl → (w.setRow gl (hcells (L.set q z))).heap[k]? = w.heap[k]? := fun k hk => setRow_other w gl k _ hk
  have n1 : p ≠ gl := fun e => by have := h.hp; rw [e, h.hl] at this; injection this with this; injection this with _ this; exact absurd this (by decide)
  have n3 : ∀ k, v.ownBlock = some k → k ≠ gl := fun k hk e => by obtain ⟨cs, hc⟩ := own_type h.hw hk; rw [e, h.hl] at hc; injection hc with hc; injection hc with _ hc; exact absurd hc (by decide)
  refine ⟨by rw [List.length_set]; exact (hg p n1).trans h.hp, setRow_heap _ _ _ _ _ _ h.hl, same_R h.hw (fun k hk => hg k (n3 k hk)), h.hB, by rw [List.length_set]; exact h.hL, h.hW.1, fun x hx => by rw [List.length_set]; exact h.hW.2 x hx⟩
theorem RA.emptied (h : RA B w p gl v L W) : RA B (w.setCell ⟨p, 1, none⟩ (.slice none 0 0)) p gl (.slice none 0 0) L [] := by
  have hne : ∀ k, k ≠ p → (w.setCell ⟨p, 1, none⟩ (.slice none 0 0)).heap[k]? = w.heap[k]? := fun k hk => Below.heap_setCell _ _ _ k hk
  have n1 : gl ≠ p := fun e => by have := h.hp; rw [← e, h.hl] at this; injection this with this; injection this with _ this; exact absurd this (by decide)
  exact ⟨blk_put h.hp 1 (.slice none 0 0) rfl, (hne gl n1).trans h.hl, Kd.R_nil _ _ _ _ _, h.hB, h.hL, by simp, fun x hx => by simp at hx⟩
theorem rfoot_none {k : Nat} (h : rfoot p gl (.slice none 0 0) k) : rfoot p gl v k := by
  rcases h with h | h | h
  · exact .inl h
  · exact .inr (.inl h)
  · cases h
set_option maxHeartbeats 8000000 in
set_option maxRecDepth 100000 in
theorem r_Sync (h : RA B w p gl v L W) : Calls Try.prog 17 #[.pointer (some ⟨p, 0, none⟩)] w fun e w' => e = .returned (.tuple #[]) ∧ RA B w' p gl (.slice none 0 0) (setl (fun _ => 1) 0 W L) [] ∧ Mv (rfoot p gl v) (rfoot p gl (.slice none 0 0)) w w' := by
  obtain ⟨A, c, hv, hc0, _⟩ := Kd.R_reads h.hw
  rw [List.length_map] at hv hc0
  subst hv
  have hcv : w.cell? ⟨p, 1, none⟩ = some (.slice A W.length c) := (blk_cell h.hp 1).trans rfl
  have hW := h.hW.1
  replace h := Aside0.mk h
  have hzz := fun W => rwl_zero W
  go_enter Try.func17, Try.ntmps17
  go_wp2_with fail
  go_loopw [9] (fun u wr => ∃ i : Nat, i ≤ W.length ∧ u = .int .i64 i ∧ Aside0 (RA B wr p gl (.slice A W.length c) (setl (fun _ => 1) 0 (W.take i) L) W) ∧ Aside0 (Mv (rfoot p gl (.slice A W.length c)) (rfoot p gl (.slice A W.length c)) w wr)) (fun u _ => ((W.length : Int) - intOf u).toNat)
  case atStart => exact ⟨0, Nat.zero_le _, rfl, ⟨h.out⟩, ⟨Mv.refl _ _⟩⟩
  case round =>
    obtain ⟨i, hi, rfl, HS, HM⟩ := hrel
    by_cases hlt : i < W.length
    case neg =>
      obtain rfl : i = W.length := by omega
      rw [List.take_length] at HS
      have kf := blk_frozen HS.out.hp 1
      have kc := (blk_cell HS.out.hp 1).trans rfl
      go_wp2_with fail
      go_end0
      exact ⟨rfl, HS.out.emptied, (HM.out.trans (Mv.cell _ _ (Or.inl rfl) _)).weaken (fun _ h => h) (fun k hk => .inl (rfoot_none hk))⟩
    obtain ⟨ad, hA, hcell⟩ := row_get HS.out.hw i hlt
    have hLi : (setl (fun _ => 1) 0 (W.take i) L).length = L.length := setl_len _ _ _ _
    obtain ⟨q, b, hx, hq⟩ : ∃ (q : Nat) (b : Bk), W[i] = ((q : Int), b) ∧ q < (setl (fun _ => 1) 0 (W.take i) L).length := by
      have := HS.out.hW.2 _ (List.getElem_mem hlt)
      exact ⟨W[i].1.toNat, W[i].2, Prod.ext (by simp; omega) rfl, by omega⟩
    have hstep := setl_step (fun _ => 1) W L i hlt
    rw [hx] at hcell hstep
    replace hstep := Aside0.mk hstep
    replace hcell := Aside0.mk hcell
    replace hx := Aside0.mk hx
    generalize setl (fun _ => 1) 0 (W.take i) L = Li at HS hLi hq hstep
    have hq2 : q < L.length := by omega
    subst hA
    go_wp2_with (first | ((with_reducible refine gate_dst (N := 12) rfl ?_); refine wpl_value rfl (load_run_at 92 (.tmp 11) rfl (ad.add (i * 65)) rfl (wrow ((q : Int), b)) _ hcell.out Try.underlying92 rfl (by rw [wrow_len]; exact rw_isize)) ?_) | ((with_reducible refine gate_store (t := 92) (p := 3) (v := .tmp 12) rfl ?_); refine Shut.out ?_))
    unfold Shut
    obtain ⟨hnb, hnk⟩ := newbk wr (wrow (0, Bk.z)).toArray (wrow ((q : Int), b)).toArray 92
    refine store_rowTo rfl 92 (.tmp 3) (.tmp 12) rfl rfl wr.heap.size (wrow ((q : Int), b)).toArray rfl rfl 92 _ (blk_new wr _) (by rw [wrow_size]; exact rw_isize) (by rw [wrow_size, wrow_size]) (wrow_all _) ?_
    have SS := Aside0.mk (HS.out.below hnb)
    have MV := Aside0.mk (HM.out.trans (Mv.of_below hnb))
    have BK5 := Aside0.mk hnk
    clear HS HM hnb hnk hcell
    generalize (wr.alloc (.cells (wrow (0, Bk.z)).toArray 92)).setRow wr.heap.size (wrow ((q : Int), b)).toArray = w2 at SS MV BK5 ⊢
    generalize wr.heap.size = g5 at BK5 ⊢
    go_wp2_with fail
    have n_MV := Aside0.mk (MV.out.trans (Mv.of_below (below_drew (Below.refl _ _))))
    have n_SS := Aside0.mk (SS.out.below (below_drew (Below.refl _ _)))
    have n_BK5 := Aside0.mk (blk_below BK5.out (below_drew (Below.refl _ _)))
    clear MV
    have MV := n_MV
    clear n_MV
    clear SS
    have SS := n_SS
    clear n_SS
    clear BK5
    have BK5 := n_BK5
    clear n_BK5
    refine start_ (n := 11) (S := fun w' => w'.cell? ⟨p, 0, none⟩ = some (.slice (some ⟨gl, 0, none⟩) Li.length Li.length) ∧ w'.cell? ⟨g5, 0, none⟩ = some (.int .i64 (q : Int)) ∧ w'.heap[g5]? = some (.cells (wrow ((q : Int), b)).toArray 92 (0, 0))) (ds := [10]) #[false, false, false, false, false, false, false, false, false, false, false] (by kernel_rfl) rfl rfl ⟨(blk_cell SS.out.hp 0).trans rfl, (blk_cell BK5.out 0).trans rfl, BK5.out⟩ (fun hHeld => ?_)
    generalize w2.drew = w3 at MV SS BK5 hHeld ⊢
    refine pure_ (i := 0) (N := some 13) (v := ?_) (a' := ?_) #[true, false, false, false, false, false, false, false, false, false, false] rfl rfl (by kernel_rfl) (fun _ _ _ h => h) (Or.inl ⟨by rfl, ?_⟩) ?_ ?_
    rotate_left
    · intro w'
      go_simp
      with_reducible rfl
    rotate_left
    · simp only [Act.put, List.setIfInBounds_toArray, List.set_cons_zero, List.set_cons_succ, i64_w, i32_w]
      rfl
    refine pure_ (i := 1) (N := some 14) (v := ?_) (a' := ?_) #[true, true, false, false, false, false, false, false, false, false, false] rfl rfl (by kernel_rfl) (fun _ _ _ h => h) (Or.inl ⟨by rfl, ?_⟩) ?_ ?_
    rotate_left
    · intro w'
      go_simp
      with_reducible rfl
    rotate_left
    · simp only [Act.put, List.setIfInBounds_toArray, List.set_cons_zero, List.set_cons_succ, i64_w, i32_w]
      rfl
    refine pure_ (i := 2) (N := some 15) (v := ?_) (a' := ?_) #[true, true, true, false, false, false, false, false, false, false, false] rfl rfl (by kernel_rfl) (fun _ _ _ h => h) (Or.inl ⟨by rfl, ?_⟩) ?_ ?_
    rotate_left
    · intro w'
      go_simp
      with_reducible rfl
    rotate_left
    · simp only [Act.put, List.setIfInBounds_toArray, List.set_cons_zero, List.set_cons_succ, i64_w, i32_w]
      rfl
    refine pure_ (i := 4) (N := some 17) (v := ?_) (a' := ?_) #[true, true, true, false, true, false, false, false, false, false, false] rfl rfl (by kernel_rfl) (fun _ _ _ h => h) (Or.inl ⟨by rfl, ?_⟩) ?_ ?_
    rotate_left
    · intro w'
      go_simp
      with_reducible rfl
    rotate_left
    · simp only [Act.put, List.setIfInBounds_toArray, List.set_cons_zero, List.set_cons_succ, i64_w, i32_w]
      rfl
    refine pure_ (i := 6) (N := some 19) (v := ?_) (a' := ?_) #[true, true, true, false, true, false, true, false, false, false, false] rfl rfl (by kernel_rfl) (fun _ _ _ h => h) (Or.inl ⟨by rfl, ?_⟩) ?_ ?_
    rotate_left
    · intro w'
      go_simp
      with_reducible rfl
    rotate_left
    · simp only [Act.put, List.setIfInBounds_toArray, List.set_cons_zero, List.set_cons_succ, i64_w, i32_w]
      rfl
    refine take_ (i := 3) (N := some 16) (v := ?_) (a' := ?_) #[true, true, true, true, true, false, true, false, false, false, false] rfl rfl (by kernel_rfl) (fun _ _ _ h => h) (Or.inl ⟨by rfl, ?_⟩) hHeld ?_ ?_
    rotate_left
    · rintro w' ⟨s0, s1, s2⟩
      go_simp
      with_reducible rfl
    rotate_left
    · simp only [Act.put, List.setIfInBounds_toArray, List.set_cons_zero, List.set_cons_succ, i64_w, i32_w]
      rfl
    refine take_ (i := 5) (N := some 18) (v := ?_) (a' := ?_) #[true, true, true, true, true, true, true, false, false, false, false] rfl rfl (by kernel_rfl) (fun _ _ _ h => h) (Or.inl ⟨by rfl, ?_⟩) hHeld ?_ ?_
    rotate_left
    · rintro w' ⟨s0, s1, s2⟩
      go_simp
      with_reducible rfl
    rotate_left
    · simp only [Act.put, List.setIfInBounds_toArray, List.set_cons_zero, List.set_cons_succ, i64_w, i32_w]
      rfl
    refine take_ (i := 7) (N := some 20) (v := ?_) (a' := ?_) #[true, true, true, true, true, true, true, true, false, false, false] rfl rfl (by kernel_rfl) (fun _ _ _ h => h) (Or.inl ⟨by rfl, ?_⟩) hHeld ?_ ?_
    rotate_left
    · rintro w' ⟨s0, s1, s2⟩
      refine load_run_at 45 (.tmp 19) ?_ ⟨g5, 1, none⟩ ?_ b.cs _ (row_bk s2) rbk_und rfl (by rw [b.len]; exact rbk_info) <;> rfl
    rotate_left
    · simp only [Act.put, List.setIfInBounds_toArray, List.set_cons_zero, List.set_cons_succ, i64_w, i32_w]
      rfl
    refine pure_ (i := 8) (N := some 21) (v := ?_) (a' := ?_) #[true, true, true, true, true, true, true, true, true, false, false] rfl rfl (by kernel_rfl) (fun _ _ _ h => h) (Or.inl ⟨by rfl, ?_⟩) ?_ ?_
    rotate_left
    · intro w'
      refine build_run 94 #[(0, .tmp 20)] #[(0, b.v)] ?_ ?_ ?_ <;> first | rw [run_rh] | rfl | (simp only [List.map_toArray, List.map_cons, List.map_nil]; rfl)
    rotate_left
    · simp only [Act.put, List.setIfInBounds_toArray, List.set_cons_zero, List.set_cons_succ, i64_w, i32_w]
      rfl
    refine pure_ (i := 9) (N := some 22) (v := ?_) (a' := ?_) #[true, true, true, true, true, true, true, true, true, true, false] rfl rfl (by kernel_rfl) (fun _ _ _ h => h) (Or.inl ⟨by rfl, ?_⟩) ?_ ?_
    rotate_left
    · intro w'
      go_simp
      with_reducible rfl
    rotate_left
    · simp only [Act.put, List.setIfInBounds_toArray, List.set_cons_zero, List.set_cons_succ, i64_w, i32_w]
      rfl
    refine last_ (i := 10) (N := none) #[true, true, true, true, true, true, true, true, true, true, true] rfl rfl (by kernel_rfl) (by decide) (fun K hK => ?_)
    refine skip_ (w1 := w3.setRow gl (hcells (Li.set q (b, false)))) (by rfl) rfl (held_store 94 _ _ rfl rfl rfl SS.out.hl hq rh_isize (hrow_all _)) ?_
    refine hK.out _ _ ?_
    clear hK K
    refine done_ (by kernel_rfl) ?_
    go_wp2_with fail
    go_roundw
    case rel => exact ⟨i + 1, by omega, by go_num, ⟨by rw [hstep.out, put1, if_pos rfl, Int.toNat_natCast]; exact SS.out.set q (b, false)⟩, ⟨MV.out.trans (Mv.row _ gl (Or.inr (Or.inl rfl)) _)⟩⟩
    case measure => simp [intOf]; omega
set_option maxHeartbeats 8000000 in
set_option maxRecDepth 100000 in
theorem r_Crash (h : RA B w p gl v L W) {A0 : Option Addr} {c0 : Nat} {l : List Int} (hC : Kd.C (Kd.int .u8) w A0 l.length l) (hA0 : 0 < l.length → ∀ ad, A0 = some ad → ¬ rfoot p gl v ad.block) : Calls Try.prog 19 #[.pointer (some ⟨p, 0, none⟩), .slice A0 l.length c0] w fun e w' => e = .returned (.tuple #[]) ∧ RA B w' p gl (.slice none 0 0) (setl (fateOf l) 0 W L) [] ∧ Mv (rfoot p gl v) (rfoot p gl (.slice none 0 0)) w w' := by
  obtain ⟨A, c, hv, hc0, _⟩ := Kd.R_reads h.hw
  rw [List.length_map] at hv hc0
  subst hv
  have hcv : w.cell? ⟨p, 1, none⟩ = some (.slice A W.length c) := (blk_cell h.hp 1).trans rfl
  have hW := h.hW.1
  replace h := Aside0.mk h
  replace hC := Aside0.mk hC
  replace hA0 := Aside0.mk hA0
  have hzz := fun W => rwl_zero W
  go_enter Try.func19, Try.ntmps19
  go_wp2_with fail
  go_loopw [12] (fun u wr => ∃ i : Nat, i ≤ W.length ∧ u = .int .i64 i ∧ Aside0 (RA B wr p gl (.slice A W.length c) (setl (fateOf l) 0 (W.take i) L) W) ∧ Aside0 (Mv (rfoot p gl (.slice A W.length c)) (rfoot p gl (.slice A W.length c)) w wr)) (fun u _ => ((W.length : Int) - intOf u).toNat)
  case atStart => exact ⟨0, Nat.zero_le _, rfl, ⟨h.out⟩, ⟨Mv.refl _ _⟩⟩
  case round =>
    obtain ⟨i, hi, rfl, HS, HM⟩ := hrel
    by_cases hlt : i < W.length
    case neg =>
      obtain rfl : i = W.length := by omega
      rw [List.take_length] at HS
      have kf := blk_frozen HS.out.hp 1
      have kc := (blk_cell HS.out.hp 1).trans rfl
      go_wp2_with fail
      go_end0
      exact ⟨rfl, HS.out.emptied, (HM.out.trans (Mv.cell _ _ (Or.inl rfl) _)).weaken (fun _ h => h) (fun k hk => .inl (rfoot_none hk))⟩
    obtain ⟨ad, hA, hcell⟩ := row_get HS.out.hw i hlt
    have hLi : (setl (fateOf l) 0 (W.take i) L).length = L.length := setl_len _ _ _ _
    obtain ⟨q, b, hx, hq⟩ : ∃ (q : Nat) (b : Bk), W[i] = ((q : Int), b) ∧ q < (setl (fateOf l) 0 (W.take i) L).length := by
      have := HS.out.hW.2 _ (List.getElem_mem hlt)
      exact ⟨W[i].1.toNat, W[i].2, Prod.ext (by simp; omega) rfl, by omega⟩
    have hstep := setl_step (fateOf l) W L i hlt
    rw [hx] at hcell hstep
    replace hstep := Aside0.mk hstep
    replace hcell := Aside0.mk hcell
    replace hx := Aside0.mk hx
    generalize setl (fateOf l) 0 (W.take i) L = Li at HS hLi hq hstep
    have hq2 : q < L.length := by omega
    subst hA
    go_wp2_with (first | ((with_reducible refine gate_dst (N := 16) rfl ?_); refine wpl_value rfl (load_run_at 92 (.tmp 15) rfl (ad.add (i * 65)) rfl (wrow ((q : Int), b)) _ hcell.out Try.underlying92 rfl (by rw [wrow_len]; exact rw_isize)) ?_) | ((with_reducible refine gate_store (t := 92) (p := 5) (v := .tmp 16) rfl ?_); refine Shut.out ?_))
    unfold Shut
    obtain ⟨hnb, hnk⟩ := newbk wr (wrow (0, Bk.z)).toArray (wrow ((q : Int), b)).toArray 92
    refine store_rowTo rfl 92 (.tmp 5) (.tmp 16) rfl rfl wr.heap.size (wrow ((q : Int), b)).toArray rfl rfl 92 _ (blk_new wr _) (by rw [wrow_size]; exact rw_isize) (by rw [wrow_size, wrow_size]) (wrow_all _) ?_
    have SS := Aside0.mk (HS.out.below hnb)
    have MV := Aside0.mk (HM.out.trans (Mv.of_below hnb))
    have BK5 := Aside0.mk hnk
    clear HS HM hnb hnk hcell
    generalize (wr.alloc (.cells (wrow (0, Bk.z)).toArray 92)).setRow wr.heap.size (wrow ((q : Int), b)).toArray = w2 at SS MV BK5 ⊢
    generalize wr.heap.size = g5 at BK5 ⊢
    have CC := Aside0.mk (C_mv hC.out MV.out hA0.out)
    obtain ⟨f, hf⟩ : ∃ f, f = fateOf l i := ⟨_, rfl⟩
    rw [← hf] at hstep
    have hfu : f = if i < l.length then (l.getD i 0).tmod 3 else 0 := by rw [hf, fateOf]
    replace hf := Aside0.mk hf
    by_cases hil : i < l.length
    case pos =>
      rw [if_pos hil] at hfu
      obtain ⟨a0, rfl, hx0⟩ := Kd.at_int CC.out (i : Int) (by omega) (by omega)
      rw [Int.toNat_natCast] at hx0
      have hrd : YtniadlnbjgodnaaW.PrintWords.rd l (i : Int) = l.getD i 0 := rfl
      rw [hrd] at hx0
      generalize l.getD i 0 = x at hfu hx0
      by_cases h1 : f = 1
      case pos =>
        subst hfu
        have hb1 : (x.tmod 3 == 1) = true := by simpa using h1
        have hxe : x.tmod 3 = 1 := h1
        go_wp2_with fail
        have n_MV := Aside0.mk (MV.out.trans (Mv.of_below (below_drew (Below.refl _ _))))
        have n_SS := Aside0.mk (SS.out.below (below_drew (Below.refl _ _)))
        have n_BK5 := Aside0.mk (blk_below BK5.out (below_drew (Below.refl _ _)))
        clear MV
        have MV := n_MV
        clear n_MV
        clear SS
        have SS := n_SS
        clear n_SS
        clear BK5
        have BK5 := n_BK5
        clear n_BK5
        refine start_ (n := 11) (S := fun w' => w'.cell? ⟨p, 0, none⟩ = some (.slice (some ⟨gl, 0, none⟩) Li.length Li.length) ∧ w'.cell? ⟨g5, 0, none⟩ = some (.int .i64 (q : Int)) ∧ w'.heap[g5]? = some (.cells (wrow ((q : Int), b)).toArray 92 (0, 0))) (ds := [10]) #[false, false, false, false, false, false, false, false, false, false, false] (by kernel_rfl) rfl rfl ⟨(blk_cell SS.out.hp 0).trans rfl, (blk_cell BK5.out 0).trans rfl, BK5.out⟩ (fun hHeld => ?_)
        generalize w2.drew = w3 at MV SS BK5 hHeld ⊢
        refine pure_ (i := 0) (N := some 29) (v := ?_) (a' := ?_) #[true, false, false, false, false, false, false, false, false, false, false] rfl rfl (by kernel_rfl) (fun _ _ _ h => h) (Or.inl ⟨by rfl, ?_⟩) ?_ ?_
        rotate_left
        · intro w'
          go_simp
          with_reducible rfl
        rotate_left
        · simp only [Act.put, List.setIfInBounds_toArray, List.set_cons_zero, List.set_cons_succ, i64_w, i32_w]
          rfl
        refine pure_ (i := 1) (N := some 30) (v := ?_) (a' := ?_) #[true, true, false, false, false, false, false, false, false, false, false] rfl rfl (by kernel_rfl) (fun _ _ _ h => h) (Or.inl ⟨by rfl, ?_⟩) ?_ ?_
        rotate_left
        · intro w'
          go_simp
          with_reducible rfl
        rotate_left
        · simp only [Act.put, List.setIfInBounds_toArray, List.set_cons_zero, List.set_cons_succ, i64_w, i32_w]
          rfl
        refine pure_ (i := 2) (N := some 31) (v := ?_) (a' := ?_) #[true, true, true, false, false, false, false, false, false, false, false] rfl rfl (by kernel_rfl) (fun _ _ _ h => h) (Or.inl ⟨by rfl, ?_⟩) ?_ ?_
        rotate_left
        · intro w'
          go_simp
          with_reducible rfl
        rotate_left
        · simp only [Act.put, List.setIfInBounds_toArray, List.set_cons_zero, List.set_cons_succ, i64_w, i32_w]
          rfl
        refine pure_ (i := 4) (N := some 33) (v := ?_) (a' := ?_) #[true, true, true, false, true, false, false, false, false, false, false] rfl rfl (by kernel_rfl) (fun _ _ _ h => h) (Or.inl ⟨by rfl, ?_⟩) ?_ ?_
        rotate_left
        · intro w'
          go_simp
          with_reducible rfl
        rotate_left
        · simp only [Act.put, List.setIfInBounds_toArray, List.set_cons_zero, List.set_cons_succ, i64_w, i32_w]
          rfl
        refine pure_ (i := 6) (N := some 35) (v := ?_) (a' := ?_) #[true, true, true, false, true, false, true, false, false, false, false] rfl rfl (by kernel_rfl) (fun _ _ _ h => h) (Or.inl ⟨by rfl, ?_⟩) ?_ ?_
        rotate_left
        · intro w'
          go_simp
          with_reducible rfl
        rotate_left
        · simp only [Act.put, List.setIfInBounds_toArray, List.set_cons_zero, List.set_cons_succ, i64_w, i32_w]
          rfl
        refine take_ (i := 3) (N := some 32) (v := ?_) (a' := ?_) #[true, true, true, true, true, false, true, false, false, false, false] rfl rfl (by kernel_rfl) (fun _ _ _ h => h) (Or.inl ⟨by rfl, ?_⟩) hHeld ?_ ?_
        rotate_left
        · rintro w' ⟨s0, s1, s2⟩
          go_simp
          with_reducible rfl
        rotate_left
        · simp only [Act.put, List.setIfInBounds_toArray, List.set_cons_zero, List.set_cons_succ, i64_w, i32_w]
          rfl
        refine take_ (i := 5) (N := some 34) (v := ?_) (a' := ?_) #[true, true, true, true, true, true, true, false, false, false, false] rfl rfl (by kernel_rfl) (fun _ _ _ h => h) (Or.inl ⟨by rfl, ?_⟩) hHeld ?_ ?_
        rotate_left
        · rintro w' ⟨s0, s1, s2⟩
          go_simp
          with_reducible rfl
        rotate_left
        · simp only [Act.put, List.setIfInBounds_toArray, List.set_cons_zero, List.set_cons_succ, i64_w, i32_w]
          rfl
        refine take_ (i := 7) (N := some 36) (v := ?_) (a' := ?_) #[true, true, true, true, true, true, true, true, false, false, false] rfl rfl (by kernel_rfl) (fun _ _ _ h => h) (Or.inl ⟨by rfl, ?_⟩) hHeld ?_ ?_
        rotate_left
        · rintro w' ⟨s0, s1, s2⟩
          refine load_run_at 45 (.tmp 35) ?_ ⟨g5, 1, none⟩ ?_ b.cs _ (row_bk s2) rbk_und rfl (by rw [b.len]; exact rbk_info) <;> rfl
        rotate_left
        · simp only [Act.put, List.setIfInBounds_toArray, List.set_cons_zero, List.set_cons_succ, i64_w, i32_w]
          rfl
        refine pure_ (i := 8) (N := some 37) (v := ?_) (a' := ?_) #[true, true, true, true, true, true, true, true, true, false, false] rfl rfl (by kernel_rfl) (fun _ _ _ h => h) (Or.inl ⟨by rfl, ?_⟩) ?_ ?_
        rotate_left
        · intro w'
          refine build_run 94 #[(0, .tmp 36)] #[(0, b.v)] ?_ ?_ ?_ <;> first | rw [run_rh] | rfl | (simp only [List.map_toArray, List.map_cons, List.map_nil]; rfl)
        rotate_left
        · simp only [Act.put, List.setIfInBounds_toArray, List.set_cons_zero, List.set_cons_succ, i64_w, i32_w]
          rfl
        refine pure_ (i := 9) (N := some 38) (v := ?_) (a' := ?_) #[true, true, true, true, true, true, true, true, true, true, false] rfl rfl (by kernel_rfl) (fun _ _ _ h => h) (Or.inl ⟨by rfl, ?_⟩) ?_ ?_
        rotate_left
        · intro w'
          go_simp
          with_reducible rfl
        rotate_left
        · simp only [Act.put, List.setIfInBounds_toArray, List.set_cons_zero, List.set_cons_succ, i64_w, i32_w]
          rfl
        refine last_ (i := 10) (N := none) #[true, true, true, true, true, true, true, true, true, true, true] rfl rfl (by kernel_rfl) (by decide) (fun K hK => ?_)
        refine skip_ (w1 := w3.setRow gl (hcells (Li.set q (b, false)))) (by rfl) rfl (held_store 94 _ _ rfl rfl rfl SS.out.hl hq rh_isize (hrow_all _)) ?_
        refine hK.out _ _ ?_
        clear hK K
        refine done_ (by kernel_rfl) ?_
        go_wp2_with fail
        go_roundw
        case rel => exact ⟨i + 1, by omega, by go_num, ⟨by rw [hstep.out, put1, if_pos hxe, Int.toNat_natCast]; exact SS.out.set q (b, false)⟩, ⟨MV.out.trans (Mv.row _ gl (Or.inr (Or.inl rfl)) _)⟩⟩
        case measure => simp [intOf]; omega
      by_cases h2 : f = 2
      case pos =>
        subst hfu
        have hb1 : (x.tmod 3 == 1) = false := by simpa using h1
        have hb2 : (x.tmod 3 == 2) = true := by simpa using h2
        have hxe : x.tmod 3 = 2 := h2
        go_wp2_with fail
        have n_MV := Aside0.mk (MV.out.trans (Mv.of_below (below_drew (Below.refl _ _))))
        have n_SS := Aside0.mk (SS.out.below (below_drew (Below.refl _ _)))
        have n_BK5 := Aside0.mk (blk_below BK5.out (below_drew (Below.refl _ _)))
        clear MV
        have MV := n_MV
        clear n_MV
        clear SS
        have SS := n_SS
        clear n_SS
        clear BK5
        have BK5 := n_BK5
        clear n_BK5
        refine start_ (n := 9) (S := fun w' => w'.cell? ⟨p, 0, none⟩ = some (.slice (some ⟨gl, 0, none⟩) Li.length Li.length) ∧ w'.cell? ⟨g5, 0, none⟩ = some (.int .i64 (q : Int)) ∧ w'.heap[g5]? = some (.cells (wrow ((q : Int), b)).toArray 92 (0, 0))) (ds := [8]) #[false, false, false, false, false, false, false, false, false] (by kernel_rfl) rfl rfl ⟨(blk_cell SS.out.hp 0).trans rfl, (blk_cell BK5.out 0).trans rfl, BK5.out⟩ (fun hHeld => ?_)
        generalize w2.drew = w3 at MV SS BK5 hHeld ⊢
        refine pure_ (i := 0) (N := some 41) (v := ?_) (a' := ?_) #[true, false, false, false, false, false, false, false, false] rfl rfl (by kernel_rfl) (fun _ _ _ h => h) (Or.inl ⟨by rfl, ?_⟩) ?_ ?_
        rotate_left
        · intro w'
          go_simp
          with_reducible rfl
        rotate_left
        · simp only [Act.put, List.setIfInBounds_toArray, List.set_cons_zero, List.set_cons_succ, i64_w, i32_w]
          rfl
        refine pure_ (i := 1) (N := some 42) (v := ?_) (a' := ?_) #[true, true, false, false, false, false, false, false, false] rfl rfl (by kernel_rfl) (fun _ _ _ h => h) (Or.inl ⟨by rfl, ?_⟩) ?_ ?_
        rotate_left
        · intro w'
          go_simp
          with_reducible rfl
        rotate_left
        · simp only [Act.put, List.setIfInBounds_toArray, List.set_cons_zero, List.set_cons_succ, i64_w, i32_w]
          rfl
        refine pure_ (i := 2) (N := some 43) (v := ?_) (a' := ?_) #[true, true, true, false, false, false, false, false, false] rfl rfl (by kernel_rfl) (fun _ _ _ h => h) (Or.inl ⟨by rfl, ?_⟩) ?_ ?_
        rotate_left
        · intro w'
          go_simp
          with_reducible rfl
        rotate_left
        · simp only [Act.put, List.setIfInBounds_toArray, List.set_cons_zero, List.set_cons_succ, i64_w, i32_w]
          rfl
        refine pure_ (i := 4) (N := some 45) (v := ?_) (a' := ?_) #[true, true, true, false, true, false, false, false, false] rfl rfl (by kernel_rfl) (fun _ _ _ h => h) (Or.inl ⟨by rfl, ?_⟩) ?_ ?_
        rotate_left
        · intro w'
          go_simp
          with_reducible rfl
        rotate_left
        · simp only [Act.put, List.setIfInBounds_toArray, List.set_cons_zero, List.set_cons_succ, i64_w, i32_w]
          rfl
        refine pure_ (i := 6) (N := some 47) (v := ?_) (a' := ?_) #[true, true, true, false, true, false, true, false, false] rfl rfl (by kernel_rfl) (fun _ _ _ h => h) (Or.inl ⟨by rfl, ?_⟩) ?_ ?_
        rotate_left
        · intro w'
          refine build_run 94 #[(1, .const (.bool true))] #[(1, .bool true)] ?_ ?_ ?_ <;> first | rw [run_rht] | rfl | (simp only [List.map_toArray, List.map_cons, List.map_nil]; rfl)
        rotate_left
        · simp only [Act.put, List.setIfInBounds_toArray, List.set_cons_zero, List.set_cons_succ, i64_w, i32_w]
          rfl
        refine take_ (i := 3) (N := some 44) (v := ?_) (a' := ?_) #[true, true, true, true, true, false, true, false, false] rfl rfl (by kernel_rfl) (fun _ _ _ h => h) (Or.inl ⟨by rfl, ?_⟩) hHeld ?_ ?_
        rotate_left
        · rintro w' ⟨s0, s1, s2⟩
          go_simp
          with_reducible rfl
        rotate_left
        · simp only [Act.put, List.setIfInBounds_toArray, List.set_cons_zero, List.set_cons_succ, i64_w, i32_w]
          rfl
        refine take_ (i := 5) (N := some 46) (v := ?_) (a' := ?_) #[true, true, true, true, true, true, true, false, false] rfl rfl (by kernel_rfl) (fun _ _ _ h => h) (Or.inl ⟨by rfl, ?_⟩) hHeld ?_ ?_
        rotate_left
        · rintro w' ⟨s0, s1, s2⟩
          go_simp
          with_reducible rfl
        rotate_left
        · simp only [Act.put, List.setIfInBounds_toArray, List.set_cons_zero, List.set_cons_succ, i64_w, i32_w]
          rfl
        refine pure_ (i := 7) (N := some 48) (v := ?_) (a' := ?_) #[true, true, true, true, true, true, true, true, false] rfl rfl (by kernel_rfl) (fun _ _ _ h => h) (Or.inl ⟨by rfl, ?_⟩) ?_ ?_
        rotate_left
        · intro w'
          go_simp
          with_reducible rfl
        rotate_left
        · simp only [Act.put, List.setIfInBounds_toArray, List.set_cons_zero, List.set_cons_succ, i64_w, i32_w]
          rfl
        refine last_ (i := 8) (N := none) #[true, true, true, true, true, true, true, true, true] rfl rfl (by kernel_rfl) (by decide) (fun K hK => ?_)
        refine skip_ (w1 := w3.setRow gl (hcells (Li.set q (Bk.z, true)))) (by rfl) rfl (held_store 94 _ _ rfl rfl rfl SS.out.hl hq rh_isize (hrow_all _)) ?_
        refine hK.out _ _ ?_
        clear hK K
        refine done_ (by kernel_rfl) ?_
        go_wp2_with fail
        go_roundw
        case rel => exact ⟨i + 1, by omega, by go_num, ⟨by rw [hstep.out, put1, if_neg h1, if_pos hxe, Int.toNat_natCast]; exact SS.out.set q (Bk.z, true)⟩, ⟨MV.out.trans (Mv.row _ gl (Or.inr (Or.inl rfl)) _)⟩⟩
        case measure => simp [intOf]; omega
      subst hfu
      have hb1 : (x.tmod 3 == 1) = false := by simpa using h1
      have hb2 : (x.tmod 3 == 2) = false := by simpa using h2
      go_wp2_with fail
      go_roundw
      case rel => exact ⟨i + 1, by omega, by go_num, ⟨by rw [hstep.out, put1, if_neg h1, if_neg h2]; exact SS.out⟩, MV⟩
      case measure => simp [intOf]; omega
    rw [if_neg hil] at hfu
    by_cases h1 : f = 1
    case pos =>
      exfalso; omega
    by_cases h2 : f = 2
    case pos =>
      exfalso; omega
    subst hfu
    go_wp2_with fail
    go_roundw
    case rel => exact ⟨i + 1, by omega, by go_num, ⟨by rw [hstep.out, put1, if_neg (by decide), if_neg (by decide)]; exact SS.out⟩, MV⟩
    case measure => simp [intOf]; omega
end
section
variable {w w' : World}
set_option maxHeartbeats 4000000 in
set_option maxRecDepth 100000 in
theorem b_Size_nil : Calls Try.prog 32 #[.pointer none] w fun e w' => e = .returned (.int .i64 0) ∧ Below w.heap.size w w' := by
  go_enter Try.func32, Try.ntmps32
  go_wp2_with fail
  go_ret
  exact ⟨rfl, Below.refl _ _⟩
set_option maxHeartbeats 8000000 in
set_option maxRecDepth 100000 in
theorem r_Of {A : Option Addr} {c : Nat} {l : List Int} (h : Kd.C (Kd.int .u8) w A l.length l) : Calls Try.prog 21 #[.slice A l.length c] w fun e w' => e = .returned (.agg (ofB l).cs.toArray) ∧ Below w.heap.size w w' := by
  have hz := fun W => rbk_zero W
  have hzv : Bk.z.v = .agg Bk.z.cs.toArray := rfl
  have hl0 := h.2.1
  have HB := Aside0.mk (below_alloc (below_alloc (Below.refl w.heap.size w) (.cells Bk.z.cs.toArray 45)) (.cells Bk.z.cs.toArray 45))
  have BK2 := Aside0.mk (blk_alloc (blk_new w (.cells Bk.z.cs.toArray 45)) (.cells Bk.z.cs.toArray 45))
  have BK3 := Aside0.mk (heap_alloc2_new w (.cells Bk.z.cs.toArray 45) (.cells Bk.z.cs.toArray 45))
  replace h := Aside0.mk h
  go_enter Try.func21, Try.ntmps21
  go_wp2_with fail
  generalize (w.alloc (.cells Bk.z.cs.toArray 45)).alloc (.cells Bk.z.cs.toArray 45) = w1 at HB BK2 BK3 ⊢
  go_loopw [4] (fun u wr => ∃ i : Nat, i ≤ l.length ∧ i ≤ 64 ∧ u = .int .i64 i ∧ Aside0 (Below w.heap.size w wr) ∧ Aside0 (wr.heap[w.heap.size]? = some (.cells Bk.z.cs.toArray 45 (0, 0))) ∧ Aside0 (wr.heap[w.heap.size + 1]? = some (.cells (ofB (l.take i)).cs.toArray 45 (0, 0)))) (fun u _ => ((l.length : Int) - intOf u).toNat)
  case atStart => exact ⟨0, Nat.zero_le _, by omega, rfl, HB, BK2, by rw [List.take_zero, ofB_nil]; exact BK3⟩
  case round =>
    obtain ⟨i, hi, h64, rfl, HB, BK2, BK3⟩ := hrel
    by_cases hend : l.length ≤ i ∨ 64 ≤ i
    · rw [ofB_full l i hend] at BK3
      have fin : ∀ wq, wq = wr.setRow w.heap.size (ofB l).cs.toArray → Below w.heap.size w wq ∧ wq.heap[w.heap.size]? = some (.cells (ofB l).cs.toArray 45 (0, 0)) := fun wq e => by rw [e]; exact ⟨row_below HB.out (Nat.le_refl _) _, setRow_heap _ _ _ _ _ _ BK2.out⟩
      by_cases h1 : l.length ≤ i
      · go_wp2_with (first | ((with_reducible refine gate_dst (N := 21) rfl ?_); refine wpl_ldbk 45 _ (w.heap.size + 1) (ofB l) 45 (0, 0) _ _ rfl rfl rfl BK3.out rbk_und rbk_info ?_) | ((with_reducible refine gate_store (t := 45) (p := 2) (v := .tmp 21) rfl ?_); refine wpl_stbk 45 _ _ w.heap.size (ofB l) 45 Bk.z rfl rfl rfl rfl rfl BK2.out rbk_info ?_))
        exact bodyPost_ret (v := .agg (ofB l).cs.toArray) (results_cell_row Try.results21 _ _ w.heap.size 45 _ (0, 0) _ rfl (fin _ rfl).2 rbk_und rfl (by rw [rbk_info, bk_sz])) rfl ⟨rfl, (fin _ rfl).1⟩
      · have h2 : 64 ≤ i := by omega
        go_wp2_with (first | ((with_reducible refine gate_dst (N := 21) rfl ?_); refine wpl_ldbk 45 _ (w.heap.size + 1) (ofB l) 45 (0, 0) _ _ rfl rfl rfl BK3.out rbk_und rbk_info ?_) | ((with_reducible refine gate_store (t := 45) (p := 2) (v := .tmp 21) rfl ?_); refine wpl_stbk 45 _ _ w.heap.size (ofB l) 45 Bk.z rfl rfl rfl rfl rfl BK2.out rbk_info ?_))
        exact bodyPost_ret (v := .agg (ofB l).cs.toArray) (results_cell_row Try.results21 _ _ w.heap.size 45 _ (0, 0) _ rfl (fin _ rfl).2 rbk_und rfl (by rw [rbk_info, bk_sz])) rfl ⟨rfl, (fin _ rfl).1⟩
    · have h1 : i < l.length := by omega
      have h2 : i < 64 := by omega
      obtain ⟨ad, rfl, hx0⟩ := Kd.at_int (Kd.C_below h.out HB.out) (i : Int) (by omega) (by omega)
      rw [Int.toNat_natCast] at hx0
      have hrd : YtniadlnbjgodnaaW.PrintWords.rd l (i : Int) = l[i] := by simp [YtniadlnbjgodnaaW.PrintWords.rd, h1]
      have hst := Aside0.mk (ofB_step l i h1 h2)
      rw [hrd] at hx0
      generalize l[i] = x at hx0 hst
      have kf := blk_frozen BK3.out i
      have kc := (blk_cell BK3.out i).trans (show (ofB (l.take i)).cs.toArray[i]? = some _ from by rw [List.getElem?_toArray]; exact Bk.get _ i h2)
      go_wp2_with fail
      go_roundw
      case rel => exact ⟨i + 1, by omega, by omega, by go_num, ⟨HB.out.setCell (p := ⟨w.heap.size + 1, i, none⟩) (by show w.heap.size ≤ w.heap.size + 1; omega) _⟩, ⟨(Below.heap_setCell _ _ _ _ (by show w.heap.size ≠ w.heap.size + 1; omega)).trans BK2.out⟩, ⟨blk_put BK3.out i _ hst.out⟩⟩
      case measure => simp [intOf]; omega
end
end Go.Proofs.Ytniadlnbjgodnaa.Print
