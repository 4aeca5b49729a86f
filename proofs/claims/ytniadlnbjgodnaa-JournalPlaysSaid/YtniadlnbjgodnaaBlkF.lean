/- What becomes of one write that waits, by its fate. -/
import Derived.Test.YtniadlnbjgodnaaProg
import Derived.Below
import Derived.Deep.Draws
import Derived.Deep.AppendLies
import Derived.Maps.AppendAt
import Derived.OwnWalk
import Derived.Laws.BytesArg
import Derived.Laws.MakeOwn
import Derived.Laws.OwnMore
import Derived.Deep.OwnRows
import Derived.Tactics
import Derived.Lib.ConvBytes
import Derived.Laws.Slices
import Derived.WalkKit
import Derived.KernelRfl
import Derived.RowKit3
import Derived.Deep.LoopGhost
import Derived.Deep.QuietTactic
import Derived.BigQuiet
import Derived.WideLaws
import Derived.Deep.DeepCutAuto
import Derived.Deep.CutBlock
import Derived.Deep.RegionHeld3
import Derived.Laws.Rows
import Derived.Lib.AppendStr
import Derived.ArgAppend
import Derived.Laws.IdiomCopy
import Derived.OrdersHeld
import Derived.Laws.BitsLemmas
import Derived.RowKit
import Derived.LoopN
import Derived.Handy
import Derived.Laws.EntriesVeiled
import Derived.MapKept
import Derived.Laws.Externs
import Derived.ChangeKeysEq
import Derived.Deep.WholeRow
import Derived.Test.YtniadlnbjgodnaaWWords
import Derived.Test.YtniadlnbjgodnaaWLast
import Derived.Test.YtniadlnbjgodnaaWTab
import Derived.Test.YtniadlnbjgodnaaWFour
import Derived.Test.YtniadlnbjgodnaaWQPut
import Derived.Test.YtniadlnbjgodnaaWApart
import Derived.Test.YtniadlnbjgodnaaWArr
import Derived.Test.YtniadlnbjgodnaaWZeros
import Derived.Test.YtniadlnbjgodnaaWFoot
import Derived.Test.YtniadlnbjgodnaaWKept
import Derived.Test.YtniadlnbjgodnaaWShare
import Derived.Test.YtniadlnbjgodnaaWN
import Derived.Test.YtniadlnbjgodnaaWFootNe
import Derived.Test.YtniadlnbjgodnaaWAt
import Derived.Test.YtniadlnbjgodnaaWEqStruct
import Derived.Test.YtniadlnbjgodnaaWRepsOne
import Derived.Test.YtniadlnbjgodnaaWInv
import Derived.Test.YtniadlnbjgodnaaWInvWords
import Derived.Test.YtniadlnbjgodnaaWGuard
import Derived.Test.YtniadlnbjgodnaaWNEv
import Derived.Test.YtniadlnbjgodnaaWMore
import Derived.Test.YtniadlnbjgodnaaBlkA
import Derived.Test.YtniadlnbjgodnaaBlkB
namespace Go.Proofs.Ytniadlnbjgodnaa.Print
open Go.RowKit Go.Proofs.YtniadlnbjgodnaaW.PrintWords Go.Proofs.YtniadlnbjgodnaaW.PrintLast Go.Proofs.YtniadlnbjgodnaaW.PrintMore
attribute [local go_sem] max2_int min2_int max_two min_two max_three min_three max_four min_four
set_option linter.unusedVariables false
set_option linter.unusedSimpArgs false
section
variable {B : Nat} {w w' : World} {p gl gm : Nat} {v : Value} {L : List (Bk × Bool)} {W : List (Int × Bk)}
theorem SA.set (h : SA B w p gl gm v L W) (q : Nat) (z : Bk × Bool) : SA B (w.setRow gl (hcells (L.set q z))) p gl gm v (L.set q z) W := by
  have hg : ∀ k, k ≠ gl → (w.setRow gl (hcells (L.set q z))).heap[k]? = w.heap[k]? := fun k hk => setRow_other w gl k _ hk
  have n1 : p ≠ gl := fun e => by have := h.hp; rw [e, h.hl] at this; injection this with this; injection this with _ this; exact absurd this (by decide)
  obtain ⟨m, hm, hm2⟩ := h.hm
  have n2 : gm ≠ gl := fun e => by obtain ⟨es, c, h1, _⟩ := hm; rw [e, h.hl] at h1; injection h1 with h1; cases h1
  have n3 : ∀ k, v.ownBlock = some k → k ≠ gl := fun k hk e => by obtain ⟨cs, hc⟩ := own_type h.hw hk; rw [e, h.hl] at hc; injection hc with hc; injection hc with _ hc; exact absurd hc (by decide)
  refine ⟨by rw [List.length_set]; exact (hg p n1).trans h.hp, setRow_heap _ _ _ _ _ _ h.hl, same_R h.hw (fun k hk => hg k (n3 k hk)), ⟨m, hm.same (hg gm n2), hm2⟩, h.hB, by rw [List.length_set]; exact h.hL, h.hW.1, fun x hx => by rw [List.length_set]; exact h.hW.2 x hx⟩
set_option maxHeartbeats 8000000 in
set_option maxRecDepth 100000 in
theorem b_settlec (h : SA B w p gl gm v L W) {gf gs n : Nat} {caps : Array Value} (hf : w.heap[gf]? = some (.cells #[.func (.func n) #[] caps] 96 (0, 0))) (hs : w.heap[gs]? = some (.cells #[.pointer (some ⟨p, 0, none⟩)] 25 (0, 0))) (hn : FnOk Try.prog n) (q : Nat) (b : Bk) (hq : q < L.length) (i : Nat) (f : Int)
    (hfate : ∀ w', Below w.heap.size w w' → Calls Try.prog n (#[.int .i64 i] ++ caps) w' fun e w'' => e = .returned (.int .u8 f) ∧ Below w'.heap.size w' w'') :
    Calls Try.prog 56 #[.int .i64 i, .agg (wrow ((q : Int), b)).toArray, .pointer (some ⟨gf, 0, none⟩), .pointer (some ⟨gs, 0, none⟩)] w fun e w' => e = .returned (.tuple #[]) ∧ SA B w' p gl gm v (put1 L ((q : Int), b) f) W ∧ Mv (foot p gl gm v) (foot p gl gm v) w w' := by
  obtain ⟨Ln, hLn⟩ : ∃ Ln, Ln = put1 L ((q : Int), b) f := ⟨_, rfl⟩
  rw [← hLn]
  rw [put1, Int.toNat_natCast] at hLn
  replace hLn := Aside0.mk hLn
  replace hfate := Aside0.mk hfate
  have hb0 := below_alloc (Below.refl w.heap.size w) (.cells (wrow ((q : Int), b)).toArray 100)
  have hk0 := blk_new w (.cells (wrow ((q : Int), b)).toArray 100)
  have hfc : w.cell? ⟨gf, 0, none⟩ = some (.func (.func n) #[] caps) := (blk_cell hf 0).trans rfl
  have SS := Aside0.mk (h.below hb0)
  have BKf := Aside0.mk (blk_below hf hb0)
  have BKs := Aside0.mk (blk_below hs hb0)
  clear h hf hs hfc
  have HB := Aside0.mk hb0
  have BK5 := Aside0.mk hk0
  clear hb0 hk0
  go_enter Try.func56, Try.ntmps56
  go_wp2_with ((with_reducible refine gate_dst (N := 6) rfl ?_); refine Shut.out ?_)
  unfold Shut
  generalize w.alloc (.cells (wrow ((q : Int), b)).toArray 100) = w1 at HB BK5 SS BKf BKs ⊢
  have hfc : w1.cell? ⟨gf, 0, none⟩ = some (.func (.func n) #[] caps) := (blk_cell BKf.out 0).trans rfl
  go_wp2_with ((with_reducible refine gate_dst (N := 8) rfl ?_); refine wpl_callv (.tmp 6) #[.tmp 7] _ rfl rfl n hn caps rfl _ rfl ?_)
  refine (hfate.out w1 HB.out).mono ?_
  rintro e w2 ⟨rfl, hb⟩
  refine ⟨_, rfl, ?_⟩
  have MV := Aside0.mk (Mv.of_below (F := foot p gl gm v) (below_step HB.out hb))
  have SS' := Aside0.mk (SS.out.below hb)
  have BKs' := Aside0.mk (blk_below BKs.out hb)
  have BK5' := Aside0.mk (blk_below BK5.out hb)
  clear SS BKs BK5 HB BKf hfc hb hfate
  have SS := SS'
  have BKs := BKs'
  have BK5 := BK5'
  clear SS' BKs' BK5'
  by_cases h1 : f = 1
  case pos =>
    have hl1 : Ln = L.set q (b, false) := by rw [hLn.out, if_pos h1]
    clear hLn
    subst h1 hl1
    have hb1 : ((1 : Int) == 1) = true := rfl
    go_wp2_with fail
    have n_MV := Aside0.mk (MV.out.trans (Mv.of_below (below_drew (Below.refl _ _))))
    have n_SS := Aside0.mk (SS.out.below (below_drew (Below.refl _ _)))
    have n_BKs := Aside0.mk (blk_below BKs.out (below_drew (Below.refl _ _)))
    have n_BK5 := Aside0.mk (blk_below BK5.out (below_drew (Below.refl _ _)))
    clear MV
    have MV := n_MV
    clear n_MV
    clear SS
    have SS := n_SS
    clear n_SS
    clear BKs
    have BKs := n_BKs
    clear n_BKs
    clear BK5
    have BK5 := n_BK5
    clear n_BK5
    refine start_ (n := 11) (S := fun w' => w'.cell? ⟨gs, 0, none⟩ = some (.pointer (some ⟨p, 0, none⟩)) ∧ w'.cell? ⟨p, 0, none⟩ = some (.slice (some ⟨gl, 0, none⟩) L.length L.length) ∧ w'.cell? ⟨w.heap.size, 0, none⟩ = some (.int .i64 (q : Int)) ∧ w'.heap[w.heap.size]? = some (.cells (wrow ((q : Int), b)).toArray 100 (0, 0))) (ds := [10]) #[false, false, false, false, false, false, false, false, false, false, false] (by kernel_rfl) rfl rfl ⟨(blk_cell BKs.out 0).trans rfl, (blk_cell SS.out.hp 0).trans rfl, (blk_cell BK5.out 0).trans rfl, BK5.out⟩ (fun hHeld => ?_)
    generalize w2.drew = w3 at MV SS BKs BK5 hHeld ⊢
    refine pure_ (i := 4) (N := some 15) (v := ?_) (a' := ?_) #[false, false, false, false, true, false, false, false, false, false, false] rfl rfl (by kernel_rfl) (fun _ _ _ h => h) (Or.inl ⟨by rfl, ?_⟩) ?_ ?_
    rotate_left
    · intro w'
      go_simp
      with_reducible rfl
    rotate_left
    · simp only [Act.put, List.setIfInBounds_toArray, List.set_cons_zero, List.set_cons_succ, i64_w, i32_w]
      rfl
    refine pure_ (i := 6) (N := some 17) (v := ?_) (a' := ?_) #[false, false, false, false, true, false, true, false, false, false, false] rfl rfl (by kernel_rfl) (fun _ _ _ h => h) (Or.inl ⟨by rfl, ?_⟩) ?_ ?_
    rotate_left
    · intro w'
      go_simp
      with_reducible rfl
    rotate_left
    · simp only [Act.put, List.setIfInBounds_toArray, List.set_cons_zero, List.set_cons_succ, i64_w, i32_w]
      rfl
    refine take_ (i := 0) (N := some 11) (v := ?_) (a' := ?_) #[true, false, false, false, true, false, true, false, false, false, false] rfl rfl (by kernel_rfl) (fun _ _ _ h => h) (Or.inl ⟨by rfl, ?_⟩) hHeld ?_ ?_
    rotate_left
    · rintro w' ⟨s0, s1, s2, s3⟩
      go_simp
      with_reducible rfl
    rotate_left
    · simp only [Act.put, List.setIfInBounds_toArray, List.set_cons_zero, List.set_cons_succ, i64_w, i32_w]
      rfl
    refine pure_ (i := 1) (N := some 12) (v := ?_) (a' := ?_) #[true, true, false, false, true, false, true, false, false, false, false] rfl rfl (by kernel_rfl) (fun _ _ _ h => h) (Or.inl ⟨by rfl, ?_⟩) ?_ ?_
    rotate_left
    · intro w'
      go_simp
      with_reducible rfl
    rotate_left
    · simp only [Act.put, List.setIfInBounds_toArray, List.set_cons_zero, List.set_cons_succ, i64_w, i32_w]
      rfl
    refine pure_ (i := 2) (N := some 13) (v := ?_) (a' := ?_) #[true, true, true, false, true, false, true, false, false, false, false] rfl rfl (by kernel_rfl) (fun _ _ _ h => h) (Or.inl ⟨by rfl, ?_⟩) ?_ ?_
    rotate_left
    · intro w'
      go_simp
      with_reducible rfl
    rotate_left
    · simp only [Act.put, List.setIfInBounds_toArray, List.set_cons_zero, List.set_cons_succ, i64_w, i32_w]
      rfl
    refine take_ (i := 3) (N := some 14) (v := ?_) (a' := ?_) #[true, true, true, true, true, false, true, false, false, false, false] rfl rfl (by kernel_rfl) (fun _ _ _ h => h) (Or.inl ⟨by rfl, ?_⟩) hHeld ?_ ?_
    rotate_left
    · rintro w' ⟨s0, s1, s2, s3⟩
      go_simp
      with_reducible rfl
    rotate_left
    · simp only [Act.put, List.setIfInBounds_toArray, List.set_cons_zero, List.set_cons_succ, i64_w, i32_w]
      rfl
    refine take_ (i := 5) (N := some 16) (v := ?_) (a' := ?_) #[true, true, true, true, true, true, true, false, false, false, false] rfl rfl (by kernel_rfl) (fun _ _ _ h => h) (Or.inl ⟨by rfl, ?_⟩) hHeld ?_ ?_
    rotate_left
    · rintro w' ⟨s0, s1, s2, s3⟩
      go_simp
      with_reducible rfl
    rotate_left
    · simp only [Act.put, List.setIfInBounds_toArray, List.set_cons_zero, List.set_cons_succ, i64_w, i32_w]
      rfl
    refine take_ (i := 7) (N := some 18) (v := ?_) (a' := ?_) #[true, true, true, true, true, true, true, true, false, false, false] rfl rfl (by kernel_rfl) (fun _ _ _ h => h) (Or.inl ⟨by rfl, ?_⟩) hHeld ?_ ?_
    rotate_left
    · rintro w' ⟨s0, s1, s2, s3⟩
      refine load_run_at 46 (.tmp 17) ?_ ⟨w.heap.size, 1, none⟩ ?_ b.cs _ (row_bk s3) bk_und rfl (by rw [b.len]; exact bk_info) <;> rfl
    rotate_left
    · simp only [Act.put, List.setIfInBounds_toArray, List.set_cons_zero, List.set_cons_succ, i64_w, i32_w]
      rfl
    refine pure_ (i := 8) (N := some 19) (v := ?_) (a' := ?_) #[true, true, true, true, true, true, true, true, true, false, false] rfl rfl (by kernel_rfl) (fun _ _ _ h => h) (Or.inl ⟨by rfl, ?_⟩) ?_ ?_
    rotate_left
    · intro w'
      refine build_run 103 #[(0, .tmp 18)] #[(0, b.v)] ?_ ?_ ?_ <;> first | rw [run_h] | rfl | (simp only [List.map_toArray, List.map_cons, List.map_nil]; rfl)
    rotate_left
    · simp only [Act.put, List.setIfInBounds_toArray, List.set_cons_zero, List.set_cons_succ, i64_w, i32_w]
      rfl
    refine pure_ (i := 9) (N := some 20) (v := ?_) (a' := ?_) #[true, true, true, true, true, true, true, true, true, true, false] rfl rfl (by kernel_rfl) (fun _ _ _ h => h) (Or.inl ⟨by rfl, ?_⟩) ?_ ?_
    rotate_left
    · intro w'
      go_simp
      with_reducible rfl
    rotate_left
    · simp only [Act.put, List.setIfInBounds_toArray, List.set_cons_zero, List.set_cons_succ, i64_w, i32_w]
      rfl
    refine last_ (i := 10) (N := none) #[true, true, true, true, true, true, true, true, true, true, true] rfl rfl (by kernel_rfl) (by decide) (fun K hK => ?_)
    refine skip_ (w1 := w3.setRow gl (hcells (L.set q (b, false)))) (by rfl) rfl (held_store 103 _ _ rfl rfl rfl SS.out.hl hq h_isize (hrow_all _)) ?_
    refine hK.out _ _ ?_
    clear hK K
    refine done_ (by kernel_rfl) ?_
    go_wp2_with fail
    go_end0
    exact ⟨rfl, SS.out.set q (b, false), MV.out.trans (Mv.row _ gl (Or.inr (Or.inl rfl)) _)⟩
  by_cases h2 : f = 2
  case pos =>
    have hl1 : Ln = L.set q (Bk.z, true) := by rw [hLn.out, if_neg h1, if_pos h2]
    clear hLn h1
    subst h2 hl1
    have hb1 : ((2 : Int) == 1) = false := rfl
    have hb2 : ((2 : Int) == 2) = true := rfl
    go_wp2_with fail
    have n_MV := Aside0.mk (MV.out.trans (Mv.of_below (below_drew (Below.refl _ _))))
    have n_SS := Aside0.mk (SS.out.below (below_drew (Below.refl _ _)))
    have n_BKs := Aside0.mk (blk_below BKs.out (below_drew (Below.refl _ _)))
    have n_BK5 := Aside0.mk (blk_below BK5.out (below_drew (Below.refl _ _)))
    clear MV
    have MV := n_MV
    clear n_MV
    clear SS
    have SS := n_SS
    clear n_SS
    clear BKs
    have BKs := n_BKs
    clear n_BKs
    clear BK5
    have BK5 := n_BK5
    clear n_BK5
    refine start_ (n := 9) (S := fun w' => w'.cell? ⟨gs, 0, none⟩ = some (.pointer (some ⟨p, 0, none⟩)) ∧ w'.cell? ⟨p, 0, none⟩ = some (.slice (some ⟨gl, 0, none⟩) L.length L.length) ∧ w'.cell? ⟨w.heap.size, 0, none⟩ = some (.int .i64 (q : Int)) ∧ w'.heap[w.heap.size]? = some (.cells (wrow ((q : Int), b)).toArray 100 (0, 0))) (ds := [8]) #[false, false, false, false, false, false, false, false, false] (by kernel_rfl) rfl rfl ⟨(blk_cell BKs.out 0).trans rfl, (blk_cell SS.out.hp 0).trans rfl, (blk_cell BK5.out 0).trans rfl, BK5.out⟩ (fun hHeld => ?_)
    generalize w2.drew = w3 at MV SS BKs BK5 hHeld ⊢
    refine pure_ (i := 4) (N := some 27) (v := ?_) (a' := ?_) #[false, false, false, false, true, false, false, false, false] rfl rfl (by kernel_rfl) (fun _ _ _ h => h) (Or.inl ⟨by rfl, ?_⟩) ?_ ?_
    rotate_left
    · intro w'
      go_simp
      with_reducible rfl
    rotate_left
    · simp only [Act.put, List.setIfInBounds_toArray, List.set_cons_zero, List.set_cons_succ, i64_w, i32_w]
      rfl
    refine pure_ (i := 6) (N := some 29) (v := ?_) (a' := ?_) #[false, false, false, false, true, false, true, false, false] rfl rfl (by kernel_rfl) (fun _ _ _ h => h) (Or.inl ⟨by rfl, ?_⟩) ?_ ?_
    rotate_left
    · intro w'
      refine build_run 103 #[(1, .const (.bool true))] #[(1, .bool true)] ?_ ?_ ?_ <;> first | rw [run_ht] | rfl | (simp only [List.map_toArray, List.map_cons, List.map_nil]; rfl)
    rotate_left
    · simp only [Act.put, List.setIfInBounds_toArray, List.set_cons_zero, List.set_cons_succ, i64_w, i32_w]
      rfl
    refine take_ (i := 0) (N := some 23) (v := ?_) (a' := ?_) #[true, false, false, false, true, false, true, false, false] rfl rfl (by kernel_rfl) (fun _ _ _ h => h) (Or.inl ⟨by rfl, ?_⟩) hHeld ?_ ?_
    rotate_left
    · rintro w' ⟨s0, s1, s2, s3⟩
      go_simp
      with_reducible rfl
    rotate_left
    · simp only [Act.put, List.setIfInBounds_toArray, List.set_cons_zero, List.set_cons_succ, i64_w, i32_w]
      rfl
    refine pure_ (i := 1) (N := some 24) (v := ?_) (a' := ?_) #[true, true, false, false, true, false, true, false, false] rfl rfl (by kernel_rfl) (fun _ _ _ h => h) (Or.inl ⟨by rfl, ?_⟩) ?_ ?_
    rotate_left
    · intro w'
      go_simp
      with_reducible rfl
    rotate_left
    · simp only [Act.put, List.setIfInBounds_toArray, List.set_cons_zero, List.set_cons_succ, i64_w, i32_w]
      rfl
    refine pure_ (i := 2) (N := some 25) (v := ?_) (a' := ?_) #[true, true, true, false, true, false, true, false, false] rfl rfl (by kernel_rfl) (fun _ _ _ h => h) (Or.inl ⟨by rfl, ?_⟩) ?_ ?_
    rotate_left
    · intro w'
      go_simp
      with_reducible rfl
    rotate_left
    · simp only [Act.put, List.setIfInBounds_toArray, List.set_cons_zero, List.set_cons_succ, i64_w, i32_w]
      rfl
    refine take_ (i := 3) (N := some 26) (v := ?_) (a' := ?_) #[true, true, true, true, true, false, true, false, false] rfl rfl (by kernel_rfl) (fun _ _ _ h => h) (Or.inl ⟨by rfl, ?_⟩) hHeld ?_ ?_
    rotate_left
    · rintro w' ⟨s0, s1, s2, s3⟩
      go_simp
      with_reducible rfl
    rotate_left
    · simp only [Act.put, List.setIfInBounds_toArray, List.set_cons_zero, List.set_cons_succ, i64_w, i32_w]
      rfl
    refine take_ (i := 5) (N := some 28) (v := ?_) (a' := ?_) #[true, true, true, true, true, true, true, false, false] rfl rfl (by kernel_rfl) (fun _ _ _ h => h) (Or.inl ⟨by rfl, ?_⟩) hHeld ?_ ?_
    rotate_left
    · rintro w' ⟨s0, s1, s2, s3⟩
      go_simp
      with_reducible rfl
    rotate_left
    · simp only [Act.put, List.setIfInBounds_toArray, List.set_cons_zero, List.set_cons_succ, i64_w, i32_w]
      rfl
    refine pure_ (i := 7) (N := some 30) (v := ?_) (a' := ?_) #[true, true, true, true, true, true, true, true, false] rfl rfl (by kernel_rfl) (fun _ _ _ h => h) (Or.inl ⟨by rfl, ?_⟩) ?_ ?_
    rotate_left
    · intro w'
      go_simp
      with_reducible rfl
    rotate_left
    · simp only [Act.put, List.setIfInBounds_toArray, List.set_cons_zero, List.set_cons_succ, i64_w, i32_w]
      rfl
    refine last_ (i := 8) (N := none) #[true, true, true, true, true, true, true, true, true] rfl rfl (by kernel_rfl) (by decide) (fun K hK => ?_)
    refine skip_ (w1 := w3.setRow gl (hcells (L.set q (Bk.z, true)))) (by rfl) rfl (held_store 103 _ _ rfl rfl rfl SS.out.hl hq h_isize (hrow_all _)) ?_
    refine hK.out _ _ ?_
    clear hK K
    refine done_ (by kernel_rfl) ?_
    go_wp2_with fail
    go_end0
    exact ⟨rfl, SS.out.set q (Bk.z, true), MV.out.trans (Mv.row _ gl (Or.inr (Or.inl rfl)) _)⟩
  have hl1 : Ln = L := by rw [hLn.out, if_neg h1, if_neg h2]
  clear hLn
  subst hl1
  have hb1 : (f == 1) = false := by simpa using h1
  have hb2 : (f == 2) = false := by simpa using h2
  go_wp2_with fail
  go_end0
  exact ⟨rfl, SS.out, MV.out⟩
end
end Go.Proofs.Ytniadlnbjgodnaa.Print
