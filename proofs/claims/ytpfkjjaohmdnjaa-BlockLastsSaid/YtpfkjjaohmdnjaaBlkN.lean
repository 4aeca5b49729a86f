/- What the document's Sync and Crash do. -/
import Derived.Test.YtpfkjjaohmdnjaaProg
import Derived.Below
import Derived.Deep.Draws
import Derived.Deep.AppendLies
import Derived.Maps.AppendAt
import Derived.OwnWalk
import Derived.Laws.BytesArg
import Derived.Laws.MakeOwn
import Derived.Laws.OwnMore
import Derived.Deep.OwnRows
import Derived.Tactics
import Derived.Lib.ConvBytes
import Derived.Laws.Slices
import Derived.WalkKit
import Derived.KernelRfl
import Derived.RowKit3
import Derived.Deep.LoopGhost
import Derived.Deep.QuietTactic
import Derived.BigQuiet
import Derived.WideLaws
import Derived.Deep.DeepCutAuto
import Derived.Deep.CutBlock
import Derived.Deep.RegionHeld3
import Derived.Laws.Rows
import Derived.Lib.AppendStr
import Derived.ArgAppend
import Derived.Laws.IdiomCopy
import Derived.OrdersHeld
import Derived.Laws.BitsLemmas
import Derived.RowKit
import Derived.LoopN
import Derived.Handy
import Derived.Laws.EntriesVeiled
import Derived.MapKept
import Derived.Laws.Externs
import Derived.ChangeKeysEq
import Derived.Deep.WholeRow
import Derived.Test.YtpfkjjaohmdnjaaWWords
import Derived.Test.YtpfkjjaohmdnjaaWLast
import Derived.Test.YtpfkjjaohmdnjaaWTab
import Derived.Test.YtpfkjjaohmdnjaaWFour
import Derived.Test.YtpfkjjaohmdnjaaWQPut
import Derived.Test.YtpfkjjaohmdnjaaWApart
import Derived.Test.YtpfkjjaohmdnjaaWArr
import Derived.Test.YtpfkjjaohmdnjaaWZeros
import Derived.Test.YtpfkjjaohmdnjaaWFoot
import Derived.Test.YtpfkjjaohmdnjaaWKept
import Derived.Test.YtpfkjjaohmdnjaaWShare
import Derived.Test.YtpfkjjaohmdnjaaWN
import Derived.Test.YtpfkjjaohmdnjaaWFootNe
import Derived.Test.YtpfkjjaohmdnjaaWAt
import Derived.Test.YtpfkjjaohmdnjaaWEqStruct
import Derived.Test.YtpfkjjaohmdnjaaWRepsOne
import Derived.Test.YtpfkjjaohmdnjaaWInv
import Derived.Test.YtpfkjjaohmdnjaaWInvWords
import Derived.Test.YtpfkjjaohmdnjaaWGuard
import Derived.Test.YtpfkjjaohmdnjaaWNEv
import Derived.Test.YtpfkjjaohmdnjaaWMore
import Derived.Test.YtpfkjjaohmdnjaaBlkA
import Derived.Test.YtpfkjjaohmdnjaaBlkB
import Derived.Test.YtpfkjjaohmdnjaaBlkE
import Derived.Test.YtpfkjjaohmdnjaaBlkF
import Derived.Test.YtpfkjjaohmdnjaaBlkJ
namespace Go.Proofs.Ytpfkjjaohmdnjaa.Print
open Go.RowKit Go.Proofs.YtpfkjjaohmdnjaaW.PrintWords Go.Proofs.YtpfkjjaohmdnjaaW.PrintLast Go.Proofs.YtpfkjjaohmdnjaaW.PrintMore
attribute [local go_sem] max2_int min2_int max_two min_two max_three min_three max_four min_four
set_option linter.unusedVariables false
set_option linter.unusedSimpArgs false
section
variable {B : Nat} {w w' : World} {p gl gm : Nat} {v : Value} {L : List (Bk × Bool)} {W : List (Int × Bk)}
theorem rwl_zero (W : World) : (zeroValue 67).run Try.prog W = .ok (.agg (wrow (0, Bk.z)).toArray) W := by kernel_rfl
theorem RA.set (h : RA B w p gl v L W) (q : Nat) (z : Bk × Bool) : RA B (w.setRow gl (hcells (L.set q z))) p gl v (L.set q z) W := by
  have hg : ∀ k, k ≠ gl → (w.setRow gl (hcells (L.set q z))).heap[k]? = w.heap[k]? := fun k hk => setRow_other w gl k _ hk
  have n1 : p ≠ gl := fun e => by have := h.hp; rw [e, h.hl] at this; injection this with this; injection this with _ this; exact absurd this (by decide)
  have n3 : ∀ k, v.ownBlock = some k → k ≠ gl := fun k hk e => by obtain ⟨cs, hc⟩ := own_type h.hw hk; rw [e, h.hl] at hc; injection hc with hc; injection hc with _ hc; exact absurd hc (by decide)
  refine ⟨by rw [List.length_set]; exact (hg p n1).trans h.hp, setRow_heap _ _ _ _ _ _ h.hl, same_R h.hw (fun k hk => hg k (n3 k hk)), h.hB, by rw [List.length_set]; exact h.hL, h.hW.1, fun x hx => by rw [List.length_set]; exact h.hW.2 x hx⟩
theorem RA.emptied (h : RA B w p gl v L W) : RA B (w.setCell ⟨p, 1, none⟩ (.slice none 0 0)) p gl (.slice none 0 0) L [] := by
  have hne : ∀ k, k ≠ p → (w.setCell ⟨p, 1, none⟩ (.slice none 0 0)).heap[k]? = w.heap[k]? := fun k hk => Below.heap_setCell _ _ _ k hk
  have n1 : gl ≠ p := fun e => by have := h.hp; rw [← e, h.hl] at this; injection this with this; injection this with _ this; exact absurd this (by decide)
  exact ⟨blk_put h.hp 1 (.slice none 0 0) rfl, (hne gl n1).trans h.hl, Kd.R_nil _ _ _ _ _, h.hB, h.hL, by simp, fun x hx => by simp at hx⟩
theorem rfoot_none {k : Nat} (h : rfoot p gl (.slice none 0 0) k) : rfoot p gl v k := by
  rcases h with h | h | h
  · exact .inl h
  · exact .inr (.inl h)
  · cases h
set_option maxHeartbeats 8000000 in
set_option maxRecDepth 100000 in
theorem r_Sync (h : RA B w p gl v L W) : Calls Try.prog 15 #[.pointer (some ⟨p, 0, none⟩)] w fun e w' => e = .returned (.tuple #[]) ∧ RA B w' p gl (.slice none 0 0) (setl (fun _ => 1) 0 W L) [] ∧ Mv (rfoot p gl v) (rfoot p gl (.slice none 0 0)) w w' := by
  obtain ⟨A, c, hv, hc0, _⟩ := Kd.R_reads h.hw
  rw [List.length_map] at hv hc0
  subst hv
  have hcv : w.cell? ⟨p, 1, none⟩ = some (.slice A W.length c) := (blk_cell h.hp 1).trans rfl
  have hW := h.hW.1
  replace h := Aside0.mk h
  have hzz := fun W => rwl_zero W
  go_enter Try.func15, Try.ntmps15
  go_wp2_with fail
  go_loopw [9] (fun u wr => ∃ i : Nat, i ≤ W.length ∧ u = .int .i64 i ∧ Aside0 (RA B wr p gl (.slice A W.length c) (setl (fun _ => 1) 0 (W.take i) L) W) ∧ Aside0 (Mv (rfoot p gl (.slice A W.length c)) (rfoot p gl (.slice A W.length c)) w wr)) (fun u _ => ((W.length : Int) - intOf u).toNat)
  case atStart => exact ⟨0, Nat.zero_le _, rfl, ⟨h.out⟩, ⟨Mv.refl _ _⟩⟩
  case round =>
    obtain ⟨i, hi, rfl, HS, HM⟩ := hrel
    by_cases hlt : i < W.length
    case neg =>
      obtain rfl : i = W.length := by omega
      rw [List.take_length] at HS
      have kf := blk_frozen HS.out.hp 1
      have kc := (blk_cell HS.out.hp 1).trans rfl
      go_wp2_with fail
      go_end0
      exact ⟨rfl, HS.out.emptied, (HM.out.trans (Mv.cell _ _ (Or.inl rfl) _)).weaken (fun _ h => h) (fun k hk => .inl (rfoot_none hk))⟩
    obtain ⟨ad, hA, hcell⟩ := row_get HS.out.hw i hlt
    have hLi : (setl (fun _ => 1) 0 (W.take i) L).length = L.length := setl_len _ _ _ _
    obtain ⟨q, b, hx, hq⟩ : ∃ (q : Nat) (b : Bk), W[i] = ((q : Int), b) ∧ q < (setl (fun _ => 1) 0 (W.take i) L).length := by
      have := HS.out.hW.2 _ (List.getElem_mem hlt)
      exact ⟨W[i].1.toNat, W[i].2, Prod.ext (by simp; omega) rfl, by omega⟩
    have hstep := setl_step (fun _ => 1) W L i hlt
    rw [hx] at hcell hstep
    replace hstep := Aside0.mk hstep
    replace hcell := Aside0.mk hcell
    replace hx := Aside0.mk hx
    generalize setl (fun _ => 1) 0 (W.take i) L = Li at HS hLi hq hstep
    have hq2 : q < L.length := by omega
    subst hA
    go_wp2_with (first | ((with_reducible refine gate_dst (N := 12) rfl ?_); refine wpl_value rfl (load_run_at 67 (.tmp 11) rfl (ad.add (i * 65)) rfl (wrow ((q : Int), b)) _ hcell.out Try.underlying67 rfl (by rw [wrow_len]; exact rw_isize)) ?_) | ((with_reducible refine gate_store (t := 67) (p := 3) (v := .tmp 12) rfl ?_); refine Shut.out ?_))
    unfold Shut
    obtain ⟨hnb, hnk⟩ := newbk wr (wrow (0, Bk.z)).toArray (wrow ((q : Int), b)).toArray 67
    refine store_rowTo rfl 67 (.tmp 3) (.tmp 12) rfl rfl wr.heap.size (wrow ((q : Int), b)).toArray rfl rfl 67 _ (blk_new wr _) (by rw [wrow_size]; exact rw_isize) (by rw [wrow_size, wrow_size]) (wrow_all _) ?_
    have SS := Aside0.mk (HS.out.below hnb)
    have MV := Aside0.mk (HM.out.trans (Mv.of_below hnb))
    have BK5 := Aside0.mk hnk
    clear HS HM hnb hnk hcell
    generalize (wr.alloc (.cells (wrow (0, Bk.z)).toArray 67)).setRow wr.heap.size (wrow ((q : Int), b)).toArray = w2 at SS MV BK5 ⊢
    generalize wr.heap.size = g5 at BK5 ⊢
    go_wp2_with fail
    have n_MV := Aside0.mk (MV.out.trans (Mv.of_below (below_drew (Below.refl _ _))))
    have n_SS := Aside0.mk (SS.out.below (below_drew (Below.refl _ _)))
    have n_BK5 := Aside0.mk (blk_below BK5.out (below_drew (Below.refl _ _)))
    clear MV
    have MV := n_MV
    clear n_MV
    clear SS
    have SS := n_SS
    clear n_SS
    clear BK5
    have BK5 := n_BK5
    clear n_BK5
    refine start_ (n := 11) (S := fun w' => w'.cell? ⟨p, 0, none⟩ = some (.slice (some ⟨gl, 0, none⟩) Li.length Li.length) ∧ w'.cell? ⟨g5, 0, none⟩ = some (.int .i64 (q : Int)) ∧ w'.heap[g5]? = some (.cells (wrow ((q : Int), b)).toArray 67 (0, 0))) (ds := [10]) #[false, false, false, false, false, false, false, false, false, false, false] (by kernel_rfl) rfl rfl ⟨(blk_cell SS.out.hp 0).trans rfl, (blk_cell BK5.out 0).trans rfl, BK5.out⟩ (fun hHeld => ?_)
    generalize w2.drew = w3 at MV SS BK5 hHeld ⊢
    refine pure_ (i := 0) (N := some 13) (v := ?_) (a' := ?_) #[true, false, false, false, false, false, false, false, false, false, false] rfl rfl (by kernel_rfl) (fun _ _ _ h => h) (Or.inl ⟨by rfl, ?_⟩) ?_ ?_
    rotate_left
    · intro w'
      go_simp
      with_reducible rfl
    rotate_left
    · simp only [Act.put, List.setIfInBounds_toArray, List.set_cons_zero, List.set_cons_succ, i64_w, i32_w]
      rfl
    refine pure_ (i := 1) (N := some 14) (v := ?_) (a' := ?_) #[true, true, false, false, false, false, false, false, false, false, false] rfl rfl (by kernel_rfl) (fun _ _ _ h => h) (Or.inl ⟨by rfl, ?_⟩) ?_ ?_
    rotate_left
    · intro w'
      go_simp
      with_reducible rfl
    rotate_left
    · simp only [Act.put, List.setIfInBounds_toArray, List.set_cons_zero, List.set_cons_succ, i64_w, i32_w]
      rfl
    refine pure_ (i := 2) (N := some 15) (v := ?_) (a' := ?_) #[true, true, true, false, false, false, false, false, false, false, false] rfl rfl (by kernel_rfl) (fun _ _ _ h => h) (Or.inl ⟨by rfl, ?_⟩) ?_ ?_
    rotate_left
    · intro w'
      go_simp
      with_reducible rfl
    rotate_left
    · simp only [Act.put, List.setIfInBounds_toArray, List.set_cons_zero, List.set_cons_succ, i64_w, i32_w]
      rfl
    refine pure_ (i := 4) (N := some 17) (v := ?_) (a' := ?_) #[true, true, true, false, true, false, false, false, false, false, false] rfl rfl (by kernel_rfl) (fun _ _ _ h => h) (Or.inl ⟨by rfl, ?_⟩) ?_ ?_
    rotate_left
    · intro w'
      go_simp
      with_reducible rfl
    rotate_left
    · simp only [Act.put, List.setIfInBounds_toArray, List.set_cons_zero, List.set_cons_succ, i64_w, i32_w]
      rfl
    refine pure_ (i := 6) (N := some 19) (v := ?_) (a' := ?_) #[true, true, true, false, true, false, true, false, false, false, false] rfl rfl (by kernel_rfl) (fun _ _ _ h => h) (Or.inl ⟨by rfl, ?_⟩) ?_ ?_
    rotate_left
    · intro w'
      go_simp
      with_reducible rfl
    rotate_left
    · simp only [Act.put, List.setIfInBounds_toArray, List.set_cons_zero, List.set_cons_succ, i64_w, i32_w]
      rfl
    refine take_ (i := 3) (N := some 16) (v := ?_) (a' := ?_) #[true, true, true, true, true, false, true, false, false, false, false] rfl rfl (by kernel_rfl) (fun _ _ _ h => h) (Or.inl ⟨by rfl, ?_⟩) hHeld ?_ ?_
    rotate_left
    · rintro w' ⟨s0, s1, s2⟩
      go_simp
      with_reducible rfl
    rotate_left
    · simp only [Act.put, List.setIfInBounds_toArray, List.set_cons_zero, List.set_cons_succ, i64_w, i32_w]
      rfl
    refine take_ (i := 5) (N := some 18) (v := ?_) (a' := ?_) #[true, true, true, true, true, true, true, false, false, false, false] rfl rfl (by kernel_rfl) (fun _ _ _ h => h) (Or.inl ⟨by rfl, ?_⟩) hHeld ?_ ?_
    rotate_left
    · rintro w' ⟨s0, s1, s2⟩
      go_simp
      with_reducible rfl
    rotate_left
    · simp only [Act.put, List.setIfInBounds_toArray, List.set_cons_zero, List.set_cons_succ, i64_w, i32_w]
      rfl
    refine take_ (i := 7) (N := some 20) (v := ?_) (a' := ?_) #[true, true, true, true, true, true, true, true, false, false, false] rfl rfl (by kernel_rfl) (fun _ _ _ h => h) (Or.inl ⟨by rfl, ?_⟩) hHeld ?_ ?_
    rotate_left
    · rintro w' ⟨s0, s1, s2⟩
      refine load_run_at 37 (.tmp 19) ?_ ⟨g5, 1, none⟩ ?_ b.cs _ (row_bk s2) rbk_und rfl (by rw [b.len]; exact rbk_info) <;> rfl
    rotate_left
    · simp only [Act.put, List.setIfInBounds_toArray, List.set_cons_zero, List.set_cons_succ, i64_w, i32_w]
      rfl
    refine pure_ (i := 8) (N := some 21) (v := ?_) (a' := ?_) #[true, true, true, true, true, true, true, true, true, false, false] rfl rfl (by kernel_rfl) (fun _ _ _ h => h) (Or.inl ⟨by rfl, ?_⟩) ?_ ?_
    rotate_left
    · intro w'
      refine build_run 69 #[(0, .tmp 20)] #[(0, b.v)] ?_ ?_ ?_ <;> first | rw [run_rh] | rfl | (simp only [List.map_toArray, List.map_cons, List.map_nil]; rfl)
    rotate_left
    · simp only [Act.put, List.setIfInBounds_toArray, List.set_cons_zero, List.set_cons_succ, i64_w, i32_w]
      rfl
    refine pure_ (i := 9) (N := some 22) (v := ?_) (a' := ?_) #[true, true, true, true, true, true, true, true, true, true, false] rfl rfl (by kernel_rfl) (fun _ _ _ h => h) (Or.inl ⟨by rfl, ?_⟩) ?_ ?_
    rotate_left
    · intro w'
      go_simp
      with_reducible rfl
    rotate_left
    · simp only [Act.put, List.setIfInBounds_toArray, List.set_cons_zero, List.set_cons_succ, i64_w, i32_w]
      rfl
    refine last_ (i := 10) (N := none) #[true, true, true, true, true, true, true, true, true, true, true] rfl rfl (by kernel_rfl) (by decide) (fun K hK => ?_)
    refine skip_ (w1 := w3.setRow gl (hcells (Li.set q (b, false)))) (by rfl) rfl (held_store 69 _ _ rfl rfl rfl SS.out.hl hq rh_isize (hrow_all _)) ?_
    refine hK.out _ _ ?_
    clear hK K
    refine done_ (by kernel_rfl) ?_
    go_wp2_with fail
    go_roundw
    case rel => exact ⟨i + 1, by omega, by go_num, ⟨by rw [hstep.out, put1, if_pos rfl, Int.toNat_natCast]; exact SS.out.set q (b, false)⟩, ⟨MV.out.trans (Mv.row _ gl (Or.inr (Or.inl rfl)) _)⟩⟩
    case measure => simp [intOf]; omega
set_option maxHeartbeats 8000000 in
set_option maxRecDepth 100000 in
theorem r_Crash (h : RA B w p gl v L W) {A0 : Option Addr} {c0 : Nat} {l : List Int} (hC : Kd.C (Kd.int .u8) w A0 l.length l) (hA0 : 0 < l.length → ∀ ad, A0 = some ad → ¬ rfoot p gl v ad.block) : Calls Try.prog 16 #[.pointer (some ⟨p, 0, none⟩), .slice A0 l.length c0] w fun e w' => e = .returned (.tuple #[]) ∧ RA B w' p gl (.slice none 0 0) (setl (fateOf l) 0 W L) [] ∧ Mv (rfoot p gl v) (rfoot p gl (.slice none 0 0)) w w' := by
  obtain ⟨A, c, hv, hc0, _⟩ := Kd.R_reads h.hw
  rw [List.length_map] at hv hc0
  subst hv
  have hcv : w.cell? ⟨p, 1, none⟩ = some (.slice A W.length c) := (blk_cell h.hp 1).trans rfl
  have hW := h.hW.1
  replace h := Aside0.mk h
  replace hC := Aside0.mk hC
  replace hA0 := Aside0.mk hA0
  have hzz := fun W => rwl_zero W
  go_enter Try.func16, Try.ntmps16
  go_wp2_with fail
  go_loopw [12] (fun u wr => ∃ i : Nat, i ≤ W.length ∧ u = .int .i64 i ∧ Aside0 (RA B wr p gl (.slice A W.length c) (setl (fateOf l) 0 (W.take i) L) W) ∧ Aside0 (Mv (rfoot p gl (.slice A W.length c)) (rfoot p gl (.slice A W.length c)) w wr)) (fun u _ => ((W.length : Int) - intOf u).toNat)
  case atStart => exact ⟨0, Nat.zero_le _, rfl, ⟨h.out⟩, ⟨Mv.refl _ _⟩⟩
  case round =>
    obtain ⟨i, hi, rfl, HS, HM⟩ := hrel
    by_cases hlt : i < W.length
    case neg =>
      obtain rfl : i = W.length := by omega
      rw [List.take_length] at HS
      have kf := blk_frozen HS.out.hp 1
      have kc := (blk_cell HS.out.hp 1).trans rfl
      go_wp2_with fail
      go_end0
      exact ⟨rfl, HS.out.emptied, (HM.out.trans (Mv.cell _ _ (Or.inl rfl) _)).weaken (fun _ h => h) (fun k hk => .inl (rfoot_none hk))⟩
    obtain ⟨ad, hA, hcell⟩ := row_get HS.out.hw i hlt
    have hLi : (setl (fateOf l) 0 (W.take i) L).length = L.length := setl_len _ _ _ _
    obtain ⟨q, b, hx, hq⟩ : ∃ (q : Nat) (b : Bk), W[i] = ((q : Int), b) ∧ q < (setl (fateOf l) 0 (W.take i) L).length := by
      have := HS.out.hW.2 _ (List.getElem_mem hlt)
      exact ⟨W[i].1.toNat, W[i].2, Prod.ext (by simp; omega) rfl, by omega⟩
    have hstep := setl_step (fateOf l) W L i hlt
    rw [hx] at hcell hstep
    replace hstep := Aside0.mk hstep
    replace hcell := Aside0.mk hcell
    replace hx := Aside0.mk hx
    generalize setl (fateOf l) 0 (W.take i) L = Li at HS hLi hq hstep
    have hq2 : q < L.length := by omega
    subst hA
    go_wp2_with (first | ((with_reducible refine gate_dst (N := 16) rfl ?_); refine wpl_value rfl (load_run_at 67 (.tmp 15) rfl (ad.add (i * 65)) rfl (wrow ((q : Int), b)) _ hcell.out Try.underlying67 rfl (by rw [wrow_len]; exact rw_isize)) ?_) | ((with_reducible refine gate_store (t := 67) (p := 5) (v := .tmp 16) rfl ?_); refine Shut.out ?_))
    unfold Shut
    obtain ⟨hnb, hnk⟩ := newbk wr (wrow (0, Bk.z)).toArray (wrow ((q : Int), b)).toArray 67
    refine store_rowTo rfl 67 (.tmp 5) (.tmp 16) rfl rfl wr.heap.size (wrow ((q : Int), b)).toArray rfl rfl 67 _ (blk_new wr _) (by rw [wrow_size]; exact rw_isize) (by rw [wrow_size, wrow_size]) (wrow_all _) ?_
    have SS := Aside0.mk (HS.out.below hnb)
    have MV := Aside0.mk (HM.out.trans (Mv.of_below hnb))
    have BK5 := Aside0.mk hnk
    clear HS HM hnb hnk hcell
    generalize (wr.alloc (.cells (wrow (0, Bk.z)).toArray 67)).setRow wr.heap.size (wrow ((q : Int), b)).toArray = w2 at SS MV BK5 ⊢
    generalize wr.heap.size = g5 at BK5 ⊢
    have CC := Aside0.mk (C_mv hC.out MV.out hA0.out)
    obtain ⟨f, hf⟩ : ∃ f, f = fateOf l i := ⟨_, rfl⟩
    rw [← hf] at hstep
    have hfu : f = if i < l.length then (l.getD i 0).tmod 3 else 0 := by rw [hf, fateOf]
    replace hf := Aside0.mk hf
    by_cases hil : i < l.length
    case pos =>
      rw [if_pos hil] at hfu
      obtain ⟨a0, rfl, hx0⟩ := Kd.at_int CC.out (i : Int) (by omega) (by omega)
      rw [Int.toNat_natCast] at hx0
      have hrd : YtpfkjjaohmdnjaaW.PrintWords.rd l (i : Int) = l.getD i 0 := rfl
      rw [hrd] at hx0
      generalize l.getD i 0 = x at hfu hx0
      by_cases h1 : f = 1
      case pos =>
        subst hfu
        have hb1 : (x.tmod 3 == 1) = true := by simpa using h1
        have hxe : x.tmod 3 = 1 := h1
        go_wp2_with fail
        have n_MV := Aside0.mk (MV.out.trans (Mv.of_below (below_drew (Below.refl _ _))))
        have n_SS := Aside0.mk (SS.out.below (below_drew (Below.refl _ _)))
        have n_BK5 := Aside0.mk (blk_below BK5.out (below_drew (Below.refl _ _)))
        clear MV
        have MV := n_MV
        clear n_MV
        clear SS
        have SS := n_SS
        clear n_SS
        clear BK5
        have BK5 := n_BK5
        clear n_BK5
        refine start_ (n := 11) (S := fun w' => w'.cell? ⟨p, 0, none⟩ = some (.slice (some ⟨gl, 0, none⟩) Li.length Li.length) ∧ w'.cell? ⟨g5, 0, none⟩ = some (.int .i64 (q : Int)) ∧ w'.heap[g5]? = some (.cells (wrow ((q : Int), b)).toArray 67 (0, 0))) (ds := [10]) #[false, false, false, false, false, false, false, false, false, false, false] (by kernel_rfl) rfl rfl ⟨(blk_cell SS.out.hp 0).trans rfl, (blk_cell BK5.out 0).trans rfl, BK5.out⟩ (fun hHeld => ?_)
        generalize w2.drew = w3 at MV SS BK5 hHeld ⊢
        refine pure_ (i := 0) (N := some 29) (v := ?_) (a' := ?_) #[true, false, false, false, false, false, false, false, false, false, false] rfl rfl (by kernel_rfl) (fun _ _ _ h => h) (Or.inl ⟨by rfl, ?_⟩) ?_ ?_
        rotate_left
        · intro w'
          go_simp
          with_reducible rfl
        rotate_left
        · simp only [Act.put, List.setIfInBounds_toArray, List.set_cons_zero, List.set_cons_succ, i64_w, i32_w]
          rfl
        refine pure_ (i := 1) (N := some 30) (v := ?_) (a' := ?_) #[true, true, false, false, false, false, false, false, false, false, false] rfl rfl (by kernel_rfl) (fun _ _ _ h => h) (Or.inl ⟨by rfl, ?_⟩) ?_ ?_
        rotate_left
        · intro w'
          go_simp
          with_reducible rfl
        rotate_left
        · simp only [Act.put, List.setIfInBounds_toArray, List.set_cons_zero, List.set_cons_succ, i64_w, i32_w]
          rfl
        refine pure_ (i := 2) (N := some 31) (v := ?_) (a' := ?_) #[true, true, true, false, false, false, false, false, false, false, false] rfl rfl (by kernel_rfl) (fun _ _ _ h => h) (Or.inl ⟨by rfl, ?_⟩) ?_ ?_
        rotate_left
        · intro w'
          go_simp
          with_reducible rfl
        rotate_left
        · simp only [Act.put, List.setIfInBounds_toArray, List.set_cons_zero, List.set_cons_succ, i64_w, i32_w]
          rfl
        refine pure_ (i := 4) (N := some 33) (v := ?_) (a' := ?_) #[true, true, true, false, true, false, false, false, false, false, false] rfl rfl (by kernel_rfl) (fun _ _ _ h => h) (Or.inl ⟨by rfl, ?_⟩) ?_ ?_
        rotate_left
        · intro w'
          go_simp
          with_reducible rfl
        rotate_left
        · simp only [Act.put, List.setIfInBounds_toArray, List.set_cons_zero, List.set_cons_succ, i64_w, i32_w]
          rfl
        refine pure_ (i := 6) (N := some 35) (v := ?_) (a' := ?_) #[true, true, true, false, true, false, true, false, false, false, false] rfl rfl (by kernel_rfl) (fun _ _ _ h => h) (Or.inl ⟨by rfl, ?_⟩) ?_ ?_
        rotate_left
        · intro w'
          go_simp
          with_reducible rfl
        rotate_left
        · simp only [Act.put, List.setIfInBounds_toArray, List.set_cons_zero, List.set_cons_succ, i64_w, i32_w]
          rfl
        refine take_ (i := 3) (N := some 32) (v := ?_) (a' := ?_) #[true, true, true, true, true, false, true, false, false, false, false] rfl rfl (by kernel_rfl) (fun _ _ _ h => h) (Or.inl ⟨by rfl, ?_⟩) hHeld ?_ ?_
        rotate_left
        · rintro w' ⟨s0, s1, s2⟩
          go_simp
          with_reducible rfl
        rotate_left
        · simp only [Act.put, List.setIfInBounds_toArray, List.set_cons_zero, List.set_cons_succ, i64_w, i32_w]
          rfl
        refine take_ (i := 5) (N := some 34) (v := ?_) (a' := ?_) #[true, true, true, true, true, true, true, false, false, false, false] rfl rfl (by kernel_rfl) (fun _ _ _ h => h) (Or.inl ⟨by rfl, ?_⟩) hHeld ?_ ?_
        rotate_left
        · rintro w' ⟨s0, s1, s2⟩
          go_simp
          with_reducible rfl
        rotate_left
        · simp only [Act.put, List.setIfInBounds_toArray, List.set_cons_zero, List.set_cons_succ, i64_w, i32_w]
          rfl
        refine take_ (i := 7) (N := some 36) (v := ?_) (a' := ?_) #[true, true, true, true, true, true, true, true, false, false, false] rfl rfl (by kernel_rfl) (fun _ _ _ h => h) (Or.inl ⟨by rfl, ?_⟩) hHeld ?_ ?_
        rotate_left
        · rintro w' ⟨s0, s1, s2⟩
          refine load_run_at 37 (.tmp 35) ?_ ⟨g5, 1, none⟩ ?_ b.cs _ (row_bk s2) rbk_und rfl (by rw [b.len]; exact rbk_info) <;> rfl
        rotate_left
        · simp only [Act.put, List.setIfInBounds_toArray, List.set_cons_zero, List.set_cons_succ, i64_w, i32_w]
          rfl
        refine pure_ (i := 8) (N := some 37) (v := ?_) (a' := ?_) #[true, true, true, true, true, true, true, true, true, false, false] rfl rfl (by kernel_rfl) (fun _ _ _ h => h) (Or.inl ⟨by rfl, ?_⟩) ?_ ?_
        rotate_left
        · intro w'
          refine build_run 69 #[(0, .tmp 36)] #[(0, b.v)] ?_ ?_ ?_ <;> first | rw [run_rh] | rfl | (simp only [List.map_toArray, List.map_cons, List.map_nil]; rfl)
        rotate_left
        · simp only [Act.put, List.setIfInBounds_toArray, List.set_cons_zero, List.set_cons_succ, i64_w, i32_w]
          rfl
        refine pure_ (i := 9) (N := some 38) (v := ?_) (a' := ?_) #[true, true, true, true, true, true, true, true, true, true, false] rfl rfl (by kernel_rfl) (fun _ _ _ h => h) (Or.inl ⟨by rfl, ?_⟩) ?_ ?_
        rotate_left
        · intro w'
          go_simp
          with_reducible rfl
        rotate_left
        · simp only [Act.put, List.setIfInBounds_toArray, List.set_cons_zero, List.set_cons_succ, i64_w, i32_w]
          rfl
        refine last_ (i := 10) (N := none) #[true, true, true, true, true, true, true, true, true, true, true] rfl rfl (by kernel_rfl) (by decide) (fun K hK => ?_)
        refine skip_ (w1 := w3.setRow gl (hcells (Li.set q (b, false)))) (by rfl) rfl (held_store 69 _ _ rfl rfl rfl SS.out.hl hq rh_isize (hrow_all _)) ?_
        refine hK.out _ _ ?_
        clear hK K
        refine done_ (by kernel_rfl) ?_
        go_wp2_with fail
        go_roundw
        case rel => exact ⟨i + 1, by omega, by go_num, ⟨by rw [hstep.out, put1, if_pos hxe, Int.toNat_natCast]; exact SS.out.set q (b, false)⟩, ⟨MV.out.trans (Mv.row _ gl (Or.inr (Or.inl rfl)) _)⟩⟩
        case measure => simp [intOf]; omega
      by_cases h2 : f = 2
      case pos =>
        subst hfu
        have hb1 : (x.tmod 3 == 1) = false := by simpa using h1
        have hb2 : (x.tmod 3 == 2) = true := by simpa using h2
        have hxe : x.tmod 3 = 2 := h2
        go_wp2_with fail
        have n_MV := Aside0.mk (MV.out.trans (Mv.of_below (below_drew (Below.refl _ _))))
        have n_SS := Aside0.mk (SS.out.below (below_drew (Below.refl _ _)))
        have n_BK5 := Aside0.mk (blk_below BK5.out (below_drew (Below.refl _ _)))
        clear MV
        have MV := n_MV
        clear n_MV
        clear SS
        have SS := n_SS
        clear n_SS
        clear BK5
        have BK5 := n_BK5
        clear n_BK5
        refine start_ (n := 9) (S := fun w' => w'.cell? ⟨p, 0, none⟩ = some (.slice (some ⟨gl, 0, none⟩) Li.length Li.length) ∧ w'.cell? ⟨g5, 0, none⟩ = some (.int .i64 (q : Int)) ∧ w'.heap[g5]? = some (.cells (wrow ((q : Int), b)).toArray 67 (0, 0))) (ds := [8]) #[false, false, false, false, false, false, false, false, false] (by kernel_rfl) rfl rfl ⟨(blk_cell SS.out.hp 0).trans rfl, (blk_cell BK5.out 0).trans rfl, BK5.out⟩ (fun hHeld => ?_)
        generalize w2.drew = w3 at MV SS BK5 hHeld ⊢
        refine pure_ (i := 0) (N := some 41) (v := ?_) (a' := ?_) #[true, false, false, false, false, false, false, false, false] rfl rfl (by kernel_rfl) (fun _ _ _ h => h) (Or.inl ⟨by rfl, ?_⟩) ?_ ?_
        rotate_left
        · intro w'
          go_simp
          with_reducible rfl
        rotate_left
        · simp only [Act.put, List.setIfInBounds_toArray, List.set_cons_zero, List.set_cons_succ, i64_w, i32_w]
          rfl
        refine pure_ (i := 1) (N := some 42) (v := ?_) (a' := ?_) #[true, true, false, false, false, false, false, false, false] rfl rfl (by kernel_rfl) (fun _ _ _ h => h) (Or.inl ⟨by rfl, ?_⟩) ?_ ?_
        rotate_left
        · intro w'
          go_simp
          with_reducible rfl
        rotate_left
        · simp only [Act.put, List.setIfInBounds_toArray, List.set_cons_zero, List.set_cons_succ, i64_w, i32_w]
          rfl
        refine pure_ (i := 2) (N := some 43) (v := ?_) (a' := ?_) #[true, true, true, false, false, false, false, false, false] rfl rfl (by kernel_rfl) (fun _ _ _ h => h) (Or.inl ⟨by rfl, ?_⟩) ?_ ?_
        rotate_left
        · intro w'
          go_simp
          with_reducible rfl
        rotate_left
        · simp only [Act.put, List.setIfInBounds_toArray, List.set_cons_zero, List.set_cons_succ, i64_w, i32_w]
          rfl
        refine pure_ (i := 4) (N := some 45) (v := ?_) (a' := ?_) #[true, true, true, false, true, false, false, false, false] rfl rfl (by kernel_rfl) (fun _ _ _ h => h) (Or.inl ⟨by rfl, ?_⟩) ?_ ?_
        rotate_left
        · intro w'
          go_simp
          with_reducible rfl
        rotate_left
        · simp only [Act.put, List.setIfInBounds_toArray, List.set_cons_zero, List.set_cons_succ, i64_w, i32_w]
          rfl
        refine pure_ (i := 6) (N := some 47) (v := ?_) (a' := ?_) #[true, true, true, false, true, false, true, false, false] rfl rfl (by kernel_rfl) (fun _ _ _ h => h) (Or.inl ⟨by rfl, ?_⟩) ?_ ?_
        rotate_left
        · intro w'
          refine build_run 69 #[(1, .const (.bool true))] #[(1, .bool true)] ?_ ?_ ?_ <;> first | rw [run_rht] | rfl | (simp only [List.map_toArray, List.map_cons, List.map_nil]; rfl)
        rotate_left
        · simp only [Act.put, List.setIfInBounds_toArray, List.set_cons_zero, List.set_cons_succ, i64_w, i32_w]
          rfl
        refine take_ (i := 3) (N := some 44) (v := ?_) (a' := ?_) #[true, true, true, true, true, false, true, false, false] rfl rfl (by kernel_rfl) (fun _ _ _ h => h) (Or.inl ⟨by rfl, ?_⟩) hHeld ?_ ?_
        rotate_left
        · rintro w' ⟨s0, s1, s2⟩
          go_simp
          with_reducible rfl
        rotate_left
        · simp only [Act.put, List.setIfInBounds_toArray, List.set_cons_zero, List.set_cons_succ, i64_w, i32_w]
          rfl
        refine take_ (i := 5) (N := some 46) (v := ?_) (a' := ?_) #[true, true, true, true, true, true, true, false, false] rfl rfl (by kernel_rfl) (fun _ _ _ h => h) (Or.inl ⟨by rfl, ?_⟩) hHeld ?_ ?_
        rotate_left
        · rintro w' ⟨s0, s1, s2⟩
          go_simp
          with_reducible rfl
        rotate_left
        · simp only [Act.put, List.setIfInBounds_toArray, List.set_cons_zero, List.set_cons_succ, i64_w, i32_w]
          rfl
        refine pure_ (i := 7) (N := some 48) (v := ?_) (a' := ?_) #[true, true, true, true, true, true, true, true, false] rfl rfl (by kernel_rfl) (fun _ _ _ h => h) (Or.inl ⟨by rfl, ?_⟩) ?_ ?_
        rotate_left
        · intro w'
          go_simp
          with_reducible rfl
        rotate_left
        · simp only [Act.put, List.setIfInBounds_toArray, List.set_cons_zero, List.set_cons_succ, i64_w, i32_w]
          rfl
        refine last_ (i := 8) (N := none) #[true, true, true, true, true, true, true, true, true] rfl rfl (by kernel_rfl) (by decide) (fun K hK => ?_)
        refine skip_ (w1 := w3.setRow gl (hcells (Li.set q (Bk.z, true)))) (by rfl) rfl (held_store 69 _ _ rfl rfl rfl SS.out.hl hq rh_isize (hrow_all _)) ?_
        refine hK.out _ _ ?_
        clear hK K
        refine done_ (by kernel_rfl) ?_
        go_wp2_with fail
        go_roundw
        case rel => exact ⟨i + 1, by omega, by go_num, ⟨by rw [hstep.out, put1, if_neg h1, if_pos hxe, Int.toNat_natCast]; exact SS.out.set q (Bk.z, true)⟩, ⟨MV.out.trans (Mv.row _ gl (Or.inr (Or.inl rfl)) _)⟩⟩
        case measure => simp [intOf]; omega
      subst hfu
      have hb1 : (x.tmod 3 == 1) = false := by simpa using h1
      have hb2 : (x.tmod 3 == 2) = false := by simpa using h2
      go_wp2_with fail
      go_roundw
      case rel => exact ⟨i + 1, by omega, by go_num, ⟨by rw [hstep.out, put1, if_neg h1, if_neg h2]; exact SS.out⟩, MV⟩
      case measure => simp [intOf]; omega
    rw [if_neg hil] at hfu
    by_cases h1 : f = 1
    case pos =>
      exfalso; omega
    by_cases h2 : f = 2
    case pos =>
      exfalso; omega
    subst hfu
    go_wp2_with fail
    go_roundw
    case rel => exact ⟨i + 1, by omega, by go_num, ⟨by rw [hstep.out, put1, if_neg (by decide), if_neg (by decide)]; exact SS.out⟩, MV⟩
    case measure => simp [intOf]; omega
end
end Go.Proofs.Ytpfkjjaohmdnjaa.Print
