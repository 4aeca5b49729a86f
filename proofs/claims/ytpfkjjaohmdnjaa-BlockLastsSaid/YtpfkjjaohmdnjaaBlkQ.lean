/- The document's examples hold of the program's store. -/
import Derived.Test.YtpfkjjaohmdnjaaProg
import Derived.Below
import Derived.Deep.Draws
import Derived.Deep.AppendLies
import Derived.Maps.AppendAt
import Derived.OwnWalk
import Derived.Laws.BytesArg
import Derived.Laws.MakeOwn
import Derived.Laws.OwnMore
import Derived.Deep.OwnRows
import Derived.Tactics
import Derived.Lib.ConvBytes
import Derived.Laws.Slices
import Derived.WalkKit
import Derived.KernelRfl
import Derived.RowKit3
import Derived.Deep.LoopGhost
import Derived.Deep.QuietTactic
import Derived.BigQuiet
import Derived.WideLaws
import Derived.Deep.DeepCutAuto
import Derived.Deep.CutBlock
import Derived.Deep.RegionHeld3
import Derived.Laws.Rows
import Derived.Lib.AppendStr
import Derived.ArgAppend
import Derived.Laws.IdiomCopy
import Derived.OrdersHeld
import Derived.Laws.BitsLemmas
import Derived.RowKit
import Derived.LoopN
import Derived.Handy
import Derived.Laws.EntriesVeiled
import Derived.MapKept
import Derived.Laws.Externs
import Derived.ChangeKeysEq
import Derived.Deep.WholeRow
import Derived.Test.YtpfkjjaohmdnjaaWWords
import Derived.Test.YtpfkjjaohmdnjaaWLast
import Derived.Test.YtpfkjjaohmdnjaaWTab
import Derived.Test.YtpfkjjaohmdnjaaWFour
import Derived.Test.YtpfkjjaohmdnjaaWQPut
import Derived.Test.YtpfkjjaohmdnjaaWApart
import Derived.Test.YtpfkjjaohmdnjaaWArr
import Derived.Test.YtpfkjjaohmdnjaaWZeros
import Derived.Test.YtpfkjjaohmdnjaaWFoot
import Derived.Test.YtpfkjjaohmdnjaaWKept
import Derived.Test.YtpfkjjaohmdnjaaWShare
import Derived.Test.YtpfkjjaohmdnjaaWN
import Derived.Test.YtpfkjjaohmdnjaaWFootNe
import Derived.Test.YtpfkjjaohmdnjaaWAt
import Derived.Test.YtpfkjjaohmdnjaaWEqStruct
import Derived.Test.YtpfkjjaohmdnjaaWRepsOne
import Derived.Test.YtpfkjjaohmdnjaaWInv
import Derived.Test.YtpfkjjaohmdnjaaWInvWords
import Derived.Test.YtpfkjjaohmdnjaaWGuard
import Derived.Test.YtpfkjjaohmdnjaaWNEv
import Derived.Test.YtpfkjjaohmdnjaaWMore
import Derived.Test.YtpfkjjaohmdnjaaBlkA
import Derived.Test.YtpfkjjaohmdnjaaBlkB
import Derived.Test.YtpfkjjaohmdnjaaBlkC
import Derived.Test.YtpfkjjaohmdnjaaBlkD
import Derived.Test.YtpfkjjaohmdnjaaBlkE
import Derived.Test.YtpfkjjaohmdnjaaBlkJ
import Derived.Test.YtpfkjjaohmdnjaaBlkO
namespace Go.Proofs.Ytpfkjjaohmdnjaa.Print
open Go.RowKit Go.Proofs.YtpfkjjaohmdnjaaW.PrintWords Go.Proofs.YtpfkjjaohmdnjaaW.PrintLast Go.Proofs.YtpfkjjaohmdnjaaW.PrintMore
attribute [local go_sem] max2_int min2_int max_two min_two max_three min_three max_four min_four
set_option linter.unusedVariables false
set_option linter.unusedSimpArgs false
section
theorem bk7 (W : World) : (Instr.build 45 #[(0, .int .u8 7)]).run Try.prog W = .ok (.agg (ofB [7]).cs.toArray) W := by kernel_rfl
theorem al_i0 (W : World) : (Instr.index 58 (.agg #[.int .u8 0, .int .u8 7, .int .u8 0]) (.int .u8 0)).run Try.prog W = .ok (.int .u8 0) W := by kernel_rfl
theorem al_i1 (W : World) : (Instr.index 58 (.agg #[.int .u8 0, .int .u8 7, .int .u8 0]) (.int .u8 1)).run Try.prog W = .ok (.int .u8 7) W := by kernel_rfl
theorem al_i2 (W : World) : (Instr.index 58 (.agg #[.int .u8 0, .int .u8 7, .int .u8 0]) (.int .u8 2)).run Try.prog W = .ok (.int .u8 0) W := by kernel_rfl
theorem al_wc : wrc (zeros 4) [] 2 = 0 := by kernel_rfl
theorem al_ww : wrW (zeros 4) [] 2 (ofB [7]) = [(2, ofB [7])] := by kernel_rfl
theorem al_r0 : rd (setl (fateOf [0]) 0 [(2, ofB [7])] (zeros 4)) [] 2 = (Bk.z, 0) := by kernel_rfl
theorem al_r1 : rd (setl (fateOf [1]) 0 [(2, ofB [7])] (zeros 4)) [] 2 = (ofB [7], 0) := by kernel_rfl
theorem al_r2 : rd (setl (fateOf [2]) 0 [(2, ofB [7])] (zeros 4)) [] 2 = (Bk.z, 7) := by kernel_rfl
theorem one_C {w : World} {g : Nat} {fr : Nat × Nat} {x : Int} {e : Nat} (h : w.heap[g]? = some (.cells #[.int .u8 x] e fr)) : Kd.C (Kd.int .u8) w (some ⟨g, 0, none⟩) ([x] : List Int).length [x] := by
  refine ⟨rfl, by simp, fun _ => ⟨⟨g, 0, none⟩, rfl, fun j p hj => ?_⟩⟩
  obtain ⟨rfl, rfl⟩ : j = 0 ∧ x = p := by
    cases j with
    | zero => exact ⟨rfl, by simpa using hj⟩
    | succ j => simp at hj
  refine ⟨[.int .u8 x], rfl, rfl, fun i u hi => ?_⟩
  have hadd : (⟨g, 0, none⟩ : Addr).add (0 * (Kd.int .u8).sz + i) = ⟨g, i, none⟩ := by
    rw [Nat.zero_mul, Nat.zero_add]; unfold Addr.add; split <;> simp_all
  rw [hadd, cell_of_row w g i _ e fr h]
  simpa using hi
variable {w : World}
theorem n_New : Calls Try.prog 10 #[.int .i64 4] w fun e w' => ∃ p, e = .returned (.tuple #[.pointer (some ⟨p, 0, none⟩), .int .i64 0]) ∧ ∃ gl gm v, SA w.heap.size w' p gl gm v (zeros 4) [] ∧ Mv (fun _ => False) (foot p gl gm v) w w' := by
  refine (b_New 4 (by omega)).mono ?_
  rintro e w' ⟨p, rfl, F, ⟨gl, gm, v, h, rfl⟩, hm⟩
  exact ⟨p, rfl, gl, gm, v, h, hm⟩
theorem n_Size {B p gl gm : Nat} {v : Value} {W : List (Int × Bk)} (h : SA B w p gl gm v (zeros 4) W) : Calls Try.prog 18 #[.pointer (some ⟨p, 0, none⟩)] w fun e w' => e = .returned (.int .i64 4) ∧ Below w.heap.size w w' := b_Size h
theorem n_Write {B p gl gm : Nat} {v : Value} (h : SA B w p gl gm v (zeros 4) []) (hB : B ≤ w.heap.size) : Calls Try.prog 23 #[.pointer (some ⟨p, 0, none⟩), .int .i64 2, .agg (ofB [7]).cs.toArray] w fun e w' => e = .returned (.int .i64 0) ∧ ∃ v', SA B w' p gl gm v' (zeros 4) [(2, ofB [7])] ∧ Mv (foot p gl gm v) (foot p gl gm v') w w' := by
  have := b_Write h hB 2 (ofB [7])
  rw [al_wc, al_ww] at this
  exact this
theorem n_Crash {B p gl gm : Nat} {v : Value} (h : SA B w p gl gm v (zeros 4) [(2, ofB [7])]) (x : Int) : Calls Try.prog 22 #[.pointer (some ⟨p, 0, none⟩), .slice (some ⟨w.heap.size, 0, none⟩) 1 1] (w.alloc (.cells #[.int .u8 x] 5)) fun e w' => e = .returned (.int .i64 0) ∧ SA B w' p gl gm (.slice none 0 0) (setl (fateOf [x]) 0 [(2, ofB [7])] (zeros 4)) [] ∧ Mv (foot p gl gm v) (foot p gl gm (.slice none 0 0)) (w.alloc (.cells #[.int .u8 x] 5)) w' := by
  have hk := blk_new w (.cells #[.int .u8 x] 5)
  have hs := h.below (below_alloc (Below.refl w.heap.size w) (.cells #[.int .u8 x] 5))
  exact b_Crash (l := [x]) hs (one_C hk) (fun _ ad e => by cases e; exact hs.far hk (by decide))
theorem n_Read {B p gl gm : Nat} {v : Value} {L : List (Bk × Bool)} {W : List (Int × Bk)} {b : Bk} {c : Int} (h : SA B w p gl gm v L W) (e0 : rd L W 2 = (b, c)) : Calls Try.prog 19 #[.pointer (some ⟨p, 0, none⟩), .int .i64 2] w fun e w' => e = .returned (.tuple #[.agg b.cs.toArray, .int .i64 c]) ∧ Below w.heap.size w w' := by
  have := b_Read h 2
  rw [e0] at this
  exact this
set_option maxHeartbeats 16000000 in
set_option maxRecDepth 100000 in
theorem b_alive : Calls Try.prog 8 #[] w fun e w' => e = .returned (.bool true) ∧ Below w.heap.size w w' := by
  have hi0 := fun W => al_i0 W
  have hi1 := fun W => al_i1 W
  have hi2 := fun W => al_i2 W
  go_enter Try.func8, Try.ntmps8
  go_wp2_with fail
  refine n_New.mono ?_
  rintro e w1 ⟨p, rfl, gl, gm, v, hs, hm⟩
  have HB := Aside0.mk (hm.below (Below.refl _ _) (Nat.le_refl _) (fun _ h => h.elim))
  have HS := Aside0.mk hs
  clear hs hm
  go_wp2_with fail
  with_reducible refine (n_Size HS.out).mono ?_
  rintro e w2 ⟨rfl, hb⟩
  have HB' := Aside0.mk (below_step HB.out hb)
  clear hb HB HS w1 gl gm v
  have HB := HB'
  clear HB'
  go_wp2_with fail
  refine wp_loop_rounds 4 ?_
  rw [rounds_succ]
  go_wp2_with fail
  refine n_New.mono ?_
  rintro e a01 ⟨p0, rfl, gl, gm, v, hs, hm⟩
  have HB' := Aside0.mk (below_step HB.out (hm.below (Below.refl _ _) (Nat.le_refl _) (fun _ h => h.elim)))
  have HS := Aside0.mk hs
  have BM := hm.size
  have BW := HB.out.size
  clear hs hm HB
  go_wp2_with fail
  refine (n_Write HS.out BM).mono ?_
  rintro e a02 ⟨rfl, v2, hs, hm⟩
  have HB := Aside0.mk (hm.below HB'.out (show w.heap.size ≤ _ from HB'.out.size) (fun k hk => Nat.le_trans (by omega) (HS.out.base hk)))
  have HS2 := Aside0.mk hs
  clear hs hm HB' HS
  go_wp2_with fail
  refine (n_Crash HS2.out 0).mono ?_
  rintro e a03 ⟨rfl, hs, hm⟩
  have HB' := Aside0.mk (hm.below (below_alloc HB.out _) (show w.heap.size ≤ _ from Nat.le_trans HB.out.size (by simp)) (fun k hk => Nat.le_trans (by omega) (HS2.out.base hk)))
  have HS := Aside0.mk hs
  clear hs hm HB HS2
  go_wp2_with fail
  refine (n_Read HS.out al_r0).mono ?_
  rintro e a04 ⟨rfl, hb⟩
  have HB := Aside0.mk (below_step HB'.out hb)
  clear hb HB' HS BM
  go_wp2_with ((with_reducible refine gate_store (t := 45) (p := 8) (v := .tmp 46) rfl ?_); refine Shut.out ?_)
  unfold Shut
  change wpList _ _ _ _ _ (a04.alloc (.cells Bk.z.cs.toArray 45))
  obtain ⟨hnb, hnk⟩ := newbk a04 Bk.z.cs.toArray (Bk.z).cs.toArray 45
  refine wpl_stbk 45 _ _ a04.heap.size (Bk.z) 45 Bk.z rfl rfl rfl rfl rfl (blk_new a04 _) bk_info ?_
  have HB' := Aside0.mk (below_step HB.out hnb)
  clear HB hnb
  generalize (a04.alloc (.cells Bk.z.cs.toArray 45)).setRow a04.heap.size (Bk.z).cs.toArray = a05 at HB' hnk ⊢
  generalize a04.heap.size = g0 at hnk ⊢
  have HB := HB'
  have hc0 : a05.cell? ⟨g0, 0, none⟩ = some (.int .u8 0) := (blk_cell hnk 0).trans rfl
  clear HB' hnk BW
  go_wp2_with fail
  clear hc0
  rw [rounds_succ]
  go_wp2_with fail
  refine n_New.mono ?_
  rintro e a11 ⟨p1, rfl, gl, gm, v, hs, hm⟩
  have HB' := Aside0.mk (below_step HB.out (hm.below (Below.refl _ _) (Nat.le_refl _) (fun _ h => h.elim)))
  have HS := Aside0.mk hs
  have BM := hm.size
  have BW := HB.out.size
  clear hs hm HB
  go_wp2_with fail
  refine (n_Write HS.out BM).mono ?_
  rintro e a12 ⟨rfl, v2, hs, hm⟩
  have HB := Aside0.mk (hm.below HB'.out (show w.heap.size ≤ _ from HB'.out.size) (fun k hk => Nat.le_trans (by omega) (HS.out.base hk)))
  have HS2 := Aside0.mk hs
  clear hs hm HB' HS
  go_wp2_with fail
  refine (n_Crash HS2.out 1).mono ?_
  rintro e a13 ⟨rfl, hs, hm⟩
  have HB' := Aside0.mk (hm.below (below_alloc HB.out _) (show w.heap.size ≤ _ from Nat.le_trans HB.out.size (by simp)) (fun k hk => Nat.le_trans (by omega) (HS2.out.base hk)))
  have HS := Aside0.mk hs
  clear hs hm HB HS2
  go_wp2_with fail
  refine (n_Read HS.out al_r1).mono ?_
  rintro e a14 ⟨rfl, hb⟩
  have HB := Aside0.mk (below_step HB'.out hb)
  clear hb HB' HS BM
  go_wp2_with ((with_reducible refine gate_store (t := 45) (p := 8) (v := .tmp 46) rfl ?_); refine Shut.out ?_)
  unfold Shut
  change wpList _ _ _ _ _ (a14.alloc (.cells Bk.z.cs.toArray 45))
  obtain ⟨hnb, hnk⟩ := newbk a14 Bk.z.cs.toArray (ofB [7]).cs.toArray 45
  refine wpl_stbk 45 _ _ a14.heap.size (ofB [7]) 45 Bk.z rfl rfl rfl rfl rfl (blk_new a14 _) bk_info ?_
  have HB' := Aside0.mk (below_step HB.out hnb)
  clear HB hnb
  generalize (a14.alloc (.cells Bk.z.cs.toArray 45)).setRow a14.heap.size (ofB [7]).cs.toArray = a15 at HB' hnk ⊢
  generalize a14.heap.size = g1 at hnk ⊢
  have HB := HB'
  have hc1 : a15.cell? ⟨g1, 0, none⟩ = some (.int .u8 7) := (blk_cell hnk 0).trans rfl
  clear HB' hnk BW
  go_wp2_with fail
  clear hc1
  rw [rounds_succ]
  go_wp2_with fail
  refine n_New.mono ?_
  rintro e a21 ⟨p2, rfl, gl, gm, v, hs, hm⟩
  have HB' := Aside0.mk (below_step HB.out (hm.below (Below.refl _ _) (Nat.le_refl _) (fun _ h => h.elim)))
  have HS := Aside0.mk hs
  have BM := hm.size
  have BW := HB.out.size
  clear hs hm HB
  go_wp2_with fail
  refine (n_Write HS.out BM).mono ?_
  rintro e a22 ⟨rfl, v2, hs, hm⟩
  have HB := Aside0.mk (hm.below HB'.out (show w.heap.size ≤ _ from HB'.out.size) (fun k hk => Nat.le_trans (by omega) (HS.out.base hk)))
  have HS2 := Aside0.mk hs
  clear hs hm HB' HS
  go_wp2_with fail
  refine (n_Crash HS2.out 2).mono ?_
  rintro e a23 ⟨rfl, hs, hm⟩
  have HB' := Aside0.mk (hm.below (below_alloc HB.out _) (show w.heap.size ≤ _ from Nat.le_trans HB.out.size (by simp)) (fun k hk => Nat.le_trans (by omega) (HS2.out.base hk)))
  have HS := Aside0.mk hs
  clear hs hm HB HS2
  go_wp2_with fail
  refine (n_Read HS.out al_r2).mono ?_
  rintro e a24 ⟨rfl, hb⟩
  have HB := Aside0.mk (below_step HB'.out hb)
  clear hb HB' HS BM
  go_wp2_with ((with_reducible refine gate_store (t := 45) (p := 8) (v := .tmp 46) rfl ?_); refine Shut.out ?_)
  unfold Shut
  change wpList _ _ _ _ _ (a24.alloc (.cells Bk.z.cs.toArray 45))
  obtain ⟨hnb, hnk⟩ := newbk a24 Bk.z.cs.toArray (Bk.z).cs.toArray 45
  refine wpl_stbk 45 _ _ a24.heap.size (Bk.z) 45 Bk.z rfl rfl rfl rfl rfl (blk_new a24 _) bk_info ?_
  have HB' := Aside0.mk (below_step HB.out hnb)
  clear HB hnb
  generalize (a24.alloc (.cells Bk.z.cs.toArray 45)).setRow a24.heap.size (Bk.z).cs.toArray = a25 at HB' hnk ⊢
  generalize a24.heap.size = g2 at hnk ⊢
  have HB := HB'
  have hc2 : a25.cell? ⟨g2, 0, none⟩ = some (.int .u8 0) := (blk_cell hnk 0).trans rfl
  clear HB' hnk BW
  go_wp2_with fail
  clear hc2
  rw [rounds_succ]
  go_wp2_with fail
  with_reducible refine b_Sync_nil.mono ?_
  rintro e z1 ⟨rfl, hb⟩
  have HB' := Aside0.mk (below_step HB.out hb)
  clear hb HB
  go_wp2_with fail
  with_reducible refine b_Size_nil.mono ?_
  rintro e z2 ⟨rfl, hb⟩
  have HB := Aside0.mk (below_step HB'.out hb)
  clear hb HB'
  go_wp2_with fail
  go_ret
  exact ⟨rfl, HB.out⟩
end
end Go.Proofs.Ytpfkjjaohmdnjaa.Print
