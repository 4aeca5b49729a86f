/- What the store's Read answers. -/
import Derived.Test.YtniadlnbjgodnaaProg
import Derived.Below
import Derived.Deep.Draws
import Derived.Deep.AppendLies
import Derived.Maps.AppendAt
import Derived.OwnWalk
import Derived.Laws.BytesArg
import Derived.Laws.MakeOwn
import Derived.Laws.OwnMore
import Derived.Deep.OwnRows
import Derived.Tactics
import Derived.Lib.ConvBytes
import Derived.Laws.Slices
import Derived.WalkKit
import Derived.KernelRfl
import Derived.RowKit3
import Derived.Deep.LoopGhost
import Derived.Deep.QuietTactic
import Derived.BigQuiet
import Derived.WideLaws
import Derived.Deep.DeepCutAuto
import Derived.Deep.CutBlock
import Derived.Deep.RegionHeld3
import Derived.Laws.Rows
import Derived.Lib.AppendStr
import Derived.ArgAppend
import Derived.Laws.IdiomCopy
import Derived.OrdersHeld
import Derived.Laws.BitsLemmas
import Derived.RowKit
import Derived.LoopN
import Derived.Handy
import Derived.Laws.EntriesVeiled
import Derived.MapKept
import Derived.Laws.Externs
import Derived.ChangeKeysEq
import Derived.Deep.WholeRow
import Derived.Test.YtniadlnbjgodnaaWWords
import Derived.Test.YtniadlnbjgodnaaWLast
import Derived.Test.YtniadlnbjgodnaaWTab
import Derived.Test.YtniadlnbjgodnaaWFour
import Derived.Test.YtniadlnbjgodnaaWQPut
import Derived.Test.YtniadlnbjgodnaaWApart
import Derived.Test.YtniadlnbjgodnaaWArr
import Derived.Test.YtniadlnbjgodnaaWZeros
import Derived.Test.YtniadlnbjgodnaaWFoot
import Derived.Test.YtniadlnbjgodnaaWKept
import Derived.Test.YtniadlnbjgodnaaWShare
import Derived.Test.YtniadlnbjgodnaaWN
import Derived.Test.YtniadlnbjgodnaaWFootNe
import Derived.Test.YtniadlnbjgodnaaWAt
import Derived.Test.YtniadlnbjgodnaaWEqStruct
import Derived.Test.YtniadlnbjgodnaaWRepsOne
import Derived.Test.YtniadlnbjgodnaaWInv
import Derived.Test.YtniadlnbjgodnaaWInvWords
import Derived.Test.YtniadlnbjgodnaaWGuard
import Derived.Test.YtniadlnbjgodnaaWNEv
import Derived.Test.YtniadlnbjgodnaaWMore
import Derived.Test.YtniadlnbjgodnaaBlkA
import Derived.Test.YtniadlnbjgodnaaBlkB
namespace Go.Proofs.Ytniadlnbjgodnaa.Print
open Go.RowKit Go.Proofs.YtniadlnbjgodnaaW.PrintWords Go.Proofs.YtniadlnbjgodnaaW.PrintLast Go.Proofs.YtniadlnbjgodnaaW.PrintMore
attribute [local go_sem] max2_int min2_int max_two min_two max_three min_three max_four min_four
set_option linter.unusedVariables false
set_option linter.unusedSimpArgs false
section
variable {B : Nat} {w w' : World} {p gl gm : Nat} {v : Value} {L : List (Bk × Bool)} {W : List (Int × Bk)}
theorem rd_end {w0 y : World} {g : Nat} {tmps : Array Value} {b : Bk} {c : Int} (h : Below w0.heap.size w0 y) (hg : w0.heap.size ≤ g) (hk : y.heap[g]? = some (.cells b.cs.toArray 46 (0, 0))) (hp : tmps.getD 4 undef = .pointer (some ⟨g, 0, none⟩)) (hc : tmps.getD 5 undef = .int .i64 c) {R : Bk × Int} (hR : R = (b, c)) :
    bodyPost Try.prog Try.f29 (fun e w' => e = .returned (.tuple #[R.1.v, .int .i64 R.2]) ∧ Below w0.heap.size w0 w') .ret { tmps := tmps, defers := [] } y := by
  subst hR
  have := results_ct (P := Try.prog) (fn := Try.f29) (p := 4) (u := 5) (ty := 46) rfl tmps y g 46 b.cs.toArray (0, 0) _ hp hk bk_und rfl (by rw [bk_info, bk_sz])
  rw [hc] at this
  exact bodyPost_ret this rfl ⟨rfl, h⟩
set_option maxHeartbeats 4000000 in
set_option maxRecDepth 100000 in
theorem b_Read (h : SA B w p gl gm v L W) (a : Int) : Calls Try.prog 29 #[.pointer (some ⟨p, 0, none⟩), .int .i64 a] w fun e w' => e = .returned (.tuple #[(rd L W a).1.v, .int .i64 (rd L W a).2]) ∧ Below w.heap.size w w' := by
  have hl := h.hL.2
  obtain ⟨r, hr⟩ : ∃ r, r = rd L W a := ⟨_, rfl⟩
  rw [← hr]
  have h := Aside0.mk h
  replace hr := Aside0.mk hr
  go_enter Try.func29, Try.ntmps29
  go_wp2_with fail
  change Calls _ _ _ (w.alloc (.cells Bk.z.cs.toArray 46)) _
  have hb0 := below_alloc (Below.refl w.heap.size w) (.cells Bk.z.cs.toArray 46)
  have hk0 := blk_new w (.cells Bk.z.cs.toArray 46)
  have hs := h.out.below hb0
  generalize w.alloc (.cells Bk.z.cs.toArray 46) = y at hb0 hk0 hs ⊢
  with_reducible refine (b_check hs a).mono ?_
  rintro e w1 ⟨rfl, hb⟩
  have HB := Aside0.mk (below_step hb0 hb)
  have HK := Aside0.mk (blk_below hk0 hb)
  have HS := Aside0.mk (hs.below hb)
  clear hb hb0 hk0 hs h y
  by_cases hin : 0 ≤ a ∧ a < L.length
  case neg =>
    rw [if_neg hin]
    have hb2 : ((2 : Int) != 0) = true := rfl
    go_wp2_with ((with_reducible refine gate_store (t := 46) (p := 4) (v := .tmp 14) rfl ?_); refine wpl_stbk 46 _ _ w.heap.size Bk.z 46 Bk.z rfl rfl rfl rfl rfl HK.out bk_info ?_)
    refine rd_end (b := Bk.z) (c := 2) (row_below HB.out (Nat.le_refl _) _) (Nat.le_refl _) (setRow_heap _ _ _ _ _ _ HK.out) rfl rfl ?_
    rw [hr.out, rd, if_neg hin]
  rw [if_pos hin]
  have hb2 : ((0 : Int) != 0) = false := rfl
  have hc0 : w1.cell? ⟨p, 0, none⟩ = some (.slice (some ⟨gl, 0, none⟩) L.length L.length) := (blk_cell HS.out.hp 0).trans rfl
  have hc2 : w1.cell? ⟨p, 2, none⟩ = some (.map (some gm)) := (blk_cell HS.out.hp 2).trans rfl
  obtain ⟨m, hm, hm2⟩ := HS.out.hm
  have hla : lk m a = (lastOf W a).map Bk.v := hm2 a
  obtain ⟨i, rfl⟩ := Int.eq_ofNat_of_zero_le hin.1
  have hi : i < L.length := by omega
  have hgD : L.getD i (Bk.z, true) = L[i] := by simp [List.getD, hi]
  cases hlw : lastOf W (i : Int) with
  | some b =>
    rw [hlw] at hla
    have hlk := MapAt.lookup_some (P := Try.prog) (w := w1) mp_und int_und hm (k := (i : Int)) (v := b.v) hla true
    rw [if_pos rfl] at hlk
    go_wp2_with ((with_reducible refine gate_store (t := 46) (p := 7) (v := .tmp 23) rfl ?_); refine Shut.out ?_)
    unfold Shut
    change wpList _ _ _ _ _ (w1.alloc (.cells Bk.z.cs.toArray 46))
    obtain ⟨hnb, hnk⟩ := newbk w1 Bk.z.cs.toArray b.cs.toArray 46
    refine wpl_stbk 46 _ _ w1.heap.size b 46 Bk.z rfl rfl rfl rfl rfl (blk_new w1 _) bk_info ?_
    have HB' := Aside0.mk (below_step HB.out hnb)
    have HK' := Aside0.mk (blk_below HK.out hnb)
    have HN := Aside0.mk hnk
    clear HB HK hnb hnk hc0 hc2 hm hlk HS
    generalize (w1.alloc (.cells Bk.z.cs.toArray 46)).setRow w1.heap.size b.cs.toArray = w2 at HB' HK' HN ⊢
    generalize w1.heap.size = g7 at HN ⊢
    go_wp2_with (first | ((with_reducible refine gate_dst (N := 26) rfl ?_); refine wpl_ldbk 46 _ g7 b 46 (0, 0) _ _ rfl rfl rfl HN.out bk_und bk_info ?_) | ((with_reducible refine gate_store (t := 46) (p := 4) (v := .tmp 26) rfl ?_); refine wpl_stbk 46 _ _ w.heap.size b 46 Bk.z rfl rfl rfl rfl rfl HK'.out bk_info ?_))
    refine rd_end (b := b) (c := 0) (row_below HB'.out (Nat.le_refl _) _) (Nat.le_refl _) (setRow_heap _ _ _ _ _ _ HK'.out) rfl rfl ?_
    rw [hr.out, rd, if_pos hin, hlw]
  | none =>
    rw [hlw] at hla
    have hlk := MapAt.lookup_none (P := Try.prog) (w := w1) mp_und int_und hm (k := (i : Int)) hla (bk_zero w1) true
    rw [if_pos rfl] at hlk
    go_wp2_with ((with_reducible refine gate_store (t := 46) (p := 7) (v := .tmp 23) rfl ?_); refine Shut.out ?_)
    unfold Shut
    change wpList _ _ _ _ _ (w1.alloc (.cells Bk.z.cs.toArray 46))
    obtain ⟨hnb, hnk⟩ := newbk w1 Bk.z.cs.toArray Bk.z.cs.toArray 46
    refine wpl_stbk 46 _ _ w1.heap.size Bk.z 46 Bk.z rfl rfl rfl rfl rfl (blk_new w1 _) bk_info ?_
    have HB' := Aside0.mk (below_step HB.out hnb)
    have HK' := Aside0.mk (blk_below HK.out hnb)
    have HS' := Aside0.mk (HS.out.below hnb)
    clear HB HK hnb hnk hc0 hc2 hm hlk HS
    generalize (w1.alloc (.cells Bk.z.cs.toArray 46)).setRow w1.heap.size Bk.z.cs.toArray = w2 at HB' HK' HS' ⊢
    generalize w1.heap.size = g7
    have hc0 : w2.cell? ⟨p, 0, none⟩ = some (.slice (some ⟨gl, 0, none⟩) L.length L.length) := (blk_cell HS'.out.hp 0).trans rfl
    obtain ⟨t, ht⟩ : ∃ t, L[i].2 = t := ⟨_, rfl⟩
    have hct : w2.cell? ⟨gl, i * 65 + 64, none⟩ = some (.bool t) := by
      rw [blk_cell HS'.out.hl, hcells_at L i 64 hi (by omega), hrow, List.getElem?_append_right (by rw [Bk.len]; omega), Bk.len, ht]
      rfl
    have hcb : ∀ j, j < 64 → w2.cell? ⟨gl, i * 65 + j, none⟩ = L[i].1.cs[j]? := fun j hj => by
      rw [blk_cell HS'.out.hl, hcells_at L i j hi (by omega), hrow, List.getElem?_append_left (by rw [Bk.len]; omega)]
    have hcb := Aside0.mk hcb
    cases t with
    | true =>
      go_wp2_with ((with_reducible refine gate_store (t := 46) (p := 4) (v := .tmp 35) rfl ?_); refine wpl_stbk 46 _ _ w.heap.size Bk.z 46 Bk.z rfl rfl rfl rfl rfl HK'.out bk_info ?_)
      refine rd_end (b := Bk.z) (c := 7) (row_below HB'.out (Nat.le_refl _) _) (Nat.le_refl _) (setRow_heap _ _ _ _ _ _ HK'.out) rfl rfl ?_
      rw [hr.out, rd, if_pos hin, hlw]
      simp only [Int.toNat_natCast, hgD, ht, if_true]
    | false =>
      go_wp2_with (first | ((with_reducible refine gate_dst (N := 43) rfl ?_); refine wpl_ldbk_at 46 _ gl (i * 65) L[i].1 _ _ rfl rfl rfl hcb.out bk_und bk_info ?_) | ((with_reducible refine gate_store (t := 46) (p := 4) (v := .tmp 43) rfl ?_); refine wpl_stbk 46 _ _ w.heap.size L[i].1 46 Bk.z rfl rfl rfl rfl rfl HK'.out bk_info ?_))
      refine rd_end (b := L[i].1) (c := 0) (row_below HB'.out (Nat.le_refl _) _) (Nat.le_refl _) (setRow_heap _ _ _ _ _ _ HK'.out) rfl rfl ?_
      rw [hr.out, rd, if_pos hin, hlw]
      simp only [Int.toNat_natCast, hgD, ht]
      rfl
end
end Go.Proofs.Ytniadlnbjgodnaa.Print
