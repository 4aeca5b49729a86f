/- What the document's Read answers. -/
import Derived.Test.YtpfkjjaohmdnjaaProg
import Derived.Below
import Derived.Deep.Draws
import Derived.Deep.AppendLies
import Derived.Maps.AppendAt
import Derived.OwnWalk
import Derived.Laws.BytesArg
import Derived.Laws.MakeOwn
import Derived.Laws.OwnMore
import Derived.Deep.OwnRows
import Derived.Tactics
import Derived.Lib.ConvBytes
import Derived.Laws.Slices
import Derived.WalkKit
import Derived.KernelRfl
import Derived.RowKit3
import Derived.Deep.LoopGhost
import Derived.Deep.QuietTactic
import Derived.BigQuiet
import Derived.WideLaws
import Derived.Deep.DeepCutAuto
import Derived.Deep.CutBlock
import Derived.Deep.RegionHeld3
import Derived.Laws.Rows
import Derived.Lib.AppendStr
import Derived.ArgAppend
import Derived.Laws.IdiomCopy
import Derived.OrdersHeld
import Derived.Laws.BitsLemmas
import Derived.RowKit
import Derived.LoopN
import Derived.Handy
import Derived.Laws.EntriesVeiled
import Derived.MapKept
import Derived.Laws.Externs
import Derived.ChangeKeysEq
import Derived.Deep.WholeRow
import Derived.Test.YtpfkjjaohmdnjaaWWords
import Derived.Test.YtpfkjjaohmdnjaaWLast
import Derived.Test.YtpfkjjaohmdnjaaWTab
import Derived.Test.YtpfkjjaohmdnjaaWFour
import Derived.Test.YtpfkjjaohmdnjaaWQPut
import Derived.Test.YtpfkjjaohmdnjaaWApart
import Derived.Test.YtpfkjjaohmdnjaaWArr
import Derived.Test.YtpfkjjaohmdnjaaWZeros
import Derived.Test.YtpfkjjaohmdnjaaWFoot
import Derived.Test.YtpfkjjaohmdnjaaWKept
import Derived.Test.YtpfkjjaohmdnjaaWShare
import Derived.Test.YtpfkjjaohmdnjaaWN
import Derived.Test.YtpfkjjaohmdnjaaWFootNe
import Derived.Test.YtpfkjjaohmdnjaaWAt
import Derived.Test.YtpfkjjaohmdnjaaWEqStruct
import Derived.Test.YtpfkjjaohmdnjaaWRepsOne
import Derived.Test.YtpfkjjaohmdnjaaWInv
import Derived.Test.YtpfkjjaohmdnjaaWInvWords
import Derived.Test.YtpfkjjaohmdnjaaWGuard
import Derived.Test.YtpfkjjaohmdnjaaWNEv
import Derived.Test.YtpfkjjaohmdnjaaWMore
import Derived.Test.YtpfkjjaohmdnjaaBlkA
import Derived.Test.YtpfkjjaohmdnjaaBlkB
namespace Go.Proofs.Ytpfkjjaohmdnjaa.Print
open Go.RowKit Go.Proofs.YtpfkjjaohmdnjaaW.PrintWords Go.Proofs.YtpfkjjaohmdnjaaW.PrintLast Go.Proofs.YtpfkjjaohmdnjaaW.PrintMore
attribute [local go_sem] max2_int min2_int max_two min_two max_three min_three max_four min_four
set_option linter.unusedVariables false
set_option linter.unusedSimpArgs false
section
variable {B : Nat} {w w' : World} {p gl gm : Nat} {v : Value} {L : List (Bk × Bool)} {W : List (Int × Bk)}
theorem rrd_end {w0 y : World} {g : Nat} {tmps : Array Value} {b : Bk} {c : Int} (h : Below w0.heap.size w0 y) (hg : w0.heap.size ≤ g) (hk : y.heap[g]? = some (.cells b.cs.toArray 37 (0, 0))) (hp : tmps.getD 4 undef = .pointer (some ⟨g, 0, none⟩)) (hc : tmps.getD 5 undef = .int .i64 c) {R : Bk × Int} (hR : R = (b, c)) :
    bodyPost Try.prog Try.f20 (fun e w' => e = .returned (.tuple #[R.1.v, .int .i64 R.2]) ∧ Below w0.heap.size w0 w') .ret { tmps := tmps, defers := [] } y := by
  subst hR
  have := results_ct (P := Try.prog) (fn := Try.f20) (p := 4) (u := 5) (ty := 37) rfl tmps y g 37 b.cs.toArray (0, 0) _ hp hk rbk_und rfl (by rw [rbk_info, bk_sz])
  rw [hc] at this
  exact bodyPost_ret this rfl ⟨rfl, h⟩
set_option maxHeartbeats 8000000 in
set_option maxRecDepth 100000 in
theorem r_Read (h : RA B w p gl v L W) (a : Int) : Calls Try.prog 20 #[.pointer (some ⟨p, 0, none⟩), .int .i64 a] w fun e w' => e = .returned (.tuple #[(rd L W a).1.v, .int .i64 (rd L W a).2]) ∧ Below w.heap.size w w' := by
  have hL0 := h.hL.2
  have hW0 := h.hW.1
  obtain ⟨r, hr⟩ : ∃ r, r = rd L W a := ⟨_, rfl⟩
  rw [← hr]
  replace hr := Aside0.mk hr
  have hb0 := below_alloc (Below.refl w.heap.size w) (.cells Bk.z.cs.toArray 37)
  have HK := Aside0.mk (blk_new w (.cells Bk.z.cs.toArray 37))
  have HB := Aside0.mk hb0
  have HS := Aside0.mk (h.below hb0)
  obtain ⟨A, c, hv, hc0, _⟩ := Kd.R_reads h.hw
  rw [List.length_map] at hv hc0
  subst hv
  clear h hb0
  have hz := fun W => rbk_zero W
  have hzv : Bk.z.v = .agg Bk.z.cs.toArray := rfl
  have hc0 : (w.alloc (.cells Bk.z.cs.toArray 37)).cell? ⟨p, 0, none⟩ = some (.slice (some ⟨gl, 0, none⟩) L.length L.length) := (blk_cell HS.out.hp 0).trans rfl
  have hc1 : (w.alloc (.cells Bk.z.cs.toArray 37)).cell? ⟨p, 1, none⟩ = some (.slice A W.length c) := (blk_cell HS.out.hp 1).trans rfl
  by_cases h1 : a < 0
  · go_enter Try.func20, Try.ntmps20
    go_wp2_with ((with_reducible refine gate_store (t := 37) (p := 4) (v := .tmp 18) rfl ?_); refine wpl_stbk 37 _ _ w.heap.size Bk.z 37 Bk.z rfl rfl rfl rfl rfl HK.out rbk_info ?_)
    refine rrd_end (b := Bk.z) (c := 2) (row_below HB.out (Nat.le_refl _) _) (Nat.le_refl _) (setRow_heap _ _ _ _ _ _ HK.out) rfl rfl ?_
    rw [hr.out, rd, if_neg (by omega)]
  by_cases h2 : (L.length : Int) ≤ a
  · go_enter Try.func20, Try.ntmps20
    go_wp2_with ((with_reducible refine gate_store (t := 37) (p := 4) (v := .tmp 18) rfl ?_); refine wpl_stbk 37 _ _ w.heap.size Bk.z 37 Bk.z rfl rfl rfl rfl rfl HK.out rbk_info ?_)
    refine rrd_end (b := Bk.z) (c := 2) (row_below HB.out (Nat.le_refl _) _) (Nat.le_refl _) (setRow_heap _ _ _ _ _ _ HK.out) rfl rfl ?_
    rw [hr.out, rd, if_neg (by omega)]
  go_enter Try.func20, Try.ntmps20
  go_wp2_with fail
  generalize w.alloc (.cells Bk.z.cs.toArray 37) = w1 at HK HB HS hc0 hc1 ⊢
  go_loopw [6] (fun u wr => wr = w1 ∧ ∃ n : Nat, n ≤ W.length ∧ u = .int .i64 ((n : Int) - 1) ∧ Aside0 (lastOf W a = lastOf (W.take n) a)) (fun u _ => (intOf u + 1).toNat)
  case atStart => exact ⟨rfl, W.length, Nat.le_refl _, rfl, ⟨by rw [List.take_length]⟩⟩
  case round =>
    obtain ⟨rfl, n, hn, rfl, HN⟩ := hrel
    cases n with
    | zero =>
      have hno : lastOf W a = none := by rw [HN.out]; rfl
      obtain ⟨i, rfl⟩ := Int.eq_ofNat_of_zero_le (show 0 ≤ a by omega)
      have hi : i < L.length := by omega
      have hgD : L.getD i (Bk.z, true) = L[i] := by simp [List.getD, hi]
      obtain ⟨t, ht⟩ : ∃ t, L[i].2 = t := ⟨_, rfl⟩
      have hct : wr.cell? ⟨gl, i * 65 + 64, none⟩ = some (.bool t) := by
        rw [blk_cell HS.out.hl, hcells_at L i 64 hi (by omega), hrow, List.getElem?_append_right (by rw [Bk.len]; omega), Bk.len, ht]
        rfl
      have hcb : ∀ j, j < 64 → wr.cell? ⟨gl, i * 65 + j, none⟩ = L[i].1.cs[j]? := fun j hj => by
        rw [blk_cell HS.out.hl, hcells_at L i j hi (by omega), hrow, List.getElem?_append_left (by rw [Bk.len]; omega)]
      replace hcb := Aside0.mk hcb
      have hno := Aside0.mk hno
      cases t with
      | true =>
        go_wp2_with ((with_reducible refine gate_store (t := 37) (p := 4) (v := .tmp 55) rfl ?_); refine wpl_stbk 37 _ _ w.heap.size Bk.z 37 Bk.z rfl rfl rfl rfl rfl HK.out rbk_info ?_)
        refine rrd_end (b := Bk.z) (c := 7) (row_below HB.out (Nat.le_refl _) _) (Nat.le_refl _) (setRow_heap _ _ _ _ _ _ HK.out) rfl rfl ?_
        rw [hr.out, rd, if_pos ⟨by omega, by omega⟩, hno.out]
        simp only [Int.toNat_natCast, hgD, ht, if_true]
      | false =>
        go_wp2_with (first | ((with_reducible refine gate_dst (N := 63) rfl ?_); refine wpl_ldbk_at 37 _ gl (i * 65) L[i].1 _ _ rfl rfl rfl hcb.out rbk_und rbk_info ?_) | ((with_reducible refine gate_store (t := 37) (p := 4) (v := .tmp 63) rfl ?_); refine wpl_stbk 37 _ _ w.heap.size L[i].1 37 Bk.z rfl rfl rfl rfl rfl HK.out rbk_info ?_))
        refine rrd_end (b := L[i].1) (c := 0) (row_below HB.out (Nat.le_refl _) _) (Nat.le_refl _) (setRow_heap _ _ _ _ _ _ HK.out) rfl rfl ?_
        rw [hr.out, rd, if_pos ⟨by omega, by omega⟩, hno.out]
        simp only [Int.toNat_natCast, hgD, ht]
        rfl
    | succ n =>
      have e1 : ((n + 1 : Nat) : Int) - 1 = (n : Int) := by omega
      rw [e1]
      obtain ⟨ad, hA, hcell⟩ := row_get HS.out.hw n (by omega)
      subst hA
      have hca : wr.cell? (ad.add (n * 65)) = some (.int .i64 W[n].1) := by have := hcell 0 _ rfl; rwa [add_add] at this
      have hcb := Aside0.mk (row_bk_at hcell)
      by_cases ha : W[n].1 = a
      · have hbe : (W[n].1 == a) = true := by simpa using ha
        have HF := Aside0.mk (HN.out.trans ((lastOf_take W a n (by omega)).trans (if_pos ha)))
        go_wp2_with (first | ((with_reducible refine gate_dst (N := 46) rfl ?_); refine wpl_value rfl (load_run_at 37 (.tmp 45) rfl ((ad.add (n * 65)).add 1) rfl W[n].2.cs _ hcb.out rbk_und rfl (by rw [Bk.len]; exact rbk_info)) ?_) | ((with_reducible refine gate_store (t := 37) (p := 4) (v := .tmp 46) rfl ?_); refine wpl_stbk 37 _ _ w.heap.size W[n].2 37 Bk.z rfl rfl rfl rfl rfl HK.out rbk_info ?_))
        refine rrd_end (b := W[n].2) (c := 0) (row_below HB.out (Nat.le_refl _) _) (Nat.le_refl _) (setRow_heap _ _ _ _ _ _ HK.out) rfl rfl ?_
        rw [hr.out, rd, if_pos ⟨by omega, by omega⟩, HF.out]
      · have hbe : (W[n].1 == a) = false := by simpa using ha
        have HN' := Aside0.mk (HN.out.trans ((lastOf_take W a n (by omega)).trans (if_neg ha)))
        go_wp2_with fail
        go_roundw
        case rel => exact ⟨trivial, n, by omega, by go_num, HN'⟩
        case measure => first | (simp [intOf]; done) | (simp [intOf]; omega)
end
end Go.Proofs.Ytpfkjjaohmdnjaa.Print
