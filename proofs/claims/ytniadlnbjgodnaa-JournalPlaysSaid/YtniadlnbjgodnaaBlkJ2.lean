/- A part of a record, read at a block. A record, read. All records, read; the step of reading. -/
import Derived.Test.YtniadlnbjgodnaaProg
import Derived.Below
import Derived.Deep.Draws
import Derived.Deep.AppendLies
import Derived.Maps.AppendAt
import Derived.OwnWalk
import Derived.Laws.BytesArg
import Derived.Laws.MakeOwn
import Derived.Laws.OwnMore
import Derived.Deep.OwnRows
import Derived.Tactics
import Derived.Lib.ConvBytes
import Derived.Laws.Slices
import Derived.WalkKit
import Derived.KernelRfl
import Derived.RowKit3
import Derived.Deep.LoopGhost
import Derived.Deep.QuietTactic
import Derived.BigQuiet
import Derived.WideLaws
import Derived.Deep.DeepCutAuto
import Derived.Deep.CutBlock
import Derived.Deep.RegionHeld3
import Derived.Laws.Rows
import Derived.Lib.AppendStr
import Derived.ArgAppend
import Derived.Laws.IdiomCopy
import Derived.OrdersHeld
import Derived.Laws.BitsLemmas
import Derived.RowKit
import Derived.LoopN
import Derived.Handy
import Derived.Laws.EntriesVeiled
import Derived.MapKept
import Derived.Laws.Externs
import Derived.ChangeKeysEq
import Derived.Deep.WholeRow
import Derived.Test.YtniadlnbjgodnaaWWords
import Derived.Test.YtniadlnbjgodnaaWLast
import Derived.Test.YtniadlnbjgodnaaWTab
import Derived.Test.YtniadlnbjgodnaaWFour
import Derived.Test.YtniadlnbjgodnaaWQPut
import Derived.Test.YtniadlnbjgodnaaWApart
import Derived.Test.YtniadlnbjgodnaaWArr
import Derived.Test.YtniadlnbjgodnaaWZeros
import Derived.Test.YtniadlnbjgodnaaWFoot
import Derived.Test.YtniadlnbjgodnaaWKept
import Derived.Test.YtniadlnbjgodnaaWShare
import Derived.Test.YtniadlnbjgodnaaWN
import Derived.Test.YtniadlnbjgodnaaWFootNe
import Derived.Test.YtniadlnbjgodnaaWAt
import Derived.Test.YtniadlnbjgodnaaWEqStruct
import Derived.Test.YtniadlnbjgodnaaWRepsOne
import Derived.Test.YtniadlnbjgodnaaWInv
import Derived.Test.YtniadlnbjgodnaaWInvWords
import Derived.Test.YtniadlnbjgodnaaWGuard
import Derived.Test.YtniadlnbjgodnaaWNEv
import Derived.Test.YtniadlnbjgodnaaWMore
import Derived.Test.YtniadlnbjgodnaaBlkA
import Derived.Test.YtniadlnbjgodnaaBlkB
import Derived.Test.YtniadlnbjgodnaaBlkC
import Derived.Test.YtniadlnbjgodnaaBlkJ1
namespace Go.Proofs.Ytniadlnbjgodnaa.Print
open Go.RowKit Go.Proofs.YtniadlnbjgodnaaW.PrintWords Go.Proofs.YtniadlnbjgodnaaW.PrintLast Go.Proofs.YtniadlnbjgodnaaW.PrintMore
attribute [local go_sem] max2_int min2_int max_two min_two max_three min_three max_four min_four
set_option linter.unusedVariables false
set_option linter.unusedSimpArgs false
section
/-- A block of bytes. -/
def okB (b : Bk) : Prop := ∀ x ∈ b.l, 0 ≤ x ∧ x < 256
theorem okB_z : okB Bk.z := fun x hx => by have := List.eq_of_mem_replicate hx; omega
def cnt (b : Bk) : Int := b.l.getD 5 0
def siz (b : Bk) : Int := b.l.getD 6 0
theorem okB_at {b : Bk} (h : okB b) (i : Nat) (hi : i < 64) : 0 ≤ b.l.getD i 0 ∧ b.l.getD i 0 < 256 := by
  have hi : i < b.l.length := by rw [b.h]; exact hi
  have e : b.l.getD i 0 = b.l[i] := by simp [List.getD, hi]
  rw [e]
  exact h _ (List.getElem_mem hi)
/-- Can these numbers of a part not be? -/
def bad (N s : Int) (i : Nat) : Prop := 53 < s ∨ N ≤ i ∨ ((i : Int) < N - 1 ∧ s < 53) ∨ (0 < i ∧ s = 0)
instance (N s : Int) (i : Nat) : Decidable (bad N s i) := by unfold bad; infer_instance
/-- A part's bytes. -/
def body (b : Bk) : List Int := (b.l.drop 7).take (siz b).toNat
/-- What is read as record n's part i. -/
def rdp (x : Bk × Int) (n i : Nat) : List Int × Int × Bool :=
  if x.2 ≠ 0 then ([], 0, false) else if bad (cnt x.1) (siz x.1) i then ([], 0, false) else (body x.1, cnt x.1, decide (lay n i (cnt x.1) (body x.1) = x.1))
theorem body_len {b : Bk} (h : 0 ≤ siz b ∧ siz b ≤ 53) : (body b).length = (siz b).toNat := by rw [body, List.length_take, List.length_drop, b.h]; omega
theorem bk_eqi (a b : Bk) (d : Nat) (W : World) : (Op.equalIn (d + 2) 46 (.agg a.cs.toArray) (.agg b.cs.toArray)).run Try.prog W = .ok (decide (a = b)) W := by
  have hu : Try.prog.underlying 5 = some (.int .u8) := by kernel_rfl
  have := eqArr_ints (P := Try.prog) (t := 46) (e := 5) (k := .u8) (n := 64) bk_und hu (by kernel_rfl) (by kernel_rfl) d a.l b.l a.h b.h W
  have e : decide (a.l = b.l) = decide (a = b) := decide_eq_decide.2 ⟨Bk.eq, fun h => by rw [h]⟩
  rw [e] at this
  exact this
variable {B : Nat} {w w' : World} {p gl gm : Nat} {v : Value} {L : List (Bk × Bool)} {W : List (Int × Bk)}
/-- A journal's struct: its store, its records, how many blocks they have. -/
def JBk (w : World) (pj p : Nat) (lv : Value) (u : Nat) : Prop := w.heap[pj]? = some (.cells #[.pointer (some ⟨p, 0, none⟩), lv, .int .i64 u] 80 (0, 0))
theorem bk_cut (g q : Nat) (hq : q ≤ 53) (W : World) : (Instr.sliceAt 46 (.pointer (some ⟨g, 0, none⟩)) (some (.int .i64 7)) (some (.int .i64 (7 + (q : Int)))) none).run Try.prog W = .ok (.slice (some ⟨g, 7, none⟩) q 57) W := by
  have ha : Try.prog.arrayLen 46 = 64 := by kernel_rfl
  have he : Try.prog.elem 46 = 5 := by kernel_rfl
  have hu : Try.prog.underlying 46 = some (.array (Try.prog.arrayLen 46) (Try.prog.elem 46)) := by rw [ha, he]; exact bk_und
  rw [run_sliceAt_array_lh W 46 _ hu .i64 .i64 7 (7 + (q : Int)) (by omega) (by omega) (by rw [ha]; omega)]
  have hsz : (sizeOf (Try.prog.elem 46)).run Try.prog W = .ok 1 W := by rw [he]; kernel_rfl
  rw [hsz, ha]
  show Result.ok (slicedAt ⟨g, 0, none⟩ 7 (7 + (q : Int)).toNat 64 1) W = _
  rw [show (7 + (q : Int)).toNat = 7 + q by omega]
  simp [slicedAt, Addr.add]
theorem j_laid_eq {y : Bk} {n i N : Int} {b : List Int} (hy : y = lay n i N b) {A : Option Addr} {c : Nat} (hC : Kd.C (Kd.int .u8) w A b.length b) (hb : b.length ≤ 53) (hn : 0 ≤ n ∧ n < 4294967296) (hi : 0 ≤ i ∧ i < 256) (hN : 0 ≤ N ∧ N < 256) :
    Calls Try.prog 40 #[.int .i64 n, .int .i64 i, .int .i64 N, .slice A b.length c] w fun e w' => e = .returned (.agg y.cs.toArray) ∧ Below w.heap.size w w' := by
  subst hy
  exact j_laid hC hb n i N hn hi hN
theorem j_cl {g q : Nat} {b : Bk} (h : w.heap[g]? = some (.cells b.cs.toArray 46 (0, 0))) (h1 : body b = (b.l.drop 7).take q) (h2 : (body b).length = q) (hq : q ≤ 53) :
    Calls Try.prog 57 #[.slice (some ⟨g, 7, none⟩) q 57] w fun e w' => ∃ v, e = .returned v ∧ Kd.R (Kd.int .u8) 5 w' w.heap.size (fun _ => True) v (body b) ∧ Below w.heap.size w w' := by
  have hC := bcs_C (o := 7) (n := q) (l := b.l) h (by rw [b.h]; omega) (by omega)
  rw [← h1] at hC
  have := s_Clone (c := 57) hC (by omega) (by omega)
  rw [h2] at this
  exact this
set_option maxHeartbeats 8000000 in
set_option maxRecDepth 100000 in
theorem j_read (h : SA B w p gl gm v L W) {pj u : Nat} {lv : Value} (hj : JBk w pj p lv u) (at_ n i : Nat) (ha : at_ ≤ 100000) (hn : n ≤ 100000) (hi : i ≤ 255) (hok : ∀ a, okB (rd L W a).1) :
    Calls Try.prog 49 #[.pointer (some ⟨pj, 0, none⟩), .int .i64 at_, .int .i64 n, .int .i64 i] w fun e w' => ∃ v1, e = .returned (.tuple #[v1, .int .i64 (rdp (rd L W ((at_ + i : Nat) : Int)) n i).2.1, .bool (rdp (rd L W ((at_ + i : Nat) : Int)) n i).2.2]) ∧ Kd.R (Kd.int .u8) 5 w' w.heap.size (fun _ => True) v1 (rdp (rd L W ((at_ + i : Nat) : Int)) n i).1 ∧ Below w.heap.size w w' := by
  have hc0 : w.cell? ⟨pj, 0, none⟩ = some (.pointer (some ⟨p, 0, none⟩)) := (blk_cell hj 0).trans rfl
  have hokx := hok ((at_ + i : Nat) : Int)
  obtain ⟨x, hx⟩ : ∃ x, x = rd L W ((at_ + i : Nat) : Int) := ⟨_, rfl⟩
  rw [← hx] at hokx ⊢
  obtain ⟨r, hr⟩ : ∃ r, r = rdp x n i := ⟨_, rfl⟩
  rw [← hr]
  obtain ⟨b, c⟩ := x
  simp only at hokx
  replace hr := Aside0.mk hr
  have HR := Aside0.mk (b_Read h ((at_ + i : Nat) : Int))
  rw [← hx] at HR
  clear h hj hok hx
  go_enter Try.func49, Try.ntmps49
  go_wp2_with fail
  have hcast : ((at_ : Int) + (i : Int)) = ((at_ + i : Nat) : Int) := by omega
  rw [hcast]
  clear hcast
  refine HR.out.mono ?_
  rintro e w1 ⟨rfl, hb⟩
  clear HR hc0
  have HB := Aside0.mk hb
  clear hb
  by_cases hc : c = 0
  case neg =>
    have hcn : (c == 0) = false := by simpa using hc
    have hcn2 : (c != 0) = true := by simpa using hc
    obtain rfl : r = ([], 0, false) := by rw [hr.out, rdp, if_pos hc]
    go_wp2_with ((with_reducible refine gate_store (t := 46) (p := 11) (v := .tmp 23) rfl ?_); refine Shut.out ?_)
    unfold Shut
    change wpList _ _ _ _ _ (w1.alloc (.cells Bk.z.cs.toArray 46))
    obtain ⟨hnb, hnk⟩ := newbk w1 Bk.z.cs.toArray b.cs.toArray 46
    refine wpl_stbk 46 _ _ w1.heap.size b 46 Bk.z rfl rfl rfl rfl rfl (blk_new w1 _) bk_info ?_
    have HB' := Aside0.mk (below_step HB.out hnb)
    clear HB hnb hnk
    generalize (w1.alloc (.cells Bk.z.cs.toArray 46)).setRow w1.heap.size b.cs.toArray = w2 at HB' ⊢
    go_wp2_with fail
    go_ret3
    exact ⟨_, rfl, Kd.R_nil _ _ _ _ _, HB'.out⟩
  subst hc
  have hcn : ((0 : Int) != 0) = false := rfl
  have hN : 0 ≤ cnt b ∧ cnt b < 256 := okB_at hokx 5 (by omega)
  have hs : 0 ≤ siz b ∧ siz b < 256 := okB_at hokx 6 (by omega)
  replace hr := hr.out
  rw [rdp, if_neg (by simp)] at hr
  have hbl := @body_len b
  have g5 : b.cs.toArray[5]? = some (.int .u8 (cnt b)) := by rw [List.getElem?_toArray]; exact b.get 5 (by omega)
  have g6 : b.cs.toArray[6]? = some (.int .u8 (siz b)) := by rw [List.getElem?_toArray]; exact b.get 6 (by omega)
  have hbd : body b = (b.l.drop 7).take (siz b).toNat := rfl
  generalize cnt b = M at hN hr g5
  generalize siz b = s at hs hr g6 hbl hbd
  replace hbd := Aside0.mk hbd
  replace hr := Aside0.mk hr
  replace hbl := Aside0.mk hbl
  go_wp2_with ((with_reducible refine gate_store (t := 46) (p := 11) (v := .tmp 23) rfl ?_); refine Shut.out ?_)
  unfold Shut
  change wpList _ _ _ _ _ (w1.alloc (.cells Bk.z.cs.toArray 46))
  obtain ⟨hnb, hnk⟩ := newbk w1 Bk.z.cs.toArray b.cs.toArray 46
  refine wpl_stbk 46 _ _ w1.heap.size b 46 Bk.z rfl rfl rfl rfl rfl (blk_new w1 _) bk_info ?_
  have HB' := Aside0.mk (below_step HB.out hnb)
  have BK11 := Aside0.mk hnk
  have HG := HB.out.size
  clear HB hnb hnk
  generalize (w1.alloc (.cells Bk.z.cs.toArray 46)).setRow w1.heap.size b.cs.toArray = w2 at HB' BK11 ⊢
  generalize w1.heap.size = g at BK11 HG ⊢
  have HB := HB'
  clear HB'
  go_wp2_with fail
  have n_HB := Aside0.mk (below_step HB.out (below_drew (Below.refl _ _)))
  have n_BK11 := Aside0.mk (blk_below BK11.out (below_drew (Below.refl _ _)))
  clear HB
  have HB := n_HB
  clear n_HB
  clear BK11
  have BK11 := n_BK11
  clear n_BK11
  refine start_ (n := 8) (S := fun w' => w'.cell? ⟨g, 5, none⟩ = some (.int .u8 M) ∧ w'.cell? ⟨g, 6, none⟩ = some (.int .u8 s)) (ds := []) #[false, false, false, false, false, false, false, false] (by kernel_rfl) rfl rfl ⟨(blk_cell BK11.out 5).trans g5, (blk_cell BK11.out 6).trans g6⟩ (fun hHeld => ?_)
  generalize w2.drew = w3 at HB BK11 hHeld ⊢
  refine pure_ (i := 0) (N := some 27) (v := ?_) (a' := ?_) #[true, false, false, false, false, false, false, false] rfl rfl (by kernel_rfl) (fun _ _ _ h => h) (Or.inl ⟨by rfl, ?_⟩) ?_ ?_
  rotate_left
  · intro w'
    go_simp
    with_reducible rfl
  rotate_left
  · simp only [Act.put, List.setIfInBounds_toArray, List.set_cons_zero, List.set_cons_succ, i64_w, i32_w]
    rfl
  refine pure_ (i := 3) (N := some 30) (v := ?_) (a' := ?_) #[true, false, false, true, false, false, false, false] rfl rfl (by kernel_rfl) (fun _ _ _ h => h) (Or.inl ⟨by rfl, ?_⟩) ?_ ?_
  rotate_left
  · intro w'
    go_simp
    with_reducible rfl
  rotate_left
  · simp only [Act.put, List.setIfInBounds_toArray, List.set_cons_zero, List.set_cons_succ, i64_w, i32_w]
    rfl
  refine take_ (i := 1) (N := some 28) (v := ?_) (a' := ?_) #[true, true, false, true, false, false, false, false] rfl rfl (by kernel_rfl) (fun _ _ _ h => h) (Or.inl ⟨by rfl, ?_⟩) hHeld ?_ ?_
  rotate_left
  · rintro w' ⟨s0, s1⟩
    go_simp
    with_reducible rfl
  rotate_left
  · simp only [Act.put, List.setIfInBounds_toArray, List.set_cons_zero, List.set_cons_succ, i64_w, i32_w]
    rfl
  refine pure_ (i := 2) (N := some 29) (v := ?_) (a' := ?_) #[true, true, true, true, false, false, false, false] rfl rfl (by kernel_rfl) (fun _ _ _ h => h) (Or.inl ⟨by rfl, ?_⟩) ?_ ?_
  rotate_left
  · intro w'
    go_simp
    with_reducible rfl
  rotate_left
  · simp only [Act.put, List.setIfInBounds_toArray, List.set_cons_zero, List.set_cons_succ, i64_w, i32_w]
    rfl
  refine pure_ (i := 6) (N := some 9) (v := ?_) (a' := ?_) #[true, true, true, true, false, false, true, false] rfl rfl (by kernel_rfl) (fun _ _ _ h => h) (Or.inl ⟨by rfl, ?_⟩) ?_ ?_
  rotate_left
  · intro w'
    go_simp
    with_reducible rfl
  rotate_left
  · simp only [Act.put, List.setIfInBounds_toArray, List.set_cons_zero, List.set_cons_succ, i64_w, i32_w]
    rfl
  refine take_ (i := 4) (N := some 31) (v := ?_) (a' := ?_) #[true, true, true, true, true, false, true, false] rfl rfl (by kernel_rfl) (fun _ _ _ h => h) (Or.inl ⟨by rfl, ?_⟩) hHeld ?_ ?_
  rotate_left
  · rintro w' ⟨s0, s1⟩
    go_simp
    with_reducible rfl
  rotate_left
  · simp only [Act.put, List.setIfInBounds_toArray, List.set_cons_zero, List.set_cons_succ, i64_w, i32_w]
    rfl
  refine pure_ (i := 5) (N := some 32) (v := ?_) (a' := ?_) #[true, true, true, true, true, true, true, false] rfl rfl (by kernel_rfl) (fun _ _ _ h => h) (Or.inl ⟨by rfl, ?_⟩) ?_ ?_
  rotate_left
  · intro w'
    go_simp
    with_reducible rfl
  rotate_left
  · simp only [Act.put, List.setIfInBounds_toArray, List.set_cons_zero, List.set_cons_succ, i64_w, i32_w]
    rfl
  refine pure_ (i := 7) (N := some 13) (v := ?_) (a' := ?_) #[true, true, true, true, true, true, true, true] rfl rfl (by kernel_rfl) (fun _ _ _ h => h) (Or.inl ⟨by rfl, ?_⟩) ?_ ?_
  rotate_left
  · intro w'
    go_simp
    with_reducible rfl
  rotate_left
  · simp only [Act.put, List.setIfInBounds_toArray, List.set_cons_zero, List.set_cons_succ, i64_w, i32_w]
    rfl
  refine done_ (by kernel_rfl) ?_
  clear hHeld
  rw [show wrap64 M = M by unfold wrap64; omega, show wrap64 s = s by unfold wrap64; omega]
  by_cases hbad : bad M s i
  case pos =>
    obtain rfl : r = ([], 0, false) := by rw [hr.out, if_pos hbad]
    clear hr hbl BK11 g5 g6
    have key : 53 < s ∨ (¬ 53 < s ∧ M ≤ i) ∨ (¬ 53 < s ∧ ¬ M ≤ i ∧ (i : Int) < M - 1 ∧ s < 53) ∨ (¬ 53 < s ∧ ¬ M ≤ i ∧ (i : Int) < M - 1 ∧ ¬ s < 53 ∧ 0 < (i : Int) ∧ s = 0) ∨ (¬ 53 < s ∧ ¬ M ≤ i ∧ ¬ (i : Int) < M - 1 ∧ 0 < (i : Int) ∧ s = 0) := by unfold bad at hbad; omega
    clear hbad
    rcases key with h1 | ⟨h1, h2⟩ | ⟨h1, h2, h3, h4⟩ | ⟨h1, h2, h3, h4, h5, h6⟩ | ⟨h1, h2, h3, h5, h6⟩
    · go_wp2_with fail
      go_ret3
      exact ⟨_, rfl, Kd.R_nil _ _ _ _ _, HB.out⟩
    · go_wp2_with fail
      go_ret3
      exact ⟨_, rfl, Kd.R_nil _ _ _ _ _, HB.out⟩
    · go_wp2_with fail
      go_ret3
      exact ⟨_, rfl, Kd.R_nil _ _ _ _ _, HB.out⟩
    · omega
    · subst h6
      have hz : ((0 : Int) == 0) = true := rfl
      go_wp2_with fail
      go_ret3
      exact ⟨_, rfl, Kd.R_nil _ _ _ _ _, HB.out⟩
  obtain ⟨bo, hbo⟩ : ∃ bo, bo = body b := ⟨_, rfl⟩
  obtain ⟨y, hy⟩ : ∃ y, y = lay n i M bo := ⟨_, rfl⟩
  obtain rfl : r = (bo, M, decide (y = b)) := by rw [hr.out, if_neg hbad, hy, hbo]
  clear hr
  have h1 : ¬ 53 < s := fun h => hbad (by unfold bad; omega)
  have h2 : ¬ M ≤ i := fun h => hbad (by unfold bad; omega)
  replace hbl := Aside0.mk (hbl.out (by omega))
  obtain ⟨q, rfl⟩ := Int.eq_ofNat_of_zero_le hs.1
  rw [Int.toNat_natCast] at hbl
  rw [Int.toNat_natCast] at hbd
  replace hbo := Aside0.mk hbo
  replace hy := Aside0.mk hy
  have hbe := fun d W => bk_eqi y b d W
  clear hs hokx hcn g5 g6
  have hsl := fun W => bk_cut g q (by omega) W
  by_cases h3 : (i : Int) < M - 1
  case pos =>
    have h4 : ¬ (q : Int) < 53 := fun h => hbad (by unfold bad; omega)
    by_cases h5 : 0 < (i : Int)
    case pos =>
      have h6 : ((q : Int) == 0) = false := by simp; omega
      clear hbad
      go_wp2_with fail
      clear hsl
      refine (j_cl BK11.out hbd.out hbl.out (by omega)).mono ?_
      rintro e w4 ⟨v1, rfl, hR, hb⟩
      rw [← hbo.out] at hR
      have RR := Aside0.mk (Kd.R_lower hR HB.out.size)
      have HB' := Aside0.mk (below_step HB.out hb)
      have BK11' := Aside0.mk (blk_below BK11.out hb)
      obtain ⟨A1, c1, hv1⟩ := Kd.R_slice hR
      clear hR hb HB BK11
      have HB := HB'
      have BK11 := BK11'
      clear HB' BK11'
      subst hv1
      have hbol : bo.length ≤ 53 := by rw [hbo.out, hbl.out]; omega
      clear hbl hbd
      go_wp2_with fail
      have n_HB := Aside0.mk (below_step HB.out (below_drew (Below.refl _ _)))
      have n_BK11 := Aside0.mk (blk_below BK11.out (below_drew (Below.refl _ _)))
      have n_RR := Aside0.mk (Kd.R_below RR.out (below_drew (Below.refl _ _)))
      clear HB
      have HB := n_HB
      clear n_HB
      clear BK11
      have BK11 := n_BK11
      clear n_BK11
      clear RR
      have RR := n_RR
      clear n_RR
      refine start_ (n := 12) (S := fun w' => w'.heap[g]? = some (.cells b.cs.toArray 46 (0, 0))) (ds := []) #[false, false, false, false, false, false, false, false, false, false, false, false] (by kernel_rfl) rfl rfl (BK11.out) (fun hHeld => ?_)
      generalize w4.drew = w5 at HB BK11 RR hHeld ⊢
      refine pure_ (i := 0) (N := some 62) (v := ?_) (a' := ?_) #[true, false, false, false, false, false, false, false, false, false, false, false] rfl rfl (by kernel_rfl) (fun _ _ _ h => h) (Or.inl ⟨by rfl, ?_⟩) ?_ ?_
      rotate_left
      · intro w'
        go_simp
        with_reducible rfl
      rotate_left
      · simp only [Act.put, List.setIfInBounds_toArray, List.set_cons_zero, List.set_cons_succ, i64_w, i32_w]
        rfl
      refine pure_ (i := 1) (N := some 63) (v := ?_) (a' := ?_) #[true, true, false, false, false, false, false, false, false, false, false, false] rfl rfl (by kernel_rfl) (fun _ _ _ h => h) (Or.inl ⟨by rfl, ?_⟩) ?_ ?_
      rotate_left
      · intro w'
        go_simp
        with_reducible rfl
      rotate_left
      · simp only [Act.put, List.setIfInBounds_toArray, List.set_cons_zero, List.set_cons_succ, i64_w, i32_w]
        rfl
      refine pure_ (i := 2) (N := some 64) (v := ?_) (a' := ?_) #[true, true, true, false, false, false, false, false, false, false, false, false] rfl rfl (by kernel_rfl) (fun _ _ _ h => h) (Or.inl ⟨by rfl, ?_⟩) ?_ ?_
      rotate_left
      · intro w'
        go_simp
        with_reducible rfl
      rotate_left
      · simp only [Act.put, List.setIfInBounds_toArray, List.set_cons_zero, List.set_cons_succ, i64_w, i32_w]
        rfl
      refine pure_ (i := 3) (N := some 65) (v := ?_) (a' := ?_) #[true, true, true, true, false, false, false, false, false, false, false, false] rfl rfl (by kernel_rfl) (fun _ _ _ h => h) (Or.inl ⟨by rfl, ?_⟩) ?_ ?_
      rotate_left
      · intro w'
        go_simp
        with_reducible rfl
      rotate_left
      · simp only [Act.put, List.setIfInBounds_toArray, List.set_cons_zero, List.set_cons_succ, i64_w, i32_w]
        rfl
      refine pure_ (i := 4) (N := some 66) (v := ?_) (a' := ?_) #[true, true, true, true, true, false, false, false, false, false, false, false] rfl rfl (by kernel_rfl) (fun _ _ _ h => h) (Or.inl ⟨by rfl, ?_⟩) ?_ ?_
      rotate_left
      · intro w'
        go_simp
        with_reducible rfl
      rotate_left
      · simp only [Act.put, List.setIfInBounds_toArray, List.set_cons_zero, List.set_cons_succ, i64_w, i32_w]
        rfl
      refine pure_ (i := 5) (N := some 67) (v := ?_) (a' := ?_) #[true, true, true, true, true, true, false, false, false, false, false, false] rfl rfl (by kernel_rfl) (fun _ _ _ h => h) (Or.inl ⟨by rfl, ?_⟩) ?_ ?_
      rotate_left
      · intro w'
        go_simp
        with_reducible rfl
      rotate_left
      · simp only [Act.put, List.setIfInBounds_toArray, List.set_cons_zero, List.set_cons_succ, i64_w, i32_w]
        rfl
      refine take_ (i := 7) (N := some 69) (v := ?_) (a' := ?_) #[true, true, true, true, true, true, false, true, false, false, false, false] rfl rfl (by kernel_rfl) (fun _ _ _ h => h) (Or.inl ⟨by rfl, ?_⟩) hHeld ?_ ?_
      rotate_left
      · intro w' s0
        refine load_run 46 (.tmp 11) ?_ g ?_ 46 _ (0, 0) _ s0 bk_und rfl (by rw [bk_sz]; exact bk_info) <;> rfl
      rotate_left
      · simp only [Act.put, List.setIfInBounds_toArray, List.set_cons_zero, List.set_cons_succ, i64_w, i32_w]
        rfl
      refine one_ (i := 6) (N := some 68) #[true, true, true, true, true, true, true, true, false, false, false, false] rfl rfl (by kernel_rfl) (by decide) (fun K hK => ?_)
      refine goes_ Try.func40 (by kernel_rfl) rfl #[.int .i64 n, .int .i64 i, .int .i64 M, .slice A1 bo.length c1] (by rfl) rfl rfl (by (try simp only [List.map_toArray, List.map_cons, List.map_nil]); first | done | rfl) ?_
      with_reducible refine (j_laid_eq hy.out (Kd.R_reads' RR.out).2.2 hbol (by omega) (by omega) (by omega)).mono ?_
      rintro e y1_ ⟨rfl, hb⟩
      refine ⟨_, rfl, ?_⟩
      have n_HB := Aside0.mk (below_step HB.out hb)
      have n_BK11 := Aside0.mk (blk_below BK11.out hb)
      have n_RR := Aside0.mk (Kd.R_below RR.out hb)
      clear HB
      have HB := n_HB
      clear n_HB
      clear BK11
      have BK11 := n_BK11
      clear n_BK11
      clear RR
      have RR := n_RR
      clear n_RR
      clear hb
      refine hK.out _ _ (BK11.out) (fun hHeld => ?_)
      clear hK K
      refine norm_ (a' := ?_) ?_ ?_
      rotate_left
      · show Act.put _ (some 68) _ = _
        simp only [Act.put, List.setIfInBounds_toArray, List.set_cons_zero, List.set_cons_succ, i64_w, i32_w]
        rfl
      refine pure_ (i := 8) (N := some 70) (v := ?_) (a' := ?_) #[true, true, true, true, true, true, true, true, true, false, false, false] rfl rfl (by kernel_rfl) (fun _ _ _ h => h) (Or.inl ⟨by rfl, ?_⟩) ?_ ?_
      rotate_left
      · intro w'
        go_simp
        with_reducible rfl
      rotate_left
      · simp only [Act.put, List.setIfInBounds_toArray, List.set_cons_zero, List.set_cons_succ, i64_w, i32_w]
        rfl
      refine pure_ (i := 9) (N := some 8) (v := ?_) (a' := ?_) #[true, true, true, true, true, true, true, true, true, true, false, false] rfl rfl (by kernel_rfl) (fun _ _ _ h => h) (Or.inl ⟨by rfl, ?_⟩) ?_ ?_
      rotate_left
      · intro w'
        go_simp
        with_reducible rfl
      rotate_left
      · simp only [Act.put, List.setIfInBounds_toArray, List.set_cons_zero, List.set_cons_succ, i64_w, i32_w]
        rfl
      refine pure_ (i := 10) (N := some 9) (v := ?_) (a' := ?_) #[true, true, true, true, true, true, true, true, true, true, true, false] rfl rfl (by kernel_rfl) (fun _ _ _ h => h) (Or.inl ⟨by rfl, ?_⟩) ?_ ?_
      rotate_left
      · intro w'
        go_simp
        with_reducible rfl
      rotate_left
      · simp only [Act.put, List.setIfInBounds_toArray, List.set_cons_zero, List.set_cons_succ, i64_w, i32_w]
        rfl
      refine pure_ (i := 11) (N := some 10) (v := ?_) (a' := ?_) #[true, true, true, true, true, true, true, true, true, true, true, true] rfl rfl (by kernel_rfl) (fun _ _ _ h => h) (Or.inl ⟨by rfl, ?_⟩) ?_ ?_
      rotate_left
      · intro w'
        go_simp
        with_reducible rfl
      rotate_left
      · simp only [Act.put, List.setIfInBounds_toArray, List.set_cons_zero, List.set_cons_succ, i64_w, i32_w]
        rfl
      refine done_ (by kernel_rfl) ?_
      clear hHeld
      go_wp2_with fail
      go_ret3
      exact ⟨_, rfl, RR.out, HB.out⟩
    clear hbad
    go_wp2_with fail
    clear hsl
    refine (j_cl BK11.out hbd.out hbl.out (by omega)).mono ?_
    rintro e w4 ⟨v1, rfl, hR, hb⟩
    rw [← hbo.out] at hR
    have RR := Aside0.mk (Kd.R_lower hR HB.out.size)
    have HB' := Aside0.mk (below_step HB.out hb)
    have BK11' := Aside0.mk (blk_below BK11.out hb)
    obtain ⟨A1, c1, hv1⟩ := Kd.R_slice hR
    clear hR hb HB BK11
    have HB := HB'
    have BK11 := BK11'
    clear HB' BK11'
    subst hv1
    have hbol : bo.length ≤ 53 := by rw [hbo.out, hbl.out]; omega
    clear hbl hbd
    go_wp2_with fail
    have n_HB := Aside0.mk (below_step HB.out (below_drew (Below.refl _ _)))
    have n_BK11 := Aside0.mk (blk_below BK11.out (below_drew (Below.refl _ _)))
    have n_RR := Aside0.mk (Kd.R_below RR.out (below_drew (Below.refl _ _)))
    clear HB
    have HB := n_HB
    clear n_HB
    clear BK11
    have BK11 := n_BK11
    clear n_BK11
    clear RR
    have RR := n_RR
    clear n_RR
    refine start_ (n := 12) (S := fun w' => w'.heap[g]? = some (.cells b.cs.toArray 46 (0, 0))) (ds := []) #[false, false, false, false, false, false, false, false, false, false, false, false] (by kernel_rfl) rfl rfl (BK11.out) (fun hHeld => ?_)
    generalize w4.drew = w5 at HB BK11 RR hHeld ⊢
    refine pure_ (i := 0) (N := some 62) (v := ?_) (a' := ?_) #[true, false, false, false, false, false, false, false, false, false, false, false] rfl rfl (by kernel_rfl) (fun _ _ _ h => h) (Or.inl ⟨by rfl, ?_⟩) ?_ ?_
    rotate_left
    · intro w'
      go_simp
      with_reducible rfl
    rotate_left
    · simp only [Act.put, List.setIfInBounds_toArray, List.set_cons_zero, List.set_cons_succ, i64_w, i32_w]
      rfl
    refine pure_ (i := 1) (N := some 63) (v := ?_) (a' := ?_) #[true, true, false, false, false, false, false, false, false, false, false, false] rfl rfl (by kernel_rfl) (fun _ _ _ h => h) (Or.inl ⟨by rfl, ?_⟩) ?_ ?_
    rotate_left
    · intro w'
      go_simp
      with_reducible rfl
    rotate_left
    · simp only [Act.put, List.setIfInBounds_toArray, List.set_cons_zero, List.set_cons_succ, i64_w, i32_w]
      rfl
    refine pure_ (i := 2) (N := some 64) (v := ?_) (a' := ?_) #[true, true, true, false, false, false, false, false, false, false, false, false] rfl rfl (by kernel_rfl) (fun _ _ _ h => h) (Or.inl ⟨by rfl, ?_⟩) ?_ ?_
    rotate_left
    · intro w'
      go_simp
      with_reducible rfl
    rotate_left
    · simp only [Act.put, List.setIfInBounds_toArray, List.set_cons_zero, List.set_cons_succ, i64_w, i32_w]
      rfl
    refine pure_ (i := 3) (N := some 65) (v := ?_) (a' := ?_) #[true, true, true, true, false, false, false, false, false, false, false, false] rfl rfl (by kernel_rfl) (fun _ _ _ h => h) (Or.inl ⟨by rfl, ?_⟩) ?_ ?_
    rotate_left
    · intro w'
      go_simp
      with_reducible rfl
    rotate_left
    · simp only [Act.put, List.setIfInBounds_toArray, List.set_cons_zero, List.set_cons_succ, i64_w, i32_w]
      rfl
    refine pure_ (i := 4) (N := some 66) (v := ?_) (a' := ?_) #[true, true, true, true, true, false, false, false, false, false, false, false] rfl rfl (by kernel_rfl) (fun _ _ _ h => h) (Or.inl ⟨by rfl, ?_⟩) ?_ ?_
    rotate_left
    · intro w'
      go_simp
      with_reducible rfl
    rotate_left
    · simp only [Act.put, List.setIfInBounds_toArray, List.set_cons_zero, List.set_cons_succ, i64_w, i32_w]
      rfl
    refine pure_ (i := 5) (N := some 67) (v := ?_) (a' := ?_) #[true, true, true, true, true, true, false, false, false, false, false, false] rfl rfl (by kernel_rfl) (fun _ _ _ h => h) (Or.inl ⟨by rfl, ?_⟩) ?_ ?_
    rotate_left
    · intro w'
      go_simp
      with_reducible rfl
    rotate_left
    · simp only [Act.put, List.setIfInBounds_toArray, List.set_cons_zero, List.set_cons_succ, i64_w, i32_w]
      rfl
    refine take_ (i := 7) (N := some 69) (v := ?_) (a' := ?_) #[true, true, true, true, true, true, false, true, false, false, false, false] rfl rfl (by kernel_rfl) (fun _ _ _ h => h) (Or.inl ⟨by rfl, ?_⟩) hHeld ?_ ?_
    rotate_left
    · intro w' s0
      refine load_run 46 (.tmp 11) ?_ g ?_ 46 _ (0, 0) _ s0 bk_und rfl (by rw [bk_sz]; exact bk_info) <;> rfl
    rotate_left
    · simp only [Act.put, List.setIfInBounds_toArray, List.set_cons_zero, List.set_cons_succ, i64_w, i32_w]
      rfl
    refine one_ (i := 6) (N := some 68) #[true, true, true, true, true, true, true, true, false, false, false, false] rfl rfl (by kernel_rfl) (by decide) (fun K hK => ?_)
    refine goes_ Try.func40 (by kernel_rfl) rfl #[.int .i64 n, .int .i64 i, .int .i64 M, .slice A1 bo.length c1] (by rfl) rfl rfl (by (try simp only [List.map_toArray, List.map_cons, List.map_nil]); first | done | rfl) ?_
    with_reducible refine (j_laid_eq hy.out (Kd.R_reads' RR.out).2.2 hbol (by omega) (by omega) (by omega)).mono ?_
    rintro e y2_ ⟨rfl, hb⟩
    refine ⟨_, rfl, ?_⟩
    have n_HB := Aside0.mk (below_step HB.out hb)
    have n_BK11 := Aside0.mk (blk_below BK11.out hb)
    have n_RR := Aside0.mk (Kd.R_below RR.out hb)
    clear HB
    have HB := n_HB
    clear n_HB
    clear BK11
    have BK11 := n_BK11
    clear n_BK11
    clear RR
    have RR := n_RR
    clear n_RR
    clear hb
    refine hK.out _ _ (BK11.out) (fun hHeld => ?_)
    clear hK K
    refine norm_ (a' := ?_) ?_ ?_
    rotate_left
    · show Act.put _ (some 68) _ = _
      simp only [Act.put, List.setIfInBounds_toArray, List.set_cons_zero, List.set_cons_succ, i64_w, i32_w]
      rfl
    refine pure_ (i := 8) (N := some 70) (v := ?_) (a' := ?_) #[true, true, true, true, true, true, true, true, true, false, false, false] rfl rfl (by kernel_rfl) (fun _ _ _ h => h) (Or.inl ⟨by rfl, ?_⟩) ?_ ?_
    rotate_left
    · intro w'
      go_simp
      with_reducible rfl
    rotate_left
    · simp only [Act.put, List.setIfInBounds_toArray, List.set_cons_zero, List.set_cons_succ, i64_w, i32_w]
      rfl
    refine pure_ (i := 9) (N := some 8) (v := ?_) (a' := ?_) #[true, true, true, true, true, true, true, true, true, true, false, false] rfl rfl (by kernel_rfl) (fun _ _ _ h => h) (Or.inl ⟨by rfl, ?_⟩) ?_ ?_
    rotate_left
    · intro w'
      go_simp
      with_reducible rfl
    rotate_left
    · simp only [Act.put, List.setIfInBounds_toArray, List.set_cons_zero, List.set_cons_succ, i64_w, i32_w]
      rfl
    refine pure_ (i := 10) (N := some 9) (v := ?_) (a' := ?_) #[true, true, true, true, true, true, true, true, true, true, true, false] rfl rfl (by kernel_rfl) (fun _ _ _ h => h) (Or.inl ⟨by rfl, ?_⟩) ?_ ?_
    rotate_left
    · intro w'
      go_simp
      with_reducible rfl
    rotate_left
    · simp only [Act.put, List.setIfInBounds_toArray, List.set_cons_zero, List.set_cons_succ, i64_w, i32_w]
      rfl
    refine pure_ (i := 11) (N := some 10) (v := ?_) (a' := ?_) #[true, true, true, true, true, true, true, true, true, true, true, true] rfl rfl (by kernel_rfl) (fun _ _ _ h => h) (Or.inl ⟨by rfl, ?_⟩) ?_ ?_
    rotate_left
    · intro w'
      go_simp
      with_reducible rfl
    rotate_left
    · simp only [Act.put, List.setIfInBounds_toArray, List.set_cons_zero, List.set_cons_succ, i64_w, i32_w]
      rfl
    refine done_ (by kernel_rfl) ?_
    clear hHeld
    go_wp2_with fail
    go_ret3
    exact ⟨_, rfl, RR.out, HB.out⟩
  by_cases h5 : 0 < (i : Int)
  case pos =>
    have h6 : ((q : Int) == 0) = false := by
      have : ¬ (q : Int) = 0 := fun h => hbad (by unfold bad; omega)
      simpa using this
    clear hbad
    go_wp2_with fail
    clear hsl
    refine (j_cl BK11.out hbd.out hbl.out (by omega)).mono ?_
    rintro e w4 ⟨v1, rfl, hR, hb⟩
    rw [← hbo.out] at hR
    have RR := Aside0.mk (Kd.R_lower hR HB.out.size)
    have HB' := Aside0.mk (below_step HB.out hb)
    have BK11' := Aside0.mk (blk_below BK11.out hb)
    obtain ⟨A1, c1, hv1⟩ := Kd.R_slice hR
    clear hR hb HB BK11
    have HB := HB'
    have BK11 := BK11'
    clear HB' BK11'
    subst hv1
    have hbol : bo.length ≤ 53 := by rw [hbo.out, hbl.out]; omega
    clear hbl hbd
    go_wp2_with fail
    have n_HB := Aside0.mk (below_step HB.out (below_drew (Below.refl _ _)))
    have n_BK11 := Aside0.mk (blk_below BK11.out (below_drew (Below.refl _ _)))
    have n_RR := Aside0.mk (Kd.R_below RR.out (below_drew (Below.refl _ _)))
    clear HB
    have HB := n_HB
    clear n_HB
    clear BK11
    have BK11 := n_BK11
    clear n_BK11
    clear RR
    have RR := n_RR
    clear n_RR
    refine start_ (n := 12) (S := fun w' => w'.heap[g]? = some (.cells b.cs.toArray 46 (0, 0))) (ds := []) #[false, false, false, false, false, false, false, false, false, false, false, false] (by kernel_rfl) rfl rfl (BK11.out) (fun hHeld => ?_)
    generalize w4.drew = w5 at HB BK11 RR hHeld ⊢
    refine pure_ (i := 0) (N := some 62) (v := ?_) (a' := ?_) #[true, false, false, false, false, false, false, false, false, false, false, false] rfl rfl (by kernel_rfl) (fun _ _ _ h => h) (Or.inl ⟨by rfl, ?_⟩) ?_ ?_
    rotate_left
    · intro w'
      go_simp
      with_reducible rfl
    rotate_left
    · simp only [Act.put, List.setIfInBounds_toArray, List.set_cons_zero, List.set_cons_succ, i64_w, i32_w]
      rfl
    refine pure_ (i := 1) (N := some 63) (v := ?_) (a' := ?_) #[true, true, false, false, false, false, false, false, false, false, false, false] rfl rfl (by kernel_rfl) (fun _ _ _ h => h) (Or.inl ⟨by rfl, ?_⟩) ?_ ?_
    rotate_left
    · intro w'
      go_simp
      with_reducible rfl
    rotate_left
    · simp only [Act.put, List.setIfInBounds_toArray, List.set_cons_zero, List.set_cons_succ, i64_w, i32_w]
      rfl
    refine pure_ (i := 2) (N := some 64) (v := ?_) (a' := ?_) #[true, true, true, false, false, false, false, false, false, false, false, false] rfl rfl (by kernel_rfl) (fun _ _ _ h => h) (Or.inl ⟨by rfl, ?_⟩) ?_ ?_
    rotate_left
    · intro w'
      go_simp
      with_reducible rfl
    rotate_left
    · simp only [Act.put, List.setIfInBounds_toArray, List.set_cons_zero, List.set_cons_succ, i64_w, i32_w]
      rfl
    refine pure_ (i := 3) (N := some 65) (v := ?_) (a' := ?_) #[true, true, true, true, false, false, false, false, false, false, false, false] rfl rfl (by kernel_rfl) (fun _ _ _ h => h) (Or.inl ⟨by rfl, ?_⟩) ?_ ?_
    rotate_left
    · intro w'
      go_simp
      with_reducible rfl
    rotate_left
    · simp only [Act.put, List.setIfInBounds_toArray, List.set_cons_zero, List.set_cons_succ, i64_w, i32_w]
      rfl
    refine pure_ (i := 4) (N := some 66) (v := ?_) (a' := ?_) #[true, true, true, true, true, false, false, false, false, false, false, false] rfl rfl (by kernel_rfl) (fun _ _ _ h => h) (Or.inl ⟨by rfl, ?_⟩) ?_ ?_
    rotate_left
    · intro w'
      go_simp
      with_reducible rfl
    rotate_left
    · simp only [Act.put, List.setIfInBounds_toArray, List.set_cons_zero, List.set_cons_succ, i64_w, i32_w]
      rfl
    refine pure_ (i := 5) (N := some 67) (v := ?_) (a' := ?_) #[true, true, true, true, true, true, false, false, false, false, false, false] rfl rfl (by kernel_rfl) (fun _ _ _ h => h) (Or.inl ⟨by rfl, ?_⟩) ?_ ?_
    rotate_left
    · intro w'
      go_simp
      with_reducible rfl
    rotate_left
    · simp only [Act.put, List.setIfInBounds_toArray, List.set_cons_zero, List.set_cons_succ, i64_w, i32_w]
      rfl
    refine take_ (i := 7) (N := some 69) (v := ?_) (a' := ?_) #[true, true, true, true, true, true, false, true, false, false, false, false] rfl rfl (by kernel_rfl) (fun _ _ _ h => h) (Or.inl ⟨by rfl, ?_⟩) hHeld ?_ ?_
    rotate_left
    · intro w' s0
      refine load_run 46 (.tmp 11) ?_ g ?_ 46 _ (0, 0) _ s0 bk_und rfl (by rw [bk_sz]; exact bk_info) <;> rfl
    rotate_left
    · simp only [Act.put, List.setIfInBounds_toArray, List.set_cons_zero, List.set_cons_succ, i64_w, i32_w]
      rfl
    refine one_ (i := 6) (N := some 68) #[true, true, true, true, true, true, true, true, false, false, false, false] rfl rfl (by kernel_rfl) (by decide) (fun K hK => ?_)
    refine goes_ Try.func40 (by kernel_rfl) rfl #[.int .i64 n, .int .i64 i, .int .i64 M, .slice A1 bo.length c1] (by rfl) rfl rfl (by (try simp only [List.map_toArray, List.map_cons, List.map_nil]); first | done | rfl) ?_
    with_reducible refine (j_laid_eq hy.out (Kd.R_reads' RR.out).2.2 hbol (by omega) (by omega) (by omega)).mono ?_
    rintro e y3_ ⟨rfl, hb⟩
    refine ⟨_, rfl, ?_⟩
    have n_HB := Aside0.mk (below_step HB.out hb)
    have n_BK11 := Aside0.mk (blk_below BK11.out hb)
    have n_RR := Aside0.mk (Kd.R_below RR.out hb)
    clear HB
    have HB := n_HB
    clear n_HB
    clear BK11
    have BK11 := n_BK11
    clear n_BK11
    clear RR
    have RR := n_RR
    clear n_RR
    clear hb
    refine hK.out _ _ (BK11.out) (fun hHeld => ?_)
    clear hK K
    refine norm_ (a' := ?_) ?_ ?_
    rotate_left
    · show Act.put _ (some 68) _ = _
      simp only [Act.put, List.setIfInBounds_toArray, List.set_cons_zero, List.set_cons_succ, i64_w, i32_w]
      rfl
    refine pure_ (i := 8) (N := some 70) (v := ?_) (a' := ?_) #[true, true, true, true, true, true, true, true, true, false, false, false] rfl rfl (by kernel_rfl) (fun _ _ _ h => h) (Or.inl ⟨by rfl, ?_⟩) ?_ ?_
    rotate_left
    · intro w'
      go_simp
      with_reducible rfl
    rotate_left
    · simp only [Act.put, List.setIfInBounds_toArray, List.set_cons_zero, List.set_cons_succ, i64_w, i32_w]
      rfl
    refine pure_ (i := 9) (N := some 8) (v := ?_) (a' := ?_) #[true, true, true, true, true, true, true, true, true, true, false, false] rfl rfl (by kernel_rfl) (fun _ _ _ h => h) (Or.inl ⟨by rfl, ?_⟩) ?_ ?_
    rotate_left
    · intro w'
      go_simp
      with_reducible rfl
    rotate_left
    · simp only [Act.put, List.setIfInBounds_toArray, List.set_cons_zero, List.set_cons_succ, i64_w, i32_w]
      rfl
    refine pure_ (i := 10) (N := some 9) (v := ?_) (a' := ?_) #[true, true, true, true, true, true, true, true, true, true, true, false] rfl rfl (by kernel_rfl) (fun _ _ _ h => h) (Or.inl ⟨by rfl, ?_⟩) ?_ ?_
    rotate_left
    · intro w'
      go_simp
      with_reducible rfl
    rotate_left
    · simp only [Act.put, List.setIfInBounds_toArray, List.set_cons_zero, List.set_cons_succ, i64_w, i32_w]
      rfl
    refine pure_ (i := 11) (N := some 10) (v := ?_) (a' := ?_) #[true, true, true, true, true, true, true, true, true, true, true, true] rfl rfl (by kernel_rfl) (fun _ _ _ h => h) (Or.inl ⟨by rfl, ?_⟩) ?_ ?_
    rotate_left
    · intro w'
      go_simp
      with_reducible rfl
    rotate_left
    · simp only [Act.put, List.setIfInBounds_toArray, List.set_cons_zero, List.set_cons_succ, i64_w, i32_w]
      rfl
    refine done_ (by kernel_rfl) ?_
    clear hHeld
    go_wp2_with fail
    go_ret3
    exact ⟨_, rfl, RR.out, HB.out⟩
  clear hbad
  go_wp2_with fail
  clear hsl
  refine (j_cl BK11.out hbd.out hbl.out (by omega)).mono ?_
  rintro e w4 ⟨v1, rfl, hR, hb⟩
  rw [← hbo.out] at hR
  have RR := Aside0.mk (Kd.R_lower hR HB.out.size)
  have HB' := Aside0.mk (below_step HB.out hb)
  have BK11' := Aside0.mk (blk_below BK11.out hb)
  obtain ⟨A1, c1, hv1⟩ := Kd.R_slice hR
  clear hR hb HB BK11
  have HB := HB'
  have BK11 := BK11'
  clear HB' BK11'
  subst hv1
  have hbol : bo.length ≤ 53 := by rw [hbo.out, hbl.out]; omega
  clear hbl hbd
  go_wp2_with fail
  have n_HB := Aside0.mk (below_step HB.out (below_drew (Below.refl _ _)))
  have n_BK11 := Aside0.mk (blk_below BK11.out (below_drew (Below.refl _ _)))
  have n_RR := Aside0.mk (Kd.R_below RR.out (below_drew (Below.refl _ _)))
  clear HB
  have HB := n_HB
  clear n_HB
  clear BK11
  have BK11 := n_BK11
  clear n_BK11
  clear RR
  have RR := n_RR
  clear n_RR
  refine start_ (n := 12) (S := fun w' => w'.heap[g]? = some (.cells b.cs.toArray 46 (0, 0))) (ds := []) #[false, false, false, false, false, false, false, false, false, false, false, false] (by kernel_rfl) rfl rfl (BK11.out) (fun hHeld => ?_)
  generalize w4.drew = w5 at HB BK11 RR hHeld ⊢
  refine pure_ (i := 0) (N := some 62) (v := ?_) (a' := ?_) #[true, false, false, false, false, false, false, false, false, false, false, false] rfl rfl (by kernel_rfl) (fun _ _ _ h => h) (Or.inl ⟨by rfl, ?_⟩) ?_ ?_
  rotate_left
  · intro w'
    go_simp
    with_reducible rfl
  rotate_left
  · simp only [Act.put, List.setIfInBounds_toArray, List.set_cons_zero, List.set_cons_succ, i64_w, i32_w]
    rfl
  refine pure_ (i := 1) (N := some 63) (v := ?_) (a' := ?_) #[true, true, false, false, false, false, false, false, false, false, false, false] rfl rfl (by kernel_rfl) (fun _ _ _ h => h) (Or.inl ⟨by rfl, ?_⟩) ?_ ?_
  rotate_left
  · intro w'
    go_simp
    with_reducible rfl
  rotate_left
  · simp only [Act.put, List.setIfInBounds_toArray, List.set_cons_zero, List.set_cons_succ, i64_w, i32_w]
    rfl
  refine pure_ (i := 2) (N := some 64) (v := ?_) (a' := ?_) #[true, true, true, false, false, false, false, false, false, false, false, false] rfl rfl (by kernel_rfl) (fun _ _ _ h => h) (Or.inl ⟨by rfl, ?_⟩) ?_ ?_
  rotate_left
  · intro w'
    go_simp
    with_reducible rfl
  rotate_left
  · simp only [Act.put, List.setIfInBounds_toArray, List.set_cons_zero, List.set_cons_succ, i64_w, i32_w]
    rfl
  refine pure_ (i := 3) (N := some 65) (v := ?_) (a' := ?_) #[true, true, true, true, false, false, false, false, false, false, false, false] rfl rfl (by kernel_rfl) (fun _ _ _ h => h) (Or.inl ⟨by rfl, ?_⟩) ?_ ?_
  rotate_left
  · intro w'
    go_simp
    with_reducible rfl
  rotate_left
  · simp only [Act.put, List.setIfInBounds_toArray, List.set_cons_zero, List.set_cons_succ, i64_w, i32_w]
    rfl
  refine pure_ (i := 4) (N := some 66) (v := ?_) (a' := ?_) #[true, true, true, true, true, false, false, false, false, false, false, false] rfl rfl (by kernel_rfl) (fun _ _ _ h => h) (Or.inl ⟨by rfl, ?_⟩) ?_ ?_
  rotate_left
  · intro w'
    go_simp
    with_reducible rfl
  rotate_left
  · simp only [Act.put, List.setIfInBounds_toArray, List.set_cons_zero, List.set_cons_succ, i64_w, i32_w]
    rfl
  refine pure_ (i := 5) (N := some 67) (v := ?_) (a' := ?_) #[true, true, true, true, true, true, false, false, false, false, false, false] rfl rfl (by kernel_rfl) (fun _ _ _ h => h) (Or.inl ⟨by rfl, ?_⟩) ?_ ?_
  rotate_left
  · intro w'
    go_simp
    with_reducible rfl
  rotate_left
  · simp only [Act.put, List.setIfInBounds_toArray, List.set_cons_zero, List.set_cons_succ, i64_w, i32_w]
    rfl
  refine take_ (i := 7) (N := some 69) (v := ?_) (a' := ?_) #[true, true, true, true, true, true, false, true, false, false, false, false] rfl rfl (by kernel_rfl) (fun _ _ _ h => h) (Or.inl ⟨by rfl, ?_⟩) hHeld ?_ ?_
  rotate_left
  · intro w' s0
    refine load_run 46 (.tmp 11) ?_ g ?_ 46 _ (0, 0) _ s0 bk_und rfl (by rw [bk_sz]; exact bk_info) <;> rfl
  rotate_left
  · simp only [Act.put, List.setIfInBounds_toArray, List.set_cons_zero, List.set_cons_succ, i64_w, i32_w]
    rfl
  refine one_ (i := 6) (N := some 68) #[true, true, true, true, true, true, true, true, false, false, false, false] rfl rfl (by kernel_rfl) (by decide) (fun K hK => ?_)
  refine goes_ Try.func40 (by kernel_rfl) rfl #[.int .i64 n, .int .i64 i, .int .i64 M, .slice A1 bo.length c1] (by rfl) rfl rfl (by (try simp only [List.map_toArray, List.map_cons, List.map_nil]); first | done | rfl) ?_
  with_reducible refine (j_laid_eq hy.out (Kd.R_reads' RR.out).2.2 hbol (by omega) (by omega) (by omega)).mono ?_
  rintro e y4_ ⟨rfl, hb⟩
  refine ⟨_, rfl, ?_⟩
  have n_HB := Aside0.mk (below_step HB.out hb)
  have n_BK11 := Aside0.mk (blk_below BK11.out hb)
  have n_RR := Aside0.mk (Kd.R_below RR.out hb)
  clear HB
  have HB := n_HB
  clear n_HB
  clear BK11
  have BK11 := n_BK11
  clear n_BK11
  clear RR
  have RR := n_RR
  clear n_RR
  clear hb
  refine hK.out _ _ (BK11.out) (fun hHeld => ?_)
  clear hK K
  refine norm_ (a' := ?_) ?_ ?_
  rotate_left
  · show Act.put _ (some 68) _ = _
    simp only [Act.put, List.setIfInBounds_toArray, List.set_cons_zero, List.set_cons_succ, i64_w, i32_w]
    rfl
  refine pure_ (i := 8) (N := some 70) (v := ?_) (a' := ?_) #[true, true, true, true, true, true, true, true, true, false, false, false] rfl rfl (by kernel_rfl) (fun _ _ _ h => h) (Or.inl ⟨by rfl, ?_⟩) ?_ ?_
  rotate_left
  · intro w'
    go_simp
    with_reducible rfl
  rotate_left
  · simp only [Act.put, List.setIfInBounds_toArray, List.set_cons_zero, List.set_cons_succ, i64_w, i32_w]
    rfl
  refine pure_ (i := 9) (N := some 8) (v := ?_) (a' := ?_) #[true, true, true, true, true, true, true, true, true, true, false, false] rfl rfl (by kernel_rfl) (fun _ _ _ h => h) (Or.inl ⟨by rfl, ?_⟩) ?_ ?_
  rotate_left
  · intro w'
    go_simp
    with_reducible rfl
  rotate_left
  · simp only [Act.put, List.setIfInBounds_toArray, List.set_cons_zero, List.set_cons_succ, i64_w, i32_w]
    rfl
  refine pure_ (i := 10) (N := some 9) (v := ?_) (a' := ?_) #[true, true, true, true, true, true, true, true, true, true, true, false] rfl rfl (by kernel_rfl) (fun _ _ _ h => h) (Or.inl ⟨by rfl, ?_⟩) ?_ ?_
  rotate_left
  · intro w'
    go_simp
    with_reducible rfl
  rotate_left
  · simp only [Act.put, List.setIfInBounds_toArray, List.set_cons_zero, List.set_cons_succ, i64_w, i32_w]
    rfl
  refine pure_ (i := 11) (N := some 10) (v := ?_) (a' := ?_) #[true, true, true, true, true, true, true, true, true, true, true, true] rfl rfl (by kernel_rfl) (fun _ _ _ h => h) (Or.inl ⟨by rfl, ?_⟩) ?_ ?_
  rotate_left
  · intro w'
    go_simp
    with_reducible rfl
  rotate_left
  · simp only [Act.put, List.setIfInBounds_toArray, List.set_cons_zero, List.set_cons_succ, i64_w, i32_w]
    rfl
  refine done_ (by kernel_rfl) ?_
  clear hHeld
  go_wp2_with fail
  go_ret3
  exact ⟨_, rfl, RR.out, HB.out⟩
end
section
/-- Of a row of blocks from one on: how many parts the first one tells; is a place's part one of them; how many are, from the first one on; their bytes. -/
def recN (f : Nat → Bk × Int) (n : Nat) : Int := (rdp (f 0) n 0).2.1
def good (f : Nat → Bk × Int) (n i : Nat) : Bool := (rdp (f i) n i).2.2 && decide ((rdp (f i) n i).2.1 = recN f n)
def upto (g : Nat → Bool) : Nat → Nat → Nat
  | 0, i => i
  | m + 1, i => if g i = true then upto g m (i + 1) else i
def recK (f : Nat → Bk × Int) (n : Nat) : Nat := upto (good f n) (recN f n).toNat 0
def recL (f : Nat → Bk × Int) (n : Nat) : List (List Int) := (List.range (recK f n)).map (fun i => (rdp (f i) n i).1)
def recP (f : Nat → Bk × Int) (n : Nat) : Option (List Int) := if recN f n < 1 ∨ (recK f n : Int) ≠ recN f n then none else some (recL f n).flatten
theorem upto_all (g : Nat → Bool) : ∀ m i, i ≤ upto g m i ∧ upto g m i ≤ i + m ∧ (∀ j, i ≤ j → j < upto g m i → g j = true) ∧ (upto g m i < i + m → g (upto g m i) = false)
  | 0, i => ⟨Nat.le_refl _, Nat.le_refl _, fun j h1 h2 => by unfold upto at h2; omega, fun h => by unfold upto at h; omega⟩
  | m + 1, i => by
    unfold upto
    by_cases h : g i = true
    · rw [if_pos h]
      obtain ⟨h1, h2, h3, h4⟩ := upto_all g m (i + 1)
      refine ⟨by omega, by omega, fun j hj hj2 => ?_, fun hl => h4 (by omega)⟩
      by_cases e : j = i
      · subst e; exact h
      · exact h3 j (by omega) hj2
    · rw [if_neg h]
      exact ⟨Nat.le_refl _, by omega, fun j h1 h2 => by omega, fun _ => by simpa using h⟩
theorem takeWhile_range (g : Nat → Bool) (m : Nat) : upto g m 0 ≤ m ∧ (∀ i, i < upto g m 0 → g i = true) ∧ (upto g m 0 < m → g (upto g m 0) = false) := by
  obtain ⟨_, h2, h3, h4⟩ := upto_all g m 0
  rw [Nat.zero_add] at h2 h4
  exact ⟨h2, fun i hi => h3 i (Nat.zero_le _) hi, h4⟩
theorem rdp_N {x : Bk × Int} (h : okB x.1) (n i : Nat) : 0 ≤ (rdp x n i).2.1 ∧ (rdp x n i).2.1 ≤ 255 := by
  have := okB_at h 5 (by omega)
  unfold rdp
  split
  · simp
  · split
    · simp
    · show 0 ≤ cnt x.1 ∧ cnt x.1 ≤ 255
      unfold cnt
      omega
theorem rdp_none (x : Bk × Int) (n i : Nat) (h : (rdp x n i).2.1 ≤ i) : (rdp x n i).2.2 = false := by
  unfold rdp at h ⊢
  split
  · rfl
  · rename_i h1
    rw [if_neg h1] at h
    split
    · rfl
    · rename_i h2
      rw [if_neg h2] at h
      exact absurd (show bad (cnt x.1) (siz x.1) i from .inr (.inl h)) h2
theorem recK_le {f : Nat → Bk × Int} {n : Nat} (h : okB (f 0).1) : recK f n ≤ 255 ∧ (recK f n : Int) ≤ recN f n ∧ 0 ≤ recN f n := by
  have h1 := (takeWhile_range (good f n) (recN f n).toNat).1
  have h2 := rdp_N h n 0
  unfold recK
  have h3 : 0 ≤ recN f n ∧ recN f n ≤ 255 := h2
  omega
/-- Is the place's part one of them? -/
theorem good_iff {f : Nat → Bk × Int} {n i : Nat} (h : okB (f 0).1) (hi : i ≤ recK f n) (hne : ¬ (0 < i ∧ (i : Int) = recN f n)) : good f n i = decide (i < recK f n) := by
  obtain ⟨h1, h2, h3⟩ := takeWhile_range (good f n) (recN f n).toNat
  have hk := recK_le (n := n) h
  by_cases hlt : i < recK f n
  · rw [h2 i hlt, decide_eq_true hlt]
  · rw [decide_eq_false hlt]
    obtain rfl : i = recK f n := by omega
    by_cases hl : recK f n < (recN f n).toNat
    · exact h3 hl
    · have h0 : recK f n = 0 := by omega
      rw [h0]
      have hn0 : recN f n = 0 := by omega
      have := rdp_none (f 0) n 0 (by show recN f n ≤ _; omega)
      rw [good, this, Bool.false_and]
theorem recL_len (f : Nat → Bk × Int) (n : Nat) : (recL f n).length = recK f n := by simp [recL]
theorem R_row {α : Type} {d : Kd α} {e base t g : Nat} {w : World} {ok : Nat → Prop} {v : Value} {xs : List α} {cells : Array Value} (h : d.R e w base ok v xs) (hb : w.heap[g]? = some (.cells cells t (0, 0))) (ht : ∀ q, q ∈ e :: d.E → q ≠ t) (cs : Array Value) : d.R e (w.setRow g cs) base ok v xs :=
  Kd.R_mono (Kd.R_step (Kd.R_types h hb ht) (fun k hk _ => setRow_other w g k cs hk.2)) (fun _ hk => hk.1)
variable {B : Nat} {w w' : World} {p gl gm : Nat} {v : Value} {L : List (Bk × Bool)} {W : List (Int × Bk)}
theorem JBk.below {pj u : Nat} {lv : Value} (h : JBk w pj p lv u) (hb : Below w.heap.size w w') : JBk w' pj p lv u := blk_below h hb
set_option maxHeartbeats 8000000 in
set_option maxRecDepth 100000 in
theorem j_recc_end {gw : Nat} (i : Nat) (a2 a3 a4 : Value) (hgw : w.heap[gw]? = some (.cells #[.int .i64 i] 3 (0, 0))) : Calls Try.prog 48 #[.int .i64 i, .pointer (some ⟨gw, 0, none⟩), a2, a3, a4] w fun e w' => e = .returned (.tuple #[.slice none 0 0, .bool false]) ∧ w' = w := by
  have hc : w.cell? ⟨gw, 0, none⟩ = some (.int .i64 i) := (blk_cell hgw 0).trans rfl
  go_enter Try.func48, Try.ntmps48
  go_wp2_with fail
  go_ret2
  exact ⟨rfl, rfl⟩
set_option maxHeartbeats 8000000 in
set_option maxRecDepth 100000 in
theorem j_recc (h : SA B w p gl gm v L W) {pj u : Nat} {lv : Value} (hj : JBk w pj p lv u) {gw gj ga gn at_ n : Nat} {b : Int} (hgw : w.heap[gw]? = some (.cells #[.int .i64 b] 3 (0, 0))) (hgj : w.heap[gj]? = some (.cells #[.pointer (some ⟨pj, 0, none⟩)] 32 (0, 0))) (hga : w.heap[ga]? = some (.cells #[.int .i64 at_] 3 (0, 0))) (hgn : w.heap[gn]? = some (.cells #[.int .i64 n] 3 (0, 0)))
    (i : Nat) (ha : at_ ≤ 100000) (hn : n ≤ 100000) (hi : i ≤ 255) (hok : ∀ a, okB (rd L W a).1) (hne : ¬ (i : Int) = b) {bd : List Int} {M b' : Int} {ok : Bool} (hr : rdp (rd L W ((at_ + i : Nat) : Int)) n i = (bd, M, ok)) (hb' : b' = if b < 0 then M else b) :
    Calls Try.prog 48 #[.int .i64 i, .pointer (some ⟨gw, 0, none⟩), .pointer (some ⟨gj, 0, none⟩), .pointer (some ⟨ga, 0, none⟩), .pointer (some ⟨gn, 0, none⟩)] w fun e w' => ∃ v1, e = .returned (.tuple #[v1, .bool (ok && decide (M = b'))]) ∧ Kd.R (Kd.int .u8) 5 w' w.heap.size (fun _ => True) v1 bd ∧ w'.heap[gw]? = some (.cells #[.int .i64 b'] 3 (0, 0)) ∧ Mv (fun k => k = gw) (fun k => k = gw) w w' := by
  have HR0 := j_read h hj at_ n i ha hn hi hok
  rw [hr] at HR0
  replace HR0 := Aside0.mk HR0
  have c1 : w.cell? ⟨gw, 0, none⟩ = some (.int .i64 b) := (blk_cell hgw 0).trans rfl
  have c2 : w.cell? ⟨gj, 0, none⟩ = some (.pointer (some ⟨pj, 0, none⟩)) := (blk_cell hgj 0).trans rfl
  have c3 : w.cell? ⟨ga, 0, none⟩ = some (.int .i64 at_) := (blk_cell hga 0).trans rfl
  have c4 : w.cell? ⟨gn, 0, none⟩ = some (.int .i64 n) := (blk_cell hgn 0).trans rfl
  have e1 : ((i : Int) == b) = false := by simpa using hne
  have HW := Aside0.mk hgw
  clear h hj hgw hgj hga hgn hok hr hne
  replace hb' := Aside0.mk hb'
  go_enter Try.func48, Try.ntmps48
  go_wp2_with fail
  refine HR0.out.mono ?_
  rintro e w1 ⟨v1, rfl, hR, hb⟩
  have RR := Aside0.mk hR
  have HB := Aside0.mk hb
  have BKw := Aside0.mk (blk_below HW.out hb)
  clear hR hb HR0 c1 c2 c3 c4 HW e1
  obtain ⟨A1, c1, hv1⟩ := Kd.R_slice RR.out
  subst hv1
  have k1 : w1.cell? ⟨gw, 0, none⟩ = some (.int .i64 b) := (blk_cell BKw.out 0).trans rfl
  have kf := blk_frozen BKw.out 0
  have HM := Aside0.mk (Mv.of_below (F := fun k => k = gw) HB.out)
  by_cases hb0 : b < 0
  case pos =>
    obtain rfl : b' = M := by rw [hb'.out, if_pos hb0]
    go_wp2_with fail
    rw [put_step BKw.out]
    have RR' := Aside0.mk (R_row RR.out BKw.out (by decide) (#[Value.int .i64 b].setIfInBounds 0 (.int .i64 b')))
    have HM' := Aside0.mk (HM.out.trans (Mv.row (F := fun k => k = gw) w1 gw rfl (#[Value.int .i64 b].setIfInBounds 0 (.int .i64 b'))))
    have BKw' := Aside0.mk (setRow_heap w1 gw _ (#[Value.int .i64 b].setIfInBounds 0 (.int .i64 b')) 3 (0, 0) BKw.out)
    rw [show #[Value.int .i64 b].setIfInBounds 0 (.int .i64 b') = #[Value.int .i64 b'] from rfl] at RR' HM' BKw' ⊢
    clear RR HM BKw k1 kf HB
    generalize w1.setRow gw #[Value.int .i64 b'] = w2 at RR' HM' BKw' ⊢
    have RR := RR'
    have HM := HM'
    have BKw := BKw'
    clear RR' HM' BKw'
    cases ok
    case false =>
      go_wp2_with fail
      have n_RR := Aside0.mk (Kd.R_below RR.out (below_drew (Below.refl _ _)))
      have n_HM := Aside0.mk (HM.out.trans (Mv.of_below (below_drew (Below.refl _ _))))
      have n_BKw := Aside0.mk (blk_below BKw.out (below_drew (Below.refl _ _)))
      clear RR
      have RR := n_RR
      clear n_RR
      clear HM
      have HM := n_HM
      clear n_HM
      clear BKw
      have BKw := n_BKw
      clear n_BKw
      refine start_ (n := 9) (S := fun w' => w'.cell? ⟨gw, 0, none⟩ = some (.int .i64 b')) (ds := []) #[false, false, false, false, false, false, false, false, false] (by kernel_rfl) rfl rfl ((blk_cell BKw.out 0).trans rfl) (fun hHeld => ?_)
      generalize w2.drew = w3 at RR HM BKw hHeld ⊢
      refine pure_ (i := 0) (N := some 26) (v := ?_) (a' := ?_) #[true, false, false, false, false, false, false, false, false] rfl rfl (by kernel_rfl) (fun _ _ _ h => h) (Or.inl ⟨by rfl, ?_⟩) ?_ ?_
      rotate_left
      · intro w'
        go_simp
        with_reducible rfl
      rotate_left
      · simp only [Act.put, List.setIfInBounds_toArray, List.set_cons_zero, List.set_cons_succ, i64_w, i32_w]
        rfl
      refine pure_ (i := 1) (N := some 27) (v := ?_) (a' := ?_) #[true, true, false, false, false, false, false, false, false] rfl rfl (by kernel_rfl) (fun _ _ _ h => h) (Or.inl ⟨by rfl, ?_⟩) ?_ ?_
      rotate_left
      · intro w'
        go_simp
        with_reducible rfl
      rotate_left
      · simp only [Act.put, List.setIfInBounds_toArray, List.set_cons_zero, List.set_cons_succ, i64_w, i32_w]
        rfl
      refine pure_ (i := 2) (N := some 28) (v := ?_) (a' := ?_) #[true, true, true, false, false, false, false, false, false] rfl rfl (by kernel_rfl) (fun _ _ _ h => h) (Or.inl ⟨by rfl, ?_⟩) ?_ ?_
      rotate_left
      · intro w'
        go_simp
        with_reducible rfl
      rotate_left
      · simp only [Act.put, List.setIfInBounds_toArray, List.set_cons_zero, List.set_cons_succ, i64_w, i32_w]
        rfl
      refine pure_ (i := 3) (N := some 29) (v := undef) (a' := ?_) #[true, true, true, true, false, false, false, false, false] rfl rfl (by kernel_rfl) (fun _ _ _ h => h) (Or.inr ⟨by rfl, rfl⟩) ?_ ?_
      rotate_left
      · simp only [Act.put, List.setIfInBounds_toArray, List.set_cons_zero, List.set_cons_succ, i64_w, i32_w]
        rfl
      refine pure_ (i := 4) (N := some 30) (v := undef) (a' := ?_) #[true, true, true, true, true, false, false, false, false] rfl rfl (by kernel_rfl) (fun _ _ _ h => h) (Or.inr ⟨by rfl, rfl⟩) ?_ ?_
      rotate_left
      · simp only [Act.put, List.setIfInBounds_toArray, List.set_cons_zero, List.set_cons_succ, i64_w, i32_w]
        rfl
      refine pure_ (i := 5) (N := some 31) (v := undef) (a' := ?_) #[true, true, true, true, true, true, false, false, false] rfl rfl (by kernel_rfl) (fun _ _ _ h => h) (Or.inr ⟨by rfl, rfl⟩) ?_ ?_
      rotate_left
      · simp only [Act.put, List.setIfInBounds_toArray, List.set_cons_zero, List.set_cons_succ, i64_w, i32_w]
        rfl
      refine pure_ (i := 6) (N := some 32) (v := ?_) (a' := ?_) #[true, true, true, true, true, true, true, false, false] rfl rfl (by kernel_rfl) (fun _ _ _ h => h) (Or.inl ⟨by rfl, ?_⟩) ?_ ?_
      rotate_left
      · intro w'
        go_simp
        with_reducible rfl
      rotate_left
      · simp only [Act.put, List.setIfInBounds_toArray, List.set_cons_zero, List.set_cons_succ, i64_w, i32_w]
        rfl
      refine pure_ (i := 7) (N := some 6) (v := ?_) (a' := ?_) #[true, true, true, true, true, true, true, true, false] rfl rfl (by kernel_rfl) (fun _ _ _ h => h) (Or.inl ⟨by rfl, ?_⟩) ?_ ?_
      rotate_left
      · intro w'
        go_simp
        with_reducible rfl
      rotate_left
      · simp only [Act.put, List.setIfInBounds_toArray, List.set_cons_zero, List.set_cons_succ, i64_w, i32_w]
        rfl
      refine pure_ (i := 8) (N := some 7) (v := ?_) (a' := ?_) #[true, true, true, true, true, true, true, true, true] rfl rfl (by kernel_rfl) (fun _ _ _ h => h) (Or.inl ⟨by rfl, ?_⟩) ?_ ?_
      rotate_left
      · intro w'
        go_simp
        with_reducible rfl
      rotate_left
      · simp only [Act.put, List.setIfInBounds_toArray, List.set_cons_zero, List.set_cons_succ, i64_w, i32_w]
        rfl
      refine done_ (by kernel_rfl) ?_
      clear hHeld
      go_wp2_with fail
      go_ret2
      exact ⟨_, rfl, RR.out, BKw.out, HM.out⟩
    case true =>
      go_wp2_with fail
      have n_RR := Aside0.mk (Kd.R_below RR.out (below_drew (Below.refl _ _)))
      have n_HM := Aside0.mk (HM.out.trans (Mv.of_below (below_drew (Below.refl _ _))))
      have n_BKw := Aside0.mk (blk_below BKw.out (below_drew (Below.refl _ _)))
      clear RR
      have RR := n_RR
      clear n_RR
      clear HM
      have HM := n_HM
      clear n_HM
      clear BKw
      have BKw := n_BKw
      clear n_BKw
      refine start_ (n := 9) (S := fun w' => w'.cell? ⟨gw, 0, none⟩ = some (.int .i64 b')) (ds := []) #[false, false, false, false, false, false, false, false, false] (by kernel_rfl) rfl rfl ((blk_cell BKw.out 0).trans rfl) (fun hHeld => ?_)
      generalize w2.drew = w3 at RR HM BKw hHeld ⊢
      refine pure_ (i := 0) (N := some 26) (v := ?_) (a' := ?_) #[true, false, false, false, false, false, false, false, false] rfl rfl (by kernel_rfl) (fun _ _ _ h => h) (Or.inl ⟨by rfl, ?_⟩) ?_ ?_
      rotate_left
      · intro w'
        go_simp
        with_reducible rfl
      rotate_left
      · simp only [Act.put, List.setIfInBounds_toArray, List.set_cons_zero, List.set_cons_succ, i64_w, i32_w]
        rfl
      refine pure_ (i := 1) (N := some 27) (v := ?_) (a' := ?_) #[true, true, false, false, false, false, false, false, false] rfl rfl (by kernel_rfl) (fun _ _ _ h => h) (Or.inl ⟨by rfl, ?_⟩) ?_ ?_
      rotate_left
      · intro w'
        go_simp
        with_reducible rfl
      rotate_left
      · simp only [Act.put, List.setIfInBounds_toArray, List.set_cons_zero, List.set_cons_succ, i64_w, i32_w]
        rfl
      refine pure_ (i := 2) (N := some 28) (v := ?_) (a' := ?_) #[true, true, true, false, false, false, false, false, false] rfl rfl (by kernel_rfl) (fun _ _ _ h => h) (Or.inl ⟨by rfl, ?_⟩) ?_ ?_
      rotate_left
      · intro w'
        go_simp
        with_reducible rfl
      rotate_left
      · simp only [Act.put, List.setIfInBounds_toArray, List.set_cons_zero, List.set_cons_succ, i64_w, i32_w]
        rfl
      refine pure_ (i := 3) (N := some 29) (v := ?_) (a' := ?_) #[true, true, true, true, false, false, false, false, false] rfl rfl (by kernel_rfl) (fun _ _ _ h => h) (Or.inl ⟨by rfl, ?_⟩) ?_ ?_
      rotate_left
      · intro w'
        go_simp
        with_reducible rfl
      rotate_left
      · simp only [Act.put, List.setIfInBounds_toArray, List.set_cons_zero, List.set_cons_succ, i64_w, i32_w]
        rfl
      refine pure_ (i := 7) (N := some 6) (v := ?_) (a' := ?_) #[true, true, true, true, false, false, false, true, false] rfl rfl (by kernel_rfl) (fun _ _ _ h => h) (Or.inl ⟨by rfl, ?_⟩) ?_ ?_
      rotate_left
      · intro w'
        go_simp
        with_reducible rfl
      rotate_left
      · simp only [Act.put, List.setIfInBounds_toArray, List.set_cons_zero, List.set_cons_succ, i64_w, i32_w]
        rfl
      refine take_ (i := 4) (N := some 30) (v := ?_) (a' := ?_) #[true, true, true, true, true, false, false, true, false] rfl rfl (by kernel_rfl) (fun _ _ _ h => h) (Or.inl ⟨by rfl, ?_⟩) hHeld ?_ ?_
      rotate_left
      · intro w' s0
        go_simp
        with_reducible rfl
      rotate_left
      · simp only [Act.put, List.setIfInBounds_toArray, List.set_cons_zero, List.set_cons_succ, i64_w, i32_w]
        rfl
      refine pure_ (i := 5) (N := some 31) (v := ?_) (a' := ?_) #[true, true, true, true, true, true, false, true, false] rfl rfl (by kernel_rfl) (fun _ _ _ h => h) (Or.inl ⟨by rfl, ?_⟩) ?_ ?_
      rotate_left
      · intro w'
        go_simp
        with_reducible rfl
      rotate_left
      · simp only [Act.put, List.setIfInBounds_toArray, List.set_cons_zero, List.set_cons_succ, i64_w, i32_w]
        rfl
      refine pure_ (i := 6) (N := some 32) (v := ?_) (a' := ?_) #[true, true, true, true, true, true, true, true, false] rfl rfl (by kernel_rfl) (fun _ _ _ h => h) (Or.inl ⟨by rfl, ?_⟩) ?_ ?_
      rotate_left
      · intro w'
        go_simp
        with_reducible rfl
      rotate_left
      · simp only [Act.put, List.setIfInBounds_toArray, List.set_cons_zero, List.set_cons_succ, i64_w, i32_w]
        rfl
      refine pure_ (i := 8) (N := some 7) (v := ?_) (a' := ?_) #[true, true, true, true, true, true, true, true, true] rfl rfl (by kernel_rfl) (fun _ _ _ h => h) (Or.inl ⟨by rfl, ?_⟩) ?_ ?_
      rotate_left
      · intro w'
        go_simp
        with_reducible rfl
      rotate_left
      · simp only [Act.put, List.setIfInBounds_toArray, List.set_cons_zero, List.set_cons_succ, i64_w, i32_w]
        rfl
      refine done_ (by kernel_rfl) ?_
      clear hHeld
      go_wp2_with fail
      go_ret2
      exact ⟨_, rfl, RR.out, BKw.out, HM.out⟩
  obtain rfl : b' = b := by rw [hb'.out, if_neg hb0]
  clear hb' HB
  go_wp2_with fail
  clear k1 kf
  cases ok
  case false =>
    go_wp2_with fail
    have n_RR := Aside0.mk (Kd.R_below RR.out (below_drew (Below.refl _ _)))
    have n_HM := Aside0.mk (HM.out.trans (Mv.of_below (below_drew (Below.refl _ _))))
    have n_BKw := Aside0.mk (blk_below BKw.out (below_drew (Below.refl _ _)))
    clear RR
    have RR := n_RR
    clear n_RR
    clear HM
    have HM := n_HM
    clear n_HM
    clear BKw
    have BKw := n_BKw
    clear n_BKw
    refine start_ (n := 9) (S := fun w' => w'.cell? ⟨gw, 0, none⟩ = some (.int .i64 b')) (ds := []) #[false, false, false, false, false, false, false, false, false] (by kernel_rfl) rfl rfl ((blk_cell BKw.out 0).trans rfl) (fun hHeld => ?_)
    generalize w1.drew = w3 at RR HM BKw hHeld ⊢
    refine pure_ (i := 0) (N := some 26) (v := ?_) (a' := ?_) #[true, false, false, false, false, false, false, false, false] rfl rfl (by kernel_rfl) (fun _ _ _ h => h) (Or.inl ⟨by rfl, ?_⟩) ?_ ?_
    rotate_left
    · intro w'
      go_simp
      with_reducible rfl
    rotate_left
    · simp only [Act.put, List.setIfInBounds_toArray, List.set_cons_zero, List.set_cons_succ, i64_w, i32_w]
      rfl
    refine pure_ (i := 1) (N := some 27) (v := ?_) (a' := ?_) #[true, true, false, false, false, false, false, false, false] rfl rfl (by kernel_rfl) (fun _ _ _ h => h) (Or.inl ⟨by rfl, ?_⟩) ?_ ?_
    rotate_left
    · intro w'
      go_simp
      with_reducible rfl
    rotate_left
    · simp only [Act.put, List.setIfInBounds_toArray, List.set_cons_zero, List.set_cons_succ, i64_w, i32_w]
      rfl
    refine pure_ (i := 2) (N := some 28) (v := ?_) (a' := ?_) #[true, true, true, false, false, false, false, false, false] rfl rfl (by kernel_rfl) (fun _ _ _ h => h) (Or.inl ⟨by rfl, ?_⟩) ?_ ?_
    rotate_left
    · intro w'
      go_simp
      with_reducible rfl
    rotate_left
    · simp only [Act.put, List.setIfInBounds_toArray, List.set_cons_zero, List.set_cons_succ, i64_w, i32_w]
      rfl
    refine pure_ (i := 3) (N := some 29) (v := undef) (a' := ?_) #[true, true, true, true, false, false, false, false, false] rfl rfl (by kernel_rfl) (fun _ _ _ h => h) (Or.inr ⟨by rfl, rfl⟩) ?_ ?_
    rotate_left
    · simp only [Act.put, List.setIfInBounds_toArray, List.set_cons_zero, List.set_cons_succ, i64_w, i32_w]
      rfl
    refine pure_ (i := 4) (N := some 30) (v := undef) (a' := ?_) #[true, true, true, true, true, false, false, false, false] rfl rfl (by kernel_rfl) (fun _ _ _ h => h) (Or.inr ⟨by rfl, rfl⟩) ?_ ?_
    rotate_left
    · simp only [Act.put, List.setIfInBounds_toArray, List.set_cons_zero, List.set_cons_succ, i64_w, i32_w]
      rfl
    refine pure_ (i := 5) (N := some 31) (v := undef) (a' := ?_) #[true, true, true, true, true, true, false, false, false] rfl rfl (by kernel_rfl) (fun _ _ _ h => h) (Or.inr ⟨by rfl, rfl⟩) ?_ ?_
    rotate_left
    · simp only [Act.put, List.setIfInBounds_toArray, List.set_cons_zero, List.set_cons_succ, i64_w, i32_w]
      rfl
    refine pure_ (i := 6) (N := some 32) (v := ?_) (a' := ?_) #[true, true, true, true, true, true, true, false, false] rfl rfl (by kernel_rfl) (fun _ _ _ h => h) (Or.inl ⟨by rfl, ?_⟩) ?_ ?_
    rotate_left
    · intro w'
      go_simp
      with_reducible rfl
    rotate_left
    · simp only [Act.put, List.setIfInBounds_toArray, List.set_cons_zero, List.set_cons_succ, i64_w, i32_w]
      rfl
    refine pure_ (i := 7) (N := some 6) (v := ?_) (a' := ?_) #[true, true, true, true, true, true, true, true, false] rfl rfl (by kernel_rfl) (fun _ _ _ h => h) (Or.inl ⟨by rfl, ?_⟩) ?_ ?_
    rotate_left
    · intro w'
      go_simp
      with_reducible rfl
    rotate_left
    · simp only [Act.put, List.setIfInBounds_toArray, List.set_cons_zero, List.set_cons_succ, i64_w, i32_w]
      rfl
    refine pure_ (i := 8) (N := some 7) (v := ?_) (a' := ?_) #[true, true, true, true, true, true, true, true, true] rfl rfl (by kernel_rfl) (fun _ _ _ h => h) (Or.inl ⟨by rfl, ?_⟩) ?_ ?_
    rotate_left
    · intro w'
      go_simp
      with_reducible rfl
    rotate_left
    · simp only [Act.put, List.setIfInBounds_toArray, List.set_cons_zero, List.set_cons_succ, i64_w, i32_w]
      rfl
    refine done_ (by kernel_rfl) ?_
    clear hHeld
    go_wp2_with fail
    go_ret2
    exact ⟨_, rfl, RR.out, BKw.out, HM.out⟩
  case true =>
    go_wp2_with fail
    have n_RR := Aside0.mk (Kd.R_below RR.out (below_drew (Below.refl _ _)))
    have n_HM := Aside0.mk (HM.out.trans (Mv.of_below (below_drew (Below.refl _ _))))
    have n_BKw := Aside0.mk (blk_below BKw.out (below_drew (Below.refl _ _)))
    clear RR
    have RR := n_RR
    clear n_RR
    clear HM
    have HM := n_HM
    clear n_HM
    clear BKw
    have BKw := n_BKw
    clear n_BKw
    refine start_ (n := 9) (S := fun w' => w'.cell? ⟨gw, 0, none⟩ = some (.int .i64 b')) (ds := []) #[false, false, false, false, false, false, false, false, false] (by kernel_rfl) rfl rfl ((blk_cell BKw.out 0).trans rfl) (fun hHeld => ?_)
    generalize w1.drew = w3 at RR HM BKw hHeld ⊢
    refine pure_ (i := 0) (N := some 26) (v := ?_) (a' := ?_) #[true, false, false, false, false, false, false, false, false] rfl rfl (by kernel_rfl) (fun _ _ _ h => h) (Or.inl ⟨by rfl, ?_⟩) ?_ ?_
    rotate_left
    · intro w'
      go_simp
      with_reducible rfl
    rotate_left
    · simp only [Act.put, List.setIfInBounds_toArray, List.set_cons_zero, List.set_cons_succ, i64_w, i32_w]
      rfl
    refine pure_ (i := 1) (N := some 27) (v := ?_) (a' := ?_) #[true, true, false, false, false, false, false, false, false] rfl rfl (by kernel_rfl) (fun _ _ _ h => h) (Or.inl ⟨by rfl, ?_⟩) ?_ ?_
    rotate_left
    · intro w'
      go_simp
      with_reducible rfl
    rotate_left
    · simp only [Act.put, List.setIfInBounds_toArray, List.set_cons_zero, List.set_cons_succ, i64_w, i32_w]
      rfl
    refine pure_ (i := 2) (N := some 28) (v := ?_) (a' := ?_) #[true, true, true, false, false, false, false, false, false] rfl rfl (by kernel_rfl) (fun _ _ _ h => h) (Or.inl ⟨by rfl, ?_⟩) ?_ ?_
    rotate_left
    · intro w'
      go_simp
      with_reducible rfl
    rotate_left
    · simp only [Act.put, List.setIfInBounds_toArray, List.set_cons_zero, List.set_cons_succ, i64_w, i32_w]
      rfl
    refine pure_ (i := 3) (N := some 29) (v := ?_) (a' := ?_) #[true, true, true, true, false, false, false, false, false] rfl rfl (by kernel_rfl) (fun _ _ _ h => h) (Or.inl ⟨by rfl, ?_⟩) ?_ ?_
    rotate_left
    · intro w'
      go_simp
      with_reducible rfl
    rotate_left
    · simp only [Act.put, List.setIfInBounds_toArray, List.set_cons_zero, List.set_cons_succ, i64_w, i32_w]
      rfl
    refine pure_ (i := 7) (N := some 6) (v := ?_) (a' := ?_) #[true, true, true, true, false, false, false, true, false] rfl rfl (by kernel_rfl) (fun _ _ _ h => h) (Or.inl ⟨by rfl, ?_⟩) ?_ ?_
    rotate_left
    · intro w'
      go_simp
      with_reducible rfl
    rotate_left
    · simp only [Act.put, List.setIfInBounds_toArray, List.set_cons_zero, List.set_cons_succ, i64_w, i32_w]
      rfl
    refine take_ (i := 4) (N := some 30) (v := ?_) (a' := ?_) #[true, true, true, true, true, false, false, true, false] rfl rfl (by kernel_rfl) (fun _ _ _ h => h) (Or.inl ⟨by rfl, ?_⟩) hHeld ?_ ?_
    rotate_left
    · intro w' s0
      go_simp
      with_reducible rfl
    rotate_left
    · simp only [Act.put, List.setIfInBounds_toArray, List.set_cons_zero, List.set_cons_succ, i64_w, i32_w]
      rfl
    refine pure_ (i := 5) (N := some 31) (v := ?_) (a' := ?_) #[true, true, true, true, true, true, false, true, false] rfl rfl (by kernel_rfl) (fun _ _ _ h => h) (Or.inl ⟨by rfl, ?_⟩) ?_ ?_
    rotate_left
    · intro w'
      go_simp
      with_reducible rfl
    rotate_left
    · simp only [Act.put, List.setIfInBounds_toArray, List.set_cons_zero, List.set_cons_succ, i64_w, i32_w]
      rfl
    refine pure_ (i := 6) (N := some 32) (v := ?_) (a' := ?_) #[true, true, true, true, true, true, true, true, false] rfl rfl (by kernel_rfl) (fun _ _ _ h => h) (Or.inl ⟨by rfl, ?_⟩) ?_ ?_
    rotate_left
    · intro w'
      go_simp
      with_reducible rfl
    rotate_left
    · simp only [Act.put, List.setIfInBounds_toArray, List.set_cons_zero, List.set_cons_succ, i64_w, i32_w]
      rfl
    refine pure_ (i := 8) (N := some 7) (v := ?_) (a' := ?_) #[true, true, true, true, true, true, true, true, true] rfl rfl (by kernel_rfl) (fun _ _ _ h => h) (Or.inl ⟨by rfl, ?_⟩) ?_ ?_
    rotate_left
    · intro w'
      go_simp
      with_reducible rfl
    rotate_left
    · simp only [Act.put, List.setIfInBounds_toArray, List.set_cons_zero, List.set_cons_succ, i64_w, i32_w]
      rfl
    refine done_ (by kernel_rfl) ?_
    clear hHeld
    go_wp2_with fail
    go_ret2
    exact ⟨_, rfl, RR.out, BKw.out, HM.out⟩
theorem recc_ok : FnOk Try.prog 48 := ⟨_, Try.func48, by kernel_rfl, by kernel_rfl⟩
/-- What stays while a record is read: the store, the journal's struct, the boxes; the box of how many there are. -/
structure RI (B : Nat) (p gl gm : Nat) (v : Value) (L : List (Bk × Bool)) (W : List (Int × Bk)) (pj u : Nat) (lv : Value) (gw gj ga gn at_ n : Nat) (N : Int) (i : Nat) (w : World) : Prop where
  hs : SA B w p gl gm v L W
  hj : JBk w pj p lv u
  hw : w.heap[gw]? = some (.cells #[.int .i64 (if i = 0 then -1 else N)] 3 (0, 0))
  hgj : w.heap[gj]? = some (.cells #[.pointer (some ⟨pj, 0, none⟩)] 32 (0, 0))
  hga : w.heap[ga]? = some (.cells #[.int .i64 at_] 3 (0, 0))
  hgn : w.heap[gn]? = some (.cells #[.int .i64 n] 3 (0, 0))
theorem RI.step {pj u gw gj ga gn at_ n i : Nat} {lv : Value} {N : Int} (h : RI B p gl gm v L W pj u lv gw gj ga gn at_ n N i w) (hd : gj ≠ gw ∧ ga ≠ gw ∧ gn ≠ gw) (hm : Mv (fun k => k = gw) (fun k => k = gw) w w') (hw : w'.heap[gw]? = some (.cells #[.int .i64 N] 3 (0, 0))) : RI B p gl gm v L W pj u lv gw gj ga gn at_ n N (i + 1) w' :=
  ⟨h.hs.keep (fun k hk => hm.block k (h.hs.lt hk) (fun e => h.hs.far h.hw (by decide) (by rw [← e]; exact hk))), hm.blk h.hj (fun e => by have h1 := h.hj; have h2 := h.hw; unfold JBk at h1; rw [e, h2] at h1; injection h1 with h1; injection h1 with _ h1; exact absurd h1 (by decide)), by rw [if_neg (by omega)]; exact hw, hm.blk h.hgj hd.1, hm.blk h.hga hd.2.1, hm.blk h.hgn hd.2.2⟩
/-- One step of the reading of a record. -/
theorem rec_step {pj u gw gj ga gn at_ n i : Nat} {lv : Value} (ha : at_ ≤ 100000) (hn : n ≤ 100000) (hok : ∀ a, okB (rd L W a).1) (hd : gj ≠ gw ∧ ga ≠ gw ∧ gn ≠ gw) {f : Nat → Bk × Int} (hf : f = fun i => rd L W ((at_ + i : Nat) : Int)) (hi : i ≤ (recL f n).length) (h : RI B p gl gm v L W pj u lv gw gj ga gn at_ n (recN f n) i w) :
    Calls Try.prog 48 (#[.int .i64 ((0 + i : Nat) : Int)] ++ #[.pointer (some ⟨gw, 0, none⟩), .pointer (some ⟨gj, 0, none⟩), .pointer (some ⟨ga, 0, none⟩), .pointer (some ⟨gn, 0, none⟩)]) w fun e w' => ∃ v1, e = .returned (.tuple #[v1, .bool (decide (i < (recL f n).length))]) ∧ (∀ h : i < (recL f n).length, Kd.R (Kd.int .u8) 5 w' w.heap.size (fun _ => True) v1 (recL f n)[i]) ∧ Mv (fun k => k = gw) (fun k => k = gw) w w' ∧ RI B p gl gm v L W pj u lv gw gj ga gn at_ n (recN f n) (i + 1) w' := by
  rw [Nat.zero_add]
  have hok0 : okB (f 0).1 := by rw [hf]; exact hok _
  have hk := recK_le (n := n) hok0
  rw [recL_len] at hi
  by_cases he : 0 < i ∧ (i : Int) = recN f n
  · have hw := h.hw
    rw [if_neg (by omega), ← he.2] at hw
    refine (j_recc_end i _ _ _ hw).mono ?_
    rintro e w1 ⟨rfl, rfl⟩
    have hd0 : decide (i < (recL f n).length) = false := by rw [recL_len]; simp; omega
    rw [hd0]
    refine ⟨_, rfl, fun h' => ?_, Mv.refl _ _, h.step hd (Mv.refl _ _) (by rw [← he.2]; exact hw)⟩
    rw [recL_len] at h'
    omega
  · obtain ⟨b, hb⟩ : ∃ b : Int, b = if i = 0 then -1 else recN f n := ⟨_, rfl⟩
    have hw := h.hw
    rw [← hb] at hw
    have hfi : rd L W ((at_ + i : Nat) : Int) = f i := by rw [hf]
    have hne : ¬ (i : Int) = b := by
      intro e
      by_cases h0 : i = 0
      · rw [if_pos h0] at hb; omega
      · rw [if_neg h0] at hb; exact he ⟨by omega, by rw [e, hb]⟩
    have hb2 : recN f n = if b < 0 then (rdp (f i) n i).2.1 else b := by
      by_cases h0 : i = 0
      · subst h0
        rw [if_pos rfl] at hb
        rw [if_pos (by omega)]
        rfl
      · rw [if_neg h0] at hb
        rw [if_neg (by omega), hb]
    refine (j_recc h.hs h.hj hw h.hgj h.hga h.hgn i ha hn (by omega) hok hne (bd := (rdp (f i) n i).1) (M := (rdp (f i) n i).2.1) (ok := (rdp (f i) n i).2.2) (by rw [hfi]) hb2).mono ?_
    rintro e w1 ⟨v1, rfl, hR, hw1, hm⟩
    have hg := good_iff hok0 hi he
    unfold good at hg
    rw [hg]
    refine ⟨v1, by rw [recL_len], fun h' => ?_, hm, h.step hd hm hw1⟩
    have : (recL f n)[i] = (rdp (f i) n i).1 := by simp [recL]
    rw [this]
    exact hR
theorem rdp_len {x : Bk × Int} (h : okB x.1) (n i : Nat) : (rdp x n i).1.length ≤ 53 := by
  have := okB_at h 6 (by omega)
  unfold rdp
  split
  · simp
  · split
    · simp
    · rename_i h2
      unfold bad at h2
      have h3 : 0 ≤ siz x.1 := this.1
      show (body x.1).length ≤ 53
      rw [body_len (by omega)]
      omega
theorem tot_mul (l : List (List Int)) (h : ∀ r ∈ l, r.length ≤ 53) : tot l ≤ l.length * 53 := by
  induction l with
  | nil => simp [tot]
  | cons x l ih =>
    have h1 := ih (fun r hr => h r (by simp [hr]))
    have h2 := h x (by simp)
    unfold tot at h1 ⊢
    rw [List.flatten_cons, List.length_append, List.length_cons]
    omega
theorem rec_boxes (hs : SA B w p gl gm v L W) {pj u : Nat} {lv : Value} (hj : JBk w pj p lv u) (at_ n : Nat) (N : Int) {w4 : World}
    (e : w4 = (((w.alloc (.cells #[.pointer (some ⟨pj, 0, none⟩)] 32)).alloc (.cells #[.int .i64 at_] 3)).alloc (.cells #[.int .i64 n] 3)).alloc (.cells #[.int .i64 (-1)] 3)) :
    RI B p gl gm v L W pj u lv (w.heap.size + 1 + 1 + 1) w.heap.size (w.heap.size + 1) (w.heap.size + 1 + 1) at_ n N 0 w4 ∧ Below w.heap.size w w4 ∧ w4.heap.size = w.heap.size + 4 := by
  have s1 : (w.alloc (.cells #[.pointer (some ⟨pj, 0, none⟩)] 32)).heap.size = w.heap.size + 1 := by simp
  have s2 : ((w.alloc (.cells #[.pointer (some ⟨pj, 0, none⟩)] 32)).alloc (.cells #[.int .i64 at_] 3)).heap.size = w.heap.size + 1 + 1 := by simp
  have s3 : (((w.alloc (.cells #[.pointer (some ⟨pj, 0, none⟩)] 32)).alloc (.cells #[.int .i64 at_] 3)).alloc (.cells #[.int .i64 n] 3)).heap.size = w.heap.size + 1 + 1 + 1 := by simp
  have hb := below_alloc (below_alloc (below_alloc (below_alloc (Below.refl w.heap.size w) (.cells #[.pointer (some ⟨pj, 0, none⟩)] 32)) (.cells #[.int .i64 at_] 3)) (.cells #[.int .i64 n] 3)) (.cells #[.int .i64 (-1)] 3)
  have k0 := blk_alloc (blk_alloc (blk_alloc (blk_new w (.cells #[.pointer (some ⟨pj, 0, none⟩)] 32)) (.cells #[.int .i64 at_] 3)) (.cells #[.int .i64 n] 3)) (.cells #[.int .i64 (-1)] 3)
  have k1 := blk_alloc (blk_alloc (blk_new (w.alloc (.cells #[.pointer (some ⟨pj, 0, none⟩)] 32)) (.cells #[.int .i64 at_] 3)) (.cells #[.int .i64 n] 3)) (.cells #[.int .i64 (-1)] 3)
  have k2 := blk_alloc (blk_new ((w.alloc (.cells #[.pointer (some ⟨pj, 0, none⟩)] 32)).alloc (.cells #[.int .i64 at_] 3)) (.cells #[.int .i64 n] 3)) (.cells #[.int .i64 (-1)] 3)
  have k3 := blk_new (((w.alloc (.cells #[.pointer (some ⟨pj, 0, none⟩)] 32)).alloc (.cells #[.int .i64 at_] 3)).alloc (.cells #[.int .i64 n] 3)) (.cells #[.int .i64 (-1)] 3)
  rw [s1] at k1
  rw [s2] at k2
  rw [s3] at k3
  rw [← e] at hb k0 k1 k2 k3
  exact ⟨⟨hs.below hb, hj.below hb, k3, k0, k1, k2⟩, hb, by rw [e]; simp⟩
set_option maxHeartbeats 8000000 in
set_option maxRecDepth 100000 in
theorem j_record (h : SA B w p gl gm v L W) {pj u : Nat} {lv : Value} (hj : JBk w pj p lv u) (at_ n : Nat) (ha : at_ ≤ 100000) (hn : n ≤ 100000) (hok : ∀ a, okB (rd L W a).1) :
    Calls Try.prog 35 #[.pointer (some ⟨pj, 0, none⟩), .int .i64 at_, .int .i64 n] w fun e w' => ∃ v1, e = .returned (.tuple #[v1, .bool (recP (fun i => rd L W ((at_ + i : Nat) : Int)) n).isSome]) ∧ (∀ b, recP (fun i => rd L W ((at_ + i : Nat) : Int)) n = some b → Kd.R (Kd.int .u8) 5 w' w.heap.size (fun _ => True) v1 b) ∧ Below w.heap.size w w' := by
  obtain ⟨f, hf⟩ : ∃ f, f = fun (i : Nat) => rd L W ((at_ + i : Nat) : Int) := ⟨_, rfl⟩
  rw [← hf]
  have HS := Aside0.mk h
  have HJ := Aside0.mk hj
  replace hf := Aside0.mk hf
  have hok0 : okB (f 0).1 := by rw [hf.out]; exact hok _
  have hk := recK_le (n := n) hok0
  have hrl : ∀ r ∈ recL f n, r.length ≤ 53 := fun r hr => by
    obtain ⟨i, _, rfl⟩ := List.mem_map.1 hr
    exact rdp_len (by rw [hf.out]; exact hok _) n i
  have ht := tot_mul _ hrl
  rw [recL_len] at ht
  obtain ⟨r, hr⟩ : ∃ r, r = recP f n := ⟨_, rfl⟩
  rw [← hr]
  unfold recP at hr
  replace hr := Aside0.mk hr
  replace hok := Aside0.mk hok
  clear h hj hrl hok0
  go_enter Try.func35, Try.ntmps35
  go_wp2_with fail
  obtain ⟨w4, hw4⟩ : ∃ w4, w4 = (((w.alloc (.cells #[.pointer (some ⟨pj, 0, none⟩)] 32)).alloc (.cells #[.int .i64 at_] 3)).alloc (.cells #[.int .i64 n] 3)).alloc (.cells #[.int .i64 (-1)] 3) := ⟨_, rfl⟩
  obtain ⟨hI, hb, hsz⟩ := rec_boxes HS.out HJ.out at_ n (recN f n) hw4
  have e0 := hw4
  simp only [World.alloc] at e0
  rw [← hw4]
  refine (j_while (n := 48) (start := 0) (caps := #[.pointer (some ⟨w.heap.size + 1 + 1 + 1, 0, none⟩), .pointer (some ⟨w.heap.size, 0, none⟩), .pointer (some ⟨w.heap.size + 1, 0, none⟩), .pointer (some ⟨w.heap.size + 1 + 1, 0, none⟩)]) recc_ok (recL f n) (by rw [recL_len]; omega) (fun k => k = w.heap.size + 1 + 1 + 1) (fun k hk => by omega)
    (RI B p gl gm v L W pj u lv (w.heap.size + 1 + 1 + 1) w.heap.size (w.heap.size + 1) (w.heap.size + 1 + 1) at_ n (recN f n)) hI ?keep (fun i w' hi hm hI => rec_step ha hn hok.out ⟨by omega, by omega, by omega⟩ hf.out hi hI)).mono ?_
  case keep =>
    intro i w' w'' h hk
    exact ⟨h.hs.keep (fun k hf => hk k (hI.hs.lt hf)), (hk pj (blk_lt hI.hj)).trans h.hj, (hk _ (by omega)).trans h.hw, (hk _ (by omega)).trans h.hgj, (hk _ (by omega)).trans h.hga, (hk _ (by omega)).trans h.hgn⟩
  rintro e w5 ⟨vl, rfl, hR, hm, hI5⟩
  have HB := Aside0.mk (hm.below hb (by omega) (fun k hk => by omega))
  have hw5 := hI5.hw
  rw [if_neg (by omega)] at hw5
  have HR := Aside0.mk hR
  obtain ⟨A, c, hA⟩ := Kd.R_slice hR
  subst hA
  have hc := (Kd.R_reads' hR).2.1
  rw [recL_len] at HR hc ⊢
  have c0 : w5.cell? ⟨w.heap.size + 1 + 1 + 1, 0, none⟩ = some (.int .i64 (recN f n)) := (blk_cell hw5 0).trans rfl
  clear hI hb hsz e0 hw4 hR hm hI5 hw5 HS HJ
  generalize recN f n = M at hk hr c0
  generalize recK f n = K at hk hr HR hc ht ⊢
  obtain ⟨rows, hrows⟩ : ∃ rows, rows = recL f n := ⟨_, rfl⟩
  rw [← hrows] at HR hr ht
  by_cases h1 : M < 1
  case pos =>
    obtain rfl : r = none := by rw [hr.out, if_pos (.inl h1)]
    clear hr
    go_wp2_with fail
    go_ret2
    exact ⟨_, rfl, fun b hb => (by cases hb), HB.out⟩
  by_cases h2 : (K : Int) = M
  case neg =>
    obtain rfl : r = none := by rw [hr.out, if_pos (.inr h2)]
    clear hr
    have h3 : ((K : Int) != M) = true := by simpa using h2
    have h4 : ((K : Int) == M) = false := by simpa using h2
    go_wp2_with fail
    go_ret2
    exact ⟨_, rfl, fun b hb => (by cases hb), HB.out⟩
  obtain rfl : r = some rows.flatten := by rw [hr.out, if_neg (by omega)]
  subst h2
  have h3 : ((K : Int) != (K : Int)) = false := by simp
  have h4 : ((K : Int) == (K : Int)) = true := by simp
  have hl : K = rows.length := (Kd.R_reads' HR.out).1
  have hC := (Kd.R_reads' HR.out).2.2
  have HCC := Aside0.mk (s_Concat (c := c) hC (by omega) (by omega) (by omega))
  rw [← hl] at HCC
  clear hr hC hk hl
  go_wp2_with fail
  refine HCC.out.mono ?_
  rintro e w6 ⟨v1, rfl, hR, hb⟩
  have HR6 := Aside0.mk (Kd.R_lower hR HB.out.size)
  have HB6 := Aside0.mk (below_step HB.out hb)
  clear hR hb HB HR HCC c0
  go_wp2_with fail
  go_ret2
  exact ⟨_, rfl, fun b hb => (by cases hb; exact HR6.out), HB6.out⟩
end
section
theorem recP_len {f : Nat → Bk × Int} {n : Nat} {b : List Int} (hok : ∀ i, okB (f i).1) (h : recP f n = some b) : 1 ≤ recK f n ∧ recK f n ≤ 255 ∧ b.length ≤ recK f n * 53 ∧ (f (recK f n - 1)).2 = 0 ∧ (f 0).2 = 0 := by
  unfold recP at h
  by_cases c : recN f n < 1 ∨ (recK f n : Int) ≠ recN f n
  · rw [if_pos c] at h; cases h
  rw [if_neg c] at h
  cases h
  have hk := recK_le (n := n) (hok 0)
  have ht := tot_mul (recL f n) (fun r hr => by obtain ⟨i, _, rfl⟩ := List.mem_map.1 hr; exact rdp_len (hok i) n i)
  rw [recL_len] at ht
  have hg : ∀ i, i < recK f n → (f i).2 = 0 := fun i hi => by
    have hg := (takeWhile_range (good f n) (recN f n).toNat).2.1 i hi
    unfold good at hg
    apply Decidable.byContradiction
    intro hne
    have : rdp (f i) n i = ([], 0, false) := by unfold rdp; rw [if_pos hne]
    rw [this] at hg
    simp at hg
  exact ⟨by omega, by omega, ht, hg _ (by omega), hg 0 (by omega)⟩
def fAt (L : List (Bk × Bool)) (W : List (Int × Bk)) (a : Nat) : Nat → Bk × Int := fun i => rd L W ((a + i : Nat) : Int)
/-- How many blocks records have. -/
def usum : List (List Int) → Nat
  | [] => 0
  | r :: l => pn r.length + usum l
theorem usum_append (a b : List (List Int)) : usum (a ++ b) = usum a + usum b := by
  induction a with
  | nil => simp [usum]
  | cons x a ih => rw [List.cons_append, usum, usum, ih]; omega
/-- The records from a block on, numbered from n on. -/
def scan (L : List (Bk × Bool)) (W : List (Int × Bk)) : Nat → Nat → Nat → List (List Int)
  | 0, _, _ => []
  | k + 1, a, n => match recP (fAt L W a) n with
    | none => []
    | some b => b :: scan L W k (a + pn b.length) (n + 1)
theorem rd_in {L : List (Bk × Bool)} {W : List (Int × Bk)} {a : Nat} (h : (rd L W (a : Int)).2 = 0) : a < L.length := by
  unfold rd at h
  by_cases c : 0 ≤ (a : Int) ∧ (a : Int) < L.length
  · omega
  · rw [if_neg c] at h; cases h
theorem pn_le {k m : Nat} (h : m ≤ k * 53) (hk : 1 ≤ k) : pn m ≤ k := by unfold pn; omega
theorem recP_in {L : List (Bk × Bool)} {W : List (Int × Bk)} (hok : ∀ a, okB (rd L W a).1) {a n : Nat} {b : List Int} (h : recP (fAt L W a) n = some b) : a + pn b.length ≤ L.length ∧ b.length ≤ 13515 := by
  obtain ⟨h1, h2, h3, h4, h5⟩ := recP_len (f := fAt L W a) (fun i => hok _) h
  have h6 := pn_le h3 h1
  have h7 := rd_in (a := a + (recK (fAt L W a) n - 1)) h4
  omega
theorem scan_spec {L : List (Bk × Bool)} {W : List (Int × Bk)} (hok : ∀ a, okB (rd L W a).1) : ∀ k a n, L.length < k + a → (∀ i (h : i < (scan L W k a n).length), recP (fAt L W (a + usum ((scan L W k a n).take i))) (n + i) = some (scan L W k a n)[i]) ∧ recP (fAt L W (a + usum (scan L W k a n))) (n + (scan L W k a n).length) = none ∧ (a ≤ L.length → a + usum (scan L W k a n) ≤ L.length)
  | 0, a, n, hk => by
    refine ⟨fun i h => (by simp [scan] at h), ?_, fun h => by omega⟩
    cases hq : recP (fAt L W (a + usum (scan L W 0 a n))) (n + (scan L W 0 a n).length) with
    | none => rfl
    | some b => have := recP_in hok hq; omega
  | k + 1, a, n, hk => by
    cases hq : recP (fAt L W a) n with
    | none =>
      have e : scan L W (k + 1) a n = [] := by unfold scan; rw [hq]
      rw [e]
      exact ⟨fun i h => by simp at h, hq, fun h => h⟩
    | some b =>
      have hb := pn_pos b.length
      have hin := recP_in hok hq
      obtain ⟨h1, h2, h3⟩ := scan_spec hok k (a + pn b.length) (n + 1) (by omega)
      have e : scan L W (k + 1) a n = b :: scan L W k (a + pn b.length) (n + 1) := by rw [scan]; rw [hq]
      refine ⟨fun i h => ?_, ?_, fun _ => ?_⟩
      · simp only [e]
        cases i with
        | zero => exact hq
        | succ i =>
          rw [List.take_succ_cons, usum, ← Nat.add_assoc, show n + (i + 1) = n + 1 + i by omega]
          simp only [List.getElem_cons_succ]
          exact h1 i (by rw [e] at h; simpa using h)
      · rw [e, usum, ← Nat.add_assoc, List.length_cons, show n + ((scan L W k (a + pn b.length) (n + 1)).length + 1) = n + 1 + (scan L W k (a + pn b.length) (n + 1)).length by omega]
        exact h2
      · rw [e, usum, ← Nat.add_assoc]
        exact h3 (by omega)
theorem scan_le {L : List (Bk × Bool)} {W : List (Int × Bk)} : ∀ k a n, (scan L W k a n).length ≤ k
  | 0, a, n => by simp [scan]
  | k + 1, a, n => by
    unfold scan
    split
    · simp
    · rename_i b _
      simp only [List.length_cons]
      have := scan_le (L := L) (W := W) k (a + pn b.length) (n + 1)
      omega
def rlen : Option (List Int) → Nat
  | some b => pn b.length
  | none => 0
/-- All records. -/
def recs (L : List (Bk × Bool)) (W : List (Int × Bk)) : List (List Int) := scan L W (L.length + 1) 0 1
variable {B : Nat} {w w' : World} {p gl gm : Nat} {v : Value} {L : List (Bk × Bool)} {W : List (Int × Bk)}
theorem j_rec2 (h : SA B w p gl gm v L W) {pj u : Nat} {lv : Value} (hj : JBk w pj p lv u) (at_ n : Nat) (ha : at_ ≤ 100000) (hn : n ≤ 100000) (hok : ∀ a, okB (rd L W a).1) {r : Option (List Int)} (hr : recP (fAt L W at_) n = r) :
    Calls Try.prog 35 #[.pointer (some ⟨pj, 0, none⟩), .int .i64 at_, .int .i64 n] w fun e w' => ∃ v1, e = .returned (.tuple #[v1, .bool r.isSome]) ∧ (∀ b, r = some b → Kd.R (Kd.int .u8) 5 w' w.heap.size (fun _ => True) v1 b) ∧ Below w.heap.size w w' := by
  subst hr
  exact j_record h hj at_ n ha hn hok
set_option maxHeartbeats 8000000 in
set_option maxRecDepth 100000 in
theorem j_openc (h : SA B w p gl gm v L W) {pj u gj : Nat} {lv : Value} (hj : JBk w pj p lv u) (hgj : w.heap[gj]? = some (.cells #[.pointer (some ⟨pj, 0, none⟩)] 32 (0, 0))) (n : Nat) (hu : u ≤ 5000) (hn : n ≤ 5000) (hok : ∀ a, okB (rd L W a).1) {r : Option (List Int)} (hr : recP (fAt L W u) n = r) :
    Calls Try.prog 34 #[.int .i64 n, .pointer (some ⟨gj, 0, none⟩)] w fun e w' => ∃ v1, e = .returned (.tuple #[v1, .bool r.isSome]) ∧ (∀ b, r = some b → Kd.R (Kd.int .u8) 5 w' w.heap.size (fun _ => True) v1 b) ∧ Mv (fun k => k = pj) (fun k => k = pj) w w' ∧ JBk w' pj p lv (u + rlen r) := by
  have HJ := Aside0.mk hj
  have HG := Aside0.mk hgj
  have HS := Aside0.mk h
  have hlen : ∀ b, r = some b → b.length ≤ 13515 := fun b hb => (recP_in hok (hr.trans hb)).2
  replace hlen := Aside0.mk hlen
  replace hok := Aside0.mk hok
  replace hr := Aside0.mk hr
  clear h hj hgj
  go_enter Try.func34, Try.ntmps34
  go_wp2_with fail
  have HB := Aside0.mk (Below.refl w.heap.size w)
  have n_HS := Aside0.mk (HS.out.below (below_drew (Below.refl _ _)))
  have n_HJ := Aside0.mk (JBk.below HJ.out (below_drew (Below.refl _ _)))
  have n_HG := Aside0.mk (blk_below HG.out (below_drew (Below.refl _ _)))
  have n_HB := Aside0.mk (below_step HB.out (below_drew (Below.refl _ _)))
  clear HS
  have HS := n_HS
  clear n_HS
  clear HJ
  have HJ := n_HJ
  clear n_HJ
  clear HG
  have HG := n_HG
  clear n_HG
  clear HB
  have HB := n_HB
  clear n_HB
  refine start_ (n := 12) (S := fun w' => w'.cell? ⟨gj, 0, none⟩ = some (.pointer (some ⟨pj, 0, none⟩)) ∧ w'.cell? ⟨pj, 2, none⟩ = some (.int .i64 u)) (ds := []) #[false, false, false, false, false, false, false, false, false, false, false, false] (by kernel_rfl) rfl rfl ⟨(blk_cell HG.out 0).trans rfl, (blk_cell HJ.out 2).trans rfl⟩ (fun hHeld => ?_)
  generalize w.drew = w1 at HS HJ HG HB hHeld ⊢
  refine pure_ (i := 5) (N := some 13) (v := ?_) (a' := ?_) #[false, false, false, false, false, true, false, false, false, false, false, false] rfl rfl (by kernel_rfl) (fun _ _ _ h => h) (Or.inl ⟨by rfl, ?_⟩) ?_ ?_
  rotate_left
  · intro w'
    go_simp
    with_reducible rfl
  rotate_left
  · simp only [Act.put, List.setIfInBounds_toArray, List.set_cons_zero, List.set_cons_succ, i64_w, i32_w]
    rfl
  refine take_ (i := 0) (N := some 8) (v := ?_) (a' := ?_) #[true, false, false, false, false, true, false, false, false, false, false, false] rfl rfl (by kernel_rfl) (fun _ _ _ h => h) (Or.inl ⟨by rfl, ?_⟩) hHeld ?_ ?_
  rotate_left
  · rintro w' ⟨s0, s1⟩
    go_simp
    with_reducible rfl
  rotate_left
  · simp only [Act.put, List.setIfInBounds_toArray, List.set_cons_zero, List.set_cons_succ, i64_w, i32_w]
    rfl
  refine take_ (i := 1) (N := some 9) (v := ?_) (a' := ?_) #[true, true, false, false, false, true, false, false, false, false, false, false] rfl rfl (by kernel_rfl) (fun _ _ _ h => h) (Or.inl ⟨by rfl, ?_⟩) hHeld ?_ ?_
  rotate_left
  · rintro w' ⟨s0, s1⟩
    go_simp
    with_reducible rfl
  rotate_left
  · simp only [Act.put, List.setIfInBounds_toArray, List.set_cons_zero, List.set_cons_succ, i64_w, i32_w]
    rfl
  refine pure_ (i := 2) (N := some 10) (v := ?_) (a' := ?_) #[true, true, true, false, false, true, false, false, false, false, false, false] rfl rfl (by kernel_rfl) (fun _ _ _ h => h) (Or.inl ⟨by rfl, ?_⟩) ?_ ?_
  rotate_left
  · intro w'
    go_simp
    with_reducible rfl
  rotate_left
  · simp only [Act.put, List.setIfInBounds_toArray, List.set_cons_zero, List.set_cons_succ, i64_w, i32_w]
    rfl
  refine pure_ (i := 3) (N := some 11) (v := ?_) (a' := ?_) #[true, true, true, true, false, true, false, false, false, false, false, false] rfl rfl (by kernel_rfl) (fun _ _ _ h => h) (Or.inl ⟨by rfl, ?_⟩) ?_ ?_
  rotate_left
  · intro w'
    go_simp
    with_reducible rfl
  rotate_left
  · simp only [Act.put, List.setIfInBounds_toArray, List.set_cons_zero, List.set_cons_succ, i64_w, i32_w]
    rfl
  refine take_ (i := 4) (N := some 12) (v := ?_) (a' := ?_) #[true, true, true, true, true, true, false, false, false, false, false, false] rfl rfl (by kernel_rfl) (fun _ _ _ h => h) (Or.inl ⟨by rfl, ?_⟩) hHeld ?_ ?_
  rotate_left
  · rintro w' ⟨s0, s1⟩
    go_simp
    with_reducible rfl
  rotate_left
  · simp only [Act.put, List.setIfInBounds_toArray, List.set_cons_zero, List.set_cons_succ, i64_w, i32_w]
    rfl
  refine one_ (i := 6) (N := some 14) #[true, true, true, true, true, true, true, false, false, false, false, false] rfl rfl (by kernel_rfl) (by decide) (fun K hK => ?_)
  refine goes_ Try.func35 (by kernel_rfl) rfl #[.pointer (some ⟨pj, 0, none⟩), .int .i64 u, .int .i64 n] (by rfl) rfl rfl (by (try simp only [List.map_toArray, List.map_cons, List.map_nil]); first | done | rfl) ?_
  with_reducible refine (j_rec2 HS.out HJ.out u n (by omega) (by omega) hok.out hr.out).mono ?_
  rintro e y1_ ⟨v1, rfl, hR, hb⟩
  refine ⟨_, rfl, ?_⟩
  have m_RR := Aside0.mk (fun b h => Kd.R_lower (hR b h) HB.out.size)
  have n_HS := Aside0.mk (HS.out.below hb)
  have n_HJ := Aside0.mk (JBk.below HJ.out hb)
  have n_HG := Aside0.mk (blk_below HG.out hb)
  have n_HB := Aside0.mk (below_step HB.out hb)
  clear HS
  have HS := n_HS
  clear n_HS
  clear HJ
  have HJ := n_HJ
  clear n_HJ
  clear HG
  have HG := n_HG
  clear n_HG
  clear HB
  have HB := n_HB
  clear n_HB
  clear hb
  have RR := m_RR
  clear m_RR
  clear hR
  refine hK.out _ _ ⟨(blk_cell HG.out 0).trans rfl, (blk_cell HJ.out 2).trans rfl⟩ (fun hHeld => ?_)
  clear hK K
  refine norm_ (a' := ?_) ?_ ?_
  rotate_left
  · show Act.put _ (some 14) _ = _
    simp only [Act.put, List.setIfInBounds_toArray, List.set_cons_zero, List.set_cons_succ, i64_w, i32_w]
    rfl
  refine pure_ (i := 7) (N := some 7) (v := ?_) (a' := ?_) #[true, true, true, true, true, true, true, true, false, false, false, false] rfl rfl (by kernel_rfl) (fun _ _ _ h => h) (Or.inl ⟨by rfl, ?_⟩) ?_ ?_
  rotate_left
  · intro w'
    go_simp
    with_reducible rfl
  rotate_left
  · simp only [Act.put, List.setIfInBounds_toArray, List.set_cons_zero, List.set_cons_succ, i64_w, i32_w]
    rfl
  refine pure_ (i := 8) (N := some 15) (v := ?_) (a' := ?_) #[true, true, true, true, true, true, true, true, true, false, false, false] rfl rfl (by kernel_rfl) (fun _ _ _ h => h) (Or.inl ⟨by rfl, ?_⟩) ?_ ?_
  rotate_left
  · intro w'
    go_simp
    with_reducible rfl
  rotate_left
  · simp only [Act.put, List.setIfInBounds_toArray, List.set_cons_zero, List.set_cons_succ, i64_w, i32_w]
    rfl
  refine pure_ (i := 9) (N := some 16) (v := ?_) (a' := ?_) #[true, true, true, true, true, true, true, true, true, true, false, false] rfl rfl (by kernel_rfl) (fun _ _ _ h => h) (Or.inl ⟨by rfl, ?_⟩) ?_ ?_
  rotate_left
  · intro w'
    go_simp
    with_reducible rfl
  rotate_left
  · simp only [Act.put, List.setIfInBounds_toArray, List.set_cons_zero, List.set_cons_succ, i64_w, i32_w]
    rfl
  refine pure_ (i := 10) (N := some 5) (v := ?_) (a' := ?_) #[true, true, true, true, true, true, true, true, true, true, true, false] rfl rfl (by kernel_rfl) (fun _ _ _ h => h) (Or.inl ⟨by rfl, ?_⟩) ?_ ?_
  rotate_left
  · intro w'
    go_simp
    with_reducible rfl
  rotate_left
  · simp only [Act.put, List.setIfInBounds_toArray, List.set_cons_zero, List.set_cons_succ, i64_w, i32_w]
    rfl
  refine pure_ (i := 11) (N := some 6) (v := ?_) (a' := ?_) #[true, true, true, true, true, true, true, true, true, true, true, true] rfl rfl (by kernel_rfl) (fun _ _ _ h => h) (Or.inl ⟨by rfl, ?_⟩) ?_ ?_
  rotate_left
  · intro w'
    go_simp
    with_reducible rfl
  rotate_left
  · simp only [Act.put, List.setIfInBounds_toArray, List.set_cons_zero, List.set_cons_succ, i64_w, i32_w]
    rfl
  refine done_ (by kernel_rfl) ?_
  clear hHeld
  cases r with
  | none =>
    have hn1 : (none : Option (List Int)).isSome = false := rfl
    rw [hn1]
    go_wp2_with fail
    go_ret2
    exact ⟨_, rfl, fun b hb => (by cases hb), Mv.of_below HB.out, HJ.out⟩
  | some b =>
    have hn1 : (some b).isSome = true := rfl
    rw [hn1]
    have HR := Aside0.mk (RR.out b rfl)
    have hlb := hlen.out b rfl
    clear RR hlen
    obtain ⟨A1, c1, hv1⟩ := Kd.R_slice HR.out
    subst hv1
    have HM := Aside0.mk (Mv.of_below (F := fun k => k = pj) HB.out)
    go_wp2_with fail
    have n_HS := Aside0.mk (HS.out.below (below_drew (Below.refl _ _)))
    have n_HJ := Aside0.mk (JBk.below HJ.out (below_drew (Below.refl _ _)))
    have n_HG := Aside0.mk (blk_below HG.out (below_drew (Below.refl _ _)))
    have n_HR := Aside0.mk (Kd.R_below HR.out (below_drew (Below.refl _ _)))
    have n_HM := Aside0.mk (HM.out.trans (Mv.of_below (below_drew (Below.refl _ _))))
    clear HS
    have HS := n_HS
    clear n_HS
    clear HJ
    have HJ := n_HJ
    clear n_HJ
    clear HG
    have HG := n_HG
    clear n_HG
    clear HR
    have HR := n_HR
    clear n_HR
    clear HM
    have HM := n_HM
    clear n_HM
    refine start_ (n := 11) (S := fun w' => w'.cell? ⟨gj, 0, none⟩ = some (.pointer (some ⟨pj, 0, none⟩)) ∧ w'.cell? ⟨pj, 2, none⟩ = some (.int .i64 u)) (ds := [10]) #[false, false, false, false, false, false, false, false, false, false, false] (by kernel_rfl) rfl rfl ⟨(blk_cell HG.out 0).trans rfl, (blk_cell HJ.out 2).trans rfl⟩ (fun hHeld => ?_)
    generalize y1_.drew = w3 at HS HJ HG HR HM hHeld ⊢
    refine pure_ (i := 4) (N := some 22) (v := ?_) (a' := ?_) #[false, false, false, false, true, false, false, false, false, false, false] rfl rfl (by kernel_rfl) (fun _ _ _ h => h) (Or.inl ⟨by rfl, ?_⟩) ?_ ?_
    rotate_left
    · intro w'
      go_simp
      with_reducible rfl
    rotate_left
    · simp only [Act.put, List.setIfInBounds_toArray, List.set_cons_zero, List.set_cons_succ, i64_w, i32_w]
      rfl
    refine pure_ (i := 5) (N := some 23) (v := ?_) (a' := ?_) #[false, false, false, false, true, true, false, false, false, false, false] rfl rfl (by kernel_rfl) (fun _ _ _ h => h) (Or.inl ⟨by rfl, ?_⟩) ?_ ?_
    rotate_left
    · intro w'
      go_simp
      with_reducible rfl
    rotate_left
    · simp only [Act.put, List.setIfInBounds_toArray, List.set_cons_zero, List.set_cons_succ, i64_w, i32_w]
      rfl
    refine take_ (i := 0) (N := some 18) (v := ?_) (a' := ?_) #[true, false, false, false, true, true, false, false, false, false, false] rfl rfl (by kernel_rfl) (fun _ _ _ h => h) (Or.inl ⟨by rfl, ?_⟩) hHeld ?_ ?_
    rotate_left
    · rintro w' ⟨s0, s1⟩
      go_simp
      with_reducible rfl
    rotate_left
    · simp only [Act.put, List.setIfInBounds_toArray, List.set_cons_zero, List.set_cons_succ, i64_w, i32_w]
      rfl
    refine pure_ (i := 1) (N := some 19) (v := ?_) (a' := ?_) #[true, true, false, false, true, true, false, false, false, false, false] rfl rfl (by kernel_rfl) (fun _ _ _ h => h) (Or.inl ⟨by rfl, ?_⟩) ?_ ?_
    rotate_left
    · intro w'
      go_simp
      with_reducible rfl
    rotate_left
    · simp only [Act.put, List.setIfInBounds_toArray, List.set_cons_zero, List.set_cons_succ, i64_w, i32_w]
      rfl
    refine pure_ (i := 2) (N := some 20) (v := ?_) (a' := ?_) #[true, true, true, false, true, true, false, false, false, false, false] rfl rfl (by kernel_rfl) (fun _ _ _ h => h) (Or.inl ⟨by rfl, ?_⟩) ?_ ?_
    rotate_left
    · intro w'
      go_simp
      with_reducible rfl
    rotate_left
    · simp only [Act.put, List.setIfInBounds_toArray, List.set_cons_zero, List.set_cons_succ, i64_w, i32_w]
      rfl
    refine take_ (i := 3) (N := some 21) (v := ?_) (a' := ?_) #[true, true, true, true, true, true, false, false, false, false, false] rfl rfl (by kernel_rfl) (fun _ _ _ h => h) (Or.inl ⟨by rfl, ?_⟩) hHeld ?_ ?_
    rotate_left
    · rintro w' ⟨s0, s1⟩
      go_simp
      with_reducible rfl
    rotate_left
    · simp only [Act.put, List.setIfInBounds_toArray, List.set_cons_zero, List.set_cons_succ, i64_w, i32_w]
      rfl
    refine one_ (i := 6) (N := some 24) #[true, true, true, true, true, true, true, false, false, false, false] rfl rfl (by kernel_rfl) (by decide) (fun K hK => ?_)
    refine goes_ Try.func36 (by kernel_rfl) rfl #[.int .i64 b.length] (by rfl) rfl rfl (by (try simp only [List.map_toArray, List.map_cons, List.map_nil]); first | done | rfl) ?_
    with_reducible refine (j_parts b.length (by omega)).mono ?_
    rintro e y2_ ⟨rfl, hb⟩
    refine ⟨_, rfl, ?_⟩
    have n_HS := Aside0.mk (HS.out.below hb)
    have n_HJ := Aside0.mk (JBk.below HJ.out hb)
    have n_HG := Aside0.mk (blk_below HG.out hb)
    have n_HR := Aside0.mk (Kd.R_below HR.out hb)
    have n_HM := Aside0.mk (HM.out.trans (Mv.of_below hb))
    clear HS
    have HS := n_HS
    clear n_HS
    clear HJ
    have HJ := n_HJ
    clear n_HJ
    clear HG
    have HG := n_HG
    clear n_HG
    clear HR
    have HR := n_HR
    clear n_HR
    clear HM
    have HM := n_HM
    clear n_HM
    clear hb
    refine hK.out _ _ ⟨(blk_cell HG.out 0).trans rfl, (blk_cell HJ.out 2).trans rfl⟩ (fun hHeld => ?_)
    clear hK K
    refine norm_ (a' := ?_) ?_ ?_
    rotate_left
    · show Act.put _ (some 24) _ = _
      simp only [Act.put, List.setIfInBounds_toArray, List.set_cons_zero, List.set_cons_succ, i64_w, i32_w]
      rfl
    refine pure_ (i := 7) (N := some 25) (v := ?_) (a' := ?_) #[true, true, true, true, true, true, true, true, false, false, false] rfl rfl (by kernel_rfl) (fun _ _ _ h => h) (Or.inl ⟨by rfl, ?_⟩) ?_ ?_
    rotate_left
    · intro w'
      go_simp
      with_reducible rfl
    rotate_left
    · simp only [Act.put, List.setIfInBounds_toArray, List.set_cons_zero, List.set_cons_succ, i64_w, i32_w]
      rfl
    refine pure_ (i := 8) (N := some 26) (v := ?_) (a' := ?_) #[true, true, true, true, true, true, true, true, true, false, false] rfl rfl (by kernel_rfl) (fun _ _ _ h => h) (Or.inl ⟨by rfl, ?_⟩) ?_ ?_
    rotate_left
    · intro w'
      go_simp
      with_reducible rfl
    rotate_left
    · simp only [Act.put, List.setIfInBounds_toArray, List.set_cons_zero, List.set_cons_succ, i64_w, i32_w]
      rfl
    refine pure_ (i := 9) (N := some 27) (v := ?_) (a' := ?_) #[true, true, true, true, true, true, true, true, true, true, false] rfl rfl (by kernel_rfl) (fun _ _ _ h => h) (Or.inl ⟨by rfl, ?_⟩) ?_ ?_
    rotate_left
    · intro w'
      go_simp
      with_reducible rfl
    rotate_left
    · simp only [Act.put, List.setIfInBounds_toArray, List.set_cons_zero, List.set_cons_succ, i64_w, i32_w]
      rfl
    refine last_ (i := 10) (N := none) #[true, true, true, true, true, true, true, true, true, true, true] rfl rfl (by kernel_rfl) (by decide) (fun K hK => ?_)
    have kf := blk_frozen HJ.out 2
    have kc := (blk_cell HJ.out 2).trans rfl
    refine skip_ (w1 := ?_) (by rfl) rfl ?_ ?_
    rotate_left
    · go_simp
      rfl
    refine hK.out _ _ ?_
    clear hK K
    refine done_ (by kernel_rfl) ?_
    clear hHeld kc kf
    have hpn : pn b.length ≤ 255 := pn_le (by omega) (by omega)
    rw [show wrap64 ((u : Int) + (pn b.length : Int)) = ((u + pn b.length : Nat) : Int) by unfold wrap64; omega]
    have HJ1 := HJ.out
    unfold JBk at HJ1
    rw [put_step HJ1]
    have HR2 := Aside0.mk (R_row HR.out HJ1 (by decide) (#[Value.pointer (some ⟨p, 0, none⟩), lv, .int .i64 u].setIfInBounds 2 (.int .i64 ((u + pn b.length : Nat) : Int))))
    have HM2 := Aside0.mk (HM.out.trans (Mv.row (F := fun k => k = pj) y2_ pj rfl (#[Value.pointer (some ⟨p, 0, none⟩), lv, .int .i64 u].setIfInBounds 2 (.int .i64 ((u + pn b.length : Nat) : Int)))))
    have HJ2 : Aside0 (JBk (y2_.setRow pj (#[Value.pointer (some ⟨p, 0, none⟩), lv, .int .i64 u].setIfInBounds 2 (.int .i64 ((u + pn b.length : Nat) : Int)))) pj p lv (u + pn b.length)) := ⟨setRow_heap _ _ _ _ _ _ HJ1⟩
    clear HS HJ HG HR HM HJ1
    generalize y2_.setRow pj (#[Value.pointer (some ⟨p, 0, none⟩), lv, .int .i64 u].setIfInBounds 2 (.int .i64 ((u + pn b.length : Nat) : Int))) = w5 at HR2 HM2 HJ2 ⊢
    go_wp2_with fail
    go_ret2
    exact ⟨_, rfl, fun b hb => (by cases hb; exact HR2.out), HM2.out, HJ2.out⟩
end
end Go.Proofs.Ytniadlnbjgodnaa.Print
