/- What stands behind the records is wiped; a journal is opened. A journal is opened. A journal's small methods. A record is added. -/
import Derived.Test.YtniadlnbjgodnaaProg
import Derived.Below
import Derived.Deep.Draws
import Derived.Deep.AppendLies
import Derived.Maps.AppendAt
import Derived.OwnWalk
import Derived.Laws.BytesArg
import Derived.Laws.MakeOwn
import Derived.Laws.OwnMore
import Derived.Deep.OwnRows
import Derived.Tactics
import Derived.Lib.ConvBytes
import Derived.Laws.Slices
import Derived.WalkKit
import Derived.KernelRfl
import Derived.RowKit3
import Derived.Deep.LoopGhost
import Derived.Deep.QuietTactic
import Derived.BigQuiet
import Derived.WideLaws
import Derived.Deep.DeepCutAuto
import Derived.Deep.CutBlock
import Derived.Deep.RegionHeld3
import Derived.Laws.Rows
import Derived.Lib.AppendStr
import Derived.ArgAppend
import Derived.Laws.IdiomCopy
import Derived.OrdersHeld
import Derived.Laws.BitsLemmas
import Derived.RowKit
import Derived.LoopN
import Derived.Handy
import Derived.Laws.EntriesVeiled
import Derived.MapKept
import Derived.Laws.Externs
import Derived.ChangeKeysEq
import Derived.Deep.WholeRow
import Derived.Test.YtniadlnbjgodnaaWWords
import Derived.Test.YtniadlnbjgodnaaWLast
import Derived.Test.YtniadlnbjgodnaaWTab
import Derived.Test.YtniadlnbjgodnaaWFour
import Derived.Test.YtniadlnbjgodnaaWQPut
import Derived.Test.YtniadlnbjgodnaaWApart
import Derived.Test.YtniadlnbjgodnaaWArr
import Derived.Test.YtniadlnbjgodnaaWZeros
import Derived.Test.YtniadlnbjgodnaaWFoot
import Derived.Test.YtniadlnbjgodnaaWKept
import Derived.Test.YtniadlnbjgodnaaWShare
import Derived.Test.YtniadlnbjgodnaaWN
import Derived.Test.YtniadlnbjgodnaaWFootNe
import Derived.Test.YtniadlnbjgodnaaWAt
import Derived.Test.YtniadlnbjgodnaaWEqStruct
import Derived.Test.YtniadlnbjgodnaaWRepsOne
import Derived.Test.YtniadlnbjgodnaaWInv
import Derived.Test.YtniadlnbjgodnaaWInvWords
import Derived.Test.YtniadlnbjgodnaaWGuard
import Derived.Test.YtniadlnbjgodnaaWNEv
import Derived.Test.YtniadlnbjgodnaaWMore
import Derived.Test.YtniadlnbjgodnaaBlkA
import Derived.Test.YtniadlnbjgodnaaBlkB
import Derived.Test.YtniadlnbjgodnaaBlkC
import Derived.Test.YtniadlnbjgodnaaBlkD
import Derived.Test.YtniadlnbjgodnaaBlkE
import Derived.Test.YtniadlnbjgodnaaBlkG
import Derived.Test.YtniadlnbjgodnaaBlkJ
import Derived.Test.YtniadlnbjgodnaaBlkJ1
import Derived.Test.YtniadlnbjgodnaaBlkJ2
namespace Go.Proofs.Ytniadlnbjgodnaa.Print
open Go.RowKit Go.Proofs.YtniadlnbjgodnaaW.PrintWords Go.Proofs.YtniadlnbjgodnaaW.PrintLast Go.Proofs.YtniadlnbjgodnaaW.PrintMore
attribute [local go_sem] max2_int min2_int max_two min_two max_three min_three max_four min_four
set_option linter.unusedVariables false
set_option linter.unusedSimpArgs false
section
/-- m blocks from one on are wiped: the answer, what waits behind it, whether any was. -/
def wipeS (L : List (Bk × Bool)) : Nat → Nat → List (Int × Bk) → Bool → Int × List (Int × Bk) × Bool
  | 0, _, W, any => (0, W, any)
  | m + 1, a, W, any => if rd L W (a : Int) = (Bk.z, 0) then wipeS L m (a + 1) W any else if wrc L W (a : Int) = 0 then wipeS L m (a + 1) (W ++ [((a : Int), Bk.z)]) true else (wrc L W (a : Int), W, true)
/-- What opening leaves, where the records have u blocks: the answer, what lasts, what waits. -/
def wipeR (L : List (Bk × Bool)) (W : List (Int × Bk)) (u : Nat) : Int × List (Bk × Bool) × List (Int × Bk) :=
  if (wipeS L (L.length - u) u W false).1 ≠ 0 then ((wipeS L (L.length - u) u W false).1, L, (wipeS L (L.length - u) u W false).2.1)
  else if (wipeS L (L.length - u) u W false).2.2 = true then (0, setl (fun _ => 1) 0 (wipeS L (L.length - u) u W false).2.1 L, []) else (0, L, (wipeS L (L.length - u) u W false).2.1)
variable {B : Nat} {w w' : World} {p gl gm : Nat} {v : Value} {L : List (Bk × Bool)} {W : List (Int × Bk)}
theorem SA.base_le (h : SA B w p gl gm v L W) : B ≤ w.heap.size := by have := h.hB.1; have := blk_lt h.hp; omega
theorem bk_b0 (W : World) : (Instr.build 46 #[]).run Try.prog W = .ok (.agg Bk.z.cs.toArray) W := by kernel_rfl
theorem z_lit : Bk.z.cs.toArray = #[.int .u8 0, .int .u8 0, .int .u8 0, .int .u8 0, .int .u8 0, .int .u8 0, .int .u8 0, .int .u8 0, .int .u8 0, .int .u8 0, .int .u8 0, .int .u8 0, .int .u8 0, .int .u8 0, .int .u8 0, .int .u8 0, .int .u8 0, .int .u8 0, .int .u8 0, .int .u8 0, .int .u8 0, .int .u8 0, .int .u8 0, .int .u8 0, .int .u8 0, .int .u8 0, .int .u8 0, .int .u8 0, .int .u8 0, .int .u8 0, .int .u8 0, .int .u8 0, .int .u8 0, .int .u8 0, .int .u8 0, .int .u8 0, .int .u8 0, .int .u8 0, .int .u8 0, .int .u8 0, .int .u8 0, .int .u8 0, .int .u8 0, .int .u8 0, .int .u8 0, .int .u8 0, .int .u8 0, .int .u8 0, .int .u8 0, .int .u8 0, .int .u8 0, .int .u8 0, .int .u8 0, .int .u8 0, .int .u8 0, .int .u8 0, .int .u8 0, .int .u8 0, .int .u8 0, .int .u8 0, .int .u8 0, .int .u8 0, .int .u8 0, .int .u8 0] := rfl
theorem bk_eqz (b : Bk) (d : Nat) (W : World) : (Op.equalIn (d + 2) 46 (.agg b.cs.toArray) (.agg #[.int .u8 0, .int .u8 0, .int .u8 0, .int .u8 0, .int .u8 0, .int .u8 0, .int .u8 0, .int .u8 0, .int .u8 0, .int .u8 0, .int .u8 0, .int .u8 0, .int .u8 0, .int .u8 0, .int .u8 0, .int .u8 0, .int .u8 0, .int .u8 0, .int .u8 0, .int .u8 0, .int .u8 0, .int .u8 0, .int .u8 0, .int .u8 0, .int .u8 0, .int .u8 0, .int .u8 0, .int .u8 0, .int .u8 0, .int .u8 0, .int .u8 0, .int .u8 0, .int .u8 0, .int .u8 0, .int .u8 0, .int .u8 0, .int .u8 0, .int .u8 0, .int .u8 0, .int .u8 0, .int .u8 0, .int .u8 0, .int .u8 0, .int .u8 0, .int .u8 0, .int .u8 0, .int .u8 0, .int .u8 0, .int .u8 0, .int .u8 0, .int .u8 0, .int .u8 0, .int .u8 0, .int .u8 0, .int .u8 0, .int .u8 0, .int .u8 0, .int .u8 0, .int .u8 0, .int .u8 0, .int .u8 0, .int .u8 0, .int .u8 0, .int .u8 0])).run Try.prog W = .ok (decide (b = Bk.z)) W := by
  rw [← z_lit]
  exact bk_eqi b Bk.z d W
theorem b_Write0 (h : SA B w p gl gm v L W) (hB : B ≤ w.heap.size) (a : Int) : Calls Try.prog 20 #[.pointer (some ⟨p, 0, none⟩), .int .i64 a, .agg #[.int .u8 0, .int .u8 0, .int .u8 0, .int .u8 0, .int .u8 0, .int .u8 0, .int .u8 0, .int .u8 0, .int .u8 0, .int .u8 0, .int .u8 0, .int .u8 0, .int .u8 0, .int .u8 0, .int .u8 0, .int .u8 0, .int .u8 0, .int .u8 0, .int .u8 0, .int .u8 0, .int .u8 0, .int .u8 0, .int .u8 0, .int .u8 0, .int .u8 0, .int .u8 0, .int .u8 0, .int .u8 0, .int .u8 0, .int .u8 0, .int .u8 0, .int .u8 0, .int .u8 0, .int .u8 0, .int .u8 0, .int .u8 0, .int .u8 0, .int .u8 0, .int .u8 0, .int .u8 0, .int .u8 0, .int .u8 0, .int .u8 0, .int .u8 0, .int .u8 0, .int .u8 0, .int .u8 0, .int .u8 0, .int .u8 0, .int .u8 0, .int .u8 0, .int .u8 0, .int .u8 0, .int .u8 0, .int .u8 0, .int .u8 0, .int .u8 0, .int .u8 0, .int .u8 0, .int .u8 0, .int .u8 0, .int .u8 0, .int .u8 0, .int .u8 0]] w fun e w' => e = .returned (.int .i64 (wrc L W a)) ∧ ∃ v', SA B w' p gl gm v' L (wrW L W a Bk.z) ∧ Mv (foot p gl gm v) (foot p gl gm v') w w' := by
  rw [← z_lit]
  exact b_Write h hB a Bk.z
theorem wpl_ldbk2 {P : Program} {ops : Array Oper} {rest : List Oper} {o : Oper} {a : Act} {w : World} {Q : Exit → Act → World → Prop} (ty : TypeId) (x : Operand) (g : Nat) (b : Bk) (t : TypeId) (fr : Nat × Nat) (n : Nat) (e : TypeId) (ho : o.op = .load ty x) (hgd : o.guard = none) (hx : a.eval x = .pointer (some ⟨g, 0, none⟩))
    (hg : w.heap[g]? = some (.cells b.cs.toArray t fr)) (hu : P.underlying ty = some (.array n e)) (hi : (P.info? ty).map (·.size) = some 64) (h : wpList P ops Q rest (a.put o.dst (.agg b.cs.toArray)) w) : wpList P ops Q (o :: rest) a w :=
  wpl_ldbk ty x g b t fr n e ho hgd hx hg hu hi h
theorem SA.not_j (h : SA B w p gl gm v L W) {pj u : Nat} {lv : Value} (hj : JBk w pj p lv u) : ¬ foot p gl gm v pj := h.far hj (by decide)
theorem JBk.mv {F F' : Nat → Prop} {pj u : Nat} {lv : Value} (hj : JBk w pj p lv u) (hm : Mv F F' w w') (h : ¬ F pj) : JBk w' pj p lv u := hm.blk hj h
set_option maxHeartbeats 16000000 in
set_option maxRecDepth 100000 in
theorem j_wipe (h : SA B w p gl gm v L W) {pj u : Nat} {lv : Value} (hj : JBk w pj p lv u) (hu : u ≤ L.length) :
    Calls Try.prog 37 #[.pointer (some ⟨pj, 0, none⟩)] w fun e w' => e = .returned (.int .i64 (wipeR L W u).1) ∧ ∃ v', SA B w' p gl gm v' (wipeR L W u).2.1 (wipeR L W u).2.2 ∧ JBk w' pj p lv u ∧ Mv (foot p gl gm v) (foot p gl gm v') w w' := by
  have hL := h.hL
  have c2 : w.cell? ⟨pj, 2, none⟩ = some (.int .i64 u) := (blk_cell hj 2).trans rfl
  obtain ⟨r, hr⟩ : ∃ r, r = wipeR L W u := ⟨_, rfl⟩
  rw [← hr]
  unfold wipeR at hr
  obtain ⟨q, hq⟩ : ∃ q, wipeS L (L.length - u) u W false = q := ⟨_, rfl⟩
  rw [hq] at hr
  replace hr := Aside0.mk hr
  have HQ := Aside0.mk hq
  have HS := Aside0.mk h
  have HJ := Aside0.mk hj
  clear h hj hq
  go_enter Try.func37, Try.ntmps37
  go_wp2_with fail
  go_loopw [3, 4] (fun x y wr => ∃ (i : Nat) (any : Bool) (Wi : List (Int × Bk)) (vi : Value), u ≤ i ∧ i ≤ L.length ∧ x = .bool any ∧ y = .int .i64 i ∧ Aside0 (SA B wr p gl gm vi L Wi) ∧ Aside0 (JBk wr pj p lv u) ∧ Aside0 (Mv (foot p gl gm v) (foot p gl gm vi) w wr) ∧ Aside0 (wipeS L (L.length - i) i Wi any = q)) (fun _ y _ => (L.length : Nat) - (intOf y).toNat)
  case atStart => exact ⟨u, false, W, v, Nat.le_refl _, hu, rfl, rfl, HS, HJ, ⟨Mv.refl _ _⟩, HQ⟩
  case round =>
    clear HS HJ HQ c2
    obtain ⟨i, any, Wi, vi, hui, hil, rfl, rfl, HS, HJ, HM, HQ⟩ := hrel
    have c0 : wr.cell? ⟨pj, 0, none⟩ = some (.pointer (some ⟨p, 0, none⟩)) := (blk_cell HJ.out 0).trans rfl
    go_wp2_with fail
    refine (b_Size HS.out).mono ?_
    rintro e w1 ⟨rfl, hb⟩
    have HS1 := Aside0.mk (HS.out.below hb)
    have HJ1 := Aside0.mk (HJ.out.below hb)
    have HM1 := Aside0.mk (HM.out.trans (Mv.of_below hb))
    clear hb HS HJ HM c0
    have c0 : w1.cell? ⟨pj, 0, none⟩ = some (.pointer (some ⟨p, 0, none⟩)) := (blk_cell HJ1.out 0).trans rfl
    by_cases hlt : i < L.length
    case neg =>
      obtain rfl : i = L.length := by omega
      have hq : q = (0, Wi, any) := by rw [← HQ.out, Nat.sub_self]; rfl
      subst hq
      clear HQ
      cases any
      case false =>
        obtain rfl : r = (0, L, Wi) := hr.out
        clear hr
        go_wp2_with fail
        go_ret
        exact ⟨rfl, vi, HS1.out, HJ1.out, HM1.out⟩
      case true =>
        obtain rfl : r = (0, setl (fun _ => 1) 0 Wi L, []) := hr.out
        clear hr
        go_wp2_with fail
        refine (b_Sync HS1.out).mono ?_
        rintro e w2 ⟨rfl, hs, hm⟩
        have HS2 := Aside0.mk hs
        have HJ2 := Aside0.mk (HJ1.out.mv hm (HS1.out.not_j HJ1.out))
        have HM2 := Aside0.mk (HM1.out.trans hm)
        clear hs hm HS1 HJ1 HM1 c0
        go_wp2_with fail
        go_ret
        exact ⟨rfl, _, HS2.out, HJ2.out, HM2.out⟩
    obtain ⟨m, hm⟩ : ∃ m, L.length - i = m + 1 := ⟨L.length - i - 1, by omega⟩
    have hm2 : L.length - (i + 1) = m := by omega
    have hq := HQ.out
    rw [hm, wipeS] at hq
    replace HQ := Aside0.mk hq
    have hm2 := Aside0.mk hm2
    clear hq hm
    go_wp2_with fail
    with_reducible refine (b_Read HS1.out _).mono ?_
    rintro e w2 ⟨rfl, hb⟩
    obtain ⟨x, hx⟩ : ∃ x, x = rd L Wi (i : Int) := ⟨_, rfl⟩
    rw [← hx] at HQ ⊢
    clear hx
    obtain ⟨b, c⟩ := x
    have HS2 := Aside0.mk (HS1.out.below hb)
    have HJ2 := Aside0.mk (HJ1.out.below hb)
    have HM2 := Aside0.mk (HM1.out.trans (Mv.of_below hb))
    clear hb HS1 HJ1 HM1 c0
    go_wp2_with ((with_reducible refine gate_store (t := 46) (p := 5) (v := .tmp 28) rfl ?_); refine Shut.out ?_)
    unfold Shut
    change wpList _ _ _ _ _ (w2.alloc (.cells Bk.z.cs.toArray 46))
    obtain ⟨hnb, hnk⟩ := newbk w2 Bk.z.cs.toArray b.cs.toArray 46
    refine wpl_stbk 46 _ _ w2.heap.size b 46 Bk.z rfl rfl rfl rfl rfl (blk_new w2 _) bk_info ?_
    have HS3 := Aside0.mk (HS2.out.below hnb)
    have HJ3 := Aside0.mk (HJ2.out.below hnb)
    have HM3 := Aside0.mk (HM2.out.trans (Mv.of_below hnb))
    have BK5 := Aside0.mk hnk
    clear hnb hnk HS2 HJ2 HM2
    generalize (w2.alloc (.cells Bk.z.cs.toArray 46)).setRow w2.heap.size b.cs.toArray = w3 at HS3 HJ3 HM3 BK5 ⊢
    generalize w2.heap.size = g5 at BK5 ⊢
    have heq := fun d W => bk_eqz b d W
    by_cases hc : c = 0
    case pos =>
      subst hc
      have hc1 : ((0 : Int) == 0) = true := rfl
      by_cases hbz2 : b = Bk.z
      case pos =>
        have hd : decide (b = Bk.z) = true := by simpa using hbz2
        have hq := HQ.out
        rw [if_pos (by rw [hbz2])] at hq
        clear hbz2
        replace HQ := Aside0.mk hq
        clear hq
        go_wp2_with ((with_reducible refine gate_dst (N := 33) rfl ?_); refine gate_guard rfl ?_; refine wpl_ldbk2 46 _ g5 b 46 (0, 0) _ _ rfl rfl rfl BK5.out bk_und bk_info ?_)
        go_roundw
        case rel => exact ⟨i + 1, any, Wi, vi, by omega, by omega, rfl, by go_num, HS3, HJ3, HM3, ⟨by rw [hm2.out]; exact HQ.out⟩⟩
        case measure => simp [intOf]; omega
      have hd : decide (b = Bk.z) = false := by simpa using hbz2
      have hq := HQ.out
      rw [if_neg (fun e => hbz2 (congrArg Prod.fst e))] at hq
      clear hbz2
      replace HQ := Aside0.mk hq
      clear hq
      have c0 : w3.cell? ⟨pj, 0, none⟩ = some (.pointer (some ⟨p, 0, none⟩)) := (blk_cell HJ3.out 0).trans rfl
      go_wp2_with ((with_reducible refine gate_dst (N := 33) rfl ?_); refine gate_guard rfl ?_; refine wpl_ldbk2 46 _ g5 b 46 (0, 0) _ _ rfl rfl rfl BK5.out bk_und bk_info ?_)
      clear heq c0 BK5
      refine (b_Write0 HS3.out HS3.out.base_le i).mono ?_
      rintro e w4 ⟨rfl, v4, hs, hmv⟩
      have HS4 := Aside0.mk hs
      have HJ4 := Aside0.mk (HJ3.out.mv hmv (HS3.out.not_j HJ3.out))
      have HM4 := Aside0.mk (HM3.out.trans hmv)
      clear hs hmv HS3 HJ3 HM3
      have hwW : wrW L Wi i Bk.z = if wrc L Wi i = 0 then Wi ++ [((i : Int), Bk.z)] else Wi := rfl
      rw [hwW] at HS4
      generalize wrc L Wi (i : Int) = er at HQ HS4 ⊢
      clear hwW
      by_cases h0 : er = 0
      case pos =>
        subst h0
        have hq := HQ.out
        rw [if_pos rfl] at hq
        replace HQ := Aside0.mk hq
        rw [if_pos rfl] at HS4
        clear hq
        go_wp2_with fail
        go_roundw
        case rel => exact ⟨i + 1, true, _, v4, by omega, by omega, rfl, by go_num, HS4, HJ4, HM4, ⟨by rw [hm2.out]; exact HQ.out⟩⟩
        case measure => simp [intOf]; omega
      have h1 : (er != 0) = true := by simpa using h0
      have h2 : (er == 0) = false := by simpa using h0
      have hq := HQ.out
      rw [if_neg h0] at hq
      subst hq
      rw [if_neg h0] at HS4
      obtain rfl : r = (er, L, Wi) := by rw [hr.out, if_pos h0]
      clear hr HQ
      go_wp2_with fail
      go_ret
      exact ⟨rfl, v4, HS4.out, HJ4.out, HM4.out⟩
    have hc1 : (c == 0) = false := by simpa using hc
    have hq := HQ.out
    rw [if_neg (fun e => hc (congrArg Prod.snd e))] at hq
    replace HQ := Aside0.mk hq
    clear hq
    have c0 : w3.cell? ⟨pj, 0, none⟩ = some (.pointer (some ⟨p, 0, none⟩)) := (blk_cell HJ3.out 0).trans rfl
    go_wp2_with fail
    clear heq c0 BK5
    refine (b_Write0 HS3.out HS3.out.base_le i).mono ?_
    rintro e w4 ⟨rfl, v4, hs, hmv⟩
    have HS4 := Aside0.mk hs
    have HJ4 := Aside0.mk (HJ3.out.mv hmv (HS3.out.not_j HJ3.out))
    have HM4 := Aside0.mk (HM3.out.trans hmv)
    clear hs hmv HS3 HJ3 HM3
    have hwW : wrW L Wi i Bk.z = if wrc L Wi i = 0 then Wi ++ [((i : Int), Bk.z)] else Wi := rfl
    rw [hwW] at HS4
    generalize wrc L Wi (i : Int) = er at HQ HS4 ⊢
    clear hwW
    by_cases h0 : er = 0
    case pos =>
      subst h0
      have hq := HQ.out
      rw [if_pos rfl] at hq
      replace HQ := Aside0.mk hq
      rw [if_pos rfl] at HS4
      clear hq
      go_wp2_with fail
      go_roundw
      case rel => exact ⟨i + 1, true, _, v4, by omega, by omega, rfl, by go_num, HS4, HJ4, HM4, ⟨by rw [hm2.out]; exact HQ.out⟩⟩
      case measure => simp [intOf]; omega
    have h1 : (er != 0) = true := by simpa using h0
    have h2 : (er == 0) = false := by simpa using h0
    have hq := HQ.out
    rw [if_neg h0] at hq
    subst hq
    rw [if_neg h0] at HS4
    obtain rfl : r = (er, L, Wi) := by rw [hr.out, if_pos h0]
    clear hr HQ
    go_wp2_with fail
    go_ret
    exact ⟨rfl, v4, HS4.out, HJ4.out, HM4.out⟩
end
section
theorem openc_ok : FnOk Try.prog 34 := ⟨_, Try.func34, by kernel_rfl, by kernel_rfl⟩
theorem usum_take (l : List (List Int)) (i : Nat) : usum (l.take i) ≤ usum l := by
  have := usum_append (l.take i) (l.drop i)
  rw [List.take_append_drop] at this
  omega
theorem usum_step (l : List (List Int)) (i : Nat) (hi : i < l.length) : usum (l.take (i + 1)) = usum (l.take i) + pn l[i].length := by
  rw [List.take_succ_eq_append_getElem hi, usum_append]
  rfl
variable {B : Nat} {w w' : World} {p gl gm : Nat} {v : Value} {L : List (Bk × Bool)} {W : List (Int × Bk)}
/-- What there is while a journal is opened: the store, the journal's struct, its box. -/
structure OI (B : Nat) (p gl gm : Nat) (v : Value) (L : List (Bk × Bool)) (W : List (Int × Bk)) (pj u : Nat) (lv : Value) (gj : Nat) (w : World) : Prop where
  hs : SA B w p gl gm v L W
  hj : JBk w pj p lv u
  hg : w.heap[gj]? = some (.cells #[.pointer (some ⟨pj, 0, none⟩)] 32 (0, 0))
theorem OI.below {pj u gj : Nat} {lv : Value} (h : OI B p gl gm v L W pj u lv gj w) (hb : Below w.heap.size w w') : OI B p gl gm v L W pj u lv gj w' := ⟨h.hs.below hb, h.hj.below hb, blk_below h.hg hb⟩
theorem OI.ne {pj u gj : Nat} {lv : Value} (h : OI B p gl gm v L W pj u lv gj w) : gj ≠ pj := fun e => by
  have h1 := h.hj
  have h2 := h.hg
  unfold JBk at h1
  rw [e, h1] at h2
  injection h2 with h2
  injection h2 with _ h2
  exact absurd h2 (by decide)
theorem recs_spec (hok : ∀ a, okB (rd L W a).1) : (∀ i (h : i < (recs L W).length), recP (fAt L W (usum ((recs L W).take i))) (1 + i) = some (recs L W)[i]) ∧ recP (fAt L W (usum (recs L W))) (1 + (recs L W).length) = none ∧ usum (recs L W) ≤ L.length := by
  obtain ⟨h1, h2, h3⟩ := scan_spec hok (L.length + 1) 0 1 (by omega)
  refine ⟨fun i h => ?_, ?_, ?_⟩
  · have := h1 i h; rwa [Nat.zero_add] at this
  · rwa [Nat.zero_add] at h2
  · have := h3 (Nat.zero_le _); rwa [Nat.zero_add] at this
theorem j_scan {pj gj : Nat} {lv : Value} (hok : ∀ a, okB (rd L W a).1) (h : OI B p gl gm v L W pj 0 lv gj w) :
    Calls Try.prog 33 #[.int .i64 1, .func (.func 34) #[] #[.pointer (some ⟨gj, 0, none⟩)]] w fun e w' => ∃ l, e = .returned l ∧ RB w' w.heap.size (fun k => w.heap.size ≤ k) l (recs L W) ∧ Mv (fun k => k = pj) (fun k => k = pj) w w' ∧ OI B p gl gm v L W pj (usum (recs L W)) lv gj w' := by
  obtain ⟨h1, h2, h3⟩ := recs_spec hok
  have hlen := scan_le (L := L) (W := W) (L.length + 1) 0 1
  have hlen : (recs L W).length ≤ L.length + 1 := hlen
  have hL := h.hs.hL.2
  refine (j_while (n := 34) (start := 1) (caps := #[.pointer (some ⟨gj, 0, none⟩)]) openc_ok (recs L W) (by omega) (fun k => k = pj) (fun k hk => by rw [hk]; exact blk_lt h.hj)
    (fun i w => OI B p gl gm v L W pj (usum ((recs L W).take i)) lv gj w) h (fun i w' w'' hI hk => ⟨hI.hs.keep (fun k hf => hk k (h.hs.lt hf)), (hk pj (blk_lt h.hj)).trans hI.hj, (hk gj (blk_lt h.hg)).trans hI.hg⟩) ?_).mono ?_
  · intro i w1 hi hm hI
    have hut := usum_take (recs L W) i
    have hne := hI.ne
    by_cases hlt : i < (recs L W).length
    · refine (j_openc (n := 1 + i) (r := some (recs L W)[i]) hI.hs hI.hj hI.hg (by omega) (by omega) hok (h1 i hlt)).mono ?_
      rintro e w2 ⟨v1, rfl, hR, hm2, hj2⟩
      refine ⟨v1, by rw [decide_eq_true hlt]; rfl, fun _ => hR _ rfl, hm2, hI.hs.keep (fun k hk => hm2.block k (hI.hs.lt hk) (fun e => hI.hs.not_j hI.hj (by rw [← e]; exact hk))), by rw [usum_step _ _ hlt]; exact hj2, hm2.blk hI.hg hne⟩
    · obtain rfl : i = (recs L W).length := by omega
      rw [List.take_length] at hI
      refine (j_openc (n := 1 + (recs L W).length) (r := none) hI.hs hI.hj hI.hg (by omega) (by omega) hok h2).mono ?_
      rintro e w2 ⟨v1, rfl, hR, hm2, hj2⟩
      refine ⟨v1, by rw [decide_eq_false hlt]; rfl, fun h => absurd h hlt, hm2, hI.hs.keep (fun k hk => hm2.block k (hI.hs.lt hk) (fun e => hI.hs.not_j hI.hj (by rw [← e]; exact hk))), by rw [List.take_of_length_le (by omega)]; exact hj2, hm2.blk hI.hg hne⟩
  · rintro e w2 ⟨l, rfl, hR, hm, hI⟩
    rw [List.take_of_length_le (by omega)] at hI
    exact ⟨l, rfl, hR, hm, hI⟩
theorem j_scan2 {pj gj : Nat} {lv : Value} (hok : ∀ a, okB (rd L W a).1) {rs : List (List Int)} (hrs : rs = recs L W) (h : OI B p gl gm v L W pj 0 lv gj w) :
    Calls Try.prog 33 #[.int .i64 1, .func (.func 34) #[] #[.pointer (some ⟨gj, 0, none⟩)]] w fun e w' => ∃ A c, e = .returned (.slice A rs.length c) ∧ RB w' w.heap.size (fun k => w.heap.size ≤ k) (.slice A rs.length c) rs ∧ Mv (fun k => k = pj) (fun k => k = pj) w w' ∧ OI B p gl gm v L W pj (usum rs) lv gj w' := by
  subst hrs
  refine (j_scan hok h).mono ?_
  rintro e w2 ⟨l, rfl, hR, hm, hI⟩
  obtain ⟨A, c, hl⟩ := Kd.R_slice hR
  subst hl
  exact ⟨A, c, rfl, hR, hm, hI⟩
/-- A journal's own blocks: its struct, its row of records. -/
def jf (pj : Nat) (lv : Value) (k : Nat) : Prop := k = pj ∨ lv.ownBlock = some k
theorem JBk.put {pj u : Nat} {lv l : Value} (h : JBk w pj p lv u) : JBk (w.setCell ⟨pj, 1, none⟩ l) pj p l u := by
  unfold JBk at h ⊢
  rw [put_step h]
  exact setRow_heap _ _ _ _ _ _ h
theorem RB.mv {F F' : Nat → Prop} {B : Nat} {ok : Nat → Prop} {lv : Value} {rs : List (List Int)} (h : RB w B ok lv rs) (hm : Mv F F' w w') (hF : ∀ k, F k → ∀ cs t, w.heap[k]? = some (.cells cs t (0, 0)) → t ≠ 38 ∧ t ≠ 5) : RB w' B ok lv rs :=
  Kd.R_mono (Kd.R_step (Kd.R_bound h) (fun k hk hlt => hm.block k hlt (fun hf => by
    obtain ⟨_, _, _, q, hq, cs, hc⟩ := hk
    have := hF k hf cs q hc
    have hq : q = 38 ∨ q = 5 := by simpa [Kd.slice, Kd.int, Kd.scalar] using hq
    rcases hq with rfl | rfl
    · exact this.1 rfl
    · exact this.2 rfl))) (fun _ hk => hk.1)
theorem SA.rb (h : SA B w p gl gm v L W) : ∀ k, foot p gl gm v k → ∀ cs t, w.heap[k]? = some (.cells cs t (0, 0)) → t ≠ 38 ∧ t ≠ 5 := fun k hk cs t hc =>
  ⟨fun e => h.far (t := t) hc (by rw [e]; decide) hk, fun e => h.far (t := t) hc (by rw [e]; decide) hk⟩
theorem JBk.rb {pj u : Nat} {lv : Value} (h : JBk w pj p lv u) : ∀ k, k = pj → ∀ cs t, w.heap[k]? = some (.cells cs t (0, 0)) → t ≠ 38 ∧ t ≠ 5 := fun k hk cs t hc => by
  rw [hk, h] at hc
  injection hc with hc
  injection hc with _ hc
  rw [← hc]
  decide
set_option maxHeartbeats 8000000 in
set_option maxRecDepth 100000 in
theorem j_Open_nil : Calls Try.prog 12 #[.pointer none] w fun e w' => e = .returned (.tuple #[.pointer none, .int .i64 2]) ∧ Below w.heap.size w w' := by
  go_enter Try.func12, Try.ntmps12
  go_wp2_with fail
  go_ret2
  exact ⟨rfl, Below.refl _ _⟩
set_option maxHeartbeats 8000000 in
set_option maxRecDepth 100000 in
theorem j_Open (h : SA B w p gl gm v L W) (hok : ∀ a, okB (rd L W a).1) :
    Calls Try.prog 12 #[.pointer (some ⟨p, 0, none⟩)] w fun e w' => ∃ pj lv v', e = .returned (.tuple #[if (wipeR L W (usum (recs L W))).1 = 0 then .pointer (some ⟨pj, 0, none⟩) else .pointer none, .int .i64 (wipeR L W (usum (recs L W))).1]) ∧ SA B w' p gl gm v' (wipeR L W (usum (recs L W))).2.1 (wipeR L W (usum (recs L W))).2.2 ∧ JBk w' pj p lv (usum (recs L W)) ∧ RB w' w.heap.size (fun k => w.heap.size ≤ k) lv (recs L W) ∧ w.heap.size ≤ pj ∧ Mv (foot p gl gm v) (fun k => foot p gl gm v' k ∨ jf pj lv k) w w' := by
  obtain ⟨_, _, hus⟩ := recs_spec hok
  obtain ⟨rs, hrs⟩ : ∃ rs, rs = recs L W := ⟨_, rfl⟩
  rw [← hrs] at hus ⊢
  obtain ⟨r, hr⟩ : ∃ r, r = wipeR L W (usum rs) := ⟨_, rfl⟩
  rw [← hr]
  replace hr := Aside0.mk hr
  replace hrs := Aside0.mk hrs
  replace hok := Aside0.mk hok
  have HS := Aside0.mk h
  clear h
  go_enter Try.func12, Try.ntmps12
  go_wp2_with fail
  have s1 : (w.alloc (.cells #[.pointer (some ⟨p, 0, none⟩), .slice none 0 0, .int .i64 0] 80)).heap.size = w.heap.size + 1 := by simp
  have hb1 := below_alloc (below_alloc (Below.refl w.heap.size w) (.cells #[.pointer (some ⟨p, 0, none⟩), .slice none 0 0, .int .i64 0] 80)) (.cells #[.pointer (some ⟨w.heap.size, 0, none⟩)] 32)
  have k0 := blk_alloc (blk_new w (.cells #[.pointer (some ⟨p, 0, none⟩), .slice none 0 0, .int .i64 0] 80)) (.cells #[.pointer (some ⟨w.heap.size, 0, none⟩)] 32)
  have k1 := blk_new (w.alloc (.cells #[.pointer (some ⟨p, 0, none⟩), .slice none 0 0, .int .i64 0] 80)) (.cells #[.pointer (some ⟨w.heap.size, 0, none⟩)] 32)
  rw [s1] at k1
  have HI := Aside0.mk (OI.mk (pj := w.heap.size) (u := 0) (lv := .slice none 0 0) (gj := w.heap.size + 1) (HS.out.below hb1) k0 k1)
  have HB := Aside0.mk hb1
  clear s1 hb1 k0 k1 HS
  generalize (w.alloc (.cells #[.pointer (some ⟨p, 0, none⟩), .slice none 0 0, .int .i64 0] 80)).alloc (.cells #[.pointer (some ⟨w.heap.size, 0, none⟩)] 32) = w1 at HI HB ⊢
  have n_HI := Aside0.mk (OI.below HI.out (below_drew (Below.refl _ _)))
  have n_HB := Aside0.mk (below_step HB.out (below_drew (Below.refl _ _)))
  clear HI
  have HI := n_HI
  clear n_HI
  clear HB
  have HB := n_HB
  clear n_HB
  refine start_ (n := 6) (S := fun w' => w'.cell? ⟨w.heap.size + 1, 0, none⟩ = some (.pointer (some ⟨w.heap.size, 0, none⟩))) (ds := [5]) #[false, false, false, false, false, false] (by kernel_rfl) rfl rfl ((blk_cell HI.out.hg 0).trans rfl) (fun hHeld => ?_)
  generalize w1.drew = w2 at HI HB hHeld ⊢
  refine pure_ (i := 1) (N := some 12) (v := ?_) (a' := ?_) #[false, true, false, false, false, false] rfl rfl (by kernel_rfl) (fun _ _ _ h => h) (Or.inl ⟨by rfl, ?_⟩) ?_ ?_
  rotate_left
  · intro w'
    go_simp
    with_reducible rfl
  rotate_left
  · simp only [Act.put, List.setIfInBounds_toArray, List.set_cons_zero, List.set_cons_succ, i64_w, i32_w]
    rfl
  refine take_ (i := 0) (N := some 11) (v := ?_) (a' := ?_) #[true, true, false, false, false, false] rfl rfl (by kernel_rfl) (fun _ _ _ h => h) (Or.inl ⟨by rfl, ?_⟩) hHeld ?_ ?_
  rotate_left
  · intro w' s0
    go_simp
    with_reducible rfl
  rotate_left
  · simp only [Act.put, List.setIfInBounds_toArray, List.set_cons_zero, List.set_cons_succ, i64_w, i32_w]
    rfl
  refine one_ (i := 2) (N := some 13) #[true, true, true, false, false, false] rfl rfl (by kernel_rfl) (by decide) (fun K hK => ?_)
  refine goes_ Try.func33 (by kernel_rfl) rfl #[.int .i64 1, .func (.func 34) #[] #[.pointer (some ⟨w.heap.size + 1, 0, none⟩)]] (by rfl) rfl rfl (by (try simp only [List.map_toArray, List.map_cons, List.map_nil]); first | done | rfl) ?_
  with_reducible refine (j_scan2 hok.out hrs.out HI.out).mono ?_
  rintro e y1_ ⟨A1, c1, rfl, hR, hm, hI⟩
  refine ⟨_, rfl, ?_⟩
  have m_HI := Aside0.mk (hI)
  have m_HB := Aside0.mk (hm.below HB.out HB.out.size (fun k hk => by omega))
  have m_RR := Aside0.mk (Kd.R_mono (Kd.R_lower hR HB.out.size) (fun k hk => Nat.le_trans HB.out.size hk))
  skip
  clear HI
  clear HB
  have HI := m_HI
  clear m_HI
  have HB := m_HB
  clear m_HB
  have RR := m_RR
  clear m_RR
  clear hR hm hI
  refine hK.out _ _ ((blk_cell HI.out.hg 0).trans rfl) (fun hHeld => ?_)
  clear hK K
  refine norm_ (a' := ?_) ?_ ?_
  rotate_left
  · show Act.put _ (some 13) _ = _
    simp only [Act.put, List.setIfInBounds_toArray, List.set_cons_zero, List.set_cons_succ, i64_w, i32_w]
    rfl
  refine pure_ (i := 3) (N := some 14) (v := ?_) (a' := ?_) #[true, true, true, true, false, false] rfl rfl (by kernel_rfl) (fun _ _ _ h => h) (Or.inl ⟨by rfl, ?_⟩) ?_ ?_
  rotate_left
  · intro w'
    go_simp
    with_reducible rfl
  rotate_left
  · simp only [Act.put, List.setIfInBounds_toArray, List.set_cons_zero, List.set_cons_succ, i64_w, i32_w]
    rfl
  refine pure_ (i := 4) (N := some 15) (v := ?_) (a' := ?_) #[true, true, true, true, true, false] rfl rfl (by kernel_rfl) (fun _ _ _ h => h) (Or.inl ⟨by rfl, ?_⟩) ?_ ?_
  rotate_left
  · intro w'
    go_simp
    with_reducible rfl
  rotate_left
  · simp only [Act.put, List.setIfInBounds_toArray, List.set_cons_zero, List.set_cons_succ, i64_w, i32_w]
    rfl
  refine last_ (i := 5) (N := none) #[true, true, true, true, true, true] rfl rfl (by kernel_rfl) (by decide) (fun K hK => ?_)
  have kf := blk_frozen HI.out.hj 1
  have kc := (blk_cell HI.out.hj 1).trans rfl
  refine skip_ (w1 := ?_) (by rfl) rfl ?_ ?_
  rotate_left
  · go_simp
    rfl
  refine hK.out _ _ ?_
  clear hK K
  refine done_ (by kernel_rfl) ?_
  clear hHeld kc kf
  have hm0 := Mv.cell (F := fun k => k = w.heap.size) y1_ ⟨w.heap.size, 1, none⟩ rfl (.slice A1 rs.length c1)
  have HJ := Aside0.mk (HI.out.hj.put (l := .slice A1 rs.length c1))
  have HS := Aside0.mk (HI.out.hs.keep (fun k hk => hm0.block k (HI.out.hs.lt hk) (fun e => HI.out.hs.not_j HI.out.hj (by rw [← e]; exact hk))))
  have HG := Aside0.mk (hm0.blk HI.out.hg HI.out.ne)
  have HB2 := Aside0.mk (hm0.below HB.out HB.out.size (fun k hk => by omega))
  have RR2 := Aside0.mk (RB.mv RR.out hm0 HI.out.hj.rb)
  clear hm0 HI HB RR
  generalize y1_.setCell ⟨w.heap.size, 1, none⟩ (.slice A1 rs.length c1) = w3 at HJ HS HG HB2 RR2 ⊢
  have c0 : w3.cell? ⟨w.heap.size + 1, 0, none⟩ = some (.pointer (some ⟨w.heap.size, 0, none⟩)) := (blk_cell HG.out 0).trans rfl
  go_wp2_with fail
  have HW := Aside0.mk (j_wipe HS.out HJ.out hus)
  rw [← hr.out] at HW
  refine HW.out.mono ?_
  rintro e w4 ⟨rfl, v', hs, hj, hm⟩
  have HG4 := Aside0.mk (hm.blk HG.out (HS.out.far HG.out (by decide)))
  have RR4 := Aside0.mk (RB.mv RR2.out hm HS.out.rb)
  have HM4 := Aside0.mk (((Mv.of_below (F := foot p gl gm v) HB2.out).trans hm).weaken (F1 := foot p gl gm v) (F1' := fun k => foot p gl gm v' k ∨ jf w.heap.size (.slice A1 rs.length c1) k) (fun k hk => hk) (fun k hk => by
    rcases hk with hk | hk | hk
    · rcases hm.foot k hk with h | h
      · exact .inl h
      · exact .inr (Nat.le_trans HB2.out.size h)
    · exact .inr (by omega)
    · exact .inr (RR2.out.1 k hk)))
  have HS4 := Aside0.mk hs
  have HJ4 := Aside0.mk hj
  clear hs hj hm HW HG RR2 HS HJ HB2 c0
  have c0 : w4.cell? ⟨w.heap.size + 1, 0, none⟩ = some (.pointer (some ⟨w.heap.size, 0, none⟩)) := (blk_cell HG4.out 0).trans rfl
  obtain ⟨er, L', W'⟩ := r
  by_cases h0 : er = 0
  case pos =>
    subst h0
    go_wp2_with fail
    go_ret2
    first | exact ⟨w.heap.size, rfl, _, v', HS4.out, HJ4.out, RR4.out, Nat.le_refl _, HM4.out⟩ | exact ⟨rfl, w.heap.size, _, v', HS4.out, HJ4.out, RR4.out, Nat.le_refl _, HM4.out⟩ | exact ⟨w.heap.size, _, v', rfl, HS4.out, HJ4.out, RR4.out, Nat.le_refl _, HM4.out⟩ | exact ⟨_, rfl, _, _, HS4.out, HJ4.out, RR4.out, Nat.le_refl _, HM4.out⟩
  have h1 : (er != 0) = true := by simpa using h0
  have h2 : (er == 0) = false := by simpa using h0
  go_wp2_with fail
  go_ret2
  first | exact ⟨w.heap.size, rfl, _, v', HS4.out, HJ4.out, RR4.out, Nat.le_refl _, HM4.out⟩ | exact ⟨rfl, w.heap.size, _, v', HS4.out, HJ4.out, RR4.out, Nat.le_refl _, HM4.out⟩ | exact ⟨w.heap.size, _, v', rfl, HS4.out, HJ4.out, RR4.out, Nat.le_refl _, HM4.out⟩ | exact ⟨_, rfl, _, _, HS4.out, HJ4.out, RR4.out, Nat.le_refl _, HM4.out⟩
end
section
variable {B : Nat} {w w' : World} {p gl gm : Nat} {v : Value} {L : List (Bk × Bool)} {W : List (Int × Bk)} {pj u : Nat} {lv : Value}
set_option maxHeartbeats 4000000 in
set_option maxRecDepth 100000 in
theorem j_Used (hj : JBk w pj p lv u) : Calls Try.prog 23 #[.pointer (some ⟨pj, 0, none⟩)] w fun e w' => e = .returned (.int .i64 u) ∧ Below w.heap.size w w' := by
  have c2 : w.cell? ⟨pj, 2, none⟩ = some (.int .i64 u) := (blk_cell hj 2).trans rfl
  clear hj
  go_enter Try.func23, Try.ntmps23
  go_wp2_with fail
  go_ret
  exact ⟨rfl, Below.refl _ _⟩
set_option maxHeartbeats 4000000 in
set_option maxRecDepth 100000 in
theorem j_Sync_nil : Calls Try.prog 16 #[.pointer none] w fun e w' => e = .returned (.int .i64 1) ∧ Below w.heap.size w w' := by
  go_enter Try.func16, Try.ntmps16
  go_wp2_with fail
  go_ret
  exact ⟨rfl, Below.refl _ _⟩
set_option maxHeartbeats 4000000 in
set_option maxRecDepth 100000 in
theorem j_Sync (h : SA B w p gl gm v L W) (hj : JBk w pj p lv u) : Calls Try.prog 16 #[.pointer (some ⟨pj, 0, none⟩)] w fun e w' => e = .returned (.int .i64 0) ∧ SA B w' p gl gm (.slice none 0 0) (setl (fun _ => 1) 0 W L) [] ∧ Mv (foot p gl gm v) (foot p gl gm (.slice none 0 0)) w w' := by
  have c0 : w.cell? ⟨pj, 0, none⟩ = some (.pointer (some ⟨p, 0, none⟩)) := (blk_cell hj 0).trans rfl
  have HS := Aside0.mk h
  clear h hj
  go_enter Try.func16, Try.ntmps16
  go_wp2_with fail
  refine (b_Sync HS.out).mono ?_
  rintro e w1 ⟨rfl, hs, hm⟩
  have HS1 := Aside0.mk hs
  have HM1 := Aside0.mk hm
  clear hs hm HS c0
  go_wp2_with fail
  go_ret
  exact ⟨rfl, HS1.out, HM1.out⟩
/-- May a record of so many bytes be added? -/
def fits (L : List (Bk × Bool)) (u : Nat) (n : Int) : Bool := decide (0 ≤ n) && (decide (n ≤ 13515) && decide ((pn n.toNat : Int) ≤ (L.length : Int) - u))
set_option maxHeartbeats 4000000 in
set_option maxRecDepth 100000 in
theorem j_Fits (h : SA B w p gl gm v L W) (hj : JBk w pj p lv u) (hu : u ≤ L.length) (n : Int) : Calls Try.prog 26 #[.pointer (some ⟨pj, 0, none⟩), .int .i64 n] w fun e w' => e = .returned (.bool (fits L u n)) ∧ Below w.heap.size w w' := by
  have hL := h.hL
  have HS := Aside0.mk h
  have HJ := Aside0.mk hj
  have HB := Aside0.mk (Below.refl w.heap.size w)
  clear h hj
  obtain ⟨r, hr⟩ : ∃ r, r = fits L u n := ⟨_, rfl⟩
  rw [← hr]
  unfold fits at hr
  replace hr := Aside0.mk hr
  go_enter Try.func26, Try.ntmps26
  by_cases h1 : 0 ≤ n
  case neg =>
    obtain rfl : r = false := by rw [hr.out, decide_eq_false h1, Bool.false_and]
    have hd1 : decide (0 ≤ n) = false := decide_eq_false h1
    clear hr h1
    go_wp2_with fail
    have n_HS := Aside0.mk (HS.out.below (below_drew (Below.refl _ _)))
    have n_HJ := Aside0.mk (JBk.below HJ.out (below_drew (Below.refl _ _)))
    have n_HB := Aside0.mk (below_step HB.out (below_drew (Below.refl _ _)))
    clear HS
    have HS := n_HS
    clear n_HS
    clear HJ
    have HJ := n_HJ
    clear n_HJ
    clear HB
    have HB := n_HB
    clear n_HB
    refine start_ (n := 26) (S := fun w' => w'.cell? ⟨pj, 0, none⟩ = some (.pointer (some ⟨p, 0, none⟩)) ∧ w'.cell? ⟨pj, 2, none⟩ = some (.int .i64 u)) (ds := []) #[false, false, false, false, false, false, false, false, false, false, false, false, false, false, false, false, false, false, false, false, false, false, false, false, false, false] (by kernel_rfl) rfl rfl ⟨(blk_cell HJ.out 0).trans rfl, (blk_cell HJ.out 2).trans rfl⟩ (fun hHeld => ?_)
    generalize w.drew = w1 at HS HJ HB hHeld ⊢
    refine pure_ (i := 0) (N := some 5) (v := ?_) (a' := ?_) #[true, false, false, false, false, false, false, false, false, false, false, false, false, false, false, false, false, false, false, false, false, false, false, false, false, false] rfl rfl (by kernel_rfl) (fun _ _ _ h => h) (Or.inl ⟨by rfl, ?_⟩) ?_ ?_
    rotate_left
    · intro w'
      go_simp
      with_reducible rfl
    rotate_left
    · simp only [Act.put, List.setIfInBounds_toArray, List.set_cons_zero, List.set_cons_succ, i64_w, i32_w]
      rfl
    refine pure_ (i := 1) (N := some 6) (v := ?_) (a' := ?_) #[true, true, false, false, false, false, false, false, false, false, false, false, false, false, false, false, false, false, false, false, false, false, false, false, false, false] rfl rfl (by kernel_rfl) (fun _ _ _ h => h) (Or.inl ⟨by rfl, ?_⟩) ?_ ?_
    rotate_left
    · intro w'
      go_simp
      with_reducible rfl
    rotate_left
    · simp only [Act.put, List.setIfInBounds_toArray, List.set_cons_zero, List.set_cons_succ, i64_w, i32_w]
      rfl
    refine pure_ (i := 2) (N := some 7) (v := ?_) (a' := ?_) #[true, true, true, false, false, false, false, false, false, false, false, false, false, false, false, false, false, false, false, false, false, false, false, false, false, false] rfl rfl (by kernel_rfl) (fun _ _ _ h => h) (Or.inl ⟨by rfl, ?_⟩) ?_ ?_
    rotate_left
    · intro w'
      go_simp
      with_reducible rfl
    rotate_left
    · simp only [Act.put, List.setIfInBounds_toArray, List.set_cons_zero, List.set_cons_succ, i64_w, i32_w]
      rfl
    refine pure_ (i := 3) (N := some 8) (v := ?_) (a' := ?_) #[true, true, true, true, false, false, false, false, false, false, false, false, false, false, false, false, false, false, false, false, false, false, false, false, false, false] rfl rfl (by kernel_rfl) (fun _ _ _ h => h) (Or.inl ⟨by rfl, ?_⟩) ?_ ?_
    rotate_left
    · intro w'
      go_simp
      with_reducible rfl
    rotate_left
    · simp only [Act.put, List.setIfInBounds_toArray, List.set_cons_zero, List.set_cons_succ, i64_w, i32_w]
      rfl
    refine pure_ (i := 4) (N := some 9) (v := ?_) (a' := ?_) #[true, true, true, true, true, false, false, false, false, false, false, false, false, false, false, false, false, false, false, false, false, false, false, false, false, false] rfl rfl (by kernel_rfl) (fun _ _ _ h => h) (Or.inl ⟨by rfl, ?_⟩) ?_ ?_
    rotate_left
    · intro w'
      go_simp
      with_reducible rfl
    rotate_left
    · simp only [Act.put, List.setIfInBounds_toArray, List.set_cons_zero, List.set_cons_succ, i64_w, i32_w]
      rfl
    refine pure_ (i := 5) (N := some 10) (v := ?_) (a' := ?_) #[true, true, true, true, true, true, false, false, false, false, false, false, false, false, false, false, false, false, false, false, false, false, false, false, false, false] rfl rfl (by kernel_rfl) (fun _ _ _ h => h) (Or.inl ⟨by rfl, ?_⟩) ?_ ?_
    rotate_left
    · intro w'
      go_simp
      with_reducible rfl
    rotate_left
    · simp only [Act.put, List.setIfInBounds_toArray, List.set_cons_zero, List.set_cons_succ, i64_w, i32_w]
      rfl
    refine pure_ (i := 6) (N := some 11) (v := ?_) (a' := ?_) #[true, true, true, true, true, true, true, false, false, false, false, false, false, false, false, false, false, false, false, false, false, false, false, false, false, false] rfl rfl (by kernel_rfl) (fun _ _ _ h => h) (Or.inl ⟨by rfl, ?_⟩) ?_ ?_
    rotate_left
    · intro w'
      go_simp
      with_reducible rfl
    rotate_left
    · simp only [Act.put, List.setIfInBounds_toArray, List.set_cons_zero, List.set_cons_succ, i64_w, i32_w]
      rfl
    refine pure_ (i := 7) (N := some 12) (v := undef) (a' := ?_) #[true, true, true, true, true, true, true, true, false, false, false, false, false, false, false, false, false, false, false, false, false, false, false, false, false, false] rfl rfl (by kernel_rfl) (fun _ _ _ h => h) (Or.inr ⟨by rfl, rfl⟩) ?_ ?_
    rotate_left
    · simp only [Act.put, List.setIfInBounds_toArray, List.set_cons_zero, List.set_cons_succ, i64_w, i32_w]
      rfl
    refine pure_ (i := 8) (N := some 13) (v := undef) (a' := ?_) #[true, true, true, true, true, true, true, true, true, false, false, false, false, false, false, false, false, false, false, false, false, false, false, false, false, false] rfl rfl (by kernel_rfl) (fun _ _ _ h => h) (Or.inr ⟨by rfl, rfl⟩) ?_ ?_
    rotate_left
    · simp only [Act.put, List.setIfInBounds_toArray, List.set_cons_zero, List.set_cons_succ, i64_w, i32_w]
      rfl
    refine pure_ (i := 9) (N := some 14) (v := ?_) (a' := ?_) #[true, true, true, true, true, true, true, true, true, true, false, false, false, false, false, false, false, false, false, false, false, false, false, false, false, false] rfl rfl (by kernel_rfl) (fun _ _ _ h => h) (Or.inl ⟨by rfl, ?_⟩) ?_ ?_
    rotate_left
    · intro w'
      go_simp
      with_reducible rfl
    rotate_left
    · simp only [Act.put, List.setIfInBounds_toArray, List.set_cons_zero, List.set_cons_succ, i64_w, i32_w]
      rfl
    refine pure_ (i := 10) (N := some 15) (v := ?_) (a' := ?_) #[true, true, true, true, true, true, true, true, true, true, true, false, false, false, false, false, false, false, false, false, false, false, false, false, false, false] rfl rfl (by kernel_rfl) (fun _ _ _ h => h) (Or.inl ⟨by rfl, ?_⟩) ?_ ?_
    rotate_left
    · intro w'
      go_simp
      with_reducible rfl
    rotate_left
    · simp only [Act.put, List.setIfInBounds_toArray, List.set_cons_zero, List.set_cons_succ, i64_w, i32_w]
      rfl
    refine pure_ (i := 11) (N := some 16) (v := undef) (a' := ?_) #[true, true, true, true, true, true, true, true, true, true, true, true, false, false, false, false, false, false, false, false, false, false, false, false, false, false] rfl rfl (by kernel_rfl) (fun _ _ _ h => h) (Or.inr ⟨by rfl, rfl⟩) ?_ ?_
    rotate_left
    · simp only [Act.put, List.setIfInBounds_toArray, List.set_cons_zero, List.set_cons_succ, i64_w, i32_w]
      rfl
    refine pure_ (i := 12) (N := some 17) (v := undef) (a' := ?_) #[true, true, true, true, true, true, true, true, true, true, true, true, true, false, false, false, false, false, false, false, false, false, false, false, false, false] rfl rfl (by kernel_rfl) (fun _ _ _ h => h) (Or.inr ⟨by rfl, rfl⟩) ?_ ?_
    rotate_left
    · simp only [Act.put, List.setIfInBounds_toArray, List.set_cons_zero, List.set_cons_succ, i64_w, i32_w]
      rfl
    refine pure_ (i := 13) (N := some 18) (v := undef) (a' := ?_) #[true, true, true, true, true, true, true, true, true, true, true, true, true, true, false, false, false, false, false, false, false, false, false, false, false, false] rfl rfl (by kernel_rfl) (fun _ _ _ h => h) (Or.inr ⟨by rfl, rfl⟩) ?_ ?_
    rotate_left
    · simp only [Act.put, List.setIfInBounds_toArray, List.set_cons_zero, List.set_cons_succ, i64_w, i32_w]
      rfl
    refine pure_ (i := 14) (N := some 19) (v := undef) (a' := ?_) #[true, true, true, true, true, true, true, true, true, true, true, true, true, true, true, false, false, false, false, false, false, false, false, false, false, false] rfl rfl (by kernel_rfl) (fun _ _ _ h => h) (Or.inr ⟨by rfl, rfl⟩) ?_ ?_
    rotate_left
    · simp only [Act.put, List.setIfInBounds_toArray, List.set_cons_zero, List.set_cons_succ, i64_w, i32_w]
      rfl
    refine pure_ (i := 15) (N := some 20) (v := undef) (a' := ?_) #[true, true, true, true, true, true, true, true, true, true, true, true, true, true, true, true, false, false, false, false, false, false, false, false, false, false] rfl rfl (by kernel_rfl) (fun _ _ _ h => h) (Or.inr ⟨by rfl, rfl⟩) ?_ ?_
    rotate_left
    · simp only [Act.put, List.setIfInBounds_toArray, List.set_cons_zero, List.set_cons_succ, i64_w, i32_w]
      rfl
    refine pure_ (i := 16) (N := some 21) (v := undef) (a' := ?_) #[true, true, true, true, true, true, true, true, true, true, true, true, true, true, true, true, true, false, false, false, false, false, false, false, false, false] rfl rfl (by kernel_rfl) (fun _ _ _ h => h) (Or.inr ⟨by rfl, rfl⟩) ?_ ?_
    rotate_left
    · simp only [Act.put, List.setIfInBounds_toArray, List.set_cons_zero, List.set_cons_succ, i64_w, i32_w]
      rfl
    refine pure_ (i := 17) (N := some 22) (v := undef) (a' := ?_) #[true, true, true, true, true, true, true, true, true, true, true, true, true, true, true, true, true, true, false, false, false, false, false, false, false, false] rfl rfl (by kernel_rfl) (fun _ _ _ h => h) (Or.inr ⟨by rfl, rfl⟩) ?_ ?_
    rotate_left
    · simp only [Act.put, List.setIfInBounds_toArray, List.set_cons_zero, List.set_cons_succ, i64_w, i32_w]
      rfl
    refine pure_ (i := 18) (N := some 23) (v := undef) (a' := ?_) #[true, true, true, true, true, true, true, true, true, true, true, true, true, true, true, true, true, true, true, false, false, false, false, false, false, false] rfl rfl (by kernel_rfl) (fun _ _ _ h => h) (Or.inr ⟨by rfl, rfl⟩) ?_ ?_
    rotate_left
    · simp only [Act.put, List.setIfInBounds_toArray, List.set_cons_zero, List.set_cons_succ, i64_w, i32_w]
      rfl
    refine pure_ (i := 19) (N := some 24) (v := undef) (a' := ?_) #[true, true, true, true, true, true, true, true, true, true, true, true, true, true, true, true, true, true, true, true, false, false, false, false, false, false] rfl rfl (by kernel_rfl) (fun _ _ _ h => h) (Or.inr ⟨by rfl, rfl⟩) ?_ ?_
    rotate_left
    · simp only [Act.put, List.setIfInBounds_toArray, List.set_cons_zero, List.set_cons_succ, i64_w, i32_w]
      rfl
    refine pure_ (i := 20) (N := some 25) (v := undef) (a' := ?_) #[true, true, true, true, true, true, true, true, true, true, true, true, true, true, true, true, true, true, true, true, true, false, false, false, false, false] rfl rfl (by kernel_rfl) (fun _ _ _ h => h) (Or.inr ⟨by rfl, rfl⟩) ?_ ?_
    rotate_left
    · simp only [Act.put, List.setIfInBounds_toArray, List.set_cons_zero, List.set_cons_succ, i64_w, i32_w]
      rfl
    refine pure_ (i := 21) (N := some 26) (v := undef) (a' := ?_) #[true, true, true, true, true, true, true, true, true, true, true, true, true, true, true, true, true, true, true, true, true, true, false, false, false, false] rfl rfl (by kernel_rfl) (fun _ _ _ h => h) (Or.inr ⟨by rfl, rfl⟩) ?_ ?_
    rotate_left
    · simp only [Act.put, List.setIfInBounds_toArray, List.set_cons_zero, List.set_cons_succ, i64_w, i32_w]
      rfl
    refine pure_ (i := 22) (N := some 27) (v := undef) (a' := ?_) #[true, true, true, true, true, true, true, true, true, true, true, true, true, true, true, true, true, true, true, true, true, true, true, false, false, false] rfl rfl (by kernel_rfl) (fun _ _ _ h => h) (Or.inr ⟨by rfl, rfl⟩) ?_ ?_
    rotate_left
    · simp only [Act.put, List.setIfInBounds_toArray, List.set_cons_zero, List.set_cons_succ, i64_w, i32_w]
      rfl
    refine pure_ (i := 23) (N := some 28) (v := undef) (a' := ?_) #[true, true, true, true, true, true, true, true, true, true, true, true, true, true, true, true, true, true, true, true, true, true, true, true, false, false] rfl rfl (by kernel_rfl) (fun _ _ _ h => h) (Or.inr ⟨by rfl, rfl⟩) ?_ ?_
    rotate_left
    · simp only [Act.put, List.setIfInBounds_toArray, List.set_cons_zero, List.set_cons_succ, i64_w, i32_w]
      rfl
    refine pure_ (i := 24) (N := some 29) (v := ?_) (a' := ?_) #[true, true, true, true, true, true, true, true, true, true, true, true, true, true, true, true, true, true, true, true, true, true, true, true, true, false] rfl rfl (by kernel_rfl) (fun _ _ _ h => h) (Or.inl ⟨by rfl, ?_⟩) ?_ ?_
    rotate_left
    · intro w'
      go_simp
      with_reducible rfl
    rotate_left
    · simp only [Act.put, List.setIfInBounds_toArray, List.set_cons_zero, List.set_cons_succ, i64_w, i32_w]
      rfl
    refine pure_ (i := 25) (N := some 4) (v := ?_) (a' := ?_) #[true, true, true, true, true, true, true, true, true, true, true, true, true, true, true, true, true, true, true, true, true, true, true, true, true, true] rfl rfl (by kernel_rfl) (fun _ _ _ h => h) (Or.inl ⟨by rfl, ?_⟩) ?_ ?_
    rotate_left
    · intro w'
      go_simp
      with_reducible rfl
    rotate_left
    · simp only [Act.put, List.setIfInBounds_toArray, List.set_cons_zero, List.set_cons_succ, i64_w, i32_w]
      rfl
    refine done_ (by kernel_rfl) ?_
    clear hHeld
    go_wp2_with fail
    go_ret
    exact ⟨rfl, HB.out⟩
  by_cases h2 : n ≤ 13515
  case neg =>
    obtain rfl : r = false := by rw [hr.out, decide_eq_false h2, Bool.false_and, Bool.and_false]
    have hd1 : decide (0 ≤ n) = true := decide_eq_true h1
    have hd2 : decide (n ≤ 13515) = false := decide_eq_false h2
    clear hr h1 h2
    go_wp2_with fail
    have n_HS := Aside0.mk (HS.out.below (below_drew (Below.refl _ _)))
    have n_HJ := Aside0.mk (JBk.below HJ.out (below_drew (Below.refl _ _)))
    have n_HB := Aside0.mk (below_step HB.out (below_drew (Below.refl _ _)))
    clear HS
    have HS := n_HS
    clear n_HS
    clear HJ
    have HJ := n_HJ
    clear n_HJ
    clear HB
    have HB := n_HB
    clear n_HB
    refine start_ (n := 26) (S := fun w' => w'.cell? ⟨pj, 0, none⟩ = some (.pointer (some ⟨p, 0, none⟩)) ∧ w'.cell? ⟨pj, 2, none⟩ = some (.int .i64 u)) (ds := []) #[false, false, false, false, false, false, false, false, false, false, false, false, false, false, false, false, false, false, false, false, false, false, false, false, false, false] (by kernel_rfl) rfl rfl ⟨(blk_cell HJ.out 0).trans rfl, (blk_cell HJ.out 2).trans rfl⟩ (fun hHeld => ?_)
    generalize w.drew = w1 at HS HJ HB hHeld ⊢
    refine pure_ (i := 0) (N := some 5) (v := ?_) (a' := ?_) #[true, false, false, false, false, false, false, false, false, false, false, false, false, false, false, false, false, false, false, false, false, false, false, false, false, false] rfl rfl (by kernel_rfl) (fun _ _ _ h => h) (Or.inl ⟨by rfl, ?_⟩) ?_ ?_
    rotate_left
    · intro w'
      go_simp
      with_reducible rfl
    rotate_left
    · simp only [Act.put, List.setIfInBounds_toArray, List.set_cons_zero, List.set_cons_succ, i64_w, i32_w]
      rfl
    refine pure_ (i := 1) (N := some 6) (v := ?_) (a' := ?_) #[true, true, false, false, false, false, false, false, false, false, false, false, false, false, false, false, false, false, false, false, false, false, false, false, false, false] rfl rfl (by kernel_rfl) (fun _ _ _ h => h) (Or.inl ⟨by rfl, ?_⟩) ?_ ?_
    rotate_left
    · intro w'
      go_simp
      with_reducible rfl
    rotate_left
    · simp only [Act.put, List.setIfInBounds_toArray, List.set_cons_zero, List.set_cons_succ, i64_w, i32_w]
      rfl
    refine pure_ (i := 2) (N := some 7) (v := ?_) (a' := ?_) #[true, true, true, false, false, false, false, false, false, false, false, false, false, false, false, false, false, false, false, false, false, false, false, false, false, false] rfl rfl (by kernel_rfl) (fun _ _ _ h => h) (Or.inl ⟨by rfl, ?_⟩) ?_ ?_
    rotate_left
    · intro w'
      go_simp
      with_reducible rfl
    rotate_left
    · simp only [Act.put, List.setIfInBounds_toArray, List.set_cons_zero, List.set_cons_succ, i64_w, i32_w]
      rfl
    refine pure_ (i := 3) (N := some 8) (v := ?_) (a' := ?_) #[true, true, true, true, false, false, false, false, false, false, false, false, false, false, false, false, false, false, false, false, false, false, false, false, false, false] rfl rfl (by kernel_rfl) (fun _ _ _ h => h) (Or.inl ⟨by rfl, ?_⟩) ?_ ?_
    rotate_left
    · intro w'
      go_simp
      with_reducible rfl
    rotate_left
    · simp only [Act.put, List.setIfInBounds_toArray, List.set_cons_zero, List.set_cons_succ, i64_w, i32_w]
      rfl
    refine pure_ (i := 4) (N := some 9) (v := ?_) (a' := ?_) #[true, true, true, true, true, false, false, false, false, false, false, false, false, false, false, false, false, false, false, false, false, false, false, false, false, false] rfl rfl (by kernel_rfl) (fun _ _ _ h => h) (Or.inl ⟨by rfl, ?_⟩) ?_ ?_
    rotate_left
    · intro w'
      go_simp
      with_reducible rfl
    rotate_left
    · simp only [Act.put, List.setIfInBounds_toArray, List.set_cons_zero, List.set_cons_succ, i64_w, i32_w]
      rfl
    refine pure_ (i := 5) (N := some 10) (v := ?_) (a' := ?_) #[true, true, true, true, true, true, false, false, false, false, false, false, false, false, false, false, false, false, false, false, false, false, false, false, false, false] rfl rfl (by kernel_rfl) (fun _ _ _ h => h) (Or.inl ⟨by rfl, ?_⟩) ?_ ?_
    rotate_left
    · intro w'
      go_simp
      with_reducible rfl
    rotate_left
    · simp only [Act.put, List.setIfInBounds_toArray, List.set_cons_zero, List.set_cons_succ, i64_w, i32_w]
      rfl
    refine pure_ (i := 6) (N := some 11) (v := ?_) (a' := ?_) #[true, true, true, true, true, true, true, false, false, false, false, false, false, false, false, false, false, false, false, false, false, false, false, false, false, false] rfl rfl (by kernel_rfl) (fun _ _ _ h => h) (Or.inl ⟨by rfl, ?_⟩) ?_ ?_
    rotate_left
    · intro w'
      go_simp
      with_reducible rfl
    rotate_left
    · simp only [Act.put, List.setIfInBounds_toArray, List.set_cons_zero, List.set_cons_succ, i64_w, i32_w]
      rfl
    refine pure_ (i := 7) (N := some 12) (v := ?_) (a' := ?_) #[true, true, true, true, true, true, true, true, false, false, false, false, false, false, false, false, false, false, false, false, false, false, false, false, false, false] rfl rfl (by kernel_rfl) (fun _ _ _ h => h) (Or.inl ⟨by rfl, ?_⟩) ?_ ?_
    rotate_left
    · intro w'
      go_simp
      with_reducible rfl
    rotate_left
    · simp only [Act.put, List.setIfInBounds_toArray, List.set_cons_zero, List.set_cons_succ, i64_w, i32_w]
      rfl
    refine pure_ (i := 8) (N := some 13) (v := ?_) (a' := ?_) #[true, true, true, true, true, true, true, true, true, false, false, false, false, false, false, false, false, false, false, false, false, false, false, false, false, false] rfl rfl (by kernel_rfl) (fun _ _ _ h => h) (Or.inl ⟨by rfl, ?_⟩) ?_ ?_
    rotate_left
    · intro w'
      go_simp
      with_reducible rfl
    rotate_left
    · simp only [Act.put, List.setIfInBounds_toArray, List.set_cons_zero, List.set_cons_succ, i64_w, i32_w]
      rfl
    refine pure_ (i := 9) (N := some 14) (v := ?_) (a' := ?_) #[true, true, true, true, true, true, true, true, true, true, false, false, false, false, false, false, false, false, false, false, false, false, false, false, false, false] rfl rfl (by kernel_rfl) (fun _ _ _ h => h) (Or.inl ⟨by rfl, ?_⟩) ?_ ?_
    rotate_left
    · intro w'
      go_simp
      with_reducible rfl
    rotate_left
    · simp only [Act.put, List.setIfInBounds_toArray, List.set_cons_zero, List.set_cons_succ, i64_w, i32_w]
      rfl
    refine pure_ (i := 10) (N := some 15) (v := ?_) (a' := ?_) #[true, true, true, true, true, true, true, true, true, true, true, false, false, false, false, false, false, false, false, false, false, false, false, false, false, false] rfl rfl (by kernel_rfl) (fun _ _ _ h => h) (Or.inl ⟨by rfl, ?_⟩) ?_ ?_
    rotate_left
    · intro w'
      go_simp
      with_reducible rfl
    rotate_left
    · simp only [Act.put, List.setIfInBounds_toArray, List.set_cons_zero, List.set_cons_succ, i64_w, i32_w]
      rfl
    refine pure_ (i := 11) (N := some 16) (v := undef) (a' := ?_) #[true, true, true, true, true, true, true, true, true, true, true, true, false, false, false, false, false, false, false, false, false, false, false, false, false, false] rfl rfl (by kernel_rfl) (fun _ _ _ h => h) (Or.inr ⟨by rfl, rfl⟩) ?_ ?_
    rotate_left
    · simp only [Act.put, List.setIfInBounds_toArray, List.set_cons_zero, List.set_cons_succ, i64_w, i32_w]
      rfl
    refine pure_ (i := 12) (N := some 17) (v := undef) (a' := ?_) #[true, true, true, true, true, true, true, true, true, true, true, true, true, false, false, false, false, false, false, false, false, false, false, false, false, false] rfl rfl (by kernel_rfl) (fun _ _ _ h => h) (Or.inr ⟨by rfl, rfl⟩) ?_ ?_
    rotate_left
    · simp only [Act.put, List.setIfInBounds_toArray, List.set_cons_zero, List.set_cons_succ, i64_w, i32_w]
      rfl
    refine pure_ (i := 13) (N := some 18) (v := undef) (a' := ?_) #[true, true, true, true, true, true, true, true, true, true, true, true, true, true, false, false, false, false, false, false, false, false, false, false, false, false] rfl rfl (by kernel_rfl) (fun _ _ _ h => h) (Or.inr ⟨by rfl, rfl⟩) ?_ ?_
    rotate_left
    · simp only [Act.put, List.setIfInBounds_toArray, List.set_cons_zero, List.set_cons_succ, i64_w, i32_w]
      rfl
    refine pure_ (i := 14) (N := some 19) (v := undef) (a' := ?_) #[true, true, true, true, true, true, true, true, true, true, true, true, true, true, true, false, false, false, false, false, false, false, false, false, false, false] rfl rfl (by kernel_rfl) (fun _ _ _ h => h) (Or.inr ⟨by rfl, rfl⟩) ?_ ?_
    rotate_left
    · simp only [Act.put, List.setIfInBounds_toArray, List.set_cons_zero, List.set_cons_succ, i64_w, i32_w]
      rfl
    refine pure_ (i := 15) (N := some 20) (v := undef) (a' := ?_) #[true, true, true, true, true, true, true, true, true, true, true, true, true, true, true, true, false, false, false, false, false, false, false, false, false, false] rfl rfl (by kernel_rfl) (fun _ _ _ h => h) (Or.inr ⟨by rfl, rfl⟩) ?_ ?_
    rotate_left
    · simp only [Act.put, List.setIfInBounds_toArray, List.set_cons_zero, List.set_cons_succ, i64_w, i32_w]
      rfl
    refine pure_ (i := 16) (N := some 21) (v := undef) (a' := ?_) #[true, true, true, true, true, true, true, true, true, true, true, true, true, true, true, true, true, false, false, false, false, false, false, false, false, false] rfl rfl (by kernel_rfl) (fun _ _ _ h => h) (Or.inr ⟨by rfl, rfl⟩) ?_ ?_
    rotate_left
    · simp only [Act.put, List.setIfInBounds_toArray, List.set_cons_zero, List.set_cons_succ, i64_w, i32_w]
      rfl
    refine pure_ (i := 17) (N := some 22) (v := undef) (a' := ?_) #[true, true, true, true, true, true, true, true, true, true, true, true, true, true, true, true, true, true, false, false, false, false, false, false, false, false] rfl rfl (by kernel_rfl) (fun _ _ _ h => h) (Or.inr ⟨by rfl, rfl⟩) ?_ ?_
    rotate_left
    · simp only [Act.put, List.setIfInBounds_toArray, List.set_cons_zero, List.set_cons_succ, i64_w, i32_w]
      rfl
    refine pure_ (i := 18) (N := some 23) (v := undef) (a' := ?_) #[true, true, true, true, true, true, true, true, true, true, true, true, true, true, true, true, true, true, true, false, false, false, false, false, false, false] rfl rfl (by kernel_rfl) (fun _ _ _ h => h) (Or.inr ⟨by rfl, rfl⟩) ?_ ?_
    rotate_left
    · simp only [Act.put, List.setIfInBounds_toArray, List.set_cons_zero, List.set_cons_succ, i64_w, i32_w]
      rfl
    refine pure_ (i := 19) (N := some 24) (v := undef) (a' := ?_) #[true, true, true, true, true, true, true, true, true, true, true, true, true, true, true, true, true, true, true, true, false, false, false, false, false, false] rfl rfl (by kernel_rfl) (fun _ _ _ h => h) (Or.inr ⟨by rfl, rfl⟩) ?_ ?_
    rotate_left
    · simp only [Act.put, List.setIfInBounds_toArray, List.set_cons_zero, List.set_cons_succ, i64_w, i32_w]
      rfl
    refine pure_ (i := 20) (N := some 25) (v := undef) (a' := ?_) #[true, true, true, true, true, true, true, true, true, true, true, true, true, true, true, true, true, true, true, true, true, false, false, false, false, false] rfl rfl (by kernel_rfl) (fun _ _ _ h => h) (Or.inr ⟨by rfl, rfl⟩) ?_ ?_
    rotate_left
    · simp only [Act.put, List.setIfInBounds_toArray, List.set_cons_zero, List.set_cons_succ, i64_w, i32_w]
      rfl
    refine pure_ (i := 21) (N := some 26) (v := undef) (a' := ?_) #[true, true, true, true, true, true, true, true, true, true, true, true, true, true, true, true, true, true, true, true, true, true, false, false, false, false] rfl rfl (by kernel_rfl) (fun _ _ _ h => h) (Or.inr ⟨by rfl, rfl⟩) ?_ ?_
    rotate_left
    · simp only [Act.put, List.setIfInBounds_toArray, List.set_cons_zero, List.set_cons_succ, i64_w, i32_w]
      rfl
    refine pure_ (i := 22) (N := some 27) (v := undef) (a' := ?_) #[true, true, true, true, true, true, true, true, true, true, true, true, true, true, true, true, true, true, true, true, true, true, true, false, false, false] rfl rfl (by kernel_rfl) (fun _ _ _ h => h) (Or.inr ⟨by rfl, rfl⟩) ?_ ?_
    rotate_left
    · simp only [Act.put, List.setIfInBounds_toArray, List.set_cons_zero, List.set_cons_succ, i64_w, i32_w]
      rfl
    refine pure_ (i := 23) (N := some 28) (v := undef) (a' := ?_) #[true, true, true, true, true, true, true, true, true, true, true, true, true, true, true, true, true, true, true, true, true, true, true, true, false, false] rfl rfl (by kernel_rfl) (fun _ _ _ h => h) (Or.inr ⟨by rfl, rfl⟩) ?_ ?_
    rotate_left
    · simp only [Act.put, List.setIfInBounds_toArray, List.set_cons_zero, List.set_cons_succ, i64_w, i32_w]
      rfl
    refine pure_ (i := 24) (N := some 29) (v := ?_) (a' := ?_) #[true, true, true, true, true, true, true, true, true, true, true, true, true, true, true, true, true, true, true, true, true, true, true, true, true, false] rfl rfl (by kernel_rfl) (fun _ _ _ h => h) (Or.inl ⟨by rfl, ?_⟩) ?_ ?_
    rotate_left
    · intro w'
      go_simp
      with_reducible rfl
    rotate_left
    · simp only [Act.put, List.setIfInBounds_toArray, List.set_cons_zero, List.set_cons_succ, i64_w, i32_w]
      rfl
    refine pure_ (i := 25) (N := some 4) (v := ?_) (a' := ?_) #[true, true, true, true, true, true, true, true, true, true, true, true, true, true, true, true, true, true, true, true, true, true, true, true, true, true] rfl rfl (by kernel_rfl) (fun _ _ _ h => h) (Or.inl ⟨by rfl, ?_⟩) ?_ ?_
    rotate_left
    · intro w'
      go_simp
      with_reducible rfl
    rotate_left
    · simp only [Act.put, List.setIfInBounds_toArray, List.set_cons_zero, List.set_cons_succ, i64_w, i32_w]
      rfl
    refine done_ (by kernel_rfl) ?_
    clear hHeld
    go_wp2_with fail
    go_ret
    exact ⟨rfl, HB.out⟩
  obtain ⟨m, rfl⟩ := Int.eq_ofNat_of_zero_le h1
  have hpn : pn m ≤ 255 := pn_le (by omega) (by omega)
  obtain rfl : r = decide ((pn m : Int) ≤ (L.length : Int) - u) := by rw [hr.out, decide_eq_true h1, decide_eq_true h2, Bool.true_and, Bool.true_and, Int.toNat_natCast]
  have hd1 : decide (0 ≤ (m : Int)) = true := decide_eq_true h1
  have hd2 : decide ((m : Int) ≤ 13515) = true := decide_eq_true h2
  clear hr
  go_wp2_with fail
  have n_HS := Aside0.mk (HS.out.below (below_drew (Below.refl _ _)))
  have n_HJ := Aside0.mk (JBk.below HJ.out (below_drew (Below.refl _ _)))
  have n_HB := Aside0.mk (below_step HB.out (below_drew (Below.refl _ _)))
  clear HS
  have HS := n_HS
  clear n_HS
  clear HJ
  have HJ := n_HJ
  clear n_HJ
  clear HB
  have HB := n_HB
  clear n_HB
  refine start_ (n := 26) (S := fun w' => w'.cell? ⟨pj, 0, none⟩ = some (.pointer (some ⟨p, 0, none⟩)) ∧ w'.cell? ⟨pj, 2, none⟩ = some (.int .i64 u)) (ds := []) #[false, false, false, false, false, false, false, false, false, false, false, false, false, false, false, false, false, false, false, false, false, false, false, false, false, false] (by kernel_rfl) rfl rfl ⟨(blk_cell HJ.out 0).trans rfl, (blk_cell HJ.out 2).trans rfl⟩ (fun hHeld => ?_)
  generalize w.drew = w1 at HS HJ HB hHeld ⊢
  refine pure_ (i := 0) (N := some 5) (v := ?_) (a' := ?_) #[true, false, false, false, false, false, false, false, false, false, false, false, false, false, false, false, false, false, false, false, false, false, false, false, false, false] rfl rfl (by kernel_rfl) (fun _ _ _ h => h) (Or.inl ⟨by rfl, ?_⟩) ?_ ?_
  rotate_left
  · intro w'
    go_simp
    with_reducible rfl
  rotate_left
  · simp only [Act.put, List.setIfInBounds_toArray, List.set_cons_zero, List.set_cons_succ, i64_w, i32_w]
    rfl
  refine pure_ (i := 1) (N := some 6) (v := ?_) (a' := ?_) #[true, true, false, false, false, false, false, false, false, false, false, false, false, false, false, false, false, false, false, false, false, false, false, false, false, false] rfl rfl (by kernel_rfl) (fun _ _ _ h => h) (Or.inl ⟨by rfl, ?_⟩) ?_ ?_
  rotate_left
  · intro w'
    go_simp
    with_reducible rfl
  rotate_left
  · simp only [Act.put, List.setIfInBounds_toArray, List.set_cons_zero, List.set_cons_succ, i64_w, i32_w]
    rfl
  refine pure_ (i := 2) (N := some 7) (v := ?_) (a' := ?_) #[true, true, true, false, false, false, false, false, false, false, false, false, false, false, false, false, false, false, false, false, false, false, false, false, false, false] rfl rfl (by kernel_rfl) (fun _ _ _ h => h) (Or.inl ⟨by rfl, ?_⟩) ?_ ?_
  rotate_left
  · intro w'
    go_simp
    with_reducible rfl
  rotate_left
  · simp only [Act.put, List.setIfInBounds_toArray, List.set_cons_zero, List.set_cons_succ, i64_w, i32_w]
    rfl
  refine pure_ (i := 3) (N := some 8) (v := ?_) (a' := ?_) #[true, true, true, true, false, false, false, false, false, false, false, false, false, false, false, false, false, false, false, false, false, false, false, false, false, false] rfl rfl (by kernel_rfl) (fun _ _ _ h => h) (Or.inl ⟨by rfl, ?_⟩) ?_ ?_
  rotate_left
  · intro w'
    go_simp
    with_reducible rfl
  rotate_left
  · simp only [Act.put, List.setIfInBounds_toArray, List.set_cons_zero, List.set_cons_succ, i64_w, i32_w]
    rfl
  refine pure_ (i := 4) (N := some 9) (v := ?_) (a' := ?_) #[true, true, true, true, true, false, false, false, false, false, false, false, false, false, false, false, false, false, false, false, false, false, false, false, false, false] rfl rfl (by kernel_rfl) (fun _ _ _ h => h) (Or.inl ⟨by rfl, ?_⟩) ?_ ?_
  rotate_left
  · intro w'
    go_simp
    with_reducible rfl
  rotate_left
  · simp only [Act.put, List.setIfInBounds_toArray, List.set_cons_zero, List.set_cons_succ, i64_w, i32_w]
    rfl
  refine pure_ (i := 5) (N := some 10) (v := ?_) (a' := ?_) #[true, true, true, true, true, true, false, false, false, false, false, false, false, false, false, false, false, false, false, false, false, false, false, false, false, false] rfl rfl (by kernel_rfl) (fun _ _ _ h => h) (Or.inl ⟨by rfl, ?_⟩) ?_ ?_
  rotate_left
  · intro w'
    go_simp
    with_reducible rfl
  rotate_left
  · simp only [Act.put, List.setIfInBounds_toArray, List.set_cons_zero, List.set_cons_succ, i64_w, i32_w]
    rfl
  refine pure_ (i := 6) (N := some 11) (v := ?_) (a' := ?_) #[true, true, true, true, true, true, true, false, false, false, false, false, false, false, false, false, false, false, false, false, false, false, false, false, false, false] rfl rfl (by kernel_rfl) (fun _ _ _ h => h) (Or.inl ⟨by rfl, ?_⟩) ?_ ?_
  rotate_left
  · intro w'
    go_simp
    with_reducible rfl
  rotate_left
  · simp only [Act.put, List.setIfInBounds_toArray, List.set_cons_zero, List.set_cons_succ, i64_w, i32_w]
    rfl
  refine pure_ (i := 7) (N := some 12) (v := ?_) (a' := ?_) #[true, true, true, true, true, true, true, true, false, false, false, false, false, false, false, false, false, false, false, false, false, false, false, false, false, false] rfl rfl (by kernel_rfl) (fun _ _ _ h => h) (Or.inl ⟨by rfl, ?_⟩) ?_ ?_
  rotate_left
  · intro w'
    go_simp
    with_reducible rfl
  rotate_left
  · simp only [Act.put, List.setIfInBounds_toArray, List.set_cons_zero, List.set_cons_succ, i64_w, i32_w]
    rfl
  refine pure_ (i := 8) (N := some 13) (v := ?_) (a' := ?_) #[true, true, true, true, true, true, true, true, true, false, false, false, false, false, false, false, false, false, false, false, false, false, false, false, false, false] rfl rfl (by kernel_rfl) (fun _ _ _ h => h) (Or.inl ⟨by rfl, ?_⟩) ?_ ?_
  rotate_left
  · intro w'
    go_simp
    with_reducible rfl
  rotate_left
  · simp only [Act.put, List.setIfInBounds_toArray, List.set_cons_zero, List.set_cons_succ, i64_w, i32_w]
    rfl
  refine pure_ (i := 9) (N := some 14) (v := ?_) (a' := ?_) #[true, true, true, true, true, true, true, true, true, true, false, false, false, false, false, false, false, false, false, false, false, false, false, false, false, false] rfl rfl (by kernel_rfl) (fun _ _ _ h => h) (Or.inl ⟨by rfl, ?_⟩) ?_ ?_
  rotate_left
  · intro w'
    go_simp
    with_reducible rfl
  rotate_left
  · simp only [Act.put, List.setIfInBounds_toArray, List.set_cons_zero, List.set_cons_succ, i64_w, i32_w]
    rfl
  refine pure_ (i := 10) (N := some 15) (v := ?_) (a' := ?_) #[true, true, true, true, true, true, true, true, true, true, true, false, false, false, false, false, false, false, false, false, false, false, false, false, false, false] rfl rfl (by kernel_rfl) (fun _ _ _ h => h) (Or.inl ⟨by rfl, ?_⟩) ?_ ?_
  rotate_left
  · intro w'
    go_simp
    with_reducible rfl
  rotate_left
  · simp only [Act.put, List.setIfInBounds_toArray, List.set_cons_zero, List.set_cons_succ, i64_w, i32_w]
    rfl
  refine pure_ (i := 11) (N := some 16) (v := ?_) (a' := ?_) #[true, true, true, true, true, true, true, true, true, true, true, true, false, false, false, false, false, false, false, false, false, false, false, false, false, false] rfl rfl (by kernel_rfl) (fun _ _ _ h => h) (Or.inl ⟨by rfl, ?_⟩) ?_ ?_
  rotate_left
  · intro w'
    go_simp
    with_reducible rfl
  rotate_left
  · simp only [Act.put, List.setIfInBounds_toArray, List.set_cons_zero, List.set_cons_succ, i64_w, i32_w]
    rfl
  refine pure_ (i := 13) (N := some 18) (v := ?_) (a' := ?_) #[true, true, true, true, true, true, true, true, true, true, true, true, false, true, false, false, false, false, false, false, false, false, false, false, false, false] rfl rfl (by kernel_rfl) (fun _ _ _ h => h) (Or.inl ⟨by rfl, ?_⟩) ?_ ?_
  rotate_left
  · intro w'
    go_simp
    with_reducible rfl
  rotate_left
  · simp only [Act.put, List.setIfInBounds_toArray, List.set_cons_zero, List.set_cons_succ, i64_w, i32_w]
    rfl
  refine pure_ (i := 14) (N := some 19) (v := ?_) (a' := ?_) #[true, true, true, true, true, true, true, true, true, true, true, true, false, true, true, false, false, false, false, false, false, false, false, false, false, false] rfl rfl (by kernel_rfl) (fun _ _ _ h => h) (Or.inl ⟨by rfl, ?_⟩) ?_ ?_
  rotate_left
  · intro w'
    go_simp
    with_reducible rfl
  rotate_left
  · simp only [Act.put, List.setIfInBounds_toArray, List.set_cons_zero, List.set_cons_succ, i64_w, i32_w]
    rfl
  refine pure_ (i := 15) (N := some 20) (v := ?_) (a' := ?_) #[true, true, true, true, true, true, true, true, true, true, true, true, false, true, true, true, false, false, false, false, false, false, false, false, false, false] rfl rfl (by kernel_rfl) (fun _ _ _ h => h) (Or.inl ⟨by rfl, ?_⟩) ?_ ?_
  rotate_left
  · intro w'
    go_simp
    with_reducible rfl
  rotate_left
  · simp only [Act.put, List.setIfInBounds_toArray, List.set_cons_zero, List.set_cons_succ, i64_w, i32_w]
    rfl
  refine pure_ (i := 18) (N := some 23) (v := ?_) (a' := ?_) #[true, true, true, true, true, true, true, true, true, true, true, true, false, true, true, true, false, false, true, false, false, false, false, false, false, false] rfl rfl (by kernel_rfl) (fun _ _ _ h => h) (Or.inl ⟨by rfl, ?_⟩) ?_ ?_
  rotate_left
  · intro w'
    go_simp
    with_reducible rfl
  rotate_left
  · simp only [Act.put, List.setIfInBounds_toArray, List.set_cons_zero, List.set_cons_succ, i64_w, i32_w]
    rfl
  refine pure_ (i := 19) (N := some 24) (v := ?_) (a' := ?_) #[true, true, true, true, true, true, true, true, true, true, true, true, false, true, true, true, false, false, true, true, false, false, false, false, false, false] rfl rfl (by kernel_rfl) (fun _ _ _ h => h) (Or.inl ⟨by rfl, ?_⟩) ?_ ?_
  rotate_left
  · intro w'
    go_simp
    with_reducible rfl
  rotate_left
  · simp only [Act.put, List.setIfInBounds_toArray, List.set_cons_zero, List.set_cons_succ, i64_w, i32_w]
    rfl
  refine pure_ (i := 20) (N := some 25) (v := ?_) (a' := ?_) #[true, true, true, true, true, true, true, true, true, true, true, true, false, true, true, true, false, false, true, true, true, false, false, false, false, false] rfl rfl (by kernel_rfl) (fun _ _ _ h => h) (Or.inl ⟨by rfl, ?_⟩) ?_ ?_
  rotate_left
  · intro w'
    go_simp
    with_reducible rfl
  rotate_left
  · simp only [Act.put, List.setIfInBounds_toArray, List.set_cons_zero, List.set_cons_succ, i64_w, i32_w]
    rfl
  refine take_ (i := 16) (N := some 21) (v := ?_) (a' := ?_) #[true, true, true, true, true, true, true, true, true, true, true, true, false, true, true, true, true, false, true, true, true, false, false, false, false, false] rfl rfl (by kernel_rfl) (fun _ _ _ h => h) (Or.inl ⟨by rfl, ?_⟩) hHeld ?_ ?_
  rotate_left
  · rintro w' ⟨s0, s1⟩
    go_simp
    with_reducible rfl
  rotate_left
  · simp only [Act.put, List.setIfInBounds_toArray, List.set_cons_zero, List.set_cons_succ, i64_w, i32_w]
    rfl
  refine take_ (i := 21) (N := some 26) (v := ?_) (a' := ?_) #[true, true, true, true, true, true, true, true, true, true, true, true, false, true, true, true, true, false, true, true, true, true, false, false, false, false] rfl rfl (by kernel_rfl) (fun _ _ _ h => h) (Or.inl ⟨by rfl, ?_⟩) hHeld ?_ ?_
  rotate_left
  · rintro w' ⟨s0, s1⟩
    go_simp
    with_reducible rfl
  rotate_left
  · simp only [Act.put, List.setIfInBounds_toArray, List.set_cons_zero, List.set_cons_succ, i64_w, i32_w]
    rfl
  refine one_ (i := 12) (N := some 17) #[true, true, true, true, true, true, true, true, true, true, true, true, true, true, true, true, true, false, true, true, true, true, false, false, false, false] rfl rfl (by kernel_rfl) (by decide) (fun K hK => ?_)
  refine goes_ Try.func36 (by kernel_rfl) rfl #[.int .i64 m] (by rfl) rfl rfl (by (try simp only [List.map_toArray, List.map_cons, List.map_nil]); first | done | rfl) ?_
  with_reducible refine (j_parts m (by omega)).mono ?_
  rintro e y1_ ⟨rfl, hb⟩
  refine ⟨_, rfl, ?_⟩
  have n_HS := Aside0.mk (HS.out.below hb)
  have n_HJ := Aside0.mk (JBk.below HJ.out hb)
  have n_HB := Aside0.mk (below_step HB.out hb)
  clear HS
  have HS := n_HS
  clear n_HS
  clear HJ
  have HJ := n_HJ
  clear n_HJ
  clear HB
  have HB := n_HB
  clear n_HB
  clear hb
  refine hK.out _ _ ⟨(blk_cell HJ.out 0).trans rfl, (blk_cell HJ.out 2).trans rfl⟩ (fun hHeld => ?_)
  clear hK K
  refine norm_ (a' := ?_) ?_ ?_
  rotate_left
  · show Act.put _ (some 17) _ = _
    simp only [Act.put, List.setIfInBounds_toArray, List.set_cons_zero, List.set_cons_succ, i64_w, i32_w]
    rfl
  refine one_ (i := 17) (N := some 22) #[true, true, true, true, true, true, true, true, true, true, true, true, true, true, true, true, true, true, true, true, true, true, false, false, false, false] rfl rfl (by kernel_rfl) (by decide) (fun K hK => ?_)
  refine goes_ Try.func32 (by kernel_rfl) rfl #[.pointer (some ⟨p, 0, none⟩)] (by rfl) rfl rfl (by (try simp only [List.map_toArray, List.map_cons, List.map_nil]); first | done | rfl) ?_
  with_reducible refine (b_Size HS.out).mono ?_
  rintro e y2_ ⟨rfl, hb⟩
  refine ⟨_, rfl, ?_⟩
  have n_HS := Aside0.mk (HS.out.below hb)
  have n_HJ := Aside0.mk (JBk.below HJ.out hb)
  have n_HB := Aside0.mk (below_step HB.out hb)
  clear HS
  have HS := n_HS
  clear n_HS
  clear HJ
  have HJ := n_HJ
  clear n_HJ
  clear HB
  have HB := n_HB
  clear n_HB
  clear hb
  refine hK.out _ _ ⟨(blk_cell HJ.out 0).trans rfl, (blk_cell HJ.out 2).trans rfl⟩ (fun hHeld => ?_)
  clear hK K
  refine norm_ (a' := ?_) ?_ ?_
  rotate_left
  · show Act.put _ (some 22) _ = _
    simp only [Act.put, List.setIfInBounds_toArray, List.set_cons_zero, List.set_cons_succ, i64_w, i32_w]
    rfl
  refine pure_ (i := 22) (N := some 27) (v := ?_) (a' := ?_) #[true, true, true, true, true, true, true, true, true, true, true, true, true, true, true, true, true, true, true, true, true, true, true, false, false, false] rfl rfl (by kernel_rfl) (fun _ _ _ h => h) (Or.inl ⟨by rfl, ?_⟩) ?_ ?_
  rotate_left
  · intro w'
    go_simp
    with_reducible rfl
  rotate_left
  · simp only [Act.put, List.setIfInBounds_toArray, List.set_cons_zero, List.set_cons_succ, i64_w, i32_w]
    rfl
  refine pure_ (i := 23) (N := some 28) (v := ?_) (a' := ?_) #[true, true, true, true, true, true, true, true, true, true, true, true, true, true, true, true, true, true, true, true, true, true, true, true, false, false] rfl rfl (by kernel_rfl) (fun _ _ _ h => h) (Or.inl ⟨by rfl, ?_⟩) ?_ ?_
  rotate_left
  · intro w'
    go_simp
    with_reducible rfl
  rotate_left
  · simp only [Act.put, List.setIfInBounds_toArray, List.set_cons_zero, List.set_cons_succ, i64_w, i32_w]
    rfl
  refine pure_ (i := 24) (N := some 29) (v := ?_) (a' := ?_) #[true, true, true, true, true, true, true, true, true, true, true, true, true, true, true, true, true, true, true, true, true, true, true, true, true, false] rfl rfl (by kernel_rfl) (fun _ _ _ h => h) (Or.inl ⟨by rfl, ?_⟩) ?_ ?_
  rotate_left
  · intro w'
    go_simp
    with_reducible rfl
  rotate_left
  · simp only [Act.put, List.setIfInBounds_toArray, List.set_cons_zero, List.set_cons_succ, i64_w, i32_w]
    rfl
  refine pure_ (i := 25) (N := some 4) (v := ?_) (a' := ?_) #[true, true, true, true, true, true, true, true, true, true, true, true, true, true, true, true, true, true, true, true, true, true, true, true, true, true] rfl rfl (by kernel_rfl) (fun _ _ _ h => h) (Or.inl ⟨by rfl, ?_⟩) ?_ ?_
  rotate_left
  · intro w'
    go_simp
    with_reducible rfl
  rotate_left
  · simp only [Act.put, List.setIfInBounds_toArray, List.set_cons_zero, List.set_cons_succ, i64_w, i32_w]
    rfl
  refine done_ (by kernel_rfl) ?_
  clear hHeld
  rw [show wrap64 ((L.length : Int) - (u : Int)) = (L.length : Int) - (u : Int) by unfold wrap64; omega]
  go_wp2_with fail
  go_ret
  exact ⟨rfl, HB.out⟩
set_option maxHeartbeats 8000000 in
set_option maxRecDepth 100000 in
theorem j_Records {B0 : Nat} {ok : Nat → Prop} {rs : List (List Int)} (hj : JBk w pj p lv u) (hr : RB w B0 ok lv rs) (hlen : ∀ r ∈ rs, r.length ≤ 13515) (hn : rs.length ≤ 1000000) :
    Calls Try.prog 25 #[.pointer (some ⟨pj, 0, none⟩)] w fun e w' => ∃ v1, e = .returned v1 ∧ RB w' w.heap.size (fun k => w.heap.size ≤ k) v1 rs ∧ Below w.heap.size w w' := by
  obtain ⟨A, c, hA⟩ := Kd.R_slice hr
  subst hA
  have c1 : w.cell? ⟨pj, 1, none⟩ = some (.slice A rs.length c) := (blk_cell hj 1).trans rfl
  have HC := Aside0.mk (Kd.R_reads' hr).2.2
  have hcap := (Kd.R_reads' hr).2.1
  replace hlen := Aside0.mk hlen
  clear hj hr
  go_enter Try.func25, Try.ntmps25
  go_wp2_with fail
  go_loopw [3, 13] (fun x y wr => ∃ i : Nat, i ≤ rs.length ∧ y = .int .i64 i ∧ Aside0 (RB wr w.heap.size (fun k => w.heap.size ≤ k) x (rs.take i)) ∧ Aside0 (Below w.heap.size w wr)) (fun _ y _ => rs.length - (intOf y).toNat)
  case atStart => exact ⟨0, Nat.zero_le _, rfl, ⟨Kd.R_nil _ _ _ _ _⟩, ⟨Below.refl _ _⟩⟩
  case round =>
    obtain ⟨i, hi, rfl, HR, HB⟩ := hrel
    by_cases hlt : i < rs.length
    case neg =>
      obtain rfl : i = rs.length := by omega
      rw [List.take_length] at HR
      go_wp2_with fail
      go_ret
      exact ⟨_, rfl, HR.out, HB.out⟩
    obtain ⟨ad, A0, c0, hAd, hx, hle, hC0⟩ := jat (Kd.C_below HC.out HB.out) i hlt
    subst hAd
    have hl13 := hlen.out _ (List.getElem_mem hlt)
    generalize hrow : rs[i] = row at hx hle hC0 hl13
    have HC0 := Aside0.mk hC0
    clear hC0
    go_wp2_with fail
    refine (b_Clone HC0.out hle (by omega)).mono ?_
    rintro e w2 ⟨v1, rfl, hR, hb⟩
    have HX := Aside0.mk hR
    obtain ⟨A2, c2, hv2⟩ := Kd.R_slice hR
    subst hv2
    have HR2 := Aside0.mk (show RB w2 w.heap.size (fun k => w.heap.size ≤ k) _ (rs.take i) from Kd.R_below HR.out hb)
    have HB2 := Aside0.mk (below_step HB.out hb)
    have hsz := hb.size
    have hsz0 := HB.out.size
    obtain ⟨A3, c3, hA3⟩ := Kd.R_slice HR.out
    subst hA3
    have hne : ∀ k, (Value.slice A3 (rs.take i).length c3).ownBlock = some k → k < wr.heap.size := fun k hk => by obtain ⟨inner, ho⟩ := Kd.R_own HR.out; exact own_lt ho k hk
    clear hR hb HR HB HC0 hx
    rw [List.length_take, Nat.min_eq_left hi] at HR2 hne
    go_wp2_with ((with_reducible refine gate_builtin (b := .append) (xs := #[.tmp 17, .tmp 20]) rfl ?_); refine Shut.out ?_)
    unfold Shut
    change wpList _ _ _ _ _ (w2.alloc (.cells [Value.slice A2 row.length c2].toArray 38))
    refine Kd.R_append (w0 := w) (Kd.slice 5 (Kd.int .u8)) w.heap.size rfl (.tmp 17) (.tmp 20) 50 38 (.slice none 0 0) 24 rfl lb_und by_info rfl (by show 0 < 1; omega) (by omega) _ (rs.take i) row [Value.slice A2 row.length c2] (fun k => w.heap.size ≤ k) (fun k => wr.heap.size ≤ k) rfl rfl ?_ ?_ (fun k hk => by omega) HR2.out HB2.out (by omega) ?_ ?_
    · exact ⟨_, rfl, Kd.R_lower (Kd.R_mono (Kd.R_bound HX.out) (fun k hk => hk.2.1)) hsz0⟩
    · exact fun k hk => ⟨by omega, fun e => by have := hne k e.symm; omega⟩
    · rw [List.length_take, Nat.min_eq_left hi]; omega
    intro v1 w3 hR hb hg hat
    rw [← hrow] at hR
    have HR4 := Aside0.mk (show RB w3 w.heap.size (fun k => w.heap.size ≤ k) v1 (rs.take (i + 1)) by rw [List.take_succ_eq_append_getElem hlt]; exact hR)
    have HB4 := Aside0.mk hb
    clear hR hb hg hat HR2 HB2 HX
    go_wp2_with fail
    go_roundw
    case rel => exact ⟨i + 1, by omega, by go_num, HR4, HB4⟩
    case measure => simp [intOf]; omega
end
section
/-- A record's bytes in its part i. -/
def own (b : List Int) (i : Nat) : List Int := (b.drop (i * 53)).take 53
theorem own_len (b : List Int) (i : Nat) : (own b i).length ≤ 53 := by rw [own, List.length_take]; omega
/-- m parts from one on are written: the answer, what waits behind it. -/
def wrS (L : List (Bk × Bool)) (u n N : Nat) (b : List Int) : Nat → Nat → List (Int × Bk) → Int × List (Int × Bk)
  | 0, _, W => (0, W)
  | m + 1, i, W => if wrc L W ((u + i : Nat) : Int) = 0 then wrS L u n N b m (i + 1) (W ++ [(((u + i : Nat) : Int), lay n i N (own b i))]) else (wrc L W ((u + i : Nat) : Int), W)
/-- What adding answers, and what waits behind it. -/
def appR (L : List (Bk × Bool)) (W : List (Int × Bk)) (u n : Nat) (b : List Int) : Int × List (Int × Bk) :=
  if 13515 < b.length then (2, W) else if fits L u b.length = false then (10, W) else wrS L u n (pn b.length) b (pn b.length) 0 W
variable {B : Nat} {w w' : World} {p gl gm : Nat} {v : Value} {L : List (Bk × Bool)} {W : List (Int × Bk)} {pj u : Nat} {lv : Value}
theorem bk_store {o : Oper} {ev : Operand → Value} {b old : Bk} {g t : Nat} (ty : TypeId) (x y : Operand) (ho : o.op = .store ty x y) (hx : ev x = .pointer (some ⟨g, 0, none⟩)) (hy : ev y = .agg b.cs.toArray) (hg : w.heap[g]? = some (.cells old.cs.toArray t (0, 0))) (hi : (Try.prog.info? ty).map (·.size) = some 64) : (execOp ev o).run Try.prog w = .ok .skip (w.setRow g b.cs.toArray) := by
  have := store_run_mid (P := Try.prog) (ev := ev) ty x y ho g 0 b.cs.toArray hx hy t old.cs.toArray hg (by rw [hi, bk_sz]) (by rw [bk_sz, bk_sz]; omega) (bk_all b)
  rw [this, bk_sz]
  simp [List.drop_of_length_le, old.len]
theorem Mv.wide {F F' : Nat → Prop} (h : Mv F F' w w') (G : Nat → Prop) : Mv (fun k => F k ∨ G k) (fun k => F' k ∨ G k) w w' :=
  h.weaken (fun k hk => .inl hk) (fun k hk => by
    rcases hk with hk | hk
    · rcases h.foot k hk with e | e
      · exact .inl (.inl e)
      · exact .inr e
    · exact .inl (.inr hk))
theorem Mv.row_new {F F' : Nat → Prop} (h : Mv F F' w w') {g : Nat} (hg : w.heap.size ≤ g) (cs : Array Value) : Mv F F' w (w'.setRow g cs) :=
  ⟨h.os, h.tape, h.output, by simpa [World.setRow] using h.size, fun k hk hF => (setRow_other w' g k cs (by omega)).trans (h.block k hk hF), h.foot⟩
theorem SA.row_far (h : SA B w p gl gm v L W) {g t : Nat} {cells : Array Value} (hg : w.heap[g]? = some (.cells cells t (0, 0))) (ht : t ≠ 78 ∧ t ≠ 103 ∧ t ≠ 100) (cs : Array Value) : SA B (w.setRow g cs) p gl gm v L W := h.keep (fun k hk => setRow_other _ _ _ _ (fun e => h.far hg ht (by rw [← e]; exact hk)))
theorem JBk.row_far (h : JBk w pj p lv u) {g t : Nat} {cells : Array Value} (hg : w.heap[g]? = some (.cells cells t (0, 0))) (ht : t ≠ 80) (cs : Array Value) : JBk (w.setRow g cs) pj p lv u :=
  (setRow_other _ _ _ _ (fun e => by unfold JBk at h; rw [e, hg] at h; injection h with h; injection h with _ h; exact ht h)).trans h
theorem b_WriteE {a a' : Int} (e : a' = a) (h : SA B w p gl gm v L W) (b : Bk) : Calls Try.prog 20 #[.pointer (some ⟨p, 0, none⟩), .int .i64 a', .agg b.cs.toArray] w fun e w' => e = .returned (.int .i64 (wrc L W a)) ∧ ∃ v', SA B w' p gl gm v' L (wrW L W a b) ∧ Mv (foot p gl gm v) (foot p gl gm v') w w' := by
  subst e
  exact b_Write h h.base_le _ b
theorem wru (u i : Nat) (hu : u ≤ 5000) (hi : i ≤ 10000) : wrap64 ((u : Int) + (i : Int)) = ((u + i : Nat) : Int) := by unfold wrap64; omega
theorem b_Clone3 {A : Option Addr} {c : Nat} {b : List Int} (hC : Kd.C (Kd.int .u8) w A b.length b) (hc : b.length ≤ c) (hl : b.length ≤ 1000000000) :
    Calls Try.prog 41 #[.slice A b.length c] w fun e w' => ∃ Ab cb, e = .returned (.slice Ab b.length cb) ∧ Kd.R (Kd.int .u8) 5 w' w.heap.size (fun _ => True) (.slice Ab b.length cb) b ∧ Below w.heap.size w w' := by
  refine (b_Clone hC hc hl).mono ?_
  rintro e w1 ⟨v1, rfl, hR, hb⟩
  obtain ⟨Ab, cb, hv⟩ := Kd.R_slice hR
  subst hv
  exact ⟨Ab, cb, rfl, hR, hb⟩
theorem RX {B0 : Nat} {ok : Nat → Prop} {rs : List (List Int)} {v1 : Value} {b : List Int} (hR : Kd.R (Kd.int .u8) 5 w' w.heap.size (fun _ => True) v1 b) (hr : RB w B0 ok lv rs) (hB0 : B0 ≤ w.heap.size) (hfresh : ∀ k, w.heap.size ≤ k → ok k) : Kd.R (Kd.int .u8) 5 w' B0 (fun k => ok k ∧ some k ≠ lv.ownBlock) v1 b :=
  Kd.R_lower (Kd.R_mono (Kd.R_bound hR) (fun k hk => ⟨hfresh k hk.2.1, fun e => by obtain ⟨inner, ho⟩ := Kd.R_own hr; have h1 := own_lt ho k e.symm; have h2 := hk.2.1; omega⟩)) hB0
theorem SA.grown {B0 : Nat} {ok : Nat → Prop} {rs : List (List Int)} (h : SA B w p gl gm v L W) (hr : RB w B0 ok lv rs) (hg : w.grownBy w' lv.ownBlock) : SA B w' p gl gm v L W :=
  h.keep (fun k hk => hg.block k (h.lt hk) (fun e => by
    obtain ⟨inner, ho⟩ := Kd.R_own hr
    obtain ⟨cs, hc⟩ := own_typed ho k e.symm
    exact (h.rb k hk cs _ hc).1 rfl))
theorem JBk.grown {B0 : Nat} {ok : Nat → Prop} {rs : List (List Int)} {lv2 : Value} (h : JBk w pj p lv2 u) (hr : RB w B0 ok lv rs) (hg : w.grownBy w' lv.ownBlock) : JBk w' pj p lv2 u :=
  blk_grown h hg (fun e => by
    obtain ⟨inner, ho⟩ := Kd.R_own hr
    obtain ⟨cs, hc⟩ := own_typed ho pj e.symm
    exact (h.rb pj rfl cs _ hc).1 rfl)
theorem Mv.app {F F' : Nat → Prop} {w0 : World} {v1 : Value} (h : Mv F F' w0 w) (hg : w.grownBy w' lv.ownBlock) (hat : v1.ownBlock = lv.ownBlock ∨ ∃ b, v1.ownBlock = some b ∧ w.heap.size ≤ b) : Mv (fun k => F k ∨ jf pj lv k) (fun k => F' k ∨ jf pj v1 k) w0 w' :=
  ⟨hg.os.trans h.os, hg.tape.trans h.tape, hg.output.trans h.output, Nat.le_trans h.size hg.size,
   fun k hk hF => (hg.block k (Nat.lt_of_lt_of_le hk h.size) (fun e => hF (.inr (.inr e.symm)))).trans (h.block k hk (fun e => hF (.inl e))),
   fun k hk => by
    rcases hk with hk | hk | hk
    · rcases h.foot k hk with e | e
      · exact .inl (.inl e)
      · exact .inr e
    · exact .inl (.inr (.inl hk))
    · rcases hat with e | ⟨b, e, hb⟩
      · exact .inl (.inr (.inr (by rw [← e]; exact hk)))
      · rw [e] at hk
        cases hk
        exact .inr (Nat.le_trans h.size hb)⟩
theorem JBk.put2 {u2 : Nat} (h : JBk w pj p lv u) : JBk (w.setCell ⟨pj, 2, none⟩ (.int .i64 u2)) pj p lv u2 := by
  unfold JBk at h ⊢
  rw [put_step h]
  exact setRow_heap _ _ _ _ _ _ h
theorem SA.jcell (h : SA B w p gl gm v L W) (hj : JBk w pj p lv u) (i : Nat) (x : Value) : SA B (w.setCell ⟨pj, i, none⟩ x) p gl gm v L W :=
  h.keep (fun k hk => Below.heap_setCell _ _ _ k (fun e => h.not_j hj (by have e : k = pj := e; rw [← e]; exact hk)))
theorem wr1 (i : Nat) (h : i ≤ 10000) : wrap64 ((i : Int) * 53) = (i : Int) * 53 := by unfold wrap64; omega
theorem wr2 (i : Nat) (h : i ≤ 10000) : wrap64 ((i : Int) + 1) = (i : Int) + 1 := by unfold wrap64; omega
theorem wrn (n : Nat) (h : n ≤ 5000) : wrap64 ((n : Int) + 1) = ((n + 1 : Nat) : Int) := by unfold wrap64; omega
theorem wrb (n : Nat) (h : n ≤ 5000) : 0 ≤ wrap64 ((n : Int) + 1) ∧ wrap64 ((n : Int) + 1) < 4294967296 := by rw [wrn n h]; omega
theorem wr3 (i : Nat) (h : i ≤ 10000) : wrap64 (((i : Int) + 1) * 53) = ((i : Int) + 1) * 53 := by unfold wrap64; omega
/-- A part's bytes, as they are cut. -/
theorem own_cut {A : Option Addr} {c : Nat} {b : List Int} (i hi : Nat) (h0 : i * 53 ≤ b.length) (hh : hi = if (i + 1) * 53 < b.length then (i + 1) * 53 else b.length) (hc : b.length ≤ c) :
    ∃ A' : Option Addr, (∀ W : World, (Instr.slice 38 (.slice A b.length c) (some (.int .i64 ((i : Int) * 53))) (some (.int .i64 hi)) none).run Try.prog W = .ok (.slice A' (own b i).length (c - i * 53)) W) ∧ (∀ w : World, Kd.C (Kd.int .u8) w A b.length b → Kd.C (Kd.int .u8) w A' (own b i).length (own b i)) ∧ (own b i).length ≤ c - i * 53 := by
  have hil : i * 53 ≤ hi ∧ hi ≤ b.length := by rw [hh]; split <;> omega
  obtain ⟨A', h1, h2, h3⟩ := print_mid_int (P := Try.prog) (k := .u8) 38 5 (i := (Try.prog.info? 5).get (by kernel_rfl)) by_und' (by kernel_rfl) (by kernel_rfl) A c b ((i * 53 : Nat) : Int) (hi : Int) (by omega) (by omega) (by omega) hc
  have e : (b.take hi).drop (i * 53) = own b i := by
    rw [own, List.drop_take]
    rw [hh]
    split
    · rw [show (i + 1) * 53 - i * 53 = 53 by omega]
    · rw [List.take_of_length_le (by rw [List.length_drop]; exact Nat.le_refl _), List.take_of_length_le (by rw [List.length_drop]; omega)]
  simp only [Int.toNat_natCast, e] at h1 h2 h3
  refine ⟨A', fun W => ?_, fun w hC => ?_, h3⟩
  · have := h1 W
    rwa [show ((i * 53 : Nat) : Int) = (i : Int) * 53 by omega] at this
  · exact Kd.C_of_reads (h2 w (Kd.reads_of_C (d := 0) hC))
theorem C_mv2 {F F' : Nat → Prop} {A : Option Addr} {l : List Int} (h : Kd.C (Kd.int .u8) w A l.length l) (hm : Mv F F' w w') (hA : 0 < l.length → ∀ ad, A = some ad → ¬ F ad.block) : Kd.C (Kd.int .u8) w' A l.length l ∧ (0 < l.length → ∀ ad, A = some ad → ¬ F' ad.block) := by
  refine ⟨C_mv h hm hA, fun hl ad e hf => ?_⟩
  obtain ⟨ad', e', hc⟩ := h.2.2 hl
  rw [e] at e'
  cases e'
  obtain ⟨x, hx⟩ : ∃ x, l[0]? = some x := ⟨l[0], by simp [hl]⟩
  obtain ⟨cs, h1, h2, h3⟩ := hc 0 x hx
  have h2 : cs = [.int .u8 x] := h2
  subst h2
  have hlt : (ad.add (0 * (Kd.int .u8).sz + 0)).block < w.heap.size := World.block_lt_of_cell? w _ (h3 0 _ rfl)
  have e2 : (ad.add (0 * (Kd.int .u8).sz + 0)).block = ad.block := by unfold Addr.add; split <;> rfl
  rcases hm.foot _ hf with h | h
  · exact hA hl ad e h
  · omega
set_option maxHeartbeats 16000000 in
set_option maxRecDepth 100000 in
theorem j_Append {B0 : Nat} {ok : Nat → Prop} {rs : List (List Int)} (h : SA B w p gl gm v L W) (hj : JBk w pj p lv u) (hr : RB w B0 ok lv rs) (hB0 : B0 ≤ w.heap.size) (hfresh : ∀ k, w.heap.size ≤ k → ok k) (hu : u ≤ L.length) (hn : rs.length ≤ 5000)
    {A : Option Addr} {c : Nat} {b : List Int} (hC : Kd.C (Kd.int .u8) w A b.length b) (hc : b.length ≤ c) (hA : 0 < b.length → ∀ ad, A = some ad → ¬ foot p gl gm v ad.block) {r : Int × List (Int × Bk)} (hR : r = appR L W u (rs.length + 1) b) :
    Calls Try.prog 14 #[.pointer (some ⟨pj, 0, none⟩), .slice A b.length c] w fun e w' => e = .returned (.int .i64 r.1) ∧ ∃ v' lv', SA B w' p gl gm v' L r.2 ∧ JBk w' pj p lv' (if r.1 = 0 then u + pn b.length else u) ∧ RB w' B0 ok lv' (if r.1 = 0 then rs ++ [b] else rs) ∧ Mv (fun k => foot p gl gm v k ∨ jf pj lv k) (fun k => foot p gl gm v' k ∨ jf pj lv' k) w w' := by
  have hL := h.hL
  have HS := Aside0.mk h
  have HJ := Aside0.mk hj
  have HR := Aside0.mk hr
  have HCw := Aside0.mk hC
  unfold appR at hR
  replace hR := Aside0.mk hR
  replace hA := Aside0.mk hA
  replace hfresh := Aside0.mk hfresh
  clear h hj hr hC
  go_enter Try.func14, Try.ntmps14
  by_cases h1 : 13515 < b.length
  case pos =>
    obtain rfl : r = (2, W) := by rw [hR.out, if_pos h1]
    clear hR
    have h1i : (13515 : Int) < (b.length : Int) := by omega
    go_wp2_with fail
    go_ret
    first | exact ⟨rfl, v, lv, HS.out, HJ.out, HR.out, Mv.refl _ _⟩ | exact ⟨rfl, v, HS.out, lv, HJ.out, HR.out, Mv.refl _ _⟩
  have h1i : ¬ (13515 : Int) < (b.length : Int) := by omega
  go_wp2_with fail
  refine (j_Fits HS.out HJ.out hu (b.length : Int)).mono ?_
  rintro e w1 ⟨rfl, hb1⟩
  have HM := Aside0.mk (Mv.of_below (F := foot p gl gm v) hb1)
  have HS1 := Aside0.mk (HS.out.below hb1)
  have HJ1 := Aside0.mk (HJ.out.below hb1)
  have HR1 := Aside0.mk (show RB w1 B0 ok lv rs from Kd.R_below HR.out hb1)
  clear hb1 HS HJ HR
  by_cases h2 : fits L u (b.length : Int) = false
  case pos =>
    obtain rfl : r = (10, W) := by rw [hR.out, if_neg h1, if_pos h2]
    clear hR
    go_wp2_with fail
    go_ret
    have HMw := HM.out.wide (jf pj lv)
    first | exact ⟨rfl, v, lv, HS1.out, HJ1.out, HR1.out, HMw⟩ | exact ⟨rfl, v, HS1.out, lv, HJ1.out, HR1.out, HMw⟩
  have hR' := hR.out
  rw [if_neg h1, if_neg h2] at hR'
  replace hR := Aside0.mk hR'
  have h2 : fits L u (b.length : Int) = true := by simpa using h2
  clear hR'
  go_wp2_with fail
  refine (j_parts b.length (by omega)).mono ?_
  rintro e w2 ⟨rfl, hb2⟩
  have HM2 := Aside0.mk (HM.out.trans (Mv.of_below hb2))
  have HS2 := Aside0.mk (HS1.out.below hb2)
  have HJ2 := Aside0.mk (HJ1.out.below hb2)
  have HR2 := Aside0.mk (show RB w2 B0 ok lv rs from Kd.R_below HR1.out hb2)
  clear hb2 HM HS1 HJ1 HR1
  have hpn : pn b.length ≤ 255 := pn_le (by omega) (by omega)
  have hpnl : b.length ≤ pn b.length * 53 := by unfold pn; omega
  have hpnm : ∀ i, i < pn b.length → i * 53 ≤ b.length := fun i hi => by unfold pn at hi; omega
  obtain ⟨M, hMM⟩ : ∃ M, M = pn b.length := ⟨_, rfl⟩
  rw [← hMM] at hR hpn hpnl hpnm ⊢
  replace hMM := Aside0.mk hMM
  replace hpnm := Aside0.mk hpnm
  go_wp2_with fail
  go_loopw [26] (fun x wr => ∃ (i : Nat) (Wi : List (Int × Bk)) (vi : Value), i ≤ M ∧ x = .int .i64 i ∧ Aside0 (SA B wr p gl gm vi L Wi) ∧ Aside0 (JBk wr pj p lv u) ∧ Aside0 (RB wr B0 ok lv rs) ∧ Aside0 (Mv (foot p gl gm v) (foot p gl gm vi) w wr) ∧ Aside0 (r = wrS L u (rs.length + 1) M b (M - i) i Wi)) (fun x _ => M - (intOf x).toNat)
  case atStart => exact ⟨0, W, v, Nat.zero_le _, rfl, HS2, HJ2, HR2, HM2, hR⟩
  case round =>
    clear HS2 HJ2 HR2 HM2 hR
    obtain ⟨i, Wi, vi, hiM, rfl, HS, HJ, HR, HM, hR⟩ := hrel
    by_cases hlt : i < M
    case neg =>
      obtain rfl : i = M := by omega
      obtain rfl : r = (0, Wi) := by rw [hR.out, Nat.sub_self]; rfl
      clear hR
      obtain ⟨Al, cl, hAl⟩ := Kd.R_slice HR.out
      subst hAl
      go_wp2_with fail
      have n_HS := Aside0.mk (HS.out.below (below_drew (Below.refl _ _)))
      have n_HJ := Aside0.mk (JBk.below HJ.out (below_drew (Below.refl _ _)))
      have n_HR := Aside0.mk (Kd.R_below HR.out (below_drew (Below.refl _ _)))
      have n_HM := Aside0.mk (HM.out.trans (Mv.of_below (below_drew (Below.refl _ _))))
      clear HS
      have HS := n_HS
      clear n_HS
      clear HJ
      have HJ := n_HJ
      clear n_HJ
      clear HR
      have HR := n_HR
      clear n_HR
      clear HM
      have HM := n_HM
      clear n_HM
      refine start_ (n := 12) (S := fun w' => w'.cell? ⟨pj, 1, none⟩ = some (.slice Al rs.length cl)) (ds := [11]) #[false, false, false, false, false, false, false, false, false, false, false, false] (by kernel_rfl) rfl rfl ((blk_cell HJ.out 1).trans rfl) (fun hHeld => ?_)
      generalize wr.drew = w4 at HS HJ HR HM hHeld ⊢
      refine pure_ (i := 0) (N := some 64) (v := ?_) (a' := ?_) #[true, false, false, false, false, false, false, false, false, false, false, false] rfl rfl (by kernel_rfl) (fun _ _ _ h => h) (Or.inl ⟨by rfl, ?_⟩) ?_ ?_
      rotate_left
      · intro w'
        go_simp
        with_reducible rfl
      rotate_left
      · simp only [Act.put, List.setIfInBounds_toArray, List.set_cons_zero, List.set_cons_succ, i64_w, i32_w]
        rfl
      refine pure_ (i := 1) (N := some 65) (v := ?_) (a' := ?_) #[true, true, false, false, false, false, false, false, false, false, false, false] rfl rfl (by kernel_rfl) (fun _ _ _ h => h) (Or.inl ⟨by rfl, ?_⟩) ?_ ?_
      rotate_left
      · intro w'
        go_simp
        with_reducible rfl
      rotate_left
      · simp only [Act.put, List.setIfInBounds_toArray, List.set_cons_zero, List.set_cons_succ, i64_w, i32_w]
        rfl
      refine pure_ (i := 2) (N := some 66) (v := ?_) (a' := ?_) #[true, true, true, false, false, false, false, false, false, false, false, false] rfl rfl (by kernel_rfl) (fun _ _ _ h => h) (Or.inl ⟨by rfl, ?_⟩) ?_ ?_
      rotate_left
      · intro w'
        go_simp
        with_reducible rfl
      rotate_left
      · simp only [Act.put, List.setIfInBounds_toArray, List.set_cons_zero, List.set_cons_succ, i64_w, i32_w]
        rfl
      refine pure_ (i := 3) (N := some 67) (v := ?_) (a' := ?_) #[true, true, true, true, false, false, false, false, false, false, false, false] rfl rfl (by kernel_rfl) (fun _ _ _ h => h) (Or.inl ⟨by rfl, ?_⟩) ?_ ?_
      rotate_left
      · intro w'
        go_simp
        with_reducible rfl
      rotate_left
      · simp only [Act.put, List.setIfInBounds_toArray, List.set_cons_zero, List.set_cons_succ, i64_w, i32_w]
        rfl
      refine pure_ (i := 5) (N := some 69) (v := ?_) (a' := ?_) #[true, true, true, true, false, true, false, false, false, false, false, false] rfl rfl (by kernel_rfl) (fun _ _ _ h => h) (Or.inl ⟨by rfl, ?_⟩) ?_ ?_
      rotate_left
      · intro w'
        go_simp
        with_reducible rfl
      rotate_left
      · simp only [Act.put, List.setIfInBounds_toArray, List.set_cons_zero, List.set_cons_succ, i64_w, i32_w]
        rfl
      refine take_ (i := 4) (N := some 68) (v := ?_) (a' := ?_) #[true, true, true, true, true, true, false, false, false, false, false, false] rfl rfl (by kernel_rfl) (fun _ _ _ h => h) (Or.inl ⟨by rfl, ?_⟩) hHeld ?_ ?_
      rotate_left
      · intro w' s0
        go_simp
        with_reducible rfl
      rotate_left
      · simp only [Act.put, List.setIfInBounds_toArray, List.set_cons_zero, List.set_cons_succ, i64_w, i32_w]
        rfl
      refine one_ (i := 6) (N := some 70) #[true, true, true, true, true, true, true, false, false, false, false, false] rfl rfl (by kernel_rfl) (by decide) (fun K hK => ?_)
      refine goes_ Try.func41 (by kernel_rfl) rfl #[.slice A b.length c] (by rfl) rfl rfl (by (try simp only [List.map_toArray, List.map_cons, List.map_nil]); first | done | rfl) ?_
      with_reducible refine (b_Clone3 (C_mv HCw.out HM.out hA.out) hc (by omega)).mono ?_
      rintro e y1_ ⟨Ab, cb, rfl, hR, hb⟩
      refine ⟨_, rfl, ?_⟩
      have m_HX := Aside0.mk (RX hR HR.out (Nat.le_trans hB0 HM.out.size) (fun k hk => hfresh.out k (Nat.le_trans HM.out.size hk)))
      have n_HS := Aside0.mk (HS.out.below hb)
      have n_HJ := Aside0.mk (JBk.below HJ.out hb)
      have n_HR := Aside0.mk (Kd.R_below HR.out hb)
      have n_HM := Aside0.mk (HM.out.trans (Mv.of_below hb))
      clear HS
      have HS := n_HS
      clear n_HS
      clear HJ
      have HJ := n_HJ
      clear n_HJ
      clear HR
      have HR := n_HR
      clear n_HR
      clear HM
      have HM := n_HM
      clear n_HM
      clear hb
      have HX := m_HX
      clear m_HX
      clear hR
      refine hK.out _ _ ((blk_cell HJ.out 1).trans rfl) (fun hHeld => ?_)
      clear hK K
      refine norm_ (a' := ?_) ?_ ?_
      rotate_left
      · show Act.put _ (some 70) _ = _
        simp only [Act.put, List.setIfInBounds_toArray, List.set_cons_zero, List.set_cons_succ, i64_w, i32_w]
        rfl
      refine one_ (i := 7) (N := some 71) #[true, true, true, true, true, true, true, true, false, false, false, false] rfl rfl (by kernel_rfl) (by decide) (fun K hK => ?_)
      refine value_ (w1 := ?_) (v := ?_) (by rfl) rfl ?_ ?_
      rotate_left 2
      · go_simp
        constructor
        · rfl
        · rfl
      have O_HS := HS
      have O_HJ := HJ
      have O_HR := HR
      have O_HM := HM
      have O_HX := HX
      have hb := below_alloc (Below.refl y1_.heap.size y1_) (.cells [Value.slice Ab b.length cb].toArray 38)
      have n_HS := Aside0.mk (HS.out.below hb)
      have n_HJ := Aside0.mk (JBk.below HJ.out hb)
      have n_HR := Aside0.mk (Kd.R_below HR.out hb)
      have n_HM := Aside0.mk (HM.out.trans (Mv.of_below hb))
      have n_HX := Aside0.mk (Kd.R_below HX.out hb)
      clear HS
      have HS := n_HS
      clear n_HS
      clear HJ
      have HJ := n_HJ
      clear n_HJ
      clear HR
      have HR := n_HR
      clear n_HR
      clear HM
      have HM := n_HM
      clear n_HM
      clear HX
      have HX := n_HX
      clear n_HX
      clear hb
      refine hK.out _ _ ((blk_cell HJ.out 1).trans rfl) (fun hHeld => ?_)
      clear hK K
      refine norm_ (a' := ?_) ?_ ?_
      rotate_left
      · show Act.put _ (some 71) _ = _
        simp only [Act.put, List.setIfInBounds_toArray, List.set_cons_zero, List.set_cons_succ, i64_w, i32_w]
        rfl
      refine one_ (i := 8) (N := some 72) #[true, true, true, true, true, true, true, true, true, false, false, false] rfl rfl (by kernel_rfl) (by decide) (fun K hK => ?_)
      refine Kd.R_append_step (Kd.slice 5 (Kd.int .u8)) B0 (by rfl) (.tmp 68) (.tmp 71) 50 38 (.slice none 0 0) 24 rfl lb_und by_info rfl (by show 0 < 1; omega) (by omega) (.slice Al rs.length cl) rs b [Value.slice Ab b.length cb] ok (fun k => ok k ∧ some k ≠ (Value.slice Al rs.length cl).ownBlock) rfl rfl ⟨_, rfl, O_HX.out⟩ (fun k hk => hk) (fun k hk => hfresh.out k (Nat.le_trans O_HM.out.size hk)) O_HR.out (Below.refl _ _) (Nat.le_trans hB0 O_HM.out.size) (by omega) ?_
      intro v9 y2_ hR hb hg hat
      have m_HS := Aside0.mk (O_HS.out.grown O_HR.out hg)
      have m_HJ := Aside0.mk (O_HJ.out.grown O_HR.out hg)
      have m_HM := Aside0.mk (O_HM.out.app (pj := pj) hg hat)
      have m_HR := Aside0.mk hR
      clear HS HJ HR HM HX O_HS O_HJ O_HR O_HM O_HX hR hb hg hat
      obtain ⟨A9, c9, e9⟩ := Kd.R_slice m_HR.out
      rw [List.length_append, List.length_singleton] at e9
      subst e9
      have HS := m_HS
      have HJ := m_HJ
      have HM := m_HM
      have HR := m_HR
      clear m_HS m_HJ m_HM m_HR
      refine hK.out _ _ ((blk_cell HJ.out 1).trans rfl) (fun hHeld => ?_)
      clear hK K
      refine norm_ (a' := ?_) ?_ ?_
      rotate_left
      · show Act.put _ (some 72) _ = _
        simp only [Act.put, List.setIfInBounds_toArray, List.set_cons_zero, List.set_cons_succ, i64_w, i32_w]
        rfl
      refine pure_ (i := 9) (N := some 73) (v := ?_) (a' := ?_) #[true, true, true, true, true, true, true, true, true, true, false, false] rfl rfl (by kernel_rfl) (fun _ _ _ h => h) (Or.inl ⟨by rfl, ?_⟩) ?_ ?_
      rotate_left
      · intro w'
        go_simp
        with_reducible rfl
      rotate_left
      · simp only [Act.put, List.setIfInBounds_toArray, List.set_cons_zero, List.set_cons_succ, i64_w, i32_w]
        rfl
      refine pure_ (i := 10) (N := some 74) (v := ?_) (a' := ?_) #[true, true, true, true, true, true, true, true, true, true, true, false] rfl rfl (by kernel_rfl) (fun _ _ _ h => h) (Or.inl ⟨by rfl, ?_⟩) ?_ ?_
      rotate_left
      · intro w'
        go_simp
        with_reducible rfl
      rotate_left
      · simp only [Act.put, List.setIfInBounds_toArray, List.set_cons_zero, List.set_cons_succ, i64_w, i32_w]
        rfl
      refine last_ (i := 11) (N := none) #[true, true, true, true, true, true, true, true, true, true, true, true] rfl rfl (by kernel_rfl) (by decide) (fun K hK => ?_)
      have kf := blk_frozen HJ.out 1
      have kc := (blk_cell HJ.out 1).trans rfl
      refine skip_ (w1 := ?_) (by rfl) rfl ?_ ?_
      rotate_left
      · go_simp
        rfl
      refine hK.out _ _ ?_
      clear hK K
      refine done_ (by kernel_rfl) ?_
      clear hHeld kc kf
      have hm0 := Mv.cell (F := fun k => foot p gl gm vi k ∨ jf pj (.slice A9 (rs.length + 1) c9) k) y2_ ⟨pj, 1, none⟩ (.inr (.inl rfl)) (.slice A9 (rs.length + 1) c9)
      have HS2 := Aside0.mk (HS.out.jcell HJ.out 1 (.slice A9 (rs.length + 1) c9))
      have HJ2 := Aside0.mk (HJ.out.put (l := .slice A9 (rs.length + 1) c9))
      have HR2 := Aside0.mk (RB.mv HR.out (Mv.cell (F := fun k => k = pj) y2_ ⟨pj, 1, none⟩ rfl (.slice A9 (rs.length + 1) c9)) HJ.out.rb)
      have HM2 := Aside0.mk (HM.out.trans hm0)
      clear hm0 HS HJ HR HM
      generalize y2_.setCell ⟨pj, 1, none⟩ (.slice A9 (rs.length + 1) c9) = w5 at HS2 HJ2 HR2 HM2 ⊢
      have c2 : w5.cell? ⟨pj, 2, none⟩ = some (.int .i64 u) := (blk_cell HJ2.out 2).trans rfl
      have kf := blk_frozen HJ2.out 2
      go_wp2_with fail
      go_ret
      rw [show ((u : Int) + (i : Int)) = ((u + i : Nat) : Int) by omega]
      have hm0 := Mv.cell (F := fun k => foot p gl gm vi k ∨ jf pj (.slice A9 (rs.length + 1) c9) k) w5 ⟨pj, 2, none⟩ (.inr (.inl rfl)) (.int .i64 ((u + i : Nat) : Int))
      have HS3 := HS2.out.jcell HJ2.out 2 (.int .i64 ((u + i : Nat) : Int))
      have HJ3 := HJ2.out.put2 (u2 := u + i)
      have HR3 := RB.mv HR2.out (Mv.cell (F := fun k => k = pj) w5 ⟨pj, 2, none⟩ rfl (.int .i64 ((u + i : Nat) : Int))) HJ2.out.rb
      have HM3 := HM2.out.trans hm0
      rw [← hMM.out]
      first | exact ⟨rfl, vi, _, HS3, HJ3, HR3, HM3⟩ | exact ⟨rfl, vi, HS3, _, HJ3, HR3, HM3⟩
    obtain ⟨m, hm⟩ : ∃ m, M - i = m + 1 := ⟨M - i - 1, by omega⟩
    have hm2 : M - (i + 1) = m := by omega
    have hR' := hR.out
    rw [hm, wrS] at hR'
    replace hR := Aside0.mk hR'
    replace hm2 := Aside0.mk hm2
    have hi53 := hpnm.out i hlt
    have hi0 : 0 ≤ (i : Int) ∧ (i : Int) < 256 := by omega
    have hM0 : 0 ≤ (M : Int) ∧ (M : Int) < 256 := by omega
    have hi1 : i ≤ 10000 := by omega
    replace hi0 := Aside0.mk hi0
    replace hM0 := Aside0.mk hM0
    obtain ⟨hi, hhi⟩ : ∃ hi : Nat, hi = if (i + 1) * 53 < b.length then (i + 1) * 53 else b.length := ⟨_, rfl⟩
    obtain ⟨A1, hsl, hC1, hcl⟩ := own_cut (A := A) (c := c) (b := b) i hi hi53 hhi hc
    have hol := own_len b i
    obtain ⟨bi, hbi⟩ : ∃ bi, bi = own b i := ⟨_, rfl⟩
    rw [← hbi] at hsl hC1 hcl hol
    have hmin : (if ((i : Int) + 1) * 53 < (b.length : Int) then ((i : Int) + 1) * 53 else (b.length : Int)) = (hi : Int) := by rw [hhi]; split <;> split <;> omega
    have hwr := wrn rs.length hn
    obtain ⟨y, hy⟩ : ∃ y, y = lay (wrap64 ((rs.length : Int) + 1)) i M bi := ⟨_, rfl⟩
    rw [← hbi, ← hwr, ← hy] at hR
    replace hbi := Aside0.mk hbi
    replace hy := Aside0.mk hy
    replace hC1 := Aside0.mk hC1
    clear hm hR' hhi
    obtain ⟨Al, cl, hAl⟩ := Kd.R_slice HR.out
    subst hAl
    have hwb := Aside0.mk (wrb rs.length hn)
    replace hwr := Aside0.mk hwr
    go_wp2_with fail
    have hw1 := wr1 i hi1
    have hw2 := wr2 i hi1
    have hw3 := wr3 i hi1
    have n_HS := Aside0.mk (HS.out.below (below_drew (Below.refl _ _)))
    have n_HJ := Aside0.mk (JBk.below HJ.out (below_drew (Below.refl _ _)))
    have n_HR := Aside0.mk (Kd.R_below HR.out (below_drew (Below.refl _ _)))
    have n_HM := Aside0.mk (HM.out.trans (Mv.of_below (below_drew (Below.refl _ _))))
    clear HS
    have HS := n_HS
    clear n_HS
    clear HJ
    have HJ := n_HJ
    clear n_HJ
    clear HR
    have HR := n_HR
    clear n_HR
    clear HM
    have HM := n_HM
    clear n_HM
    refine start_ (n := 21) (S := fun w' => w'.cell? ⟨pj, 1, none⟩ = some (.slice Al rs.length cl)) (ds := [20]) #[false, false, false, false, false, false, false, false, false, false, false, false, false, false, false, false, false, false, false, false, false] (by kernel_rfl) rfl rfl ((blk_cell HJ.out 1).trans rfl) (fun hHeld => ?_)
    generalize wr.drew = w4 at HS HJ HR HM hHeld ⊢
    refine pure_ (i := 0) (N := some 29) (v := ?_) (a' := ?_) #[true, false, false, false, false, false, false, false, false, false, false, false, false, false, false, false, false, false, false, false, false] rfl rfl (by kernel_rfl) (fun _ _ _ h => h) (Or.inl ⟨by rfl, ?_⟩) ?_ ?_
    rotate_left
    · intro w'
      go_simp
      with_reducible rfl
    rotate_left
    · simp only [Act.put, List.setIfInBounds_toArray, List.set_cons_zero, List.set_cons_succ, i64_w, i32_w]
      rfl
    refine pure_ (i := 1) (N := some 30) (v := ?_) (a' := ?_) #[true, true, false, false, false, false, false, false, false, false, false, false, false, false, false, false, false, false, false, false, false] rfl rfl (by kernel_rfl) (fun _ _ _ h => h) (Or.inl ⟨by rfl, ?_⟩) ?_ ?_
    rotate_left
    · intro w'
      go_simp
      with_reducible rfl
    rotate_left
    · simp only [Act.put, List.setIfInBounds_toArray, List.set_cons_zero, List.set_cons_succ, i64_w, i32_w]
      rfl
    refine pure_ (i := 2) (N := some 31) (v := ?_) (a' := ?_) #[true, true, true, false, false, false, false, false, false, false, false, false, false, false, false, false, false, false, false, false, false] rfl rfl (by kernel_rfl) (fun _ _ _ h => h) (Or.inl ⟨by rfl, ?_⟩) ?_ ?_
    rotate_left
    · intro w'
      go_simp
      with_reducible rfl
    rotate_left
    · simp only [Act.put, List.setIfInBounds_toArray, List.set_cons_zero, List.set_cons_succ, i64_w, i32_w]
      rfl
    refine pure_ (i := 6) (N := some 35) (v := ?_) (a' := ?_) #[true, true, true, false, false, false, true, false, false, false, false, false, false, false, false, false, false, false, false, false, false] rfl rfl (by kernel_rfl) (fun _ _ _ h => h) (Or.inl ⟨by rfl, ?_⟩) ?_ ?_
    rotate_left
    · intro w'
      go_simp
      with_reducible rfl
    rotate_left
    · simp only [Act.put, List.setIfInBounds_toArray, List.set_cons_zero, List.set_cons_succ, i64_w, i32_w]
      rfl
    refine pure_ (i := 7) (N := some 36) (v := ?_) (a' := ?_) #[true, true, true, false, false, false, true, true, false, false, false, false, false, false, false, false, false, false, false, false, false] rfl rfl (by kernel_rfl) (fun _ _ _ h => h) (Or.inl ⟨by rfl, ?_⟩) ?_ ?_
    rotate_left
    · intro w'
      go_simp
      with_reducible rfl
    rotate_left
    · simp only [Act.put, List.setIfInBounds_toArray, List.set_cons_zero, List.set_cons_succ, i64_w, i32_w]
      rfl
    refine pure_ (i := 8) (N := some 37) (v := ?_) (a' := ?_) #[true, true, true, false, false, false, true, true, true, false, false, false, false, false, false, false, false, false, false, false, false] rfl rfl (by kernel_rfl) (fun _ _ _ h => h) (Or.inl ⟨by rfl, ?_⟩) ?_ ?_
    rotate_left
    · intro w'
      go_simp
      with_reducible rfl
    rotate_left
    · simp only [Act.put, List.setIfInBounds_toArray, List.set_cons_zero, List.set_cons_succ, i64_w, i32_w]
      rfl
    refine pure_ (i := 9) (N := some 38) (v := ?_) (a' := ?_) #[true, true, true, false, false, false, true, true, true, true, false, false, false, false, false, false, false, false, false, false, false] rfl rfl (by kernel_rfl) (fun _ _ _ h => h) (Or.inl ⟨by rfl, ?_⟩) ?_ ?_
    rotate_left
    · intro w'
      go_simp
      with_reducible rfl
    rotate_left
    · simp only [Act.put, List.setIfInBounds_toArray, List.set_cons_zero, List.set_cons_succ, i64_w, i32_w]
      rfl
    refine pure_ (i := 10) (N := some 39) (v := ?_) (a' := ?_) #[true, true, true, false, false, false, true, true, true, true, true, false, false, false, false, false, false, false, false, false, false] rfl rfl (by kernel_rfl) (fun _ _ _ h => h) (Or.inl ⟨by rfl, ?_⟩) ?_ ?_
    rotate_left
    · intro w'
      go_simp
      with_reducible rfl
    rotate_left
    · simp only [Act.put, List.setIfInBounds_toArray, List.set_cons_zero, List.set_cons_succ, i64_w, i32_w]
      rfl
    refine pure_ (i := 11) (N := some 40) (v := ?_) (a' := ?_) #[true, true, true, false, false, false, true, true, true, true, true, true, false, false, false, false, false, false, false, false, false] rfl rfl (by kernel_rfl) (fun _ _ _ h => h) (Or.inl ⟨by rfl, ?_⟩) ?_ ?_
    rotate_left
    · intro w'
      go_simp
      with_reducible rfl
    rotate_left
    · simp only [Act.put, List.setIfInBounds_toArray, List.set_cons_zero, List.set_cons_succ, i64_w, i32_w]
      rfl
    refine pure_ (i := 12) (N := some 41) (v := ?_) (a' := ?_) #[true, true, true, false, false, false, true, true, true, true, true, true, true, false, false, false, false, false, false, false, false] rfl rfl (by kernel_rfl) (fun _ _ _ h => h) (Or.inl ⟨by rfl, ?_⟩) ?_ ?_
    rotate_left
    · intro w'
      go_simp
      with_reducible rfl
    rotate_left
    · simp only [Act.put, List.setIfInBounds_toArray, List.set_cons_zero, List.set_cons_succ, i64_w, i32_w]
      rfl
    refine pure_ (i := 13) (N := some 42) (v := ?_) (a' := ?_) #[true, true, true, false, false, false, true, true, true, true, true, true, true, true, false, false, false, false, false, false, false] rfl rfl (by kernel_rfl) (fun _ _ _ h => h) (Or.inl ⟨by rfl, ?_⟩) ?_ ?_
    rotate_left
    · intro w'
      go_simp
      with_reducible rfl
    rotate_left
    · simp only [Act.put, List.setIfInBounds_toArray, List.set_cons_zero, List.set_cons_succ, i64_w, i32_w]
      rfl
    refine pure_ (i := 14) (N := some 43) (v := ?_) (a' := ?_) #[true, true, true, false, false, false, true, true, true, true, true, true, true, true, true, false, false, false, false, false, false] rfl rfl (by kernel_rfl) (fun _ _ _ h => h) (Or.inl ⟨by rfl, ?_⟩) ?_ ?_
    rotate_left
    · intro w'
      go_simp
      with_reducible rfl
    rotate_left
    · simp only [Act.put, List.setIfInBounds_toArray, List.set_cons_zero, List.set_cons_succ, i64_w, i32_w]
      rfl
    refine pure_ (i := 15) (N := some 44) (v := ?_) (a' := ?_) #[true, true, true, false, false, false, true, true, true, true, true, true, true, true, true, true, false, false, false, false, false] rfl rfl (by kernel_rfl) (fun _ _ _ h => h) (Or.inl ⟨by rfl, ?_⟩) ?_ ?_
    rotate_left
    · intro w'
      go_simp
      with_reducible rfl
    rotate_left
    · simp only [Act.put, List.setIfInBounds_toArray, List.set_cons_zero, List.set_cons_succ, i64_w, i32_w]
      rfl
    refine pure_ (i := 16) (N := some 45) (v := ?_) (a' := ?_) #[true, true, true, false, false, false, true, true, true, true, true, true, true, true, true, true, true, false, false, false, false] rfl rfl (by kernel_rfl) (fun _ _ _ h => h) (Or.inl ⟨by rfl, ?_⟩) ?_ ?_
    rotate_left
    · intro w'
      go_simp
      with_reducible rfl
    rotate_left
    · simp only [Act.put, List.setIfInBounds_toArray, List.set_cons_zero, List.set_cons_succ, i64_w, i32_w]
      rfl
    refine pure_ (i := 17) (N := some 46) (v := ?_) (a' := ?_) #[true, true, true, false, false, false, true, true, true, true, true, true, true, true, true, true, true, true, false, false, false] rfl rfl (by kernel_rfl) (fun _ _ _ h => h) (Or.inl ⟨by rfl, ?_⟩) ?_ ?_
    rotate_left
    · intro w'
      go_simp
      with_reducible rfl
    rotate_left
    · simp only [Act.put, List.setIfInBounds_toArray, List.set_cons_zero, List.set_cons_succ, i64_w, i32_w]
      rfl
    refine take_ (i := 3) (N := some 32) (v := ?_) (a' := ?_) #[true, true, true, true, false, false, true, true, true, true, true, true, true, true, true, true, true, true, false, false, false] rfl rfl (by kernel_rfl) (fun _ _ _ h => h) (Or.inl ⟨by rfl, ?_⟩) hHeld ?_ ?_
    rotate_left
    · intro w' s0
      go_simp
      with_reducible rfl
    rotate_left
    · simp only [Act.put, List.setIfInBounds_toArray, List.set_cons_zero, List.set_cons_succ, i64_w, i32_w]
      rfl
    refine pure_ (i := 4) (N := some 33) (v := ?_) (a' := ?_) #[true, true, true, true, true, false, true, true, true, true, true, true, true, true, true, true, true, true, false, false, false] rfl rfl (by kernel_rfl) (fun _ _ _ h => h) (Or.inl ⟨by rfl, ?_⟩) ?_ ?_
    rotate_left
    · intro w'
      go_simp
      with_reducible rfl
    rotate_left
    · simp only [Act.put, List.setIfInBounds_toArray, List.set_cons_zero, List.set_cons_succ, i64_w, i32_w]
      rfl
    refine pure_ (i := 5) (N := some 34) (v := ?_) (a' := ?_) #[true, true, true, true, true, true, true, true, true, true, true, true, true, true, true, true, true, true, false, false, false] rfl rfl (by kernel_rfl) (fun _ _ _ h => h) (Or.inl ⟨by rfl, ?_⟩) ?_ ?_
    rotate_left
    · intro w'
      go_simp
      with_reducible rfl
    rotate_left
    · simp only [Act.put, List.setIfInBounds_toArray, List.set_cons_zero, List.set_cons_succ, i64_w, i32_w]
      rfl
    refine join_ (σ := Nat) 1 #[true, true, true, true, true, true, true, true, true, true, true, true, true, true, true, true, true, true, true, true, false] (fun s_ => [(47, .agg y.cs.toArray), (7, .pointer (some ⟨s_, 0, none⟩))]) (fun s_ w' => (w'.cell? ⟨pj, 1, none⟩ = some (.slice Al rs.length cl)) ∧ (w'.heap[s_]? = some (.cells (Bk.z.cs.toArray) 46 (0, 0))) ∧ (JBk w' pj p (.slice Al rs.length cl) u) ∧ (Mv (foot p gl gm v) (foot p gl gm vi) w w') ∧ (RB w' B0 ok (.slice Al rs.length cl) rs) ∧ (SA B w' p gl gm vi L Wi) ∧ (w.heap.size ≤ s_)) ?_ ?_
    rotate_left
    · intro hCont
      refine two_ (i := 18) (j := 19) (Ni := some 47) (Nj := some 7) #[true, true, true, true, true, true, true, true, true, true, true, true, true, true, true, true, true, true, true, false, false] #[true, true, true, true, true, true, true, true, true, true, true, true, true, true, true, true, true, true, false, true, false] rfl rfl rfl rfl (by kernel_rfl) (by decide) (by decide) (fun K hK => ?_) (fun K hK => ?_)
      · skip
        refine goes_ Try.func40 (by kernel_rfl) rfl #[.int .i64 (wrap64 ((rs.length : Int) + 1)), .int .i64 i, .int .i64 M, .slice A1 bi.length (c - i * 53)] (by rfl) rfl rfl (by (try simp only [List.map_toArray, List.map_cons, List.map_nil]); first | done | rfl) ?_
        with_reducible refine (j_laid_eq hy.out (hC1.out _ (C_mv HCw.out HM.out hA.out)) hol hwb.out hi0.out hM0.out).mono ?_
        rintro e y4_ ⟨rfl, hb⟩
        refine ⟨_, rfl, ?_⟩
        have n_HS := Aside0.mk (HS.out.below hb)
        have n_HJ := Aside0.mk (JBk.below HJ.out hb)
        have n_HR := Aside0.mk (Kd.R_below HR.out hb)
        have n_HM := Aside0.mk (HM.out.trans (Mv.of_below hb))
        clear HS
        have HS := n_HS
        clear n_HS
        clear HJ
        have HJ := n_HJ
        clear n_HJ
        clear HR
        have HR := n_HR
        clear n_HR
        clear HM
        have HM := n_HM
        clear n_HM
        clear hb
        refine hK.out _ _ ((blk_cell HJ.out 1).trans rfl) (fun hHeld => ?_)
        clear hK K
        refine norm_ (a' := ?_) ?_ ?_
        rotate_left
        · show Act.put _ (some 47) _ = _
          simp only [Act.put, List.setIfInBounds_toArray, List.set_cons_zero, List.set_cons_succ, i64_w, i32_w]
          rfl
        refine one_ (i := 19) (N := some 7) #[true, true, true, true, true, true, true, true, true, true, true, true, true, true, true, true, true, true, true, true, false] rfl rfl (by kernel_rfl) (by decide) (fun K hK => ?_)
        refine box_step ?hg (N := 7) ?hd (cs := Bk.z.cs.toArray) (t := 46) ?hr ?_; (case hd => rfl); (case hg => rfl); (case hr => first | (go_simp; done) | (go_simp; rfl))
        intro g7 hg y5_ hbox hb
        have hg7 : w.heap.size ≤ g7 := by rw [hg]; exact HM.out.size
        have m_ := Aside0.mk hbox
        have n_HS := Aside0.mk (HS.out.below hb)
        have n_HJ := Aside0.mk (JBk.below HJ.out hb)
        have n_HR := Aside0.mk (Kd.R_below HR.out hb)
        have n_HM := Aside0.mk (HM.out.trans (Mv.of_below hb))
        clear HS
        have HS := n_HS
        clear n_HS
        clear HJ
        have HJ := n_HJ
        clear n_HJ
        clear HR
        have HR := n_HR
        clear n_HR
        clear HM
        have HM := n_HM
        clear n_HM
        clear hb hbox hg
        have BKg7 := m_
        clear m_
        refine hK.out _ _ ((blk_cell HJ.out 1).trans rfl) (fun hHeld => ?_)
        clear hK K
        refine norm_ (a' := ?_) ?_ ?_
        rotate_left
        · show Act.put _ (some 7) _ = _
          simp only [Act.put, List.setIfInBounds_toArray, List.set_cons_zero, List.set_cons_succ, i64_w, i32_w]
          rfl
        exact norm_ (by simp only [putAll, Act.put, List.setIfInBounds_toArray, List.set_cons_zero, List.set_cons_succ]) (hCont g7 _ ⟨(blk_cell HJ.out 1).trans rfl, BKg7.out, HJ.out, HM.out, HR.out, HS.out, hg7⟩)
      · skip
        refine box_step ?hg (N := 7) ?hd (cs := Bk.z.cs.toArray) (t := 46) ?hr ?_; (case hd => rfl); (case hg => rfl); (case hr => first | (go_simp; done) | (go_simp; rfl))
        intro g7 hg y6_ hbox hb
        have hg7 : w.heap.size ≤ g7 := by rw [hg]; exact HM.out.size
        have m_ := Aside0.mk hbox
        have n_HS := Aside0.mk (HS.out.below hb)
        have n_HJ := Aside0.mk (JBk.below HJ.out hb)
        have n_HR := Aside0.mk (Kd.R_below HR.out hb)
        have n_HM := Aside0.mk (HM.out.trans (Mv.of_below hb))
        clear HS
        have HS := n_HS
        clear n_HS
        clear HJ
        have HJ := n_HJ
        clear n_HJ
        clear HR
        have HR := n_HR
        clear n_HR
        clear HM
        have HM := n_HM
        clear n_HM
        clear hb hbox hg
        have BKg7 := m_
        clear m_
        refine hK.out _ _ ((blk_cell HJ.out 1).trans rfl) (fun hHeld => ?_)
        clear hK K
        refine norm_ (a' := ?_) ?_ ?_
        rotate_left
        · show Act.put _ (some 7) _ = _
          simp only [Act.put, List.setIfInBounds_toArray, List.set_cons_zero, List.set_cons_succ, i64_w, i32_w]
          rfl
        refine one_ (i := 18) (N := some 47) #[true, true, true, true, true, true, true, true, true, true, true, true, true, true, true, true, true, true, true, true, false] rfl rfl (by kernel_rfl) (by decide) (fun K hK => ?_)
        refine goes_ Try.func40 (by kernel_rfl) rfl #[.int .i64 (wrap64 ((rs.length : Int) + 1)), .int .i64 i, .int .i64 M, .slice A1 bi.length (c - i * 53)] (by rfl) rfl rfl (by (try simp only [List.map_toArray, List.map_cons, List.map_nil]); first | done | rfl) ?_
        with_reducible refine (j_laid_eq hy.out (hC1.out _ (C_mv HCw.out HM.out hA.out)) hol hwb.out hi0.out hM0.out).mono ?_
        rintro e y7_ ⟨rfl, hb⟩
        refine ⟨_, rfl, ?_⟩
        have n_HS := Aside0.mk (HS.out.below hb)
        have n_HJ := Aside0.mk (JBk.below HJ.out hb)
        have n_HR := Aside0.mk (Kd.R_below HR.out hb)
        have n_HM := Aside0.mk (HM.out.trans (Mv.of_below hb))
        have n_BKg7 := Aside0.mk (blk_below BKg7.out hb)
        clear HS
        have HS := n_HS
        clear n_HS
        clear HJ
        have HJ := n_HJ
        clear n_HJ
        clear HR
        have HR := n_HR
        clear n_HR
        clear HM
        have HM := n_HM
        clear n_HM
        clear BKg7
        have BKg7 := n_BKg7
        clear n_BKg7
        clear hb
        refine hK.out _ _ ((blk_cell HJ.out 1).trans rfl) (fun hHeld => ?_)
        clear hK K
        refine norm_ (a' := ?_) ?_ ?_
        rotate_left
        · show Act.put _ (some 47) _ = _
          simp only [Act.put, List.setIfInBounds_toArray, List.set_cons_zero, List.set_cons_succ, i64_w, i32_w]
          rfl
        exact norm_ (by simp only [putAll, Act.put, List.setIfInBounds_toArray, List.set_cons_zero, List.set_cons_succ]) (hCont g7 _ ⟨(blk_cell HJ.out 1).trans rfl, BKg7.out, HJ.out, HM.out, HR.out, HS.out, hg7⟩)
    clear hHeld HS HJ HR HM
    rintro g7 y3_ ⟨hS0_, h_BKg7, h_HJ, h_HM, h_HR, h_HS, h_hg7⟩
    have BKg7 : Aside0 (y3_.heap[g7]? = some (.cells (Bk.z.cs.toArray) 46 (0, 0))) := Aside0.mk (h_BKg7)
    clear h_BKg7
    have HJ : Aside0 (JBk y3_ pj p (.slice Al rs.length cl) u) := Aside0.mk (h_HJ)
    clear h_HJ
    have HM : Aside0 (Mv (foot p gl gm v) (foot p gl gm vi) w y3_) := Aside0.mk (h_HM)
    clear h_HM
    have HR : Aside0 (RB y3_ B0 ok (.slice Al rs.length cl) rs) := Aside0.mk (h_HR)
    clear h_HR
    have HS : Aside0 (SA B y3_ p gl gm vi L Wi) := Aside0.mk (h_HS)
    clear h_HS
    have hg7 : w.heap.size ≤ g7 := h_hg7
    clear h_hg7
    have hHeld : y3_.cell? ⟨pj, 1, none⟩ = some (.slice Al rs.length cl) := hS0_
    clear hS0_
    refine norm_ (a' := ?_) ?_ ?_
    rotate_left
    · simp only [putAll, Act.put, List.setIfInBounds_toArray, List.set_cons_zero, List.set_cons_succ]
      rfl
    refine last_ (i := 20) (N := none) #[true, true, true, true, true, true, true, true, true, true, true, true, true, true, true, true, true, true, true, true, true] rfl rfl (by kernel_rfl) (by decide) (fun K hK => ?_)
    refine skip_ (w1 := y3_.setRow g7 y.cs.toArray) (by rfl) rfl (bk_store 46 _ _ rfl rfl rfl BKg7.out bk_info) ?_
    refine hK.out _ _ ?_
    clear hK K
    refine done_ (by kernel_rfl) ?_
    clear hHeld hw1 hw2 hw3 hmin hsl
    have HS2 := Aside0.mk (HS.out.row_far BKg7.out (by decide) y.cs.toArray)
    have HJ2 := Aside0.mk (HJ.out.row_far BKg7.out (by decide) y.cs.toArray)
    have HR2 := Aside0.mk (show RB (y3_.setRow g7 y.cs.toArray) B0 ok (.slice Al rs.length cl) rs from R_row HR.out BKg7.out (by decide) y.cs.toArray)
    have HM2 := Aside0.mk (HM.out.row_new hg7 y.cs.toArray)
    have BK7 := Aside0.mk (setRow_heap _ _ _ y.cs.toArray _ _ BKg7.out)
    clear HS HJ HR HM BKg7
    generalize y3_.setRow g7 y.cs.toArray = w6 at HS2 HJ2 HR2 HM2 BK7 ⊢
    have HS := HS2
    have HJ := HJ2
    have HR := HR2
    have HM := HM2
    clear HS2 HJ2 HR2 HM2
    have hua := wru u i (by omega) hi1
    obtain ⟨q, hq⟩ : ∃ q : Int, q = ((u + i : Nat) : Int) := ⟨_, rfl⟩
    rw [← hq] at hua hR
    replace hua := Aside0.mk hua
    clear hq
    go_wp2_with fail
    have n_HS := Aside0.mk (HS.out.below (below_drew (Below.refl _ _)))
    have n_HJ := Aside0.mk (JBk.below HJ.out (below_drew (Below.refl _ _)))
    have n_HR := Aside0.mk (Kd.R_below HR.out (below_drew (Below.refl _ _)))
    have n_HM := Aside0.mk (HM.out.trans (Mv.of_below (below_drew (Below.refl _ _))))
    have n_BK7 := Aside0.mk (blk_below BK7.out (below_drew (Below.refl _ _)))
    clear HS
    have HS := n_HS
    clear n_HS
    clear HJ
    have HJ := n_HJ
    clear n_HJ
    clear HR
    have HR := n_HR
    clear n_HR
    clear HM
    have HM := n_HM
    clear n_HM
    clear BK7
    have BK7 := n_BK7
    clear n_BK7
    refine start_ (n := 13) (S := fun w' => w'.cell? ⟨pj, 0, none⟩ = some (.pointer (some ⟨p, 0, none⟩)) ∧ w'.cell? ⟨pj, 2, none⟩ = some (.int .i64 u) ∧ w'.heap[g7]? = some (.cells y.cs.toArray 46 (0, 0))) (ds := []) #[false, false, false, false, false, false, false, false, false, false, false, false, false] (by kernel_rfl) rfl rfl ⟨(blk_cell HJ.out 0).trans rfl, (blk_cell HJ.out 2).trans rfl, BK7.out⟩ (fun hHeld => ?_)
    generalize w6.drew = w7 at HS HJ HR HM BK7 hHeld ⊢
    refine pure_ (i := 0) (N := some 48) (v := ?_) (a' := ?_) #[true, false, false, false, false, false, false, false, false, false, false, false, false] rfl rfl (by kernel_rfl) (fun _ _ _ h => h) (Or.inl ⟨by rfl, ?_⟩) ?_ ?_
    rotate_left
    · intro w'
      go_simp
      with_reducible rfl
    rotate_left
    · simp only [Act.put, List.setIfInBounds_toArray, List.set_cons_zero, List.set_cons_succ, i64_w, i32_w]
      rfl
    refine pure_ (i := 1) (N := some 49) (v := ?_) (a' := ?_) #[true, true, false, false, false, false, false, false, false, false, false, false, false] rfl rfl (by kernel_rfl) (fun _ _ _ h => h) (Or.inl ⟨by rfl, ?_⟩) ?_ ?_
    rotate_left
    · intro w'
      go_simp
      with_reducible rfl
    rotate_left
    · simp only [Act.put, List.setIfInBounds_toArray, List.set_cons_zero, List.set_cons_succ, i64_w, i32_w]
      rfl
    refine pure_ (i := 2) (N := some 50) (v := ?_) (a' := ?_) #[true, true, true, false, false, false, false, false, false, false, false, false, false] rfl rfl (by kernel_rfl) (fun _ _ _ h => h) (Or.inl ⟨by rfl, ?_⟩) ?_ ?_
    rotate_left
    · intro w'
      go_simp
      with_reducible rfl
    rotate_left
    · simp only [Act.put, List.setIfInBounds_toArray, List.set_cons_zero, List.set_cons_succ, i64_w, i32_w]
      rfl
    refine pure_ (i := 4) (N := some 52) (v := ?_) (a' := ?_) #[true, true, true, false, true, false, false, false, false, false, false, false, false] rfl rfl (by kernel_rfl) (fun _ _ _ h => h) (Or.inl ⟨by rfl, ?_⟩) ?_ ?_
    rotate_left
    · intro w'
      go_simp
      with_reducible rfl
    rotate_left
    · simp only [Act.put, List.setIfInBounds_toArray, List.set_cons_zero, List.set_cons_succ, i64_w, i32_w]
      rfl
    refine pure_ (i := 5) (N := some 53) (v := ?_) (a' := ?_) #[true, true, true, false, true, true, false, false, false, false, false, false, false] rfl rfl (by kernel_rfl) (fun _ _ _ h => h) (Or.inl ⟨by rfl, ?_⟩) ?_ ?_
    rotate_left
    · intro w'
      go_simp
      with_reducible rfl
    rotate_left
    · simp only [Act.put, List.setIfInBounds_toArray, List.set_cons_zero, List.set_cons_succ, i64_w, i32_w]
      rfl
    refine pure_ (i := 6) (N := some 54) (v := ?_) (a' := ?_) #[true, true, true, false, true, true, true, false, false, false, false, false, false] rfl rfl (by kernel_rfl) (fun _ _ _ h => h) (Or.inl ⟨by rfl, ?_⟩) ?_ ?_
    rotate_left
    · intro w'
      go_simp
      with_reducible rfl
    rotate_left
    · simp only [Act.put, List.setIfInBounds_toArray, List.set_cons_zero, List.set_cons_succ, i64_w, i32_w]
      rfl
    refine pure_ (i := 8) (N := some 56) (v := ?_) (a' := ?_) #[true, true, true, false, true, true, true, false, true, false, false, false, false] rfl rfl (by kernel_rfl) (fun _ _ _ h => h) (Or.inl ⟨by rfl, ?_⟩) ?_ ?_
    rotate_left
    · intro w'
      go_simp
      with_reducible rfl
    rotate_left
    · simp only [Act.put, List.setIfInBounds_toArray, List.set_cons_zero, List.set_cons_succ, i64_w, i32_w]
      rfl
    refine take_ (i := 3) (N := some 51) (v := ?_) (a' := ?_) #[true, true, true, true, true, true, true, false, true, false, false, false, false] rfl rfl (by kernel_rfl) (fun _ _ _ h => h) (Or.inl ⟨by rfl, ?_⟩) hHeld ?_ ?_
    rotate_left
    · rintro w' ⟨s0, s1, s2⟩
      go_simp
      with_reducible rfl
    rotate_left
    · simp only [Act.put, List.setIfInBounds_toArray, List.set_cons_zero, List.set_cons_succ, i64_w, i32_w]
      rfl
    refine take_ (i := 7) (N := some 55) (v := ?_) (a' := ?_) #[true, true, true, true, true, true, true, true, true, false, false, false, false] rfl rfl (by kernel_rfl) (fun _ _ _ h => h) (Or.inl ⟨by rfl, ?_⟩) hHeld ?_ ?_
    rotate_left
    · rintro w' ⟨s0, s1, s2⟩
      go_simp
      with_reducible rfl
    rotate_left
    · simp only [Act.put, List.setIfInBounds_toArray, List.set_cons_zero, List.set_cons_succ, i64_w, i32_w]
      rfl
    refine pure_ (i := 9) (N := some 57) (v := ?_) (a' := ?_) #[true, true, true, true, true, true, true, true, true, true, false, false, false] rfl rfl (by kernel_rfl) (fun _ _ _ h => h) (Or.inl ⟨by rfl, ?_⟩) ?_ ?_
    rotate_left
    · intro w'
      go_simp
      with_reducible rfl
    rotate_left
    · simp only [Act.put, List.setIfInBounds_toArray, List.set_cons_zero, List.set_cons_succ, i64_w, i32_w]
      rfl
    refine take_ (i := 10) (N := some 58) (v := ?_) (a' := ?_) #[true, true, true, true, true, true, true, true, true, true, true, false, false] rfl rfl (by kernel_rfl) (fun _ _ _ h => h) (Or.inl ⟨by rfl, ?_⟩) hHeld ?_ ?_
    rotate_left
    · rintro w' ⟨s0, s1, s2⟩
      refine load_run 46 (.tmp 7) ?_ g7 ?_ 46 _ (0, 0) _ s2 bk_und rfl (by rw [bk_sz]; exact bk_info) <;> rfl
    rotate_left
    · simp only [Act.put, List.setIfInBounds_toArray, List.set_cons_zero, List.set_cons_succ, i64_w, i32_w]
      rfl
    refine one_ (i := 11) (N := some 59) #[true, true, true, true, true, true, true, true, true, true, true, true, false] rfl rfl (by kernel_rfl) (by decide) (fun K hK => ?_)
    refine goes_ Try.func20 (by kernel_rfl) rfl #[.pointer (some ⟨p, 0, none⟩), .int .i64 (wrap64 ((u : Int) + (i : Int))), .agg y.cs.toArray] (by rfl) rfl rfl (by (try simp only [List.map_toArray, List.map_cons, List.map_nil]); first | done | rfl) ?_
    with_reducible refine (b_WriteE hua.out HS.out y).mono ?_
    rintro e y8_ ⟨rfl, v4, hs, hmv⟩
    refine ⟨_, rfl, ?_⟩
    have m_HS := Aside0.mk (hs)
    have m_HJ := Aside0.mk (HJ.out.mv hmv (HS.out.not_j HJ.out))
    have m_HR := Aside0.mk (RB.mv HR.out hmv HS.out.rb)
    have m_HM := Aside0.mk (HM.out.trans hmv)
    have m_BK7 := Aside0.mk (hmv.blk BK7.out (HS.out.far BK7.out (by decide)))
    clear HS
    clear HJ
    clear HR
    clear HM
    clear BK7
    have HS := m_HS
    clear m_HS
    have HJ := m_HJ
    clear m_HJ
    have HR := m_HR
    clear m_HR
    have HM := m_HM
    clear m_HM
    have BK7 := m_BK7
    clear m_BK7
    clear hs hmv
    refine hK.out _ _ ⟨(blk_cell HJ.out 0).trans rfl, (blk_cell HJ.out 2).trans rfl, BK7.out⟩ (fun hHeld => ?_)
    clear hK K
    refine norm_ (a' := ?_) ?_ ?_
    rotate_left
    · show Act.put _ (some 59) _ = _
      simp only [Act.put, List.setIfInBounds_toArray, List.set_cons_zero, List.set_cons_succ, i64_w, i32_w]
      rfl
    refine pure_ (i := 12) (N := some 8) (v := ?_) (a' := ?_) #[true, true, true, true, true, true, true, true, true, true, true, true, true] rfl rfl (by kernel_rfl) (fun _ _ _ h => h) (Or.inl ⟨by rfl, ?_⟩) ?_ ?_
    rotate_left
    · intro w'
      go_simp
      with_reducible rfl
    rotate_left
    · simp only [Act.put, List.setIfInBounds_toArray, List.set_cons_zero, List.set_cons_succ, i64_w, i32_w]
      rfl
    refine done_ (by kernel_rfl) ?_
    clear hHeld BK7
    have hwW : wrW L Wi q y = if wrc L Wi q = 0 then Wi ++ [(q, y)] else Wi := rfl
    rw [hwW] at HS
    clear hwW
    generalize wrc L Wi q = er at hR HS ⊢
    by_cases h0 : er = 0
    case pos =>
      subst h0
      have hR' := hR.out
      rw [if_pos rfl] at hR'
      replace hR := Aside0.mk hR'
      rw [if_pos rfl] at HS
      clear hR' hua
      go_wp2_with fail
      go_roundw
      case rel => exact ⟨i + 1, _, v4, by omega, by go_num, HS, HJ, HR, HM, ⟨by rw [hm2.out]; exact hR.out⟩⟩
      case measure => simp [intOf]; omega
    have e1 : (er != 0) = true := by simpa using h0
    have e2 : (er == 0) = false := by simpa using h0
    have hR' := hR.out
    rw [if_neg h0] at hR'
    subst hR'
    rw [if_neg h0] at HS
    clear hR hua
    have HMw := HM.out.wide (jf pj (.slice Al rs.length cl))
    have i1 : (if er = 0 then u + pn b.length else u) = u := if_neg h0
    have i2 : (if er = 0 then rs ++ [b] else rs) = rs := if_neg h0
    go_wp2_with fail
    go_ret
    simp only [i1, i2]
    first | exact ⟨rfl, v4, _, HS.out, HJ.out, HR.out, HMw⟩ | exact ⟨rfl, v4, HS.out, _, HJ.out, HR.out, HMw⟩
end
end Go.Proofs.Ytniadlnbjgodnaa.Print
