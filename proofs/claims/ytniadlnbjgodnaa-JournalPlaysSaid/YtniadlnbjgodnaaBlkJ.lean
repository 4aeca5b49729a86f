/- What Sync and Crash do. -/
import Derived.Test.YtniadlnbjgodnaaProg
import Derived.Below
import Derived.Deep.Draws
import Derived.Deep.AppendLies
import Derived.Maps.AppendAt
import Derived.OwnWalk
import Derived.Laws.BytesArg
import Derived.Laws.MakeOwn
import Derived.Laws.OwnMore
import Derived.Deep.OwnRows
import Derived.Tactics
import Derived.Lib.ConvBytes
import Derived.Laws.Slices
import Derived.WalkKit
import Derived.KernelRfl
import Derived.RowKit3
import Derived.Deep.LoopGhost
import Derived.Deep.QuietTactic
import Derived.BigQuiet
import Derived.WideLaws
import Derived.Deep.DeepCutAuto
import Derived.Deep.CutBlock
import Derived.Deep.RegionHeld3
import Derived.Laws.Rows
import Derived.Lib.AppendStr
import Derived.ArgAppend
import Derived.Laws.IdiomCopy
import Derived.OrdersHeld
import Derived.Laws.BitsLemmas
import Derived.RowKit
import Derived.LoopN
import Derived.Handy
import Derived.Laws.EntriesVeiled
import Derived.MapKept
import Derived.Laws.Externs
import Derived.ChangeKeysEq
import Derived.Deep.WholeRow
import Derived.Test.YtniadlnbjgodnaaWWords
import Derived.Test.YtniadlnbjgodnaaWLast
import Derived.Test.YtniadlnbjgodnaaWTab
import Derived.Test.YtniadlnbjgodnaaWFour
import Derived.Test.YtniadlnbjgodnaaWQPut
import Derived.Test.YtniadlnbjgodnaaWApart
import Derived.Test.YtniadlnbjgodnaaWArr
import Derived.Test.YtniadlnbjgodnaaWZeros
import Derived.Test.YtniadlnbjgodnaaWFoot
import Derived.Test.YtniadlnbjgodnaaWKept
import Derived.Test.YtniadlnbjgodnaaWShare
import Derived.Test.YtniadlnbjgodnaaWN
import Derived.Test.YtniadlnbjgodnaaWFootNe
import Derived.Test.YtniadlnbjgodnaaWAt
import Derived.Test.YtniadlnbjgodnaaWEqStruct
import Derived.Test.YtniadlnbjgodnaaWRepsOne
import Derived.Test.YtniadlnbjgodnaaWInv
import Derived.Test.YtniadlnbjgodnaaWInvWords
import Derived.Test.YtniadlnbjgodnaaWGuard
import Derived.Test.YtniadlnbjgodnaaWNEv
import Derived.Test.YtniadlnbjgodnaaWMore
import Derived.Test.YtniadlnbjgodnaaBlkA
import Derived.Test.YtniadlnbjgodnaaBlkB
import Derived.Test.YtniadlnbjgodnaaBlkE
import Derived.Test.YtniadlnbjgodnaaBlkF
import Derived.Test.YtniadlnbjgodnaaBlkG
import Derived.Test.YtniadlnbjgodnaaBlkI
namespace Go.Proofs.Ytniadlnbjgodnaa.Print
open Go.RowKit Go.Proofs.YtniadlnbjgodnaaW.PrintWords Go.Proofs.YtniadlnbjgodnaaW.PrintLast Go.Proofs.YtniadlnbjgodnaaW.PrintMore
attribute [local go_sem] max2_int min2_int max_two min_two max_three min_three max_four min_four
set_option linter.unusedVariables false
set_option linter.unusedSimpArgs false
section
variable {B : Nat} {w w' : World} {p gl gm : Nat} {v : Value} {L : List (Bk × Bool)} {W : List (Int × Bk)}
theorem foot_none {k : Nat} (h : foot p gl gm (.slice none 0 0) k) : foot p gl gm v k := by
  rcases h with h | h | h | h
  · exact .inl h
  · exact .inr (.inl h)
  · exact .inr (.inr (.inl h))
  · cases h
theorem SP.cleared (h : SP B w p gl gm v L W []) (hm : MapAt w' gm []) (hpm : World.putMap w w' gm) (hB : B ≤ p ∧ B ≤ gl ∧ B ≤ gm) (hL : 1 ≤ L.length ∧ L.length ≤ 4096) : SA B w' p gl gm v L [] ∧ Mv (foot p gl gm v) (foot p gl gm v) w w' := by
  have hg : ∃ es c, w.heap[gm]? = some (.map es c) := by obtain ⟨m, ⟨es, c, h, _⟩, _⟩ := h.hm; exact ⟨es, c, h⟩
  obtain ⟨es, c, hg⟩ := hg
  have n1 : p ≠ gm := fun e => by have := h.hp; rw [e, hg] at this; injection this with this; cases this
  have n2 : gl ≠ gm := fun e => by have := h.hl; rw [e, hg] at this; injection this with this; cases this
  have n3 : ∀ k, v.ownBlock = some k → k ≠ gm := fun k hk e => by obtain ⟨cs, hc⟩ := own_type h.hw hk; rw [e, hg] at hc; injection hc with hc; cases hc
  exact ⟨⟨(hpm.block p n1).trans h.hp, (hpm.block gl n2).trans h.hl, same_R h.hw (fun k hk => hpm.block k (n3 k hk)), ⟨[], hm, fun _ => rfl⟩, hB, hL, by simp, fun x hx => by simp at hx⟩, Mv.putMap (.inr (.inr (.inl rfl))) hpm⟩
set_option maxHeartbeats 8000000 in
set_option maxRecDepth 100000 in
theorem b_settle (h : SA B w p gl gm v L W) {n : Nat} {caps : Array Value} (hn : FnOk Try.prog n) (fate : Nat → Int)
    (hfate : ∀ (i : Nat) w', i < W.length → Mv (foot p gl gm v) (foot p gl gm v) w w' → Calls Try.prog n (#[.int .i64 i] ++ caps) w' fun e w'' => e = .returned (.int .u8 (fate i)) ∧ Below w'.heap.size w' w'') :
    Calls Try.prog 44 #[.pointer (some ⟨p, 0, none⟩), .func (.func n) #[] caps] w fun e w' => e = .returned (.int .i64 0) ∧ SA B w' p gl gm (.slice none 0 0) (setl fate 0 W L) [] ∧ Mv (foot p gl gm v) (foot p gl gm (.slice none 0 0)) w w' := by
  have hb0 := below_alloc (Below.refl w.heap.size w) (.cells #[.pointer (some ⟨p, 0, none⟩)] 25)
  have hk0 := blk_new w (.cells #[.pointer (some ⟨p, 0, none⟩)] 25)
  have s0 : (w.alloc (.cells #[.pointer (some ⟨p, 0, none⟩)] 25)).heap.size = w.heap.size + 1 := by simp
  have hB3 := h.hB
  have hL3 := h.hL
  have h := Aside0.mk h
  have hfate := Aside0.mk hfate
  go_enter Try.func44, Try.ntmps44
  go_wp2_with fail
  generalize w.alloc (.cells #[.pointer (some ⟨p, 0, none⟩)] 25) = w1 at hb0 hk0 s0 ⊢
  have hb1 := below_alloc hb0 (.cells #[.func (.func n) #[] caps] 96)
  have hk1 := blk_new w1 (.cells #[.func (.func n) #[] caps] 96)
  rw [s0] at hk1
  have hk0' := blk_alloc hk0 (.cells #[.func (.func n) #[] caps] 96)
  generalize w1.alloc (.cells #[.func (.func n) #[] caps] 96) = w2 at hb1 hk1 hk0' ⊢
  clear hk0 s0 hb0
  have HS := Aside0.mk (h.out.below hb1)
  have HB := Aside0.mk hb1
  have BKf := Aside0.mk hk1
  have BKs := Aside0.mk hk0'
  clear hb1 hk1 hk0' w1
  refine (b_drain HS.out BKf.out BKs.out hn fate (fun i w' hi hm => hfate.out i w' hi ((Mv.of_below HB.out).trans hm))).mono ?_
  rintro e w3 ⟨rfl, hsp, hmv⟩
  have hs : w3.cell? ⟨w.heap.size, 0, none⟩ = some (.pointer (some ⟨p, 0, none⟩)) := (blk_cell (hmv.blk BKs.out (HS.out.far BKs.out (by decide))) 0).trans rfl
  have hc2 : w3.cell? ⟨p, 2, none⟩ = some (.map (some gm)) := (blk_cell hsp.hp 2).trans rfl
  obtain ⟨m, hm, _⟩ := hsp.hm
  have HSP := Aside0.mk hsp
  have MV := Aside0.mk ((Mv.of_below (F := foot p gl gm v) HB.out).trans hmv)
  clear HS HB BKf BKs hsp hmv hfate h
  go_wp2_with ((with_reducible refine gate_builtin (b := .clear) (xs := #[.tmp 15]) rfl ?_); refine Shut.out ?_)
  unfold Shut
  obtain ⟨w4, hrun, hm4, hpm⟩ := MapAt.clear mp_und hm
  refine wpl_value rfl (clear_exec rfl rfl hrun) ?_
  go_wp2_with fail
  go_ret
  obtain ⟨h1, h2⟩ := HSP.out.cleared hm4 hpm hB3 (by rw [setl_len]; exact hL3)
  exact ⟨rfl, h1, (MV.out.trans (h2.weaken (fun k hk => foot_none hk) (fun k hk => .inl hk))).weaken (fun _ h => h) (fun k hk => .inl (foot_none hk))⟩
set_option maxHeartbeats 8000000 in
set_option maxRecDepth 100000 in
theorem b_settle_nil {n : Nat} {caps : Array Value} : Calls Try.prog 44 #[.pointer none, .func (.func n) #[] caps] w fun e w' => e = .returned (.int .i64 1) ∧ Below w.heap.size w w' := by
  go_enter Try.func44, Try.ntmps44
  go_wp2_with fail
  go_ret
  exact ⟨rfl, below_alloc (below_alloc (Below.refl _ _) _) _⟩
set_option maxHeartbeats 8000000 in
set_option maxRecDepth 100000 in
theorem b_Sync_nil : Calls Try.prog 43 #[.pointer none] w fun e w' => e = .returned (.int .i64 1) ∧ Below w.heap.size w w' := by
  go_enter Try.func43, Try.ntmps43
  go_wp2_with fail
  refine b_settle_nil.mono ?_
  rintro e w1 ⟨rfl, hb⟩
  have HB := Aside0.mk hb
  clear hb
  go_wp2_with fail
  go_ret
  exact ⟨rfl, HB.out⟩
theorem syncc_ok : FnOk Try.prog 54 := ⟨_, Try.func54, by kernel_rfl, by kernel_rfl⟩
theorem crashc_ok : FnOk Try.prog 45 := ⟨_, Try.func45, by kernel_rfl, by kernel_rfl⟩
set_option maxHeartbeats 8000000 in
set_option maxRecDepth 100000 in
theorem b_Sync (h : SA B w p gl gm v L W) : Calls Try.prog 43 #[.pointer (some ⟨p, 0, none⟩)] w fun e w' => e = .returned (.int .i64 0) ∧ SA B w' p gl gm (.slice none 0 0) (setl (fun _ => 1) 0 W L) [] ∧ Mv (foot p gl gm v) (foot p gl gm (.slice none 0 0)) w w' := by
  have h := Aside0.mk h
  go_enter Try.func43, Try.ntmps43
  go_wp2_with fail
  refine (b_settle (n := 54) (caps := #[]) h.out syncc_ok (fun _ => 1) (fun i w' _ _ => b_Syncc i)).mono ?_
  rintro e w1 ⟨rfl, hsa, hmv⟩
  have HS := Aside0.mk hsa
  have HM := Aside0.mk hmv
  clear hsa hmv
  go_wp2_with fail
  go_ret
  exact ⟨rfl, HS.out, HM.out⟩
/-- Cells that are read are kept if their block is. -/
theorem C_mv {F F' : Nat → Prop} {A : Option Addr} {l : List Int} (h : Kd.C (Kd.int .u8) w A l.length l) (hm : Mv F F' w w') (hA : 0 < l.length → ∀ ad, A = some ad → ¬ F ad.block) : Kd.C (Kd.int .u8) w' A l.length l := by
  refine ⟨h.1, h.2.1, fun hn => ?_⟩
  obtain ⟨ad, e, hc⟩ := h.2.2 hn
  refine ⟨ad, e, fun j p hj => ?_⟩
  obtain ⟨c, h1, h2, h3⟩ := hc j p hj
  refine ⟨c, h1, h2, fun i u hu => ?_⟩
  have h4 := h3 i u hu
  have hb : (ad.add (j * (Kd.int .u8).sz + i)).block = ad.block := by unfold Addr.add; split <;> rfl
  have e := hm.block (ad.add (j * (Kd.int .u8).sz + i)).block (World.block_lt_of_cell? w _ h4) (by rw [hb]; exact hA hn ad e)
  rw [← h4]
  simp only [World.cell?, e]
set_option maxHeartbeats 8000000 in
set_option maxRecDepth 100000 in
theorem b_Crash (h : SA B w p gl gm v L W) {A : Option Addr} {c : Nat} {l : List Int} (hC : Kd.C (Kd.int .u8) w A l.length l) (hA : 0 < l.length → ∀ ad, A = some ad → ¬ foot p gl gm v ad.block) : Calls Try.prog 18 #[.pointer (some ⟨p, 0, none⟩), .slice A l.length c] w fun e w' => e = .returned (.int .i64 0) ∧ SA B w' p gl gm (.slice none 0 0) (setl (fateOf l) 0 W L) [] ∧ Mv (foot p gl gm v) (foot p gl gm (.slice none 0 0)) w w' := by
  have hb0 := below_alloc (Below.refl w.heap.size w) (.cells #[.slice A l.length c] 38)
  have hk0 := blk_new w (.cells #[.slice A l.length c] 38)
  have hs := h.below hb0
  have hc := Kd.C_below hC hb0
  have HB := Aside0.mk hb0
  clear h hC hb0
  go_enter Try.func18, Try.ntmps18
  go_wp2_with fail
  generalize w.alloc (.cells #[.slice A l.length c] 38) = w1 at hk0 hs hc HB ⊢
  refine (b_settle (n := 45) (caps := #[.pointer (some ⟨w.heap.size, 0, none⟩)]) hs crashc_ok (fateOf l) (fun i w' _ hm => b_Crashc (hm.blk hk0 (hs.far hk0 (by decide))) (C_mv hc hm hA) i)).mono ?_
  rintro e w2 ⟨rfl, hsa, hmv⟩
  have HS := Aside0.mk hsa
  have HM := Aside0.mk ((Mv.of_below (F := foot p gl gm v) HB.out).trans hmv)
  clear hsa hmv hk0 hs hc HB
  go_wp2_with fail
  go_ret
  exact ⟨rfl, HS.out, HM.out⟩
end
end Go.Proofs.Ytniadlnbjgodnaa.Print
