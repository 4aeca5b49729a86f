-- written by this session's program wip/hybrid.py over the kit's printer, and by hand. Not trusted: Lean checks it.
import Derived.Test.YtmafmbcgjeecjaaPrint0
import Derived.Test.YtmafmbcgjeecjaaPrint2
import Derived.Test.YtmafmbcgjeecjaaPrint6
import Derived.Test.YtmafmbcgjeecjaaPrint7
import Derived.Test.YtmafmbcgjeecjaaPrint8
import Derived.Test.YtmafmbcgjeecjaaPrint17
namespace Go.Proofs.Ytmafmbcgjeecjaa.Print
open Go.RowKit Go.Proofs.YtmafmbcgjeecjaaW.PrintWords Go.Proofs.YtmafmbcgjeecjaaW.PrintLast Go.Proofs.YtmafmbcgjeecjaaW.PrintMore
attribute [local go_sem] max2_int min2_int max_two min_two max_three min_three max_four min_four   -- for this text's walks alone
set_option linter.unusedVariables false
set_option linter.unusedSimpArgs false

/-! ### chart_Net: function 18 -/
def chart_Net.amts (l : List S45) (a : Int) : List Int := (l.filter (fun x => x.f0 == a)).map (·.f1)
def chart_Net.go (l : List S45) : List S57 → List S45 → Option (List S45 × Int)
  | [], acc => some (acc, 0)
  | a :: t, acc => (money_Sum.f (chart_Net.amts l a.f0)).bind fun r => if r.2 = 0 then (if r.1 = 0 then chart_Net.go l t acc else chart_Net.go l t (acc ++ [⟨a.f0, r.1⟩])) else some ([], r.2)
def chart_Net.ok (l : List S45) : Prop := ∀ x ∈ l, (chart_account_int.g ((chart_accounts.f).getD []) x.f0).f1.toList.isEmpty = false
instance (l : List S45) : Decidable (chart_Net.ok l) := by unfold chart_Net.ok; infer_instance
def chart_Net.f (l0 : List S45) : Option (List S45 × Int) := if l0.length ≤ 1000000000000 then (if chart_Net.ok l0 then chart_Net.go l0 ((chart_accounts.f).getD []) [] else some ([], 2)) else none
theorem chart_Net.amts_snoc (l : List S45) (k : Nat) (h : k < l.length) : chart_Net.amts (l.take (k + 1)) = fset (chart_Net.amts (l.take k)) (rd_T45 l (k : Int)).f0 (chart_Net.amts (l.take k) (rd_T45 l (k : Int)).f0 ++ [(rd_T45 l (k : Int)).f1]) := by
  funext b
  have e : rd_T45 l (k : Int) = l[k] := by simp [rd_T45, List.getElem?_eq_getElem h]
  rw [e]
  unfold fset chart_Net.amts
  rw [List.take_succ_eq_append_getElem h, List.filter_append, List.map_append]
  by_cases c : b = (l[k]).f0
  · subst c; simp
  · have : ((l[k]).f0 == b) = false := by rw [beq_eq_false_iff_ne]; exact fun z => c z.symm
    rw [if_neg c]
    simp [this]
theorem chart_Net.amts_len (l : List S45) (a : Int) : (chart_Net.amts l a).length ≤ l.length := by
  unfold chart_Net.amts; rw [List.length_map]; exact List.length_filter_le _ _
theorem zero_row (W : World) : (zeroValue 69).run Try.prog W = .ok (.slice none 0 0) W := by kernel_rfl
theorem info_amt : (Try.prog.info? 2).map (fun i => (i.zero, i.size, i.bytes)) = some (some (.int .i64 0), 1, 8) := by kernel_rfl
theorem chart_Net.after {w w1 w3 : World} {val : Int → Value} {xs : Int → List Int} {m : List (Int × Value)} {a n : Int} {gg cap : Nat} {o : Obj} {P : Program} {mt kt et : TypeId} (hm : P.underlying mt = some (.map kt et)) (hd : P.underlying kt = some (.int .i64))
    (hgrp : Grp w1 (w.heap.size + 1) 2 w.heap.size val xs) (HM : MapAt w1 w.heap.size m) (HV : ∀ b, (lk m b).getD (.slice none 0 0) = val b) (HB : Below w.heap.size w w1) (hsz : w.heap.size + 1 ≤ w1.heap.size)
    (hown3 : w3.ownsRow (w.heap.size + 1) 2 1 (.slice (some ⟨gg, 0, none⟩) ((xs a).length + 1) cap) ((xs a).length + 1) ((xs a).map (Value.int .i64) ++ [.int .i64 n])) (hgrow : ((w1.alloc o).drew).grownBy w3 (val a).ownBlock) (hat : (val a).ownBlock = some gg ∨ gg = w1.heap.size + 1) (hm3 : MapAt w3 w.heap.size m) :
    (∃ val', Grp (mput P mt w3 w.heap.size a (.slice (some ⟨gg, 0, none⟩) ((xs a).length + 1) cap)) (w.heap.size + 1) 2 w.heap.size val' (fset xs a (xs a ++ [n]))) ∧ Below w.heap.size w (mput P mt w3 w.heap.size a (.slice (some ⟨gg, 0, none⟩) ((xs a).length + 1) cap)) := by
  obtain ⟨_, q2, q3⟩ := hm3.update' hm hd a (.slice (some ⟨gg, 0, none⟩) ((xs a).length + 1) cap)
  refine ⟨⟨_, hgrp.put (Nat.lt_succ_self _) rfl hown3 (Near.grown (Near.drew (Near.alloc (Near.refl _ _) _)) hgrow) (hat.imp id (fun h => by omega)) q2 q3 HV⟩, ?_⟩
  refine q3.below ?_ (Nat.le_refl _)
  refine Below.grown (row := (val a).ownBlock) (below_drew (below_alloc HB _)) hgrow (by simp; omega) (fun k hk => ?_)
  have := own_base (hgrp.own a) k hk
  omega
def chart_Net.P (w : World) (r : List S45 × Int) (e : Ending) (w' : World) : Prop := ∃ v0_ : Value, e = .returned (.tuple #[v0_, .int .i64 r.2]) ∧ Kd.R k45 45 w' w.heap.size (fun _ => True) v0_ r.1 ∧ Below w.heap.size w w'
set_option maxHeartbeats 4000000 in
set_option maxRecDepth 100000 in
theorem chart_Net.walk (A0 : Option Addr) (c0 : Nat) (l0 : List S45) (r : List S45 × Int) (w : World) (hr0 : Kd.C k45 w A0 l0.length l0) (hc0 : l0.length ≤ c0) (hlen : l0.length ≤ 1000000000000)
    (hf : (if chart_Net.ok l0 then chart_Net.go l0 ((chart_accounts.f).getD []) [] else some ([], 2)) = some r) : Calls Try.prog 18 #[.slice A0 l0.length c0] w (chart_Net.P w r) := by
  have HF := Aside0.mk hf
  have HR := Aside0.mk hr0
  clear hf hr0
  have hmm := @run_makeMap Try.prog
  obtain ⟨i0, hi, hz0, hz1, hz2⟩ := info_parts info_amt
  go_enter Try.func18, Try.ntmps18
  go_wp2
  go_loopw [15] (fun i wr => ∃ k : Nat, k ≤ l0.length ∧ i = .int .i64 k ∧ Aside0 (∀ x ∈ l0.take k, (chart_account_int.g ((chart_accounts.f).getD []) x.f0).f1.toList.isEmpty = false) ∧ Aside0 (∃ val, Grp wr (w.heap.size + 1) 2 w.heap.size val (chart_Net.amts (l0.take k))) ∧ Aside0 (Below w.heap.size w wr)) (fun i _ => l0.length - (intOf i).toNat)
  case atStart =>
    exact ⟨0, Nat.zero_le _, rfl, ⟨fun x hx => by simp at hx⟩, ⟨_, Grp.made w _⟩, ⟨below_alloc (Below.refl _ _) _⟩⟩
  case round =>
    obtain ⟨k, hk, rfl, HOK, HG, HB⟩ := hrel
    by_cases hlt : k < l0.length
    · obtain ⟨ad, rfl, hx0, hx1⟩ := at_T45 HR.out (k : Int) (by omega) (by omega)
      replace hx0 := (HB.out.cell (World.block_lt_of_cell? w _ hx0)).trans hx0
      replace hx1 := (HB.out.cell (World.block_lt_of_cell? w _ hx1)).trans hx1
      rw [Int.toNat_natCast] at hx0 hx1
      have HSN := Aside0.mk (chart_Net.amts_snoc l0 k hlt)
      have HMEM : Aside0 (rd_T45 l0 (k : Int) ∈ l0) := ⟨by simp only [rd_T45, Int.toNat_natCast, List.getD_eq_getElem?_getD, List.getElem?_eq_getElem hlt]; exact List.getElem_mem hlt⟩
      have HTK : Aside0 (l0.take (k + 1) = l0.take k ++ [rd_T45 l0 (k : Int)]) := ⟨by rw [List.take_succ_eq_append_getElem hlt]; simp [rd_T45, List.getElem?_eq_getElem hlt]⟩
      generalize rd_T45 l0 (k : Int) = x at hx0 hx1 HSN HMEM HTK
      obtain ⟨nm, HN⟩ : ∃ nm, Aside0 (chart_Name.f x.f0 = some nm ∧ nm = (chart_account_int.g ((chart_accounts.f).getD []) x.f0).f1) := ⟨_, ⟨rfl, rfl⟩⟩
      by_cases hnm : nm.toList.isEmpty = true
      · have hn1 : nm.toList = [] := by simpa using hnm
        go_wp2_with (go_at_call 13; refine (chart_Name.calls _ _ _ HN.out.1).mono ?_; rintro e w1 ⟨rfl, hb⟩; have HB1 := Aside0.mk hb; clear hb)
        go_ret2
        have hno : ¬ chart_Net.ok l0 := fun hh => by have := hh x HMEM.out; rw [← HN.out.2, hnm] at this; cases this
        have hf := HF.out
        rw [if_neg hno] at hf
        obtain rfl := Option.some.inj hf
        exact ⟨.slice none 0 0, rfl, Kd.R_nil _ _ _ _ _, below_step (below_alloc HB.out _) HB1.out⟩
      · have hnm' : nm.toList.isEmpty = false := by simpa using hnm
        have hn1 : ¬ nm.toList = [] := by simpa using hnm
        clear hnm
        go_wp2_with (go_at_call 13; refine (chart_Name.calls _ _ _ HN.out.1).mono ?_; rintro e w1 ⟨rfl, hb⟩; have HB1 := Aside0.mk hb; clear hb)
        obtain ⟨val, hgrp⟩ := HG.out
        have hlt0 : w.heap.size < wr.heap.size := hgrp.map.elim fun _ q => q.1.lt
        have hbw : Below wr.heap.size wr w1 := below_step (below_alloc (Below.refl _ _) _) HB1.out
        have hgrp1 := Aside0.mk (hgrp.below hbw)
        have hblk : w1.heap[wr.heap.size]? = some (.cells #[.int .i64 x.f0, .int .i64 x.f1] 45 (0, 0)) := (HB1.out.block _ (by simp)).trans (blk_new _ _)
        obtain ⟨m, hm1, hmv⟩ := hgrp1.out.map
        have HM := Aside0.mk hm1
        have HV := Aside0.mk hmv
        have HBK := Aside0.mk hblk
        clear hgrp hbw hm1 hmv hblk
        have hne : some wr.heap.size ≠ (val x.f0).ownBlock := fun e => by
          obtain ⟨cells, hc⟩ := own_typed (hgrp1.out.own x.f0) _ e.symm
          rw [HBK.out] at hc
          simp at hc
        have key : ∀ y, Near w1 (val x.f0).ownBlock y → y.cell? ⟨wr.heap.size, 0, none⟩ = some (.int .i64 x.f0) ∧ y.cell? ⟨wr.heap.size, 1, none⟩ = some (.int .i64 x.f1) ∧ (Instr.lookup 68 (.map (some w.heap.size)) (.int .i64 x.f0) false).run Try.prog y = .ok (lookV Try.prog 68 y w.heap.size x.f0) y := fun y hy => by
          have hb : y.heap[wr.heap.size]? = _ := (hy.2 _ (blk_lt HBK.out) hne).trans HBK.out
          exact ⟨blk_cell hb 0, blk_cell hb 1, (lookV_of (hgrp1.out.keyed HM.out HV.out (Nat.lt_succ_self _) Try.underlying68 Try.underlying3 zero_row x.f0 hy)).1⟩
        have keyV : ∀ y, Near w1 (val x.f0).ownBlock y → lookV Try.prog 68 y w.heap.size x.f0 = val x.f0 := fun y hy => (lookV_of (hgrp1.out.keyed HM.out HV.out (Nat.lt_succ_self _) Try.underlying68 Try.underlying3 zero_row x.f0 hy)).2
        have keyP : ∀ y u, Near w1 (val x.f0).ownBlock y → (mput Try.prog 68 y w.heap.size x.f0 u).cell? ⟨wr.heap.size, 0, none⟩ = some (.int .i64 x.f0) ∧ (mput Try.prog 68 y w.heap.size x.f0 u).cell? ⟨wr.heap.size, 1, none⟩ = some (.int .i64 x.f1) ∧ (Instr.lookup 68 (.map (some w.heap.size)) (.int .i64 x.f0) false).run Try.prog (mput Try.prog 68 y w.heap.size x.f0 u) = .ok (lookV Try.prog 68 (mput Try.prog 68 y w.heap.size x.f0 u) w.heap.size x.f0) (mput Try.prog 68 y w.heap.size x.f0 u) := fun y u hy => by
          obtain ⟨q1, q2, q3⟩ := (Grp.near hgrp1.out HM.out (Nat.lt_succ_self _) hy).update' (P := Try.prog) (mt := 68) Try.underlying68 Try.underlying3 x.f0 u
          have hb : y.heap[wr.heap.size]? = _ := (hy.2 _ (blk_lt HBK.out) hne).trans HBK.out
          have hb' := (q3.block wr.heap.size (fun e => by have h2 := hlt0; omega)).trans hb
          exact ⟨blk_cell hb' 0, blk_cell hb' 1, q2.looked Try.underlying68 Try.underlying3 zero_row x.f0⟩
        have hlen1 : (chart_Net.amts (l0.take k) x.f0).length ≤ 1000000000000 := Nat.le_trans (chart_Net.amts_len _ _) (by rw [List.length_take]; omega)
        have hsz1 : w.heap.size + 1 ≤ w1.heap.size := by
          have h1 := HB1.out.size
          have h2 := HB.out.size
          simp at h1
          omega
        obtain ⟨k0, k1, k2⟩ := key w1 (Near.refl _ _)
        have NR := Near.refl w1 (val x.f0).ownBlock
        clear hne
        have hmu : ∀ (y : World) (u : Value), MapAt y w.heap.size m → (Instr.mapUpdate 68 (.map (some w.heap.size)) (.int .i64 x.f0) u).run Try.prog y = .ok () (mput Try.prog 68 y w.heap.size x.f0 u) := fun y u hy => (hy.update' Try.underlying68 Try.underlying3 _ _).1
        go_region_held3 (fun y => y.cell? ⟨wr.heap.size, 0, none⟩ = some (.int .i64 x.f0) ∧ y.cell? ⟨wr.heap.size, 1, none⟩ = some (.int .i64 x.f1) ∧ (Instr.lookup 68 (.map (some w.heap.size)) (.int .i64 x.f0) false).run Try.prog y = .ok (lookV Try.prog 68 y w.heap.size x.f0) y)
          (first | exact key _ NR | exact key _ (Near.drew NR) | exact key _ (Near.drew (Near.alloc NR _)) | exact key _ (Near.alloc (Near.drew NR) _) | exact key _ (Near.grown (Near.drew (Near.alloc NR _)) hgrow) | exact keyP _ _ (Near.grown (Near.drew (Near.alloc NR _)) hgrow))
          (first
            | (refine step_append_lies _ (by rfl) _ _ _ (by rfl) (w.heap.size + 1) 2 i0 _ 1 8 Try.underlying69 hi hz0 hz1 hz2 rfl (by omega) (val x.f0) _ _ (by first | exact keyV _ NR | exact keyV _ (Near.drew NR) | exact keyV _ (Near.drew (Near.alloc NR _)) | exact keyV _ (Near.alloc (Near.drew NR) _)) ((((hgrp1.out.own x.f0)).alloc _).drew) ⟨w1.heap.size, 0, none⟩ 1 1 [.int .i64 x.f1] (by rfl) (by rfl) (World.news_of_block (cs := #[.int .i64 x.f1]) (t := 2) (fr := (0, 0)) (heap_alloc_new w1 _)) (by simp [Value.oneCell']) (by omega) (by unfold maxLen; omega) (by omega) (by simp; omega) (w1.heap.size + 1) (by simp) ?_; intro gg cap w3 hown3 hgrow hat hlt3; (have hm3 := Grp.near hgrp1.out HM.out (Nat.lt_succ_self _) (Near.grown (Near.drew (Near.alloc NR _)) hgrow))))
        all_goals go_wp2
        all_goals go_roundw
        case rel =>
          have haf := chart_Net.after (P := Try.prog) (mt := 68) (kt := 3) (et := 69) Try.underlying68 Try.underlying3 hgrp1.out HM.out HV.out (below_step (below_alloc HB.out _) HB1.out) hsz1 hown3 hgrow hat hm3
          refine ⟨k + 1, by omega, by go_num, ⟨fun y hy => ?_⟩, ⟨by rw [HSN.out]; exact haf.1⟩, ⟨haf.2⟩⟩
          rw [HTK.out, List.mem_append, List.mem_singleton] at hy
          rcases hy with hy | rfl
          · exact HOK.out y hy
          · rw [← HN.out.2]; exact hnm'
        case measure => simp [intOf]; omega
        case rel =>
          have haf := chart_Net.after (P := Try.prog) (mt := 68) (kt := 3) (et := 69) Try.underlying68 Try.underlying3 hgrp1.out HM.out HV.out (below_step (below_alloc HB.out _) HB1.out) hsz1 hown3 hgrow hat hm3
          refine ⟨k + 1, by omega, by go_num, ⟨fun y hy => ?_⟩, ⟨by rw [HSN.out]; exact haf.1⟩, ⟨haf.2⟩⟩
          rw [HTK.out, List.mem_append, List.mem_singleton] at hy
          rcases hy with hy | rfl
          · exact HOK.out y hy
          · rw [← HN.out.2]; exact hnm'
        case measure => simp [intOf]; omega
    · obtain rfl : k = l0.length := by omega
      obtain ⟨W1, hW1⟩ : ∃ W, W = wr := ⟨wr, rfl⟩
      subst hW1
      rw [List.take_length] at HOK HG
      obtain ⟨val, hgrp0⟩ := HG.out
      have hgrp := Aside0.mk hgrp0
      clear HG hgrp0
      have hgo : chart_Net.go l0 ((chart_accounts.f).getD []) [] = some r := by
        have := HF.out
        rw [if_pos (show chart_Net.ok l0 from HOK.out)] at this
        exact this
      obtain ⟨l2, hl2, hlen2⟩ : ∃ l2, chart_accounts.f = some l2 ∧ l2.length ≤ 100 := ⟨_, rfl, by decide⟩
      rw [hl2] at hgo
      simp only [Option.getD_some] at hgo
      have HL := Aside0.mk hl2
      have HGO := Aside0.mk hgo
      clear hl2 hgo HF HOK HR hmm hi hz0 hz1 hz2
      go_wp2_with (go_at_call 24; refine (chart_accounts.calls _ _ HL.out).mono ?_; rintro e w2 ⟨v1, rfl, hR, hB2⟩; obtain ⟨A1, c1, rfl, hc1, hC1⟩ := Kd.R_reads hR; have HR2 := Aside0.mk hC1; have HB2 := Aside0.mk hB2; clear hR hC1 hB2)
      go_loopw [7, 37] (fun v7 i wr => ∃ (j : Nat) (acc : List S45), j ≤ l2.length ∧ i = .int .i64 j ∧ Aside0 (chart_Net.go l0 (l2.drop j) acc = some r) ∧ Aside0 (Kd.R k45 45 wr w2.heap.size (fun _ => True) v7 acc) ∧ Aside0 (Below w2.heap.size w2 wr) ∧ acc.length ≤ j) (fun _ i _ => l2.length - (intOf i).toNat)
      case atStart => exact ⟨0, [], Nat.zero_le _, rfl, ⟨HGO.out⟩, ⟨Kd.R_nil _ _ _ _ _⟩, ⟨Below.refl _ _⟩, Nat.le_refl _⟩
      case round =>
        clear HGO
        obtain ⟨j, acc, hj, rfl, HGO, HO, HB3, hal⟩ := hrel
        by_cases hlt2 : j < l2.length
        · obtain ⟨ad, rfl, hx0, hx1⟩ := at_T57 HR2.out (j : Int) (by omega) (by omega)
          replace hx0 := (HB3.out.cell (World.block_lt_of_cell? w2 _ hx0)).trans hx0
          replace hx1 := (HB3.out.cell (World.block_lt_of_cell? w2 _ hx1)).trans hx1
          rw [Int.toNat_natCast] at hx0 hx1
          have hdr : l2.drop j = rd_T57 l2 (j : Int) :: l2.drop (j + 1) := by
            rw [List.drop_eq_getElem_cons hlt2]; simp [rd_T57, List.getElem?_eq_getElem hlt2]
          have hgo2 := HGO.out
          rw [hdr] at hgo2
          clear HGO hdr
          generalize rd_T57 l2 (j : Int) = x at hx0 hx1 hgo2
          rw [chart_Net.go] at hgo2
          obtain ⟨⟨s1, s2⟩, hs, hrest⟩ := Option.bind_eq_some_iff.mp hgo2
          clear hgo2
          have HS := Aside0.mk hs
          clear hs
          have hbw : ∀ o, Below W1.heap.size W1 (wr.alloc o) := fun o => below_alloc (below_step HB2.out HB3.out) o
          have hlk : ∀ o, (Instr.lookup 68 (.map (some w.heap.size)) (.int .i64 x.f0) false).run Try.prog (wr.alloc o) = .ok (val x.f0) (wr.alloc o) := fun o => Grp.look (hgrp.out.below (hbw o)) Try.underlying68 Try.underlying3 (zero_row _) x.f0
          have hrow : ∃ A3 c3, val x.f0 = .slice A3 (chart_Net.amts l0 x.f0).length c3 ∧ (chart_Net.amts l0 x.f0).length ≤ c3 ∧ ∀ o, Kd.C (Kd.int .i64) (wr.alloc o) A3 (chart_Net.amts l0 x.f0).length (chart_Net.amts l0 x.f0) := by
            obtain ⟨A3, c3, h1, h2, h3⟩ := Kd.R_reads (Kd.R_of_own (enc := Value.int .i64) (h1 := fun _ => rfl) (ok := fun _ => True) (hgrp.out.own x.f0) (fun _ _ => trivial))
            exact ⟨A3, c3, h1, h2, fun o => Kd.C_below h3 (hbw o)⟩
          obtain ⟨A3, c3, hv3, hc3, hC3⟩ := hrow
          rw [hv3] at hlk
          have HC3 := Aside0.mk hC3
          clear hC3 hv3 hbw
          by_cases hs2 : s2 = 0
          · subst hs2
            by_cases hs1 : s1 = 0
            · subst hs1
              have HGO := Aside0.mk (show chart_Net.go l0 (l2.drop (j + 1)) acc = some r from hrest)
              clear hrest
              go_wp2_with (go_at_call 29; refine (money_Sum.calls _ _ _ _ _ _ (HC3.out _) hc3 HS.out).mono ?_; rintro e w4 ⟨rfl, hd⟩; have HB4 := Aside0.mk hd.below; clear hd)
              go_roundw
              case rel => exact ⟨j + 1, acc, by omega, by go_num, HGO, ⟨Kd.R_below (by (with_reducible repeat (first | apply Kd.R_alloc | apply Kd.R_drewN | apply Kd.R_drew)); exact HO.out) HB4.out⟩, ⟨below_step (below_alloc HB3.out _) HB4.out⟩, by omega⟩
              case measure => simp [intOf]; omega
            · have HGO := Aside0.mk (show chart_Net.go l0 (l2.drop (j + 1)) (acc ++ [⟨x.f0, s1⟩]) = some r by
                have h := hrest
                dsimp only at h
                rw [if_pos rfl, if_neg hs1] at h
                exact h)
              clear hrest
              have hs1b : (s1 == 0) = false := by simpa using hs1
              go_wp2_with (first | (go_at_call 29; refine (money_Sum.calls _ _ _ _ _ _ (HC3.out _) hc3 HS.out).mono ?_; rintro e w4 ⟨rfl, hd⟩; have HB4 := Aside0.mk hd.below; clear hd; have HO4 := Aside0.mk (Kd.R_below (by (with_reducible repeat (first | apply Kd.R_alloc | apply Kd.R_drewN | apply Kd.R_drew)); exact HO.out) HB4.out); have HBB := Aside0.mk (below_step (below_alloc HB3.out _) HB4.out); have hcx := blk_cell ((HB4.out.block _ (by simp)).trans (blk_new _ _)) 0) | ((with_reducible refine gate_builtin (b := .append) (xs := #[.tmp 56, .tmp 61]) rfl ?_); at_builtin; refine Kd.R_append k45 (w0 := w2) w2.heap.size rfl (.tmp 56) (.tmp 61) 25 45 (.agg #[(.int .i64 0), (.int .i64 0)]) 16 rfl Try.underlying25 info45 rfl (by decide) (by omega) u7 acc (⟨x.f0, s1⟩ : S45) [.int .i64 x.f0, .int .i64 s1] (fun _ => True) (fun _ => False) rfl (by first | (go_simp; done) | (go_simp; rfl)) ?aP (fun _ hk => hk.elim) ?aF ?aO ?aB ?aS ?aL ?_; (case aP => exact k45_mkM _ _ _ (⟨x.f0, s1⟩ : S45)); (case aB => exact (by repeat (first | (with_reducible first | exact HBB.out | apply below_alloc | apply pw_below_drewN | apply below_drew1) | exact HBB.out))); (case aF => exact (fun _ _ => trivial)); (case aO => exact (by (with_reducible repeat (first | apply Kd.R_alloc | apply Kd.R_drewN | apply Kd.R_drew)); exact HO4.out)); (case aS => exact (below_size (by repeat (first | (with_reducible first | exact HBB.out | apply below_alloc | apply pw_below_drewN | apply below_drew1) | exact HBB.out)))); (case aL => omega); intro v8 w8 ho hb hg hat; have HO8 := Aside0.mk ho; have HB8 := Aside0.mk hb; clear ho hb hg hat))
              go_roundw
              case rel => exact ⟨j + 1, acc ++ [⟨x.f0, s1⟩], by omega, by go_num, HGO, HO8, HB8, by simp; omega⟩
              case measure => simp [intOf]; omega
          · have hr : r = ([], s2) := by
              dsimp only at hrest
              rw [if_neg hs2] at hrest
              exact (Option.some.inj hrest).symm
            clear hrest
            subst hr
            have hs2b : (s2 == 0) = false := by simpa using hs2
            go_wp2_with (go_at_call 29; refine (money_Sum.calls _ _ _ _ _ _ (HC3.out _) hc3 HS.out).mono ?_; rintro e w4 ⟨rfl, hd⟩; have HB4 := Aside0.mk hd.below; clear hd)
            go_ret2
            exact ⟨.slice none 0 0, rfl, Kd.R_nil _ _ _ _ _, below_step (below_alloc (below_step (below_step HB.out HB2.out) HB3.out) _) HB4.out⟩
        · obtain rfl : j = l2.length := by omega
          have hg := HGO.out
          rw [List.drop_length, chart_Net.go] at hg
          obtain rfl := Option.some.inj hg
          clear HGO hg
          go_wp2
          go_ret2
          have hBB := below_step HB.out HB2.out
          exact ⟨u7, rfl, Kd.R_lower HO.out hBB.size, below_step hBB HB3.out⟩
theorem chart_Net.calls (A0 : Option Addr) (c0 : Nat) (l0 : List (S45)) (r1 : List (S45)) (r2 : Int) (w : World) (hr0 : Kd.C k45 w A0 l0.length l0) (hc0 : l0.length ≤ c0) (h : chart_Net.f l0 = some (r1, r2)) :
    Calls Try.prog 18 #[.slice A0 l0.length c0] w fun e w' => ∃ v0_ : Value, e = .returned (.tuple #[v0_, .int .i64 r2]) ∧ Kd.R k45 45 w' w.heap.size (fun _ => True) v0_ r1 ∧ Below w.heap.size w w' := by
  have hlen : l0.length ≤ 1000000000000 := by
    apply Classical.byContradiction
    intro c
    unfold chart_Net.f at h
    rw [if_neg c] at h
    cases h
  unfold chart_Net.f at h
  rw [if_pos hlen] at h
  exact chart_Net.walk _ _ _ _ w hr0 hc0 hlen h


end Go.Proofs.Ytmafmbcgjeecjaa.Print
