-- written by this session's program wip/hybrid.py over the kit's printer, and by hand. Not trusted: Lean checks it.
import Derived.Test.YtepgponpnijonaaPrint0
import Derived.Test.YtepgponpnijonaaPrint2
import Derived.Test.YtepgponpnijonaaPrint10
import Derived.Test.YtepgponpnijonaaPrint12
import Derived.Test.YtepgponpnijonaaPrint13
import Derived.Test.YtepgponpnijonaaPrint14
import Derived.Test.YtepgponpnijonaaPrint15
import Derived.Test.YtepgponpnijonaaPrint19
namespace Go.Proofs.Ytepgponpnijonaa.Print
open Go.RowKit Go.Proofs.YtepgponpnijonaaW.PrintWords Go.Proofs.YtepgponpnijonaaW.PrintLast Go.Proofs.YtepgponpnijonaaW.PrintMore
attribute [local go_sem] max2_int min2_int max_two min_two max_three min_three max_four min_four   -- for this text's walks alone
set_option linter.unusedVariables false
set_option linter.unusedSimpArgs false

/-! ### lombardlaw18_BatchBack: function 5 -/
def lombardlaw18_BatchBack.rest (k : Nat) (x : List Int) : Option Bool := (batch_Get.f k x).bind fun y => if y.2.2.2 = 0 then ((batch_Put.f k y.1 y.2.1 y.2.2.1).bind fun z => if z.2 = 0 then ((lombardref18_Bytes.f k z.1 x).bind fun t => if t = true then some true else none) else none) else if y.2.2.1.length = 0 then some true else none
def lombardlaw18_BatchBack.f (k : Nat) (a0_0 a0_1 : Int) (l0_2 : List S59) (x : List Int) (a2 : Int) : Option Bool :=
  (lombardlaw18_alive.f k).bind fun al => if al = true then (if 300 < l0_2.length ∨ 3000 < x.length then some true else
    (lombardlaw18_To.f k a0_0 a0_1 l0_2).bind fun b => (batch_Put.f k b.1 b.2.1 b.2.2).bind fun p => if p.2 = 0 then
      (if 0 < p.1.length ∧ p.1.length < 100000 ∧ 0 ≤ a2 ∧ a2 < 65536 then (batch_Get.f k p.1).bind fun c => (batch_Get.f k (p.1.take (a2 % (p.1.length : Int)).toNat)).bind fun le => (batch_Get.f k (p.1 ++ [a2 % 256])).bind fun mo =>
        if c.2.2.2 = 0 then ((lombardlaw18_From.f k c.1 c.2.1 c.2.2.1).bind fun d => (lombardref18_Same.f k d.1 d.2.1 d.2.2 a0_0 a0_1 l0_2).bind fun s => if s = true ∧ (le.2.2.2 = 14 ∨ le.2.2.2 = 6) ∧ mo.2.2.2 = 6 then lombardlaw18_BatchBack.rest k x else none) else none else none)
      else lombardlaw18_BatchBack.rest k x) else none
theorem lombardlaw18_BatchBack.rest_mono (x : List Int) (k : Nat) : LeO (lombardlaw18_BatchBack.rest k x) (lombardlaw18_BatchBack.rest (k + 1) x) := by
  intro r h
  unfold lombardlaw18_BatchBack.rest at h ⊢
  obtain ⟨y, hy, h⟩ := Option.bind_eq_some_iff.mp h
  rw [batch_Get.mono _ _ y hy, Option.bind_some]
  by_cases c : y.2.2.2 = 0
  · rw [if_pos c] at h ⊢
    obtain ⟨z, hz, h⟩ := Option.bind_eq_some_iff.mp h
    rw [batch_Put.mono _ _ _ _ z hz, Option.bind_some]
    by_cases d : z.2 = 0
    · rw [if_pos d] at h ⊢
      obtain ⟨t, ht, h⟩ := Option.bind_eq_some_iff.mp h
      rw [lombardref18_Bytes.mono _ _ _ t ht, Option.bind_some]
      exact h
    · rw [if_neg d] at h; cases h
  · rw [if_neg c] at h ⊢; exact h
theorem lombardlaw18_BatchBack.mono : ∀ a0 a1 l x a2 k, LeO (lombardlaw18_BatchBack.f k a0 a1 l x a2) (lombardlaw18_BatchBack.f (k + 1) a0 a1 l x a2) := by
  intro a0 a1 l x a2 k r h
  unfold lombardlaw18_BatchBack.f at h ⊢
  obtain ⟨al, hal, h⟩ := Option.bind_eq_some_iff.mp h
  rw [lombardlaw18_alive.mono _ al hal, Option.bind_some]
  by_cases c0 : al = true
  · rw [if_pos c0] at h ⊢
    by_cases c1 : 300 < l.length ∨ 3000 < x.length
    · rw [if_pos c1] at h ⊢; exact h
    · rw [if_neg c1] at h ⊢
      obtain ⟨b, hb, h⟩ := Option.bind_eq_some_iff.mp h
      rw [lombardlaw18_To.mono _ _ _ _ b hb, Option.bind_some]
      obtain ⟨p, hp, h⟩ := Option.bind_eq_some_iff.mp h
      rw [batch_Put.mono _ _ _ _ p hp, Option.bind_some]
      by_cases c2 : p.2 = 0
      · rw [if_pos c2] at h ⊢
        by_cases c3 : 0 < p.1.length ∧ p.1.length < 100000 ∧ 0 ≤ a2 ∧ a2 < 65536
        · rw [if_pos c3] at h ⊢
          obtain ⟨c, hc, h⟩ := Option.bind_eq_some_iff.mp h
          rw [batch_Get.mono _ _ c hc, Option.bind_some]
          obtain ⟨le, hle, h⟩ := Option.bind_eq_some_iff.mp h
          rw [batch_Get.mono _ _ le hle, Option.bind_some]
          obtain ⟨mo, hmo, h⟩ := Option.bind_eq_some_iff.mp h
          rw [batch_Get.mono _ _ mo hmo, Option.bind_some]
          by_cases c4 : c.2.2.2 = 0
          · rw [if_pos c4] at h ⊢
            obtain ⟨d, hd, h⟩ := Option.bind_eq_some_iff.mp h
            rw [lombardlaw18_From.mono _ _ _ _ d hd, Option.bind_some]
            obtain ⟨s, hs, h⟩ := Option.bind_eq_some_iff.mp h
            rw [lombardref18_Same.mono _ _ _ _ _ _ _ s hs, Option.bind_some]
            by_cases c5 : s = true ∧ (le.2.2.2 = 14 ∨ le.2.2.2 = 6) ∧ mo.2.2.2 = 6
            · rw [if_pos c5] at h ⊢
              exact lombardlaw18_BatchBack.rest_mono x k r h
            · rw [if_neg c5] at h; cases h
          · rw [if_neg c4] at h; cases h
        · rw [if_neg c3] at h; cases h
      · rw [if_neg c2] at h ⊢
        exact lombardlaw18_BatchBack.rest_mono x k r h
  · rw [if_neg c0] at h; cases h
set_option maxHeartbeats 4000000 in
set_option maxRecDepth 100000 in
theorem lombardlaw18_BatchBack.wA (k : Nat) (a0 a1 : Int) (A : Option Addr) (c : Nat) (l : List S59) (A1 : Option Addr) (c1 : Nat) (x : List Int) (a2 : Int) (w : World) (hal : lombardlaw18_alive.f k = some true) (h : 300 < l.length ∨ 3000 < x.length) :
    Calls Try.prog 5 #[.agg #[.int .i64 a0, .int .i64 a1, .slice A l.length c], .slice A1 x.length c1, .int .u16 a2] w fun e w' => e = .returned (.bool true) ∧ Below w.heap.size w w' := by
  have HAL := Aside0.mk hal
  clear hal
  have hnew : ∀ o, (w.alloc o).heap[w.heap.size]? = some o := fun o => heap_alloc_new w o
  by_cases hx : 300 < l.length
  · go_enter Try.func5, Try.ntmps5
    go_wp2_with (go_at_call 9; refine (lombardlaw18_alive.calls k true _ HAL.out).mono ?_; rintro e w1 ⟨rfl, hB⟩; have HB1 := Aside0.mk hB; have hcl := blk_cell ((hB.block w.heap.size (by simp)).trans (hnew _)) 2; clear hB)
    go_ret
    exact ⟨rfl, below_step (below_alloc (Below.refl _ _) _) HB1.out⟩
  · have hy : 3000 < x.length := by omega
    clear h
    go_enter Try.func5, Try.ntmps5
    go_wp2_with (go_at_call 9; refine (lombardlaw18_alive.calls k true _ HAL.out).mono ?_; rintro e w1 ⟨rfl, hB⟩; have HB1 := Aside0.mk hB; have hcl := blk_cell ((hB.block w.heap.size (by simp)).trans (hnew _)) 2; clear hB)
    go_ret
    exact ⟨rfl, below_step (below_alloc (Below.refl _ _) _) HB1.out⟩
theorem lombardlaw18_BatchBack.store_rowTo {P : Program} {ops : Array Oper} {rest : List Oper} {o : Oper} {a : Act} {w : World} {Q : Exit → Act → World → Prop} (hgd : o.guard = none) (ty : TypeId) (x y : Operand) (ho : o.op = .store ty x y)
    (hd : o.dst = none) (g : Nat) (cells : Array Value) (hx : a.eval x = .pointer (some ⟨g, 0, none⟩)) (hy : a.eval y = .agg cells)
    (t : TypeId) (old : Array Value) (hg : w.heap[g]? = some (.cells old t (0, 0))) (hi : (P.info? ty).map (·.size) = some cells.size) (hold : old.size = cells.size) (h1 : cells.all (·.oneCell') = true)
    (h : wpList P ops Q rest a (w.setRow g cells)) : wpList P ops Q (o :: rest) a w :=
  wpList_store_row hgd ty x y ho g cells hx hy t old hg hi hold h1 (by rw [hd]; exact h)
theorem lombardlaw18_BatchBack.newrow (y : World) (Z cells : Array Value) (t : TypeId) : Below y.heap.size y ((y.alloc (.cells Z t)).setRow y.heap.size cells) ∧ ((y.alloc (.cells Z t)).setRow y.heap.size cells).heap[y.heap.size]? = some (.cells cells t (0, 0)) := by
  rw [World.setRow_alloc_new]
  exact ⟨below_alloc (Below.refl _ _) _, blk_new y _⟩
theorem lombardlaw18_BatchBack.all3 (a b : Int) (A : Option Addr) (n c : Nat) : (#[Value.int .i64 a, .int .i64 b, .slice A n c] : Array Value).all (·.oneCell') = true := by kernel_rfl
set_option maxHeartbeats 16000000 in
set_option maxRecDepth 100000 in
theorem lombardlaw18_BatchBack.walk (k : Nat) (a0 a1 : Int) (A : Option Addr) (c : Nat) (l : List S59) (A1 : Option Addr) (c1 : Nat) (x : List Int) (a2 : Int) (w : World) (hr : Kd.C k59 w A l.length l) (hc : l.length ≤ c) (hr1 : Kd.C (Kd.int .u8) w A1 x.length x) (hc1 : x.length ≤ c1)
    (hal : Aside0 (lombardlaw18_alive.f k = some true)) (h0 : (l.length : Int) ≤ 300) (h1 : (x.length : Int) ≤ 3000) {b1 b2 : Int} {b3 : List S53} (hTo : Aside0 (lombardlaw18_To.f k a0 a1 l = some (b1, b2, b3))) {p : List Int} {pe : Int} (hPut : Aside0 (batch_Put.f k b1 b2 b3 = some (p, pe)))
    (hF : Aside0 (pe = 0 → 0 < p.length ∧ p.length < 100000 ∧ 0 ≤ a2 ∧ a2 < 65536 ∧ ∃ e1 e2 e3 f1 f2 f3 le m1 m2 m3 d1 d2 d3, batch_Get.f k p = some (e1, e2, e3, 0) ∧ batch_Get.f k (p.take (a2 % (p.length : Int)).toNat) = some (f1, f2, f3, le) ∧ batch_Get.f k (p ++ [a2 % 256]) = some (m1, m2, m3, 6) ∧ lombardlaw18_From.f k e1 e2 e3 = some (d1, d2, d3) ∧ lombardref18_Same.f k d1 d2 d3 a0 a1 l = some true ∧ (le = 14 ∨ le = 6)))
    {y1 y2 : Int} {y3 : List S53} {ye : Int} (hY : Aside0 (batch_Get.f k x = some (y1, y2, y3, ye))) (hZ : Aside0 (ye = 0 → ∃ z, batch_Put.f k y1 y2 y3 = some (z, 0) ∧ lombardref18_Bytes.f k z x = some true)) (hE : Aside0 (ye ≠ 0 → y3.length = 0)) :
    Calls Try.prog 5 #[.agg #[.int .i64 a0, .int .i64 a1, .slice A l.length c], .slice A1 x.length c1, .int .u16 a2] w fun e w' => e = .returned (.bool true) ∧ Below w.heap.size w w' := by
  have HR0 := Aside0.mk hr
  have HX0 := Aside0.mk hr1
  have hxl := hr1.2.1
  have HB := Aside0.mk (below_alloc (Below.refl w.heap.size w) (.cells #[.int .i64 a0, .int .i64 a1, .slice A l.length c] 24))
  have BK3 := Aside0.mk (blk_new w (.cells #[.int .i64 a0, .int .i64 a1, .slice A l.length c] 24))
  clear hr hr1
  go_enter Try.func5, Try.ntmps5
  go_wp2_with fail
  generalize w.alloc (.cells #[.int .i64 a0, .int .i64 a1, .slice A l.length c] 24) = w0 at HB BK3 ⊢
  with_reducible refine (lombardlaw18_alive.calls k true _ hal.out).mono ?_
  rintro e w1 ⟨rfl, hb⟩
  have HB1 := Aside0.mk (below_step HB.out hb)
  have BK31 := Aside0.mk (blk_below BK3.out hb)
  clear HB BK3 hb w0
  have hk0 : w1.cell? ⟨w.heap.size, 0, none⟩ = some (.int .i64 a0) := (blk_cell BK31.out 0).trans rfl
  have hk1 : w1.cell? ⟨w.heap.size, 1, none⟩ = some (.int .i64 a1) := (blk_cell BK31.out 1).trans rfl
  have hk2 : w1.cell? ⟨w.heap.size, 2, none⟩ = some (.slice A l.length c) := (blk_cell BK31.out 2).trans rfl
  go_wp2_with fail
  refine (lombardlaw18_To.calls k a0 a1 A c l b1 b2 b3 w1 (Kd.C_below HR0.out HB1.out) hc hTo.out).mono ?_
  rintro e w2 ⟨vb, rfl, hRb, hb⟩
  have HB2 := Aside0.mk (below_step HB1.out hb)
  have BK32 := Aside0.mk (blk_below BK31.out hb)
  obtain ⟨Ab, cb, rfl, hcb, hCb⟩ := Kd.R_reads hRb
  clear HB1 BK31 hb hk0 hk1 hk2 hRb
  go_wp2_with fail
  refine (batch_Put.calls k b1 b2 Ab cb b3 p pe w2 hCb hcb hPut.out).mono ?_
  rintro e w3 ⟨vp, rfl, hRp, hb⟩
  have HB := Aside0.mk (below_step HB2.out hb)
  have BK3 := Aside0.mk (blk_below BK32.out hb)
  obtain ⟨Ap, cp, rfl, hcp, hCp⟩ := Kd.R_reads hRp
  replace hCp := Aside0.mk hCp
  clear HB2 BK32 hb hRp hCb hcb
  by_cases hpe : pe = 0
  case neg =>
    have hb1 : (pe == 0) = false := by simpa using hpe
    go_wp2_with fail
    refine (batch_Get.calls k A1 c1 x y1 y2 y3 ye w3 (Kd.C_below HX0.out HB.out) hc1 hY.out).mono ?_
    rintro e v1 ⟨vy, rfl, hRy, hb⟩
    have HBy := Aside0.mk (below_step HB.out hb)
    obtain ⟨Ay, cy, rfl, hcy, hCy⟩ := Kd.R_reads hRy
    clear hb hRy HB
    go_wp2_with ((with_reducible refine gate_store (t := 32) (p := 15) (v := .tmp 89) rfl ?_); refine Shut.out ?_)
    unfold Shut
    obtain ⟨hnb, hnk⟩ := lombardlaw18_BatchBack.newrow v1 #[.int .i64 0, .int .i64 0, .slice none 0 0] #[.int .i64 y1, .int .i64 y2, .slice Ay y3.length cy] 32
    refine lombardlaw18_BatchBack.store_rowTo rfl 32 (.tmp 15) (.tmp 89) rfl rfl v1.heap.size #[.int .i64 y1, .int .i64 y2, .slice Ay y3.length cy] rfl rfl 32 _ (blk_new v1 _) (by kernel_rfl) rfl (lombardlaw18_BatchBack.all3 _ _ _ _ _) ?_
    have HBz := Aside0.mk (below_step HBy.out hnb)
    have CY := Aside0.mk (Kd.C_below hCy hnb)
    have BKy := Aside0.mk hnk
    clear HBy hCy hnb hnk
    generalize (v1.alloc (.cells #[.int .i64 0, .int .i64 0, .slice none 0 0] 32)).setRow v1.heap.size #[.int .i64 y1, .int .i64 y2, .slice Ay y3.length cy] = v2 at HBz CY BKy ⊢
    generalize v1.heap.size = g15 at BKy ⊢
    have hk0 : v2.cell? ⟨g15, 0, none⟩ = some (.int .i64 y1) := (blk_cell BKy.out 0).trans rfl
    have hk1 : v2.cell? ⟨g15, 1, none⟩ = some (.int .i64 y2) := (blk_cell BKy.out 1).trans rfl
    have hk2 : v2.cell? ⟨g15, 2, none⟩ = some (.slice Ay y3.length cy) := (blk_cell BKy.out 2).trans rfl
    by_cases hye : ye = 0
    case neg =>
      have hb1 : (ye == 0) = false := by simpa using hye
      have hb2 : (ye != 0) = true := by simpa using hye
      have hl0 := hE.out hye
      go_wp2_with fail
      go_ret
      exact ⟨rfl, HBz.out⟩
    obtain ⟨z, hz, hbt⟩ := hZ.out hye
    subst hye
    replace hz := Aside0.mk hz
    replace hbt := Aside0.mk hbt
    go_wp2_with fail
    refine (batch_Put.calls k y1 y2 Ay cy y3 z 0 v2 CY.out hcy hz.out).mono ?_
    rintro e v3 ⟨vz, rfl, hRz, hb⟩
    have HB3 := Aside0.mk (below_step HBz.out hb)
    obtain ⟨Az, cz, rfl, hcz, hCz⟩ := Kd.R_reads hRz
    clear hb HBz BKy hRz hk0 hk1 hk2
    go_wp2_with fail
    refine (lombardref18_Bytes.calls k Az cz z A1 c1 x true v3 hCz hcz (Kd.C_below HX0.out HB3.out) hc1 hbt.out).mono ?_
    rintro e v4 ⟨rfl, hd⟩
    have HB4 := Aside0.mk (below_step HB3.out hd.below)
    clear hd HB3
    go_wp2_with fail
    go_ret
    exact ⟨rfl, HB4.out⟩
  obtain ⟨hp0, hp1, ha0, ha1, e1, e2, e3, f1, f2, f3, le, m1, m2, m3, d1, d2, d3, hG1, hG2, hG3, hFr, hSa, hle⟩ := hF.out hpe
  subst hpe
  replace hG1 := Aside0.mk hG1
  replace hG2 := Aside0.mk hG2
  replace hG3 := Aside0.mk hG3
  replace hFr := Aside0.mk hFr
  replace hSa := Aside0.mk hSa
  obtain ⟨mn, hmn⟩ : ∃ mn : Nat, a2 % (p.length : Int) = (mn : Int) := ⟨(a2 % (p.length : Int)).toNat, by have := Int.emod_nonneg a2 (show (p.length : Int) ≠ 0 by omega); omega⟩
  have hml : mn < p.length := by have := Int.emod_lt_of_pos a2 (show (0 : Int) < p.length by omega); omega
  have htm : a2.tmod (p.length : Int) = (mn : Int) := by rw [Int.tmod_eq_emod_of_nonneg ha0, hmn]
  rw [hmn, Int.toNat_natCast] at hG2
  clear hF
  go_wp2_with fail
  refine (batch_Get.calls k Ap cp p e1 e2 e3 0 w3 hCp.out hcp hG1.out).mono ?_
  rintro e w4 ⟨ve, rfl, hRe, hb⟩
  have HB4 := Aside0.mk (below_step HB.out hb)
  have BK34 := Aside0.mk (blk_below BK3.out hb)
  have CP4 := Aside0.mk (Kd.C_below hCp.out hb)
  obtain ⟨Ae, ce, rfl, hce, hCe⟩ := Kd.R_reads hRe
  clear hb hRe HB BK3 hCp
  go_wp2_with ((with_reducible refine gate_store (t := 32) (p := 9) (v := .tmp 41) rfl ?_); refine Shut.out ?_)
  unfold Shut
  obtain ⟨hnb, hnk⟩ := lombardlaw18_BatchBack.newrow w4 #[.int .i64 0, .int .i64 0, .slice none 0 0] #[.int .i64 e1, .int .i64 e2, .slice Ae e3.length ce] 32
  refine lombardlaw18_BatchBack.store_rowTo rfl 32 (.tmp 9) (.tmp 41) rfl rfl w4.heap.size #[.int .i64 e1, .int .i64 e2, .slice Ae e3.length ce] rfl rfl 32 _ (blk_new w4 _) (by kernel_rfl) rfl (lombardlaw18_BatchBack.all3 _ _ _ _ _) ?_
  have HB5 := Aside0.mk (below_step HB4.out hnb)
  have BK35 := Aside0.mk (blk_below BK34.out hnb)
  have CP5 := Aside0.mk (Kd.C_below CP4.out hnb)
  have CE5 := Aside0.mk (Kd.C_below hCe hnb)
  have BK95 := Aside0.mk hnk
  clear HB4 BK34 CP4 hCe hnb hnk
  generalize (w4.alloc (.cells #[.int .i64 0, .int .i64 0, .slice none 0 0] 32)).setRow w4.heap.size #[.int .i64 e1, .int .i64 e2, .slice Ae e3.length ce] = w5 at HB5 BK35 CP5 CE5 BK95 ⊢
  generalize w4.heap.size = g9 at BK95 ⊢
  have hinf : (Try.prog.info? 5).map (fun i => (i.zero, i.size, i.bytes)) = some (some (.int .u8 0), 1, 1) := by kernel_rfl
  obtain ⟨i0, hi0, _, _, _⟩ := info_parts hinf
  have hcut := cut_to (P := Try.prog) 25 5 .i64 Try.underlying25 hi0 Ap p.length cp (mn : Int) (by omega) (by omega) hcp
  rw [Int.toNat_natCast] at hcut
  have htl : (p.take mn).length = mn := by rw [List.length_take]; omega
  replace hcut : ∀ W, (Instr.slice 25 (.slice Ap p.length cp) none (some (.int .i64 (mn : Int))) none).run Try.prog W = .ok (.slice Ap (p.take mn).length cp) W := fun W => by rw [htl]; exact hcut W
  have hCt : Kd.C (Kd.int .u8) w5 Ap (p.take mn).length (p.take mn) := Kd.C_take CP5.out (by omega)
  obtain ⟨pt, hpt⟩ : ∃ pt, pt = p.take mn := ⟨_, rfl⟩
  rw [← hpt] at hcut htl hCt hG2
  clear hpt
  have CT := Aside0.mk hCt
  have hptc : pt.length ≤ cp := by omega
  clear hCt htl
  have hpne : (p.length : Int) ≠ 0 := by omega
  have ha1' : a2 ≤ 65535 := by omega
  have hw : wrap64 a2 = a2 := by unfold wrap64; omega
  go_wp2_with fail
  refine (batch_Get.calls k Ap cp pt f1 f2 f3 le w5 CT.out hptc hG2.out).mono ?_
  rintro e w6 ⟨vf, rfl, hRf, hb⟩
  have HB6 := Aside0.mk (below_step HB5.out hb)
  have BK36 := Aside0.mk (blk_below BK35.out hb)
  have CP6 := Aside0.mk (Kd.C_below CP5.out hb)
  have CE6 := Aside0.mk (Kd.C_below CE5.out hb)
  have BK96 := Aside0.mk (blk_below BK95.out hb)
  obtain ⟨Af, cf, rfl, hcf, _⟩ := Kd.R_reads hRf
  clear hb hRf HB5 BK35 CP5 CE5 BK95 CT
  go_wp2_with ((with_reducible refine gate_store (t := 32) (p := 11) (v := .tmp 52) rfl ?_); refine Shut.out ?_)
  unfold Shut
  obtain ⟨hnb, hnk⟩ := lombardlaw18_BatchBack.newrow w6 #[.int .i64 0, .int .i64 0, .slice none 0 0] #[.int .i64 f1, .int .i64 f2, .slice Af f3.length cf] 32
  refine lombardlaw18_BatchBack.store_rowTo rfl 32 (.tmp 11) (.tmp 52) rfl rfl w6.heap.size #[.int .i64 f1, .int .i64 f2, .slice Af f3.length cf] rfl rfl 32 _ (blk_new w6 _) (by kernel_rfl) rfl (lombardlaw18_BatchBack.all3 _ _ _ _ _) ?_
  have HB7 := Aside0.mk (below_step HB6.out hnb)
  have BK37 := Aside0.mk (blk_below BK36.out hnb)
  have CP7 := Aside0.mk (Kd.C_below CP6.out hnb)
  have CE7 := Aside0.mk (Kd.C_below CE6.out hnb)
  have BK97 := Aside0.mk (blk_below BK96.out hnb)
  clear HB6 BK36 CP6 CE6 BK96 hnb hnk
  generalize (w6.alloc (.cells #[.int .i64 0, .int .i64 0, .slice none 0 0] 32)).setRow w6.heap.size #[.int .i64 f1, .int .i64 f2, .slice Af f3.length cf] = w7 at HB7 BK37 CP7 CE7 BK97 ⊢
  generalize w6.heap.size = g11 at ⊢
  go_wp2_with ((with_reducible refine gate_builtin (b := .append) (xs := #[.tmp 55, .tmp 56]) rfl ?_); refine Shut.out ?_)
  unfold Shut
  have hb8 := below_alloc (Below.refl w7.heap.size w7) (.cells #[] 5)
  have hk8 := blk_new w7 (.cells #[] 5)
  have hg8 : w.heap.size ≤ w7.heap.size := HB7.out.size
  have HB8 := Aside0.mk (below_step HB7.out hb8)
  have CP8 := Aside0.mk (Kd.C_below CP7.out hb8)
  have R8 : Aside0 (Kd.R (Kd.int .u8) 5 (w7.alloc (.cells #[] 5)) w.heap.size (fun _ => True) (.slice (some ⟨w7.heap.size, 0, none⟩) 0 0) []) := ⟨R_blk (inner := []) (xs := ([] : List Int)) hk8 hg8 (fun ok => Reps.none _ _) (by simp)⟩
  generalize w7.alloc (.cells #[] 5) = w8 at hb8 hk8 HB8 CP8 R8 ⊢
  refine Kd.R_append_rows (Kd.int .u8) (w0 := w) w.heap.size rfl (.tmp 55) (.tmp 56) 25 5 (.int .u8 0) 1 rfl Try.underlying25 hinf rfl (by decide) (by omega) (.slice (some ⟨w7.heap.size, 0, none⟩) 0 0) [] p Ap p.length cp (fun _ => True) (fun _ => False) rfl rfl ?aO ?aR (fun _ _ h => h) (fun _ h => h.elim) ?aF ?aB ?aS ?aL ?_
  case aO => exact R8.out
  case aR => exact CP8.out
  case aF => exact fun _ _ => trivial
  case aB => exact HB8.out
  case aS => exact HB8.out.size
  case aL => simp only [List.length_nil]; omega
  intro v9 w9 ho hb hg hat
  have H79 : Below w7.heap.size w7 w9 := ⟨hg.os.trans hb8.os, hg.tape.trans hb8.tape, hg.output.trans hb8.output, Nat.le_trans hb8.size hg.size, fun q hq => (hg.block q (Nat.lt_of_lt_of_le hq hb8.size) (fun e => by have e' : some q = some w7.heap.size := e; injection e' with e'; omega)).trans (hb8.block q hq)⟩
  have hv9 : ∀ q, v9.ownBlock = some q → w7.heap.size ≤ q := fun q hq => hat.elim (fun e => by have e' : some q = some w7.heap.size := hq.symm.trans e; injection e' with e'; omega) (fun ⟨b, h2, h3⟩ => by rw [hq] at h2; injection h2 with h2; have := hb8.size; omega)
  rw [List.nil_append] at ho
  have R9 := Aside0.mk ho
  have HB9 := Aside0.mk hb
  have H79 := Aside0.mk H79
  have hv9 := Aside0.mk hv9
  clear ho hb hg hat R8 CP8 HB8 hk8 hb8
  go_wp2_with ((with_reducible refine gate_builtin (b := .append) (xs := #[.tmp 57, .tmp 60]) rfl ?_); refine Shut.out ?_)
  unfold Shut
  refine Kd.R_append (Kd.int .u8) (w0 := w) w.heap.size rfl (.tmp 57) (.tmp 60) 25 5 (.int .u8 0) 1 rfl Try.underlying25 hinf rfl (by decide) (by omega) v9 p (a2 % 256) [.int .u8 (a2 % 256)] (fun _ => True) (fun _ => False) rfl rfl ?bP (fun _ hk => hk.elim) ?bF ?bO ?bB ?bS ?bL ?_
  case bP => rfl
  case bB => exact HB9.out
  case bF => exact fun _ _ => trivial
  case bO => exact R9.out
  case bS => exact HB9.out.size
  case bL => omega
  intro v10 w10 ho hb hg hat
  have H710 := Aside0.mk (H79.out.trans (show Below w7.heap.size w9 w10 from ⟨hg.os, hg.tape, hg.output, hg.size, fun q hq => hg.block q (Nat.lt_of_lt_of_le hq H79.out.size) (fun e => by have := hv9.out q e.symm; omega)⟩))
  have HBa := Aside0.mk (below_step HB7.out H710.out)
  have BK3a := Aside0.mk (blk_below BK37.out H710.out)
  have CEa := Aside0.mk (Kd.C_below CE7.out H710.out)
  have BK9a := Aside0.mk (blk_below BK97.out H710.out)
  obtain ⟨As, cs, hvs, hcs, hCs⟩ := Kd.R_reads ho
  subst hvs
  obtain ⟨ps, hps⟩ : ∃ ps, ps = p ++ [a2 % 256] := ⟨_, rfl⟩
  rw [← hps] at hcs hCs hG3 ⊢
  clear ho hb hg hat hps HB7 BK37 CP7 CE7 BK97 H79 H710 hv9 R9 HB9
  go_wp2_with fail
  refine (batch_Get.calls k As cs ps m1 m2 m3 6 w10 hCs hcs hG3.out).mono ?_
  rintro e w11 ⟨vm, rfl, hRm, hb⟩
  have HBb := Aside0.mk (below_step HBa.out hb)
  have BK3b := Aside0.mk (blk_below BK3a.out hb)
  have CEb := Aside0.mk (Kd.C_below CEa.out hb)
  have BK9b := Aside0.mk (blk_below BK9a.out hb)
  obtain ⟨Am, cm, rfl, hcm, _⟩ := Kd.R_reads hRm
  clear hb hRm HBa BK3a CEa BK9a hCs hcs
  go_wp2_with ((with_reducible refine gate_store (t := 32) (p := 13) (v := .tmp 63) rfl ?_); refine Shut.out ?_)
  unfold Shut
  obtain ⟨hnb, hnk⟩ := lombardlaw18_BatchBack.newrow w11 #[.int .i64 0, .int .i64 0, .slice none 0 0] #[.int .i64 m1, .int .i64 m2, .slice Am m3.length cm] 32
  refine lombardlaw18_BatchBack.store_rowTo rfl 32 (.tmp 13) (.tmp 63) rfl rfl w11.heap.size #[.int .i64 m1, .int .i64 m2, .slice Am m3.length cm] rfl rfl 32 _ (blk_new w11 _) (by kernel_rfl) rfl (lombardlaw18_BatchBack.all3 _ _ _ _ _) ?_
  have HB := Aside0.mk (below_step HBb.out hnb)
  have BK3 := Aside0.mk (blk_below BK3b.out hnb)
  have CE := Aside0.mk (Kd.C_below CEb.out hnb)
  have BK9 := Aside0.mk (blk_below BK9b.out hnb)
  clear HBb BK3b CEb BK9b hnb hnk
  generalize (w11.alloc (.cells #[.int .i64 0, .int .i64 0, .slice none 0 0] 32)).setRow w11.heap.size #[.int .i64 m1, .int .i64 m2, .slice Am m3.length cm] = w12 at HB BK3 CE BK9 ⊢
  generalize w11.heap.size = g13 at ⊢
  clear hG1 hG2 hG3 hcut hmn htm hpne ha1 ha1' hw hml hinf hi0 hp0 hp1 ha0 hcp hptc hcf hcm
  rcases hle with rfl | rfl
  · go_wp2_with fail
    have n_HB := Aside0.mk (below_step HB.out (below_drew (Below.refl _ _)))
    have n_BK3 := Aside0.mk (blk_below BK3.out (below_drew (Below.refl _ _)))
    have n_BK9 := Aside0.mk (blk_below BK9.out (below_drew (Below.refl _ _)))
    have n_CE := Aside0.mk (Kd.C_below CE.out (below_drew (Below.refl _ _)))
    clear HB
    have HB := n_HB
    clear n_HB
    clear BK3
    have BK3 := n_BK3
    clear n_BK3
    clear BK9
    have BK9 := n_BK9
    clear n_BK9
    clear CE
    have CE := n_CE
    clear n_CE
    refine start_ (n := 21) (S := fun w' => w'.cell? ⟨g9, 0, none⟩ = some (.int .i64 e1) ∧ w'.cell? ⟨g9, 1, none⟩ = some (.int .i64 e2) ∧ w'.cell? ⟨g9, 2, none⟩ = some (.slice Ae e3.length ce) ∧ w'.cell? ⟨w.heap.size, 0, none⟩ = some (.int .i64 a0) ∧ w'.cell? ⟨w.heap.size, 1, none⟩ = some (.int .i64 a1) ∧ w'.cell? ⟨w.heap.size, 2, none⟩ = some (.slice A l.length c)) (ds := []) #[false, false, false, false, false, false, false, false, false, false, false, false, false, false, false, false, false, false, false, false, false] (by kernel_rfl) rfl rfl ⟨(blk_cell BK9.out 0).trans rfl, (blk_cell BK9.out 1).trans rfl, (blk_cell BK9.out 2).trans rfl, (blk_cell BK3.out 0).trans rfl, (blk_cell BK3.out 1).trans rfl, (blk_cell BK3.out 2).trans rfl⟩ (fun hHeld => ?_)
    generalize w12.drew = w13 at HB BK3 BK9 CE hHeld ⊢
    refine pure_ (i := 0) (N := some 65) (v := ?_) (a' := ?_) #[true, false, false, false, false, false, false, false, false, false, false, false, false, false, false, false, false, false, false, false, false] rfl rfl (by kernel_rfl) (fun _ _ _ h => h) (Or.inl ⟨by rfl, ?_⟩) ?_ ?_
    rotate_left
    · intro w'
      go_simp
      with_reducible rfl
    rotate_left
    · simp only [Act.put, List.setIfInBounds_toArray, List.set_cons_zero, List.set_cons_succ, i64_w, i32_w]
      rfl
    refine pure_ (i := 1) (N := some 66) (v := ?_) (a' := ?_) #[true, true, false, false, false, false, false, false, false, false, false, false, false, false, false, false, false, false, false, false, false] rfl rfl (by kernel_rfl) (fun _ _ _ h => h) (Or.inl ⟨by rfl, ?_⟩) ?_ ?_
    rotate_left
    · intro w'
      go_simp
      with_reducible rfl
    rotate_left
    · simp only [Act.put, List.setIfInBounds_toArray, List.set_cons_zero, List.set_cons_succ, i64_w, i32_w]
      rfl
    refine pure_ (i := 2) (N := some 67) (v := ?_) (a' := ?_) #[true, true, true, false, false, false, false, false, false, false, false, false, false, false, false, false, false, false, false, false, false] rfl rfl (by kernel_rfl) (fun _ _ _ h => h) (Or.inl ⟨by rfl, ?_⟩) ?_ ?_
    rotate_left
    · intro w'
      go_simp
      with_reducible rfl
    rotate_left
    · simp only [Act.put, List.setIfInBounds_toArray, List.set_cons_zero, List.set_cons_succ, i64_w, i32_w]
      rfl
    refine take_ (i := 3) (N := some 68) (v := ?_) (a' := ?_) #[true, true, true, true, false, false, false, false, false, false, false, false, false, false, false, false, false, false, false, false, false] rfl rfl (by kernel_rfl) (fun _ _ _ h => h) (Or.inl ⟨by rfl, ?_⟩) hHeld ?_ ?_
    rotate_left
    · rintro w' ⟨s0, s1, s2, s3, s4, s5⟩
      go_simp
      with_reducible rfl
    rotate_left
    · simp only [Act.put, List.setIfInBounds_toArray, List.set_cons_zero, List.set_cons_succ, i64_w, i32_w]
      rfl
    refine take_ (i := 5) (N := some 70) (v := ?_) (a' := ?_) #[true, true, true, true, false, true, false, false, false, false, false, false, false, false, false, false, false, false, false, false, false] rfl rfl (by kernel_rfl) (fun _ _ _ h => h) (Or.inl ⟨by rfl, ?_⟩) hHeld ?_ ?_
    rotate_left
    · rintro w' ⟨s0, s1, s2, s3, s4, s5⟩
      go_simp
      with_reducible rfl
    rotate_left
    · simp only [Act.put, List.setIfInBounds_toArray, List.set_cons_zero, List.set_cons_succ, i64_w, i32_w]
      rfl
    refine one_ (i := 4) (N := some 69) #[true, true, true, true, true, true, false, false, false, false, false, false, false, false, false, false, false, false, false, false, false] rfl rfl (by kernel_rfl) (by decide) (fun K hK => ?_)
    refine goes_ Try.func21 (by kernel_rfl) rfl #[.agg #[.int .i64 e1, .int .i64 e2, .slice Ae e3.length ce]] (by rfl) rfl rfl (by (try simp only [List.map_toArray, List.map_cons, List.map_nil]); first | done | rfl) ?_
    with_reducible refine (lombardlaw18_From.calls k e1 e2 Ae ce e3 d1 d2 d3 _ CE.out hce hFr.out).mono ?_
    rintro e y1_ ⟨v_, rfl, ho, hb⟩
    refine ⟨_, rfl, ?_⟩
    have m_RD := Aside0.mk (Kd.R_lower ho (below_size HB.out))
    have n_HB := Aside0.mk (below_step HB.out hb)
    have n_BK3 := Aside0.mk (blk_below BK3.out hb)
    have n_BK9 := Aside0.mk (blk_below BK9.out hb)
    have n_CE := Aside0.mk (Kd.C_below CE.out hb)
    clear HB
    have HB := n_HB
    clear n_HB
    clear BK3
    have BK3 := n_BK3
    clear n_BK3
    clear BK9
    have BK9 := n_BK9
    clear n_BK9
    clear CE
    have CE := n_CE
    clear n_CE
    clear hb
    have RD := m_RD
    clear m_RD
    clear ho
    obtain ⟨Ad, cd, eo⟩ := Kd.R_slice RD.out
    subst eo
    refine hK.out _ _ ⟨(blk_cell BK9.out 0).trans rfl, (blk_cell BK9.out 1).trans rfl, (blk_cell BK9.out 2).trans rfl, (blk_cell BK3.out 0).trans rfl, (blk_cell BK3.out 1).trans rfl, (blk_cell BK3.out 2).trans rfl⟩ (fun hHeld => ?_)
    clear hK K
    refine norm_ (a' := ?_) ?_ ?_
    rotate_left
    · show Act.put _ (some 69) _ = _
      simp only [Act.put, List.setIfInBounds_toArray, List.set_cons_zero, List.set_cons_succ, i64_w, i32_w]
      rfl
    refine one_ (i := 6) (N := some 71) #[true, true, true, true, true, true, true, false, false, false, false, false, false, false, false, false, false, false, false, false, false] rfl rfl (by kernel_rfl) (by decide) (fun K hK => ?_)
    refine goes_ Try.func20 (by kernel_rfl) rfl #[.agg #[.int .i64 d1, .int .i64 d2, .slice Ad d3.length cd], .agg #[.int .i64 a0, .int .i64 a1, .slice A l.length c]] (by rfl) rfl rfl (by (try simp only [List.map_toArray, List.map_cons, List.map_nil]); first | done | rfl) ?_
    with_reducible refine (lombardref18_Same.calls k d1 d2 Ad cd d3 a0 a1 A c l true _ (Kd.R_reads' RD.out).2.2 (Kd.R_reads' RD.out).2.1 (Kd.C_below HR0.out HB.out) hc hSa.out).mono ?_
    rintro e y2_ ⟨rfl, hb⟩
    refine ⟨_, rfl, ?_⟩
    have n_HB := Aside0.mk (below_step HB.out hb)
    have n_BK3 := Aside0.mk (blk_below BK3.out hb)
    have n_BK9 := Aside0.mk (blk_below BK9.out hb)
    have n_CE := Aside0.mk (Kd.C_below CE.out hb)
    clear HB
    have HB := n_HB
    clear n_HB
    clear BK3
    have BK3 := n_BK3
    clear n_BK3
    clear BK9
    have BK9 := n_BK9
    clear n_BK9
    clear CE
    have CE := n_CE
    clear n_CE
    clear hb
    clear RD
    refine hK.out _ _ ⟨(blk_cell BK9.out 0).trans rfl, (blk_cell BK9.out 1).trans rfl, (blk_cell BK9.out 2).trans rfl, (blk_cell BK3.out 0).trans rfl, (blk_cell BK3.out 1).trans rfl, (blk_cell BK3.out 2).trans rfl⟩ (fun hHeld => ?_)
    clear hK K
    refine norm_ (a' := ?_) ?_ ?_
    rotate_left
    · show Act.put _ (some 71) _ = _
      simp only [Act.put, List.setIfInBounds_toArray, List.set_cons_zero, List.set_cons_succ, i64_w, i32_w]
      rfl
    refine pure_ (i := 7) (N := some 72) (v := ?_) (a' := ?_) #[true, true, true, true, true, true, true, true, false, false, false, false, false, false, false, false, false, false, false, false, false] rfl rfl (by kernel_rfl) (fun _ _ _ h => h) (Or.inl ⟨by rfl, ?_⟩) ?_ ?_
    rotate_left
    · intro w'
      go_simp
      with_reducible rfl
    rotate_left
    · simp only [Act.put, List.setIfInBounds_toArray, List.set_cons_zero, List.set_cons_succ, i64_w, i32_w]
      rfl
    refine pure_ (i := 8) (N := some 73) (v := ?_) (a' := ?_) #[true, true, true, true, true, true, true, true, true, false, false, false, false, false, false, false, false, false, false, false, false] rfl rfl (by kernel_rfl) (fun _ _ _ h => h) (Or.inl ⟨by rfl, ?_⟩) ?_ ?_
    rotate_left
    · intro w'
      go_simp
      with_reducible rfl
    rotate_left
    · simp only [Act.put, List.setIfInBounds_toArray, List.set_cons_zero, List.set_cons_succ, i64_w, i32_w]
      rfl
    refine pure_ (i := 9) (N := some 74) (v := ?_) (a' := ?_) #[true, true, true, true, true, true, true, true, true, true, false, false, false, false, false, false, false, false, false, false, false] rfl rfl (by kernel_rfl) (fun _ _ _ h => h) (Or.inl ⟨by rfl, ?_⟩) ?_ ?_
    rotate_left
    · intro w'
      go_simp
      with_reducible rfl
    rotate_left
    · simp only [Act.put, List.setIfInBounds_toArray, List.set_cons_zero, List.set_cons_succ, i64_w, i32_w]
      rfl
    refine pure_ (i := 10) (N := some 75) (v := ?_) (a' := ?_) #[true, true, true, true, true, true, true, true, true, true, true, false, false, false, false, false, false, false, false, false, false] rfl rfl (by kernel_rfl) (fun _ _ _ h => h) (Or.inl ⟨by rfl, ?_⟩) ?_ ?_
    rotate_left
    · intro w'
      go_simp
      with_reducible rfl
    rotate_left
    · simp only [Act.put, List.setIfInBounds_toArray, List.set_cons_zero, List.set_cons_succ, i64_w, i32_w]
      rfl
    refine pure_ (i := 11) (N := some 76) (v := ?_) (a' := ?_) #[true, true, true, true, true, true, true, true, true, true, true, true, false, false, false, false, false, false, false, false, false] rfl rfl (by kernel_rfl) (fun _ _ _ h => h) (Or.inl ⟨by rfl, ?_⟩) ?_ ?_
    rotate_left
    · intro w'
      go_simp
      with_reducible rfl
    rotate_left
    · simp only [Act.put, List.setIfInBounds_toArray, List.set_cons_zero, List.set_cons_succ, i64_w, i32_w]
      rfl
    refine pure_ (i := 12) (N := some 77) (v := ?_) (a' := ?_) #[true, true, true, true, true, true, true, true, true, true, true, true, true, false, false, false, false, false, false, false, false] rfl rfl (by kernel_rfl) (fun _ _ _ h => h) (Or.inl ⟨by rfl, ?_⟩) ?_ ?_
    rotate_left
    · intro w'
      go_simp
      with_reducible rfl
    rotate_left
    · simp only [Act.put, List.setIfInBounds_toArray, List.set_cons_zero, List.set_cons_succ, i64_w, i32_w]
      rfl
    refine pure_ (i := 13) (N := some 78) (v := undef) (a' := ?_) #[true, true, true, true, true, true, true, true, true, true, true, true, true, true, false, false, false, false, false, false, false] rfl rfl (by kernel_rfl) (fun _ _ _ h => h) (Or.inr ⟨by rfl, rfl⟩) ?_ ?_
    rotate_left
    · simp only [Act.put, List.setIfInBounds_toArray, List.set_cons_zero, List.set_cons_succ, i64_w, i32_w]
      rfl
    refine pure_ (i := 14) (N := some 79) (v := undef) (a' := ?_) #[true, true, true, true, true, true, true, true, true, true, true, true, true, true, true, false, false, false, false, false, false] rfl rfl (by kernel_rfl) (fun _ _ _ h => h) (Or.inr ⟨by rfl, rfl⟩) ?_ ?_
    rotate_left
    · simp only [Act.put, List.setIfInBounds_toArray, List.set_cons_zero, List.set_cons_succ, i64_w, i32_w]
      rfl
    refine pure_ (i := 15) (N := some 80) (v := ?_) (a' := ?_) #[true, true, true, true, true, true, true, true, true, true, true, true, true, true, true, true, false, false, false, false, false] rfl rfl (by kernel_rfl) (fun _ _ _ h => h) (Or.inl ⟨by rfl, ?_⟩) ?_ ?_
    rotate_left
    · intro w'
      go_simp
      with_reducible rfl
    rotate_left
    · simp only [Act.put, List.setIfInBounds_toArray, List.set_cons_zero, List.set_cons_succ, i64_w, i32_w]
      rfl
    refine pure_ (i := 16) (N := some 81) (v := ?_) (a' := ?_) #[true, true, true, true, true, true, true, true, true, true, true, true, true, true, true, true, true, false, false, false, false] rfl rfl (by kernel_rfl) (fun _ _ _ h => h) (Or.inl ⟨by rfl, ?_⟩) ?_ ?_
    rotate_left
    · intro w'
      go_simp
      with_reducible rfl
    rotate_left
    · simp only [Act.put, List.setIfInBounds_toArray, List.set_cons_zero, List.set_cons_succ, i64_w, i32_w]
      rfl
    refine pure_ (i := 17) (N := some 82) (v := ?_) (a' := ?_) #[true, true, true, true, true, true, true, true, true, true, true, true, true, true, true, true, true, true, false, false, false] rfl rfl (by kernel_rfl) (fun _ _ _ h => h) (Or.inl ⟨by rfl, ?_⟩) ?_ ?_
    rotate_left
    · intro w'
      go_simp
      with_reducible rfl
    rotate_left
    · simp only [Act.put, List.setIfInBounds_toArray, List.set_cons_zero, List.set_cons_succ, i64_w, i32_w]
      rfl
    refine pure_ (i := 18) (N := some 83) (v := ?_) (a' := ?_) #[true, true, true, true, true, true, true, true, true, true, true, true, true, true, true, true, true, true, true, false, false] rfl rfl (by kernel_rfl) (fun _ _ _ h => h) (Or.inl ⟨by rfl, ?_⟩) ?_ ?_
    rotate_left
    · intro w'
      go_simp
      with_reducible rfl
    rotate_left
    · simp only [Act.put, List.setIfInBounds_toArray, List.set_cons_zero, List.set_cons_succ, i64_w, i32_w]
      rfl
    refine pure_ (i := 19) (N := some 84) (v := ?_) (a' := ?_) #[true, true, true, true, true, true, true, true, true, true, true, true, true, true, true, true, true, true, true, true, false] rfl rfl (by kernel_rfl) (fun _ _ _ h => h) (Or.inl ⟨by rfl, ?_⟩) ?_ ?_
    rotate_left
    · intro w'
      go_simp
      with_reducible rfl
    rotate_left
    · simp only [Act.put, List.setIfInBounds_toArray, List.set_cons_zero, List.set_cons_succ, i64_w, i32_w]
      rfl
    refine pure_ (i := 20) (N := some 85) (v := ?_) (a' := ?_) #[true, true, true, true, true, true, true, true, true, true, true, true, true, true, true, true, true, true, true, true, true] rfl rfl (by kernel_rfl) (fun _ _ _ h => h) (Or.inl ⟨by rfl, ?_⟩) ?_ ?_
    rotate_left
    · intro w'
      go_simp
      with_reducible rfl
    rotate_left
    · simp only [Act.put, List.setIfInBounds_toArray, List.set_cons_zero, List.set_cons_succ, i64_w, i32_w]
      rfl
    refine done_ (by kernel_rfl) ?_
    clear hHeld
    go_wp2_with fail
    refine (batch_Get.calls k A1 c1 x y1 y2 y3 ye _ (Kd.C_below HX0.out HB.out) hc1 hY.out).mono ?_
    rintro e v1 ⟨vy, rfl, hRy, hb⟩
    have HBy := Aside0.mk (below_step HB.out hb)
    obtain ⟨Ay, cy, rfl, hcy, hCy⟩ := Kd.R_reads hRy
    clear hb hRy HB
    go_wp2_with ((with_reducible refine gate_store (t := 32) (p := 15) (v := .tmp 89) rfl ?_); refine Shut.out ?_)
    unfold Shut
    obtain ⟨hnb, hnk⟩ := lombardlaw18_BatchBack.newrow v1 #[.int .i64 0, .int .i64 0, .slice none 0 0] #[.int .i64 y1, .int .i64 y2, .slice Ay y3.length cy] 32
    refine lombardlaw18_BatchBack.store_rowTo rfl 32 (.tmp 15) (.tmp 89) rfl rfl v1.heap.size #[.int .i64 y1, .int .i64 y2, .slice Ay y3.length cy] rfl rfl 32 _ (blk_new v1 _) (by kernel_rfl) rfl (lombardlaw18_BatchBack.all3 _ _ _ _ _) ?_
    have HBz := Aside0.mk (below_step HBy.out hnb)
    have CY := Aside0.mk (Kd.C_below hCy hnb)
    have BKy := Aside0.mk hnk
    clear HBy hCy hnb hnk
    generalize (v1.alloc (.cells #[.int .i64 0, .int .i64 0, .slice none 0 0] 32)).setRow v1.heap.size #[.int .i64 y1, .int .i64 y2, .slice Ay y3.length cy] = v2 at HBz CY BKy ⊢
    generalize v1.heap.size = g15 at BKy ⊢
    have hk0 : v2.cell? ⟨g15, 0, none⟩ = some (.int .i64 y1) := (blk_cell BKy.out 0).trans rfl
    have hk1 : v2.cell? ⟨g15, 1, none⟩ = some (.int .i64 y2) := (blk_cell BKy.out 1).trans rfl
    have hk2 : v2.cell? ⟨g15, 2, none⟩ = some (.slice Ay y3.length cy) := (blk_cell BKy.out 2).trans rfl
    by_cases hye : ye = 0
    case neg =>
      have hb1 : (ye == 0) = false := by simpa using hye
      have hb2 : (ye != 0) = true := by simpa using hye
      have hl0 := hE.out hye
      go_wp2_with fail
      go_ret
      exact ⟨rfl, HBz.out⟩
    obtain ⟨z, hz, hbt⟩ := hZ.out hye
    subst hye
    replace hz := Aside0.mk hz
    replace hbt := Aside0.mk hbt
    go_wp2_with fail
    refine (batch_Put.calls k y1 y2 Ay cy y3 z 0 v2 CY.out hcy hz.out).mono ?_
    rintro e v3 ⟨vz, rfl, hRz, hb⟩
    have HB3 := Aside0.mk (below_step HBz.out hb)
    obtain ⟨Az, cz, rfl, hcz, hCz⟩ := Kd.R_reads hRz
    clear hb HBz BKy hRz hk0 hk1 hk2
    go_wp2_with fail
    refine (lombardref18_Bytes.calls k Az cz z A1 c1 x true v3 hCz hcz (Kd.C_below HX0.out HB3.out) hc1 hbt.out).mono ?_
    rintro e v4 ⟨rfl, hd⟩
    have HB4 := Aside0.mk (below_step HB3.out hd.below)
    clear hd HB3
    go_wp2_with fail
    go_ret
    exact ⟨rfl, HB4.out⟩
  · go_wp2_with fail
    have n_HB := Aside0.mk (below_step HB.out (below_drew (Below.refl _ _)))
    have n_BK3 := Aside0.mk (blk_below BK3.out (below_drew (Below.refl _ _)))
    have n_BK9 := Aside0.mk (blk_below BK9.out (below_drew (Below.refl _ _)))
    have n_CE := Aside0.mk (Kd.C_below CE.out (below_drew (Below.refl _ _)))
    clear HB
    have HB := n_HB
    clear n_HB
    clear BK3
    have BK3 := n_BK3
    clear n_BK3
    clear BK9
    have BK9 := n_BK9
    clear n_BK9
    clear CE
    have CE := n_CE
    clear n_CE
    refine start_ (n := 21) (S := fun w' => w'.cell? ⟨g9, 0, none⟩ = some (.int .i64 e1) ∧ w'.cell? ⟨g9, 1, none⟩ = some (.int .i64 e2) ∧ w'.cell? ⟨g9, 2, none⟩ = some (.slice Ae e3.length ce) ∧ w'.cell? ⟨w.heap.size, 0, none⟩ = some (.int .i64 a0) ∧ w'.cell? ⟨w.heap.size, 1, none⟩ = some (.int .i64 a1) ∧ w'.cell? ⟨w.heap.size, 2, none⟩ = some (.slice A l.length c)) (ds := []) #[false, false, false, false, false, false, false, false, false, false, false, false, false, false, false, false, false, false, false, false, false] (by kernel_rfl) rfl rfl ⟨(blk_cell BK9.out 0).trans rfl, (blk_cell BK9.out 1).trans rfl, (blk_cell BK9.out 2).trans rfl, (blk_cell BK3.out 0).trans rfl, (blk_cell BK3.out 1).trans rfl, (blk_cell BK3.out 2).trans rfl⟩ (fun hHeld => ?_)
    generalize w12.drew = w13 at HB BK3 BK9 CE hHeld ⊢
    refine pure_ (i := 0) (N := some 65) (v := ?_) (a' := ?_) #[true, false, false, false, false, false, false, false, false, false, false, false, false, false, false, false, false, false, false, false, false] rfl rfl (by kernel_rfl) (fun _ _ _ h => h) (Or.inl ⟨by rfl, ?_⟩) ?_ ?_
    rotate_left
    · intro w'
      go_simp
      with_reducible rfl
    rotate_left
    · simp only [Act.put, List.setIfInBounds_toArray, List.set_cons_zero, List.set_cons_succ, i64_w, i32_w]
      rfl
    refine pure_ (i := 1) (N := some 66) (v := ?_) (a' := ?_) #[true, true, false, false, false, false, false, false, false, false, false, false, false, false, false, false, false, false, false, false, false] rfl rfl (by kernel_rfl) (fun _ _ _ h => h) (Or.inl ⟨by rfl, ?_⟩) ?_ ?_
    rotate_left
    · intro w'
      go_simp
      with_reducible rfl
    rotate_left
    · simp only [Act.put, List.setIfInBounds_toArray, List.set_cons_zero, List.set_cons_succ, i64_w, i32_w]
      rfl
    refine pure_ (i := 2) (N := some 67) (v := ?_) (a' := ?_) #[true, true, true, false, false, false, false, false, false, false, false, false, false, false, false, false, false, false, false, false, false] rfl rfl (by kernel_rfl) (fun _ _ _ h => h) (Or.inl ⟨by rfl, ?_⟩) ?_ ?_
    rotate_left
    · intro w'
      go_simp
      with_reducible rfl
    rotate_left
    · simp only [Act.put, List.setIfInBounds_toArray, List.set_cons_zero, List.set_cons_succ, i64_w, i32_w]
      rfl
    refine take_ (i := 3) (N := some 68) (v := ?_) (a' := ?_) #[true, true, true, true, false, false, false, false, false, false, false, false, false, false, false, false, false, false, false, false, false] rfl rfl (by kernel_rfl) (fun _ _ _ h => h) (Or.inl ⟨by rfl, ?_⟩) hHeld ?_ ?_
    rotate_left
    · rintro w' ⟨s0, s1, s2, s3, s4, s5⟩
      go_simp
      with_reducible rfl
    rotate_left
    · simp only [Act.put, List.setIfInBounds_toArray, List.set_cons_zero, List.set_cons_succ, i64_w, i32_w]
      rfl
    refine take_ (i := 5) (N := some 70) (v := ?_) (a' := ?_) #[true, true, true, true, false, true, false, false, false, false, false, false, false, false, false, false, false, false, false, false, false] rfl rfl (by kernel_rfl) (fun _ _ _ h => h) (Or.inl ⟨by rfl, ?_⟩) hHeld ?_ ?_
    rotate_left
    · rintro w' ⟨s0, s1, s2, s3, s4, s5⟩
      go_simp
      with_reducible rfl
    rotate_left
    · simp only [Act.put, List.setIfInBounds_toArray, List.set_cons_zero, List.set_cons_succ, i64_w, i32_w]
      rfl
    refine one_ (i := 4) (N := some 69) #[true, true, true, true, true, true, false, false, false, false, false, false, false, false, false, false, false, false, false, false, false] rfl rfl (by kernel_rfl) (by decide) (fun K hK => ?_)
    refine goes_ Try.func21 (by kernel_rfl) rfl #[.agg #[.int .i64 e1, .int .i64 e2, .slice Ae e3.length ce]] (by rfl) rfl rfl (by (try simp only [List.map_toArray, List.map_cons, List.map_nil]); first | done | rfl) ?_
    with_reducible refine (lombardlaw18_From.calls k e1 e2 Ae ce e3 d1 d2 d3 _ CE.out hce hFr.out).mono ?_
    rintro e y3_ ⟨v_, rfl, ho, hb⟩
    refine ⟨_, rfl, ?_⟩
    have m_RD := Aside0.mk (Kd.R_lower ho (below_size HB.out))
    have n_HB := Aside0.mk (below_step HB.out hb)
    have n_BK3 := Aside0.mk (blk_below BK3.out hb)
    have n_BK9 := Aside0.mk (blk_below BK9.out hb)
    have n_CE := Aside0.mk (Kd.C_below CE.out hb)
    clear HB
    have HB := n_HB
    clear n_HB
    clear BK3
    have BK3 := n_BK3
    clear n_BK3
    clear BK9
    have BK9 := n_BK9
    clear n_BK9
    clear CE
    have CE := n_CE
    clear n_CE
    clear hb
    have RD := m_RD
    clear m_RD
    clear ho
    obtain ⟨Ad, cd, eo⟩ := Kd.R_slice RD.out
    subst eo
    refine hK.out _ _ ⟨(blk_cell BK9.out 0).trans rfl, (blk_cell BK9.out 1).trans rfl, (blk_cell BK9.out 2).trans rfl, (blk_cell BK3.out 0).trans rfl, (blk_cell BK3.out 1).trans rfl, (blk_cell BK3.out 2).trans rfl⟩ (fun hHeld => ?_)
    clear hK K
    refine norm_ (a' := ?_) ?_ ?_
    rotate_left
    · show Act.put _ (some 69) _ = _
      simp only [Act.put, List.setIfInBounds_toArray, List.set_cons_zero, List.set_cons_succ, i64_w, i32_w]
      rfl
    refine one_ (i := 6) (N := some 71) #[true, true, true, true, true, true, true, false, false, false, false, false, false, false, false, false, false, false, false, false, false] rfl rfl (by kernel_rfl) (by decide) (fun K hK => ?_)
    refine goes_ Try.func20 (by kernel_rfl) rfl #[.agg #[.int .i64 d1, .int .i64 d2, .slice Ad d3.length cd], .agg #[.int .i64 a0, .int .i64 a1, .slice A l.length c]] (by rfl) rfl rfl (by (try simp only [List.map_toArray, List.map_cons, List.map_nil]); first | done | rfl) ?_
    with_reducible refine (lombardref18_Same.calls k d1 d2 Ad cd d3 a0 a1 A c l true _ (Kd.R_reads' RD.out).2.2 (Kd.R_reads' RD.out).2.1 (Kd.C_below HR0.out HB.out) hc hSa.out).mono ?_
    rintro e y4_ ⟨rfl, hb⟩
    refine ⟨_, rfl, ?_⟩
    have n_HB := Aside0.mk (below_step HB.out hb)
    have n_BK3 := Aside0.mk (blk_below BK3.out hb)
    have n_BK9 := Aside0.mk (blk_below BK9.out hb)
    have n_CE := Aside0.mk (Kd.C_below CE.out hb)
    clear HB
    have HB := n_HB
    clear n_HB
    clear BK3
    have BK3 := n_BK3
    clear n_BK3
    clear BK9
    have BK9 := n_BK9
    clear n_BK9
    clear CE
    have CE := n_CE
    clear n_CE
    clear hb
    clear RD
    refine hK.out _ _ ⟨(blk_cell BK9.out 0).trans rfl, (blk_cell BK9.out 1).trans rfl, (blk_cell BK9.out 2).trans rfl, (blk_cell BK3.out 0).trans rfl, (blk_cell BK3.out 1).trans rfl, (blk_cell BK3.out 2).trans rfl⟩ (fun hHeld => ?_)
    clear hK K
    refine norm_ (a' := ?_) ?_ ?_
    rotate_left
    · show Act.put _ (some 71) _ = _
      simp only [Act.put, List.setIfInBounds_toArray, List.set_cons_zero, List.set_cons_succ, i64_w, i32_w]
      rfl
    refine pure_ (i := 7) (N := some 72) (v := ?_) (a' := ?_) #[true, true, true, true, true, true, true, true, false, false, false, false, false, false, false, false, false, false, false, false, false] rfl rfl (by kernel_rfl) (fun _ _ _ h => h) (Or.inl ⟨by rfl, ?_⟩) ?_ ?_
    rotate_left
    · intro w'
      go_simp
      with_reducible rfl
    rotate_left
    · simp only [Act.put, List.setIfInBounds_toArray, List.set_cons_zero, List.set_cons_succ, i64_w, i32_w]
      rfl
    refine pure_ (i := 8) (N := some 73) (v := ?_) (a' := ?_) #[true, true, true, true, true, true, true, true, true, false, false, false, false, false, false, false, false, false, false, false, false] rfl rfl (by kernel_rfl) (fun _ _ _ h => h) (Or.inl ⟨by rfl, ?_⟩) ?_ ?_
    rotate_left
    · intro w'
      go_simp
      with_reducible rfl
    rotate_left
    · simp only [Act.put, List.setIfInBounds_toArray, List.set_cons_zero, List.set_cons_succ, i64_w, i32_w]
      rfl
    refine pure_ (i := 9) (N := some 74) (v := ?_) (a' := ?_) #[true, true, true, true, true, true, true, true, true, true, false, false, false, false, false, false, false, false, false, false, false] rfl rfl (by kernel_rfl) (fun _ _ _ h => h) (Or.inl ⟨by rfl, ?_⟩) ?_ ?_
    rotate_left
    · intro w'
      go_simp
      with_reducible rfl
    rotate_left
    · simp only [Act.put, List.setIfInBounds_toArray, List.set_cons_zero, List.set_cons_succ, i64_w, i32_w]
      rfl
    refine pure_ (i := 10) (N := some 75) (v := ?_) (a' := ?_) #[true, true, true, true, true, true, true, true, true, true, true, false, false, false, false, false, false, false, false, false, false] rfl rfl (by kernel_rfl) (fun _ _ _ h => h) (Or.inl ⟨by rfl, ?_⟩) ?_ ?_
    rotate_left
    · intro w'
      go_simp
      with_reducible rfl
    rotate_left
    · simp only [Act.put, List.setIfInBounds_toArray, List.set_cons_zero, List.set_cons_succ, i64_w, i32_w]
      rfl
    refine pure_ (i := 11) (N := some 76) (v := ?_) (a' := ?_) #[true, true, true, true, true, true, true, true, true, true, true, true, false, false, false, false, false, false, false, false, false] rfl rfl (by kernel_rfl) (fun _ _ _ h => h) (Or.inl ⟨by rfl, ?_⟩) ?_ ?_
    rotate_left
    · intro w'
      go_simp
      with_reducible rfl
    rotate_left
    · simp only [Act.put, List.setIfInBounds_toArray, List.set_cons_zero, List.set_cons_succ, i64_w, i32_w]
      rfl
    refine pure_ (i := 12) (N := some 77) (v := ?_) (a' := ?_) #[true, true, true, true, true, true, true, true, true, true, true, true, true, false, false, false, false, false, false, false, false] rfl rfl (by kernel_rfl) (fun _ _ _ h => h) (Or.inl ⟨by rfl, ?_⟩) ?_ ?_
    rotate_left
    · intro w'
      go_simp
      with_reducible rfl
    rotate_left
    · simp only [Act.put, List.setIfInBounds_toArray, List.set_cons_zero, List.set_cons_succ, i64_w, i32_w]
      rfl
    refine pure_ (i := 13) (N := some 78) (v := ?_) (a' := ?_) #[true, true, true, true, true, true, true, true, true, true, true, true, true, true, false, false, false, false, false, false, false] rfl rfl (by kernel_rfl) (fun _ _ _ h => h) (Or.inl ⟨by rfl, ?_⟩) ?_ ?_
    rotate_left
    · intro w'
      go_simp
      with_reducible rfl
    rotate_left
    · simp only [Act.put, List.setIfInBounds_toArray, List.set_cons_zero, List.set_cons_succ, i64_w, i32_w]
      rfl
    refine pure_ (i := 14) (N := some 79) (v := ?_) (a' := ?_) #[true, true, true, true, true, true, true, true, true, true, true, true, true, true, true, false, false, false, false, false, false] rfl rfl (by kernel_rfl) (fun _ _ _ h => h) (Or.inl ⟨by rfl, ?_⟩) ?_ ?_
    rotate_left
    · intro w'
      go_simp
      with_reducible rfl
    rotate_left
    · simp only [Act.put, List.setIfInBounds_toArray, List.set_cons_zero, List.set_cons_succ, i64_w, i32_w]
      rfl
    refine pure_ (i := 15) (N := some 80) (v := ?_) (a' := ?_) #[true, true, true, true, true, true, true, true, true, true, true, true, true, true, true, true, false, false, false, false, false] rfl rfl (by kernel_rfl) (fun _ _ _ h => h) (Or.inl ⟨by rfl, ?_⟩) ?_ ?_
    rotate_left
    · intro w'
      go_simp
      with_reducible rfl
    rotate_left
    · simp only [Act.put, List.setIfInBounds_toArray, List.set_cons_zero, List.set_cons_succ, i64_w, i32_w]
      rfl
    refine pure_ (i := 16) (N := some 81) (v := ?_) (a' := ?_) #[true, true, true, true, true, true, true, true, true, true, true, true, true, true, true, true, true, false, false, false, false] rfl rfl (by kernel_rfl) (fun _ _ _ h => h) (Or.inl ⟨by rfl, ?_⟩) ?_ ?_
    rotate_left
    · intro w'
      go_simp
      with_reducible rfl
    rotate_left
    · simp only [Act.put, List.setIfInBounds_toArray, List.set_cons_zero, List.set_cons_succ, i64_w, i32_w]
      rfl
    refine pure_ (i := 17) (N := some 82) (v := ?_) (a' := ?_) #[true, true, true, true, true, true, true, true, true, true, true, true, true, true, true, true, true, true, false, false, false] rfl rfl (by kernel_rfl) (fun _ _ _ h => h) (Or.inl ⟨by rfl, ?_⟩) ?_ ?_
    rotate_left
    · intro w'
      go_simp
      with_reducible rfl
    rotate_left
    · simp only [Act.put, List.setIfInBounds_toArray, List.set_cons_zero, List.set_cons_succ, i64_w, i32_w]
      rfl
    refine pure_ (i := 18) (N := some 83) (v := ?_) (a' := ?_) #[true, true, true, true, true, true, true, true, true, true, true, true, true, true, true, true, true, true, true, false, false] rfl rfl (by kernel_rfl) (fun _ _ _ h => h) (Or.inl ⟨by rfl, ?_⟩) ?_ ?_
    rotate_left
    · intro w'
      go_simp
      with_reducible rfl
    rotate_left
    · simp only [Act.put, List.setIfInBounds_toArray, List.set_cons_zero, List.set_cons_succ, i64_w, i32_w]
      rfl
    refine pure_ (i := 19) (N := some 84) (v := ?_) (a' := ?_) #[true, true, true, true, true, true, true, true, true, true, true, true, true, true, true, true, true, true, true, true, false] rfl rfl (by kernel_rfl) (fun _ _ _ h => h) (Or.inl ⟨by rfl, ?_⟩) ?_ ?_
    rotate_left
    · intro w'
      go_simp
      with_reducible rfl
    rotate_left
    · simp only [Act.put, List.setIfInBounds_toArray, List.set_cons_zero, List.set_cons_succ, i64_w, i32_w]
      rfl
    refine pure_ (i := 20) (N := some 85) (v := ?_) (a' := ?_) #[true, true, true, true, true, true, true, true, true, true, true, true, true, true, true, true, true, true, true, true, true] rfl rfl (by kernel_rfl) (fun _ _ _ h => h) (Or.inl ⟨by rfl, ?_⟩) ?_ ?_
    rotate_left
    · intro w'
      go_simp
      with_reducible rfl
    rotate_left
    · simp only [Act.put, List.setIfInBounds_toArray, List.set_cons_zero, List.set_cons_succ, i64_w, i32_w]
      rfl
    refine done_ (by kernel_rfl) ?_
    clear hHeld
    go_wp2_with fail
    refine (batch_Get.calls k A1 c1 x y1 y2 y3 ye _ (Kd.C_below HX0.out HB.out) hc1 hY.out).mono ?_
    rintro e v1 ⟨vy, rfl, hRy, hb⟩
    have HBy := Aside0.mk (below_step HB.out hb)
    obtain ⟨Ay, cy, rfl, hcy, hCy⟩ := Kd.R_reads hRy
    clear hb hRy HB
    go_wp2_with ((with_reducible refine gate_store (t := 32) (p := 15) (v := .tmp 89) rfl ?_); refine Shut.out ?_)
    unfold Shut
    obtain ⟨hnb, hnk⟩ := lombardlaw18_BatchBack.newrow v1 #[.int .i64 0, .int .i64 0, .slice none 0 0] #[.int .i64 y1, .int .i64 y2, .slice Ay y3.length cy] 32
    refine lombardlaw18_BatchBack.store_rowTo rfl 32 (.tmp 15) (.tmp 89) rfl rfl v1.heap.size #[.int .i64 y1, .int .i64 y2, .slice Ay y3.length cy] rfl rfl 32 _ (blk_new v1 _) (by kernel_rfl) rfl (lombardlaw18_BatchBack.all3 _ _ _ _ _) ?_
    have HBz := Aside0.mk (below_step HBy.out hnb)
    have CY := Aside0.mk (Kd.C_below hCy hnb)
    have BKy := Aside0.mk hnk
    clear HBy hCy hnb hnk
    generalize (v1.alloc (.cells #[.int .i64 0, .int .i64 0, .slice none 0 0] 32)).setRow v1.heap.size #[.int .i64 y1, .int .i64 y2, .slice Ay y3.length cy] = v2 at HBz CY BKy ⊢
    generalize v1.heap.size = g15 at BKy ⊢
    have hk0 : v2.cell? ⟨g15, 0, none⟩ = some (.int .i64 y1) := (blk_cell BKy.out 0).trans rfl
    have hk1 : v2.cell? ⟨g15, 1, none⟩ = some (.int .i64 y2) := (blk_cell BKy.out 1).trans rfl
    have hk2 : v2.cell? ⟨g15, 2, none⟩ = some (.slice Ay y3.length cy) := (blk_cell BKy.out 2).trans rfl
    by_cases hye : ye = 0
    case neg =>
      have hb1 : (ye == 0) = false := by simpa using hye
      have hb2 : (ye != 0) = true := by simpa using hye
      have hl0 := hE.out hye
      go_wp2_with fail
      go_ret
      exact ⟨rfl, HBz.out⟩
    obtain ⟨z, hz, hbt⟩ := hZ.out hye
    subst hye
    replace hz := Aside0.mk hz
    replace hbt := Aside0.mk hbt
    go_wp2_with fail
    refine (batch_Put.calls k y1 y2 Ay cy y3 z 0 v2 CY.out hcy hz.out).mono ?_
    rintro e v3 ⟨vz, rfl, hRz, hb⟩
    have HB3 := Aside0.mk (below_step HBz.out hb)
    obtain ⟨Az, cz, rfl, hcz, hCz⟩ := Kd.R_reads hRz
    clear hb HBz BKy hRz hk0 hk1 hk2
    go_wp2_with fail
    refine (lombardref18_Bytes.calls k Az cz z A1 c1 x true v3 hCz hcz (Kd.C_below HX0.out HB3.out) hc1 hbt.out).mono ?_
    rintro e v4 ⟨rfl, hd⟩
    have HB4 := Aside0.mk (below_step HB3.out hd.below)
    clear hd HB3
    go_wp2_with fail
    go_ret
    exact ⟨rfl, HB4.out⟩
theorem lombardlaw18_BatchBack.calls (k : Nat) (a0_0 : Int) (a0_1 : Int) (A0_2 : Option Addr) (c0_2 : Nat) (l0_2 : List (S59)) (A1 : Option Addr) (c1 : Nat) (l1 : List Int) (a2 : Int) (r : Bool) (w : World) (hr0_2 : Kd.C k59 w A0_2 l0_2.length l0_2) (hc0_2 : l0_2.length ≤ c0_2) (hr1 : Kd.C (Kd.int .u8) w A1 l1.length l1) (hc1 : l1.length ≤ c1) (h : lombardlaw18_BatchBack.f k a0_0 a0_1 l0_2 l1 a2 = some r) :
    Calls Try.prog 5 #[.agg #[.int .i64 a0_0, .int .i64 a0_1, .slice A0_2 l0_2.length c0_2], .slice A1 l1.length c1, .int .u16 a2] w fun e w' => e = .returned (.bool r) ∧ Below w.heap.size w w' := by
  have hrest : ∀ r, lombardlaw18_BatchBack.rest k l1 = some r → r = true ∧ ∃ y1 y2 y3 ye, batch_Get.f k l1 = some (y1, y2, y3, ye) ∧ (ye = 0 → ∃ z, batch_Put.f k y1 y2 y3 = some (z, 0) ∧ lombardref18_Bytes.f k z l1 = some true) ∧ (ye ≠ 0 → y3.length = 0) := by
    intro r h
    unfold lombardlaw18_BatchBack.rest at h
    obtain ⟨⟨y1, y2, y3, ye⟩, hy, h⟩ := Option.bind_eq_some_iff.mp h
    dsimp only at h
    by_cases c : ye = 0
    · rw [if_pos c] at h
      obtain ⟨⟨z, ze⟩, hz, h⟩ := Option.bind_eq_some_iff.mp h
      dsimp only at h
      by_cases d : ze = 0
      · rw [if_pos d] at h
        obtain ⟨t, ht, h⟩ := Option.bind_eq_some_iff.mp h
        by_cases e : t = true
        · rw [if_pos e] at h
          subst d e
          exact ⟨(Option.some.inj h).symm, y1, y2, y3, ye, hy, fun _ => ⟨z, hz, ht⟩, fun hn => absurd c hn⟩
        · rw [if_neg e] at h; cases h
      · rw [if_neg d] at h; cases h
    · rw [if_neg c] at h
      by_cases d : y3.length = 0
      · rw [if_pos d] at h
        exact ⟨(Option.some.inj h).symm, y1, y2, y3, ye, hy, fun hn => absurd hn c, fun _ => d⟩
      · rw [if_neg d] at h; cases h
  unfold lombardlaw18_BatchBack.f at h
  obtain ⟨al, hal, h⟩ := Option.bind_eq_some_iff.mp h
  by_cases c0 : al = true
  case neg => rw [if_neg c0] at h; cases h
  rw [if_pos c0] at h
  subst c0
  by_cases c2 : 300 < l0_2.length ∨ 3000 < l1.length
  · rw [if_pos c2] at h
    obtain rfl := Option.some.inj h
    exact lombardlaw18_BatchBack.wA k a0_0 a0_1 A0_2 c0_2 l0_2 A1 c1 l1 a2 w hal c2
  rw [if_neg c2] at h
  obtain ⟨⟨b1, b2, b3⟩, hb, h⟩ := Option.bind_eq_some_iff.mp h
  dsimp only at h
  obtain ⟨⟨p, pe⟩, hp, h⟩ := Option.bind_eq_some_iff.mp h
  dsimp only at h
  by_cases c3 : pe = 0
  case neg =>
    rw [if_neg c3] at h
    obtain ⟨rfl, y1, y2, y3, ye, hy, hz, he⟩ := hrest r h
    exact lombardlaw18_BatchBack.walk k a0_0 a0_1 A0_2 c0_2 l0_2 A1 c1 l1 a2 w hr0_2 hc0_2 hr1 hc1 ⟨hal⟩ (by omega) (by omega) ⟨hb⟩ ⟨hp⟩ ⟨fun e => absurd e c3⟩ ⟨hy⟩ ⟨hz⟩ ⟨he⟩
  rw [if_pos c3] at h
  by_cases c4 : 0 < p.length ∧ p.length < 100000 ∧ 0 ≤ a2 ∧ a2 < 65536
  case neg => rw [if_neg c4] at h; cases h
  rw [if_pos c4] at h
  obtain ⟨⟨e1, e2, e3, e4⟩, hg1, h⟩ := Option.bind_eq_some_iff.mp h
  obtain ⟨⟨f1, f2, f3, le⟩, hg2, h⟩ := Option.bind_eq_some_iff.mp h
  obtain ⟨⟨m1, m2, m3, mo⟩, hg3, h⟩ := Option.bind_eq_some_iff.mp h
  dsimp only at h
  by_cases c5 : e4 = 0
  case neg => rw [if_neg c5] at h; cases h
  rw [if_pos c5] at h
  obtain ⟨⟨d1, d2, d3⟩, hd, h⟩ := Option.bind_eq_some_iff.mp h
  dsimp only at h
  obtain ⟨s, hs, h⟩ := Option.bind_eq_some_iff.mp h
  by_cases c6 : s = true ∧ (le = 14 ∨ le = 6) ∧ mo = 6
  case neg => rw [if_neg c6] at h; cases h
  rw [if_pos c6] at h
  obtain ⟨hrt, y1, y2, y3, ye, hy, hz, he⟩ := hrest r h
  obtain ⟨rfl, hle, rfl⟩ := c6
  subst c5 hrt
  exact lombardlaw18_BatchBack.walk k a0_0 a0_1 A0_2 c0_2 l0_2 A1 c1 l1 a2 w hr0_2 hc0_2 hr1 hc1 ⟨hal⟩ (by omega) (by omega) ⟨hb⟩ ⟨hp⟩ ⟨fun _ => ⟨c4.1, c4.2.1, c4.2.2.1, c4.2.2.2, e1, e2, e3, f1, f2, f3, le, m1, m2, m3, d1, d2, d3, hg1, hg2, hg3, hd, hs, hle⟩⟩ ⟨hy⟩ ⟨hz⟩ ⟨he⟩


end Go.Proofs.Ytepgponpnijonaa.Print
