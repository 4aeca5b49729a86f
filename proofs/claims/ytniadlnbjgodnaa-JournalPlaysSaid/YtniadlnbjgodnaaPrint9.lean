-- written by this session's program wip/hybrid.py over the kit's printer, and by hand. Not trusted: Lean checks it.
import Derived.Test.YtniadlnbjgodnaaPrint0
import Derived.Test.YtniadlnbjgodnaaPrint3
namespace Go.Proofs.Ytniadlnbjgodnaa.Print
open Go.RowKit Go.Proofs.YtniadlnbjgodnaaW.PrintWords Go.Proofs.YtniadlnbjgodnaaW.PrintLast Go.Proofs.YtniadlnbjgodnaaW.PrintMore
attribute [local go_sem] max2_int min2_int max_two min_two max_three min_three max_four min_four   -- for this text's walks alone
set_option linter.unusedVariables false
set_option linter.unusedSimpArgs false

/-! ### lombardlaw20_JournalPlays: function 3 -/
def lombardlaw20_JournalPlays.f (n : Int) (l : List S40) : Option Bool := if l.all (fun o => o.f2.all (fun x => decide (0 ≤ x ∧ x < 256))) = true then some true else none
theorem lombardlaw20_JournalPlays.great_ (l : List S40) (hl : l.length ≤ 9223372036854775807) : ∃ k r, lombardlaw20_great.f k l = some r := by
  have H : ∀ (n : Nat) (i : Nat) (s : Int), l.length - i + 1 ≤ n → i ≤ l.length → ∃ r, lombardlaw20_great.l0 n l s l (l.length : Int) (i : Int) = some r := by
    intro n
    induction n with
    | zero => intro i s h; omega
    | succ n ih =>
      intro i s h hi
      rw [lombardlaw20_great.l0]
      by_cases hlt : i < l.length
      · rw [if_pos (by omega), if_pos (by omega), if_pos (by omega)]
        split
        · exact ⟨_, rfl⟩
        · split
          · exact ⟨_, rfl⟩
          · have e : wrap64 ((i : Int) + 1) = ((i + 1 : Nat) : Int) := by unfold wrap64; omega
            rw [e]
            exact ih (i + 1) _ (by omega) (by omega)
      · rw [if_neg (by omega)]
        split <;> exact ⟨_, rfl⟩
  obtain ⟨r, hr⟩ := H (l.length + 1) 0 0 (by omega) (by omega)
  exact ⟨l.length + 1, r, hr⟩
theorem lombardlaw20_JournalPlays.op_all (k a : Int) (A2 A3 : Option Addr) (n2 c2 n3 c3 : Nat) : (#[Value.int .i64 k, .int .i64 a, .slice A2 n2 c2, .slice A3 n3 c3] : Array Value).all (·.oneCell') = true := by kernel_rfl
theorem lombardlaw20_JournalPlays.same {w : World} {A0 A1 : Option Addr} {c0 c1 : Nat} {a : List (List Int)} (h0 : Kd.C (Kd.slice 5 (Kd.int .u8)) w A0 a.length a) (h1 : Kd.C (Kd.slice 5 (Kd.int .u8)) w A1 a.length a) : Calls Try.prog 24 #[.slice A0 a.length c0, .slice A1 a.length c1] w fun e w' => e = .returned (.bool true) ∧ Below w.heap.size w w' := by
  have := k_Same (c0 := c0) (c1 := c1) h0 h1
  rwa [decide_eq_true rfl] at this
theorem lombardlaw20_JournalPlays.same2 {w : World} {A0 A1 : Option Addr} {c0 c1 B0 B1 : Nat} {ok0 ok1 : Nat → Prop} {a : List (List Int)} (h0 : RB w B0 ok0 (.slice A0 a.length c0) a) (h1 : RB w B1 ok1 (.slice A1 a.length c1) a) : Calls Try.prog 24 #[.slice A0 a.length c0, .slice A1 a.length c1] w fun e w' => e = .returned (.bool true) ∧ Below w.heap.size w w' := by
  unfold RB at h0 h1
  exact lombardlaw20_JournalPlays.same (Kd.R_reads' h0).2.2 (Kd.R_reads' h1).2.2
section
variable {B : Nat} {w w0 w' : World} {p gl gm pr glr : Nat} {v vr : Value} {L : List (Bk × Bool)} {W : List (Int × Bk)} {pj pk u : Nat} {lv lk : Value} {rs : List (List Int)}
theorem lombardlaw20_JournalPlays.open0 (h : SS w0 w p gl gm v L W) (hok : okS L W) {rs : List (List Int)} (hr : recs L W = rs) {L2 : List (Bk × Bool)} {W2 : List (Int × Bk)} (hw : wipeR L W (usum rs) = (0, L2, W2)) :
    Calls Try.prog 12 #[.pointer (some ⟨p, 0, none⟩)] w fun e w' => ∃ pj lv v', e = .returned (.tuple #[.pointer (some ⟨pj, 0, none⟩), .int .i64 0]) ∧ LS w0 w' p gl gm v' L2 W2 pj lv rs ∧ Mv (foot p gl gm v) (fun k => foot p gl gm v' k ∨ jf pj lv k) w w' := by
  refine (A_open h hok hr hw).mono ?_
  rintro e w' ⟨pj, lv, v', rfl, hl, hm⟩
  exact ⟨pj, lv, v', by rw [if_pos rfl], hl, hm⟩
theorem lombardlaw20_JournalPlays.openE (h : SS w0 w p gl gm v L W) (hok : okS L W) {rs : List (List Int)} (hr : recs L W = rs) {er : Int} {L2 : List (Bk × Bool)} {W2 : List (Int × Bk)} (hw : wipeR L W (usum rs) = (er, L2, W2)) (he : er ≠ 0) :
    Calls Try.prog 12 #[.pointer (some ⟨p, 0, none⟩)] w fun e w' => e = .returned (.tuple #[.pointer none, .int .i64 er]) ∧ ∃ F', Below w0.heap.size w0 w' ∧ Mv (foot p gl gm v) F' w w' := by
  refine (A_open h hok hr hw).mono ?_
  rintro e w' ⟨pj, lv, v', rfl, hl, hm⟩
  exact ⟨by rw [if_neg he], _, hl.s.b, hm⟩
theorem lombardlaw20_JournalPlays.kopen0 (h : RA w0.heap.size w p gl v L W) (hsz : w0.heap.size ≤ w.heap.size) (hok : okS L W) {rs : List (List Int)} (hr : recs L W = rs) {L2 : List (Bk × Bool)} {W2 : List (Int × Bk)} (hw : wipeR L W (usum rs) = (0, L2, W2)) :
    Calls Try.prog 13 #[.pointer (some ⟨p, 0, none⟩)] w fun e w' => ∃ pk lk v', e = .returned (.tuple #[.pointer (some ⟨pk, 0, none⟩), .int .i64 0]) ∧ KS w0 w' p gl v' L2 W2 pk lk rs ∧ Mv (rfoot p gl v) (fun k => rfoot p gl v' k ∨ jf pk lk k) w w' := by
  refine (K_open h hsz hok hr hw).mono ?_
  rintro e w' ⟨pk, lk, v', rfl, hl, hm⟩
  exact ⟨pk, lk, v', by rw [if_pos rfl], hl, hm⟩
theorem lombardlaw20_JournalPlays.kopenE (h : RA w0.heap.size w p gl v L W) (hb : Below w0.heap.size w0 w) (hok : okS L W) {rs : List (List Int)} (hr : recs L W = rs) {er : Int} {L2 : List (Bk × Bool)} {W2 : List (Int × Bk)} (hw : wipeR L W (usum rs) = (er, L2, W2)) (he : er ≠ 0) :
    Calls Try.prog 13 #[.pointer (some ⟨p, 0, none⟩)] w fun e w' => e = .returned (.tuple #[.pointer none, .int .i64 er]) ∧ Below w0.heap.size w0 w' := by
  refine (K_open h hb.size hok hr hw).mono ?_
  rintro e w' ⟨pk, lk, v', rfl, hl, hm⟩
  exact ⟨by rw [if_neg he], hm.below hb hb.size (fun k hk => h.base hk)⟩
theorem lombardlaw20_JournalPlays.app (h : LS w0 w p gl gm v L W pj lv rs) (hu : usum rs ≤ L.length) {A : Option Addr} {c : Nat} {b : List Int} (hC : Kd.C (Kd.int .u8) w A b.length b) (hc : b.length ≤ c) (hA : 0 < b.length → ∀ ad, A = some ad → ¬ foot p gl gm v ad.block) {er : Int} {W2 : List (Int × Bk)} (hR : appR L W (usum rs) (rs.length + 1) b = (er, W2)) :
    Calls Try.prog 14 #[.pointer (some ⟨pj, 0, none⟩), .slice A b.length c] w fun e w' => ∃ v' lv', e = .returned (.int .i64 er) ∧ LS w0 w' p gl gm v' L W2 pj lv' (addR er rs b) ∧ Mv (fun k => foot p gl gm v k ∨ jf pj lv k) (fun k => foot p gl gm v' k ∨ jf pj lv' k) w w' := by
  refine (A_app h hu hC hc hA hR.symm).mono ?_
  rintro e w' ⟨rfl, v', lv', hl, hm⟩
  exact ⟨v', lv', rfl, hl, hm⟩
theorem lombardlaw20_JournalPlays.kapp (h : KS w0 w p gl v L W pk lk rs) (hsz : w0.heap.size ≤ w.heap.size) (hu : usum rs ≤ L.length) {A : Option Addr} {c : Nat} {b : List Int} (hC : Kd.C (Kd.int .u8) w A b.length b) (hc : b.length ≤ c) (hbb : ∀ x ∈ b, 0 ≤ x ∧ x < 256) (hA : 0 < b.length → ∀ ad, A = some ad → ¬ rfoot p gl v ad.block) {er : Int} {W2 : List (Int × Bk)} (hR : appR L W (usum rs) (rs.length + 1) b = (er, W2)) :
    Calls Try.prog 15 #[.pointer (some ⟨pk, 0, none⟩), .slice A b.length c] w fun e w' => ∃ v' lk', e = .returned (.int .i64 er) ∧ KS w0 w' p gl v' L W2 pk lk' (addR er rs b) ∧ Mv (fun k => rfoot p gl v k ∨ jf pk lk k) (fun k => rfoot p gl v' k ∨ jf pk lk' k) w w' := by
  refine (K_app h hsz hu hC hc hbb hA hR.symm).mono ?_
  rintro e w' ⟨rfl, v', lk', hl, hm⟩
  exact ⟨v', lk', rfl, hl, hm⟩
theorem lombardlaw20_JournalPlays.jfits (h : SA B w p gl gm v L W) (hj : JBk w pj p lv u) (hu : u ≤ L.length) (n : Int) {f : Bool} (hf : fits L u n = f) : Calls Try.prog 26 #[.pointer (some ⟨pj, 0, none⟩), .int .i64 n] w fun e w' => e = .returned (.bool f) ∧ Below w.heap.size w w' := by
  subst hf
  exact j_Fits h hj hu n
theorem lombardlaw20_JournalPlays.kfits (h : RA B w p gl v L W) (hj : KBk w pk p lk u) (hu : u ≤ L.length) (n : Int) {f : Bool} (hf : fits L u n = f) : Calls Try.prog 27 #[.pointer (some ⟨pk, 0, none⟩), .int .i64 n] w fun e w' => e = .returned (.bool f) ∧ Below w.heap.size w w' := by
  subst hf
  exact k_Fits h hj hu n
theorem lombardlaw20_JournalPlays.k_far (h : KS w0 w p gl v L W pk lk rs) {g : Nat} {cs : Array Value} {fr : Nat × Nat} (hg : w.heap[g]? = some (.cells cs 40 fr)) : ¬ (rfoot p gl v g ∨ jf pk lk g) := by
  rintro (hk | hk | hk)
  · exact h.s.far hg (by decide) hk
  · have := h.j
    unfold KBk at this
    rw [← hk, hg] at this
    injection this with this
    injection this with _ this
    exact absurd this (by decide)
  · obtain ⟨inner, ho⟩ := Kd.R_own h.r
    obtain ⟨cs2, h2⟩ := own_typed ho g hk
    rw [hg] at h2
    injection h2 with h2
    injection h2 with _ h2
    exact absurd h2 (by decide)
theorem lombardlaw20_JournalPlays.of {y : Bk} {A : Option Addr} {c : Nat} {l : List Int} (hy : y = ofB l) (h : Kd.C (Kd.int .u8) w A l.length l) : Calls Try.prog 21 #[.slice A l.length c] w fun e w' => e = .returned (.agg y.cs.toArray) ∧ Below w.heap.size w w' := by
  subst hy
  exact r_Of h
theorem lombardlaw20_JournalPlays.lread (h : SA B w p gl gm v L W) {a : Int} {b : Bk} {c : Int} (e : rd L W a = (b, c)) : Calls Try.prog 29 #[.pointer (some ⟨p, 0, none⟩), .int .i64 a] w fun e w' => e = .returned (.tuple #[.agg b.cs.toArray, .int .i64 c]) ∧ Below w.heap.size w w' := by
  have := b_Read h a
  rw [e] at this
  exact this
end
set_option maxHeartbeats 32000000 in
set_option maxRecDepth 100000 in
theorem lombardlaw20_JournalPlays.walk (nb : Int) (A0 : Option Addr) (c0 : Nat) (l0 : List S40) (w : World) (hr0 : Kd.C k40 w A0 l0.length l0) (hc0 : l0.length ≤ c0) (hby : ∀ o ∈ l0, ∀ x ∈ o.f2, 0 ≤ x ∧ x < 256) : Calls Try.prog 3 #[.int .i64 nb, .slice A0 l0.length c0] w fun e w' => e = .returned (.bool true) ∧ Below w.heap.size w w' := by
  obtain ⟨kl0, rl0, hgl0⟩ := lombardlaw20_JournalPlays.great_ l0 hr0.2.1
  replace hgl0 := Aside0.mk hgl0
  have HR0 := Aside0.mk hr0
  have hl63 := hr0.2.1
  replace hby := Aside0.mk hby
  clear hr0
  go_enter Try.func3, Try.ntmps3
  go_wp2_with fail
  refine j_alive.mono ?_
  rintro e w1 ⟨rfl, hb⟩
  have HB := Aside0.mk hb
  clear hb
  go_wp2_with fail
  with_reducible refine (lombardlaw20_great.calls kl0 A0 c0 l0 rl0 w1 (Kd.C_below HR0.out HB.out) hc0 hgl0.out).mono ?_
  rintro e w2 ⟨rfl, hb⟩
  have HB' := Aside0.mk (below_step HB.out hb)
  clear hb HB
  have HB := HB'
  clear HB' hgl0
  cases rl0
  case true =>
    go_wp2_with fail
    go_ret
    exact ⟨rfl, HB.out⟩
  by_cases h300 : (300 : Int) < nb
  case pos =>
    go_wp2_with fail
    go_ret
    exact ⟨rfl, HB.out⟩
  by_cases hnb : 1 ≤ nb ∧ nb ≤ 4096
  case neg =>
    go_wp2_with fail
    refine (b_New_bad nb hnb).mono ?_
    rintro e w3 ⟨rfl, hb⟩
    have HB' := Aside0.mk (below_step HB.out hb)
    clear hb HB
    go_wp2_with fail
    refine (r_New_bad nb hnb).mono ?_
    rintro e w4 ⟨rfl, hb⟩
    have HB := Aside0.mk (below_step HB'.out hb)
    clear hb HB'
    go_wp2_with fail
    go_ret
    exact ⟨rfl, HB.out⟩
  obtain ⟨n, rfl⟩ := Int.eq_ofNat_of_zero_le (show 0 ≤ nb by omega)
  have hn1 : 1 ≤ n := by omega
  have hn2 : n ≤ 300 := by omega
  clear hnb
  go_wp2_with fail
  refine (C_new HB.out n ⟨hn1, by omega⟩).mono ?_
  rintro e w3 ⟨p, rfl, gl, gm, v0, hs, _⟩
  have HS := Aside0.mk hs
  clear hs HB
  go_wp2_with fail
  refine (r_New2 HS.out.b n ⟨hn1, by omega⟩).mono ?_
  rintro e w4 ⟨pr, rfl, glr, vr0, hs, hb⟩
  have HS4 := Aside0.mk (HS.out.below hb)
  have HR4 := Aside0.mk hs
  clear hs hb HS
  have hg0 := Aside0.mk (GJ.new n ⟨hn1, by omega⟩)
  go_wp2_with fail
  refine (lombardlaw20_JournalPlays.open0 HS4.out (okS_zeros n) hg0.out.recs hg0.out.wipe).mono ?_
  rintro e w5 ⟨pj, lv, v1, rfl, hl, hm⟩
  have HR5 := Aside0.mk (HR4.out.mvA HS4.out.s hm)
  have HL5 := Aside0.mk hl
  clear hl hm HS4 HR4
  go_wp2_with fail
  refine (lombardlaw20_JournalPlays.kopen0 HR5.out HL5.out.s.b.size (okS_zeros n) hg0.out.recs hg0.out.wipe).mono ?_
  rintro e w6 ⟨pk, lk, vr1, rfl, hl, hm⟩
  obtain ⟨ha, hd⟩ := HL5.out.afterK HR5.out hm
  have HL := Aside0.mk ha
  have HK := Aside0.mk hl
  have HD := Aside0.mk hd
  clear hl hm ha hd HL5 HR5
  go_wp2_with fail
  go_loopw [9, 10, 67] (fun x y z wr => ∃ (i pj pk : Nat) (lv lk v vr : Value) (L : List (Bk × Bool)) (W : List (Int × Bk)) (rs : List (List Int)), i ≤ l0.length ∧ x = .pointer (some ⟨pj, 0, none⟩) ∧ y = .pointer (some ⟨pk, 0, none⟩) ∧ z = .int .i64 i ∧ Aside0 (L.length = n) ∧ Aside0 (LS w wr p gl gm v L W pj lv rs) ∧ Aside0 (KS w wr pr glr vr L W pk lk rs) ∧ Aside0 (Dj (fun k => foot p gl gm v k ∨ jf pj lv k) (fun k => rfoot pr glr vr k ∨ jf pk lk k)) ∧ Aside0 (okS L W) ∧ Aside0 (usum rs ≤ L.length) ∧ Aside0 (∀ r ∈ rs, okR r)) (fun _ _ z _ => l0.length - (intOf z).toNat)
  case atStart => exact ⟨0, pj, pk, lv, lk, v1, vr1, zeros n, [], [], Nat.zero_le _, rfl, rfl, rfl, ⟨zeros_len n⟩, HL, HK, HD, ⟨okS_zeros n⟩, ⟨Nat.zero_le _⟩, ⟨fun r h => by simp at h⟩⟩
  case round =>
    clear HL HK HD hg0
    obtain ⟨i, pj, pk, lv, lk, v, vr, L, W, rs, hi, rfl, rfl, rfl, hln, HL, HK, HD, HO, hu, hrok⟩ := hrel
    by_cases hlt : i < l0.length
    case neg =>
      have hnl := Aside0.mk h300
      clear h300
      go_wp2_with fail
      generalize wr = x0 at HL HK ⊢
      clear wr
      go_loopw [190] (fun u wq => ∃ j : Nat, j ≤ n ∧ u = .int .i64 j ∧ Aside0 (Below x0.heap.size x0 wq)) (fun u _ => n - (intOf u).toNat)
      case atStart => exact ⟨0, Nat.zero_le _, rfl, ⟨Below.refl _ _⟩⟩
      case round =>
        obtain ⟨j, hj, rfl, HQ⟩ := hrel
        by_cases hjn : j < n
        case neg =>
          go_wp2_with fail
          go_ret
          exact ⟨rfl, below_step HL.out.s.b HQ.out⟩
        obtain ⟨⟨b, c⟩, hb0⟩ : ∃ R, rd L W (j : Int) = R := ⟨_, rfl⟩
        have hb0 := Aside0.mk hb0
        go_wp2_with fail
        refine (lombardlaw20_JournalPlays.lread (HL.out.s.s.below HQ.out) hb0.out).mono ?_
        rintro e q1 ⟨rfl, hb⟩
        have HQ1 := Aside0.mk (below_step HQ.out hb)
        clear HQ hb
        go_wp2_with ((with_reducible refine gate_store (t := 46) (p := 16) (v := .tmp 197) rfl ?_); refine Shut.out ?_)
        unfold Shut
        obtain ⟨hnb, hnk⟩ := newbk q1 Bk.z.cs.toArray b.cs.toArray 46
        refine wpl_stbk 46 _ _ q1.heap.size b 46 Bk.z rfl rfl rfl rfl rfl (blk_new q1 _) bk_info ?_
        have HQ2 := Aside0.mk (below_step HQ1.out hnb)
        have BKa := Aside0.mk hnk
        clear HQ1 hnb hnk
        generalize hgen : (q1.alloc (.cells Bk.z.cs.toArray 46)).setRow q1.heap.size b.cs.toArray = q2 at HQ2 BKa
        change wpList _ _ _ _ _ ((q1.alloc (.cells Bk.z.cs.toArray 46)).setRow q1.heap.size b.cs.toArray)
        rw [hgen]
        clear hgen
        generalize q1.heap.size = g14 at BKa ⊢
        go_wp2_with fail
        refine (r_ReadE (HK.out.s.below HQ2.out) hb0.out).mono ?_
        rintro e q3 ⟨rfl, hb⟩
        have HQ3 := Aside0.mk (below_step HQ2.out hb)
        have BKa3 := Aside0.mk (blk_below BKa.out hb)
        clear HQ2 hb BKa
        go_wp2_with ((with_reducible refine gate_store (t := 45) (p := 18) (v := .tmp 203) rfl ?_); refine Shut.out ?_)
        unfold Shut
        obtain ⟨hnb, hnk⟩ := newbk q3 Bk.z.cs.toArray b.cs.toArray 45
        refine wpl_stbk 45 _ _ q3.heap.size b 45 Bk.z rfl rfl rfl rfl rfl (blk_new q3 _) rbk_info ?_
        have HQ4 := Aside0.mk (below_step HQ3.out hnb)
        have BKa := Aside0.mk (blk_below BKa3.out hnb)
        have BKb := Aside0.mk hnk
        clear HQ3 BKa3 hnb hnk
        generalize hgen : (q3.alloc (.cells Bk.z.cs.toArray 45)).setRow q3.heap.size b.cs.toArray = q4 at HQ4 BKa BKb
        change wpList _ _ _ _ _ ((q3.alloc (.cells Bk.z.cs.toArray 45)).setRow q3.heap.size b.cs.toArray)
        rw [hgen]
        clear hgen
        generalize q3.heap.size = g16 at BKb ⊢
        have heq : ∀ d W, (Op.equalIn (d + 2) 45 (.agg b.cs.toArray) (.agg b.cs.toArray)).run Try.prog W = .ok true W := fun d W => (rbk_eqi b b d W).trans (by simp)
        go_wp2_with (first | ((with_reducible refine gate_dst (N := 205) rfl ?_); refine wpList_load_row rfl 46 _ rfl g14 rfl 46 _ (0, 0) _ BKa.out bk_und rfl (by rw [bk_sz]; exact bk_info) ?_) | ((with_reducible refine gate_dst (N := 206) rfl ?_); refine wpList_load_row rfl 45 _ rfl g16 rfl 45 _ (0, 0) _ BKb.out rbk_und rfl (by rw [bk_sz]; exact rbk_info) ?_))
        go_roundw
        case rel => exact ⟨j + 1, by omega, by go_num, HQ4⟩
        case measure => simp [intOf]; omega
    have hi1 : i + 1 ≤ l0.length := by omega
    obtain ⟨ad, A2, c2, A3, c3, hA, hk0, hk1, hk2, hk3, hc2, hCB, hc3, hCF⟩ := at_T40 HR0.out (i : Int) (by omega) (by omega)
    have hbx := hby.out (rd_T40 l0 (i : Int)) (by unfold rd_T40; rw [Int.toNat_natCast]; simp [List.getD, hlt])
    rw [Int.toNat_natCast] at hk0 hk1 hk2 hk3
    generalize rd_T40 l0 (i : Int) = o at hk0 hk1 hk2 hk3 hc2 hCB hc3 hCF hbx
    obtain ⟨k, a, bs, fs⟩ := o
    simp only at hk0 hk1 hk2 hk3 hc2 hCB hc3 hCF hbx
    subst hA
    have CB0 := Aside0.mk hCB
    have CF0 := Aside0.mk hCF
    replace hbx := Aside0.mk hbx
    have HBr := HL.out.s.b
    replace hk0 := pw_cell_below HBr hk0
    replace hk1 := pw_cell_below HBr hk1
    replace hk2 := pw_cell_below HBr hk2
    replace hk3 := pw_cell_below HBr hk3
    clear hCB hCF
    go_wp2_with ((with_reducible refine gate_store (t := 40) (p := 12) (v := .tmp 70) rfl ?_); refine Shut.out ?_)
    unfold Shut
    obtain ⟨hnb, hnk⟩ := newbk wr #[.int .i64 0, .int .i64 0, .slice none 0 0, .slice none 0 0] #[.int .i64 k, .int .i64 a, .slice A2 bs.length c2, .slice A3 fs.length c3] 40
    refine store_rowTo rfl 40 (.tmp 12) (.tmp 70) rfl rfl wr.heap.size #[.int .i64 k, .int .i64 a, .slice A2 bs.length c2, .slice A3 fs.length c3] rfl rfl 40 _ (blk_new wr _) (by kernel_rfl) rfl (lombardlaw20_JournalPlays.op_all _ _ _ _ _ _ _ _) ?_
    have HL5 := Aside0.mk (HL.out.below hnb)
    have HK5 := Aside0.mk (HK.out.below hnb)
    have BKo := Aside0.mk hnk
    clear HL HK hnb hnk hk0 hk1 hk2 hk3 HBr
    generalize (wr.alloc (.cells #[.int .i64 0, .int .i64 0, .slice none 0 0, .slice none 0 0] 40)).setRow wr.heap.size #[.int .i64 k, .int .i64 a, .slice A2 bs.length c2, .slice A3 fs.length c3] = w5 at HL5 BKo HK5 ⊢
    generalize wr.heap.size = go at BKo ⊢
    have hj0 : w5.cell? ⟨go, 0, none⟩ = some (.int .i64 k) := (blk_cell BKo.out 0).trans rfl
    have hj1 : w5.cell? ⟨go, 1, none⟩ = some (.int .i64 a) := (blk_cell BKo.out 1).trans rfl
    have hj2 : w5.cell? ⟨go, 2, none⟩ = some (.slice A2 bs.length c2) := (blk_cell BKo.out 2).trans rfl
    have hj3 : w5.cell? ⟨go, 3, none⟩ = some (.slice A3 fs.length c3) := (blk_cell BKo.out 3).trans rfl
    have HL := HL5
    have HK := HK5
    clear HL5 HK5
    go_upto_block 2 with fail
    go_cut [9, 10, 13, 14] (fun x y z1 z2 wx => ∃ er : Int, z1 = .int .i64 er ∧ z2 = .int .i64 er ∧ ((x = .pointer none ∧ y = .pointer none ∧ Aside0 (Below w.heap.size w wx)) ∨ (∃ (pj pk : Nat) (lv lk v vr : Value) (L : List (Bk × Bool)) (W : List (Int × Bk)) (rs : List (List Int)), x = .pointer (some ⟨pj, 0, none⟩) ∧ y = .pointer (some ⟨pk, 0, none⟩) ∧ Aside0 (L.length = n) ∧ Aside0 (LS w wx p gl gm v L W pj lv rs) ∧ Aside0 (KS w wx pr glr vr L W pk lk rs) ∧ Aside0 (Dj (fun k => foot p gl gm v k ∨ jf pj lv k) (fun k => rfoot pr glr vr k ∨ jf pk lk k)) ∧ Aside0 (okS L W) ∧ Aside0 (usum rs ≤ L.length) ∧ Aside0 (∀ r ∈ rs, okR r) ∧ Aside0 (wx.heap[go]? = some (.cells #[.int .i64 k, .int .i64 a, .slice A2 bs.length c2, .slice A3 fs.length c3] 40 (0, 0))))))
    case first =>
      by_cases h1 : k = 1
      case pos =>
        subst h1
        have e1 : ((1 : Int) == 1) = true := rfl
        obtain ⟨⟨er, W6⟩, hR⟩ : ∃ r, appR L W (usum rs) (rs.length + 1) bs = r := ⟨_, rfl⟩
        have hO6 := appR_okS (u := usum rs) (n := rs.length + 1) (b := bs) (by have := usum_len rs; have := HL.out.s.s.hL.2; have := hu.out; omega) hbx.out HO.out
        have hu6 := addR_le (W := W) (n := rs.length + 1) (b := bs) hu.out
        have hr6 := addR_ok (L := L) (W := W) (rs := rs) (n := rs.length + 1) (b := bs) hbx.out hrok.out
        rw [hR] at hO6 hu6 hr6
        simp only at hO6 hu6 hr6
        replace hR := Aside0.mk hR
        replace hO6 := Aside0.mk hO6
        replace hu6 := Aside0.mk hu6
        replace hr6 := Aside0.mk hr6
        go_wp2_with fail
        have n_HL := Aside0.mk (HL.out.below (below_drew (Below.refl _ _)))
        have n_HK := Aside0.mk (HK.out.below (below_drew (Below.refl _ _)))
        have n_HD := Aside0.mk (HD.out)
        have n_BKo := Aside0.mk (blk_below BKo.out (below_drew (Below.refl _ _)))
        clear HL
        have HL := n_HL
        clear n_HL
        clear HK
        have HK := n_HK
        clear n_HK
        clear HD
        have HD := n_HD
        clear n_HD
        clear BKo
        have BKo := n_BKo
        clear n_BKo
        refine start_ (n := 10) (S := fun w' => w'.cell? ⟨go, 2, none⟩ = some (.slice A2 bs.length c2)) (ds := []) #[false, false, false, false, false, false, false, false, false, false] (by kernel_rfl) rfl rfl ((blk_cell BKo.out 2).trans rfl) (fun hHeld => ?_)
        generalize w5.drew = w6 at HL HK HD BKo hHeld ⊢
        refine pure_ (i := 0) (N := some 75) (v := ?_) (a' := ?_) #[true, false, false, false, false, false, false, false, false, false] rfl rfl (by kernel_rfl) (fun _ _ _ h => h) (Or.inl ⟨by rfl, ?_⟩) ?_ ?_
        rotate_left
        · intro w'
          go_simp
          with_reducible rfl
        rotate_left
        · simp only [Act.put, List.setIfInBounds_toArray, List.set_cons_zero, List.set_cons_succ, i64_w, i32_w]
          rfl
        refine pure_ (i := 1) (N := some 76) (v := ?_) (a' := ?_) #[true, true, false, false, false, false, false, false, false, false] rfl rfl (by kernel_rfl) (fun _ _ _ h => h) (Or.inl ⟨by rfl, ?_⟩) ?_ ?_
        rotate_left
        · intro w'
          go_simp
          with_reducible rfl
        rotate_left
        · simp only [Act.put, List.setIfInBounds_toArray, List.set_cons_zero, List.set_cons_succ, i64_w, i32_w]
          rfl
        refine pure_ (i := 4) (N := some 79) (v := ?_) (a' := ?_) #[true, true, false, false, true, false, false, false, false, false] rfl rfl (by kernel_rfl) (fun _ _ _ h => h) (Or.inl ⟨by rfl, ?_⟩) ?_ ?_
        rotate_left
        · intro w'
          go_simp
          with_reducible rfl
        rotate_left
        · simp only [Act.put, List.setIfInBounds_toArray, List.set_cons_zero, List.set_cons_succ, i64_w, i32_w]
          rfl
        refine pure_ (i := 5) (N := some 80) (v := ?_) (a' := ?_) #[true, true, false, false, true, true, false, false, false, false] rfl rfl (by kernel_rfl) (fun _ _ _ h => h) (Or.inl ⟨by rfl, ?_⟩) ?_ ?_
        rotate_left
        · intro w'
          go_simp
          with_reducible rfl
        rotate_left
        · simp only [Act.put, List.setIfInBounds_toArray, List.set_cons_zero, List.set_cons_succ, i64_w, i32_w]
          rfl
        refine take_ (i := 2) (N := some 77) (v := ?_) (a' := ?_) #[true, true, true, false, true, true, false, false, false, false] rfl rfl (by kernel_rfl) (fun _ _ _ h => h) (Or.inl ⟨by rfl, ?_⟩) hHeld ?_ ?_
        rotate_left
        · intro w' s0
          go_simp
          with_reducible rfl
        rotate_left
        · simp only [Act.put, List.setIfInBounds_toArray, List.set_cons_zero, List.set_cons_succ, i64_w, i32_w]
          rfl
        refine take_ (i := 6) (N := some 81) (v := ?_) (a' := ?_) #[true, true, true, false, true, true, true, false, false, false] rfl rfl (by kernel_rfl) (fun _ _ _ h => h) (Or.inl ⟨by rfl, ?_⟩) hHeld ?_ ?_
        rotate_left
        · intro w' s0
          go_simp
          with_reducible rfl
        rotate_left
        · simp only [Act.put, List.setIfInBounds_toArray, List.set_cons_zero, List.set_cons_succ, i64_w, i32_w]
          rfl
        refine one_ (i := 3) (N := some 78) #[true, true, true, true, true, true, true, false, false, false] rfl rfl (by kernel_rfl) (by decide) (fun K hK => ?_)
        refine goes_ Try.func14 (by kernel_rfl) rfl #[.pointer (some ⟨pj, 0, none⟩), .slice A2 bs.length c2] (by rfl) rfl rfl (by (try simp only [List.map_toArray, List.map_cons, List.map_nil]); first | done | rfl) ?_
        with_reducible refine (lombardlaw20_JournalPlays.app HL.out hu.out (Kd.C_below CB0.out HL.out.s.b) hc2 (HL.out.s.arg CB0.out) hR.out).mono ?_
        rintro e y1_ ⟨v6, lv6, rfl, hl, hm⟩
        refine ⟨_, rfl, ?_⟩
        have m_HL := Aside0.mk (hl)
        have m_HK := Aside0.mk (HK.out.keepF hm HD.out HL.out.nu)
        have m_HD := Aside0.mk (HD.out.mv hm HK.out.lt)
        have m_BKo := Aside0.mk (hm.blk BKo.out (op_far HL.out BKo.out))
        clear HL
        clear HK
        clear HD
        clear BKo
        have HL := m_HL
        clear m_HL
        have HK := m_HK
        clear m_HK
        have HD := m_HD
        clear m_HD
        have BKo := m_BKo
        clear m_BKo
        clear hl hm
        refine hK.out _ _ ((blk_cell BKo.out 2).trans rfl) (fun hHeld => ?_)
        clear hK K
        refine norm_ (a' := ?_) ?_ ?_
        rotate_left
        · show Act.put _ (some 78) _ = _
          simp only [Act.put, List.setIfInBounds_toArray, List.set_cons_zero, List.set_cons_succ, i64_w, i32_w]
          rfl
        refine one_ (i := 7) (N := some 82) #[true, true, true, true, true, true, true, true, false, false] rfl rfl (by kernel_rfl) (by decide) (fun K hK => ?_)
        refine goes_ Try.func15 (by kernel_rfl) rfl #[.pointer (some ⟨pk, 0, none⟩), .slice A2 bs.length c2] (by rfl) rfl rfl (by (try simp only [List.map_toArray, List.map_cons, List.map_nil]); first | done | rfl) ?_
        with_reducible refine (lombardlaw20_JournalPlays.kapp HK.out HL.out.s.b.size hu.out (Kd.C_below CB0.out HL.out.s.b) hc2 hbx.out (HK.out.s.arg CB0.out) hR.out).mono ?_
        rintro e y2_ ⟨vr6, lk6, rfl, hl, hm⟩
        refine ⟨_, rfl, ?_⟩
        have m_HL := Aside0.mk (HL.out.keepF hm HD.out.symm HK.out.nu HK.out.base)
        have m_HK := Aside0.mk (hl)
        have m_HD := Aside0.mk ((HD.out.symm.mv hm HL.out.lt).symm)
        have m_BKo := Aside0.mk (hm.blk BKo.out (lombardlaw20_JournalPlays.k_far HK.out BKo.out))
        clear HL
        clear HK
        clear HD
        clear BKo
        have HL := m_HL
        clear m_HL
        have HK := m_HK
        clear m_HK
        have HD := m_HD
        clear m_HD
        have BKo := m_BKo
        clear m_BKo
        clear hl hm
        refine hK.out _ _ ((blk_cell BKo.out 2).trans rfl) (fun hHeld => ?_)
        clear hK K
        refine norm_ (a' := ?_) ?_ ?_
        rotate_left
        · show Act.put _ (some 82) _ = _
          simp only [Act.put, List.setIfInBounds_toArray, List.set_cons_zero, List.set_cons_succ, i64_w, i32_w]
          rfl
        refine pure_ (i := 8) (N := some 13) (v := ?_) (a' := ?_) #[true, true, true, true, true, true, true, true, true, false] rfl rfl (by kernel_rfl) (fun _ _ _ h => h) (Or.inl ⟨by rfl, ?_⟩) ?_ ?_
        rotate_left
        · intro w'
          go_simp
          with_reducible rfl
        rotate_left
        · simp only [Act.put, List.setIfInBounds_toArray, List.set_cons_zero, List.set_cons_succ, i64_w, i32_w]
          rfl
        refine pure_ (i := 9) (N := some 14) (v := ?_) (a' := ?_) #[true, true, true, true, true, true, true, true, true, true] rfl rfl (by kernel_rfl) (fun _ _ _ h => h) (Or.inl ⟨by rfl, ?_⟩) ?_ ?_
        rotate_left
        · intro w'
          go_simp
          with_reducible rfl
        rotate_left
        · simp only [Act.put, List.setIfInBounds_toArray, List.set_cons_zero, List.set_cons_succ, i64_w, i32_w]
          rfl
        refine done_ (by kernel_rfl) ?_
        clear hHeld
        go_wp2_with fail
        go_meet
        case rel => exact ⟨er, rfl, rfl, .inr ⟨pj, pk, lv6, lk6, v6, vr6, L, W6, addR er rs bs, rfl, rfl, hln, HL, HK, HD, hO6, hu6, hr6, BKo⟩⟩
      have e1 : (k == 1) = false := by simpa using h1
      by_cases h2 : k = 2
      case pos =>
        subst h2
        have e2 : ((2 : Int) == 2) = true := rfl
        clear h1
        go_wp2_with fail
        refine (C_sync HL.out).mono ?_
        rintro e w6 ⟨rfl, hl, hm⟩
        have HK6 := Aside0.mk (HK.out.keepF hm (fun k h1 h2 => HD.out k (.inl h1) h2) (fun k h1 => HL.out.nu k (.inl h1)))
        have HD6 : Aside0 (Dj (fun k => foot p gl gm (.slice none 0 0) k ∨ jf pj lv k) (fun k => rfoot pr glr vr k ∨ jf pk lk k)) := ⟨HD.out.mv (hm.wide (jf pj lv)) HK.out.lt⟩
        have BK6 := Aside0.mk (hm.blk BKo.out (fun h => op_far HL.out BKo.out (.inl h)))
        have HL6 := Aside0.mk hl
        clear hl hm HL HK HD BKo hj0 hj1 hj2 hj3
        go_wp2_with fail
        refine (K_sync HK6.out).mono ?_
        rintro e w7 ⟨rfl, hl, hm⟩
        have HL7 := Aside0.mk (HL6.out.keepF hm (fun k h1 h2 => HD6.out k h2 (.inl h1)) (fun k h1 => HK6.out.nu k (.inl h1)) (fun k h1 => HK6.out.base k (.inl h1)))
        have HD7 : Aside0 (Dj (fun k => foot p gl gm (.slice none 0 0) k ∨ jf pj lv k) (fun k => rfoot pr glr (.slice none 0 0) k ∨ jf pk lk k)) := ⟨(HD6.out.symm.mv (hm.wide (jf pk lk)) HL6.out.lt).symm⟩
        have BK7 := Aside0.mk (hm.blk BK6.out (fun h => lombardlaw20_JournalPlays.k_far HK6.out BK6.out (.inl h)))
        have HK7 := Aside0.mk hl
        clear hl hm HL6 HK6 HD6 BK6
        go_wp2_with fail
        go_meet
        case rel => exact ⟨0, rfl, rfl, .inr ⟨pj, pk, lv, lk, .slice none 0 0, .slice none 0 0, setl (fun _ => 1) 0 W L, [], rs, rfl, rfl, ⟨by rw [setl_len]; exact hln.out⟩, HL7, HK7, HD7, ⟨okS_setl _ _ _ _ HO.out⟩, ⟨by rw [setl_len]; exact hu.out⟩, hrok, BK7⟩⟩
      have e2 : (k == 2) = false := by simpa using h2
      by_cases h3 : k = 3
      case pos =>
        subst h3
        have e3 : ((3 : Int) == 3) = true := rfl
        clear h1 h2
        go_wp2_with fail
        refine (C_crash HL.out.s (Kd.C_below CF0.out HL.out.s.b) (HL.out.s.arg CF0.out)).mono ?_
        rintro e w6 ⟨rfl, hs, hm⟩
        have HR6 := Aside0.mk (HK.out.s.mvA HL.out.s.s hm)
        have HS6 := Aside0.mk hs
        have BK6 := Aside0.mk (hm.blk BKo.out (HL.out.s.s.far BKo.out (by decide)))
        clear hs hm HL HK HD BKo hj0 hj1 hj2 hj3
        have hj3 : w6.cell? ⟨go, 3, none⟩ = some (.slice A3 fs.length c3) := (blk_cell BK6.out 3).trans rfl
        go_wp2_with fail
        refine (r_Crash HR6.out (Kd.C_below CF0.out HS6.out.b) (HR6.out.arg CF0.out)).mono ?_
        rintro e w7 ⟨rfl, hs, hm⟩
        have HSx := Aside0.mk (HS6.out.mvR HR6.out hm)
        have HRx := Aside0.mk hs
        have BKx := Aside0.mk (hm.blk BK6.out (HR6.out.far BK6.out (by decide)))
        have HOx := Aside0.mk (okS_setl (fateOf fs) W 0 L HO.out)
        have hlx : Aside0 ((setl (fateOf fs) 0 W L).length = n) := ⟨by rw [setl_len]; exact hln.out⟩
        clear hs hm HS6 HR6 BK6 hj3 HO
        generalize setl (fateOf fs) 0 W L = L1 at HSx HRx HOx hlx
        obtain ⟨rs2, hrs2⟩ : ∃ rs2, recs L1 [] = rs2 := ⟨_, rfl⟩
        have hr2 : Aside0 (∀ r ∈ rs2, okR r) := ⟨by rw [← hrs2]; exact recs_ok HOx.out⟩
        have hu2 : usum rs2 ≤ n := by rw [← hrs2, ← hlx.out]; exact recs_us HOx.out
        obtain ⟨⟨er, L3, W3⟩, hq⟩ : ∃ q, wipeR L1 [] (usum rs2) = q := ⟨_, rfl⟩
        have ho3 := wipeR_ok HOx.out (usum rs2)
        have hl3 := wipeR_len L1 [] (usum rs2)
        rw [hq] at ho3 hl3
        rw [hlx.out] at hl3
        simp only at ho3 hl3
        have hu3 : Aside0 (usum rs2 ≤ L3.length) := ⟨by rw [hl3]; exact hu2⟩
        replace hrs2 := Aside0.mk hrs2
        replace hu2 := Aside0.mk hu2
        replace hq := Aside0.mk hq
        replace ho3 := Aside0.mk ho3
        replace hl3 := Aside0.mk hl3
        by_cases h0 : er = 0
        case pos =>
          subst h0
          go_wp2_with fail
          refine (lombardlaw20_JournalPlays.open0 HSx.out HOx.out hrs2.out hq.out).mono ?_
          rintro e z1 ⟨pj2, lv2, v2, rfl, hl, hm⟩
          have HR2 := Aside0.mk (HRx.out.mvA HSx.out.s hm)
          have HL2 := Aside0.mk hl
          have BK2 := Aside0.mk (hm.blk BKx.out (HSx.out.s.far BKx.out (by decide)))
          clear hl hm HSx HRx BKx
          go_wp2_with fail
          refine (lombardlaw20_JournalPlays.kopen0 HR2.out HL2.out.s.b.size HOx.out hrs2.out hq.out).mono ?_
          rintro e z2 ⟨pk2, lk2, vr2, rfl, hl, hm⟩
          obtain ⟨ha, hd⟩ := HL2.out.afterK HR2.out hm
          have HL3 := Aside0.mk ha
          have HK3 := Aside0.mk hl
          have HD3 := Aside0.mk hd
          have BK3 := Aside0.mk (hm.blk BK2.out (HR2.out.far BK2.out (by decide)))
          clear hl hm ha hd HR2 HL2 BK2
          go_wp2_with fail
          go_meet
          case rel => exact ⟨0, rfl, rfl, .inr ⟨pj2, pk2, lv2, lk2, v2, vr2, L3, W3, rs2, rfl, rfl, hl3, HL3, HK3, HD3, ho3, hu3, hr2, BK3⟩⟩
        go_wp2_with fail
        refine (lombardlaw20_JournalPlays.openE HSx.out HOx.out hrs2.out hq.out h0).mono ?_
        rintro e z1 ⟨rfl, F1, hb, hm⟩
        have HR2 := Aside0.mk (HRx.out.mvA HSx.out.s hm)
        have HB2 := Aside0.mk hb
        clear hb hm HSx HRx BKx
        go_wp2_with fail
        refine (lombardlaw20_JournalPlays.kopenE HR2.out HB2.out HOx.out hrs2.out hq.out h0).mono ?_
        rintro e z2 ⟨rfl, hb⟩
        have HB3 := Aside0.mk hb
        clear hb HR2 HB2
        go_wp2_with fail
        go_meet
        case rel => exact ⟨er, rfl, rfl, .inl ⟨rfl, rfl, HB3⟩⟩
      have e3 : (k == 3) = false := by simpa using h3
      by_cases h4 : k = 4
      case neg =>
        have e4 : (k == 4) = false := by simpa using h4
        clear h1 h2 h3 h4
        go_wp2_with fail
        go_meet
        case rel => exact ⟨0, rfl, rfl, .inr ⟨pj, pk, lv, lk, v, vr, L, W, rs, rfl, rfl, hln, HL, HK, HD, HO, hu, hrok, BKo⟩⟩
      subst h4
      have e4 : ((4 : Int) == 4) = true := rfl
      clear h1 h2 h3
      have hz := Aside0.mk (ofB_ok hbx.out)
      have HSx := Aside0.mk HL.out.s
      have HRx := Aside0.mk HK.out.s
      clear HL HK HD
      obtain ⟨y, hy⟩ : ∃ y, y = ofB bs := ⟨_, rfl⟩
      rw [← hy] at hz
      replace hy := Aside0.mk hy
      go_wp2_with fail
      have n_HSx := Aside0.mk (HSx.out.below (below_drew (Below.refl _ _)))
      have n_HRx := Aside0.mk (HRx.out.below (below_drew (Below.refl _ _)))
      have n_BKo := Aside0.mk (blk_below BKo.out (below_drew (Below.refl _ _)))
      clear HSx
      have HSx := n_HSx
      clear n_HSx
      clear HRx
      have HRx := n_HRx
      clear n_HRx
      clear BKo
      have BKo := n_BKo
      clear n_BKo
      refine start_ (n := 7) (S := fun w' => w'.cell? ⟨go, 1, none⟩ = some (.int .i64 a) ∧ w'.cell? ⟨go, 2, none⟩ = some (.slice A2 bs.length c2)) (ds := []) #[false, false, false, false, false, false, false] (by kernel_rfl) rfl rfl ⟨(blk_cell BKo.out 1).trans rfl, (blk_cell BKo.out 2).trans rfl⟩ (fun hHeld => ?_)
      generalize w5.drew = w6 at HSx HRx BKo hHeld ⊢
      refine pure_ (i := 0) (N := some 111) (v := ?_) (a' := ?_) #[true, false, false, false, false, false, false] rfl rfl (by kernel_rfl) (fun _ _ _ h => h) (Or.inl ⟨by rfl, ?_⟩) ?_ ?_
      rotate_left
      · intro w'
        go_simp
        with_reducible rfl
      rotate_left
      · simp only [Act.put, List.setIfInBounds_toArray, List.set_cons_zero, List.set_cons_succ, i64_w, i32_w]
        rfl
      refine pure_ (i := 1) (N := some 112) (v := ?_) (a' := ?_) #[true, true, false, false, false, false, false] rfl rfl (by kernel_rfl) (fun _ _ _ h => h) (Or.inl ⟨by rfl, ?_⟩) ?_ ?_
      rotate_left
      · intro w'
        go_simp
        with_reducible rfl
      rotate_left
      · simp only [Act.put, List.setIfInBounds_toArray, List.set_cons_zero, List.set_cons_succ, i64_w, i32_w]
        rfl
      refine pure_ (i := 3) (N := some 114) (v := ?_) (a' := ?_) #[true, true, false, true, false, false, false] rfl rfl (by kernel_rfl) (fun _ _ _ h => h) (Or.inl ⟨by rfl, ?_⟩) ?_ ?_
      rotate_left
      · intro w'
        go_simp
        with_reducible rfl
      rotate_left
      · simp only [Act.put, List.setIfInBounds_toArray, List.set_cons_zero, List.set_cons_succ, i64_w, i32_w]
        rfl
      refine take_ (i := 2) (N := some 113) (v := ?_) (a' := ?_) #[true, true, true, true, false, false, false] rfl rfl (by kernel_rfl) (fun _ _ _ h => h) (Or.inl ⟨by rfl, ?_⟩) hHeld ?_ ?_
      rotate_left
      · rintro w' ⟨s0, s1⟩
        go_simp
        with_reducible rfl
      rotate_left
      · simp only [Act.put, List.setIfInBounds_toArray, List.set_cons_zero, List.set_cons_succ, i64_w, i32_w]
        rfl
      refine take_ (i := 4) (N := some 115) (v := ?_) (a' := ?_) #[true, true, true, true, true, false, false] rfl rfl (by kernel_rfl) (fun _ _ _ h => h) (Or.inl ⟨by rfl, ?_⟩) hHeld ?_ ?_
      rotate_left
      · rintro w' ⟨s0, s1⟩
        go_simp
        with_reducible rfl
      rotate_left
      · simp only [Act.put, List.setIfInBounds_toArray, List.set_cons_zero, List.set_cons_succ, i64_w, i32_w]
        rfl
      refine one_ (i := 5) (N := some 116) #[true, true, true, true, true, true, false] rfl rfl (by kernel_rfl) (by decide) (fun K hK => ?_)
      refine goes_ Try.func21 (by kernel_rfl) rfl #[.slice A2 bs.length c2] (by rfl) rfl rfl (by (try simp only [List.map_toArray, List.map_cons, List.map_nil]); first | done | rfl) ?_
      with_reducible refine (lombardlaw20_JournalPlays.of hy.out (Kd.C_below CB0.out HSx.out.b)).mono ?_
      rintro e y3_ ⟨rfl, hb⟩
      refine ⟨_, rfl, ?_⟩
      have n_HSx := Aside0.mk (HSx.out.below hb)
      have n_HRx := Aside0.mk (HRx.out.below hb)
      have n_BKo := Aside0.mk (blk_below BKo.out hb)
      clear HSx
      have HSx := n_HSx
      clear n_HSx
      clear HRx
      have HRx := n_HRx
      clear n_HRx
      clear BKo
      have BKo := n_BKo
      clear n_BKo
      clear hb
      refine hK.out _ _ ⟨(blk_cell BKo.out 1).trans rfl, (blk_cell BKo.out 2).trans rfl⟩ (fun hHeld => ?_)
      clear hK K
      refine norm_ (a' := ?_) ?_ ?_
      rotate_left
      · show Act.put _ (some 116) _ = _
        simp only [Act.put, List.setIfInBounds_toArray, List.set_cons_zero, List.set_cons_succ, i64_w, i32_w]
        rfl
      refine one_ (i := 6) (N := some 117) #[true, true, true, true, true, true, true] rfl rfl (by kernel_rfl) (by decide) (fun K hK => ?_)
      refine goes_ Try.func20 (by kernel_rfl) rfl #[.pointer (some ⟨p, 0, none⟩), .int .i64 a, .agg y.cs.toArray] (by rfl) rfl rfl (by (try simp only [List.map_toArray, List.map_cons, List.map_nil]); first | done | rfl) ?_
      with_reducible refine (A_write HSx.out a y).mono ?_
      rintro e y4_ ⟨rfl, v6, hs, hm⟩
      refine ⟨_, rfl, ?_⟩
      have m_HSx := Aside0.mk (hs)
      have m_HRx := Aside0.mk (HRx.out.mvA HSx.out.s hm)
      have m_BKo := Aside0.mk (hm.blk BKo.out (HSx.out.s.far BKo.out (by decide)))
      clear HSx
      clear HRx
      clear BKo
      have HSx := m_HSx
      clear m_HSx
      have HRx := m_HRx
      clear m_HRx
      have BKo := m_BKo
      clear m_BKo
      clear hs hm
      refine hK.out _ _ ⟨(blk_cell BKo.out 1).trans rfl, (blk_cell BKo.out 2).trans rfl⟩ (fun hHeld => ?_)
      clear hK K
      refine norm_ (a' := ?_) ?_ ?_
      rotate_left
      · show Act.put _ (some 117) _ = _
        simp only [Act.put, List.setIfInBounds_toArray, List.set_cons_zero, List.set_cons_succ, i64_w, i32_w]
        rfl
      refine done_ (by kernel_rfl) ?_
      clear hHeld
      go_wp2_with fail
      have n_HSx := Aside0.mk (HSx.out.below (below_drew (Below.refl _ _)))
      have n_HRx := Aside0.mk (HRx.out.below (below_drew (Below.refl _ _)))
      have n_BKo := Aside0.mk (blk_below BKo.out (below_drew (Below.refl _ _)))
      clear HSx
      have HSx := n_HSx
      clear n_HSx
      clear HRx
      have HRx := n_HRx
      clear n_HRx
      clear BKo
      have BKo := n_BKo
      clear n_BKo
      refine start_ (n := 7) (S := fun w' => w'.cell? ⟨go, 1, none⟩ = some (.int .i64 a) ∧ w'.cell? ⟨go, 2, none⟩ = some (.slice A2 bs.length c2)) (ds := []) #[false, false, false, false, false, false, false] (by kernel_rfl) rfl rfl ⟨(blk_cell BKo.out 1).trans rfl, (blk_cell BKo.out 2).trans rfl⟩ (fun hHeld => ?_)
      generalize y4_.drew = w7 at HSx HRx BKo hHeld ⊢
      refine pure_ (i := 0) (N := some 118) (v := ?_) (a' := ?_) #[true, false, false, false, false, false, false] rfl rfl (by kernel_rfl) (fun _ _ _ h => h) (Or.inl ⟨by rfl, ?_⟩) ?_ ?_
      rotate_left
      · intro w'
        go_simp
        with_reducible rfl
      rotate_left
      · simp only [Act.put, List.setIfInBounds_toArray, List.set_cons_zero, List.set_cons_succ, i64_w, i32_w]
        rfl
      refine pure_ (i := 1) (N := some 119) (v := ?_) (a' := ?_) #[true, true, false, false, false, false, false] rfl rfl (by kernel_rfl) (fun _ _ _ h => h) (Or.inl ⟨by rfl, ?_⟩) ?_ ?_
      rotate_left
      · intro w'
        go_simp
        with_reducible rfl
      rotate_left
      · simp only [Act.put, List.setIfInBounds_toArray, List.set_cons_zero, List.set_cons_succ, i64_w, i32_w]
        rfl
      refine pure_ (i := 3) (N := some 121) (v := ?_) (a' := ?_) #[true, true, false, true, false, false, false] rfl rfl (by kernel_rfl) (fun _ _ _ h => h) (Or.inl ⟨by rfl, ?_⟩) ?_ ?_
      rotate_left
      · intro w'
        go_simp
        with_reducible rfl
      rotate_left
      · simp only [Act.put, List.setIfInBounds_toArray, List.set_cons_zero, List.set_cons_succ, i64_w, i32_w]
        rfl
      refine take_ (i := 2) (N := some 120) (v := ?_) (a' := ?_) #[true, true, true, true, false, false, false] rfl rfl (by kernel_rfl) (fun _ _ _ h => h) (Or.inl ⟨by rfl, ?_⟩) hHeld ?_ ?_
      rotate_left
      · rintro w' ⟨s0, s1⟩
        go_simp
        with_reducible rfl
      rotate_left
      · simp only [Act.put, List.setIfInBounds_toArray, List.set_cons_zero, List.set_cons_succ, i64_w, i32_w]
        rfl
      refine take_ (i := 4) (N := some 122) (v := ?_) (a' := ?_) #[true, true, true, true, true, false, false] rfl rfl (by kernel_rfl) (fun _ _ _ h => h) (Or.inl ⟨by rfl, ?_⟩) hHeld ?_ ?_
      rotate_left
      · rintro w' ⟨s0, s1⟩
        go_simp
        with_reducible rfl
      rotate_left
      · simp only [Act.put, List.setIfInBounds_toArray, List.set_cons_zero, List.set_cons_succ, i64_w, i32_w]
        rfl
      refine one_ (i := 5) (N := some 123) #[true, true, true, true, true, true, false] rfl rfl (by kernel_rfl) (by decide) (fun K hK => ?_)
      refine goes_ Try.func21 (by kernel_rfl) rfl #[.slice A2 bs.length c2] (by rfl) rfl rfl (by (try simp only [List.map_toArray, List.map_cons, List.map_nil]); first | done | rfl) ?_
      with_reducible refine (lombardlaw20_JournalPlays.of hy.out (Kd.C_below CB0.out HSx.out.b)).mono ?_
      rintro e y5_ ⟨rfl, hb⟩
      refine ⟨_, rfl, ?_⟩
      have n_HSx := Aside0.mk (HSx.out.below hb)
      have n_HRx := Aside0.mk (HRx.out.below hb)
      have n_BKo := Aside0.mk (blk_below BKo.out hb)
      clear HSx
      have HSx := n_HSx
      clear n_HSx
      clear HRx
      have HRx := n_HRx
      clear n_HRx
      clear BKo
      have BKo := n_BKo
      clear n_BKo
      clear hb
      refine hK.out _ _ ⟨(blk_cell BKo.out 1).trans rfl, (blk_cell BKo.out 2).trans rfl⟩ (fun hHeld => ?_)
      clear hK K
      refine norm_ (a' := ?_) ?_ ?_
      rotate_left
      · show Act.put _ (some 123) _ = _
        simp only [Act.put, List.setIfInBounds_toArray, List.set_cons_zero, List.set_cons_succ, i64_w, i32_w]
        rfl
      refine one_ (i := 6) (N := some 124) #[true, true, true, true, true, true, true] rfl rfl (by kernel_rfl) (by decide) (fun K hK => ?_)
      refine goes_ Try.func22 (by kernel_rfl) rfl #[.pointer (some ⟨pr, 0, none⟩), .int .i64 a, .agg y.cs.toArray] (by rfl) rfl rfl (by (try simp only [List.map_toArray, List.map_cons, List.map_nil]); first | done | rfl) ?_
      with_reducible refine (r_Write HRx.out HSx.out.b.size a y).mono ?_
      rintro e y6_ ⟨rfl, vr6, hs, hm⟩
      refine ⟨_, rfl, ?_⟩
      have m_HSx := Aside0.mk (HSx.out.mvR HRx.out hm)
      have m_HRx := Aside0.mk (hs)
      have m_BKo := Aside0.mk (hm.blk BKo.out (HRx.out.far BKo.out (by decide)))
      clear HSx
      clear HRx
      clear BKo
      have HSx := m_HSx
      clear m_HSx
      have HRx := m_HRx
      clear m_HRx
      have BKo := m_BKo
      clear m_BKo
      clear hs hm
      refine hK.out _ _ ⟨(blk_cell BKo.out 1).trans rfl, (blk_cell BKo.out 2).trans rfl⟩ (fun hHeld => ?_)
      clear hK K
      refine norm_ (a' := ?_) ?_ ?_
      rotate_left
      · show Act.put _ (some 124) _ = _
        simp only [Act.put, List.setIfInBounds_toArray, List.set_cons_zero, List.set_cons_succ, i64_w, i32_w]
        rfl
      refine done_ (by kernel_rfl) ?_
      clear hHeld
      have HOx := Aside0.mk (wrW_ok HO.out hz.out a)
      generalize wrW L W a y = W1 at HSx HRx HOx
      have BKx := BKo
      have hlx := hln
      clear BKo hj0 hj1 hj2 hj3 HO
      obtain ⟨rs2, hrs2⟩ : ∃ rs2, recs L W1 = rs2 := ⟨_, rfl⟩
      have hr2 : Aside0 (∀ r ∈ rs2, okR r) := ⟨by rw [← hrs2]; exact recs_ok HOx.out⟩
      have hu2 : usum rs2 ≤ n := by rw [← hrs2, ← hlx.out]; exact recs_us HOx.out
      obtain ⟨⟨er, L3, W3⟩, hq⟩ : ∃ q, wipeR L W1 (usum rs2) = q := ⟨_, rfl⟩
      have ho3 := wipeR_ok HOx.out (usum rs2)
      have hl3 := wipeR_len L W1 (usum rs2)
      rw [hq] at ho3 hl3
      rw [hlx.out] at hl3
      simp only at ho3 hl3
      have hu3 : Aside0 (usum rs2 ≤ L3.length) := ⟨by rw [hl3]; exact hu2⟩
      replace hrs2 := Aside0.mk hrs2
      replace hu2 := Aside0.mk hu2
      replace hq := Aside0.mk hq
      replace ho3 := Aside0.mk ho3
      replace hl3 := Aside0.mk hl3
      by_cases h0 : er = 0
      case pos =>
        subst h0
        go_wp2_with fail
        refine (lombardlaw20_JournalPlays.open0 HSx.out HOx.out hrs2.out hq.out).mono ?_
        rintro e z1 ⟨pj2, lv2, v2, rfl, hl, hm⟩
        have HR2 := Aside0.mk (HRx.out.mvA HSx.out.s hm)
        have HL2 := Aside0.mk hl
        have BK2 := Aside0.mk (hm.blk BKx.out (HSx.out.s.far BKx.out (by decide)))
        clear hl hm HSx HRx BKx
        go_wp2_with fail
        refine (lombardlaw20_JournalPlays.kopen0 HR2.out HL2.out.s.b.size HOx.out hrs2.out hq.out).mono ?_
        rintro e z2 ⟨pk2, lk2, vr2, rfl, hl, hm⟩
        obtain ⟨ha, hd⟩ := HL2.out.afterK HR2.out hm
        have HL3 := Aside0.mk ha
        have HK3 := Aside0.mk hl
        have HD3 := Aside0.mk hd
        have BK3 := Aside0.mk (hm.blk BK2.out (HR2.out.far BK2.out (by decide)))
        clear hl hm ha hd HR2 HL2 BK2
        go_wp2_with fail
        go_meet
        case rel => exact ⟨0, rfl, rfl, .inr ⟨pj2, pk2, lv2, lk2, v2, vr2, L3, W3, rs2, rfl, rfl, hl3, HL3, HK3, HD3, ho3, hu3, hr2, BK3⟩⟩
      go_wp2_with fail
      refine (lombardlaw20_JournalPlays.openE HSx.out HOx.out hrs2.out hq.out h0).mono ?_
      rintro e z1 ⟨rfl, F1, hb, hm⟩
      have HR2 := Aside0.mk (HRx.out.mvA HSx.out.s hm)
      have HB2 := Aside0.mk hb
      clear hb hm HSx HRx BKx
      go_wp2_with fail
      refine (lombardlaw20_JournalPlays.kopenE HR2.out HB2.out HOx.out hrs2.out hq.out h0).mono ?_
      rintro e z2 ⟨rfl, hb⟩
      have HB3 := Aside0.mk hb
      clear hb HR2 HB2
      go_wp2_with fail
      go_meet
      case rel => exact ⟨er, rfl, rfl, .inl ⟨rfl, rfl, HB3⟩⟩
    case rest =>
      clear HL HK HD HO BKo hln hu hrok hj0 hj1 hj2 hj3
      obtain ⟨er, rfl, rfl, hcut⟩ := hcut
      rcases hcut with ⟨rfl, rfl, HB⟩ | ⟨pj, pk, lv, lk, v, vr, L, W, rs, rfl, rfl, hln, HL, HK, HD, HO, hu, hrok, BKo⟩
      · go_wp2_with fail
        go_ret
        exact ⟨rfl, HB.out⟩
      obtain ⟨Ak, ck, hAk⟩ := Kd.R_slice HK.out.r
      subst hAk
      obtain ⟨Ar, cr, hvr, hcr0, _⟩ := Kd.R_reads HK.out.s.hw
      rw [List.length_map] at hvr hcr0
      subst hvr
      have hrl : rs.length ≤ 5000 := by have := usum_len rs; have := HL.out.s.s.hL.2; have := hu.out; omega
      have hwm : (W.length : Int) ≤ 4096 := by have := HL.out.s.s.hW.1; omega
      have hun : ((usum rs : Nat) : Int) ≤ 4096 := by have := HL.out.s.s.hL.2; have := hu.out; omega
      obtain ⟨f, hf⟩ : ∃ f, fits L (usum rs) a = f := ⟨_, rfl⟩
      replace hf := Aside0.mk hf
      go_wp2_with fail
      have n_HL := Aside0.mk (HL.out.below (below_drew (Below.refl _ _)))
      have n_HK := Aside0.mk (HK.out.below (below_drew (Below.refl _ _)))
      have n_BKo := Aside0.mk (blk_below BKo.out (below_drew (Below.refl _ _)))
      clear HL
      have HL := n_HL
      clear n_HL
      clear HK
      have HK := n_HK
      clear n_HK
      clear BKo
      have BKo := n_BKo
      clear n_BKo
      refine start_ (n := 38) (S := fun w' => w'.cell? ⟨pk, 1, none⟩ = some (.slice Ak rs.length ck) ∧ w'.cell? ⟨pk, 2, none⟩ = some (.int .i64 (usum rs : Nat)) ∧ w'.cell? ⟨go, 1, none⟩ = some (.int .i64 a) ∧ w'.cell? ⟨pr, 1, none⟩ = some (.slice Ar W.length cr)) (ds := []) #[false, false, false, false, false, false, false, false, false, false, false, false, false, false, false, false, false, false, false, false, false, false, false, false, false, false, false, false, false, false, false, false, false, false, false, false, false, false] (by kernel_rfl) rfl rfl ⟨(blk_cell HK.out.j 1).trans rfl, (blk_cell HK.out.j 2).trans rfl, (blk_cell BKo.out 1).trans rfl, (blk_cell HK.out.s.hp 1).trans rfl⟩ (fun hHeld => ?_)
      generalize wc.drew = w8 at HL HK BKo hHeld ⊢
      refine pure_ (i := 0) (N := some 150) (v := ?_) (a' := ?_) #[true, false, false, false, false, false, false, false, false, false, false, false, false, false, false, false, false, false, false, false, false, false, false, false, false, false, false, false, false, false, false, false, false, false, false, false, false, false] rfl rfl (by kernel_rfl) (fun _ _ _ h => h) (Or.inl ⟨by rfl, ?_⟩) ?_ ?_
      rotate_left
      · intro w'
        go_simp
        with_reducible rfl
      rotate_left
      · simp only [Act.put, List.setIfInBounds_toArray, List.set_cons_zero, List.set_cons_succ, i64_w, i32_w]
        rfl
      refine pure_ (i := 2) (N := some 152) (v := ?_) (a' := ?_) #[true, false, true, false, false, false, false, false, false, false, false, false, false, false, false, false, false, false, false, false, false, false, false, false, false, false, false, false, false, false, false, false, false, false, false, false, false, false] rfl rfl (by kernel_rfl) (fun _ _ _ h => h) (Or.inl ⟨by rfl, ?_⟩) ?_ ?_
      rotate_left
      · intro w'
        go_simp
        with_reducible rfl
      rotate_left
      · simp only [Act.put, List.setIfInBounds_toArray, List.set_cons_zero, List.set_cons_succ, i64_w, i32_w]
        rfl
      refine pure_ (i := 3) (N := some 153) (v := ?_) (a' := ?_) #[true, false, true, true, false, false, false, false, false, false, false, false, false, false, false, false, false, false, false, false, false, false, false, false, false, false, false, false, false, false, false, false, false, false, false, false, false, false] rfl rfl (by kernel_rfl) (fun _ _ _ h => h) (Or.inl ⟨by rfl, ?_⟩) ?_ ?_
      rotate_left
      · intro w'
        go_simp
        with_reducible rfl
      rotate_left
      · simp only [Act.put, List.setIfInBounds_toArray, List.set_cons_zero, List.set_cons_succ, i64_w, i32_w]
        rfl
      refine pure_ (i := 4) (N := some 154) (v := ?_) (a' := ?_) #[true, false, true, true, true, false, false, false, false, false, false, false, false, false, false, false, false, false, false, false, false, false, false, false, false, false, false, false, false, false, false, false, false, false, false, false, false, false] rfl rfl (by kernel_rfl) (fun _ _ _ h => h) (Or.inl ⟨by rfl, ?_⟩) ?_ ?_
      rotate_left
      · intro w'
        go_simp
        with_reducible rfl
      rotate_left
      · simp only [Act.put, List.setIfInBounds_toArray, List.set_cons_zero, List.set_cons_succ, i64_w, i32_w]
        rfl
      refine take_ (i := 5) (N := some 155) (v := ?_) (a' := ?_) #[true, false, true, true, true, true, false, false, false, false, false, false, false, false, false, false, false, false, false, false, false, false, false, false, false, false, false, false, false, false, false, false, false, false, false, false, false, false] rfl rfl (by kernel_rfl) (fun _ _ _ h => h) (Or.inl ⟨by rfl, ?_⟩) hHeld ?_ ?_
      rotate_left
      · rintro w' ⟨s0, s1, s2, s3⟩
        go_simp
        with_reducible rfl
      rotate_left
      · simp only [Act.put, List.setIfInBounds_toArray, List.set_cons_zero, List.set_cons_succ, i64_w, i32_w]
        rfl
      refine one_ (i := 1) (N := some 151) #[true, true, true, true, true, true, false, false, false, false, false, false, false, false, false, false, false, false, false, false, false, false, false, false, false, false, false, false, false, false, false, false, false, false, false, false, false, false] rfl rfl (by kernel_rfl) (by decide) (fun K hK => ?_)
      refine goes_ Try.func23 (by kernel_rfl) rfl #[.pointer (some ⟨pj, 0, none⟩)] (by rfl) rfl rfl (by (try simp only [List.map_toArray, List.map_cons, List.map_nil]); first | done | rfl) ?_
      with_reducible refine (j_Used HL.out.j).mono ?_
      rintro e y7_ ⟨rfl, hb⟩
      refine ⟨_, rfl, ?_⟩
      have n_HL := Aside0.mk (HL.out.below hb)
      have n_HK := Aside0.mk (HK.out.below hb)
      have n_BKo := Aside0.mk (blk_below BKo.out hb)
      clear HL
      have HL := n_HL
      clear n_HL
      clear HK
      have HK := n_HK
      clear n_HK
      clear BKo
      have BKo := n_BKo
      clear n_BKo
      clear hb
      refine hK.out _ _ ⟨(blk_cell HK.out.j 1).trans rfl, (blk_cell HK.out.j 2).trans rfl, (blk_cell BKo.out 1).trans rfl, (blk_cell HK.out.s.hp 1).trans rfl⟩ (fun hHeld => ?_)
      clear hK K
      refine norm_ (a' := ?_) ?_ ?_
      rotate_left
      · show Act.put _ (some 151) _ = _
        simp only [Act.put, List.setIfInBounds_toArray, List.set_cons_zero, List.set_cons_succ, i64_w, i32_w]
        rfl
      refine pure_ (i := 6) (N := some 156) (v := ?_) (a' := ?_) #[true, true, true, true, true, true, true, false, false, false, false, false, false, false, false, false, false, false, false, false, false, false, false, false, false, false, false, false, false, false, false, false, false, false, false, false, false, false] rfl rfl (by kernel_rfl) (fun _ _ _ h => h) (Or.inl ⟨by rfl, ?_⟩) ?_ ?_
      rotate_left
      · intro w'
        go_simp
        with_reducible rfl
      rotate_left
      · simp only [Act.put, List.setIfInBounds_toArray, List.set_cons_zero, List.set_cons_succ, i64_w, i32_w]
        rfl
      refine pure_ (i := 7) (N := some 157) (v := ?_) (a' := ?_) #[true, true, true, true, true, true, true, true, false, false, false, false, false, false, false, false, false, false, false, false, false, false, false, false, false, false, false, false, false, false, false, false, false, false, false, false, false, false] rfl rfl (by kernel_rfl) (fun _ _ _ h => h) (Or.inl ⟨by rfl, ?_⟩) ?_ ?_
      rotate_left
      · intro w'
        go_simp
        with_reducible rfl
      rotate_left
      · simp only [Act.put, List.setIfInBounds_toArray, List.set_cons_zero, List.set_cons_succ, i64_w, i32_w]
        rfl
      refine pure_ (i := 8) (N := some 158) (v := ?_) (a' := ?_) #[true, true, true, true, true, true, true, true, true, false, false, false, false, false, false, false, false, false, false, false, false, false, false, false, false, false, false, false, false, false, false, false, false, false, false, false, false, false] rfl rfl (by kernel_rfl) (fun _ _ _ h => h) (Or.inl ⟨by rfl, ?_⟩) ?_ ?_
      rotate_left
      · intro w'
        go_simp
        with_reducible rfl
      rotate_left
      · simp only [Act.put, List.setIfInBounds_toArray, List.set_cons_zero, List.set_cons_succ, i64_w, i32_w]
        rfl
      refine pure_ (i := 10) (N := some 160) (v := ?_) (a' := ?_) #[true, true, true, true, true, true, true, true, true, false, true, false, false, false, false, false, false, false, false, false, false, false, false, false, false, false, false, false, false, false, false, false, false, false, false, false, false, false] rfl rfl (by kernel_rfl) (fun _ _ _ h => h) (Or.inl ⟨by rfl, ?_⟩) ?_ ?_
      rotate_left
      · intro w'
        go_simp
        with_reducible rfl
      rotate_left
      · simp only [Act.put, List.setIfInBounds_toArray, List.set_cons_zero, List.set_cons_succ, i64_w, i32_w]
        rfl
      refine pure_ (i := 11) (N := some 161) (v := ?_) (a' := ?_) #[true, true, true, true, true, true, true, true, true, false, true, true, false, false, false, false, false, false, false, false, false, false, false, false, false, false, false, false, false, false, false, false, false, false, false, false, false, false] rfl rfl (by kernel_rfl) (fun _ _ _ h => h) (Or.inl ⟨by rfl, ?_⟩) ?_ ?_
      rotate_left
      · intro w'
        go_simp
        with_reducible rfl
      rotate_left
      · simp only [Act.put, List.setIfInBounds_toArray, List.set_cons_zero, List.set_cons_succ, i64_w, i32_w]
        rfl
      refine pure_ (i := 12) (N := some 162) (v := ?_) (a' := ?_) #[true, true, true, true, true, true, true, true, true, false, true, true, true, false, false, false, false, false, false, false, false, false, false, false, false, false, false, false, false, false, false, false, false, false, false, false, false, false] rfl rfl (by kernel_rfl) (fun _ _ _ h => h) (Or.inl ⟨by rfl, ?_⟩) ?_ ?_
      rotate_left
      · intro w'
        go_simp
        with_reducible rfl
      rotate_left
      · simp only [Act.put, List.setIfInBounds_toArray, List.set_cons_zero, List.set_cons_succ, i64_w, i32_w]
        rfl
      refine take_ (i := 13) (N := some 163) (v := ?_) (a' := ?_) #[true, true, true, true, true, true, true, true, true, false, true, true, true, true, false, false, false, false, false, false, false, false, false, false, false, false, false, false, false, false, false, false, false, false, false, false, false, false] rfl rfl (by kernel_rfl) (fun _ _ _ h => h) (Or.inl ⟨by rfl, ?_⟩) hHeld ?_ ?_
      rotate_left
      · rintro w' ⟨s0, s1, s2, s3⟩
        go_simp
        with_reducible rfl
      rotate_left
      · simp only [Act.put, List.setIfInBounds_toArray, List.set_cons_zero, List.set_cons_succ, i64_w, i32_w]
        rfl
      refine one_ (i := 9) (N := some 159) #[true, true, true, true, true, true, true, true, true, true, true, true, true, true, false, false, false, false, false, false, false, false, false, false, false, false, false, false, false, false, false, false, false, false, false, false, false, false] rfl rfl (by kernel_rfl) (by decide) (fun K hK => ?_)
      refine goes_ Try.func25 (by kernel_rfl) rfl #[.pointer (some ⟨pj, 0, none⟩)] (by rfl) rfl rfl (by (try simp only [List.map_toArray, List.map_cons, List.map_nil]); first | done | rfl) ?_
      with_reducible refine (C_records HL.out.j HL.out.r hrok.out hrl).mono ?_
      rintro e y8_ ⟨A9, c9, rfl, hR, hb⟩
      refine ⟨_, rfl, ?_⟩
      have m_RR := Aside0.mk (show RB _ w.heap.size (fun k => w.heap.size ≤ k) (.slice A9 rs.length c9) rs from Kd.R_mono (Kd.R_lower hR HL.out.s.b.size) (fun k hk => Nat.le_trans HL.out.s.b.size hk))
      have n_HL := Aside0.mk (HL.out.below hb)
      have n_HK := Aside0.mk (HK.out.below hb)
      have n_BKo := Aside0.mk (blk_below BKo.out hb)
      clear HL
      have HL := n_HL
      clear n_HL
      clear HK
      have HK := n_HK
      clear n_HK
      clear BKo
      have BKo := n_BKo
      clear n_BKo
      clear hb
      have RR := m_RR
      clear m_RR
      clear hR
      refine hK.out _ _ ⟨(blk_cell HK.out.j 1).trans rfl, (blk_cell HK.out.j 2).trans rfl, (blk_cell BKo.out 1).trans rfl, (blk_cell HK.out.s.hp 1).trans rfl⟩ (fun hHeld => ?_)
      clear hK K
      refine norm_ (a' := ?_) ?_ ?_
      rotate_left
      · show Act.put _ (some 159) _ = _
        simp only [Act.put, List.setIfInBounds_toArray, List.set_cons_zero, List.set_cons_succ, i64_w, i32_w]
        rfl
      refine one_ (i := 14) (N := some 164) #[true, true, true, true, true, true, true, true, true, true, true, true, true, true, true, false, false, false, false, false, false, false, false, false, false, false, false, false, false, false, false, false, false, false, false, false, false, false] rfl rfl (by kernel_rfl) (by decide) (fun K hK => ?_)
      refine goes_ Try.func24 (by kernel_rfl) rfl #[.slice A9 rs.length c9, .slice Ak rs.length ck] (by rfl) rfl rfl (by (try simp only [List.map_toArray, List.map_cons, List.map_nil]); first | done | rfl) ?_
      with_reducible refine (lombardlaw20_JournalPlays.same2 RR.out HK.out.r).mono ?_
      rintro e y9_ ⟨rfl, hb⟩
      refine ⟨_, rfl, ?_⟩
      have n_HL := Aside0.mk (HL.out.below hb)
      have n_HK := Aside0.mk (HK.out.below hb)
      have n_BKo := Aside0.mk (blk_below BKo.out hb)
      have n_RR := Aside0.mk (Kd.R_below RR.out hb)
      clear HL
      have HL := n_HL
      clear n_HL
      clear HK
      have HK := n_HK
      clear n_HK
      clear BKo
      have BKo := n_BKo
      clear n_BKo
      clear RR
      have RR := n_RR
      clear n_RR
      clear hb
      refine hK.out _ _ ⟨(blk_cell HK.out.j 1).trans rfl, (blk_cell HK.out.j 2).trans rfl, (blk_cell BKo.out 1).trans rfl, (blk_cell HK.out.s.hp 1).trans rfl⟩ (fun hHeld => ?_)
      clear hK K
      refine norm_ (a' := ?_) ?_ ?_
      rotate_left
      · show Act.put _ (some 164) _ = _
        simp only [Act.put, List.setIfInBounds_toArray, List.set_cons_zero, List.set_cons_succ, i64_w, i32_w]
        rfl
      refine pure_ (i := 15) (N := some 165) (v := ?_) (a' := ?_) #[true, true, true, true, true, true, true, true, true, true, true, true, true, true, true, true, false, false, false, false, false, false, false, false, false, false, false, false, false, false, false, false, false, false, false, false, false, false] rfl rfl (by kernel_rfl) (fun _ _ _ h => h) (Or.inl ⟨by rfl, ?_⟩) ?_ ?_
      rotate_left
      · intro w'
        go_simp
        with_reducible rfl
      rotate_left
      · simp only [Act.put, List.setIfInBounds_toArray, List.set_cons_zero, List.set_cons_succ, i64_w, i32_w]
        rfl
      refine pure_ (i := 16) (N := some 166) (v := ?_) (a' := ?_) #[true, true, true, true, true, true, true, true, true, true, true, true, true, true, true, true, true, false, false, false, false, false, false, false, false, false, false, false, false, false, false, false, false, false, false, false, false, false] rfl rfl (by kernel_rfl) (fun _ _ _ h => h) (Or.inl ⟨by rfl, ?_⟩) ?_ ?_
      rotate_left
      · intro w'
        go_simp
        with_reducible rfl
      rotate_left
      · simp only [Act.put, List.setIfInBounds_toArray, List.set_cons_zero, List.set_cons_succ, i64_w, i32_w]
        rfl
      refine pure_ (i := 17) (N := some 167) (v := ?_) (a' := ?_) #[true, true, true, true, true, true, true, true, true, true, true, true, true, true, true, true, true, true, false, false, false, false, false, false, false, false, false, false, false, false, false, false, false, false, false, false, false, false] rfl rfl (by kernel_rfl) (fun _ _ _ h => h) (Or.inl ⟨by rfl, ?_⟩) ?_ ?_
      rotate_left
      · intro w'
        go_simp
        with_reducible rfl
      rotate_left
      · simp only [Act.put, List.setIfInBounds_toArray, List.set_cons_zero, List.set_cons_succ, i64_w, i32_w]
        rfl
      refine pure_ (i := 18) (N := some 168) (v := ?_) (a' := ?_) #[true, true, true, true, true, true, true, true, true, true, true, true, true, true, true, true, true, true, true, false, false, false, false, false, false, false, false, false, false, false, false, false, false, false, false, false, false, false] rfl rfl (by kernel_rfl) (fun _ _ _ h => h) (Or.inl ⟨by rfl, ?_⟩) ?_ ?_
      rotate_left
      · intro w'
        go_simp
        with_reducible rfl
      rotate_left
      · simp only [Act.put, List.setIfInBounds_toArray, List.set_cons_zero, List.set_cons_succ, i64_w, i32_w]
        rfl
      refine pure_ (i := 19) (N := some 169) (v := ?_) (a' := ?_) #[true, true, true, true, true, true, true, true, true, true, true, true, true, true, true, true, true, true, true, true, false, false, false, false, false, false, false, false, false, false, false, false, false, false, false, false, false, false] rfl rfl (by kernel_rfl) (fun _ _ _ h => h) (Or.inl ⟨by rfl, ?_⟩) ?_ ?_
      rotate_left
      · intro w'
        go_simp
        with_reducible rfl
      rotate_left
      · simp only [Act.put, List.setIfInBounds_toArray, List.set_cons_zero, List.set_cons_succ, i64_w, i32_w]
        rfl
      refine pure_ (i := 22) (N := some 172) (v := ?_) (a' := ?_) #[true, true, true, true, true, true, true, true, true, true, true, true, true, true, true, true, true, true, true, true, false, false, true, false, false, false, false, false, false, false, false, false, false, false, false, false, false, false] rfl rfl (by kernel_rfl) (fun _ _ _ h => h) (Or.inl ⟨by rfl, ?_⟩) ?_ ?_
      rotate_left
      · intro w'
        go_simp
        with_reducible rfl
      rotate_left
      · simp only [Act.put, List.setIfInBounds_toArray, List.set_cons_zero, List.set_cons_succ, i64_w, i32_w]
        rfl
      refine pure_ (i := 23) (N := some 173) (v := ?_) (a' := ?_) #[true, true, true, true, true, true, true, true, true, true, true, true, true, true, true, true, true, true, true, true, false, false, true, true, false, false, false, false, false, false, false, false, false, false, false, false, false, false] rfl rfl (by kernel_rfl) (fun _ _ _ h => h) (Or.inl ⟨by rfl, ?_⟩) ?_ ?_
      rotate_left
      · intro w'
        go_simp
        with_reducible rfl
      rotate_left
      · simp only [Act.put, List.setIfInBounds_toArray, List.set_cons_zero, List.set_cons_succ, i64_w, i32_w]
        rfl
      refine take_ (i := 20) (N := some 170) (v := ?_) (a' := ?_) #[true, true, true, true, true, true, true, true, true, true, true, true, true, true, true, true, true, true, true, true, true, false, true, true, false, false, false, false, false, false, false, false, false, false, false, false, false, false] rfl rfl (by kernel_rfl) (fun _ _ _ h => h) (Or.inl ⟨by rfl, ?_⟩) hHeld ?_ ?_
      rotate_left
      · rintro w' ⟨s0, s1, s2, s3⟩
        go_simp
        with_reducible rfl
      rotate_left
      · simp only [Act.put, List.setIfInBounds_toArray, List.set_cons_zero, List.set_cons_succ, i64_w, i32_w]
        rfl
      refine take_ (i := 24) (N := some 174) (v := ?_) (a' := ?_) #[true, true, true, true, true, true, true, true, true, true, true, true, true, true, true, true, true, true, true, true, true, false, true, true, true, false, false, false, false, false, false, false, false, false, false, false, false, false] rfl rfl (by kernel_rfl) (fun _ _ _ h => h) (Or.inl ⟨by rfl, ?_⟩) hHeld ?_ ?_
      rotate_left
      · rintro w' ⟨s0, s1, s2, s3⟩
        go_simp
        with_reducible rfl
      rotate_left
      · simp only [Act.put, List.setIfInBounds_toArray, List.set_cons_zero, List.set_cons_succ, i64_w, i32_w]
        rfl
      refine one_ (i := 21) (N := some 171) #[true, true, true, true, true, true, true, true, true, true, true, true, true, true, true, true, true, true, true, true, true, true, true, true, true, false, false, false, false, false, false, false, false, false, false, false, false, false] rfl rfl (by kernel_rfl) (by decide) (fun K hK => ?_)
      refine goes_ Try.func26 (by kernel_rfl) rfl #[.pointer (some ⟨pj, 0, none⟩), .int .i64 a] (by rfl) rfl rfl (by (try simp only [List.map_toArray, List.map_cons, List.map_nil]); first | done | rfl) ?_
      with_reducible refine (lombardlaw20_JournalPlays.jfits HL.out.s.s HL.out.j hu.out a hf.out).mono ?_
      rintro e y10_ ⟨rfl, hb⟩
      refine ⟨_, rfl, ?_⟩
      have n_HL := Aside0.mk (HL.out.below hb)
      have n_HK := Aside0.mk (HK.out.below hb)
      have n_BKo := Aside0.mk (blk_below BKo.out hb)
      have n_RR := Aside0.mk (Kd.R_below RR.out hb)
      clear HL
      have HL := n_HL
      clear n_HL
      clear HK
      have HK := n_HK
      clear n_HK
      clear BKo
      have BKo := n_BKo
      clear n_BKo
      clear RR
      have RR := n_RR
      clear n_RR
      clear hb
      refine hK.out _ _ ⟨(blk_cell HK.out.j 1).trans rfl, (blk_cell HK.out.j 2).trans rfl, (blk_cell BKo.out 1).trans rfl, (blk_cell HK.out.s.hp 1).trans rfl⟩ (fun hHeld => ?_)
      clear hK K
      refine norm_ (a' := ?_) ?_ ?_
      rotate_left
      · show Act.put _ (some 171) _ = _
        simp only [Act.put, List.setIfInBounds_toArray, List.set_cons_zero, List.set_cons_succ, i64_w, i32_w]
        rfl
      refine one_ (i := 25) (N := some 175) #[true, true, true, true, true, true, true, true, true, true, true, true, true, true, true, true, true, true, true, true, true, true, true, true, true, true, false, false, false, false, false, false, false, false, false, false, false, false] rfl rfl (by kernel_rfl) (by decide) (fun K hK => ?_)
      refine goes_ Try.func27 (by kernel_rfl) rfl #[.pointer (some ⟨pk, 0, none⟩), .int .i64 a] (by rfl) rfl rfl (by (try simp only [List.map_toArray, List.map_cons, List.map_nil]); first | done | rfl) ?_
      with_reducible refine (lombardlaw20_JournalPlays.kfits HK.out.s HK.out.j hu.out a hf.out).mono ?_
      rintro e y11_ ⟨rfl, hb⟩
      refine ⟨_, rfl, ?_⟩
      have n_HL := Aside0.mk (HL.out.below hb)
      have n_HK := Aside0.mk (HK.out.below hb)
      have n_BKo := Aside0.mk (blk_below BKo.out hb)
      have n_RR := Aside0.mk (Kd.R_below RR.out hb)
      clear HL
      have HL := n_HL
      clear n_HL
      clear HK
      have HK := n_HK
      clear n_HK
      clear BKo
      have BKo := n_BKo
      clear n_BKo
      clear RR
      have RR := n_RR
      clear n_RR
      clear hb
      refine hK.out _ _ ⟨(blk_cell HK.out.j 1).trans rfl, (blk_cell HK.out.j 2).trans rfl, (blk_cell BKo.out 1).trans rfl, (blk_cell HK.out.s.hp 1).trans rfl⟩ (fun hHeld => ?_)
      clear hK K
      refine norm_ (a' := ?_) ?_ ?_
      rotate_left
      · show Act.put _ (some 175) _ = _
        simp only [Act.put, List.setIfInBounds_toArray, List.set_cons_zero, List.set_cons_succ, i64_w, i32_w]
        rfl
      refine pure_ (i := 26) (N := some 176) (v := ?_) (a' := ?_) #[true, true, true, true, true, true, true, true, true, true, true, true, true, true, true, true, true, true, true, true, true, true, true, true, true, true, true, false, false, false, false, false, false, false, false, false, false, false] rfl rfl (by kernel_rfl) (fun _ _ _ h => h) (Or.inl ⟨by rfl, ?_⟩) ?_ ?_
      rotate_left
      · intro w'
        go_simp
        with_reducible rfl
      rotate_left
      · simp only [Act.put, List.setIfInBounds_toArray, List.set_cons_zero, List.set_cons_succ, i64_w, i32_w]
        rfl
      refine pure_ (i := 27) (N := some 177) (v := ?_) (a' := ?_) #[true, true, true, true, true, true, true, true, true, true, true, true, true, true, true, true, true, true, true, true, true, true, true, true, true, true, true, true, false, false, false, false, false, false, false, false, false, false] rfl rfl (by kernel_rfl) (fun _ _ _ h => h) (Or.inl ⟨by rfl, ?_⟩) ?_ ?_
      rotate_left
      · intro w'
        go_simp
        with_reducible rfl
      rotate_left
      · simp only [Act.put, List.setIfInBounds_toArray, List.set_cons_zero, List.set_cons_succ, i64_w, i32_w]
        rfl
      refine pure_ (i := 28) (N := some 178) (v := ?_) (a' := ?_) #[true, true, true, true, true, true, true, true, true, true, true, true, true, true, true, true, true, true, true, true, true, true, true, true, true, true, true, true, true, false, false, false, false, false, false, false, false, false] rfl rfl (by kernel_rfl) (fun _ _ _ h => h) (Or.inl ⟨by rfl, ?_⟩) ?_ ?_
      rotate_left
      · intro w'
        go_simp
        with_reducible rfl
      rotate_left
      · simp only [Act.put, List.setIfInBounds_toArray, List.set_cons_zero, List.set_cons_succ, i64_w, i32_w]
        rfl
      refine pure_ (i := 29) (N := some 179) (v := ?_) (a' := ?_) #[true, true, true, true, true, true, true, true, true, true, true, true, true, true, true, true, true, true, true, true, true, true, true, true, true, true, true, true, true, true, false, false, false, false, false, false, false, false] rfl rfl (by kernel_rfl) (fun _ _ _ h => h) (Or.inl ⟨by rfl, ?_⟩) ?_ ?_
      rotate_left
      · intro w'
        go_simp
        with_reducible rfl
      rotate_left
      · simp only [Act.put, List.setIfInBounds_toArray, List.set_cons_zero, List.set_cons_succ, i64_w, i32_w]
        rfl
      refine pure_ (i := 31) (N := some 181) (v := ?_) (a' := ?_) #[true, true, true, true, true, true, true, true, true, true, true, true, true, true, true, true, true, true, true, true, true, true, true, true, true, true, true, true, true, true, false, true, false, false, false, false, false, false] rfl rfl (by kernel_rfl) (fun _ _ _ h => h) (Or.inl ⟨by rfl, ?_⟩) ?_ ?_
      rotate_left
      · intro w'
        go_simp
        with_reducible rfl
      rotate_left
      · simp only [Act.put, List.setIfInBounds_toArray, List.set_cons_zero, List.set_cons_succ, i64_w, i32_w]
        rfl
      refine pure_ (i := 32) (N := some 182) (v := ?_) (a' := ?_) #[true, true, true, true, true, true, true, true, true, true, true, true, true, true, true, true, true, true, true, true, true, true, true, true, true, true, true, true, true, true, false, true, true, false, false, false, false, false] rfl rfl (by kernel_rfl) (fun _ _ _ h => h) (Or.inl ⟨by rfl, ?_⟩) ?_ ?_
      rotate_left
      · intro w'
        go_simp
        with_reducible rfl
      rotate_left
      · simp only [Act.put, List.setIfInBounds_toArray, List.set_cons_zero, List.set_cons_succ, i64_w, i32_w]
        rfl
      refine pure_ (i := 33) (N := some 183) (v := ?_) (a' := ?_) #[true, true, true, true, true, true, true, true, true, true, true, true, true, true, true, true, true, true, true, true, true, true, true, true, true, true, true, true, true, true, false, true, true, true, false, false, false, false] rfl rfl (by kernel_rfl) (fun _ _ _ h => h) (Or.inl ⟨by rfl, ?_⟩) ?_ ?_
      rotate_left
      · intro w'
        go_simp
        with_reducible rfl
      rotate_left
      · simp only [Act.put, List.setIfInBounds_toArray, List.set_cons_zero, List.set_cons_succ, i64_w, i32_w]
        rfl
      refine take_ (i := 34) (N := some 184) (v := ?_) (a' := ?_) #[true, true, true, true, true, true, true, true, true, true, true, true, true, true, true, true, true, true, true, true, true, true, true, true, true, true, true, true, true, true, false, true, true, true, true, false, false, false] rfl rfl (by kernel_rfl) (fun _ _ _ h => h) (Or.inl ⟨by rfl, ?_⟩) hHeld ?_ ?_
      rotate_left
      · rintro w' ⟨s0, s1, s2, s3⟩
        go_simp
        with_reducible rfl
      rotate_left
      · simp only [Act.put, List.setIfInBounds_toArray, List.set_cons_zero, List.set_cons_succ, i64_w, i32_w]
        rfl
      refine pure_ (i := 35) (N := some 185) (v := ?_) (a' := ?_) #[true, true, true, true, true, true, true, true, true, true, true, true, true, true, true, true, true, true, true, true, true, true, true, true, true, true, true, true, true, true, false, true, true, true, true, true, false, false] rfl rfl (by kernel_rfl) (fun _ _ _ h => h) (Or.inl ⟨by rfl, ?_⟩) ?_ ?_
      rotate_left
      · intro w'
        go_simp
        with_reducible rfl
      rotate_left
      · simp only [Act.put, List.setIfInBounds_toArray, List.set_cons_zero, List.set_cons_succ, i64_w, i32_w]
        rfl
      refine one_ (i := 30) (N := some 180) #[true, true, true, true, true, true, true, true, true, true, true, true, true, true, true, true, true, true, true, true, true, true, true, true, true, true, true, true, true, true, true, true, true, true, true, true, false, false] rfl rfl (by kernel_rfl) (by decide) (fun K hK => ?_)
      refine goes_ Try.func28 (by kernel_rfl) rfl #[.pointer (some ⟨p, 0, none⟩)] (by rfl) rfl rfl (by (try simp only [List.map_toArray, List.map_cons, List.map_nil]); first | done | rfl) ?_
      with_reducible refine (b_Waiting HL.out.s.s).mono ?_
      rintro e y12_ ⟨rfl, hb⟩
      refine ⟨_, rfl, ?_⟩
      have n_HL := Aside0.mk (HL.out.below hb)
      have n_HK := Aside0.mk (HK.out.below hb)
      have n_BKo := Aside0.mk (blk_below BKo.out hb)
      have n_RR := Aside0.mk (Kd.R_below RR.out hb)
      clear HL
      have HL := n_HL
      clear n_HL
      clear HK
      have HK := n_HK
      clear n_HK
      clear BKo
      have BKo := n_BKo
      clear n_BKo
      clear RR
      have RR := n_RR
      clear n_RR
      clear hb
      refine hK.out _ _ ⟨(blk_cell HK.out.j 1).trans rfl, (blk_cell HK.out.j 2).trans rfl, (blk_cell BKo.out 1).trans rfl, (blk_cell HK.out.s.hp 1).trans rfl⟩ (fun hHeld => ?_)
      clear hK K
      refine norm_ (a' := ?_) ?_ ?_
      rotate_left
      · show Act.put _ (some 180) _ = _
        simp only [Act.put, List.setIfInBounds_toArray, List.set_cons_zero, List.set_cons_succ, i64_w, i32_w]
        rfl
      refine pure_ (i := 36) (N := some 186) (v := ?_) (a' := ?_) #[true, true, true, true, true, true, true, true, true, true, true, true, true, true, true, true, true, true, true, true, true, true, true, true, true, true, true, true, true, true, true, true, true, true, true, true, true, false] rfl rfl (by kernel_rfl) (fun _ _ _ h => h) (Or.inl ⟨by rfl, ?_⟩) ?_ ?_
      rotate_left
      · intro w'
        go_simp
        with_reducible rfl
      rotate_left
      · simp only [Act.put, List.setIfInBounds_toArray, List.set_cons_zero, List.set_cons_succ, i64_w, i32_w]
        rfl
      refine pure_ (i := 37) (N := some 187) (v := ?_) (a' := ?_) #[true, true, true, true, true, true, true, true, true, true, true, true, true, true, true, true, true, true, true, true, true, true, true, true, true, true, true, true, true, true, true, true, true, true, true, true, true, true] rfl rfl (by kernel_rfl) (fun _ _ _ h => h) (Or.inl ⟨by rfl, ?_⟩) ?_ ?_
      rotate_left
      · intro w'
        go_simp
        with_reducible rfl
      rotate_left
      · simp only [Act.put, List.setIfInBounds_toArray, List.set_cons_zero, List.set_cons_succ, i64_w, i32_w]
        rfl
      refine done_ (by kernel_rfl) ?_
      clear hHeld
      go_wp2_with fail
      go_roundw
      case rel => exact ⟨i + 1, pj, pk, lv, _, v, _, L, W, rs, hi1, rfl, rfl, by go_num, hln, HL, HK, HD, HO, hu, hrok⟩
      case measure => simp [intOf]; omega
theorem lombardlaw20_JournalPlays.calls (a0 : Int) (A1 : Option Addr) (c1 : Nat) (l1 : List (S40)) (r : Bool) (w : World) (hr1 : Kd.C k40 w A1 l1.length l1) (hc1 : l1.length ≤ c1) (h : lombardlaw20_JournalPlays.f a0 l1 = some r) :
    Calls Try.prog 3 #[.int .i64 a0, .slice A1 l1.length c1] w fun e w' => e = .returned (.bool r) ∧ Below w.heap.size w w' := by
  unfold lombardlaw20_JournalPlays.f at h
  by_cases hc : l1.all (fun o => o.f2.all (fun x => decide (0 ≤ x ∧ x < 256))) = true
  · rw [if_pos hc] at h
    obtain rfl := Option.some.inj h
    refine lombardlaw20_JournalPlays.walk _ _ _ _ _ hr1 hc1 (fun o ho x hx => ?_)
    have := List.all_eq_true.1 (List.all_eq_true.1 hc o ho) x hx
    exact of_decide_eq_true this
  · rw [if_neg hc] at h
    cases h


end Go.Proofs.Ytniadlnbjgodnaa.Print
