/- A row of rows that came in, gathered. -/
import Derived.Test.YtniadlnbjgodnaaProg
import Derived.Below
import Derived.Deep.Draws
import Derived.Deep.AppendLies
import Derived.Maps.AppendAt
import Derived.OwnWalk
import Derived.Laws.BytesArg
import Derived.Laws.MakeOwn
import Derived.Laws.OwnMore
import Derived.Deep.OwnRows
import Derived.Tactics
import Derived.Lib.ConvBytes
import Derived.Laws.Slices
import Derived.WalkKit
import Derived.KernelRfl
import Derived.RowKit3
import Derived.Deep.LoopGhost
import Derived.Deep.QuietTactic
import Derived.BigQuiet
import Derived.WideLaws
import Derived.Deep.DeepCutAuto
import Derived.Deep.CutBlock
import Derived.Deep.RegionHeld3
import Derived.Laws.Rows
import Derived.Lib.AppendStr
import Derived.ArgAppend
import Derived.Laws.IdiomCopy
import Derived.OrdersHeld
import Derived.Laws.BitsLemmas
import Derived.RowKit
import Derived.LoopN
import Derived.Handy
import Derived.Laws.EntriesVeiled
import Derived.MapKept
import Derived.Laws.Externs
import Derived.ChangeKeysEq
import Derived.Deep.WholeRow
import Derived.Test.YtniadlnbjgodnaaWWords
import Derived.Test.YtniadlnbjgodnaaWLast
import Derived.Test.YtniadlnbjgodnaaWTab
import Derived.Test.YtniadlnbjgodnaaWFour
import Derived.Test.YtniadlnbjgodnaaWQPut
import Derived.Test.YtniadlnbjgodnaaWApart
import Derived.Test.YtniadlnbjgodnaaWArr
import Derived.Test.YtniadlnbjgodnaaWZeros
import Derived.Test.YtniadlnbjgodnaaWFoot
import Derived.Test.YtniadlnbjgodnaaWKept
import Derived.Test.YtniadlnbjgodnaaWShare
import Derived.Test.YtniadlnbjgodnaaWN
import Derived.Test.YtniadlnbjgodnaaWFootNe
import Derived.Test.YtniadlnbjgodnaaWAt
import Derived.Test.YtniadlnbjgodnaaWEqStruct
import Derived.Test.YtniadlnbjgodnaaWRepsOne
import Derived.Test.YtniadlnbjgodnaaWInv
import Derived.Test.YtniadlnbjgodnaaWInvWords
import Derived.Test.YtniadlnbjgodnaaWGuard
import Derived.Test.YtniadlnbjgodnaaWNEv
import Derived.Test.YtniadlnbjgodnaaWMore
import Derived.Test.YtniadlnbjgodnaaBlkA
import Derived.Test.YtniadlnbjgodnaaBlkJ1
import Derived.Test.YtniadlnbjgodnaaBlkJ2
import Derived.Test.YtniadlnbjgodnaaBlkJ3
import Derived.Test.YtniadlnbjgodnaaBlkJ4
namespace Go.Proofs.Ytniadlnbjgodnaa.Print
open Go.RowKit Go.Proofs.YtniadlnbjgodnaaW.PrintWords Go.Proofs.YtniadlnbjgodnaaW.PrintLast Go.Proofs.YtniadlnbjgodnaaW.PrintMore
attribute [local go_sem] max2_int min2_int max_two min_two max_three min_three max_four min_four
set_option linter.unusedVariables false
set_option linter.unusedSimpArgs false
section
variable {w0 w w' : World} {A : Option Addr} {c : Nat} {rs : List (List Int)}
/-- A row of rows of bytes: the row is of the call's own (or full), the rows in it are as they came in. -/
def AE (w0 : World) (cs : List Value) (rs : List (List Int)) : Prop := ∀ i (h : i < rs.length), ∃ Ai ci, cs[i]? = some (.slice Ai rs[i].length ci) ∧ rs[i].length ≤ ci ∧ Kd.C (Kd.int .u8) w0 Ai rs[i].length rs[i]
structure AR (w0 w : World) (A : Option Addr) (c : Nat) (rs : List (List Int)) (cs : List Value) : Prop where
  hl : cs.length = rs.length
  hc : rs.length ≤ c
  hm : c ≤ maxLen
  ho : w.ownsRow w0.heap.size 38 1 (.slice A rs.length c) rs.length cs ∨ rs.length = c
  hn : A = none → rs.length = 0 ∧ c = 0
  hs : ∀ b, A = some b → w0.heap.size ≤ b.block ∧ (∃ cells, w.heap[b.block]? = some (.cells cells 38 (0, 0))) ∧ ∀ j u, cs[j]? = some u → w.cell? (b.add j) = some u
  he : AE w0 cs rs
theorem AR.nil (w0 w : World) : AR w0 w none 0 [] [] := ⟨rfl, Nat.le_refl _, Nat.zero_le _, .inr rfl, fun _ => ⟨rfl, rfl⟩, fun b h => (by cases h), fun i h => (by simp at h)⟩
theorem add_block (b : Addr) (j : Nat) : (b.add j).block = b.block := by unfold Addr.add; split <;> rfl
theorem AR.keep {cs : List Value} (h : AR w0 w A c rs cs) (hk : ∀ b, A = some b → w'.heap[b.block]? = w.heap[b.block]?) : AR w0 w' A c rs cs := by
  refine ⟨h.hl, h.hc, h.hm, ?_, h.hn, fun b e => ?_, h.he⟩
  · rcases h.ho with ho | ho
    · exact .inl (own_move ho (fun k hk' => by
        cases A with
        | none => simp [Value.ownBlock] at hk'
        | some b =>
          have e : b.block = k := by simpa [Value.ownBlock] using hk'
          rw [← e]
          exact hk b rfl))
    · exact .inr ho
  · obtain ⟨h1, ⟨cells, h2⟩, h3⟩ := h.hs b e
    refine ⟨h1, ⟨cells, (hk b e).trans h2⟩, fun j u hj => ?_⟩
    have := h3 j u hj
    rw [← this]
    exact World.cell?_of_block (by rw [add_block]; exact hk b e)
theorem AR.lt {cs : List Value} (h : AR w0 w A c rs cs) {b : Addr} (e : A = some b) : b.block < w.heap.size := by obtain ⟨_, ⟨cells, h2⟩, _⟩ := h.hs b e; exact blk_lt h2
theorem AR.below {cs : List Value} (h : AR w0 w A c rs cs) (hb : Below w.heap.size w w') : AR w0 w' A c rs cs := h.keep (fun b e => hb.block _ (h.lt e))
theorem AR.mv {cs : List Value} {F F' : Nat → Prop} (h : AR w0 w A c rs cs) (hm : Mv F F' w w') (hF : ∀ b, A = some b → ¬ F b.block) : AR w0 w' A c rs cs := h.keep (fun b e => hm.block _ (h.lt e) (hF b e))
theorem AR.C {cs : List Value} (h : AR w0 w A c rs cs) (hb : Below w0.heap.size w0 w) : Kd.C (Kd.slice 5 (Kd.int .u8)) w A rs.length rs := by
  refine ⟨rfl, by have := h.hc; have := h.hm; simp only [maxLen] at this; omega, fun hn => ?_⟩
  cases A with
  | none => have := (h.hn rfl).1; omega
  | some b =>
    obtain ⟨_, _, h3⟩ := h.hs b rfl
    refine ⟨b, rfl, fun j p hj => ?_⟩
    obtain ⟨hj1, rfl⟩ := List.getElem?_eq_some_iff.1 hj
    obtain ⟨Ai, ci, e1, e2, e3⟩ := h.he j hj1
    refine ⟨[.slice Ai rs[j].length ci], rfl, ⟨Ai, ci, rfl, e2, Kd.C_below e3 hb⟩, fun i u hi => ?_⟩
    have hi0 : i = 0 := by
      cases i with
      | zero => rfl
      | succ i => simp at hi
    subst hi0
    have hu : u = .slice Ai rs[j].length ci := by simpa using hi.symm
    subst hu
    have e : (Kd.slice 5 (Kd.int .u8)).sz = 1 := rfl
    rw [e, Nat.mul_one, Nat.add_zero]
    exact h3 j _ e1
theorem AR.cut {cs : List Value} (h : AR w0 w A c rs cs) (i : Nat) (hi : i ≤ rs.length) : AR w0 w A i (rs.take i) (cs.take i) := by
  have hl : (rs.take i).length = i := by rw [List.length_take]; omega
  have h1 := h.hl
  have h2 := h.hc
  have h3 := h.hm
  refine ⟨by rw [List.length_take, hl]; omega, by omega, by omega, .inr hl, fun e => ⟨by have := (h.hn e).1; omega, by have := (h.hn e).1; omega⟩, fun b e => ?_, fun j hj => ?_⟩
  · obtain ⟨g1, g2, g3⟩ := h.hs b e
    refine ⟨g1, g2, fun j u hj => g3 j u ?_⟩
    rw [List.getElem?_take] at hj
    split at hj
    · exact hj
    · cases hj
  · rw [hl] at hj
    obtain ⟨Ai, ci, e1, e2, e3⟩ := h.he j (by omega)
    rw [List.getElem_take]
    exact ⟨Ai, ci, by rw [List.getElem?_take, if_pos hj]; exact e1, e2, e3⟩
theorem lb_cut {n c i : Nat} (hi : i ≤ n) (hc : n ≤ c) (W : World) : (Instr.slice 50 (.slice A n c) none (some (.int .i64 i)) none).run Try.prog W = .ok (.slice A i c) W := by
  have hel : Try.prog.elem 50 = 38 := by kernel_rfl
  have hu : Try.prog.underlying 50 = some (.slice (Try.prog.elem 50)) := by rw [hel]; exact lb_und
  have ha : (A.map fun x => x.add 0) = A := by cases A <;> simp [Addr.add]
  have hsz : (sizeOf 38).run Try.prog W = .ok 1 W := by kernel_rfl
  rw [run_slice_h W 50 A n c hu .i64 i (by omega) (by omega), hel, hsz]
  simp [sliced, Result.andThen, ha]
theorem lb_cut3 {n c i : Nat} (hi : i ≤ n) (hc : n ≤ c) (W : World) : (Instr.slice 50 (.slice A n c) none (some (.int .i64 i)) (some (.int .i64 i))).run Try.prog W = .ok (.slice A i i) W := by
  have hel : Try.prog.elem 50 = 38 := by kernel_rfl
  have hu : Try.prog.underlying 50 = some (.slice (Try.prog.elem 50)) := by rw [hel]; exact lb_und
  have ha : (A.map fun x => x.add 0) = A := by cases A <;> simp [Addr.add]
  have hsz : (sizeOf 38).run Try.prog W = .ok 1 W := by kernel_rfl
  rw [run_slice_hm W 50 A n c hu .i64 .i64 i i (by omega) (by omega) (by omega), hel, hsz]
  simp [sliced, Result.andThen, ha]
section
variable {ops : Array Oper} {rest : List Oper} {o : Oper} {a : Act} {Q : Exit → Act → World → Prop} {W : World}
theorem AR.append {cs : List Value} (h : AR w0 W A c rs cs) (hw : w0.heap.size ≤ W.heap.size) (hn : rs.length ≤ 100000) {Ab : Option Addr} {cb : Nat} {bs : List Int} (hcb : bs.length ≤ cb) (hC : Kd.C (Kd.int .u8) w0 Ab bs.length bs) (hgd : o.guard = none) (s x : Operand)
    (ho : o.op = .call { callee := .builtin .append, args := #[s, x], argTypes := #[50, 50] }) (hs : a.eval s = .slice A rs.length c) (hx : a.eval x = .slice (some ⟨W.heap.size, 0, none⟩) 1 1)
    (hk : ∀ A' c' cs' w', AR w0 w' A' c' (rs ++ [bs]) cs' → (∀ k, k < W.heap.size → (∀ b, A = some b → k ≠ b.block) → w'.heap[k]? = W.heap[k]?) → W.heap.size ≤ w'.heap.size → w'.os = W.os → w'.tape = W.tape → w'.output = W.output → (∀ b', A' = some b' → (∃ b, A = some b ∧ b'.block = b.block) ∨ W.heap.size ≤ b'.block) → wpList Try.prog ops Q rest (a.put o.dst (.slice A' (rs ++ [bs]).length c')) w') :
    wpList Try.prog ops Q (o :: rest) a (W.alloc (.cells [Value.slice Ab bs.length cb].toArray 38)) := by
  obtain ⟨i0, hi, hzz⟩ := Option.map_eq_some_iff.1 by_info
  simp only [Prod.mk.injEq] at hzz
  obtain ⟨hz0, hz1, hz2⟩ := hzz
  have hnew : ∀ j u, [Value.slice Ab bs.length cb][j]? = some u → (W.alloc (.cells [Value.slice Ab bs.length cb].toArray 38)).cell? ((⟨W.heap.size, 0, none⟩ : Addr).add j) = some u := fun j u hj => cell_one_new W (.slice Ab bs.length cb) 38 j u hj
  have hbel := below_alloc (Below.refl W.heap.size W) (.cells [Value.slice Ab bs.length cb].toArray 38)
  have hA := h.below hbel
  have hone : ∀ u ∈ [Value.slice Ab bs.length cb], u.oneCell' = true := fun u hu => by rw [List.mem_singleton.1 hu]; rfl
  have hlen : (rs ++ [bs]).length = rs.length + 1 := by simp
  have hAE : AE w0 (cs ++ [.slice Ab bs.length cb]) (rs ++ [bs]) := fun i hi => by
    by_cases e : i < rs.length
    · obtain ⟨Ai, ci, e1, e2, e3⟩ := h.he i e
      rw [List.getElem_append_left e]
      exact ⟨Ai, ci, by rw [List.getElem?_append_left (by rw [h.hl]; exact e)]; exact e1, e2, e3⟩
    · obtain rfl : i = rs.length := by simp at hi; omega
      rw [List.getElem_append_right (Nat.le_refl _)]
      simp only [Nat.sub_self, List.getElem_cons_zero]
      exact ⟨Ab, cb, by rw [List.getElem?_append_right (by rw [h.hl]; exact Nat.le_refl _), h.hl]; simp, hcb, hC⟩
  have fin : ∀ v1 w1, w1.ownsRow w0.heap.size 38 1 v1 (rs.length + 1) (cs ++ [.slice Ab bs.length cb]) → (∀ k, k < W.heap.size → (∀ b, A = some b → k ≠ b.block) → w1.heap[k]? = W.heap[k]?) → W.heap.size ≤ w1.heap.size → w1.os = W.os → w1.tape = W.tape → w1.output = W.output → (∀ k, v1.ownBlock = some k → (∃ b, A = some b ∧ k = b.block) ∨ W.heap.size ≤ k) → wpList Try.prog ops Q rest (a.put o.dst v1) w1 := by
    intro v1 w1 hown hb1 hb2 h3 h4 h5 hat
    obtain ⟨hl1, h2⟩ := hown
    rcases h2 with ⟨e, e0⟩ | ⟨g, cap, cur, rfl, hg, hh, hcap, hmax, hsz, htk⟩
    · omega
    · have := hk (some ⟨g, 0, none⟩) cap (cs ++ [.slice Ab bs.length cb]) w1 ?_ hb1 hb2 h3 h4 h5 ?_
      · rw [hlen] at this; exact this
      · have hown : w1.ownsRow w0.heap.size 38 1 (.slice (some ⟨g, 0, none⟩) (rs.length + 1) cap) (rs.length + 1) (cs ++ [.slice Ab bs.length cb]) := ⟨hl1, .inr ⟨g, cap, cur, rfl, hg, hh, hcap, hmax, hsz, htk⟩⟩
        refine ⟨by simp [h.hl], by rw [hlen]; exact hcap, hmax, .inl (by rw [hlen]; exact hown), fun e => (by cases e), fun b e => ?_, hAE⟩
        cases e
        exact ⟨hg, ⟨cur, hh⟩, fun j u hj => hown.cells rfl j u hj⟩
      · intro b' e
        cases e
        exact hat g rfl
  by_cases hown : W.ownsRow w0.heap.size 38 1 (.slice A rs.length c) rs.length cs
  · refine wpList_append_own_at _ hgd s x 50 ho w0.heap.size 38 i0 (.slice none 0 0) 1 24 lb_und hi hz0 hz1 hz2 rfl (by omega) (.slice A rs.length c) rs.length cs hs (hown.alloc _) ⟨W.heap.size, 0, none⟩ 1 1 [.slice Ab bs.length cb] hx rfl hnew hone (by simp only [maxLen]; omega) (by omega) (by simp; omega) ?_
    intro v1 w1 hown1 hg1 _ hat
    refine fin v1 w1 hown1 (fun k hk1 hk2 => ?_) (Nat.le_trans hbel.size hg1.size) hg1.os hg1.tape hg1.output (fun k hk1 => ?_)
    · refine (hg1.block k (Nat.lt_of_lt_of_le hk1 hbel.size) (fun e => ?_)).trans (hbel.block k hk1)
      cases A with
      | none => simp [Value.ownBlock] at e
      | some b =>
        have : k = b.block := by simpa [Value.ownBlock] using e
        exact hk2 b rfl this
    · rcases hat with e | e
      · left
        rw [hk1] at e
        cases A with
        | none => simp [Value.ownBlock] at e
        | some b => exact ⟨b, rfl, by simpa [Value.ownBlock] using e⟩
      · right
        rw [hk1] at e
        have := Option.some.inj e
        simp at this
        omega
  · have hfull := h.ho.resolve_left hown
    refine wpList_append_grows _ hgd s x 50 ho 38 i0 (.slice none 0 0) 1 24 lb_und hi hz0 hz1 hz2 rfl (by omega) A rs.length c cs hs hA.hn (by rw [h.hl]; omega) (fun b e => (hA.hs b e).2.2) ⟨W.heap.size, 0, none⟩ 1 1 [.slice Ab bs.length cb] hx rfl hnew hone (by omega) (by simp only [maxLen]; omega) (by omega) ?_
    intro v1 w1 hown1 hg1
    refine fin v1 w1 (own_weaken hown1 (by simp; omega)) (fun k hk1 hk2 => (hg1.block k (Nat.lt_of_lt_of_le hk1 hbel.size) (by simp)).trans (hbel.block k hk1)) (Nat.le_trans hbel.size hg1.size) hg1.os hg1.tape hg1.output (fun k hk1 => ?_)
    right
    have := own_base hown1 k hk1
    simp at this
    omega
end
/-! ### beside a journal -/
variable {p gl gm pj u : Nat} {v lv : Value} {L : List (Bk × Bool)} {V : List (Int × Bk)}
/-- The gathered row is none of these blocks. -/
def FA (F : Nat → Prop) (A : Option Addr) : Prop := ∀ b, A = some b → ¬ F b.block
theorem FA.nil (F : Nat → Prop) : FA F none := fun b e => by cases e
theorem AR.step {cs : List Value} {F F' : Nat → Prop} (h : AR w0 w A c rs cs) (hF : FA F A) (hm : Mv F F' w w') : AR w0 w' A c rs cs ∧ FA F' A :=
  ⟨h.mv hm hF, fun b e hf => by
    have := h.lt e
    rcases hm.foot _ hf with g | g
    · exact hF b e g
    · omega⟩
theorem FA.left {F G : Nat → Prop} (h : FA (fun k => F k ∨ G k) A) : FA F A := fun b e hf => h b e (.inl hf)
theorem RB.keepA {B : Nat} {ok : Nat → Prop} {rs : List (List Int)} (h : RB w B ok lv rs) (hown : ∀ k, lv.ownBlock = some k → w'.heap[k]? = w.heap[k]?) (hU : ∀ (k : Nat) (cs : Array Value), w.heap[k]? = some (.cells cs 5 (0, 0)) → w'.heap[k]? = w.heap[k]?) : RB w' B ok lv rs := by
  obtain ⟨h0, inner, ho, hr⟩ := h
  refine ⟨h0, inner, own_move ho hown, hr.imp_ (fun _ _ hp => Kd.M_mono _ (fun k hk => hk.1) (Kd.M_move _ (fun k hk => ?_) (Kd.M_bound _ hp)))⟩
  obtain ⟨_, _, _, q, hq, cs, hc⟩ := hk
  have hq : q = 5 := by simpa [Kd.slice, Kd.int, Kd.scalar] using hq
  subst hq
  exact hU k cs hc
/-- Another row has been appended to. -/
theorem LS.other {cs : List Value} {rs2 : List (List Int)} (h : LS w0 w p gl gm v L V pj lv rs2) (ha : AR w0 w A c rs cs) (hF : FA (fun k => foot p gl gm v k ∨ Go.Proofs.Ytniadlnbjgodnaa.Print.jf pj lv k) A) (hk : ∀ k, k < w.heap.size → (∀ b, A = some b → k ≠ b.block) → w'.heap[k]? = w.heap[k]?) (hsz : w.heap.size ≤ w'.heap.size) (h1 : w'.os = w.os) (h2 : w'.tape = w.tape) (h3 : w'.output = w.output) : LS w0 w' p gl gm v L V pj lv rs2 := by
  have hb : Below w0.heap.size w0 w' := h.s.b.trans ⟨h1, h2, h3, hsz, fun k hk1 => hk k (by have := h.s.b.size; omega) (fun b e => by have := (ha.hs b e).1; omega)⟩
  refine ⟨⟨h.s.s.keep (fun k hf => hk k (h.s.s.lt hf) (fun b e e2 => hF b e (.inl (e2 ▸ hf)))), hb⟩, (hk pj (blk_lt h.j) (fun b e e2 => hF b e (.inr (.inl e2.symm)))).trans h.j, h.r.keepA (fun k ho => ?_) (fun k cs hc => hk k (blk_lt hc) (fun b e e2 => ?_)), h.p⟩
  · obtain ⟨inner, ho2⟩ := Kd.R_own h.r
    exact hk k (own_lt ho2 k ho) (fun b e e2 => hF b e (.inr (.inr (e2 ▸ ho))))
  · obtain ⟨_, ⟨cells, hc2⟩, _⟩ := ha.hs b e
    rw [← e2, hc] at hc2
    injection hc2 with hc2
    injection hc2 with _ hc2
    exact absurd hc2 (by decide)
theorem LS.newF {rs2 : List (List Int)} (h : LS w0 w p gl gm v L V pj lv rs2) (hF : FA (fun k => foot p gl gm v k ∨ Go.Proofs.Ytniadlnbjgodnaa.Print.jf pj lv k) A) {A' : Option Addr} (hat : ∀ b', A' = some b' → (∃ b, A = some b ∧ b'.block = b.block) ∨ w.heap.size ≤ b'.block) : FA (fun k => foot p gl gm v k ∨ Go.Proofs.Ytniadlnbjgodnaa.Print.jf pj lv k) A' := fun b' e hf => by
  rcases hat b' e with ⟨b, e1, e2⟩ | hge
  · rw [e2] at hf; exact hF b e1 hf
  · rcases hf with hf | hf | hf
    · have := h.s.s.lt hf; omega
    · have := blk_lt h.j; omega
    · obtain ⟨inner, ho2⟩ := Kd.R_own h.r
      have := own_lt ho2 _ hf
      omega
theorem apC_cases (L : List (Bk × Bool)) (rs : List (List Int)) (b : List Int) : apC L rs b = 0 ∨ (apC L rs b = 2 ∨ apC L rs b = 10) := by
  unfold apC
  split
  · exact .inr (.inl rfl)
  · split
    · exact .inr (.inr rfl)
    · exact .inl rfl
theorem apW_no {W : List (Int × Bk)} {b : List Int} (h : apC L rs b ≠ 0) : apW L W rs b = W := by unfold apW; rw [if_neg h]
theorem apR_no {b : List Int} (h : apC L rs b ≠ 0) : apR L rs b = rs := by unfold apR; rw [if_neg h]
theorem apR_yes {b : List Int} (h : apC L rs b = 0) : apR L rs b = rs ++ [b] := by unfold apR; rw [if_pos h]
theorem op_far {rs2 : List (List Int)} (h : LS w0 w p gl gm v L V pj lv rs2) {g : Nat} {cs : Array Value} {fr : Nat × Nat} (hg : w.heap[g]? = some (.cells cs 40 fr)) : ¬ (foot p gl gm v g ∨ jf pj lv g) := h.far hg (by decide)
end
end Go.Proofs.Ytniadlnbjgodnaa.Print
