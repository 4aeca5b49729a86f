-- written by this session's program wip/hybrid.py over the kit's printer, and by hand. Not trusted: Lean checks it.
import Derived.Test.YtpcllhhbaockfaaPrint0
import Derived.WalkKit
import Derived.ProofKit
import Derived.OpenShut
import Derived.ShutString
import Derived.ChangeOld
import Derived.Below
import Derived.SizedLaws
import Derived.Deep.Slices
import Derived.Deep.Fields
namespace Go.Proofs.Ytpcllhhbaockfaa.Print
open Go.RowKit Go.Proofs.YtpcllhhbaockfaaW.PrintWords Go.Proofs.YtpcllhhbaockfaaW.PrintLast Go.Proofs.YtpcllhhbaockfaaW.PrintMore
open Go.ChangeShapes Go.WideShapes Go.Deep
set_option linter.unusedVariables false
set_option linter.unusedSimpArgs false
theorem mapM_some {α β : Type} {f : α → Option β} : ∀ {l : List α} {ys : List β}, l.mapM f = some ys → ∀ a ∈ l, ∃ y, f a = some y
  | [], _, _, a, ha => by simp at ha
  | b :: l, ys, h, a, ha => by
    rw [List.mapM_cons] at h
    simp only [Option.pure_def, Option.bind_eq_bind, Option.bind_eq_some_iff] at h
    obtain ⟨y, hy, zs, hz, _⟩ := h
    rcases List.mem_cons.1 ha with rfl | ha
    · exact ⟨y, hy⟩
    · exact mapM_some hz a ha
/-- An array that is read, element by element. -/
theorem trod_arr {H : Type} {enc : TypeId × Value → H} {P : Program} {w : World} {base : Nat} {spare : Nat → Bool} {held : Bool} {t e : TypeId} {n fuel : Nat} {cs : List Value} {x : DataW H × List MemPlace} (ht : P.underlying t = some (.array n e)) (h : DataW.trod enc P w base spare held fuel t cs = some x) :
    cs.length = P.cellsOf t ∧ ∃ m, ∀ i, i < n → ∃ y, DataW.trod enc P w base spare held m e ((cs.drop (i * P.cellsOf e)).take (P.cellsOf e)) = some y := by
  cases fuel with
  | zero => simp [DataW.trod] at h
  | succ m =>
    unfold DataW.trod at h
    rw [ht] at h
    by_cases hl : cs.length = P.cellsOf t
    · refine ⟨hl, m, fun i hi => ?_⟩
      simp only [if_pos hl, Option.map_eq_some_iff] at h
      obtain ⟨ys, hys, _⟩ := h
      exact mapM_some hys i (List.mem_range.2 hi)
    · simp [if_neg hl] at h
theorem okWide_arr {P : Program} {w : World} {r} {base : Nat} {t e : TypeId} {n : Nat} {v : Value} (ht : P.underlying t = some (.array n e)) (h : Value.okWide P w r base t v) : ∃ cs, v = .agg cs ∧ cs.size = P.cellsOf t := by
  simp only [Value.okWide, ht] at h
  obtain ⟨cs, h1, h2, _⟩ := h
  exact ⟨cs, h1, h2⟩
theorem drop_split (cs : List Value) (a z : Nat) : cs.drop a = (cs.drop a).take z ++ cs.drop (a + z) := by rw [← List.drop_drop, List.take_append_drop]
theorem drop_last (cs : List Value) (a z : Nat) (h : cs.length = a + z) : cs.drop a = (cs.drop a).take z := by rw [List.take_of_length_le]; rw [List.length_drop]; omega
/-- A value's cells, read as data, are those of a Lean value. -/
def Opens {α H : Type} (enc : TypeId × Value → H) (P : Program) (w : World) (base : Nat) (spare : Nat → Bool) (held : Bool) (t : TypeId) (d : Kd α) (Wf : α → Prop) : Prop :=
  ∀ fuel cs x, DataW.trod enc P w base spare held fuel t cs = some x → ∃ s, d.K w s cs ∧ Wf s
section
variable {H : Type} {enc : TypeId × Value → H} {P : Program} {w : World} {base : Nat} {spare : Nat → Bool} {held : Bool} {t : TypeId}
theorem opens_int {k : IntKind} (ht : P.underlying t = some (.int k)) : Opens enc P w base spare held t (Kd.int k) (fun n_ : Int => (Lit.int k n_).wf = true) := by
  intro fuel cs x h
  obtain ⟨n, rfl, _, hw⟩ := DataW.trod_int ht h
  exact ⟨n, rfl, hw⟩
theorem opens_bool (ht : P.underlying t = some .bool) : Opens enc P w base spare held t Kd.bool (fun _ : Bool => True) := by
  intro fuel cs x h
  obtain ⟨b, rfl, _⟩ := DataW.trod_bool ht h
  exact ⟨b, rfl, trivial⟩
theorem opens_string (ht : P.underlying t = some .string) : Opens enc P w base spare held t Kd.string (fun s_ : ByteArray => s_.size ≤ maxLen) := by
  intro fuel cs x h
  obtain ⟨s, rfl, _, hs⟩ := DataW.trod_string ht h
  exact ⟨s, rfl, hs⟩
theorem choose_list {α : Type} (n : Nat) (Q : Nat → α → Prop) (h : ∀ i, i < n → ∃ s, Q i s) : ∃ l : List α, l.length = n ∧ ∀ i s, l[i]? = some s → Q i s := by
  induction n with
  | zero => exact ⟨[], rfl, fun i s h => by simp at h⟩
  | succ n ih =>
    obtain ⟨l, hl, hq⟩ := ih (fun i hi => h i (by omega))
    obtain ⟨s, hs⟩ := h n (by omega)
    refine ⟨l ++ [s], by simp [hl], fun i y hy => ?_⟩
    by_cases hi : i < l.length
    · rw [List.getElem?_append_left hi] at hy; exact hq i y hy
    · rw [List.getElem?_append_right (by omega)] at hy
      have : i = n := by
        rcases Nat.eq_or_lt_of_le (Nat.le_of_not_lt hi) with e | e
        · omega
        · rw [List.getElem?_eq_none (by simp; omega)] at hy; cases hy
      subst this
      simp [hl] at hy
      rw [← hy]; exact hs
theorem reads_of {α : Type} {d : Kd α} {Wf : α → Prop} {w : World} {a : Addr} {l : List α} {len : Nat} (hll : l.length = len) (hmx : len ≤ maxLen)
    (hq : ∀ i s, l[i]? = some s → ∃ c, c.length = d.sz ∧ d.K w s c ∧ Wf s ∧ ∀ j u, c[j]? = some u → w.cell? (a.add (i * d.sz + j)) = some u) : d.C w (some a) l.length l := by
  refine ⟨rfl, by unfold maxLen at hmx; omega, fun _ => ⟨a, rfl, fun j p hj => ?_⟩⟩
  obtain ⟨c, h1, h2, _, h4⟩ := hq j p hj
  exact ⟨c, h1, h2, h4⟩
theorem opens_slice {α : Type} {d : Kd α} {Wf : α → Prop} {e : TypeId} (ht : P.underlying t = some (.slice e)) (hC : P.cellsOf e = d.sz) (he : Opens enc P w base spare held e d Wf) :
    Opens enc P w base spare held t (Kd.slice e d) (fun l_ : List α => l_.length ≤ maxLen ∧ ∀ s_ ∈ l_, Wf s_) := by
  intro fuel cs x h
  rcases open_slice ht h with ⟨rfl, _⟩ | ⟨a, len, cap, m, n, D, Pl, rfl, _, hl, hm, hmm, _, hi⟩
  · exact ⟨[], ⟨none, 0, rfl, Nat.le_refl _, Kd.C_nil d w⟩, Nat.zero_le _, fun s hs => by cases hs⟩
  · have hlm : len ≤ m := by rw [hmm]; split <;> omega
    obtain ⟨l, hll, hq⟩ := choose_list len (fun i s => ∃ c, c.length = d.sz ∧ d.K w s c ∧ Wf s ∧ ∀ j u, c[j]? = some u → w.cell? (a.add (i * d.sz + j)) = some u) (fun i hil => by
      obtain ⟨cs', hc, htr⟩ := hi i (by omega)
      obtain ⟨s, hK, hW⟩ := he _ _ _ htr
      obtain ⟨_, hcl, hat⟩ := World.cells?_some hc
      refine ⟨s, cs', by rw [hcl, hC], hK, hW, fun j u hj => ?_⟩
      have hjl : j < P.cellsOf e := by rw [← hcl]; exact (List.getElem?_eq_some_iff.1 hj).1
      have := hat j hjl
      rw [Go.Deep.add_add, hj, hC] at this
      exact this)
    refine ⟨l, ⟨some a, cap, by rw [hll], by omega, ?_⟩, by omega, fun s hs => ?_⟩
    · exact reads_of hll (by omega) hq
    · obtain ⟨i, hi'⟩ := List.mem_iff_getElem?.1 hs
      obtain ⟨_, _, _, hW, _⟩ := hq i s hi'
      exact hW
end
theorem wf_i64 {n : Int} (h : (Lit.int .i64 n).wf = true) : -9223372036854775808 ≤ n ∧ n ≤ 9223372036854775807 := by
  simp only [Lit.wf, Bool.and_eq_true, decide_eq_true_eq] at h; exact h
theorem wf_u8 {n : Int} (h : (Lit.int .u8 n).wf = true) : 0 ≤ n ∧ n ≤ 255 := by
  simp only [Lit.wf, Bool.and_eq_true, decide_eq_true_eq] at h; exact h

def Wf124 (s_ : S124) : Prop := (fun n_ : Int => (Lit.int .i64 n_).wf = true) s_.f0 ∧ (fun n_ : Int => (Lit.int .i64 n_).wf = true) s_.f1
theorem opens_S124 {H : Type} {enc : TypeId × Value → H} {w : World} {base : Nat} {spare : Nat → Bool} {held : Bool} : Opens enc Try.prog w base spare held 124 k124 Wf124 := by
  intro fuel cs x h
  obtain ⟨xs, n, rfl, rfl, hl, hxl, hf⟩ := DataW.trod_struct Try.underlying124 h
  have hl' : cs.length = 2 := hl.trans (by kernel_rfl)
  have hx' : xs.length = 2 := hxl
  have h0 : DataW.trod enc Try.prog w base spare held n 3 ((cs.drop 0).take (Try.prog.cellsOf 3)) = xs[0]? := hf 0 _ rfl
  rw [show Try.prog.cellsOf 3 = 1 from by kernel_rfl, List.getElem?_eq_getElem (show 0 < xs.length by omega)] at h0
  obtain ⟨s0, k0_, w0⟩ := (opens_int Try.underlying3) _ _ _ h0
  have h1 : DataW.trod enc Try.prog w base spare held n 2 ((cs.drop 1).take (Try.prog.cellsOf 2)) = xs[1]? := hf 1 _ rfl
  rw [show Try.prog.cellsOf 2 = 1 from by kernel_rfl, List.getElem?_eq_getElem (show 1 < xs.length by omega)] at h1
  obtain ⟨s1, k1_, w1⟩ := (opens_int Try.underlying2) _ _ _ h1
  refine ⟨⟨s0, s1⟩, ?_, w0, w1⟩
  exact (show k124.K w ⟨s0, s1⟩ (cs.drop 0) from ⟨(cs.drop 0).take 1, cs.drop 1, drop_split cs 0 1, k0_, (show _ from by rw [← drop_last cs 1 1 (by omega)] at k1_; exact k1_)⟩)
def Wf29 (s_ : S29) : Prop := (fun n_ : Int => (Lit.int .i64 n_).wf = true) s_.f0 ∧ (fun n_ : Int => (Lit.int .i64 n_).wf = true) s_.f1 ∧ (fun l_ : List (S124) => l_.length ≤ maxLen ∧ ∀ s_ ∈ l_, Wf124 s_) s_.f2
theorem opens_S29 {H : Type} {enc : TypeId × Value → H} {w : World} {base : Nat} {spare : Nat → Bool} {held : Bool} : Opens enc Try.prog w base spare held 29 k29 Wf29 := by
  intro fuel cs x h
  obtain ⟨xs, n, rfl, rfl, hl, hxl, hf⟩ := DataW.trod_struct Try.underlying29 h
  have hl' : cs.length = 3 := hl.trans (by kernel_rfl)
  have hx' : xs.length = 3 := hxl
  have h0 : DataW.trod enc Try.prog w base spare held n 3 ((cs.drop 0).take (Try.prog.cellsOf 3)) = xs[0]? := hf 0 _ rfl
  rw [show Try.prog.cellsOf 3 = 1 from by kernel_rfl, List.getElem?_eq_getElem (show 0 < xs.length by omega)] at h0
  obtain ⟨s0, k0_, w0⟩ := (opens_int Try.underlying3) _ _ _ h0
  have h1 : DataW.trod enc Try.prog w base spare held n 3 ((cs.drop 1).take (Try.prog.cellsOf 3)) = xs[1]? := hf 1 _ rfl
  rw [show Try.prog.cellsOf 3 = 1 from by kernel_rfl, List.getElem?_eq_getElem (show 1 < xs.length by omega)] at h1
  obtain ⟨s1, k1_, w1⟩ := (opens_int Try.underlying3) _ _ _ h1
  have h2 : DataW.trod enc Try.prog w base spare held n 27 ((cs.drop 2).take (Try.prog.cellsOf 27)) = xs[2]? := hf 2 _ rfl
  rw [show Try.prog.cellsOf 27 = 1 from by kernel_rfl, List.getElem?_eq_getElem (show 2 < xs.length by omega)] at h2
  obtain ⟨s2, k2_, w2⟩ := (opens_slice (d := k124) (Wf := Wf124) Try.underlying27 (by kernel_rfl) opens_S124) _ _ _ h2
  refine ⟨⟨s0, s1, s2⟩, ?_, w0, w1, w2⟩
  exact (show k29.K w ⟨s0, s1, s2⟩ (cs.drop 0) from ⟨(cs.drop 0).take 1, cs.drop 1, drop_split cs 0 1, k0_, ⟨(cs.drop 1).take 1, cs.drop 2, drop_split cs 1 1, k1_, (show _ from by rw [← drop_last cs 2 1 (by omega)] at k2_; exact k2_)⟩⟩)
def Wf66 (s_ : S66) : Prop := (fun n_ : Int => (Lit.int .i64 n_).wf = true) s_.f0 ∧ (fun n_ : Int => (Lit.int .i64 n_).wf = true) s_.f1 ∧ (fun n_ : Int => (Lit.int .i64 n_).wf = true) s_.f2 ∧ (fun n_ : Int => (Lit.int .i64 n_).wf = true) s_.f3 ∧ (fun n_ : Int => (Lit.int .i64 n_).wf = true) s_.f4
theorem opens_S66 {H : Type} {enc : TypeId × Value → H} {w : World} {base : Nat} {spare : Nat → Bool} {held : Bool} : Opens enc Try.prog w base spare held 66 k66 Wf66 := by
  intro fuel cs x h
  obtain ⟨xs, n, rfl, rfl, hl, hxl, hf⟩ := DataW.trod_struct Try.underlying66 h
  have hl' : cs.length = 5 := hl.trans (by kernel_rfl)
  have hx' : xs.length = 5 := hxl
  have h0 : DataW.trod enc Try.prog w base spare held n 3 ((cs.drop 0).take (Try.prog.cellsOf 3)) = xs[0]? := hf 0 _ rfl
  rw [show Try.prog.cellsOf 3 = 1 from by kernel_rfl, List.getElem?_eq_getElem (show 0 < xs.length by omega)] at h0
  obtain ⟨s0, k0_, w0⟩ := (opens_int Try.underlying3) _ _ _ h0
  have h1 : DataW.trod enc Try.prog w base spare held n 3 ((cs.drop 1).take (Try.prog.cellsOf 3)) = xs[1]? := hf 1 _ rfl
  rw [show Try.prog.cellsOf 3 = 1 from by kernel_rfl, List.getElem?_eq_getElem (show 1 < xs.length by omega)] at h1
  obtain ⟨s1, k1_, w1⟩ := (opens_int Try.underlying3) _ _ _ h1
  have h2 : DataW.trod enc Try.prog w base spare held n 2 ((cs.drop 2).take (Try.prog.cellsOf 2)) = xs[2]? := hf 2 _ rfl
  rw [show Try.prog.cellsOf 2 = 1 from by kernel_rfl, List.getElem?_eq_getElem (show 2 < xs.length by omega)] at h2
  obtain ⟨s2, k2_, w2⟩ := (opens_int Try.underlying2) _ _ _ h2
  have h3 : DataW.trod enc Try.prog w base spare held n 2 ((cs.drop 3).take (Try.prog.cellsOf 2)) = xs[3]? := hf 3 _ rfl
  rw [show Try.prog.cellsOf 2 = 1 from by kernel_rfl, List.getElem?_eq_getElem (show 3 < xs.length by omega)] at h3
  obtain ⟨s3, k3_, w3⟩ := (opens_int Try.underlying2) _ _ _ h3
  have h4 : DataW.trod enc Try.prog w base spare held n 2 ((cs.drop 4).take (Try.prog.cellsOf 2)) = xs[4]? := hf 4 _ rfl
  rw [show Try.prog.cellsOf 2 = 1 from by kernel_rfl, List.getElem?_eq_getElem (show 4 < xs.length by omega)] at h4
  obtain ⟨s4, k4_, w4⟩ := (opens_int Try.underlying2) _ _ _ h4
  refine ⟨⟨s0, s1, s2, s3, s4⟩, ?_, w0, w1, w2, w3, w4⟩
  exact (show k66.K w ⟨s0, s1, s2, s3, s4⟩ (cs.drop 0) from ⟨(cs.drop 0).take 1, cs.drop 1, drop_split cs 0 1, k0_, ⟨(cs.drop 1).take 1, cs.drop 2, drop_split cs 1 1, k1_, ⟨(cs.drop 2).take 1, cs.drop 3, drop_split cs 2 1, k2_, ⟨(cs.drop 3).take 1, cs.drop 4, drop_split cs 3 1, k3_, (show _ from by rw [← drop_last cs 4 1 (by omega)] at k4_; exact k4_)⟩⟩⟩⟩)
def Wf32 (s_ : S32) : Prop := Wf29 s_.f0 ∧ (fun n_ : Int => (Lit.int .i64 n_).wf = true) s_.f1 ∧ (fun n_ : Int => (Lit.int .i64 n_).wf = true) s_.f2 ∧ (fun n_ : Int => (Lit.int .i64 n_).wf = true) s_.f3 ∧ (fun n_ : Int => (Lit.int .i64 n_).wf = true) s_.f4 ∧ (fun n_ : Int => (Lit.int .i64 n_).wf = true) s_.f5 ∧ (fun n_ : Int => (Lit.int .i64 n_).wf = true) s_.f6 ∧ (fun l_ : List (S66) => l_.length ≤ maxLen ∧ ∀ s_ ∈ l_, Wf66 s_) s_.f7
theorem opens_S32 {H : Type} {enc : TypeId × Value → H} {w : World} {base : Nat} {spare : Nat → Bool} {held : Bool} : Opens enc Try.prog w base spare held 32 k32 Wf32 := by
  intro fuel cs x h
  obtain ⟨xs, n, rfl, rfl, hl, hxl, hf⟩ := DataW.trod_struct Try.underlying32 h
  have hl' : cs.length = 10 := hl.trans (by kernel_rfl)
  have hx' : xs.length = 8 := hxl
  have h0 : DataW.trod enc Try.prog w base spare held n 29 ((cs.drop 0).take (Try.prog.cellsOf 29)) = xs[0]? := hf 0 _ rfl
  rw [show Try.prog.cellsOf 29 = 3 from by kernel_rfl, List.getElem?_eq_getElem (show 0 < xs.length by omega)] at h0
  obtain ⟨s0, k0_, w0⟩ := opens_S29 _ _ _ h0
  have h1 : DataW.trod enc Try.prog w base spare held n 2 ((cs.drop 3).take (Try.prog.cellsOf 2)) = xs[1]? := hf 1 _ rfl
  rw [show Try.prog.cellsOf 2 = 1 from by kernel_rfl, List.getElem?_eq_getElem (show 1 < xs.length by omega)] at h1
  obtain ⟨s1, k1_, w1⟩ := (opens_int Try.underlying2) _ _ _ h1
  have h2 : DataW.trod enc Try.prog w base spare held n 2 ((cs.drop 4).take (Try.prog.cellsOf 2)) = xs[2]? := hf 2 _ rfl
  rw [show Try.prog.cellsOf 2 = 1 from by kernel_rfl, List.getElem?_eq_getElem (show 2 < xs.length by omega)] at h2
  obtain ⟨s2, k2_, w2⟩ := (opens_int Try.underlying2) _ _ _ h2
  have h3 : DataW.trod enc Try.prog w base spare held n 2 ((cs.drop 5).take (Try.prog.cellsOf 2)) = xs[3]? := hf 3 _ rfl
  rw [show Try.prog.cellsOf 2 = 1 from by kernel_rfl, List.getElem?_eq_getElem (show 3 < xs.length by omega)] at h3
  obtain ⟨s3, k3_, w3⟩ := (opens_int Try.underlying2) _ _ _ h3
  have h4 : DataW.trod enc Try.prog w base spare held n 2 ((cs.drop 6).take (Try.prog.cellsOf 2)) = xs[4]? := hf 4 _ rfl
  rw [show Try.prog.cellsOf 2 = 1 from by kernel_rfl, List.getElem?_eq_getElem (show 4 < xs.length by omega)] at h4
  obtain ⟨s4, k4_, w4⟩ := (opens_int Try.underlying2) _ _ _ h4
  have h5 : DataW.trod enc Try.prog w base spare held n 2 ((cs.drop 7).take (Try.prog.cellsOf 2)) = xs[5]? := hf 5 _ rfl
  rw [show Try.prog.cellsOf 2 = 1 from by kernel_rfl, List.getElem?_eq_getElem (show 5 < xs.length by omega)] at h5
  obtain ⟨s5, k5_, w5⟩ := (opens_int Try.underlying2) _ _ _ h5
  have h6 : DataW.trod enc Try.prog w base spare held n 2 ((cs.drop 8).take (Try.prog.cellsOf 2)) = xs[6]? := hf 6 _ rfl
  rw [show Try.prog.cellsOf 2 = 1 from by kernel_rfl, List.getElem?_eq_getElem (show 6 < xs.length by omega)] at h6
  obtain ⟨s6, k6_, w6⟩ := (opens_int Try.underlying2) _ _ _ h6
  have h7 : DataW.trod enc Try.prog w base spare held n 30 ((cs.drop 9).take (Try.prog.cellsOf 30)) = xs[7]? := hf 7 _ rfl
  rw [show Try.prog.cellsOf 30 = 1 from by kernel_rfl, List.getElem?_eq_getElem (show 7 < xs.length by omega)] at h7
  obtain ⟨s7, k7_, w7⟩ := (opens_slice (d := k66) (Wf := Wf66) Try.underlying30 (by kernel_rfl) opens_S66) _ _ _ h7
  refine ⟨⟨s0, s1, s2, s3, s4, s5, s6, s7⟩, ?_, w0, w1, w2, w3, w4, w5, w6, w7⟩
  exact (show k32.K w ⟨s0, s1, s2, s3, s4, s5, s6, s7⟩ (cs.drop 0) from ⟨(cs.drop 0).take 3, cs.drop 3, drop_split cs 0 3, k0_, ⟨(cs.drop 3).take 1, cs.drop 4, drop_split cs 3 1, k1_, ⟨(cs.drop 4).take 1, cs.drop 5, drop_split cs 4 1, k2_, ⟨(cs.drop 5).take 1, cs.drop 6, drop_split cs 5 1, k3_, ⟨(cs.drop 6).take 1, cs.drop 7, drop_split cs 6 1, k4_, ⟨(cs.drop 7).take 1, cs.drop 8, drop_split cs 7 1, k5_, ⟨(cs.drop 8).take 1, cs.drop 9, drop_split cs 8 1, k6_, (show _ from by rw [← drop_last cs 9 1 (by omega)] at k7_; exact k7_)⟩⟩⟩⟩⟩⟩⟩)
def Wf34 (s_ : S34) : Prop := (fun _ : Bool => True) s_.f0 ∧ Wf32 s_.f1
theorem opens_S34 {H : Type} {enc : TypeId × Value → H} {w : World} {base : Nat} {spare : Nat → Bool} {held : Bool} : Opens enc Try.prog w base spare held 34 k34 Wf34 := by
  intro fuel cs x h
  obtain ⟨xs, n, rfl, rfl, hl, hxl, hf⟩ := DataW.trod_struct Try.underlying34 h
  have hl' : cs.length = 11 := hl.trans (by kernel_rfl)
  have hx' : xs.length = 2 := hxl
  have h0 : DataW.trod enc Try.prog w base spare held n 4 ((cs.drop 0).take (Try.prog.cellsOf 4)) = xs[0]? := hf 0 _ rfl
  rw [show Try.prog.cellsOf 4 = 1 from by kernel_rfl, List.getElem?_eq_getElem (show 0 < xs.length by omega)] at h0
  obtain ⟨s0, k0_, w0⟩ := (opens_bool Try.underlying4) _ _ _ h0
  have h1 : DataW.trod enc Try.prog w base spare held n 32 ((cs.drop 1).take (Try.prog.cellsOf 32)) = xs[1]? := hf 1 _ rfl
  rw [show Try.prog.cellsOf 32 = 10 from by kernel_rfl, List.getElem?_eq_getElem (show 1 < xs.length by omega)] at h1
  obtain ⟨s1, k1_, w1⟩ := opens_S32 _ _ _ h1
  refine ⟨⟨s0, s1⟩, ?_, w0, w1⟩
  exact (show k34.K w ⟨s0, s1⟩ (cs.drop 0) from ⟨(cs.drop 0).take 1, cs.drop 1, drop_split cs 0 1, k0_, (show _ from by rw [← drop_last cs 1 10 (by omega)] at k1_; exact k1_)⟩)
end Go.Proofs.Ytpcllhhbaockfaa.Print
