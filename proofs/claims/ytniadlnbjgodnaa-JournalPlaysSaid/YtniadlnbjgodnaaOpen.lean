-- written by this session's program wip/hybrid.py over the kit's printer, and by hand. Not trusted: Lean checks it.
import Derived.Test.YtniadlnbjgodnaaPrint0
import Derived.WalkKit
import Derived.ProofKit
import Derived.OpenShut
import Derived.ShutString
import Derived.ChangeOld
import Derived.Below
import Derived.SizedLaws
import Derived.Deep.Slices
import Derived.Deep.Fields
namespace Go.Proofs.Ytniadlnbjgodnaa.Print
open Go.RowKit Go.Proofs.YtniadlnbjgodnaaW.PrintWords Go.Proofs.YtniadlnbjgodnaaW.PrintLast Go.Proofs.YtniadlnbjgodnaaW.PrintMore
open Go.ChangeShapes Go.WideShapes Go.Deep
set_option linter.unusedVariables false
set_option linter.unusedSimpArgs false
theorem mapM_some {α β : Type} {f : α → Option β} : ∀ {l : List α} {ys : List β}, l.mapM f = some ys → ∀ a ∈ l, ∃ y, f a = some y
  | [], _, _, a, ha => by simp at ha
  | b :: l, ys, h, a, ha => by
    rw [List.mapM_cons] at h
    simp only [Option.pure_def, Option.bind_eq_bind, Option.bind_eq_some_iff] at h
    obtain ⟨y, hy, zs, hz, _⟩ := h
    rcases List.mem_cons.1 ha with rfl | ha
    · exact ⟨y, hy⟩
    · exact mapM_some hz a ha
/-- An array that is read, element by element. -/
theorem trod_arr {H : Type} {enc : TypeId × Value → H} {P : Program} {w : World} {base : Nat} {spare : Nat → Bool} {held : Bool} {t e : TypeId} {n fuel : Nat} {cs : List Value} {x : DataW H × List MemPlace} (ht : P.underlying t = some (.array n e)) (h : DataW.trod enc P w base spare held fuel t cs = some x) :
    cs.length = P.cellsOf t ∧ ∃ m, ∀ i, i < n → ∃ y, DataW.trod enc P w base spare held m e ((cs.drop (i * P.cellsOf e)).take (P.cellsOf e)) = some y := by
  cases fuel with
  | zero => simp [DataW.trod] at h
  | succ m =>
    unfold DataW.trod at h
    rw [ht] at h
    by_cases hl : cs.length = P.cellsOf t
    · refine ⟨hl, m, fun i hi => ?_⟩
      simp only [if_pos hl, Option.map_eq_some_iff] at h
      obtain ⟨ys, hys, _⟩ := h
      exact mapM_some hys i (List.mem_range.2 hi)
    · simp [if_neg hl] at h
theorem okWide_arr {P : Program} {w : World} {r} {base : Nat} {t e : TypeId} {n : Nat} {v : Value} (ht : P.underlying t = some (.array n e)) (h : Value.okWide P w r base t v) : ∃ cs, v = .agg cs ∧ cs.size = P.cellsOf t := by
  simp only [Value.okWide, ht] at h
  obtain ⟨cs, h1, h2, _⟩ := h
  exact ⟨cs, h1, h2⟩
theorem drop_split (cs : List Value) (a z : Nat) : cs.drop a = (cs.drop a).take z ++ cs.drop (a + z) := by rw [← List.drop_drop, List.take_append_drop]
theorem drop_last (cs : List Value) (a z : Nat) (h : cs.length = a + z) : cs.drop a = (cs.drop a).take z := by rw [List.take_of_length_le]; rw [List.length_drop]; omega
/-- A value's cells, read as data, are those of a Lean value. -/
def Opens {α H : Type} (enc : TypeId × Value → H) (P : Program) (w : World) (base : Nat) (spare : Nat → Bool) (held : Bool) (t : TypeId) (d : Kd α) (Wf : α → Prop) : Prop :=
  ∀ fuel cs x, DataW.trod enc P w base spare held fuel t cs = some x → ∃ s, d.K w s cs ∧ Wf s
section
variable {H : Type} {enc : TypeId × Value → H} {P : Program} {w : World} {base : Nat} {spare : Nat → Bool} {held : Bool} {t : TypeId}
theorem opens_int {k : IntKind} (ht : P.underlying t = some (.int k)) : Opens enc P w base spare held t (Kd.int k) (fun n_ : Int => (Lit.int k n_).wf = true) := by
  intro fuel cs x h
  obtain ⟨n, rfl, _, hw⟩ := DataW.trod_int ht h
  exact ⟨n, rfl, hw⟩
theorem opens_bool (ht : P.underlying t = some .bool) : Opens enc P w base spare held t Kd.bool (fun _ : Bool => True) := by
  intro fuel cs x h
  obtain ⟨b, rfl, _⟩ := DataW.trod_bool ht h
  exact ⟨b, rfl, trivial⟩
theorem opens_string (ht : P.underlying t = some .string) : Opens enc P w base spare held t Kd.string (fun s_ : ByteArray => s_.size ≤ maxLen) := by
  intro fuel cs x h
  obtain ⟨s, rfl, _, hs⟩ := DataW.trod_string ht h
  exact ⟨s, rfl, hs⟩
theorem choose_list {α : Type} (n : Nat) (Q : Nat → α → Prop) (h : ∀ i, i < n → ∃ s, Q i s) : ∃ l : List α, l.length = n ∧ ∀ i s, l[i]? = some s → Q i s := by
  induction n with
  | zero => exact ⟨[], rfl, fun i s h => by simp at h⟩
  | succ n ih =>
    obtain ⟨l, hl, hq⟩ := ih (fun i hi => h i (by omega))
    obtain ⟨s, hs⟩ := h n (by omega)
    refine ⟨l ++ [s], by simp [hl], fun i y hy => ?_⟩
    by_cases hi : i < l.length
    · rw [List.getElem?_append_left hi] at hy; exact hq i y hy
    · rw [List.getElem?_append_right (by omega)] at hy
      have : i = n := by
        rcases Nat.eq_or_lt_of_le (Nat.le_of_not_lt hi) with e | e
        · omega
        · rw [List.getElem?_eq_none (by simp; omega)] at hy; cases hy
      subst this
      simp [hl] at hy
      rw [← hy]; exact hs
theorem reads_of {α : Type} {d : Kd α} {Wf : α → Prop} {w : World} {a : Addr} {l : List α} {len : Nat} (hll : l.length = len) (hmx : len ≤ maxLen)
    (hq : ∀ i s, l[i]? = some s → ∃ c, c.length = d.sz ∧ d.K w s c ∧ Wf s ∧ ∀ j u, c[j]? = some u → w.cell? (a.add (i * d.sz + j)) = some u) : d.C w (some a) l.length l := by
  refine ⟨rfl, by unfold maxLen at hmx; omega, fun _ => ⟨a, rfl, fun j p hj => ?_⟩⟩
  obtain ⟨c, h1, h2, _, h4⟩ := hq j p hj
  exact ⟨c, h1, h2, h4⟩
theorem opens_slice {α : Type} {d : Kd α} {Wf : α → Prop} {e : TypeId} (ht : P.underlying t = some (.slice e)) (hC : P.cellsOf e = d.sz) (he : Opens enc P w base spare held e d Wf) :
    Opens enc P w base spare held t (Kd.slice e d) (fun l_ : List α => l_.length ≤ maxLen ∧ ∀ s_ ∈ l_, Wf s_) := by
  intro fuel cs x h
  rcases open_slice ht h with ⟨rfl, _⟩ | ⟨a, len, cap, m, n, D, Pl, rfl, _, hl, hm, hmm, _, hi⟩
  · exact ⟨[], ⟨none, 0, rfl, Nat.le_refl _, Kd.C_nil d w⟩, Nat.zero_le _, fun s hs => by cases hs⟩
  · have hlm : len ≤ m := by rw [hmm]; split <;> omega
    obtain ⟨l, hll, hq⟩ := choose_list len (fun i s => ∃ c, c.length = d.sz ∧ d.K w s c ∧ Wf s ∧ ∀ j u, c[j]? = some u → w.cell? (a.add (i * d.sz + j)) = some u) (fun i hil => by
      obtain ⟨cs', hc, htr⟩ := hi i (by omega)
      obtain ⟨s, hK, hW⟩ := he _ _ _ htr
      obtain ⟨_, hcl, hat⟩ := World.cells?_some hc
      refine ⟨s, cs', by rw [hcl, hC], hK, hW, fun j u hj => ?_⟩
      have hjl : j < P.cellsOf e := by rw [← hcl]; exact (List.getElem?_eq_some_iff.1 hj).1
      have := hat j hjl
      rw [Go.Deep.add_add, hj, hC] at this
      exact this)
    refine ⟨l, ⟨some a, cap, by rw [hll], by omega, ?_⟩, by omega, fun s hs => ?_⟩
    · exact reads_of hll (by omega) hq
    · obtain ⟨i, hi'⟩ := List.mem_iff_getElem?.1 hs
      obtain ⟨_, _, _, hW, _⟩ := hq i s hi'
      exact hW
end
theorem wf_i64 {n : Int} (h : (Lit.int .i64 n).wf = true) : -9223372036854775808 ≤ n ∧ n ≤ 9223372036854775807 := by
  simp only [Lit.wf, Bool.and_eq_true, decide_eq_true_eq] at h; exact h
theorem wf_u8 {n : Int} (h : (Lit.int .u8 n).wf = true) : 0 ≤ n ∧ n ≤ 255 := by
  simp only [Lit.wf, Bool.and_eq_true, decide_eq_true_eq] at h; exact h

def Wf40 (s_ : S40) : Prop := (fun n_ : Int => (Lit.int .i64 n_).wf = true) s_.f0 ∧ (fun n_ : Int => (Lit.int .i64 n_).wf = true) s_.f1 ∧ (fun l_ : List Int => l_.length ≤ maxLen ∧ ∀ s_ ∈ l_, (fun n_ : Int => (Lit.int .u8 n_).wf = true) s_) s_.f2 ∧ (fun l_ : List Int => l_.length ≤ maxLen ∧ ∀ s_ ∈ l_, (fun n_ : Int => (Lit.int .u8 n_).wf = true) s_) s_.f3
theorem opens_S40 {H : Type} {enc : TypeId × Value → H} {w : World} {base : Nat} {spare : Nat → Bool} {held : Bool} : Opens enc Try.prog w base spare held 40 k40 Wf40 := by
  intro fuel cs x h
  obtain ⟨xs, n, rfl, rfl, hl, hxl, hf⟩ := DataW.trod_struct Try.underlying40 h
  have hl' : cs.length = 4 := hl.trans (by kernel_rfl)
  have hx' : xs.length = 4 := hxl
  have h0 : DataW.trod enc Try.prog w base spare held n 3 ((cs.drop 0).take (Try.prog.cellsOf 3)) = xs[0]? := hf 0 _ rfl
  rw [show Try.prog.cellsOf 3 = 1 from by kernel_rfl, List.getElem?_eq_getElem (show 0 < xs.length by omega)] at h0
  obtain ⟨s0, k0_, w0⟩ := (opens_int Try.underlying3) _ _ _ h0
  have h1 : DataW.trod enc Try.prog w base spare held n 3 ((cs.drop 1).take (Try.prog.cellsOf 3)) = xs[1]? := hf 1 _ rfl
  rw [show Try.prog.cellsOf 3 = 1 from by kernel_rfl, List.getElem?_eq_getElem (show 1 < xs.length by omega)] at h1
  obtain ⟨s1, k1_, w1⟩ := (opens_int Try.underlying3) _ _ _ h1
  have h2 : DataW.trod enc Try.prog w base spare held n 38 ((cs.drop 2).take (Try.prog.cellsOf 38)) = xs[2]? := hf 2 _ rfl
  rw [show Try.prog.cellsOf 38 = 1 from by kernel_rfl, List.getElem?_eq_getElem (show 2 < xs.length by omega)] at h2
  obtain ⟨s2, k2_, w2⟩ := (opens_slice (d := (Kd.int .u8)) (Wf := (fun n_ : Int => (Lit.int .u8 n_).wf = true)) Try.underlying38 (by kernel_rfl) (opens_int Try.underlying5)) _ _ _ h2
  have h3 : DataW.trod enc Try.prog w base spare held n 38 ((cs.drop 3).take (Try.prog.cellsOf 38)) = xs[3]? := hf 3 _ rfl
  rw [show Try.prog.cellsOf 38 = 1 from by kernel_rfl, List.getElem?_eq_getElem (show 3 < xs.length by omega)] at h3
  obtain ⟨s3, k3_, w3⟩ := (opens_slice (d := (Kd.int .u8)) (Wf := (fun n_ : Int => (Lit.int .u8 n_).wf = true)) Try.underlying38 (by kernel_rfl) (opens_int Try.underlying5)) _ _ _ h3
  refine ⟨⟨s0, s1, s2, s3⟩, ?_, w0, w1, w2, w3⟩
  exact (show k40.K w ⟨s0, s1, s2, s3⟩ (cs.drop 0) from ⟨(cs.drop 0).take 1, cs.drop 1, drop_split cs 0 1, k0_, ⟨(cs.drop 1).take 1, cs.drop 2, drop_split cs 1 1, k1_, ⟨(cs.drop 2).take 1, cs.drop 3, drop_split cs 2 1, k2_, (show _ from by rw [← drop_last cs 3 1 (by omega)] at k3_; exact k3_)⟩⟩⟩)
def Wf66 (s_ : S66) : Prop := (fun l_ : List Int => l_.length ≤ maxLen ∧ ∀ s_ ∈ l_, (fun n_ : Int => (Lit.int .u8 n_).wf = true) s_) s_.f0 ∧ (fun l_ : List Int => l_.length ≤ maxLen ∧ ∀ s_ ∈ l_, (fun n_ : Int => (Lit.int .u8 n_).wf = true) s_) s_.f1 ∧ (fun n_ : Int => (Lit.int .u8 n_).wf = true) s_.f2 ∧ (fun _ : Bool => True) s_.f3
theorem opens_S66 {H : Type} {enc : TypeId × Value → H} {w : World} {base : Nat} {spare : Nat → Bool} {held : Bool} : Opens enc Try.prog w base spare held 66 k66 Wf66 := by
  intro fuel cs x h
  obtain ⟨xs, n, rfl, rfl, hl, hxl, hf⟩ := DataW.trod_struct Try.underlying66 h
  have hl' : cs.length = 4 := hl.trans (by kernel_rfl)
  have hx' : xs.length = 4 := hxl
  have h0 : DataW.trod enc Try.prog w base spare held n 38 ((cs.drop 0).take (Try.prog.cellsOf 38)) = xs[0]? := hf 0 _ rfl
  rw [show Try.prog.cellsOf 38 = 1 from by kernel_rfl, List.getElem?_eq_getElem (show 0 < xs.length by omega)] at h0
  obtain ⟨s0, k0_, w0⟩ := (opens_slice (d := (Kd.int .u8)) (Wf := (fun n_ : Int => (Lit.int .u8 n_).wf = true)) Try.underlying38 (by kernel_rfl) (opens_int Try.underlying5)) _ _ _ h0
  have h1 : DataW.trod enc Try.prog w base spare held n 38 ((cs.drop 1).take (Try.prog.cellsOf 38)) = xs[1]? := hf 1 _ rfl
  rw [show Try.prog.cellsOf 38 = 1 from by kernel_rfl, List.getElem?_eq_getElem (show 1 < xs.length by omega)] at h1
  obtain ⟨s1, k1_, w1⟩ := (opens_slice (d := (Kd.int .u8)) (Wf := (fun n_ : Int => (Lit.int .u8 n_).wf = true)) Try.underlying38 (by kernel_rfl) (opens_int Try.underlying5)) _ _ _ h1
  have h2 : DataW.trod enc Try.prog w base spare held n 5 ((cs.drop 2).take (Try.prog.cellsOf 5)) = xs[2]? := hf 2 _ rfl
  rw [show Try.prog.cellsOf 5 = 1 from by kernel_rfl, List.getElem?_eq_getElem (show 2 < xs.length by omega)] at h2
  obtain ⟨s2, k2_, w2⟩ := (opens_int Try.underlying5) _ _ _ h2
  have h3 : DataW.trod enc Try.prog w base spare held n 4 ((cs.drop 3).take (Try.prog.cellsOf 4)) = xs[3]? := hf 3 _ rfl
  rw [show Try.prog.cellsOf 4 = 1 from by kernel_rfl, List.getElem?_eq_getElem (show 3 < xs.length by omega)] at h3
  obtain ⟨s3, k3_, w3⟩ := (opens_bool Try.underlying4) _ _ _ h3
  refine ⟨⟨s0, s1, s2, s3⟩, ?_, w0, w1, w2, w3⟩
  exact (show k66.K w ⟨s0, s1, s2, s3⟩ (cs.drop 0) from ⟨(cs.drop 0).take 1, cs.drop 1, drop_split cs 0 1, k0_, ⟨(cs.drop 1).take 1, cs.drop 2, drop_split cs 1 1, k1_, ⟨(cs.drop 2).take 1, cs.drop 3, drop_split cs 2 1, k2_, (show _ from by rw [← drop_last cs 3 1 (by omega)] at k3_; exact k3_)⟩⟩⟩)
end Go.Proofs.Ytniadlnbjgodnaa.Print
