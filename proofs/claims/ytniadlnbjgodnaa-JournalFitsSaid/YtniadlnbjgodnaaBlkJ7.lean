/- A row of one's own beside a journal: filled, added, written to. -/
import Derived.Test.YtniadlnbjgodnaaProg
import Derived.Below
import Derived.Deep.Draws
import Derived.Deep.AppendLies
import Derived.Maps.AppendAt
import Derived.OwnWalk
import Derived.Laws.BytesArg
import Derived.Laws.MakeOwn
import Derived.Laws.OwnMore
import Derived.Deep.OwnRows
import Derived.Tactics
import Derived.Lib.ConvBytes
import Derived.Laws.Slices
import Derived.WalkKit
import Derived.KernelRfl
import Derived.RowKit3
import Derived.Deep.LoopGhost
import Derived.Deep.QuietTactic
import Derived.BigQuiet
import Derived.WideLaws
import Derived.Deep.DeepCutAuto
import Derived.Deep.CutBlock
import Derived.Deep.RegionHeld3
import Derived.Laws.Rows
import Derived.Lib.AppendStr
import Derived.ArgAppend
import Derived.Laws.IdiomCopy
import Derived.OrdersHeld
import Derived.Laws.BitsLemmas
import Derived.RowKit
import Derived.LoopN
import Derived.Handy
import Derived.Laws.EntriesVeiled
import Derived.MapKept
import Derived.Laws.Externs
import Derived.ChangeKeysEq
import Derived.Deep.WholeRow
import Derived.Test.YtniadlnbjgodnaaWWords
import Derived.Test.YtniadlnbjgodnaaWLast
import Derived.Test.YtniadlnbjgodnaaWTab
import Derived.Test.YtniadlnbjgodnaaWFour
import Derived.Test.YtniadlnbjgodnaaWQPut
import Derived.Test.YtniadlnbjgodnaaWApart
import Derived.Test.YtniadlnbjgodnaaWArr
import Derived.Test.YtniadlnbjgodnaaWZeros
import Derived.Test.YtniadlnbjgodnaaWFoot
import Derived.Test.YtniadlnbjgodnaaWKept
import Derived.Test.YtniadlnbjgodnaaWShare
import Derived.Test.YtniadlnbjgodnaaWN
import Derived.Test.YtniadlnbjgodnaaWFootNe
import Derived.Test.YtniadlnbjgodnaaWAt
import Derived.Test.YtniadlnbjgodnaaWEqStruct
import Derived.Test.YtniadlnbjgodnaaWRepsOne
import Derived.Test.YtniadlnbjgodnaaWInv
import Derived.Test.YtniadlnbjgodnaaWInvWords
import Derived.Test.YtniadlnbjgodnaaWGuard
import Derived.Test.YtniadlnbjgodnaaWNEv
import Derived.Test.YtniadlnbjgodnaaWMore
import Derived.Test.YtniadlnbjgodnaaBlkA
import Derived.Test.YtniadlnbjgodnaaBlkJ1
import Derived.Test.YtniadlnbjgodnaaBlkJ2
import Derived.Test.YtniadlnbjgodnaaBlkJ3
import Derived.Test.YtniadlnbjgodnaaBlkJ4
import Derived.Test.YtniadlnbjgodnaaBlkJ5
import Derived.Test.YtniadlnbjgodnaaBlkJ6
namespace Go.Proofs.Ytniadlnbjgodnaa.Print
open Go.RowKit Go.Proofs.YtniadlnbjgodnaaW.PrintWords Go.Proofs.YtniadlnbjgodnaaW.PrintLast Go.Proofs.YtniadlnbjgodnaaW.PrintMore
attribute [local go_sem] max2_int min2_int max_two min_two max_three min_three max_four min_four
set_option linter.unusedVariables false
set_option linter.unusedSimpArgs false
section
variable {w0 w w1 w' : World} {p gl gm pj u : Nat} {v lv : Value} {L : List (Bk × Bool)} {W : List (Int × Bk)} {rs : List (List Int)}
def fil (m k : Nat) (x : Int) : List Int := List.replicate k x ++ List.replicate (m - k) 0
theorem fil_zero (m : Nat) (x : Int) : fil m 0 x = List.replicate m 0 := by simp [fil]
theorem fil_all (m : Nat) (x : Int) : fil m m x = List.replicate m x := by simp [fil]
theorem fil_len {m k : Nat} (x : Int) (h : k ≤ m) : (fil m k x).length = m := by simp [fil]; omega
theorem fil_set {m k : Nat} (x : Int) (h : k < m) : (fil m k x).set k x = fil m (k + 1) x := by
  unfold fil
  obtain ⟨d, hd⟩ : ∃ d, m - k = d + 1 := ⟨m - k - 1, by omega⟩
  have h2 : m - (k + 1) = d := by omega
  rw [hd, h2, List.set_append, List.length_replicate, if_neg (Nat.lt_irrefl k), Nat.sub_self, List.replicate_succ, List.set_cons_zero, List.replicate_succ' (n := k), List.append_assoc]
  rfl
theorem fil_cell {B g m k c : Nat} {x : Int} {ok : Nat → Prop} (h : Kd.R (Kd.int .u8) 5 w B ok (.slice (some ⟨g, 0, none⟩) m c) (fil m k x)) (hk : k < m) : ∃ y, w.cell? ⟨g, k, none⟩ = some (.int .u8 y) ∧ w.frozen? ⟨g, k, none⟩ = false := by
  have hl := fil_len x (Nat.le_of_lt hk)
  have h2 : Kd.R (Kd.int .u8) 5 w B ok (.slice (some ⟨g, 0, none⟩) (fil m k x).length c) (fil m k x) := by rw [hl]; exact h
  have := Kd.R_cell (0 : Int) h2 (k : Int) (by omega) (by rw [hl]; omega)
  exact ⟨_, this.1, this.2⟩
theorem fil_put {B g m k c : Nat} {x : Int} {ok : Nat → Prop} (h : Kd.R (Kd.int .u8) 5 w B ok (.slice (some ⟨g, 0, none⟩) m c) (fil m k x)) (hk : k < m) : Kd.R (Kd.int .u8) 5 (w.setCell ⟨g, k, none⟩ (.int .u8 x)) B ok (.slice (some ⟨g, 0, none⟩) m c) (fil m (k + 1) x) := by
  have hl := fil_len x (Nat.le_of_lt hk)
  have h2 : Kd.R (Kd.int .u8) 5 w B ok (.slice (some ⟨g, 0, none⟩) (fil m k x).length c) (fil m k x) := by rw [hl]; exact h
  have h3 := (Kd.R_put h2 (k : Int) x).1
  rw [hl] at h3
  have h4 : Kd.R (Kd.int .u8) 5 (w.setCell ⟨g, k, none⟩ (.int .u8 x)) B ok (.slice (some ⟨g, 0, none⟩) m c) ((fil m k x).set k x) := h3
  rw [fil_set x hk] at h4
  exact h4
theorem row0 {B g m c : Nat} {xs : List Int} {x : Int} {ok : Nat → Prop} (h : Kd.R (Kd.int .u8) 5 w B ok (.slice (some ⟨g, 0, none⟩) m c) xs) (hx : xs[0]? = some x) (hw : w'.heap[g]? = w.heap[g]?) : w'.cell? ⟨g, 0, none⟩ = some (.int .u8 x) ∧ w'.frozen? ⟨g, 0, none⟩ = false := by
  obtain ⟨hi0, _⟩ := List.getElem?_eq_some_iff.1 hx
  obtain ⟨hm, _, _⟩ := Kd.R_reads' h
  subst hm
  have h0 := Kd.R_cell (0 : Int) h 0 (by omega) (by omega)
  have e4 : rdOf (0 : Int) xs 0 = x := by simp [rdOf, List.getD, hx]
  rw [e4] at h0
  exact ⟨(World.cell?_of_block hw).trans h0.1, (World.frozen?_of_block hw).trans h0.2⟩
theorem u16_at {A : Option Addr} {n : Nat} {xs : List Int} (h : Kd.C (Kd.int .u16) w A n xs) (i : Nat) (h1 : i < xs.length) : ∃ ad, A = some ad ∧ w.cell? (ad.add i) = some (.int .u16 xs[i]) := by
  obtain ⟨ad, c, e, _, hK, hc0⟩ := Kd.C_get h (0 : Int) (i : Int) (by omega) (by have := h.1; omega)
  have hc : ∀ j u, c[j]? = some u → w.cell? (ad.add (i * 1 + j)) = some u := hc0
  have e3 : xs.getD (Int.toNat (i : Int)) 0 = xs[i] := by simp [List.getD, h1]
  rw [e3] at hK
  obtain rfl : c = [.int .u16 xs[i]] := hK
  exact ⟨ad, e, by have hq := hc 0 _ rfl; rwa [Nat.mul_one, Nat.add_zero] at hq⟩
theorem rec_at {B : Nat} {ok : Nat → Prop} (h : RB w B ok v rs) {i : Nat} {b : List Int} (hb : rs[i]? = some b) {x : Int} (hx : b[0]? = some x) :
    ∃ g c g2 c2, v = .slice (some ⟨g, 0, none⟩) rs.length c ∧ w.cell? ⟨g, i, none⟩ = some (.slice (some ⟨g2, 0, none⟩) b.length c2) ∧ B ≤ g2 ∧ w.cell? ⟨g2, 0, none⟩ = some (.int .u8 x) ∧ w.frozen? ⟨g2, 0, none⟩ = false := by
  obtain ⟨hi, e⟩ := List.getElem?_eq_some_iff.1 hb
  obtain ⟨hi0, e0⟩ := List.getElem?_eq_some_iff.1 hx
  obtain ⟨g, c, rfl, _, _, _⟩ := Kd.R_form h (by omega)
  obtain ⟨cs, _, hM, hcs, _⟩ := Kd.R_elem h ([] : List Int) (i : Int) (by omega) (by omega)
  have e3 : rs.getD (Int.toNat (i : Int)) [] = b := by simp [List.getD, hb]
  rw [e3] at hM
  obtain ⟨v2, rfl, hR⟩ := hM
  obtain ⟨g2, c2, rfl, hB, _, _⟩ := Kd.R_form hR (by omega)
  have h0 := Kd.R_cell (0 : Int) hR 0 (by omega) (by omega)
  have e4 : rdOf (0 : Int) b 0 = x := by simp [rdOf, List.getD, hx]
  rw [e4] at h0
  exact ⟨g, c, g2, c2, rfl, by have := hcs 0 _ rfl; simpa [Kd.slice] using this, hB, h0.1, h0.2⟩
theorem fits_apC (L : List (Bk × Bool)) (rs : List (List Int)) (b : List Int) : fits L (usum rs) (b.length : Int) = decide (apC L rs b = 0) := by
  unfold apC
  by_cases h1 : 13515 < b.length
  · rw [if_pos h1]
    have : ¬ ((b.length : Int) ≤ 13515) := by omega
    simp [fits, this]
  · rw [if_neg h1]
    cases h2 : fits L (usum rs) (b.length : Int) <;> simp
theorem fits_neg (L : List (Bk × Bool)) (u : Nat) : fits L u (-1) = false := by simp [fits]
theorem fits_big (L : List (Bk × Bool)) (u : Nat) : fits L u 13516 = false := by simp [fits]
/-- A row made behind the journal is added; it may be written to then, and the journal stays. -/
theorem C_app2 (h : LS w0 w p gl gm v L W pj lv rs) (g : GJ L W rs) {gb : Nat} (hb : Below w.heap.size w w1) (hg : w.heap.size ≤ gb) (hg1 : gb < w1.heap.size) {b : List Int} (hC : Kd.C (Kd.int .u8) w1 (some ⟨gb, 0, none⟩) b.length b) {c : Nat} (hc : b.length ≤ c) :
    Calls Try.prog 14 #[.pointer (some ⟨pj, 0, none⟩), .slice (some ⟨gb, 0, none⟩) b.length c] w1 fun e w' => e = .returned (.int .i64 (apC L rs b)) ∧ ∃ v' lv', LS w0 w' p gl gm v' L (apW L W rs b) pj lv' (apR L rs b) ∧ w'.heap[gb]? = w1.heap[gb]? ∧ ∀ u, LS w0 (w'.setCell ⟨gb, 0, none⟩ u) p gl gm v' L (apW L W rs b) pj lv' (apR L rs b) := by
  have hus := usum_len rs
  have hu := g.hu
  have hl := g.hl
  have h1 := h.below hb
  have hsz := h.s.b.size
  have hr : RB w1 w0.heap.size (fun k => w0.heap.size ≤ k ∧ k ≠ gb) lv rs := Kd.R_below (Kd.R_mono (Kd.R_bound h.r) (fun k hk => ⟨hk.1, by have := hk.2.2.1; omega⟩)) hb
  have hnf : ¬ (foot p gl gm v gb ∨ jf pj lv gb) := by
    rintro (hf | hf | hf)
    · have := h.s.s.lt hf; omega
    · have := blk_lt h.j; omega
    · obtain ⟨inner, ho2⟩ := Kd.R_own h.r
      have := own_lt ho2 _ hf
      omega
  refine (j_Append h1.s.s h1.j hr h1.s.b.size (fun k hk => ⟨by have := h1.s.b.size; omega, by omega⟩) g.hu (by omega) hC hc (fun _ ad e => by cases e; exact fun hf => hnf (.inl hf)) (appR_of g b).symm).mono ?_
  rintro e w' ⟨rfl, v', lv', hs, hj, hr, hm⟩
  have e : usum (apR L rs b) = if apC L rs b = 0 then usum rs + pn b.length else usum rs := by
    unfold apR
    split
    · rw [usum_append]; rfl
    · rfl
  have hB : Below w0.heap.size w0 w' := hm.below h1.s.b h1.s.b.size (fun k hk => hk.elim h1.s.s.base h1.jf)
  have hj' : JBk w' pj p lv' (usum (apR L rs b)) := by rw [e]; exact hj
  have hnf' : ¬ (foot p gl gm v' gb ∨ jf pj lv' gb) := fun hf => by
    rcases hm.foot _ hf with hf | hf
    · exact hnf hf
    · omega
  refine ⟨rfl, v', lv', ⟨⟨hs, hB⟩, hj', Kd.R_mono hr (fun k hk => hk.1), h.p⟩, hm.block gb hg1 hnf, fun u => ?_⟩
  refine ⟨⟨hs.keep (fun k hf => Below.heap_setCell w' ⟨gb, 0, none⟩ u k (fun (e : k = gb) => hnf' (.inl (e ▸ hf)))), hB.setCell (by show w0.heap.size ≤ gb; omega) u⟩, ?_, Kd.R_mono (Kd.R_far (p := ⟨gb, 0, none⟩) hr (fun k hk => hk.2) u) (fun k hk => hk.1), h.p⟩
  exact (Below.heap_setCell w' ⟨gb, 0, none⟩ u pj (fun e => hnf' (.inr (.inl e.symm)))).trans hj'
end
end Go.Proofs.Ytniadlnbjgodnaa.Print
