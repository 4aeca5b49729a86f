/- The laws' own small steps: contracts told by what is read. -/
import Derived.Test.YtpfkjjaohmdnjaaProg
import Derived.Below
import Derived.Deep.Draws
import Derived.Deep.AppendLies
import Derived.Maps.AppendAt
import Derived.OwnWalk
import Derived.Laws.BytesArg
import Derived.Laws.MakeOwn
import Derived.Laws.OwnMore
import Derived.Deep.OwnRows
import Derived.Tactics
import Derived.Lib.ConvBytes
import Derived.Laws.Slices
import Derived.WalkKit
import Derived.KernelRfl
import Derived.RowKit3
import Derived.Deep.LoopGhost
import Derived.Deep.QuietTactic
import Derived.BigQuiet
import Derived.WideLaws
import Derived.Deep.DeepCutAuto
import Derived.Deep.CutBlock
import Derived.Deep.RegionHeld3
import Derived.Laws.Rows
import Derived.Lib.AppendStr
import Derived.ArgAppend
import Derived.Laws.IdiomCopy
import Derived.OrdersHeld
import Derived.Laws.BitsLemmas
import Derived.RowKit
import Derived.LoopN
import Derived.Handy
import Derived.Laws.EntriesVeiled
import Derived.MapKept
import Derived.Laws.Externs
import Derived.ChangeKeysEq
import Derived.Deep.WholeRow
import Derived.Test.YtpfkjjaohmdnjaaWWords
import Derived.Test.YtpfkjjaohmdnjaaWLast
import Derived.Test.YtpfkjjaohmdnjaaWTab
import Derived.Test.YtpfkjjaohmdnjaaWFour
import Derived.Test.YtpfkjjaohmdnjaaWQPut
import Derived.Test.YtpfkjjaohmdnjaaWApart
import Derived.Test.YtpfkjjaohmdnjaaWArr
import Derived.Test.YtpfkjjaohmdnjaaWZeros
import Derived.Test.YtpfkjjaohmdnjaaWFoot
import Derived.Test.YtpfkjjaohmdnjaaWKept
import Derived.Test.YtpfkjjaohmdnjaaWShare
import Derived.Test.YtpfkjjaohmdnjaaWN
import Derived.Test.YtpfkjjaohmdnjaaWFootNe
import Derived.Test.YtpfkjjaohmdnjaaWAt
import Derived.Test.YtpfkjjaohmdnjaaWEqStruct
import Derived.Test.YtpfkjjaohmdnjaaWRepsOne
import Derived.Test.YtpfkjjaohmdnjaaWInv
import Derived.Test.YtpfkjjaohmdnjaaWInvWords
import Derived.Test.YtpfkjjaohmdnjaaWGuard
import Derived.Test.YtpfkjjaohmdnjaaWNEv
import Derived.Test.YtpfkjjaohmdnjaaWMore
import Derived.Test.YtpfkjjaohmdnjaaBlkA
import Derived.Test.YtpfkjjaohmdnjaaBlkB
import Derived.Test.YtpfkjjaohmdnjaaBlkC
import Derived.Test.YtpfkjjaohmdnjaaBlkD
import Derived.Test.YtpfkjjaohmdnjaaBlkE
import Derived.Test.YtpfkjjaohmdnjaaBlkJ
import Derived.Test.YtpfkjjaohmdnjaaBlkO
import Derived.Test.YtpfkjjaohmdnjaaBlkP
import Derived.Test.YtpfkjjaohmdnjaaBlkQ
import Derived.Test.YtpfkjjaohmdnjaaBlkR
namespace Go.Proofs.Ytpfkjjaohmdnjaa.Print
open Go.RowKit Go.Proofs.YtpfkjjaohmdnjaaW.PrintWords Go.Proofs.YtpfkjjaohmdnjaaW.PrintLast Go.Proofs.YtpfkjjaohmdnjaaW.PrintMore
attribute [local go_sem] max2_int min2_int max_two min_two max_three min_three max_four min_four
set_option linter.unusedVariables false
set_option linter.unusedSimpArgs false
section
variable {B : Nat} {w w' : World} {p gl gm : Nat} {v : Value} {L : List (Bk × Bool)} {W : List (Int × Bk)}
theorem SA.row_far (h : SA B w p gl gm v L W) {g t : Nat} {cs : Array Value} (hg : w.heap[g]? = some (.cells cs t (0, 0))) (ht : t ≠ 65 ∧ t ≠ 73 ∧ t ≠ 78) (cs' : Array Value) : SA B (w.setRow g cs') p gl gm v L W :=
  h.keep (fun k hk => setRow_other w g k cs' (fun e => h.far hg ht (e ▸ hk)))
theorem RA.row_far (h : RA B w p gl v L W) {g t : Nat} {cs : Array Value} (hg : w.heap[g]? = some (.cells cs t (0, 0))) (ht : t ≠ 44 ∧ t ≠ 69 ∧ t ≠ 67) (cs' : Array Value) : RA B (w.setRow g cs') p gl v L W :=
  h.keep (fun k hk => setRow_other w g k cs' (fun e => h.far hg ht (e ▸ hk)))
theorem SA.base_le (h : SA B w p gl gm v L W) : B ≤ w.heap.size := Nat.le_trans h.hB.1 (Nat.le_of_lt (blk_lt h.hp))
theorem l_New (n : Nat) (hn : 1 ≤ n ∧ n ≤ 4096) : Calls Try.prog 10 #[.int .i64 n] w fun e w' => ∃ p, e = .returned (.tuple #[.pointer (some ⟨p, 0, none⟩), .int .i64 0]) ∧ ∃ gl gm v, SA w.heap.size w' p gl gm v (zeros n) [] ∧ Below w.heap.size w w' := by
  refine (b_New n hn).mono ?_
  rintro e w' ⟨p, rfl, F, ⟨gl, gm, v, h, rfl⟩, hm⟩
  exact ⟨p, rfl, gl, gm, v, h, hm.below (Below.refl _ _) (Nat.le_refl _) (fun _ h => h.elim)⟩
theorem l_Read (h : SA B w p gl gm v L W) (a : Int) {b : Bk} {c : Int} (e0 : rd L W a = (b, c)) : Calls Try.prog 19 #[.pointer (some ⟨p, 0, none⟩), .int .i64 a] w fun e w' => e = .returned (.tuple #[.agg b.cs.toArray, .int .i64 c]) ∧ Below w.heap.size w w' := by
  have := b_Read h a
  rw [e0] at this
  exact this
/-- What lies under every block of the store's is none of them. -/
theorem SA.arg (h : SA B w p gl gm v L W) {w0 : World} {l : List Int} {A : Option Addr} (hC : Kd.C (Kd.int .u8) w0 A l.length l) (hB : w0.heap.size ≤ B) : 0 < l.length → ∀ ad, A = some ad → ¬ foot p gl gm v ad.block := by
  intro hl ad e hf
  obtain ⟨ad', e', hc⟩ := hC.2.2 hl
  rw [e] at e'
  cases e'
  obtain ⟨c, h1, h2, h3⟩ := hc 0 _ (List.getElem?_eq_getElem hl)
  have hlt : (ad.add (0 * (Kd.int .u8).sz + 0)).block < w0.heap.size := by
    cases c with
    | nil => cases h1
    | cons u t => exact World.block_lt_of_cell? w0 _ (h3 0 u rfl)
  have e2 : (ad.add (0 * (Kd.int .u8).sz + 0)).block = ad.block := by unfold Addr.add; split <;> rfl
  have := h.base hf
  omega
theorem want_store {P : Program} {o : Oper} {ev : Operand → Value} {w : World} {want : List Bk} {q g t : Nat} {z : Bk} (ty : TypeId) (x y : Operand) (ho : o.op = .store ty x y) (hx : ev x = .pointer (some ⟨g, q * 64, none⟩)) (hy : ev y = z.v)
    (hg : w.heap[g]? = some (.cells (wcells want) t (0, 0))) (hq : q < want.length) (hi : (P.info? ty).map (·.size) = some 64) : (execOp ev o).run P w = .ok .skip (w.setRow g (wcells (want.set q z))) := by
  have := store_run_mid (P := P) (ev := ev) ty x y ho g (q * 64) z.cs.toArray hx hy t (wcells want) hg (by rw [hi, bk_sz]) (by rw [bk_sz, wcells_size]; omega) (bk_all z)
  rw [this, bk_sz]
  have e := wcells_set want q hq z
  simp only at e ⊢
  rw [e]
theorem bk_eq (d : Nat) (a b : Bk) (W : World) : (Op.equalIn (d + 2) 45 a.v b.v).run Try.prog W = .ok (decide (a = b)) W := by
  have hu : Try.prog.underlying 5 = some (.int .u8) := by kernel_rfl
  have := eqArr_ints (P := Try.prog) (t := 45) (e := 5) (k := .u8) (n := 64) bk_und hu (by kernel_rfl) (by kernel_rfl) d a.l b.l a.h b.h W
  have e : decide (a.l = b.l) = decide (a = b) := decide_eq_decide.2 ⟨Bk.eq, fun h => by rw [h]⟩
  rw [e] at this
  exact this
theorem rbk_eq (d : Nat) (a b : Bk) (W : World) : (Op.equalIn (d + 2) 37 a.v b.v).run Try.prog W = .ok (decide (a = b)) W := by
  have hu : Try.prog.underlying 5 = some (.int .u8) := by kernel_rfl
  have := eqArr_ints (P := Try.prog) (t := 37) (e := 5) (k := .u8) (n := 64) rbk_und hu (by kernel_rfl) (by kernel_rfl) d a.l b.l a.h b.h W
  have e : decide (a.l = b.l) = decide (a = b) := decide_eq_decide.2 ⟨Bk.eq, fun h => by rw [h]⟩
  rw [e] at this
  exact this
/-- A step keeps what is written, as it is read. -/
theorem doC_range {k a : Int} (h : doC L W k a = 0) (hk : k = 1) : 0 ≤ a ∧ a < L.length := by
  rw [doC, if_pos hk, wrc] at h
  apply Decidable.byContradiction
  intro hn
  rw [if_neg hn] at h
  cases h
def want0 : List Bk := List.replicate 30 Bk.z
theorem want0_len : want0.length = 30 := List.length_replicate
theorem rep_at (n a : Nat) (b : Bk) : (List.replicate n b).getD a b = b := by
  by_cases h : a < n <;> simp [List.getD, List.getElem?_replicate, h]
theorem want0_at (a : Nat) : want0.getD a Bk.z = Bk.z := rep_at 30 a Bk.z
theorem wt_zero0 (w : World) : (zeroValue 53).run Try.prog w = .ok (.agg (wcells want0)) w := wt_zero w
theorem rd_zeros (n a : Nat) (h : a < n) : rd (zeros n) [] (a : Int) = (Bk.z, 0) := by
  unfold rd
  rw [zeros_len, if_pos ⟨by omega, by omega⟩]
  have : (zeros n).getD a (Bk.z, true) = (Bk.z, false) := by simp [zeros, List.getD, List.getElem?_replicate, h]
  simp only [lastOf_nil, Int.toNat_natCast, this]
  rfl
theorem op_all (k a : Int) (A2 A3 : Option Addr) (n2 c2 n3 c3 : Nat) : (#[Value.int .i64 k, .int .i64 a, .slice A2 n2 c2, .slice A3 n3 c3] : Array Value).all (·.oneCell') = true := by kernel_rfl
theorem doL_len (k : Int) (fs : List Int) : (doL L W k fs).length = L.length := by
  unfold doL
  split
  · rw [setl_len]
  · split
    · rw [setl_len]
    · rfl
theorem rd_do (h : ∀ x ∈ W, 0 ≤ x.1 ∧ x.1 < L.length) {k a : Int} {bs fs : List Int} (hk : k ≠ 3) (j : Int) : rd (doL L W k fs) (doW L W k a bs) j = if k = 1 ∧ doC L W k a = 0 ∧ j = a then (ofB bs, 0) else rd L W j := by
  by_cases h1 : k = 1
  · subst h1
    rw [doL, if_neg (by decide), if_neg (by decide), doW, if_pos rfl, doC, if_pos rfl]
    by_cases h2 : wrc L W a = 0
    · rw [rd_write L W a (ofB bs) h2]
      by_cases h3 : j = a
      · rw [if_pos h3, if_pos ⟨rfl, h2, h3⟩]
      · rw [if_neg h3, if_neg (fun e => h3 e.2.2)]
    · rw [wrW, if_neg h2, if_neg (fun e => h2 e.2.1)]
  · rw [if_neg (fun e => h1 e.1)]
    by_cases h2 : k = 2
    · subst h2
      rw [doL, if_pos rfl, doW, if_neg (by decide), if_pos rfl]
      exact rd_sync W 0 L h j
    · rw [doL, if_neg h2, if_neg hk, doW, if_neg h1, if_neg h2, if_neg hk]
theorem want_next {want : List Bk} {L' : List (Bk × Bool)} {W' : List (Int × Bk)} {q : Nat} {b : Bk} (hq : q < want.length) (hwl : want.length = 30) (h : ∀ a : Nat, a < 30 → rd L W a = (want.getD a Bk.z, 0)) (hn : ∀ j : Int, rd L' W' j = if j = (q : Int) then (b, 0) else rd L W j) : ∀ a : Nat, a < 30 → rd L' W' a = ((want.set q b).getD a Bk.z, 0) := by
  intro a ha
  rw [hn]
  by_cases e : a = q
  · subst e
    rw [if_pos rfl]
    simp [List.getD, hq]
  · rw [if_neg (by omega), h a ha]
    simp [List.getD, List.getElem?_set_ne (Ne.symm e)]
end
section
theorem nil_C {w : World} : Kd.C (Kd.int .u8) w none ([] : List Int).length [] := ⟨rfl, by simp, fun h => absurd h (by simp)⟩
theorem rd_both {L : List (Bk × Bool)} {W : List (Int × Bk)} {j : Int} (h : (rd L [] j).2 = 0) : (rd L W j).2 = 0 := by
  unfold rd at h ⊢
  split
  · rename_i hin
    rw [if_pos hin, lastOf_nil] at h
    cases lastOf W j with
    | some b => rfl
    | none => exact h
  · rename_i hin
    rw [if_neg hin] at h
    cases h
/-- One more of the blocks that are read is kept. -/
theorem last_next {L : List (Bk × Bool)} {want : List Bk} {j : Nat} {b : Bk} (hj : j < 30) (hwl : want.length = 30) (h : ∀ a : Nat, a < j → rd L [] a = (want.getD a Bk.z, 0)) (e : rd L [] (j : Int) = (b, 0)) : ∀ a : Nat, a < j + 1 → rd L [] a = ((want.set j b).getD a Bk.z, 0) := by
  intro a ha
  by_cases e2 : a = j
  · subst e2
    rw [e]
    simp [List.getD, hwl, hj]
  · rw [h a (by omega)]
    simp [List.getD, List.getElem?_set_ne (Ne.symm e2)]
end
theorem row_at {w : World} {g t i : Nat} {cs : Array Value} {b : Bk} (h : w.heap[g]? = some (.cells cs t (0, 0))) (hc : ∀ q, q < 64 → cs[i + q]? = b.cs[q]?) : ∀ j v, b.cs[j]? = some v → w.cell? ((⟨g, i, none⟩ : Addr).add j) = some v := fun j v hv => by
  have hj : j < 64 := by have := (List.getElem?_eq_some_iff.1 hv).1; rwa [b.len] at this
  have hadd : (⟨g, i, none⟩ : Addr).add j = ⟨g, i + j, none⟩ := by unfold Addr.add; split <;> simp_all
  rw [hadd, blk_cell h, hc j hj, hv]
end Go.Proofs.Ytpfkjjaohmdnjaa.Print
