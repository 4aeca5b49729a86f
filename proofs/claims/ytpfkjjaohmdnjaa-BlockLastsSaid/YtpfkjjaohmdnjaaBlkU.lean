/- Two stores in one world: what one moves keeps the other. -/
import Derived.Test.YtpfkjjaohmdnjaaProg
import Derived.Below
import Derived.Deep.Draws
import Derived.Deep.AppendLies
import Derived.Maps.AppendAt
import Derived.OwnWalk
import Derived.Laws.BytesArg
import Derived.Laws.MakeOwn
import Derived.Laws.OwnMore
import Derived.Deep.OwnRows
import Derived.Tactics
import Derived.Lib.ConvBytes
import Derived.Laws.Slices
import Derived.WalkKit
import Derived.KernelRfl
import Derived.RowKit3
import Derived.Deep.LoopGhost
import Derived.Deep.QuietTactic
import Derived.BigQuiet
import Derived.WideLaws
import Derived.Deep.DeepCutAuto
import Derived.Deep.CutBlock
import Derived.Deep.RegionHeld3
import Derived.Laws.Rows
import Derived.Lib.AppendStr
import Derived.ArgAppend
import Derived.Laws.IdiomCopy
import Derived.OrdersHeld
import Derived.Laws.BitsLemmas
import Derived.RowKit
import Derived.LoopN
import Derived.Handy
import Derived.Laws.EntriesVeiled
import Derived.MapKept
import Derived.Laws.Externs
import Derived.ChangeKeysEq
import Derived.Deep.WholeRow
import Derived.Test.YtpfkjjaohmdnjaaWWords
import Derived.Test.YtpfkjjaohmdnjaaWLast
import Derived.Test.YtpfkjjaohmdnjaaWTab
import Derived.Test.YtpfkjjaohmdnjaaWFour
import Derived.Test.YtpfkjjaohmdnjaaWQPut
import Derived.Test.YtpfkjjaohmdnjaaWApart
import Derived.Test.YtpfkjjaohmdnjaaWArr
import Derived.Test.YtpfkjjaohmdnjaaWZeros
import Derived.Test.YtpfkjjaohmdnjaaWFoot
import Derived.Test.YtpfkjjaohmdnjaaWKept
import Derived.Test.YtpfkjjaohmdnjaaWShare
import Derived.Test.YtpfkjjaohmdnjaaWN
import Derived.Test.YtpfkjjaohmdnjaaWFootNe
import Derived.Test.YtpfkjjaohmdnjaaWAt
import Derived.Test.YtpfkjjaohmdnjaaWEqStruct
import Derived.Test.YtpfkjjaohmdnjaaWRepsOne
import Derived.Test.YtpfkjjaohmdnjaaWInv
import Derived.Test.YtpfkjjaohmdnjaaWInvWords
import Derived.Test.YtpfkjjaohmdnjaaWGuard
import Derived.Test.YtpfkjjaohmdnjaaWNEv
import Derived.Test.YtpfkjjaohmdnjaaWMore
import Derived.Test.YtpfkjjaohmdnjaaBlkA
import Derived.Test.YtpfkjjaohmdnjaaBlkB
import Derived.Test.YtpfkjjaohmdnjaaBlkC
import Derived.Test.YtpfkjjaohmdnjaaBlkD
import Derived.Test.YtpfkjjaohmdnjaaBlkE
import Derived.Test.YtpfkjjaohmdnjaaBlkJ
import Derived.Test.YtpfkjjaohmdnjaaBlkK
import Derived.Test.YtpfkjjaohmdnjaaBlkL
import Derived.Test.YtpfkjjaohmdnjaaBlkM
import Derived.Test.YtpfkjjaohmdnjaaBlkN
import Derived.Test.YtpfkjjaohmdnjaaBlkO
import Derived.Test.YtpfkjjaohmdnjaaBlkP
import Derived.Test.YtpfkjjaohmdnjaaBlkQ
import Derived.Test.YtpfkjjaohmdnjaaBlkR
import Derived.Test.YtpfkjjaohmdnjaaBlkT
namespace Go.Proofs.Ytpfkjjaohmdnjaa.Print
open Go.RowKit Go.Proofs.YtpfkjjaohmdnjaaW.PrintWords Go.Proofs.YtpfkjjaohmdnjaaW.PrintLast Go.Proofs.YtpfkjjaohmdnjaaW.PrintMore
attribute [local go_sem] max2_int min2_int max_two min_two max_three min_three max_four min_four
set_option linter.unusedVariables false
set_option linter.unusedSimpArgs false
section
variable {B B' : Nat} {w w' : World} {p gl gm p2 gl2 gm2 pr glr : Nat} {v v2 vr : Value} {L L2 : List (Bk × Bool)} {W W2 : List (Int × Bk)}
theorem RA.typed (h : RA B w pr glr vr L W) {k : Nat} (hk : rfoot pr glr vr k) : ∃ cs t, w.heap[k]? = some (.cells cs t (0, 0)) ∧ (t = 44 ∨ t = 69 ∨ t = 67) := by
  rcases hk with rfl | rfl | e
  · exact ⟨_, _, h.hp, .inl rfl⟩
  · exact ⟨_, _, h.hl, .inr (.inl rfl)⟩
  · obtain ⟨cs, h1⟩ := own_type h.hw e
    exact ⟨_, _, h1, .inr (.inr rfl)⟩
theorem apart (hs : SA B w p gl gm v L W) (hr : RA B' w pr glr vr L2 W2) {k : Nat} (hk : rfoot pr glr vr k) : ¬ foot p gl gm v k := by
  obtain ⟨cs, t, h1, h2⟩ := hr.typed hk
  exact hs.far h1 (by rcases h2 with rfl | rfl | rfl <;> decide)
theorem RA.mv (hr : RA B' w pr glr vr L2 W2) (hs : SA B w p gl gm v L W) {F' : Nat → Prop} (hm : Mv (foot p gl gm v) F' w w') : RA B' w' pr glr vr L2 W2 := hr.keep (fun k hk => hm.block k (hr.lt hk) (apart hs hr hk))
theorem SA.mv (hs : SA B w p gl gm v L W) (hr : RA B' w pr glr vr L2 W2) {F' : Nat → Prop} (hm : Mv (rfoot pr glr vr) F' w w') : SA B w' p gl gm v L W := hs.keep (fun k hk => hm.block k (hs.lt hk) (fun h => apart hs hr h hk))
theorem RA.arg (h : RA B w p gl v L W) {w0 : World} {l : List Int} {A : Option Addr} (hC : Kd.C (Kd.int .u8) w0 A l.length l) (hB : w0.heap.size ≤ B) : 0 < l.length → ∀ ad, A = some ad → ¬ rfoot p gl v ad.block := by
  intro hl ad e hf
  obtain ⟨ad', e', hc⟩ := hC.2.2 hl
  rw [e] at e'
  cases e'
  obtain ⟨c, h1, h2, h3⟩ := hc 0 _ (List.getElem?_eq_getElem hl)
  have hlt : (ad.add (0 * (Kd.int .u8).sz + 0)).block < w0.heap.size := by
    cases c with
    | nil => cases h1
    | cons u t => exact World.block_lt_of_cell? w0 _ (h3 0 u rfl)
  have e2 : (ad.add (0 * (Kd.int .u8).sz + 0)).block = ad.block := by unfold Addr.add; split <;> rfl
  have := h.base hf
  omega
theorem RA.base_le (h : RA B w p gl v L W) : B ≤ w.heap.size := Nat.le_trans h.hB.1 (Nat.le_of_lt (blk_lt h.hp))
theorem lr_New (n : Nat) (hn : 1 ≤ n ∧ n ≤ 4096) : Calls Try.prog 11 #[.int .i64 n] w fun e w' => ∃ p, e = .returned (.tuple #[.pointer (some ⟨p, 0, none⟩), .int .i64 0]) ∧ ∃ gl v, RA w.heap.size w' p gl v (zeros n) [] ∧ Below w.heap.size w w' := by
  refine (r_New n hn).mono ?_
  rintro e w' ⟨p, rfl, F, ⟨gl, v, h, rfl⟩, hm⟩
  exact ⟨p, rfl, gl, v, h, hm.below (Below.refl _ _) (Nat.le_refl _) (fun _ h => h.elim)⟩
theorem lr_Read (h : RA B w p gl v L W) (a : Int) {b : Bk} {c : Int} (e0 : rd L W a = (b, c)) : Calls Try.prog 20 #[.pointer (some ⟨p, 0, none⟩), .int .i64 a] w fun e w' => e = .returned (.tuple #[.agg b.cs.toArray, .int .i64 c]) ∧ Below w.heap.size w w' := by
  have := r_Read h a
  rw [e0] at this
  exact this
/-- Two stores of the program's. -/
def Two (p gl gm p2 gl2 gm2 : Nat) (v v2 : Value) : Prop := ∀ k, foot p gl gm v k → ¬ foot p2 gl2 gm2 v2 k
theorem SA.mv2 (hs : SA B w p2 gl2 gm2 v2 L W) (ha : Two p gl gm p2 gl2 gm2 v v2) {F' : Nat → Prop} (hm : Mv (foot p gl gm v) F' w w') : SA B w' p2 gl2 gm2 v2 L W := hs.keep (fun k hk => hm.block k (hs.lt hk) (fun h => ha k h hk))
theorem Two.symm (h : Two p gl gm p2 gl2 gm2 v v2) : Two p2 gl2 gm2 p gl gm v2 v := fun k h1 h2 => h k h2 h1
theorem Two.moved {v' : Value} (h : Two p gl gm p2 gl2 gm2 v v2) (hs : SA B w p2 gl2 gm2 v2 L W) (hm : Mv (foot p gl gm v) (foot p gl gm v') w w') : Two p gl gm p2 gl2 gm2 v' v2 := fun k h1 h2 => (hm.foot k h1).elim (fun h3 => h k h3 h2) (fun h3 => by have := hs.lt h2; omega)
end
end Go.Proofs.Ytpfkjjaohmdnjaa.Print
