/- Here is proved: what replica.number answers. Conditions: none. -/
import Derived.Test.YtolapikiflodfaaProg
import Derived.Below
import Derived.Deep.Draws
import Derived.Deep.AppendLies
import Derived.Maps.AppendAt
import Derived.OwnWalk
import Derived.Laws.BytesArg
import Derived.Laws.MakeOwn
import Derived.Laws.OwnMore
import Derived.Deep.OwnRows
import Derived.Tactics
import Derived.Lib.ConvBytes
import Derived.Laws.Slices
import Derived.WalkKit
import Derived.KernelRfl
import Derived.RowKit3
import Derived.Deep.LoopGhost
import Derived.Deep.QuietTactic
import Derived.BigQuiet
import Derived.WideLaws
import Derived.Deep.DeepCutAuto
import Derived.Deep.CutBlock
import Derived.Deep.RegionHeld3
import Derived.Laws.Rows
import Derived.Lib.AppendStr
import Derived.ArgAppend
import Derived.Laws.IdiomCopy
import Derived.OrdersHeld
import Derived.Laws.BitsLemmas
import Derived.RowKit
import Derived.Test.YtolapikiflodfaaWWords
import Derived.Test.YtolapikiflodfaaWLast
import Derived.Test.YtolapikiflodfaaWTab
import Derived.Test.YtolapikiflodfaaWFour
import Derived.Test.YtolapikiflodfaaWQPut
import Derived.Test.YtolapikiflodfaaWApart
import Derived.Test.YtolapikiflodfaaWArr
import Derived.Test.YtolapikiflodfaaWZeros
import Derived.Test.YtolapikiflodfaaWFoot
import Derived.Test.YtolapikiflodfaaWKept
import Derived.Test.YtolapikiflodfaaWShare
import Derived.Test.YtolapikiflodfaaWN
import Derived.Test.YtolapikiflodfaaWFootNe
import Derived.Test.YtolapikiflodfaaWAt
import Derived.Test.YtolapikiflodfaaWEqStruct
import Derived.Test.YtolapikiflodfaaWRepsOne
import Derived.Test.YtolapikiflodfaaWInv
import Derived.Test.YtolapikiflodfaaWInvWords
import Derived.Test.YtolapikiflodfaaWGuard
import Derived.Test.YtolapikiflodfaaWNEv
import Derived.Test.YtolapikiflodfaaWMore
import Derived.Test.YtolapikiflodfaaRep1
import Derived.Lib.AtoiErrMem
namespace Go.Proofs.Ytolapikiflodfaa.Rep
open Go Go.Proofs Go.RowKit
open Go.RowKit Go.Proofs.YtolapikiflodfaaW.PrintWords Go.Proofs.YtolapikiflodfaaW.PrintLast Go.Proofs.YtolapikiflodfaaW.PrintMore
def be4 (b : ByteArray) : Int := ((bt b 0 * 256 + bt b 1) * 256 + bt b 2) * 256 + bt b 3
/-- the first k bytes as a number -/
def beK (b : ByteArray) : Nat → Int
  | 0 => 0
  | k + 1 => beK b k * 256 + bt b k
theorem beK4 (b : ByteArray) : beK b 4 = be4 b := by
  show ((((0 * 256 + bt b ((0 : Nat) : Int)) * 256 + bt b ((1 : Nat) : Int)) * 256 + bt b ((2 : Nat) : Int)) * 256 + bt b ((3 : Nat) : Int)) = _
  rw [show (0 : Int) * 256 = 0 from rfl, Int.zero_add]; rfl
theorem beK_in (b : ByteArray) (k : Nat) (hk : k ≤ 4) : 0 ≤ beK b k ∧ beK b k ≤ 16777215 * (if k ≤ 3 then 1 else 257) ∧ (k ≤ 3 → beK b k ≤ 16777215) := by
  have h0 := bt_range b ((0 : Nat) : Int); have h1 := bt_range b ((1 : Nat) : Int); have h2 := bt_range b ((2 : Nat) : Int); have h3 := bt_range b ((3 : Nat) : Int)
  match k, hk with
  | 0, _ => simp only [beK]; omega
  | 1, _ => simp only [beK]; omega
  | 2, _ => simp only [beK]; omega
  | 3, _ => simp only [beK]; omega
  | 4, _ => simp only [beK]; omega
theorem first4_cell (s : ByteArray) (h4 : 4 ≤ s.size) (w : World) (k : Nat) (hk : k < 4) : (Lib.bytesWorld w 5 (s.extract 0 4)).cell? ⟨w.heap.size, k, none⟩ = some (.int .u8 (bt s k)) := by
  have hs : (s.extract 0 4).size = 4 := by rw [ByteArray.size_extract]; omega
  rw [Lib.bytesWorld_cell w 5 (s.extract 0 4) k (by omega)]
  have hb : bt s k = (((s.extract 0 4).data.toList.getD k 0).toNat : Int) := by
    have h1 : k < s.size := by omega
    rw [← bt_at s k (by rw [Int.toNat_natCast]; exact h1)]
    have e : (s.extract 0 4).data.toList.getD k 0 = s[k] := by
      have hk4 : k < (s.extract 0 4).data.toList.length := by rw [Array.length_toList]; show k < (s.extract 0 4).size; omega
      rw [List.getD_eq_getElem?_getD, List.getElem?_eq_getElem hk4, Option.getD_some]
      have e2 : (s.extract 0 4)[k]'(by omega) = s[0 + k]'(by omega) := ByteArray.getElem_extract (by omega)
      have e3 : s[0 + k]'(by omega) = s[k] := by congr 1; omega
      exact e2.trans e3
    rw [e]; rfl
  rw [hb]
/-- what does not fit 31 bits is none -/
def lim (n : Int) : Int := if n > 2147483647 then -1 else n
theorem acc (n c : Int) (h0 : 0 ≤ n) (h1 : n ≤ 16777215) (hc0 : 0 ≤ c) (hc : c ≤ 255) : bits .or .i64 (n * 256) c = n * 256 + c := by
  refine bits_join .i64 62 (by decide) (fun m a b => ?_) 8 (n * 256) c (by omega) (by omega) (by omega) hc0 (by omega) (by omega)
  rw [IntKind.wrap_i64]; omega
def numF (b : ByteArray) : Int := if b.size = 4 then lim (be4 b) else -1
theorem all4_cell (s : ByteArray) (h4 : s.size = 4) (w : World) (k : Nat) (hk : k < 4) : (Lib.bytesWorld w 5 s).cell? ⟨w.heap.size, k, none⟩ = some (.int .u8 (bt s k)) := by
  have h := first4_cell s (by omega) w k hk
  rwa [show s.extract 0 4 = s from by rw [← h4]; exact ByteArray.extract_zero_size] at h
set_option maxHeartbeats 1000000 in
theorem num_c (s : ByteArray) (r : Int) (h : numF s = r) (w : World) : Calls Try.prog 92 #[.string s] w fun e w' => e = .returned (.int .i64 r) ∧ Below w.heap.size w w' := by
  have HR := Aside0.mk h
  clear h
  by_cases h4 : s.size = 4
  · have HB := Aside0.mk (Lib.bytesWorld_below w 5 s)
    have hcv := fun (W : World) (t : ByteArray) => Lib.run_convert_string_bytes (P := Try.prog) W 9 161 5 t Try.underlying9 Try.underlying161 Try.underlying5
    have hsz : (s.size : Int) = 4 := by rw [h4]; rfl
    go_enter Try.func92, Try.ntmps92
    go_wp2_with fail
    clear hcv
    go_loop [3, 12] (fun n i => ∃ k : Nat, k ≤ 4 ∧ i = .int .i64 k ∧ n = .int .i64 (beK s k)) (fun _ i => 4 - (intOf i).toNat)
    case atStart => exact ⟨0, Nat.zero_le _, rfl, rfl⟩
    case round =>
      obtain ⟨k, hk, rfl, rfl⟩ := hrel
      obtain ⟨hr0, hr1, hr2⟩ := beK_in s k hk
      have hb := bt_range s k
      by_cases hlt : k < 4
      · have hc := all4_cell s h4 w k hlt
        have hr3 := hr2 (by omega)
        clear hr2 hr1
        go_wp2_with fail
        go_round
        case rel => exact ⟨k + 1, by omega, by go_num, congrArg (Value.int .i64) (acc _ _ hr0 hr3 hb.1 hb.2)⟩
        case measure => simp [intOf]; omega
      · have hge : 4 ≤ k := by omega
        have hK := Aside0.mk (show beK s k = be4 s by rw [show k = 4 by omega]; exact beK4 s)
        clear hlt hr2 hr1
        by_cases hm : 2147483647 < beK s k
        · go_wp2_with fail
          go_ret
          exact ⟨congrArg (fun z => Ending.returned (.int .i64 z)) (show (-1 : Int) = r by rw [← HR.out, numF, if_pos h4, ← hK.out, lim, if_pos hm]), HB.out⟩
        · have hm2 : beK s k ≤ 2147483647 := by omega
          clear hm
          go_wp2_with fail
          go_ret
          exact ⟨congrArg (fun z => Ending.returned (.int .i64 z)) (show beK s k = r by rw [← HR.out, numF, if_pos h4, ← hK.out, lim, if_neg (by omega)]), HB.out⟩
  · have hsz : ¬ (s.size : Int) = 4 := by omega
    have hs2 : ((s.size : Int) == 4) = false := by rw [beq_eq_false_iff_ne]; exact hsz
    have H1 := Aside0.mk (show (-1 : Int) = r by rw [← HR.out, numF, if_neg h4])
    clear h4 HR
    go_enter Try.func92, Try.ntmps92
    go_wp2_with fail
    go_ret
    exact ⟨by first | rfl | (rw [← H1.out]; rfl), Below.refl _ _⟩
end Go.Proofs.Ytolapikiflodfaa.Rep
