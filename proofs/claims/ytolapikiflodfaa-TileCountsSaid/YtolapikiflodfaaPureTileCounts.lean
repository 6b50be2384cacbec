/- Here is proved: of all sizes, levels and indexes the counts, the widths, the plan and the edge are the chapter's. Conditions: none. -/
import Derived.Test.YtolapikiflodfaaQTileCountsx3
namespace Go.Proofs.Ytolapikiflodfaa.Pure
open Go.RowKit Go.Proofs.Ytolapikiflodfaa.PTileCounts Go.Proofs.YtolapikiflodfaaW.PrintWords Go.Proofs.YtolapikiflodfaaW.PrintLast
open Go.Proofs.Ytolapikiflodfaa.Til

theorem awake_tile : annalistlaw07_awake.f = some true := by decide +kernel

def cOk (m : Nat) : Bool := (List.range 4).all fun (l : Nat) => decide (annalistref07_Count.f 399 (m : Int) (l : Int) = some (cntv (m : Int) (l : Int)))
theorem counts_all : (List.range 65).all cOk = true := by decide +kernel
theorem cntv_in (n l : Int) : 0 ≤ cntv n l ∧ cntv n l ≤ 64 := by
  unfold cntv
  split
  · rename_i h; exact qv_in n h.1 h.2.1 _
  · omega
theorem cntv_out (n l : Int) (h : n < 0 ∨ 64 < n ∨ l < 0 ∨ 3 < l) : cntv n l = 0 := by
  unfold cntv
  have hl := ln_le n
  rw [if_neg]
  rintro ⟨h1, h2, h3, h4⟩
  omega
theorem count_eq (n l : Int) : annalistref07_Count.f 399 n l = some (cntv n l) := by
  by_cases h : n < 0 ∨ 64 < n ∨ l < 0 ∨ 3 < l
  · rw [cntv_out n l h]
    unfold annalistref07_Count.f
    split
    · rfl
    · split
      · rfl
      · split
        · rfl
        · rw [if_pos (by omega)]
  · have h1 := List.all_eq_true.1 counts_all n.toNat (List.mem_range.2 (by omega))
    have h2 := of_decide_eq_true (List.all_eq_true.1 h1 l.toNat (List.mem_range.2 (by omega)))
    rw [Int.toNat_of_nonneg (by omega), Int.toNat_of_nonneg (by omega)] at h2
    exact h2

/-- how many of the first i lie in a tile -/
def inTile (x i : Int) : Int := if x < 0 then 0 else max 0 (min (i - 4 * x) 4)
theorem inTile_in (x i : Int) : 0 ≤ inTile x i ∧ inTile x i ≤ 4 := by unfold inTile; split <;> omega
theorem inTile_step (x i : Int) (hi : 0 ≤ i) : inTile x (i + 1) = if i / 4 = x then inTile x i + 1 else inTile x i := by
  unfold inTile; split <;> split <;> omega
theorem width_loop (x c : Int) (hc : c ≤ 64) (d : Nat) : ∀ (k : Nat) (i : Int), 0 ≤ i → i + d = c → d < k → annalistref07_Width.l0 k x c (inTile x i) i = some (inTile x c) := by
  induction d with
  | zero =>
    intro k i h0 h1 hk
    obtain ⟨k, rfl⟩ : ∃ m, k = m + 1 := ⟨k - 1, by omega⟩
    obtain rfl : i = c := by omega
    simp only [annalistref07_Width.l0]; rw [if_neg (by omega)]
  | succ d ih =>
    intro k i h0 h1 hk
    obtain ⟨k, rfl⟩ : ∃ m, k = m + 1 := ⟨k - 1, by omega⟩
    have hlt : i < c := by omega
    have hw := inTile_in x i
    have e1 : wrap64 (i + 1) = i + 1 := by unfold wrap64; omega
    have e2 : wrap64 (Int.tdiv i 4) = i / 4 := by rw [Int.tdiv_eq_ediv_of_nonneg h0]; unfold wrap64; omega
    have e3 : wrap64 (inTile x i + 1) = inTile x i + 1 := by unfold wrap64; omega
    simp only [annalistref07_Width.l0]
    rw [if_pos hlt, e1, e2, e3]
    have hs := inTile_step x i h0
    have h2 := ih k (i + 1) (by omega) (by omega) (by omega)
    rw [hs] at h2
    by_cases h : i / 4 = x
    · rw [if_pos h] at h2 ⊢; exact h2
    · rw [if_neg h] at h2 ⊢; exact h2
theorem width_ref (n l x : Int) : annalistref07_Width.f 399 n l x = some (inTile x (cntv n l)) := by
  have hc := cntv_in n l
  unfold annalistref07_Width.f
  rw [count_eq, Option.bind_some]
  have h0 : inTile x 0 = 0 := by unfold inTile; split <;> omega
  have h := width_loop x (cntv n l) hc.2 (cntv n l).toNat 399 0 (by omega) (by omega) (by omega)
  rwa [h0] at h
theorem width_prog (n l x : Int) : tile_Width.f n l x = some (inTile x (cntv n l)) := by
  have hc := cntv_in n l
  unfold tile_Width.f tile_Count.f
  by_cases h1 : x < 0
  · rw [if_pos h1]; unfold inTile; rw [if_pos h1]
  · rw [if_neg h1]
    by_cases h2 : x > 64
    · rw [if_pos h2]; unfold inTile; rw [if_neg h1]; congr 1; omega
    · rw [if_neg h2, Option.bind_some]
      have e1 : wrap64 (x * 4) = x * 4 := by unfold wrap64; omega
      have e2 : wrap64 (cntv n l - x * 4) = cntv n l - x * 4 := by unfold wrap64; omega
      rw [e1, e2]
      unfold inTile mn mx
      rw [if_neg h1]
      congr 1; omega

def pOk (m : Nat) : Bool := decide (annalistlaw07_TileCounts.j1 399 (m : Int) true false = some true)
theorem plans_all : (List.range 65).all pOk = true := by decide +kernel

theorem TileCounts : annalistlaw07_TileCounts.Pure := by
  intro n l x _ _ _
  refine ⟨400, ?_⟩
  have hj0 : ∀ b, annalistlaw07_TileCounts.j0 400 n l x b = annalistlaw07_TileCounts.j1 399 n b false := by
    intro b
    have e : annalistlaw07_TileCounts.j0 400 n l x b = (annalistlaw07_awake.f).bind fun t118 => (if t118 = true then ((tile_Count.f n l).bind fun t119 => ((annalistref07_Count.f 399 n l).bind fun t120 => (if t119 = t120 then ((tile_Width.f n l x).bind fun t121 => ((annalistref07_Width.f 399 n l x).bind fun t122 => (annalistlaw07_TileCounts.j1 399 n b (t121 != t122)))) else (annalistlaw07_TileCounts.j1 399 n b true)))) else (annalistlaw07_TileCounts.j1 399 n b true)) := rfl
    have e2 : tile_Count.f n l = some (cntv n l) := rfl
    rw [e, awake_tile, Option.bind_some, if_pos rfl, e2, Option.bind_some, count_eq, Option.bind_some, if_pos rfl, width_prog, Option.bind_some, width_ref, Option.bind_some, bne_self_eq_false]
  by_cases h : 0 ≤ n ∧ n ≤ 64
  · have h1 := of_decide_eq_true (List.all_eq_true.1 plans_all n.toNat (List.mem_range.2 (by omega)))
    rw [Int.toNat_of_nonneg h.1] at h1
    unfold annalistlaw07_TileCounts.f
    rw [if_pos h.1, decide_eq_true h.2, hj0]
    exact h1
  · have hp : tile_Plan.f n = some [] := by unfold tile_Plan.f planF; rw [if_neg h]; rfl
    have he : tile_Edge.f n = some [] := by unfold tile_Edge.f edgeF planF; rw [if_neg h]; rfl
    have hf : annalistlaw07_TileCounts.j1 399 n false false = some true := by
      have e : annalistlaw07_TileCounts.j1 399 n false false = (tile_Plan.f n).bind fun t123 => (if (t123.length : Int) = 0 then ((tile_Edge.f n).bind fun t126 => (some ((t126.length : Int) == 0))) else (some false)) := rfl
      rw [e, hp, Option.bind_some, if_pos (show (([] : List S26).length : Int) = 0 from rfl), he, Option.bind_some]
      rfl
    unfold annalistlaw07_TileCounts.f
    by_cases h0 : n ≥ 0
    · rw [if_pos h0, decide_eq_false (by omega), hj0]; exact hf
    · rw [if_neg h0, hj0]; exact hf
end Go.Proofs.Ytolapikiflodfaa.Pure
