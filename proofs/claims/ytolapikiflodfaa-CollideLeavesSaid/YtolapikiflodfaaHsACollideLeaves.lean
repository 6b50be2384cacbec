/- Here is proved: annalistref08.Two is a hasher. Conditions: none. -/
import Derived.Test.YtolapikiflodfaaQCollideLeavesx3
import Derived.Test.YtolapikiflodfaaHs
namespace Go.Proofs.Ytolapikiflodfaa.Hsh
open Go Go.RowKit Go.Proofs.YtolapikiflodfaaW.PrintWords Go.Proofs.YtolapikiflodfaaW.PrintLast Go.Proofs.YtolapikiflodfaaW.PrintMore
open Go.Proofs.Ytolapikiflodfaa.PCollideLeaves
theorem weak_some (s : ByteArray) (n : Int) (hn : n ≠ 0) (hs : s.size ≤ 1000000000) : ∀ (d i : Nat) (x : Int), i + d = s.size → ∃ r, annalistref08_weak.l0 (d + 1) s n x i = some r ∧ r.size = 32
  | 0, i, x, h => by
    refine ⟨strOfNums ((List.replicate 32 0 : List Int).set (0 : Int).toNat (Int.tmod x n % 256)), ?_, rfl⟩
    rw [annalistref08_weak.l0, if_neg (by omega), if_pos (by decide), Option.bind_some, if_neg hn, if_pos (by simp)]
  | d + 1, i, x, h => by
    obtain ⟨r, hr, h2⟩ := weak_some s n hn hs d (i + 1) (Int.tmod (wrap64 ((wrap64 ((wrap64 (x * 31)) + (wrap64 (bt s i)))) + i)) 1009) (by omega)
    refine ⟨r, ?_, h2⟩
    rw [annalistref08_weak.l0, if_pos (by omega), if_pos (by omega), show wrap64 ((i : Int) + 1) = ((i + 1 : Nat) : Int) from by unfold wrap64; omega]
    exact hr
def nul32 : ByteArray := strOfNums (List.replicate 32 0)
theorem weak_f (s : ByteArray) (n : Int) (hn : n ≠ 0) (hs : s.size ≤ 1000000000) : ∃ r, annalistref08_weak.f (s.size + 1) s n = some r ∧ r.size = 32 := by
  unfold annalistref08_weak.f
  exact weak_some s n hn hs s.size 0 7 (by omega)
/-- a weak hasher's text -/
def weakF (n : Int) (s : ByteArray) : ByteArray := if s.size ≤ 1000000000 then (annalistref08_weak.f (s.size + 1) s n).getD nul32 else nul32
theorem weakF_size (n : Int) (hn : n ≠ 0) (s : ByteArray) : (weakF n s).size = 32 := by
  unfold weakF
  split
  · obtain ⟨r, hr, h2⟩ := weak_f s n hn (by assumption)
    rw [hr]
    exact h2
  · rfl
theorem weakF_some (n : Int) (hn : n ≠ 0) (s : ByteArray) (hs : s.size ≤ 1000000000) : annalistref08_weak.f (s.size + 1) s n = some (weakF n s) := by
  obtain ⟨r, hr, _⟩ := weak_f s n hn hs
  unfold weakF
  rw [if_pos hs, hr]
  rfl
theorem two_some (s : ByteArray) (hs : s.size ≤ 1000000000) : annalistref08_Two.f (s.size + 1) s = some (weakF 2 s) := by
  unfold annalistref08_Two.f
  rw [weakF_some 2 (by decide) s hs]
  rfl
def hs41 : Hs where
  id := 41
  fn := weakF 2
  size := weakF_size 2 (by decide)
  enters := enters_ Try.func41 (by kernel_rfl) rfl
  calls := fun s w hs => annalistref08_Two.calls (s.size + 1) s _ w (two_some s hs)
end Go.Proofs.Ytolapikiflodfaa.Hsh
