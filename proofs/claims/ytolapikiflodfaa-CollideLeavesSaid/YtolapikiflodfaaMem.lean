/- Here is proved: how a list of blocks that a call has made itself is kept through a walk. Conditions: none. -/
import Derived.Test.YtolapikiflodfaaProg
import Derived.Below
import Derived.Deep.Draws
import Derived.Deep.AppendLies
import Derived.Maps.AppendAt
import Derived.OwnWalk
import Derived.Laws.BytesArg
import Derived.Laws.MakeOwn
import Derived.Laws.OwnMore
import Derived.Deep.OwnRows
import Derived.Tactics
import Derived.Lib.ConvBytes
import Derived.Laws.Slices
import Derived.WalkKit
import Derived.KernelRfl
import Derived.RowKit3
import Derived.Deep.LoopGhost
import Derived.Deep.QuietTactic
import Derived.BigQuiet
import Derived.WideLaws
import Derived.Deep.DeepCutAuto
import Derived.Deep.CutBlock
import Derived.Deep.RegionHeld3
import Derived.Laws.Rows
import Derived.Lib.AppendStr
import Derived.ArgAppend
import Derived.Laws.IdiomCopy
import Derived.OrdersHeld
import Derived.Laws.BitsLemmas
import Derived.RowKit
import Derived.Test.YtolapikiflodfaaWWords
import Derived.Test.YtolapikiflodfaaWLast
import Derived.Test.YtolapikiflodfaaWTab
import Derived.Test.YtolapikiflodfaaWFour
import Derived.Test.YtolapikiflodfaaWQPut
import Derived.Test.YtolapikiflodfaaWApart
import Derived.Test.YtolapikiflodfaaWArr
import Derived.Test.YtolapikiflodfaaWZeros
import Derived.Test.YtolapikiflodfaaWFoot
import Derived.Test.YtolapikiflodfaaWKept
import Derived.Test.YtolapikiflodfaaWShare
import Derived.Test.YtolapikiflodfaaWN
import Derived.Test.YtolapikiflodfaaWFootNe
import Derived.Test.YtolapikiflodfaaWAt
import Derived.Test.YtolapikiflodfaaWEqStruct
import Derived.Test.YtolapikiflodfaaWRepsOne
import Derived.Test.YtolapikiflodfaaWInv
import Derived.Test.YtolapikiflodfaaWInvWords
import Derived.Test.YtolapikiflodfaaWGuard
import Derived.Test.YtolapikiflodfaaWNEv
import Derived.Test.YtolapikiflodfaaWMore
import Derived.Lib.AtoiErrMem
import Derived.Deep.RegionLaw
import Derived.RegionTactic
import Derived.ChangeAlike
import Derived.BigRegion
import Derived.Deep.RegionWith
import Derived.StillTailTactics
import Derived.LoopTactic
import Derived.Lib.Hide
import Derived.IntWalk
import Derived.WalkLawsBesides
import Derived.WalkSpells
namespace Go.Proofs.Ytolapikiflodfaa.Mem
open Go Go.Proofs Go.RowKit Go.Proofs.YtolapikiflodfaaW.PrintWords
/-- a block: its number, its cells, its type -/
abbrev Blk := Nat × Array Value × TypeId
/-- the blocks l are new since w, each with its cells, no two the same; below them W is as w was -/
def Own (w W : World) (l : List Blk) : Prop :=
  Below w.heap.size w W ∧ (∀ (k : Nat) (b : Blk), l[k]? = some b → w.heap.size ≤ b.1 ∧ W.heap[b.1]? = some (.cells b.2.1 b.2.2 (0, 0))) ∧ ∀ (i j : Nat) (a b : Blk), l[i]? = some a → l[j]? = some b → i ≠ j → a.1 ≠ b.1
variable {w W W2 : World} {l : List Blk} {g : Nat} {cs : Array Value} {t : TypeId}
theorem Own.nil (w : World) : Own w w [] := ⟨Below.refl _ _, fun _ _ h => by simp at h, fun _ _ _ _ h => by simp at h⟩
theorem Own.of_below (h : Below w.heap.size w W) : Own w W [] := ⟨h, fun _ _ h => by simp at h, fun _ _ _ _ h => by simp at h⟩
theorem Own.below (h : Own w W l) : Below w.heap.size w W := h.1
theorem Own.blk (h : Own w W l) (k : Nat) (e : l[k]? = some (g, cs, t)) : W.heap[g]? = some (.cells cs t (0, 0)) := (h.2.1 k _ e).2
theorem Own.new_le (h : Own w W l) (k : Nat) (e : l[k]? = some (g, cs, t)) : w.heap.size ≤ g := (h.2.1 k _ e).1
theorem Own.ne (h : Own w W l) (i j : Nat) {a b : Blk} (ha : l[i]? = some a) (hb : l[j]? = some b) (hij : i ≠ j) : a.1 ≠ b.1 := h.2.2 i j a b ha hb hij
theorem Own.cell (h : Own w W l) (k : Nat) (e : l[k]? = some (g, cs, t)) (i : Nat) : W.cell? ⟨g, i, none⟩ = cs[i]? := blk_cell (h.blk k e) i
theorem Own.frozen (h : Own w W l) (k : Nat) (e : l[k]? = some (g, cs, t)) (i : Nat) : W.frozen? ⟨g, i, none⟩ = false := blk_frozen (h.blk k e) i
theorem Own.size (h : Own w W l) : w.heap.size ≤ W.heap.size := h.1.size
/-- a world below whose own heap nothing has turned -/
theorem Own.step (h : Own w W l) (k : Below W.heap.size W W2) : Own w W2 l :=
  ⟨below_step h.1 k, fun i b e => ⟨(h.2.1 i b e).1, blk_below (h.2.1 i b e).2 k⟩, h.2.2⟩
theorem Own.new (h : Own w W l) (hg : g = W.heap.size) (hb : W2.heap[g]? = some (.cells cs t (0, 0))) (k : Below W.heap.size W W2) : Own w W2 (l ++ [(g, cs, t)]) := by
  have h2 := h.step k
  refine ⟨h2.1, fun i b e => ?_, fun i j a b ea eb hij => ?_⟩
  · rcases Nat.lt_trichotomy i l.length with hi | hi | hi
    · rw [List.getElem?_append_left hi] at e
      exact h2.2.1 i b e
    · subst hi
      rw [List.getElem?_append_right (Nat.le_refl _), Nat.sub_self] at e
      have : b = (g, cs, t) := by simpa using e.symm
      subst this
      exact ⟨by rw [hg]; exact h.size, hb⟩
    · rw [List.getElem?_eq_none (by simp; omega)] at e
      cases e
  · have key : ∀ i (a : Blk), (l ++ [(g, cs, t)])[i]? = some a → (i < l.length ∧ l[i]? = some a) ∨ (i = l.length ∧ a = (g, cs, t)) := fun i a e => by
      rcases Nat.lt_trichotomy i l.length with hi | hi | hi
      · rw [List.getElem?_append_left hi] at e
        exact .inl ⟨hi, e⟩
      · subst hi
        rw [List.getElem?_append_right (Nat.le_refl _), Nat.sub_self] at e
        exact .inr ⟨rfl, by simpa using e.symm⟩
      · rw [List.getElem?_eq_none (by simp; omega)] at e
        cases e
    rcases key i a ea with ⟨h1, h1'⟩ | ⟨h1, rfl⟩ <;> rcases key j b eb with ⟨h2, h2'⟩ | ⟨h2, rfl⟩
    · exact h.2.2 i j a b h1' h2' hij
    · have := blk_lt (h.2.1 i a h1').2
      show a.1 ≠ g
      omega
    · have := blk_lt (h.2.1 j b h2').2
      show g ≠ b.1
      omega
    · omega
theorem Own.put {cs' : Array Value} (h : Own w W l) (k : Nat) (e : l[k]? = some (g, cs, t)) (i : Nat) (v : Value) (ec : cs.setIfInBounds i v = cs') : Own w (W.setCell ⟨g, i, none⟩ v) (l.set k (g, cs', t)) := by
  have hk : k < l.length := (List.getElem?_eq_some_iff.1 e).1
  refine ⟨below_set h.1 (h.new_le k e), fun j b eb => ?_, fun i' j' a b ea eb hij => ?_⟩
  · by_cases hj : k = j
    · subst hj
      rw [List.getElem?_set_self hk] at eb
      cases eb
      exact ⟨h.new_le k e, blk_put (h.blk k e) i v ec⟩
    · rw [List.getElem?_set_ne hj] at eb
      exact ⟨(h.2.1 j b eb).1, blk_far (h.2.1 j b eb).2 (show b.1 ≠ g from fun q => h.2.2 j k b _ eb e (fun q => hj q.symm) q) v⟩
  · have key : ∀ i (a : Blk), (l.set k (g, cs', t))[i]? = some a → ∃ a' : Blk, l[i]? = some a' ∧ a'.1 = a.1 := fun i a e' => by
      by_cases hj : k = i
      · subst hj
        rw [List.getElem?_set_self hk] at e'
        cases e'
        exact ⟨_, e, rfl⟩
      · rw [List.getElem?_set_ne hj] at e'
        exact ⟨a, e', rfl⟩
    obtain ⟨a', ha, ea'⟩ := key i' a ea
    obtain ⟨b', hb, eb'⟩ := key j' b eb
    rw [← ea', ← eb']
    exact h.2.2 i' j' a' b' ha hb hij
theorem setRow_far {W : World} {g g2 : Nat} {o : Obj} (h : W.heap[g]? = some o) (hne : g ≠ g2) (cs : Array Value) : (W.setRow g2 cs).heap[g]? = some o := (setRow_other W g2 g cs hne).trans h
theorem below_row {w W : World} {g : Nat} {cs : Array Value} (h : Below w.heap.size w W) (hg : w.heap.size ≤ g) : Below w.heap.size w (W.setRow g cs) :=
  h.trans ⟨rfl, rfl, rfl, by rw [size_setRow]; exact Nat.le_refl _, fun k hk => setRow_other W g k cs (by omega)⟩
/-- a whole block written -/
theorem Own.row (h : Own w W l) (k : Nat) (e : l[k]? = some (g, cs, t)) (cs' : Array Value) : Own w (W.setRow g cs') (l.set k (g, cs', t)) := by
  have hk : k < l.length := (List.getElem?_eq_some_iff.1 e).1
  refine ⟨below_row h.1 (h.new_le k e), fun j b eb => ?_, fun i' j' a b ea eb hij => ?_⟩
  · by_cases hj : k = j
    · subst hj
      rw [List.getElem?_set_self hk] at eb
      cases eb
      exact ⟨h.new_le k e, setRow_heap W g cs cs' t (0, 0) (h.blk k e)⟩
    · rw [List.getElem?_set_ne hj] at eb
      exact ⟨(h.2.1 j b eb).1, setRow_far (h.2.1 j b eb).2 (show b.1 ≠ g from fun q => h.2.2 j k b _ eb e (fun q => hj q.symm) q) cs'⟩
  · have key : ∀ i (a : Blk), (l.set k (g, cs', t))[i]? = some a → ∃ a' : Blk, l[i]? = some a' ∧ a'.1 = a.1 := fun i a e' => by
      by_cases hj : k = i
      · subst hj
        rw [List.getElem?_set_self hk] at e'
        cases e'
        exact ⟨_, e, rfl⟩
      · rw [List.getElem?_set_ne hj] at e'
        exact ⟨a, e', rfl⟩
    obtain ⟨a', ha, ea'⟩ := key i' a ea
    obtain ⟨b', hb, eb'⟩ := key j' b eb
    rw [← ea', ← eb']
    exact h.2.2 i' j' a' b' ha hb hij
theorem Own.drew (h : Own w W l) : Own w W.drew l := ⟨h.1.drew, h.2.1, h.2.2⟩
theorem Own.drewN (h : Own w W l) (n : Nat) : Own w (W.drewN n) l := ⟨pw_below_drewN h.1 n, h.2.1, h.2.2⟩
/-- an append, or a make, that has written one row that is none of the blocks -/
theorem Own.grown {row : Option Nat} (h : Own w W l) (hg : W.grownBy W2 row) (hr : ∀ k, row = some k → w.heap.size ≤ k) (hne : ∀ (i : Nat) (b : Blk), l[i]? = some b → some b.1 ≠ row) : Own w W2 l :=
  ⟨h.1.grown hg h.size hr, fun i b e => ⟨(h.2.1 i b e).1, blk_grown (h.2.1 i b e).2 hg (hne i b e)⟩, h.2.2⟩
/-- a store into a block that is none of them, and new -/
theorem Own.far (h : Own w W l) {p : Addr} (hp : w.heap.size ≤ p.block) (hne : ∀ (i : Nat) (b : Blk), l[i]? = some b → b.1 ≠ p.block) (v : Value) : Own w (W.setCell p v) l :=
  ⟨h.1.setCell hp v, fun i b e => ⟨(h.2.1 i b e).1, blk_far (h.2.1 i b e).2 (hne i b e) v⟩, h.2.2⟩
/-- a cell that was there before -/
theorem Own.old (h : Own w W l) {p : Addr} {v : Value} (hc : w.cell? p = some v) : W.cell? p = some v := (h.1.cell (World.block_lt_of_cell? w _ hc)).trans hc
/-- a region that draws, whose operations but the last ones read or call quietly: walked once, at a world of a new name -/
theorem region_still_tail {P : Program} {id : Nat} {Q : Exit → Act → World → Prop} {a : Act} {w : World} {ops : List Oper} (n : Nat) (hm : P.follows .mixedOrders = true) (hB : Region.lexTailB .any ops.toArray n = true)
    (h : ∀ W2, w.drew = W2 → wpStill P ops.toArray W2 (fun a2 => wpList P ops.toArray Q (ops.drop n) a2 W2) (ops.take n) a) : (Code.region id ops.toArray true).wp P Q a w :=
  wp_region_still_tail n hm hB (h _ rfl)
end Go.Proofs.Ytolapikiflodfaa.Mem
