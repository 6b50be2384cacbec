/- Here is proved: how a list of blocks that a call has made itself is kept through a walk. Conditions: none. -/
import Derived.Test.YtondnammkcgjpaaMFetchBad1
import Derived.Test.YtondnammkcgjpaaMFetchBad2
import Derived.Test.YtondnammkcgjpaaProg
import Derived.Below
import Derived.Deep.Draws
import Derived.Deep.AppendLies
import Derived.Maps.AppendAt
import Derived.OwnWalk
import Derived.Laws.BytesArg
import Derived.Laws.MakeOwn
import Derived.Laws.OwnMore
import Derived.Deep.OwnRows
import Derived.Tactics
import Derived.Lib.ConvBytes
import Derived.Laws.Slices
import Derived.WalkKit
import Derived.KernelRfl
import Derived.RowKit3
import Derived.Deep.LoopGhost
import Derived.Deep.QuietTactic
import Derived.BigQuiet
import Derived.WideLaws
import Derived.Deep.DeepCutAuto
import Derived.Deep.CutBlock
import Derived.Deep.RegionHeld3
import Derived.Laws.Rows
import Derived.Lib.AppendStr
import Derived.ArgAppend
import Derived.Laws.IdiomCopy
import Derived.OrdersHeld
import Derived.Laws.BitsLemmas
import Derived.RowKit
import Derived.Lib.AtoiErrMem
import Derived.Deep.RegionLaw
import Derived.RegionTactic
import Derived.ChangeAlike
import Derived.BigRegion
import Derived.Deep.RegionWith
import Derived.StillTailTactics
import Derived.LoopTactic
import Derived.Lib.Hide
import Derived.IntWalk
import Derived.WalkLawsBesides
import Derived.WalkSpells
import Derived.Deep.Onto
import Derived.Deep.MidRow
import Derived.Shelf.Strings.Builder1
import Derived.Shelf.Strings.Builder2
import Derived.Shelf.Small.Bits
import Derived.Shelf.Strings.BuilderF
import Derived.Shelf.Strconv.Itoa0
import Derived.Shelf.Strings.Prefix
import Derived.Shelf.Bits.Mul64
import Derived.Shelf.Strings.Repeat
import Derived.Ground.Names2Prog
import Derived.Shelf.Slices.Clone
import Derived.Ground.SlgnProg
import Derived.Shelf.SlicesE.Clone
set_option linter.unusedVariables false
set_option linter.unusedSimpArgs false
set_option maxRecDepth 100000
set_option maxHeartbeats 8000000
namespace Go.Proofs.Ytondnammkcgjpaa.Mem
open Go Go.Proofs Go.RowKit Go.Proofs.YtondnammkcgjpaaW.PrintWords
abbrev Blk := Nat × Array Value × TypeId
def Own (w W : World) (l : List Blk) : Prop :=
  Below w.heap.size w W ∧ (∀ (k : Nat) (b : Blk), l[k]? = some b → w.heap.size ≤ b.1 ∧ W.heap[b.1]? = some (.cells b.2.1 b.2.2 (0, 0))) ∧ ∀ (i j : Nat) (a b : Blk), l[i]? = some a → l[j]? = some b → i ≠ j → a.1 ≠ b.1
variable {w W W2 : World} {l : List Blk} {g : Nat} {cs : Array Value} {t : TypeId}
theorem Own.nil (w : World) : Own w w [] := ⟨Below.refl _ _, fun _ _ h => by simp at h, fun _ _ _ _ h => by simp at h⟩
theorem Own.of_below (h : Below w.heap.size w W) : Own w W [] := ⟨h, fun _ _ h => by simp at h, fun _ _ _ _ h => by simp at h⟩
theorem Own.below (h : Own w W l) : Below w.heap.size w W := h.1
theorem Own.blk (h : Own w W l) (k : Nat) (e : l[k]? = some (g, cs, t)) : W.heap[g]? = some (.cells cs t (0, 0)) := (h.2.1 k _ e).2
theorem Own.new_le (h : Own w W l) (k : Nat) (e : l[k]? = some (g, cs, t)) : w.heap.size ≤ g := (h.2.1 k _ e).1
theorem Own.ne (h : Own w W l) (i j : Nat) {a b : Blk} (ha : l[i]? = some a) (hb : l[j]? = some b) (hij : i ≠ j) : a.1 ≠ b.1 := h.2.2 i j a b ha hb hij
theorem Own.cell (h : Own w W l) (k : Nat) (e : l[k]? = some (g, cs, t)) (i : Nat) : W.cell? ⟨g, i, none⟩ = cs[i]? := blk_cell (h.blk k e) i
theorem Own.frozen (h : Own w W l) (k : Nat) (e : l[k]? = some (g, cs, t)) (i : Nat) : W.frozen? ⟨g, i, none⟩ = false := blk_frozen (h.blk k e) i
theorem Own.size (h : Own w W l) : w.heap.size ≤ W.heap.size := h.1.size
theorem Own.step (h : Own w W l) (k : Below W.heap.size W W2) : Own w W2 l :=
  ⟨below_step h.1 k, fun i b e => ⟨(h.2.1 i b e).1, blk_below (h.2.1 i b e).2 k⟩, h.2.2⟩
theorem Own.new (h : Own w W l) (hg : g = W.heap.size) (hb : W2.heap[g]? = some (.cells cs t (0, 0))) (k : Below W.heap.size W W2) : Own w W2 (l ++ [(g, cs, t)]) := by
  have h2 := h.step k
  refine ⟨h2.1, fun i b e => ?_, fun i j a b ea eb hij => ?_⟩
  · rcases Nat.lt_trichotomy i l.length with hi | hi | hi
    · rw [List.getElem?_append_left hi] at e
      exact h2.2.1 i b e
    · subst hi
      rw [List.getElem?_append_right (Nat.le_refl _), Nat.sub_self] at e
      have : b = (g, cs, t) := by simpa using e.symm
      subst this
      exact ⟨by rw [hg]; exact h.size, hb⟩
    · rw [List.getElem?_eq_none (by simp; omega)] at e
      cases e
  · have key : ∀ i (a : Blk), (l ++ [(g, cs, t)])[i]? = some a → (i < l.length ∧ l[i]? = some a) ∨ (i = l.length ∧ a = (g, cs, t)) := fun i a e => by
      rcases Nat.lt_trichotomy i l.length with hi | hi | hi
      · rw [List.getElem?_append_left hi] at e
        exact .inl ⟨hi, e⟩
      · subst hi
        rw [List.getElem?_append_right (Nat.le_refl _), Nat.sub_self] at e
        exact .inr ⟨rfl, by simpa using e.symm⟩
      · rw [List.getElem?_eq_none (by simp; omega)] at e
        cases e
    rcases key i a ea with ⟨h1, h1'⟩ | ⟨h1, rfl⟩ <;> rcases key j b eb with ⟨h2, h2'⟩ | ⟨h2, rfl⟩
    · exact h.2.2 i j a b h1' h2' hij
    · have := blk_lt (h.2.1 i a h1').2
      show a.1 ≠ g
      omega
    · have := blk_lt (h.2.1 j b h2').2
      show g ≠ b.1
      omega
    · omega
theorem Own.put {cs' : Array Value} (h : Own w W l) (k : Nat) (e : l[k]? = some (g, cs, t)) (i : Nat) (v : Value) (ec : cs.setIfInBounds i v = cs') : Own w (W.setCell ⟨g, i, none⟩ v) (l.set k (g, cs', t)) := by
  have hk : k < l.length := (List.getElem?_eq_some_iff.1 e).1
  refine ⟨below_set h.1 (h.new_le k e), fun j b eb => ?_, fun i' j' a b ea eb hij => ?_⟩
  · by_cases hj : k = j
    · subst hj
      rw [List.getElem?_set_self hk] at eb
      cases eb
      exact ⟨h.new_le k e, blk_put (h.blk k e) i v ec⟩
    · rw [List.getElem?_set_ne hj] at eb
      exact ⟨(h.2.1 j b eb).1, blk_far (h.2.1 j b eb).2 (show b.1 ≠ g from fun q => h.2.2 j k b _ eb e (fun q => hj q.symm) q) v⟩
  · have key : ∀ i (a : Blk), (l.set k (g, cs', t))[i]? = some a → ∃ a' : Blk, l[i]? = some a' ∧ a'.1 = a.1 := fun i a e' => by
      by_cases hj : k = i
      · subst hj
        rw [List.getElem?_set_self hk] at e'
        cases e'
        exact ⟨_, e, rfl⟩
      · rw [List.getElem?_set_ne hj] at e'
        exact ⟨a, e', rfl⟩
    obtain ⟨a', ha, ea'⟩ := key i' a ea
    obtain ⟨b', hb, eb'⟩ := key j' b eb
    rw [← ea', ← eb']
    exact h.2.2 i' j' a' b' ha hb hij
theorem setRow_far {W : World} {g g2 : Nat} {o : Obj} (h : W.heap[g]? = some o) (hne : g ≠ g2) (cs : Array Value) : (W.setRow g2 cs).heap[g]? = some o := (setRow_other W g2 g cs hne).trans h
theorem below_row {w W : World} {g : Nat} {cs : Array Value} (h : Below w.heap.size w W) (hg : w.heap.size ≤ g) : Below w.heap.size w (W.setRow g cs) :=
  h.trans ⟨rfl, rfl, rfl, by rw [size_setRow]; exact Nat.le_refl _, fun k hk => setRow_other W g k cs (by omega)⟩
theorem Own.row (h : Own w W l) (k : Nat) (e : l[k]? = some (g, cs, t)) (cs' : Array Value) : Own w (W.setRow g cs') (l.set k (g, cs', t)) := by
  have hk : k < l.length := (List.getElem?_eq_some_iff.1 e).1
  refine ⟨below_row h.1 (h.new_le k e), fun j b eb => ?_, fun i' j' a b ea eb hij => ?_⟩
  · by_cases hj : k = j
    · subst hj
      rw [List.getElem?_set_self hk] at eb
      cases eb
      exact ⟨h.new_le k e, setRow_heap W g cs cs' t (0, 0) (h.blk k e)⟩
    · rw [List.getElem?_set_ne hj] at eb
      exact ⟨(h.2.1 j b eb).1, setRow_far (h.2.1 j b eb).2 (show b.1 ≠ g from fun q => h.2.2 j k b _ eb e (fun q => hj q.symm) q) cs'⟩
  · have key : ∀ i (a : Blk), (l.set k (g, cs', t))[i]? = some a → ∃ a' : Blk, l[i]? = some a' ∧ a'.1 = a.1 := fun i a e' => by
      by_cases hj : k = i
      · subst hj
        rw [List.getElem?_set_self hk] at e'
        cases e'
        exact ⟨_, e, rfl⟩
      · rw [List.getElem?_set_ne hj] at e'
        exact ⟨a, e', rfl⟩
    obtain ⟨a', ha, ea'⟩ := key i' a ea
    obtain ⟨b', hb, eb'⟩ := key j' b eb
    rw [← ea', ← eb']
    exact h.2.2 i' j' a' b' ha hb hij
theorem Own.drew (h : Own w W l) : Own w W.drew l := ⟨h.1.drew, h.2.1, h.2.2⟩
theorem Own.drewN (h : Own w W l) (n : Nat) : Own w (W.drewN n) l := ⟨pw_below_drewN h.1 n, h.2.1, h.2.2⟩
theorem Own.grown {row : Option Nat} (h : Own w W l) (hg : W.grownBy W2 row) (hr : ∀ k, row = some k → w.heap.size ≤ k) (hne : ∀ (i : Nat) (b : Blk), l[i]? = some b → some b.1 ≠ row) : Own w W2 l :=
  ⟨h.1.grown hg h.size hr, fun i b e => ⟨(h.2.1 i b e).1, blk_grown (h.2.1 i b e).2 hg (hne i b e)⟩, h.2.2⟩
theorem Own.old (h : Own w W l) {p : Addr} {v : Value} (hc : w.cell? p = some v) : W.cell? p = some v := (h.1.cell (World.block_lt_of_cell? w _ hc)).trans hc
theorem region_still_tail {P : Program} {id : Nat} {Q : Exit → Act → World → Prop} {a : Act} {w : World} {ops : List Oper} (n : Nat) (hm : P.follows .mixedOrders = true) (hB : Region.lexTailB .any ops.toArray n = true)
    (h : ∀ W2, w.drew = W2 → wpStill P ops.toArray W2 (fun a2 => wpList P ops.toArray Q (ops.drop n) a2 W2) (ops.take n) a) : (Code.region id ops.toArray true).wp P Q a w :=
  wp_region_still_tail n hm hB (h _ rfl)
end Go.Proofs.Ytondnammkcgjpaa.Mem
namespace Go.Proofs.Ytondnammkcgjpaa.Ref01
open Go.RowKit Go.Proofs.YtondnammkcgjpaaW.PrintWords Go.Proofs.YtondnammkcgjpaaW.PrintLast Go.Proofs.YtondnammkcgjpaaW.PrintMore
def arrV (xs : List Int) : Array Value := (xs.map (Value.int .u64)).toArray
theorem arrV_size (xs : List Int) : (arrV xs).size = xs.length := by simp [arrV]
theorem arrV_get (xs : List Int) (i : Nat) (h : i < xs.length) : (arrV xs)[i]? = some (.int .u64 (xs.getD i 0)) := by
  unfold arrV
  rw [List.getElem?_toArray, List.getElem?_map, List.getElem?_eq_getElem h, List.getD_eq_getElem?_getD, List.getElem?_eq_getElem h]; rfl
theorem arrV_set (xs : List Int) (i : Nat) (v : Int) : (arrV xs).setIfInBounds i (.int .u64 v) = arrV (xs.set i v) := by
  unfold arrV
  rw [List.setIfInBounds_toArray, List.map_set]
theorem arrV_one (xs : List Int) : (arrV xs).all (·.oneCell') = true := by
  rw [Array.all_eq_true_iff_forall_mem]
  intro v hv
  unfold arrV at hv
  obtain ⟨n, _, rfl⟩ := List.mem_map.1 (by simpa using hv)
  rfl
def rightF (x n : Int) : Int := (IntKind.u64.wrap (IntKind.u64.wrap (x * 4294967296) + x) / 2 ^ n.toNat).tmod 4294967296
theorem right_c (x n : Int) (h0 : 0 ≤ n) (hn : n ≤ 63) (w : World) : Calls Try.prog 108 #[.int .u64 x, .int .u64 n] w fun e w' => e = .returned (.int .u64 (rightF x n)) ∧ w' = w := by
  go_enter Try.func108, Try.ntmps108
  go_wp2
  go_ret
  exact ⟨rfl, rfl⟩
def hF : List Int := [1779033703, 3144134277, 1013904242, 2773480762, 1359893119, 2600822924, 528734635, 1541459225]
def kF : List Int := [1116352408, 1899447441, 3049323471, 3921009573, 961987163, 1508970993, 2453635748, 2870763221, 3624381080, 310598401, 607225278, 1426881987, 1925078388, 2162078206, 2614888103, 3248222580, 3835390401, 4022224774, 264347078, 604807628, 770255983, 1249150122, 1555081692, 1996064986, 2554220882, 2821834349, 2952996808, 3210313671, 3336571891, 3584528711, 113926993, 338241895, 666307205, 773529912, 1294757372, 1396182291, 1695183700, 1986661051, 2177026350, 2456956037, 2730485921, 2820302411, 3259730800, 3345764771, 3516065817, 3600352804, 4094571909, 275423344, 430227734, 506948616, 659060556, 883997877, 958139571, 1322822218, 1537002063, 1747873779, 1955562222, 2024104815, 2227730452, 2361852424, 2428436474, 2756734187, 3204031479, 3329325298]
theorem h_c (w : World) : Calls Try.prog 92 #[] w fun e w' => e = .returned (.agg (arrV hF)) ∧ Below w.heap.size w w' := by
  have HB := Aside0.mk (Below.refl w.heap.size w)
  go_enter Try.func92, Try.ntmps92
  go_wp2_with (first
    | ((with_reducible refine gate_dst (N := 0) rfl ?_); refine box_event ?hg (N := 0) ?hd (cs := arrV (List.replicate 8 0)) (t := 144) ?hr ?_; (case hd => rfl); (case hg => rfl); (case hr => first | (go_simp; done) | (go_simp; rfl)); intro gA hgA w1 hbA hbb; have GA := Aside0.mk (show w.heap.size ≤ gA by rw [hgA]; exact Nat.le_refl _); have BA := Aside0.mk hbA; have n_ := Aside0.mk (below_step HB.out hbb); clear HB; have HB := n_; clear n_ hbA hbb hgA)
    | ((with_reducible refine gate_store (t := 144) (p := 0) rfl ?_); refine wpList_store_row rfl 144 (.tmp 0) (.tmp 1) rfl gA (arrV hF) rfl rfl 144 _ BA.out (by kernel_rfl) rfl (arrV_one _) ?_; have BR := Aside0.mk (setRow_heap _ gA _ (arrV hF) _ _ BA.out); have n_ := Aside0.mk (Mem.below_row (cs := arrV hF) HB.out GA.out); clear HB; have HB := n_; clear n_ BA))
  refine bodyPost_ret (results_cell_row (p := 0) (ty := 144) rfl _ _ gA 144 _ _ _ rfl BR.out Try.underlying144 rfl (by kernel_rfl)) rfl ⟨rfl, HB.out⟩
theorem k_c (w : World) : Calls Try.prog 91 #[] w fun e w' => e = .returned (.agg (arrV kF)) ∧ Below w.heap.size w w' := by
  have HB := Aside0.mk (Below.refl w.heap.size w)
  go_enter Try.func91, Try.ntmps91
  go_wp2_with (first
    | ((with_reducible refine gate_dst (N := 0) rfl ?_); refine box_event ?hg (N := 0) ?hd (cs := arrV (List.replicate 64 0)) (t := 142) ?hr ?_; (case hd => rfl); (case hg => rfl); (case hr => first | (go_simp; done) | (go_simp; rfl)); intro gA hgA w1 hbA hbb; have GA := Aside0.mk (show w.heap.size ≤ gA by rw [hgA]; exact Nat.le_refl _); have BA := Aside0.mk hbA; have n_ := Aside0.mk (below_step HB.out hbb); clear HB; have HB := n_; clear n_ hbA hbb hgA)
    | ((with_reducible refine gate_store (t := 142) (p := 0) rfl ?_); refine wpList_store_row rfl 142 (.tmp 0) (.tmp 1) rfl gA (arrV kF) rfl rfl 142 _ BA.out (by kernel_rfl) rfl (arrV_one _) ?_; have BR := Aside0.mk (setRow_heap _ gA _ (arrV kF) _ _ BA.out); have n_ := Aside0.mk (Mem.below_row (cs := arrV kF) HB.out GA.out); clear HB; have HB := n_; clear n_ BA))
  refine bodyPost_ret (results_cell_row (p := 0) (ty := 142) rfl _ _ gA 142 _ _ _ rfl BR.out Try.underlying142 rfl (by kernel_rfl)) rfl ⟨rfl, HB.out⟩
def z64 : List Int := List.replicate 64 0
def z8 : List Int := List.replicate 8 0
def stW (bs xs : List Int) (i : Nat) : Nat → List Int
  | 0 => xs
  | j + 1 => (stW bs xs i j).set i (IntKind.u64.wrap (IntKind.u64.wrap ((stW bs xs i j).getD i 0 * 256) + IntKind.u64.wrap (bs.getD (4 * i + j) 0)))
def extF (a b c d : Int) : Int := (IntKind.u64.wrap (IntKind.u64.wrap (IntKind.u64.wrap (a + b) + bits .xor .u64 (bits .xor .u64 (rightF c 7) (rightF c 18)) (IntKind.u64.wrap (c.tdiv 8))) + bits .xor .u64 (bits .xor .u64 (rightF d 17) (rightF d 19)) (IntKind.u64.wrap (d.tdiv 1024)))).tmod 4294967296
def extW (xs : List Int) (i : Nat) : List Int := xs.set i (extF (xs.getD (i - 16) 0) (xs.getD (i - 7) 0) (xs.getD (i - 15) 0) (xs.getD (i - 2) 0))
def sched (bs : List Int) : Nat → List Int
  | 0 => z64
  | i + 1 => if i < 16 then stW bs (sched bs i) i 4 else extW (sched bs i) i
theorem stW_len (bs xs : List Int) (i j : Nat) : (stW bs xs i j).length = xs.length := by
  induction j with
  | zero => rfl
  | succ j ih => rw [stW, List.length_set, ih]
theorem sched_len (bs : List Int) (i : Nat) : (sched bs i).length = 64 := by
  induction i with
  | zero => rfl
  | succ i ih =>
    rw [sched]
    split
    · rw [stW_len, ih]
    · rw [extW, List.length_set, ih]
def shf (v : List Int) : Nat → List Int
  | 0 => v
  | k + 1 => (shf v k).set (7 - k) ((shf v k).getD (6 - k) 0)
theorem shf_len (v : List Int) (k : Nat) : (shf v k).length = v.length := by
  induction k with
  | zero => rfl
  | succ k ih => rw [shf, List.length_set, ih]
def chF (a b c : Int) : Int := bits .xor .u64 (bits .and .u64 a b) (bits .and .u64 (IntKind.u64.wrap (4294967295 - a)) c)
def majF (a b c : Int) : Int := bits .or .u64 (bits .or .u64 (bits .and .u64 a b) (bits .and .u64 a c)) (bits .and .u64 b c)
def t1F (v4 v5 v6 v7 k w : Int) : Int := IntKind.u64.wrap (IntKind.u64.wrap (IntKind.u64.wrap (IntKind.u64.wrap (v7 + bits .xor .u64 (bits .xor .u64 (rightF v4 6) (rightF v4 11)) (rightF v4 25)) + chF v4 v5 v6) + k) + w)
def t2F (v0 v1 v2 : Int) : Int := IntKind.u64.wrap (bits .xor .u64 (bits .xor .u64 (rightF v0 2) (rightF v0 13)) (rightF v0 22) + majF v0 v1 v2)
def rndF (v : List Int) (k w : Int) : List Int :=
  let t1 := t1F (v.getD 4 0) (v.getD 5 0) (v.getD 6 0) (v.getD 7 0) k w
  let t2 := t2F (v.getD 0 0) (v.getD 1 0) (v.getD 2 0)
  let s := shf v 7
  let s4 := s.set 4 ((IntKind.u64.wrap (s.getD 4 0 + t1)).tmod 4294967296)
  s4.set 0 ((IntKind.u64.wrap (t1 + t2)).tmod 4294967296)
theorem rnd_eq (v sv : List Int) (a0 a1 a2 a3 a4 a5 a6 a7 xk xw b4 : Int) (h0 : v.getD 0 0 = a0) (h1 : v.getD 1 0 = a1) (h2 : v.getD 2 0 = a2) (_ : v.getD 3 0 = a3) (h4 : v.getD 4 0 = a4) (h5 : v.getD 5 0 = a5) (h6 : v.getD 6 0 = a6) (h7 : v.getD 7 0 = a7) (hs : shf v 7 = sv) (hb : sv.getD 4 0 = b4) :
    rndF v xk xw = (sv.set 4 ((IntKind.u64.wrap (b4 + t1F a4 a5 a6 a7 xk xw)).tmod 4294967296)).set 0 ((IntKind.u64.wrap (t1F a4 a5 a6 a7 xk xw + t2F a0 a1 a2)).tmod 4294967296) := by
  unfold rndF
  simp only [hs, hb, h0, h1, h2, h4, h5, h6, h7]
def rnds (kx wx hx : List Int) : Nat → List Int
  | 0 => hx
  | i + 1 => rndF (rnds kx wx hx i) (kx.getD i 0) (wx.getD i 0)
theorem rnds_len (kx wx hx : List Int) (i : Nat) : (rnds kx wx hx i).length = hx.length := by
  induction i with
  | zero => rfl
  | succ i ih => rw [rnds]; unfold rndF; simp only [List.length_set, shf_len, ih]
def sumW (v hx : List Int) : Nat → List Int
  | 0 => hx
  | i + 1 => (sumW v hx i).set i ((IntKind.u64.wrap ((sumW v hx i).getD i 0 + v.getD i 0)).tmod 4294967296)
theorem sumW_len (v hx : List Int) (i : Nat) : (sumW v hx i).length = hx.length := by
  induction i with
  | zero => rfl
  | succ i ih => rw [sumW, List.length_set, ih]
def blockF (kx hx bs : List Int) : List Int := sumW (rnds kx (sched bs 64) hx 64) hx 8
theorem block_c (kx hx bs : List Int) (hk : kx.length = 64) (hh : hx.length = 8) (A : Addr) (c : Nat) (w : World) (hA : ∀ j : Nat, j < 64 → w.cell? (A.add j) = some (.int .u8 (bs.getD j 0))) :
    Calls Try.prog 93 #[.agg (arrV kx), .agg (arrV hx), .slice (some A) 64 c] w fun e w' => e = .returned (.agg (arrV (blockF kx hx bs))) ∧ Below w.heap.size w w' := by
  have HA := Aside0.mk hA
  clear hA
  have OW := Aside0.mk (Mem.Own.nil w)
  have sk : (arrV kx).size = 64 := (arrV_size kx).trans hk
  have sh : (arrV hx).size = 8 := (arrV_size hx).trans hh
  go_enter Try.func93, Try.ntmps93
  go_wp2_with (first
    | ((with_reducible refine gate_dst (N := 3) rfl ?_); refine box_event ?hg (N := 3) ?hd (cs := arrV kx) (t := 142) ?hr ?_; (case hd => rfl); (case hg => rfl); (case hr => first | (go_simp; done) | (go_simp; rfl)); intro gK hg W_ hb hbb; have n_ : Aside0 (Mem.Own w W_ [(gK, arrV kx, 142)]) := ⟨OW.out.new hg hb hbb⟩; clear OW hb hbb hg; have OW := n_; clear n_)
    | ((with_reducible refine gate_dst (N := 4) rfl ?_); refine box_event ?hg (N := 4) ?hd (cs := arrV hx) (t := 144) ?hr ?_; (case hd => rfl); (case hg => rfl); (case hr => first | (go_simp; done) | (go_simp; rfl)); intro gH hg W_ hb hbb; have n_ : Aside0 (Mem.Own w W_ [(gK, arrV kx, 142), (gH, arrV hx, 144)]) := ⟨OW.out.new hg hb hbb⟩; clear OW hb hbb hg; have OW := n_; clear n_)
    | ((with_reducible refine gate_dst (N := 6) rfl ?_); refine box_event ?hg (N := 6) ?hd (cs := arrV z8) (t := 144) ?hr ?_; (case hd => rfl); (case hg => rfl); (case hr => first | (go_simp; done) | (go_simp; rfl)); intro gR hg W_ hb hbb; have n_ : Aside0 (Mem.Own w W_ [(gK, arrV kx, 142), (gH, arrV hx, 144), (gR, arrV z8, 144)]) := ⟨OW.out.new hg hb hbb⟩; clear OW hb hbb hg; have OW := n_; clear n_)
    | ((with_reducible refine gate_dst (N := 7) rfl ?_); refine box_event ?hg (N := 7) ?hd (cs := arrV z64) (t := 142) ?hr ?_; (case hd => rfl); (case hg => rfl); (case hr => first | (go_simp; done) | (go_simp; rfl)); intro gW hg W_ hb hbb; have n_ : Aside0 (Mem.Own w W_ [(gK, arrV kx, 142), (gH, arrV hx, 144), (gR, arrV z8, 144), (gW, arrV z64, 142)]) := ⟨OW.out.new hg hb hbb⟩; clear OW hb hbb hg; have OW := n_; clear n_))
  go_loopw [8] (fun v8 wr => ∃ i : Nat, v8 = .int .i64 i ∧ i ≤ 64 ∧ Aside0 (Mem.Own w (wr) [(gK, arrV kx, 142), (gH, arrV hx, 144), (gR, arrV z8, 144), (gW, arrV (sched bs i), 142)])) (fun v _ => 64 - (intOf v).toNat)
  case atStart => exact ⟨0, rfl, Nat.zero_le _, OW⟩
  case round =>
    clear OW
    obtain ⟨i, rfl, hi, OW⟩ := hrel
    have hl := sched_len bs i
    by_cases hlt : i < 64
    · by_cases h16 : i < 16
      · go_wp2_with fail
        go_loopw [9] (fun v9 wr => ∃ j : Nat, v9 = .int .i64 j ∧ j ≤ 4 ∧ Aside0 (Mem.Own w (wr) [(gK, arrV kx, 142), (gH, arrV hx, 144), (gR, arrV z8, 144), (gW, arrV (stW bs (sched bs i) i j), 142)])) (fun v _ => 4 - (intOf v).toNat)
        case atStart => exact ⟨0, rfl, Nat.zero_le _, OW⟩
        case round =>
          clear OW
          obtain ⟨j, rfl, hj, OW⟩ := hrel
          have hl2 := (stW_len bs (sched bs i) i j).trans hl
          by_cases hjt : j < 4
          · obtain ⟨x, hx⟩ : ∃ x : Int, (stW bs (sched bs i) i j).getD i 0 = x := ⟨_, rfl⟩
            obtain ⟨y, hy⟩ : ∃ y : Int, bs.getD (4 * i + j) 0 = y := ⟨_, rfl⟩
            have hcz : wr.cell? ⟨gW, i, none⟩ = some (.int .u64 x) := ((OW.out.cell 3 rfl i).trans (arrV_get _ i (by omega))).trans (by rw [hx])
            have hyz : wr.cell? (A.add (4 * i + j)) = some (.int .u8 y) := OW.out.old (by have h1 := HA.out (4 * i + j) (by omega); rw [hy] at h1; exact h1)
            have hfz := OW.out.frozen 3 rfl i
            have hyi : ((4 * (i : Int) + (j : Int))).toNat = 4 * i + j := by omega
            have hyl : 4 * (i : Int) + (j : Int) < 64 := by omega
            have hy0 : 0 ≤ 4 * (i : Int) + (j : Int) := by omega
            have HX := Aside0.mk hx
            have HY := Aside0.mk hy
            clear hx hy
            go_wp2_with fail
            go_region
            all_goals go_wp2_with fail
            go_roundw
            case rel => exact ⟨j + 1, by go_num, by omega, ⟨(OW.out.put 3 rfl i _ (by rw [arrV_set, stW, HX.out, HY.out])).drew⟩⟩
            case measure => simp [intOf]; omega
          · obtain rfl : j = 4 := by omega
            have OW2 : Aside0 (Mem.Own w (wr) [(gK, arrV kx, 142), (gH, arrV hx, 144), (gR, arrV z8, 144), (gW, arrV (sched bs (i + 1)), 142)]) := by rw [sched, if_pos h16]; exact OW
            go_wp2_with fail
            exact ⟨⟨i + 1, rfl, by omega, OW2⟩, by simp [intOf]; omega⟩
      · obtain ⟨x0, hx0⟩ : ∃ x : Int, (sched bs i).getD (i - 16) 0 = x := ⟨_, rfl⟩
        obtain ⟨x1, hx1⟩ : ∃ x : Int, (sched bs i).getD (i - 7) 0 = x := ⟨_, rfl⟩
        obtain ⟨x2, hx2⟩ : ∃ x : Int, (sched bs i).getD (i - 15) 0 = x := ⟨_, rfl⟩
        obtain ⟨x3, hx3⟩ : ∃ x : Int, (sched bs i).getD (i - 2) 0 = x := ⟨_, rfl⟩
        have c0 : wr.cell? ⟨gW, i - 16, none⟩ = some (.int .u64 x0) := ((OW.out.cell 3 rfl _).trans (arrV_get _ (i - 16) (by omega))).trans (by rw [hx0])
        have c1 : wr.cell? ⟨gW, i - 7, none⟩ = some (.int .u64 x1) := ((OW.out.cell 3 rfl _).trans (arrV_get _ (i - 7) (by omega))).trans (by rw [hx1])
        have c2 : wr.cell? ⟨gW, i - 15, none⟩ = some (.int .u64 x2) := ((OW.out.cell 3 rfl _).trans (arrV_get _ (i - 15) (by omega))).trans (by rw [hx2])
        have c3 : wr.cell? ⟨gW, i - 2, none⟩ = some (.int .u64 x3) := ((OW.out.cell 3 rfl _).trans (arrV_get _ (i - 2) (by omega))).trans (by rw [hx3])
        have f0 := OW.out.frozen 3 rfl i
        have C0 : Aside0 ((arrV (sched bs i))[i - 16]? = some (.int .u64 x0)) := ⟨(arrV_get _ (i - 16) (by omega)).trans (by rw [hx0])⟩
        have C1 : Aside0 ((arrV (sched bs i))[i - 7]? = some (.int .u64 x1)) := ⟨(arrV_get _ (i - 7) (by omega)).trans (by rw [hx1])⟩
        have X0 := Aside0.mk hx0
        have X1 := Aside0.mk hx1
        have X2 := Aside0.mk hx2
        have X3 := Aside0.mk hx3
        have t15 : ((i : Int) - 15).toNat = i - 15 := by omega
        have t2 : ((i : Int) - 2).toNat = i - 2 := by omega
        have l15 : (i : Int) - 15 < 64 := by omega
        have l2 : (i : Int) - 2 < 64 := by omega
        have g15 : 0 ≤ (i : Int) - 15 := by omega
        have g2 : 0 ≤ (i : Int) - 2 := by omega
        clear hx0 hx1 hx2 hx3
        go_wp2_with fail
        go_quiet (fail)
        have t16 : ((i : Int) - 16).toNat = i - 16 := by omega
        have t7 : ((i : Int) - 7).toNat = i - 7 := by omega
        have l16 : (i : Int) - 16 < 64 := by omega
        have l7 : (i : Int) - 7 < 64 := by omega
        have g16 : 0 ≤ (i : Int) - 16 := by omega
        have g7 : 0 ≤ (i : Int) - 7 := by omega
        have w16 : IntKind.i64.wrap ((i : Int) - 16) = (i : Int) - 16 := IntWalk.i64_in _ (by omega)
        have w7 : IntKind.i64.wrap ((i : Int) - 7) = (i : Int) - 7 := IntWalk.i64_in _ (by omega)
        have e7 : (7 : Int) ≤ (i : Int) := by omega
        clear c0 c1 c2 c3 f0
        go_wp2_with fail
        refine Mem.region_still_tail 30 (by kernel_rfl) (by kernel_rfl) ?_
        intro W2 hW2
        have O2 : Aside0 (Mem.Own w (W2) [(gK, arrV kx, 142), (gH, arrV hx, 144), (gR, arrV z8, 144), (gW, arrV (sched bs i), 142)]) := ⟨by rw [← hW2]; exact (OW.out.drewN nq).drew⟩
        clear hW2 OW
        have c0 : W2.cell? ⟨gW, i - 16, none⟩ = some (.int .u64 x0) := ((O2.out.cell 3 rfl _).trans C0.out)
        have c1 : W2.cell? ⟨gW, i - 7, none⟩ = some (.int .u64 x1) := ((O2.out.cell 3 rfl _).trans C1.out)
        have f0 := O2.out.frozen 3 rfl i
        have cs0 := (O2.out.cell 3 rfl i).trans (arrV_get _ i (by rw [hl]; exact hlt))
        simp only [List.take_succ_cons, List.take_zero, List.drop_succ_cons, List.drop_zero]
        repeat (first | still_call (right_c _ _ (by decide) (by decide) _) | still_step)
        try refine wpStill_nil ?_
        have X0 := Aside0.mk (show (sched bs (i + 1)) = (sched bs i).set i (extF x0 x1 x2 x3) from by rw [sched, if_neg h16, extW, X0.out, X1.out, X2.out, X3.out])
        clear t16 t7 l16 l7 g16 g7 w16 w7 e7 t15 t2 l15 l2 g15 g2 c0 c1
        go_wp2_with fail
        go_roundw
        case rel => exact ⟨i + 1, by go_num, by omega, ⟨O2.out.put 3 rfl i _ (by rw [arrV_set, X0.out]; rfl)⟩⟩
        case measure => simp [intOf]; omega
    · obtain rfl : i = 64 := by omega
      go_wp2_with (first
        | ((with_reducible refine gate_dst (N := 83) rfl ?_); refine wpList_load_row rfl 144 (.tmp 4) rfl gH rfl 144 (arrV hx) (0, 0) _ (OW.out.blk 1 rfl) Try.underlying144 rfl (by rw [sh]; kernel_rfl) ?_)
        | ((with_reducible refine gate_dst (N := 12) rfl ?_); refine box_event ?hg (N := 12) ?hd (cs := arrV z8) (t := 144) ?hr ?_; (case hd => rfl); (case hg => rfl); (case hr => first | (go_simp; done) | (go_simp; rfl)); intro gV hg W_ hb hbb; have n_ : Aside0 (Mem.Own w W_ [(gK, arrV kx, 142), (gH, arrV hx, 144), (gR, arrV z8, 144), (gW, arrV (sched bs 64), 142), (gV, arrV z8, 144)]) := ⟨OW.out.new hg hb hbb⟩; clear OW hb hbb hg; have OW := n_; clear n_)
        | ((with_reducible refine gate_store (t := 144) (p := 12) rfl ?_); refine wpList_store_row rfl 144 (.tmp 12) (.tmp 83) rfl gV (arrV hx) rfl rfl 144 _ (OW.out.blk 4 rfl) (by rw [sh]; kernel_rfl) (by rw [sh]; rfl) (arrV_one _) ?_; have n_ : Aside0 (Mem.Own w (_) [(gK, arrV kx, 142), (gH, arrV hx, 144), (gR, arrV z8, 144), (gW, arrV (sched bs 64), 142), (gV, arrV hx, 144)]) := ⟨OW.out.row 4 rfl (arrV hx)⟩; clear OW; have OW := n_; clear n_))
      have hlw := sched_len bs 64
      obtain ⟨wx, hwx⟩ : ∃ wx, sched bs 64 = wx := ⟨_, rfl⟩
      rw [hwx] at OW hlw
      have HWX := Aside0.mk hwx
      clear hwx hl hlt hi
      go_loopw [13] (fun v13 wr => ∃ i : Nat, v13 = .int .i64 i ∧ i ≤ 64 ∧ Aside0 (Mem.Own w (wr) [(gK, arrV kx, 142), (gH, arrV hx, 144), (gR, arrV z8, 144), (gW, arrV wx, 142), (gV, arrV (rnds kx wx hx i), 144)])) (fun v _ => 64 - (intOf v).toNat)
      case atStart => exact ⟨0, rfl, Nat.zero_le _, OW⟩
      case round =>
        clear OW
        obtain ⟨i, rfl, hi, OW⟩ := hrel
        have hl := (rnds_len kx wx hx i).trans hh
        by_cases hlt : i < 64
        · have HR := Aside0.mk (show rnds kx wx hx (i + 1) = rndF (rnds kx wx hx i) (kx.getD i 0) (wx.getD i 0) from rfl)
          obtain ⟨v, hv⟩ : ∃ v, rnds kx wx hx i = v := ⟨_, rfl⟩
          rw [hv] at OW hl HR
          clear hv
          obtain ⟨a0, ha0⟩ : ∃ x : Int, v.getD 0 0 = x := ⟨_, rfl⟩
          have c0 : wr.cell? ⟨gV, 0, none⟩ = some (.int .u64 a0) := ((OW.out.cell 4 rfl _).trans (arrV_get _ 0 (by omega))).trans (by rw [ha0])
          obtain ⟨a1, ha1⟩ : ∃ x : Int, v.getD 1 0 = x := ⟨_, rfl⟩
          have c1 : wr.cell? ⟨gV, 1, none⟩ = some (.int .u64 a1) := ((OW.out.cell 4 rfl _).trans (arrV_get _ 1 (by omega))).trans (by rw [ha1])
          obtain ⟨a2, ha2⟩ : ∃ x : Int, v.getD 2 0 = x := ⟨_, rfl⟩
          have c2 : wr.cell? ⟨gV, 2, none⟩ = some (.int .u64 a2) := ((OW.out.cell 4 rfl _).trans (arrV_get _ 2 (by omega))).trans (by rw [ha2])
          obtain ⟨a3, ha3⟩ : ∃ x : Int, v.getD 3 0 = x := ⟨_, rfl⟩
          have c3 : wr.cell? ⟨gV, 3, none⟩ = some (.int .u64 a3) := ((OW.out.cell 4 rfl _).trans (arrV_get _ 3 (by omega))).trans (by rw [ha3])
          obtain ⟨a4, ha4⟩ : ∃ x : Int, v.getD 4 0 = x := ⟨_, rfl⟩
          have c4 : wr.cell? ⟨gV, 4, none⟩ = some (.int .u64 a4) := ((OW.out.cell 4 rfl _).trans (arrV_get _ 4 (by omega))).trans (by rw [ha4])
          obtain ⟨a5, ha5⟩ : ∃ x : Int, v.getD 5 0 = x := ⟨_, rfl⟩
          have c5 : wr.cell? ⟨gV, 5, none⟩ = some (.int .u64 a5) := ((OW.out.cell 4 rfl _).trans (arrV_get _ 5 (by omega))).trans (by rw [ha5])
          obtain ⟨a6, ha6⟩ : ∃ x : Int, v.getD 6 0 = x := ⟨_, rfl⟩
          have c6 : wr.cell? ⟨gV, 6, none⟩ = some (.int .u64 a6) := ((OW.out.cell 4 rfl _).trans (arrV_get _ 6 (by omega))).trans (by rw [ha6])
          obtain ⟨a7, ha7⟩ : ∃ x : Int, v.getD 7 0 = x := ⟨_, rfl⟩
          have c7 : wr.cell? ⟨gV, 7, none⟩ = some (.int .u64 a7) := ((OW.out.cell 4 rfl _).trans (arrV_get _ 7 (by omega))).trans (by rw [ha7])
          obtain ⟨xk, hxk⟩ : ∃ x : Int, kx.getD i 0 = x := ⟨_, rfl⟩
          obtain ⟨xw, hxw⟩ : ∃ x : Int, wx.getD i 0 = x := ⟨_, rfl⟩
          have ck : wr.cell? ⟨gK, i, none⟩ = some (.int .u64 xk) := ((OW.out.cell 0 rfl _).trans (arrV_get _ i (by omega))).trans (by rw [hxk])
          have cw : wr.cell? ⟨gW, i, none⟩ = some (.int .u64 xw) := ((OW.out.cell 3 rfl _).trans (arrV_get _ i (by omega))).trans (by rw [hxw])
          have C0 : Aside0 ((arrV v)[0]? = some (.int .u64 a0)) := ⟨(arrV_get _ 0 (by omega)).trans (by rw [ha0])⟩
          have HX := Aside0.mk (And.intro ha0 (And.intro ha1 (And.intro ha2 (And.intro ha3 (And.intro ha4 (And.intro ha5 (And.intro ha6 (And.intro ha7 (And.intro hxk hxw)))))))))
          clear ha0 ha1 ha2 ha3 ha4 ha5 ha6 ha7 hxk hxw
          go_wp2_with fail
          go_quiet (first | (go_at_call 108; exact Calls.quiet_of_same (right_c _ _ (by decide) (by decide) _)))
          go_wp2_with fail
          have O3 : Aside0 (Mem.Own w (wr.drewN nq) [(gK, arrV kx, 142), (gH, arrV hx, 144), (gR, arrV z8, 144), (gW, arrV wx, 142), (gV, arrV v, 144)]) := ⟨OW.out.drewN nq⟩
          generalize wr.drewN nq = W3 at O3 ⊢
          clear c0 c1 c2 c3 c4 c5 c6 c7 ck cw OW
          have c0 : W3.cell? ⟨gV, 0, none⟩ = some (.int .u64 a0) := ((O3.out.cell 4 rfl _).trans C0.out)
          go_quiet (first | (go_at_call 108; exact Calls.quiet_of_same (right_c _ _ (by decide) (by decide) _)))
          have OW : Aside0 (Mem.Own w (W3.drewN nq) [(gK, arrV kx, 142), (gH, arrV hx, 144), (gR, arrV z8, 144), (gW, arrV wx, 142), (gV, arrV v, 144)]) := ⟨O3.out.drewN nq⟩
          clear c0 O3
          go_wp2_with fail
          generalize W3.drewN nq = W4 at OW ⊢
          go_loopw [18] (fun v18 wr => ∃ k : Nat, v18 = .int .i64 (7 - (k : Int)) ∧ k ≤ 7 ∧ Aside0 (Mem.Own w (wr) [(gK, arrV kx, 142), (gH, arrV hx, 144), (gR, arrV z8, 144), (gW, arrV wx, 142), (gV, arrV (shf v k), 144)])) (fun v _ => (intOf v).toNat)
          case atStart => exact ⟨0, rfl, Nat.zero_le _, OW⟩
          case round =>
            clear OW
            obtain ⟨k, rfl, hk, OW⟩ := hrel
            have hls := (shf_len v k).trans hl
            by_cases hk7 : k < 7
            · obtain ⟨y, hy⟩ : ∃ x : Int, (shf v k).getD (6 - k) 0 = x := ⟨_, rfl⟩
              have b1 : wr.cell? ⟨gV, 6 - k, none⟩ = some (.int .u64 y) := ((OW.out.cell 4 rfl _).trans (arrV_get _ (6 - k) (by omega))).trans (by rw [hy])
              have b2 := ((OW.out.cell 4 rfl _).trans (arrV_get (shf v k) (7 - k) (by omega)))
              have f2 := OW.out.frozen 4 rfl (7 - k)
              have HY := Aside0.mk (show shf v (k + 1) = (shf v k).set (7 - k) y from by rw [shf, hy])
              have q1 : (7 - (k : Int)).toNat = 7 - k := by omega
              have q2 : (7 - (k : Int) - 1).toNat = 6 - k := by omega
              have q3 : 0 ≤ 7 - (k : Int) := by omega
              have q4 : 0 ≤ 7 - (k : Int) - 1 := by omega
              have q5 : 7 - (k : Int) - 1 < 8 := by omega
              have q6 : 7 - (k : Int) < 8 := by omega
              have q7 : 0 < 7 - (k : Int) := by omega
              clear hy
              go_wp2_with fail
              exact ⟨⟨k + 1, by rw [show (7 - (k : Int) - 1) = 7 - ((k + 1 : Nat) : Int) from by omega], by omega, ⟨OW.out.put 4 rfl (7 - k) _ (by rw [arrV_set, HY.out])⟩⟩, by simp [intOf]; omega⟩
            · obtain rfl : k = 7 := by omega
              obtain ⟨sv, hsv⟩ : ∃ s, shf v 7 = s := ⟨_, rfl⟩
              rw [hsv] at OW hls
              obtain ⟨b4, hb4⟩ : ∃ x : Int, sv.getD 4 0 = x := ⟨_, rfl⟩
              have d4 : wr.cell? ⟨gV, 4, none⟩ = some (.int .u64 b4) := ((OW.out.cell 4 rfl _).trans (arrV_get _ 4 (by omega))).trans (by rw [hb4])
              have d0 := ((OW.out.cell 4 rfl _).trans (arrV_get sv 0 (by omega)))
              have f4 := OW.out.frozen 4 rfl 4
              have f0 := OW.out.frozen 4 rfl 0
              have HS := Aside0.mk (And.intro hsv hb4)
              clear hsv hb4
              go_wp2_with fail
              exact ⟨⟨i + 1, by go_num, by omega, ⟨(OW.out.put 4 rfl 4 _ (arrV_set _ _ _)).put 4 rfl 0 _ (by rw [arrV_set, HR.out, HX.out.2.2.2.2.2.2.2.2.1, HX.out.2.2.2.2.2.2.2.2.2, rnd_eq v sv _ _ _ _ _ _ _ _ xk xw _ HX.out.1 HX.out.2.1 HX.out.2.2.1 HX.out.2.2.2.1 HX.out.2.2.2.2.1 HX.out.2.2.2.2.2.1 HX.out.2.2.2.2.2.2.1 HX.out.2.2.2.2.2.2.2.1 HS.out.1 HS.out.2]; rfl)⟩⟩, by simp [intOf]; omega⟩
        · obtain rfl : i = 64 := by omega
          obtain ⟨v, hv⟩ : ∃ v, rnds kx wx hx 64 = v := ⟨_, rfl⟩
          rw [hv] at OW hl
          have HV := Aside0.mk hv
          clear hv
          go_wp2_with fail
          go_loopw [19] (fun v19 wr => ∃ i : Nat, v19 = .int .i64 i ∧ i ≤ 8 ∧ Aside0 (Mem.Own w (wr) [(gK, arrV kx, 142), (gH, arrV (sumW v hx i), 144), (gR, arrV z8, 144), (gW, arrV wx, 142), (gV, arrV v, 144)])) (fun v _ => 8 - (intOf v).toNat)
          case atStart => exact ⟨0, rfl, Nat.zero_le _, OW⟩
          case round =>
            clear OW hlt hi
            obtain ⟨i, rfl, hi, OW⟩ := hrel
            have hls := (sumW_len v hx i).trans hh
            by_cases hlt : i < 8
            · obtain ⟨x, hx'⟩ : ∃ x : Int, (sumW v hx i).getD i 0 = x := ⟨_, rfl⟩
              obtain ⟨y, hy⟩ : ∃ x : Int, v.getD i 0 = x := ⟨_, rfl⟩
              have b1 : wr.cell? ⟨gH, i, none⟩ = some (.int .u64 x) := ((OW.out.cell 1 rfl _).trans (arrV_get _ i (by omega))).trans (by rw [hx'])
              have b2 : wr.cell? ⟨gV, i, none⟩ = some (.int .u64 y) := ((OW.out.cell 4 rfl _).trans (arrV_get _ i (by omega))).trans (by rw [hy])
              have f2 := OW.out.frozen 1 rfl i
              have HY := Aside0.mk (show sumW v hx (i + 1) = (sumW v hx i).set i ((IntKind.u64.wrap (x + y)).tmod 4294967296) from by rw [sumW, hx', hy])
              clear hx' hy
              go_wp2_with fail
              go_region
              all_goals go_wp2_with fail
              go_roundw
              case rel => exact ⟨i + 1, by go_num, by omega, ⟨(OW.out.put 1 rfl i _ (by rw [arrV_set, HY.out])).drew⟩⟩
              case measure => simp [intOf]; omega
            · obtain rfl : i = 8 := by omega
              have hsz : (arrV (sumW v hx 8)).size = 8 := (arrV_size _).trans hls
              go_wp2_with (first
                | ((with_reducible refine gate_dst (N := 189) rfl ?_); refine wpList_load_row rfl 144 (.tmp 4) rfl gH rfl 144 (arrV (sumW v hx 8)) (0, 0) _ (OW.out.blk 1 rfl) Try.underlying144 rfl (by rw [hsz]; kernel_rfl) ?_)
                | ((with_reducible refine gate_store (t := 144) (p := 6) rfl ?_); refine wpList_store_row rfl 144 (.tmp 6) (.tmp 189) rfl gR (arrV (sumW v hx 8)) rfl rfl 144 _ (OW.out.blk 2 rfl) (by rw [hsz]; kernel_rfl) (by rw [hsz]; rfl) (arrV_one _) ?_; have n_ : Aside0 (Mem.Own w (_) [(gK, arrV kx, 142), (gH, arrV (sumW v hx 8), 144), (gR, arrV (sumW v hx 8), 144), (gW, arrV wx, 142), (gV, arrV v, 144)]) := ⟨OW.out.row 2 rfl (arrV (sumW v hx 8))⟩; clear OW; have OW := n_; clear n_))
              refine bodyPost_ret (results_cell_row (p := 6) (ty := 144) rfl _ _ gR 144 _ _ _ rfl (OW.out.blk 2 rfl) Try.underlying144 rfl (by rw [hsz]; kernel_rfl)) rfl ⟨by rw [blockF, HWX.out, HV.out], OW.out.below⟩
end Go.Proofs.Ytondnammkcgjpaa.Ref01
namespace Go.Proofs.Ytondnammkcgjpaa.ShaM
open Go Go.Proofs.Ytondnammkcgjpaa.Ref01
theorem wrap64u (n : Int) : IntKind.u64.wrap n = n % 18446744073709551616 := by simp [IntKind.wrap, IntKind.bits, IntKind.signed]
theorem bits_n (k : IntKind) (j : Nat) (hj : j ≤ k.bits) (hk : ∀ n : Int, 0 ≤ n → n < 2 ^ j → k.wrap n = n) (a b : Nat) (ha : a < 2 ^ j) (hb : b < 2 ^ j) : bits .xor k a b = ((a ^^^ b : Nat) : Int) := by
  have hp : 2 ^ j ≤ 2 ^ k.bits := Nat.pow_le_pow_right (by decide) hj
  have ha' : a % 2 ^ k.bits = a := Nat.mod_eq_of_lt (Nat.lt_of_lt_of_le ha hp)
  have hb' : b % 2 ^ k.bits = b := Nat.mod_eq_of_lt (Nat.lt_of_lt_of_le hb hp)
  simp only [bits, BitVec.ofInt_natCast, BitVec.toNat_xor, BitVec.toNat_ofNat, ha', hb']
  exact hk _ (Int.natCast_nonneg _) (by exact_mod_cast Nat.xor_lt_two_pow ha hb)
theorem wraps_u64 (n : Int) (h0 : 0 ≤ n) (h1 : n < 2 ^ 32) : IntKind.u64.wrap n = n := by rw [wrap64u]; omega
theorem wraps_u32 (n : Int) (h0 : 0 ≤ n) (h1 : n < 2 ^ 32) : IntKind.u32.wrap n = n := by rw [IntKind.wrap_u32]; omega
theorem xor64 {a b : Nat} (ha : a < 2 ^ 32) (hb : b < 2 ^ 32) : bits .xor .u64 a b = ((a ^^^ b : Nat) : Int) := bits_n .u64 32 (by decide) wraps_u64 a b ha hb
theorem and64 {a b : Nat} (ha : a < 2 ^ 32) (hb : b < 2 ^ 32) : bits .and .u64 a b = ((a &&& b : Nat) : Int) := (bits_nat .u64 32 (by decide) wraps_u64 a b ha hb).1
theorem or64 {a b : Nat} (ha : a < 2 ^ 32) (hb : b < 2 ^ 32) : bits .or .u64 a b = ((a ||| b : Nat) : Int) := (bits_nat .u64 32 (by decide) wraps_u64 a b ha hb).2
theorem xor32 {a b : Nat} (ha : a < 2 ^ 32) (hb : b < 2 ^ 32) : bits .xor .u32 a b = ((a ^^^ b : Nat) : Int) := bits_n .u32 32 (by decide) wraps_u32 a b ha hb
theorem and32 {a b : Nat} (ha : a < 2 ^ 32) (hb : b < 2 ^ 32) : bits .and .u32 a b = ((a &&& b : Nat) : Int) := (bits_nat .u32 32 (by decide) wraps_u32 a b ha hb).1
theorem or32 {a b : Nat} (ha : a < 2 ^ 32) (hb : b < 2 ^ 32) : bits .or .u32 a b = ((a ||| b : Nat) : Int) := (bits_nat .u32 32 (by decide) wraps_u32 a b ha hb).2
def rot (x n : Nat) : Nat := (x / 2 ^ n + x * 2 ^ (32 - n)) % 2 ^ 32
theorem rot_lt (x n : Nat) : rot x n < 2 ^ 32 := Nat.mod_lt _ (by decide)
theorem right_eq (x n : Nat) (hx : x < 2 ^ 32) (hn : n ≤ 32) : rightF (x : Int) (n : Int) = (rot x n : Int) := by
  unfold rightF rot
  have e1 : IntKind.u64.wrap ((x : Int) * 4294967296) = ((x * 4294967296 : Nat) : Int) := by rw [wrap64u]; omega
  have e2 : IntKind.u64.wrap (((x * 4294967296 : Nat) : Int) + (x : Int)) = ((x * 4294967296 + x : Nat) : Int) := by rw [wrap64u]; omega
  rw [e1, e2, Int.toNat_natCast]
  have e3 : x * 4294967296 + x = x + x * 2 ^ (32 - n) * 2 ^ n := by
    rw [Nat.mul_assoc, ← Nat.pow_add, Nat.sub_add_cancel hn]; omega
  rw [e3]
  have e4 : (((x + x * 2 ^ (32 - n) * 2 ^ n : Nat) : Int) / 2 ^ n) = ((x / 2 ^ n + x * 2 ^ (32 - n) : Nat) : Int) := by
    rw [show ((2 : Int) ^ n) = ((2 ^ n : Nat) : Int) by simp, ← Int.natCast_ediv, Nat.add_mul_div_right _ _ (Nat.two_pow_pos n)]
  rw [e4, Int.tmod_eq_emod_of_nonneg (Int.natCast_nonneg _)]
  omega
def sg (a b c x : Nat) (t : Nat) : Nat := rot x a ^^^ rot x b ^^^ t
def s0 (x : Nat) : Nat := rot x 7 ^^^ rot x 18 ^^^ (x / 8)
def s1 (x : Nat) : Nat := rot x 17 ^^^ rot x 19 ^^^ (x / 1024)
def S0 (x : Nat) : Nat := rot x 2 ^^^ rot x 13 ^^^ rot x 22
def S1 (x : Nat) : Nat := rot x 6 ^^^ rot x 11 ^^^ rot x 25
def ch (a b c : Nat) : Nat := (a &&& b) ^^^ ((4294967295 - a) &&& c)
def maj (a b c : Nat) : Nat := (a &&& b) ^^^ (a &&& c) ^^^ (b &&& c)
theorem x3_lt {a b c : Nat} (ha : a < 2 ^ 32) (hb : b < 2 ^ 32) (hc : c < 2 ^ 32) : a ^^^ b ^^^ c < 2 ^ 32 := Nat.xor_lt_two_pow (Nat.xor_lt_two_pow ha hb) hc
theorem div_lt {x : Nat} (hx : x < 2 ^ 32) (k : Nat) : x / k < 2 ^ 32 := Nat.lt_of_le_of_lt (Nat.div_le_self _ _) hx
theorem s0_lt {x : Nat} (hx : x < 2 ^ 32) : s0 x < 2 ^ 32 := x3_lt (rot_lt _ _) (rot_lt _ _) (div_lt hx _)
theorem s1_lt {x : Nat} (hx : x < 2 ^ 32) : s1 x < 2 ^ 32 := x3_lt (rot_lt _ _) (rot_lt _ _) (div_lt hx _)
theorem S0_lt (x : Nat) : S0 x < 2 ^ 32 := x3_lt (rot_lt _ _) (rot_lt _ _) (rot_lt _ _)
theorem S1_lt (x : Nat) : S1 x < 2 ^ 32 := x3_lt (rot_lt _ _) (rot_lt _ _) (rot_lt _ _)
theorem ch_lt {a b c : Nat} (hb : b < 2 ^ 32) (hc : c < 2 ^ 32) : ch a b c < 2 ^ 32 := Nat.xor_lt_two_pow (Nat.and_lt_two_pow _ hb) (Nat.and_lt_two_pow _ hc)
theorem maj_lt {a b c : Nat} (hb : b < 2 ^ 32) (hc : c < 2 ^ 32) : maj a b c < 2 ^ 32 := x3_lt (Nat.and_lt_two_pow _ hb) (Nat.and_lt_two_pow _ hc) (Nat.and_lt_two_pow _ hc)
theorem maj_or (a b c : Nat) : (a &&& b) ||| (a &&& c) ||| (b &&& c) = maj a b c := by
  unfold maj
  apply Nat.eq_of_testBit_eq
  intro i
  simp only [Nat.testBit_or, Nat.testBit_and, Nat.testBit_xor]
  cases a.testBit i <;> cases b.testBit i <;> cases c.testBit i <;> rfl
theorem xor64_3 {a b c : Nat} (ha : a < 2 ^ 32) (hb : b < 2 ^ 32) (hc : c < 2 ^ 32) : bits .xor .u64 (bits .xor .u64 a b) c = ((a ^^^ b ^^^ c : Nat) : Int) := by
  rw [xor64 ha hb, xor64 (Nat.xor_lt_two_pow ha hb) hc]
theorem ext_eq (a b c d : Nat) (ha : a < 2 ^ 32) (hb : b < 2 ^ 32) (hc : c < 2 ^ 32) (hd : d < 2 ^ 32) : extF a b c d = (((a + b + s0 c + s1 d) % 2 ^ 32 : Nat) : Int) := by
  unfold extF
  have e1 : IntKind.u64.wrap ((c : Int).tdiv 8) = ((c / 8 : Nat) : Int) := by
    rw [Int.tdiv_eq_ediv_of_nonneg (Int.natCast_nonneg _), wrap64u]; omega
  have e2 : IntKind.u64.wrap ((d : Int).tdiv 1024) = ((d / 1024 : Nat) : Int) := by
    rw [Int.tdiv_eq_ediv_of_nonneg (Int.natCast_nonneg _), wrap64u]; omega
  rw [e1, e2, show (7 : Int) = ((7 : Nat) : Int) from rfl, show (18 : Int) = ((18 : Nat) : Int) from rfl, show (17 : Int) = ((17 : Nat) : Int) from rfl, show (19 : Int) = ((19 : Nat) : Int) from rfl,
    right_eq c 7 hc (by decide), right_eq c 18 hc (by decide), right_eq d 17 hd (by decide), right_eq d 19 hd (by decide), xor64_3 (rot_lt _ _) (rot_lt _ _) (div_lt hc 8), xor64_3 (rot_lt _ _) (rot_lt _ _) (div_lt hd 1024)]
  have h0 := s0_lt hc
  have h1 := s1_lt hd
  show (IntKind.u64.wrap (IntKind.u64.wrap (IntKind.u64.wrap ((a : Int) + b) + ((s0 c : Nat) : Int)) + ((s1 d : Nat) : Int))).tmod 4294967296 = _
  generalize s0 c = x at h0 ⊢
  generalize s1 d = y at h1 ⊢
  have w1 : IntKind.u64.wrap ((a : Int) + b) = ((a + b : Nat) : Int) := by rw [wrap64u]; omega
  have w2 : IntKind.u64.wrap (((a + b : Nat) : Int) + (x : Int)) = ((a + b + x : Nat) : Int) := by rw [wrap64u]; omega
  have w3 : IntKind.u64.wrap (((a + b + x : Nat) : Int) + (y : Int)) = ((a + b + x + y : Nat) : Int) := by rw [wrap64u]; omega
  rw [w1, w2, w3, Int.tmod_eq_emod_of_nonneg (Int.natCast_nonneg _)]
  omega
def t1N (v4 v5 v6 v7 k w : Nat) : Nat := v7 + S1 v4 + ch v4 v5 v6 + k + w
def t2N (v0 v1 v2 : Nat) : Nat := S0 v0 + maj v0 v1 v2
theorem t1_eq (v4 v5 v6 v7 k w : Nat) (h4 : v4 < 2 ^ 32) (h5 : v5 < 2 ^ 32) (h6 : v6 < 2 ^ 32) (h7 : v7 < 2 ^ 32) (hk : k < 2 ^ 32) (hw : w < 2 ^ 32) : t1F v4 v5 v6 v7 k w = ((t1N v4 v5 v6 v7 k w : Nat) : Int) := by
  unfold t1F t1N chF
  have e1 : IntKind.u64.wrap (4294967295 - (v4 : Int)) = ((4294967295 - v4 : Nat) : Int) := by rw [wrap64u]; omega
  rw [e1, and64 h4 h5, and64 (by omega) h6, xor64 (Nat.and_lt_two_pow _ h5) (Nat.and_lt_two_pow _ h6), show (6 : Int) = ((6 : Nat) : Int) from rfl, show (11 : Int) = ((11 : Nat) : Int) from rfl, show (25 : Int) = ((25 : Nat) : Int) from rfl,
    right_eq v4 6 h4 (by decide), right_eq v4 11 h4 (by decide), right_eq v4 25 h4 (by decide), xor64_3 (rot_lt _ _) (rot_lt _ _) (rot_lt _ _)]
  have hc := ch_lt (a := v4) h5 h6
  have hS := S1_lt v4
  show IntKind.u64.wrap (IntKind.u64.wrap (IntKind.u64.wrap (IntKind.u64.wrap ((v7 : Int) + ((S1 v4 : Nat) : Int)) + ((ch v4 v5 v6 : Nat) : Int)) + (k : Int)) + (w : Int)) = _
  generalize S1 v4 = x at hS ⊢
  generalize ch v4 v5 v6 = y at hc ⊢
  have w1 : IntKind.u64.wrap ((v7 : Int) + x) = ((v7 + x : Nat) : Int) := by rw [wrap64u]; omega
  have w2 : IntKind.u64.wrap (((v7 + x : Nat) : Int) + (y : Int)) = ((v7 + x + y : Nat) : Int) := by rw [wrap64u]; omega
  have w3 : IntKind.u64.wrap (((v7 + x + y : Nat) : Int) + (k : Int)) = ((v7 + x + y + k : Nat) : Int) := by rw [wrap64u]; omega
  have w4 : IntKind.u64.wrap (((v7 + x + y + k : Nat) : Int) + (w : Int)) = ((v7 + x + y + k + w : Nat) : Int) := by rw [wrap64u]; omega
  rw [w1, w2, w3, w4]
theorem t2_eq (v0 v1 v2 : Nat) (h0 : v0 < 2 ^ 32) (h1 : v1 < 2 ^ 32) (h2 : v2 < 2 ^ 32) : t2F v0 v1 v2 = ((t2N v0 v1 v2 : Nat) : Int) := by
  unfold t2F t2N majF
  rw [and64 h0 h1, and64 h0 h2, and64 h1 h2, or64 (Nat.and_lt_two_pow _ h1) (Nat.and_lt_two_pow _ h2), or64 (Nat.or_lt_two_pow (Nat.and_lt_two_pow _ h1) (Nat.and_lt_two_pow _ h2)) (Nat.and_lt_two_pow _ h2), maj_or,
    show (2 : Int) = ((2 : Nat) : Int) from rfl, show (13 : Int) = ((13 : Nat) : Int) from rfl, show (22 : Int) = ((22 : Nat) : Int) from rfl, right_eq v0 2 h0 (by decide), right_eq v0 13 h0 (by decide), right_eq v0 22 h0 (by decide), xor64_3 (rot_lt _ _) (rot_lt _ _) (rot_lt _ _)]
  have hm := maj_lt (a := v0) h1 h2
  have hS := S0_lt v0
  show IntKind.u64.wrap (((S0 v0 : Nat) : Int) + ((maj v0 v1 v2 : Nat) : Int)) = _
  generalize S0 v0 = x at hS ⊢
  generalize maj v0 v1 v2 = y at hm ⊢
  rw [wrap64u]; omega
/-! lists of words -/
abbrev cast (l : List Nat) : List Int := l.map fun n : Nat => (n : Int)
def Small (l : List Nat) : Prop := ∀ j, l.getD j 0 < 2 ^ 32
theorem cast_getD (l : List Nat) (j : Nat) : (cast l).getD j 0 = ((l.getD j 0 : Nat) : Int) := by
  rw [List.getD_eq_getElem?_getD, List.getD_eq_getElem?_getD, List.getElem?_map]
  cases l[j]? <;> rfl
theorem cast_set (l : List Nat) (j n : Nat) : (cast l).set j (n : Int) = cast (l.set j n) := by rw [cast, cast, List.map_set]
theorem Small.set {l : List Nat} (h : Small l) (j n : Nat) (hn : n < 2 ^ 32) : Small (l.set j n) := by
  intro i
  rw [List.getD_eq_getElem?_getD, List.getElem?_set]
  by_cases hji : j = i
  · rw [if_pos hji]
    split
    · exact hn
    · exact Nat.two_pow_pos 32
  · rw [if_neg hji, ← List.getD_eq_getElem?_getD]
    exact h i
def wordN (bs : List Nat) (i : Nat) : Nat := ((bs.getD (4 * i) 0 * 256 + bs.getD (4 * i + 1) 0) * 256 + bs.getD (4 * i + 2) 0) * 256 + bs.getD (4 * i + 3) 0
def schN (bs : List Nat) : Nat → List Nat
  | 0 => List.replicate 64 0
  | i + 1 => (schN bs i).set i (if i < 16 then wordN bs i else ((schN bs i).getD (i - 16) 0 + (schN bs i).getD (i - 7) 0 + s0 ((schN bs i).getD (i - 15) 0) + s1 ((schN bs i).getD (i - 2) 0)) % 2 ^ 32)
theorem schN_len (bs : List Nat) (i : Nat) : (schN bs i).length = 64 := by
  induction i with
  | zero => simp [schN]
  | succ i ih => rw [schN, List.length_set, ih]
theorem schN_small (bs : List Nat) (hb : ∀ j, bs.getD j 0 < 256) (i : Nat) : Small (schN bs i) := by
  induction i with
  | zero =>
    intro j
    rw [schN, List.getD_eq_getElem?_getD]
    by_cases h : j < 64
    · rw [List.getElem?_replicate, if_pos h]; decide
    · rw [List.getElem?_replicate, if_neg h]; decide
  | succ i ih =>
    rw [schN]
    refine ih.set i _ ?_
    split
    · unfold wordN
      have h0 := hb (4 * i)
      have h1 := hb (4 * i + 1)
      have h2 := hb (4 * i + 2)
      have h3 := hb (4 * i + 3)
      omega
    · exact Nat.mod_lt _ (by decide)
theorem schN_zero (bs : List Nat) (i : Nat) : ∀ j, i ≤ j → (schN bs i).getD j 0 = 0 := by
  induction i with
  | zero =>
    intro j _
    rw [schN, List.getD_eq_getElem?_getD, List.getElem?_replicate]
    split <;> rfl
  | succ i ih =>
    intro j hj
    rw [schN, List.getD_eq_getElem?_getD, List.getElem?_set, if_neg (by omega), ← List.getD_eq_getElem?_getD]
    exact ih j (by omega)
theorem set_set (l : List Nat) (i a b : Nat) : (l.set i a).set i b = l.set i b := List.set_set a
theorem getD_set_self (l : List Nat) (i a : Nat) (h : i < l.length) : (l.set i a).getD i 0 = a := by
  rw [List.getD_eq_getElem?_getD, List.getElem?_set, if_pos rfl, if_pos h]; rfl
theorem stW_step (bs xs : List Nat) (i j b : Nat) (hi : i < xs.length) (x y : Nat) (h : stW (cast bs) (cast xs) i j = cast (xs.set i x)) (hx : x < 2 ^ 24) (hb : bs.getD (4 * i + j) 0 = y) (hy : y < 256) :
    stW (cast bs) (cast xs) i (j + 1) = cast (xs.set i (x * 256 + y)) := by
  rw [stW, h, cast_getD, cast_getD, getD_set_self _ _ _ hi, hb]
  have w1 : IntKind.u64.wrap ((x : Int) * 256) = ((x * 256 : Nat) : Int) := by rw [wrap64u]; omega
  have w2 : IntKind.u64.wrap (y : Int) = ((y : Nat) : Int) := by rw [wrap64u]; omega
  have w3 : IntKind.u64.wrap (((x * 256 : Nat) : Int) + ((y : Nat) : Int)) = ((x * 256 + y : Nat) : Int) := by rw [wrap64u]; omega
  rw [w1, w2, w3, cast_set, set_set]
theorem stW_4 (bs xs : List Nat) (i : Nat) (hi : i < xs.length) (h0 : xs.getD i 0 = 0) (hb : ∀ j, bs.getD j 0 < 256) : stW (cast bs) (cast xs) i 4 = cast (xs.set i (wordN bs i)) := by
  have e0 : stW (cast bs) (cast xs) i 0 = cast (xs.set i 0) := by
    rw [stW]
    congr 1
    refine (List.ext_getElem? fun j => ?_)
    rw [List.getElem?_set]
    by_cases hji : i = j
    · subst hji
      rw [if_pos rfl, if_pos hi]
      rw [List.getD_eq_getElem?_getD, List.getElem?_eq_getElem hi] at h0
      rw [List.getElem?_eq_getElem hi]
      exact congrArg some h0
    · rw [if_neg hji]
  have b0 := hb (4 * i + 0)
  have b1 := hb (4 * i + 1)
  have b2 := hb (4 * i + 2)
  have b3 := hb (4 * i + 3)
  have e1 := stW_step bs xs i 0 0 hi 0 _ e0 (by decide) rfl b0
  have e2 := stW_step bs xs i 1 0 hi _ _ e1 (by omega) rfl b1
  have e3 := stW_step bs xs i 2 0 hi _ _ e2 (by omega) rfl b2
  have e4 := stW_step bs xs i 3 0 hi _ _ e3 (by omega) rfl b3
  rw [e4]
  unfold wordN
  rw [Nat.zero_mul, Nat.zero_add, Nat.add_zero]
theorem sched_eq (bs : List Nat) (hb : ∀ j, bs.getD j 0 < 256) (i : Nat) (hi : i ≤ 64) : sched (cast bs) i = cast (schN bs i) := by
  induction i with
  | zero => simp [sched, schN, z64, cast]
  | succ i ih =>
    have ih := ih (by omega)
    rw [sched, schN, ih]
    by_cases h : i < 16
    · rw [if_pos h, if_pos h, stW_4 bs _ i (by rw [schN_len]; omega) (schN_zero bs i i (Nat.le_refl _)) hb]
    · have hs := schN_small bs hb i
      rw [if_neg h, if_neg h, extW, cast_getD, cast_getD, cast_getD, cast_getD, ext_eq _ _ _ _ (hs _) (hs _) (hs _) (hs _), cast_set]
def rndN (v : List Nat) (k w : Nat) : List Nat :=
  let t1 := t1N (v.getD 4 0) (v.getD 5 0) (v.getD 6 0) (v.getD 7 0) k w
  let t2 := t2N (v.getD 0 0) (v.getD 1 0) (v.getD 2 0)
  [(t1 + t2) % 2 ^ 32, v.getD 0 0, v.getD 1 0, v.getD 2 0, (v.getD 3 0 + t1) % 2 ^ 32, v.getD 4 0, v.getD 5 0, v.getD 6 0]
theorem rnd_of (a0 a1 a2 a3 a4 a5 a6 a7 : Int) (k w : Int) : rndF [a0, a1, a2, a3, a4, a5, a6, a7] k w =
    [(IntKind.u64.wrap (t1F a4 a5 a6 a7 k w + t2F a0 a1 a2)).tmod 4294967296, a0, a1, a2, (IntKind.u64.wrap (a3 + t1F a4 a5 a6 a7 k w)).tmod 4294967296, a4, a5, a6] := by
  unfold rndF
  rfl
theorem t1_lt (v4 v5 v6 v7 k w : Nat) (h5 : v5 < 2 ^ 32) (h6 : v6 < 2 ^ 32) (h7 : v7 < 2 ^ 32) (hk : k < 2 ^ 32) (hw : w < 2 ^ 32) : t1N v4 v5 v6 v7 k w < 5 * 2 ^ 32 := by
  unfold t1N
  have := S1_lt v4
  have := ch_lt (a := v4) h5 h6
  omega
theorem t2_lt (v0 v1 v2 : Nat) (h1 : v1 < 2 ^ 32) (h2 : v2 < 2 ^ 32) : t2N v0 v1 v2 < 2 * 2 ^ 32 := by
  unfold t2N
  have := S0_lt v0
  have := maj_lt (a := v0) h1 h2
  omega
theorem eight (v : List Nat) (h : v.length = 8) : v = [v.getD 0 0, v.getD 1 0, v.getD 2 0, v.getD 3 0, v.getD 4 0, v.getD 5 0, v.getD 6 0, v.getD 7 0] := by
  match v, h with
  | [_, _, _, _, _, _, _, _], _ => rfl
theorem rnd_eq2 (v : List Nat) (k w : Nat) (hv : v.length = 8) (hs : Small v) (hk : k < 2 ^ 32) (hw : w < 2 ^ 32) : rndF (cast v) k w = cast (rndN v k w) := by
  have h0 := hs 0
  have h1 := hs 1
  have h2 := hs 2
  have h3 := hs 3
  have h4 := hs 4
  have h5 := hs 5
  have h6 := hs 6
  have h7 := hs 7
  unfold rndN
  rw [show cast v = cast [v.getD 0 0, v.getD 1 0, v.getD 2 0, v.getD 3 0, v.getD 4 0, v.getD 5 0, v.getD 6 0, v.getD 7 0] from congrArg cast (eight v hv)]
  generalize v.getD 0 0 = a0 at *
  generalize v.getD 1 0 = a1 at *
  generalize v.getD 2 0 = a2 at *
  generalize v.getD 3 0 = a3 at *
  generalize v.getD 4 0 = a4 at *
  generalize v.getD 5 0 = a5 at *
  generalize v.getD 6 0 = a6 at *
  generalize v.getD 7 0 = a7 at *
  show rndF [(a0 : Int), a1, a2, a3, a4, a5, a6, a7] k w = _
  rw [rnd_of, t1_eq a4 a5 a6 a7 k w h4 h5 h6 h7 hk hw, t2_eq a0 a1 a2 h0 h1 h2]
  have l1 := t1_lt a4 a5 a6 a7 k w h5 h6 h7 hk hw
  have l2 := t2_lt a0 a1 a2 h1 h2
  simp only
  generalize t1N a4 a5 a6 a7 k w = x at l1 ⊢
  generalize t2N a0 a1 a2 = y at l2 ⊢
  have w1 : (IntKind.u64.wrap ((x : Int) + (y : Int))).tmod 4294967296 = (((x + y) % 2 ^ 32 : Nat) : Int) := by
    rw [wrap64u, show ((x : Int) + (y : Int)) % 18446744073709551616 = ((x + y : Nat) : Int) by omega, Int.tmod_eq_emod_of_nonneg (Int.natCast_nonneg _)]; omega
  have w2 : (IntKind.u64.wrap ((a3 : Int) + (x : Int))).tmod 4294967296 = (((a3 + x) % 2 ^ 32 : Nat) : Int) := by
    rw [wrap64u, show ((a3 : Int) + (x : Int)) % 18446744073709551616 = ((a3 + x : Nat) : Int) by omega, Int.tmod_eq_emod_of_nonneg (Int.natCast_nonneg _)]; omega
  rw [w1, w2]
  rfl
theorem small_of {l : List Nat} (h : ∀ x ∈ l, x < 2 ^ 32) : Small l := by
  intro j
  rw [List.getD_eq_getElem?_getD]
  cases e : l[j]? with
  | none => exact Nat.two_pow_pos 32
  | some x => exact h x (List.mem_of_getElem? e)
theorem rndN_small (v : List Nat) (k w : Nat) (hs : Small v) : Small (rndN v k w) := by
  refine small_of fun x hx => ?_
  unfold rndN at hx
  simp only [List.mem_cons, List.not_mem_nil, or_false] at hx
  rcases hx with rfl | rfl | rfl | rfl | rfl | rfl | rfl | rfl
  · exact Nat.mod_lt _ (Nat.two_pow_pos 32)
  · exact hs 0
  · exact hs 1
  · exact hs 2
  · exact Nat.mod_lt _ (Nat.two_pow_pos 32)
  · exact hs 4
  · exact hs 5
  · exact hs 6
def rndsN (kx wx hx : List Nat) : Nat → List Nat
  | 0 => hx
  | i + 1 => rndN (rndsN kx wx hx i) (kx.getD i 0) (wx.getD i 0)
theorem rndsN_len (kx wx hx : List Nat) (h : hx.length = 8) (i : Nat) : (rndsN kx wx hx i).length = 8 := by
  cases i with
  | zero => exact h
  | succ i => rfl
theorem rndsN_small (kx wx hx : List Nat) (h : Small hx) (i : Nat) : Small (rndsN kx wx hx i) := by
  induction i with
  | zero => exact h
  | succ i ih => exact rndN_small _ _ _ ih
theorem rnds_eq (kx wx hx : List Nat) (hl : hx.length = 8) (hk : Small kx) (hw : Small wx) (hh : Small hx) (i : Nat) : rnds (cast kx) (cast wx) (cast hx) i = cast (rndsN kx wx hx i) := by
  induction i with
  | zero => rfl
  | succ i ih => rw [rnds, ih, cast_getD, cast_getD, rnd_eq2 _ _ _ (rndsN_len kx wx hx hl i) (rndsN_small kx wx hx hh i) (hk i) (hw i)]; rfl
def sumN (v hx : List Nat) : Nat → List Nat
  | 0 => hx
  | i + 1 => (sumN v hx i).set i (((sumN v hx i).getD i 0 + v.getD i 0) % 2 ^ 32)
theorem sumN_len (v hx : List Nat) (i : Nat) : (sumN v hx i).length = hx.length := by
  induction i with
  | zero => rfl
  | succ i ih => rw [sumN, List.length_set, ih]
theorem sumN_small (v hx : List Nat) (h : Small hx) (i : Nat) : Small (sumN v hx i) := by
  induction i with
  | zero => exact h
  | succ i ih => rw [sumN]; exact ih.set _ _ (Nat.mod_lt _ (by decide))
theorem sum_eq (v hx : List Nat) (hv : Small v) (hh : Small hx) (i : Nat) : sumW (cast v) (cast hx) i = cast (sumN v hx i) := by
  induction i with
  | zero => rfl
  | succ i ih =>
    have a := sumN_small v hx hh i i
    have b := hv i
    rw [sumW, ih, cast_getD, cast_getD, sumN]
    generalize (sumN v hx i).getD i 0 = x at a ⊢
    generalize v.getD i 0 = y at b ⊢
    rw [show (IntKind.u64.wrap ((x : Int) + (y : Int))).tmod 4294967296 = (((x + y) % 2 ^ 32 : Nat) : Int) by
      rw [wrap64u, show ((x : Int) + (y : Int)) % 18446744073709551616 = ((x + y : Nat) : Int) by omega, Int.tmod_eq_emod_of_nonneg (Int.natCast_nonneg _)]; omega, cast_set]
def blockN (kx hx bs : List Nat) : List Nat := sumN (rndsN kx (schN bs 64) hx 64) hx 8
theorem block_eq (kx hx bs : List Nat) (hl : hx.length = 8) (hk : Small kx) (hh : Small hx) (hb : ∀ j, bs.getD j 0 < 256) : blockF (cast kx) (cast hx) (cast bs) = cast (blockN kx hx bs) := by
  unfold blockF blockN
  rw [sched_eq bs hb 64 (Nat.le_refl _), rnds_eq kx _ hx hl hk (schN_small bs hb 64) hh, sum_eq _ _ (rndsN_small _ _ _ hh _) hh]
theorem blockN_len (kx hx bs : List Nat) : (blockN kx hx bs).length = hx.length := sumN_len _ _ _
theorem blockN_small (kx hx bs : List Nat) (h : Small hx) : Small (blockN kx hx bs) := sumN_small _ _ h _
end Go.Proofs.Ytondnammkcgjpaa.ShaM
namespace Go.Proofs.Ytondnammkcgjpaa.Mem
open Go Go.Proofs Go.RowKit Go.Proofs.YtondnammkcgjpaaW.PrintWords
def Bytes (w : World) (base : Nat) (e : TypeId) (v : Value) (n : Nat) (xs : List Value) : Prop :=
  w.ownsRow base e 1 v n xs ∨ (xs.length = n ∧ ∃ g cap cur, v = .slice (some ⟨g, 0, none⟩) n cap ∧ base ≤ g ∧ w.heap[g]? = some (.cells cur e (cur.size, cur.size + 1)) ∧ n ≤ cap ∧ cap ≤ maxLen ∧ cur.size = cap ∧ cur.toList.take n = xs)
section
variable {w w2 : World} {base n : Nat} {e : TypeId} {v : Value} {xs : List Value}
theorem Bytes.len (h : Bytes w base e v n xs) : xs.length = n := by
  rcases h with h | h
  · rw [h.1, Nat.mul_one]
  · exact h.1
theorem Bytes.lt (h : Bytes w base e v n xs) (k : Nat) (hk : v.ownBlock = some k) : base ≤ k ∧ k < w.heap.size := by
  rcases h with h | ⟨_, g, cap, cur, rfl, hb, hg, _⟩
  · exact h.lt k hk
  · simp [Value.ownBlock] at hk
    subst hk
    exact ⟨hb, blk_lt hg⟩
theorem Bytes.kept {row : Option Nat} (h : Bytes w base e v n xs) (hg : w.grownBy w2 row) (hne : v.ownBlock = none ∨ v.ownBlock ≠ row) : Bytes w2 base e v n xs := by
  rcases h with h | ⟨hl, g, cap, cur, rfl, hb, hgg, rest⟩
  · exact .inl (h.kept hg hne)
  · refine .inr ⟨hl, g, cap, cur, rfl, hb, ?_, rest⟩
    rw [hg.block g (blk_lt hgg) (by simpa [Value.ownBlock] using hne)]
    exact hgg
theorem Bytes.below (h : Bytes w base e v n xs) (hb : Below w.heap.size w w2) : Bytes w2 base e v n xs :=
  h.kept (row := none) ⟨hb.os, hb.tape, hb.output, hb.size, fun k hk _ => hb.block k hk⟩ (by cases v.ownBlock <;> simp)
theorem Bytes.set (h : Bytes w base e v n xs) {p : Addr} (hne : v.ownBlock ≠ some p.block) (u : Value) : Bytes (w.setCell p u) base e v n xs :=
  h.kept (row := some p.block) ⟨rfl, rfl, rfl, by simp [World.setCell], fun k _ hk => Below.heap_setCell _ _ _ _ (fun q => hk (by rw [q]))⟩ (.inr hne)
theorem Bytes.row (h : Bytes w base e v n xs) {g : Nat} (hne : v.ownBlock ≠ some g) (cs : Array Value) : Bytes (w.setRow g cs) base e v n xs :=
  h.kept (row := some g) ⟨rfl, rfl, rfl, by rw [size_setRow]; exact Nat.le_refl _, fun k _ hk => setRow_other w g k cs (fun q => hk (by rw [q]))⟩ (.inr hne)
theorem Bytes.cell (h : Bytes w base e v n xs) (hn : 0 < n) : ∃ g cap, v = .slice (some ⟨g, 0, none⟩) n cap ∧ base ≤ g ∧ n ≤ cap ∧ cap ≤ maxLen ∧ ∀ j u, xs[j]? = some u → w.cell? ⟨g, j, none⟩ = some u := by
  have key : ∀ (cur : Array Value) (g : Nat) (fr : Nat × Nat), w.heap[g]? = some (.cells cur e fr) → cur.toList.take n = xs → ∀ j u, xs[j]? = some u → w.cell? ⟨g, j, none⟩ = some u := by
    intro cur g fr hg ht j u hu
    rw [cell_of_row w g j cur e fr hg]
    rw [← ht, List.getElem?_take] at hu
    split at hu
    · simpa using hu
    · cases hu
  rcases h with ⟨_, h | ⟨g, cap, cur, rfl, hb, hg, hnc, hcm, _, ht⟩⟩ | ⟨_, g, cap, cur, rfl, hb, hg, hnc, hcm, _, ht⟩
  · omega
  · rw [Nat.mul_one] at ht
    exact ⟨g, cap, rfl, hb, hnc, hcm, key cur g _ hg ht⟩
  · exact ⟨g, cap, rfl, hb, hnc, hcm, key cur g _ hg ht⟩
theorem Bytes.of_string (w : World) (e : TypeId) (s : ByteArray) (base : Nat) (hb : base ≤ w.heap.size) (hs : s.size ≤ maxLen) :
    Bytes (Lib.bytesWorld w e s) base e (.slice (some ⟨w.heap.size, 0, none⟩) s.size (grownCap w s.size 0 e)) s.size (s.data.toList.map fun b => Value.int .u8 b.toNat) := by
  refine .inr ⟨by simp, w.heap.size, _, Lib.bytesCells w e s, rfl, hb, Lib.bytesWorld_at_new w e s, grownCap_ge w _ _ _, grownCap_le_maxLen w _ _ _ hs, ?_, ?_⟩
  · have := grownCap_ge w s.size 0 e
    simp [Lib.bytesCells]
    omega
  · simp [Lib.bytesCells]
theorem grownBy_set (w : World) (g i : Nat) (u : Value) : w.grownBy (w.setCell ⟨g, i, none⟩ u) (some g) :=
  ⟨rfl, rfl, rfl, by simp [World.setCell], fun k _ hk => Below.heap_setCell _ _ _ _ (fun q => hk (by rw [q]))⟩
theorem blk_set_any {w : World} {g : Nat} {t : TypeId} {cs : Array Value} {fr : Nat × Nat} (h : w.heap[g]? = some (.cells cs t fr)) (i : Nat) (u : Value) : (w.setCell ⟨g, i, none⟩ u).heap[g]? = some (.cells (cs.setIfInBounds i u) t fr) := by
  simp [World.setCell, Array.getElem?_modify, h]
end
section
variable {P : Program}
theorem run_append_nil_new (w : World) (base : Nat) (t ty e : TypeId) (i : TypeInfo) (z : Value) (bytes : Nat) (ht : P.underlying t = some (.slice e)) (hi : P.info? e = some i) (hz : i.zero = some z)
    (hsize : i.size = 1) (hby : i.bytes = bytes) (hzs : z.cells.size = 1) (ad : Addr) (c : Nat) (u : Value) (hu : w.cell? ad = some u) (h1 : u.oneCell' = true) (h63 : 0 + 1 ≤ maxLen) (hbytes : (0 + 1) * bytes ≤ 140737488355328) (hbase : base ≤ w.heap.size) :
    ∃ v' w', (Builtin.append_ #[t, t] ty #[.slice none 0 0, .slice (some ad) 1 c]).run P w = .ok v' w' ∧ w'.ownsRow base e 1 v' 1 [u] ∧ ∃ b, v'.ownBlock = some b ∧ w.heap.size ≤ b := by
  obtain ⟨v', w', hrun, r1, r2, _⟩ := run_append_own (P := P) w w.heap.size t ty e i z 1 bytes ht hi hz hsize hby hzs (by decide) (.slice none 0 0) 0 [] (World.ownsRow_nil w _ e 1) ad 1 c [u] rfl (fun j u' hj => by
    cases j with
    | zero => simp at hj; subst hj; exact hu
    | succ j => simp at hj) (by intro x hx; simp at hx; subst hx; exact h1) h63 hbytes (Nat.le_refl _)
  refine ⟨v', w', hrun, by simpa using r1.mono hbase, ?_⟩
  rcases r1.2 with ⟨_, h0⟩ | ⟨g2, _, _, rfl, hb2, _⟩
  · omega
  · exact ⟨g2, rfl, hb2⟩
theorem run_append_bytes (w : World) (base : Nat) (t ty e : TypeId) (i : TypeInfo) (z : Value) (bytes : Nat) (ht : P.underlying t = some (.slice e)) (hi : P.info? e = some i) (hz : i.zero = some z)
    (hsize : i.size = 1) (hby : i.bytes = bytes) (hzs : z.cells.size = 1) {v : Value} {n : Nat} {xs : List Value} (h : Bytes w base e v n xs)
    (ad : Addr) (c : Nat) (u : Value) (hu : w.cell? ad = some u) (h1 : u.oneCell' = true) (h63 : n + 1 ≤ maxLen) (hbytes : (n + 1) * bytes ≤ 140737488355328) (hbase : base ≤ w.heap.size) :
    ∃ v' w', (Builtin.append_ #[t, t] ty #[v, .slice (some ad) 1 c]).run P w = .ok v' w' ∧ Bytes w' base e v' (n + 1) (xs ++ [u]) ∧ w.grownBy w' v.ownBlock ∧ (v'.ownBlock = v.ownBlock ∨ ∃ b, v'.ownBlock = some b ∧ w.heap.size ≤ b) ∧ Below base w w' := by
  have hnews : ∀ (j : Nat) (u' : Value), ([u] : List Value)[j]? = some u' → w.cell? (ad.add j) = some u' := by
    intro j u' hj
    cases j with
    | zero => simp at hj; subst hj; exact hu
    | succ j => simp at hj
  have h1' : ∀ x ∈ [u], x.oneCell' = true := by intro x hx; simp at hx; subst hx; exact h1
  have hnl : ([u] : List Value).length = 1 * 1 := rfl
  have hend : ∀ (v' : Value) (w' : World), w.grownBy w' v.ownBlock → Below base w w' := fun v' w' hg => (Below.refl base w).grown hg hbase (fun k hk => (h.lt k hk).1)
  rcases h with hown | ⟨hxl, g, cap, cur, rfl, hb, hg, hnc, hcm, hcs, htk⟩
  · obtain ⟨v', w', hrun, r1, r2, r3⟩ := run_append_own (P := P) w base t ty e i z 1 bytes ht hi hz hsize hby hzs (by decide) v n xs hown ad 1 c [u] hnl hnews h1' h63 hbytes hbase
    refine ⟨v', w', hrun, .inl r1, r2, ?_, hend v' w' r2⟩
    -- the row is the old one, or a new one
    rcases hown.2 with ⟨rfl, hn0⟩ | ⟨g, cap, cur, rfl, hb, hg, hnc, hcm, hcs, htk⟩
    · subst hn0
      obtain ⟨v2, w2, hr2, o2, g2⟩ := run_append_nil_new (P := P) w base t ty e i z bytes ht hi hz hsize hby hzs ad c u hu h1 h63 hbytes hbase
      rw [hr2] at hrun
      injection hrun with e1 e2
      subst e1
      exact .inr g2
    · by_cases hroom : n + 1 ≤ cap
      · have hr2 := run_append_room (P := P) w t ty e i ht hi g n cap cur hg ad 1 c [u] (by rw [hsize]; rfl) hnews h1' hroom (by rw [hsize]; simp [hcs]; omega)
        rw [hr2] at hrun
        injection hrun with e1 e2
        subst e1
        exact .inl rfl
      · obtain ⟨v2, w2, hr2, o2, _⟩ := run_append_arg_grows (P := P) w t ty e i z 1 bytes ht hi hz hsize hby hzs (by decide) ⟨g, 0, none⟩ n cap xs (by rw [hown.1]) (fun j u' hj => hown.cells (g := g) (by simp [Value.ownBlock]) j u' hj) ad 1 c [u] hnl hnews (by omega) h63 hbytes
        rw [hr2] at hrun
        injection hrun with e1 e2
        subst e1
        rcases o2.2 with ⟨_, h0⟩ | ⟨g2, _, _, rfl, hb2, _⟩
        · omega
        · exact .inr ⟨g2, rfl, hb2⟩
  · by_cases hroom : n + 1 ≤ cap
    · have hr2 := run_append_room_cells (P := P) w t ty e i ht hi g 0 n cap ad 1 c [u] (by rw [hsize]; rfl) hnews h1' hroom
        (fun j hj => by
          obtain rfl : j = 0 := by simpa using hj
          rw [hsize, cell_of_row w g _ cur e _ hg]
          simp
          omega)
        (fun j hj => by
          obtain rfl : j = 0 := by simpa using hj
          rw [hsize]
          simp [World.frozen?, hg]
          omega)
      have hsc : w.setCells g (0 + n * i.size) [u] = w.setCell ⟨g, n, none⟩ u := by
        rw [hsize, Nat.zero_add, Nat.mul_one]; rfl
      rw [hsc] at hr2
      refine ⟨_, _, hr2, .inr ⟨by rw [List.length_append, hxl]; rfl, g, cap, cur.setIfInBounds n u, rfl, hb, ?_, hroom, hcm, by simpa using hcs, ?_⟩, grownBy_set w g n u, .inl rfl, hend (.slice (some ⟨g, 0, none⟩) (n + 1) cap) _ (grownBy_set w g n u)⟩
      · have := blk_set_any hg n u
        rw [this, Array.size_setIfInBounds]
      · rw [Array.toList_setIfInBounds, List.take_add_one, List.take_set, htk, List.getElem?_set_self (by rw [Array.length_toList]; omega), List.set_eq_of_length_le (by omega)]
        rfl
    · obtain ⟨v2, w2, hr2, o2, g2⟩ := run_append_arg_grows (P := P) w t ty e i z 1 bytes ht hi hz hsize hby hzs (by decide) ⟨g, 0, none⟩ n cap xs (by rw [hxl, Nat.mul_one]) (fun j u' hj => by
          rw [show (⟨g, 0, none⟩ : Addr).add j = ⟨g, j, none⟩ by unfold Addr.add; split <;> simp_all, cell_of_row w g j cur e _ hg]
          rw [← htk, List.getElem?_take] at hj
          split at hj
          · simpa using hj
          · cases hj) ad 1 c [u] hnl hnews (by omega) h63 hbytes
      have g3 : w.grownBy w2 (Value.slice (some ⟨g, 0, none⟩) n cap).ownBlock := ⟨g2.os, g2.tape, g2.output, g2.size, fun k hk _ => g2.block k hk (by simp)⟩
      refine ⟨v2, w2, hr2, .inl (o2.mono hbase), g3, ?_, hend v2 w2 g3⟩
      rcases o2.2 with ⟨_, h0⟩ | ⟨g2, _, _, rfl, hb2, _⟩
      · omega
      · exact .inr ⟨g2, rfl, hb2⟩
theorem wpList_append_bytes (w : World) {ops : Array Oper} {rest : List Oper} {o : Oper} {a : Act} {Q : Exit → Act → World → Prop} (hgd : o.guard = none) (s x : Operand) (t : TypeId)
    (ho : o.op = .call { callee := .builtin .append, args := #[s, x], argTypes := #[t, t] }) (base : Nat) (e : TypeId) (z : Value) (bytes : Nat) (ht : P.underlying t = some (.slice e))
    (hinfo : (P.info? e).map (fun i => (i.zero, i.size, i.bytes)) = some (some z, 1, bytes)) (hzs : z.cells.size = 1) {v : Value} {n : Nat} {xs : List Value} (hs : a.eval s = v) (h : Bytes w base e v n xs)
    (ad : Addr) (c : Nat) (u : Value) (hx : a.eval x = .slice (some ad) 1 c) (hu : w.cell? ad = some u) (h1 : u.oneCell' = true) (h63 : n + 1 ≤ maxLen) (hbytes : (n + 1) * bytes ≤ 140737488355328) (hbase : base ≤ w.heap.size)
    (hK : ∀ v' w', Bytes w' base e v' (n + 1) (xs ++ [u]) → w.grownBy w' v.ownBlock → (v'.ownBlock = v.ownBlock ∨ ∃ b, v'.ownBlock = some b ∧ w.heap.size ≤ b) → Below base w w' → wpList P ops Q rest (a.put o.dst v') w') : wpList P ops Q (o :: rest) a w := by
  obtain ⟨i, hi, hzz⟩ := Option.map_eq_some_iff.1 hinfo
  simp only [Prod.mk.injEq] at hzz
  obtain ⟨hz0, hz1, hz2⟩ := hzz
  refine wpList_plain hgd fun K hK' => ?_
  obtain ⟨v', w', hrun, r1, r2, r3, r4⟩ := run_append_bytes (P := P) w base t o.type e i z bytes ht hi hz0 hz1 hz2 hzs h ad c u hu h1 h63 hbytes hbase
  unfold Oper.wp
  simp [execOp, ho, resolve, invoke, builtin, hs, hx, hrun, Result.andThen]
  exact hK' _ _ (hK v' w' r1 r2 r3 r4)
theorem still_load_row {ops : Array Oper} {w : World} {Q : Act → Prop} {o : Oper} {rest : List Oper} {a : Act} (hgd : o.guard = none) (ty : TypeId) (x : Operand) (ho : o.op = .load ty x)
    (g : Nat) (hx : a.eval x = .pointer (some ⟨g, 0, none⟩)) (t : TypeId) (cs : Array Value) (fr : Nat × Nat) (d : TypeDesc) (hg : w.heap[g]? = some (.cells cs t fr))
    (hu : P.underlying ty = some d) (hd : (match d with | .struct _ | .array _ _ => true | _ => false) = true) (hi : (P.info? ty).map (·.size) = some cs.size)
    (h : wpStill P ops w Q rest (a.put o.dst (.agg cs))) : wpStill P ops w Q (o :: rest) a := by
  refine wpStill_step fun K hK => ?_
  rw [if_pos (by simp [Region.wanted, hgd])]
  unfold Oper.still execOp
  simp only [ho, hx, Instr.loadAt, Instr.sureAddr, Sem.run_bind, Sem.run_pure, Result.andThen_ok, run_loadVar_row w g t ty cs fr d hg hu hd hi]
  exact ⟨rfl, hK _ h⟩
end
end Go.Proofs.Ytondnammkcgjpaa.Mem
namespace Go.Proofs.Ytondnammkcgjpaa.ShaP
open Go Go.RowKit Go.Proofs.YtondnammkcgjpaaW.PrintWords Go.Proofs.YtondnammkcgjpaaW.PrintLast Go.Proofs.YtondnammkcgjpaaW.PrintMore
open Go.Proofs.Ytondnammkcgjpaa.ShaM
theorem and31 : ∀ n : Fin 32, 1 ≤ n.val → bits .and .u64 (IntKind.u64.wrap (-(n.val : Int))) 31 = ((32 - n.val : Nat) : Int) := by decide
theorem rot_or (x n : Nat) (hx : x < 2 ^ 32) (h1 : 1 ≤ n) (hn : n ≤ 31) : (x * 2 ^ (32 - n)) % 2 ^ 32 ||| x / 2 ^ n = rot x n := by
  have e1 : (x * 2 ^ (32 - n)) % 2 ^ 32 = 2 ^ (32 - n) * (x % 2 ^ n) := by
    have : 2 ^ 32 = 2 ^ (32 - n) * 2 ^ n := by rw [← Nat.pow_add, Nat.sub_add_cancel (by omega)]
    rw [this, Nat.mul_comm x, Nat.mul_mod_mul_left]
  have e2 : x / 2 ^ n < 2 ^ (32 - n) := by
    rw [Nat.div_lt_iff_lt_mul (Nat.two_pow_pos n), ← Nat.pow_add, Nat.sub_add_cancel (by omega)]
    exact hx
  rw [e1, ← Nat.two_pow_add_eq_or_of_lt e2, ← e1]
  unfold rot
  have e3 : x * 2 ^ (32 - n) % 2 ^ 32 + x / 2 ^ n < 2 ^ 32 := by
    rw [e1, Nat.two_pow_add_eq_or_of_lt e2]
    refine Nat.or_lt_two_pow ?_ (Nat.lt_of_lt_of_le e2 (Nat.pow_le_pow_right (by decide) (by omega)))
    rw [← e1]
    exact Nat.mod_lt _ (by decide)
  rw [Nat.add_comm (x / 2 ^ n), Nat.add_mod (x * 2 ^ (32 - n)), Nat.mod_eq_of_lt (div_lt hx (2 ^ n)), Nat.mod_eq_of_lt e3]
theorem turn_val (x n : Nat) (hx : x < 2 ^ 32) (h1 : 1 ≤ n) (hn : n ≤ 31) : bits .or .u32 (((x * 2 ^ (32 - n)) % 2 ^ 32 : Nat) : Int) ((x / 2 ^ n : Nat) : Int) = ((rot x n : Nat) : Int) := by
  rw [or32 (Nat.mod_lt _ (by decide)) (div_lt hx _), rot_or x n hx h1 hn]
theorem ret_u {k : IntKind} {a b : Int} (h : a = b) : Ending.returned (.int k a) = .returned (.int k b) := by rw [h]
theorem rotl_c (x n : Nat) (hx : x < 2 ^ 32) (h1 : 1 ≤ n) (hn : n ≤ 31) (w : World) : Calls Try.prog 123 #[.int .u32 x, .int .i64 (-(n : Int))] w fun e w' => e = .returned (.int .u32 ((rot x n : Nat) : Int)) ∧ w' = w := by
  have ha := and31 ⟨n, by omega⟩ h1
  simp only at ha
  have hT : bits .or .u32 ((x : Int) * 2 ^ (32 - n) % 4294967296) ((x : Int) / 2 ^ n) = ((rot x n : Nat) : Int) := by
    have := turn_val x n hx h1 hn
    rw [Int.natCast_emod, Int.natCast_mul, Int.natCast_ediv] at this
    simpa using this
  obtain ⟨m, hm⟩ : ∃ m : Nat, m = 32 - n := ⟨_, rfl⟩
  rw [← hm] at ha hT
  have hb1 : (m : Int) ≤ 31 := by omega
  have hn2 : (32 : Int) - (m : Int) = ((n : Nat) : Int) := by omega
  have HT := Aside0.mk hT
  have hx2 : (x : Int) < 4294967296 := by omega
  have HM := Aside0.mk hm
  have hw : IntKind.u64.wrap (32 - (m : Int)) = (n : Int) := by rw [wrap64u]; omega
  clear hT hm
  go_enter Try.func123, Try.ntmps123
  go_wp2
  go_ret
  exact ⟨ret_u HT.out, rfl⟩
theorem turn_c (x n : Nat) (hx : x < 2 ^ 32) (h1 : 1 ≤ n) (hn : n ≤ 31) (w : World) : Calls Try.prog 113 #[.int .u32 x, .int .i64 (n : Int)] w fun e w' => e = .returned (.int .u32 ((rot x n : Nat) : Int)) ∧ w' = w := by
  have hn2 : (n : Int) ≤ 31 := by omega
  have HC := Lib.hid (rotl_c x n hx h1 hn)
  go_enter Try.func113, Try.ntmps113
  go_wp2_with (go_at_call 123; refine (HC.out _).mono ?_; rintro e w' ⟨rfl, rfl⟩)
  go_ret
  exact ⟨rfl, rfl⟩
theorem turn_i (x : Nat) (j : Int) (hx : x < 2 ^ 32) (h1 : 1 ≤ j) (hj : j ≤ 31) (w : World) : Calls Try.prog 113 #[.int .u32 x, .int .i64 j] w fun e w' => e = .returned (.int .u32 ((rot x j.toNat : Nat) : Int)) ∧ w' = w := by
  obtain ⟨n, rfl⟩ := Int.eq_ofNat_of_zero_le (show 0 ≤ j by omega)
  rw [Int.toNat_natCast]
  exact turn_c x n hx (by omega) (by omega) w
theorem ext_val (x0 x1 x2 x3 : Nat) (h2 : x2 < 2 ^ 32) (h3 : x3 < 2 ^ 32) :
    ((x0 : Int) + (x1 : Int) + bits .xor .u32 (bits .xor .u32 ((rot x2 7 : Nat) : Int) ((rot x2 18 : Nat) : Int)) ((x2 : Int) / 8) + bits .xor .u32 (bits .xor .u32 ((rot x3 17 : Nat) : Int) ((rot x3 19 : Nat) : Int)) ((x3 : Int) / 1024)) % 4294967296 = (((x0 + x1 + s0 x2 + s1 x3) % 2 ^ 32 : Nat) : Int) := by
  rw [show (x2 : Int) / 8 = ((x2 / 8 : Nat) : Int) by omega, show (x3 : Int) / 1024 = ((x3 / 1024 : Nat) : Int) by omega, xor32 (rot_lt _ _) (rot_lt _ _), xor32 (rot_lt _ _) (rot_lt _ _), xor32 (Nat.xor_lt_two_pow (rot_lt _ _) (rot_lt _ _)) (div_lt h2 _), xor32 (Nat.xor_lt_two_pow (rot_lt _ _) (rot_lt _ _)) (div_lt h3 _)]
  show ((x0 : Int) + x1 + ((s0 x2 : Nat) : Int) + ((s1 x3 : Nat) : Int)) % 4294967296 = _
  omega
def arrW (xs : List Nat) : Array Value := (xs.map fun n : Nat => Value.int .u32 (n : Int)).toArray
theorem arrW_size (xs : List Nat) : (arrW xs).size = xs.length := by simp [arrW]
theorem arrW_get (xs : List Nat) (i : Nat) (h : i < xs.length) : (arrW xs)[i]? = some (.int .u32 ((xs.getD i 0 : Nat) : Int)) := by
  unfold arrW
  rw [List.getElem?_toArray, List.getElem?_map, List.getElem?_eq_getElem h, List.getD_eq_getElem?_getD, List.getElem?_eq_getElem h]; rfl
theorem arrW_set (xs : List Nat) (i : Nat) (v : Nat) : (arrW xs).setIfInBounds i (.int .u32 (v : Int)) = arrW (xs.set i v) := by
  unfold arrW
  rw [List.setIfInBounds_toArray, List.map_set]
theorem arrW_one (xs : List Nat) : (arrW xs).all (·.oneCell') = true := by
  rw [Array.all_eq_true_iff_forall_mem]
  intro v hv
  unfold arrW at hv
  obtain ⟨n, _, rfl⟩ := List.mem_map.1 (by simpa using hv)
  rfl
def bsN (s : ByteArray) : List Nat := s.data.toList.map fun b => b.toNat
theorem bsN_len (s : ByteArray) : (bsN s).length = s.size := by simp [bsN]
theorem bsN_lt (s : ByteArray) (j : Nat) : (bsN s).getD j 0 < 256 := by
  unfold bsN
  rw [List.getD_eq_getElem?_getD, List.getElem?_map]
  cases s.data.toList[j]? with
  | none => decide
  | some b => exact b.toNat_lt
theorem or_step (x b k : Nat) (hx : 2 ^ k * x < 2 ^ 32) (hb : b < 2 ^ k) (hk : k ≤ 32) : bits .or .u32 ((2 ^ k * x : Nat) : Int) (b : Int) = ((2 ^ k * x + b : Nat) : Int) := by
  rw [or32 hx (Nat.lt_of_lt_of_le hb (Nat.pow_le_pow_right (by decide) hk)), ← Nat.two_pow_add_eq_or_of_lt hb]
theorem word_or (b0 b1 b2 b3 : Nat) (h0 : b0 < 256) (h1 : b1 < 256) (h2 : b2 < 256) (h3 : b3 < 256) :
    bits .or .u32 (bits .or .u32 (bits .or .u32 ((b0 : Int) * 16777216) ((b1 : Int) * 65536)) ((b2 : Int) * 256)) (b3 : Int) = ((((b0 * 256 + b1) * 256 + b2) * 256 + b3 : Nat) : Int) := by
  have e1 := or_step b0 (b1 * 65536) 24 (by omega) (by omega) (by decide)
  have e2 := or_step (b0 * 256 + b1) (b2 * 256) 16 (by omega) (by omega) (by decide)
  have e3 := or_step ((b0 * 256 + b1) * 256 + b2) b3 8 (by omega) (by omega) (by decide)
  rw [show (b0 : Int) * 16777216 = ((2 ^ 24 * b0 : Nat) : Int) by omega, show (b1 : Int) * 65536 = ((b1 * 65536 : Nat) : Int) by omega, e1, show (2 ^ 24 * b0 + b1 * 65536 : Nat) = 2 ^ 16 * (b0 * 256 + b1) by omega,
    show (b2 : Int) * 256 = ((b2 * 256 : Nat) : Int) by omega, e2, show (2 ^ 16 * (b0 * 256 + b1) + b2 * 256 : Nat) = 2 ^ 8 * ((b0 * 256 + b1) * 256 + b2) by omega, e3]
  omega
theorem bt_nat (s : ByteArray) (j : Nat) : bt s (j : Int) = (((bsN s).getD j 0 : Nat) : Int) := by
  unfold bt bsN
  rw [Int.toNat_natCast, List.getD_eq_getElem?_getD, List.getElem?_map]
  by_cases h : j < s.size
  · rw [dif_pos h, List.getElem?_eq_getElem (by simpa using h)]
    rfl
  · rw [dif_neg h, List.getElem?_eq_none (by simpa using h)]
    rfl
theorem byte_at (s : ByteArray) (j : Int) (n b : Nat) (hj : j = (n : Int)) (hb : (bsN s).getD n 0 = b) : ∀ h : j.toNat < s.size, ((s[j.toNat]'h).toNat : Int) = (b : Int) := by
  intro h
  subst hj
  rw [bt_at, bt_nat, hb]
theorem schedule_c (s : ByteArray) (hs : s.size = 64) (w : World) :
    Calls Try.prog 112 #[.string s] w fun e w' => e = .returned (.agg (arrW (schN (bsN s) 64))) ∧ Below w.heap.size w w' := by
  have OW := Aside0.mk (Mem.Own.nil w)
  have HS := Aside0.mk hs
  clear hs
  go_enter Try.func112, Try.ntmps112
  go_wp2_with (first
    | ((with_reducible refine gate_dst (N := 2) rfl ?_); refine box_event ?hg (N := 2) ?hd (cs := arrW (schN (bsN s) 0)) (t := 28) ?hr ?_; (case hd => rfl); (case hg => rfl); (case hr => first | (go_simp; done) | (go_simp; rfl)); intro gR hg W_ hb hbb; have n_ : Aside0 (Mem.Own w W_ [(gR, arrW (schN (bsN s) 0), 28)]) := ⟨OW.out.new hg hb hbb⟩; clear OW hb hbb hg; have OW := n_; clear n_)
    | ((with_reducible refine gate_dst (N := 3) rfl ?_); refine box_event ?hg (N := 3) ?hd (cs := arrW (schN (bsN s) 0)) (t := 28) ?hr ?_; (case hd => rfl); (case hg => rfl); (case hr => first | (go_simp; done) | (go_simp; rfl)); intro gW hg W_ hb hbb; have n_ : Aside0 (Mem.Own w W_ [(gR, arrW (schN (bsN s) 0), 28), (gW, arrW (schN (bsN s) 0), 28)]) := ⟨OW.out.new hg hb hbb⟩; clear OW hb hbb hg; have OW := n_; clear n_))
  go_loopw [8] (fun v8 wr => ∃ i : Nat, v8 = .int .i64 i ∧ i ≤ 16 ∧ Aside0 (Mem.Own w (wr) [(gR, arrW (schN (bsN s) 0), 28), (gW, arrW (schN (bsN s) i), 28)])) (fun v _ => 16 - (intOf v).toNat)
  case atStart => exact ⟨0, rfl, Nat.zero_le _, OW⟩
  case round =>
    clear OW
    obtain ⟨i, rfl, hi, OW⟩ := hrel
    by_cases hlt : i < 16
    · have hsz := HS.out
      obtain ⟨b0, hb0⟩ : ∃ b, (bsN s).getD (4 * i + 0) 0 = b := ⟨_, rfl⟩
      have l0 : b0 < 256 := hb0 ▸ bsN_lt s _
      obtain ⟨b1, hb1⟩ : ∃ b, (bsN s).getD (4 * i + 1) 0 = b := ⟨_, rfl⟩
      have l1 : b1 < 256 := hb1 ▸ bsN_lt s _
      obtain ⟨b2, hb2⟩ : ∃ b, (bsN s).getD (4 * i + 2) 0 = b := ⟨_, rfl⟩
      have l2 : b2 < 256 := hb2 ▸ bsN_lt s _
      obtain ⟨b3, hb3⟩ : ∃ b, (bsN s).getD (4 * i + 3) 0 = b := ⟨_, rfl⟩
      have l3 : b3 < 256 := hb3 ▸ bsN_lt s _
      have p0 : 0 ≤ 4 * (i : Int) := by omega
      have q0 : 4 * (i : Int) < (s.size : Int) := by omega
      have x0 := byte_at s (4 * (i : Int)) (4 * i + 0) b0 (by omega) hb0
      have p1 : 0 ≤ 4 * (i : Int) + 1 := by omega
      have q1 : 4 * (i : Int) + 1 < (s.size : Int) := by omega
      have x1 := byte_at s (4 * (i : Int) + 1) (4 * i + 1) b1 (by omega) hb1
      have p2 : 0 ≤ 4 * (i : Int) + 2 := by omega
      have q2 : 4 * (i : Int) + 2 < (s.size : Int) := by omega
      have x2 := byte_at s (4 * (i : Int) + 2) (4 * i + 2) b2 (by omega) hb2
      have p3 : 0 ≤ 4 * (i : Int) + 3 := by omega
      have q3 : 4 * (i : Int) + 3 < (s.size : Int) := by omega
      have x3 := byte_at s (4 * (i : Int) + 3) (4 * i + 3) b3 (by omega) hb3
      have w1 : IntKind.i64.wrap (4 * (i : Int) + 1) = 4 * (i : Int) + 1 := IntWalk.i64_in _ (by omega)
      have w2 : IntKind.i64.wrap (4 * (i : Int) + 2) = 4 * (i : Int) + 2 := IntWalk.i64_in _ (by omega)
      have w3 : IntKind.i64.wrap (4 * (i : Int) + 3) = 4 * (i : Int) + 3 := IntWalk.i64_in _ (by omega)
      have w0 : IntKind.i64.wrap (4 * (i : Int)) = 4 * (i : Int) := IntWalk.i64_in _ (by omega)
      have i16 : (i : Int) < 64 := by omega
      have HW := Aside0.mk (show schN (bsN s) (i + 1) = (schN (bsN s) i).set i (((b0 * 256 + b1) * 256 + b2) * 256 + b3) from by rw [schN, if_pos hlt, wordN, hb1, hb2, hb3, ← hb0]; rfl)
      have HV := Aside0.mk (word_or b0 b1 b2 b3 l0 l1 l2 l3)
      clear hb0 hb1 hb2 hb3 hsz
      go_wp2_with fail
      refine Mem.region_still_tail 31 (by kernel_rfl) (by kernel_rfl) ?_
      intro W2 hW2
      have O2 : Aside0 (Mem.Own w (W2) [(gR, arrW (schN (bsN s) 0), 28), (gW, arrW (schN (bsN s) i), 28)]) := ⟨by rw [← hW2]; exact OW.out.drew⟩
      clear hW2 OW
      have f0 := O2.out.frozen 1 rfl i
      have cs0 := (O2.out.cell 1 rfl i).trans (arrW_get _ i (by rw [schN_len]; omega))
      simp only [List.take_succ_cons, List.take_zero, List.drop_succ_cons, List.drop_zero]
      repeat still_step
      try refine wpStill_nil ?_
      go_wp2_with fail
      clear w0 w1 w2 w3
      exact ⟨⟨i + 1, by go_num, by omega, ⟨O2.out.put 1 rfl i _ (by rw [HV.out, arrW_set, HW.out])⟩⟩, by simp [intOf]; omega⟩
    · obtain rfl : i = 16 := by omega
      go_wp2_with fail
      rw [show ((16 : Nat) : Int) = (16 : Int) from rfl]
      go_loopw [5] (fun v5 wr => ∃ i : Nat, v5 = .int .i64 i ∧ 16 ≤ i ∧ i ≤ 64 ∧ Aside0 (Mem.Own w (wr) [(gR, arrW (schN (bsN s) 0), 28), (gW, arrW (schN (bsN s) i), 28)])) (fun v _ => 64 - (intOf v).toNat)
      case atStart => exact ⟨16, rfl, Nat.le_refl _, by decide, OW⟩
      case round =>
        clear OW hi hlt
        obtain ⟨i, rfl, h16, hi, OW⟩ := hrel
        have hl := schN_len (bsN s) i
        by_cases hlt : i < 64
        · have HW := Aside0.mk (show schN (bsN s) (i + 1) = (schN (bsN s) i).set i (((schN (bsN s) i).getD (i - 16) 0 + (schN (bsN s) i).getD (i - 7) 0 + s0 ((schN (bsN s) i).getD (i - 15) 0) + s1 ((schN (bsN s) i).getD (i - 2) 0)) % 2 ^ 32) from by rw [schN, if_neg (by omega)])
          have hsm := schN_small (bsN s) (bsN_lt s) i
          have y0 := hsm (i - 16)
          have y1 := hsm (i - 7)
          have y2 := hsm (i - 15)
          have y3 := hsm (i - 2)
          have C0 := Aside0.mk (arrW_get (schN (bsN s) i) (i - 16) (by omega))
          have C1 := Aside0.mk (arrW_get (schN (bsN s) i) (i - 7) (by omega))
          have C2 := Aside0.mk (arrW_get (schN (bsN s) i) (i - 15) (by omega))
          have C3 := Aside0.mk (arrW_get (schN (bsN s) i) (i - 2) (by omega))
          have CS := Aside0.mk (arrW_get (schN (bsN s) i) i (by omega))
          obtain ⟨x0, e0⟩ : ∃ x, (schN (bsN s) i).getD (i - 16) 0 = x := ⟨_, rfl⟩
          rw [e0] at y0 C0 HW
          clear e0
          obtain ⟨x1, e1⟩ : ∃ x, (schN (bsN s) i).getD (i - 7) 0 = x := ⟨_, rfl⟩
          rw [e1] at y1 C1 HW
          clear e1
          obtain ⟨x2, e2⟩ : ∃ x, (schN (bsN s) i).getD (i - 15) 0 = x := ⟨_, rfl⟩
          rw [e2] at y2 C2 HW
          clear e2
          obtain ⟨x3, e3⟩ : ∃ x, (schN (bsN s) i).getD (i - 2) 0 = x := ⟨_, rfl⟩
          rw [e3] at y3 C3 HW
          clear e3
          have c2 : wr.cell? ⟨gW, i - 15, none⟩ = some (.int .u32 (x2 : Int)) := (OW.out.cell 1 rfl _).trans C2.out
          have c3 : wr.cell? ⟨gW, i - 2, none⟩ = some (.int .u32 (x3 : Int)) := (OW.out.cell 1 rfl _).trans C3.out
          have t15 : ((i : Int) - 15).toNat = i - 15 := by omega
          have t2 : ((i : Int) - 2).toNat = i - 2 := by omega
          have l15 : (i : Int) - 15 < 64 := by omega
          have l2 : (i : Int) - 2 < 64 := by omega
          have g15 : 0 ≤ (i : Int) - 15 := by omega
          have g2 : 0 ≤ (i : Int) - 2 := by omega
          clear hsm
          go_wp2_with fail
          go_quiet (fail)
          have t16 : ((i : Int) - 16).toNat = i - 16 := by omega
          have t7 : ((i : Int) - 7).toNat = i - 7 := by omega
          have l16 : (i : Int) - 16 < 64 := by omega
          have l7 : (i : Int) - 7 < 64 := by omega
          have g16 : 0 ≤ (i : Int) - 16 := by omega
          have g7 : 0 ≤ (i : Int) - 7 := by omega
          have w16 : IntKind.i64.wrap ((i : Int) - 16) = (i : Int) - 16 := IntWalk.i64_in _ (by omega)
          have w7 : IntKind.i64.wrap ((i : Int) - 7) = (i : Int) - 7 := IntWalk.i64_in _ (by omega)
          have e7 : (7 : Int) ≤ (i : Int) := by omega
          have e16 : (16 : Int) ≤ (i : Int) := by omega
          clear c2 c3
          go_wp2_with fail
          refine Mem.region_still_tail 29 (by kernel_rfl) (by kernel_rfl) ?_
          intro W2 hW2
          have O2 : Aside0 (Mem.Own w (W2) [(gR, arrW (schN (bsN s) 0), 28), (gW, arrW (schN (bsN s) i), 28)]) := ⟨by rw [← hW2]; exact (OW.out.drewN nq).drew⟩
          clear hW2 OW
          have c0 : W2.cell? ⟨gW, i - 16, none⟩ = some (.int .u32 (x0 : Int)) := (O2.out.cell 1 rfl _).trans C0.out
          have c1 : W2.cell? ⟨gW, i - 7, none⟩ = some (.int .u32 (x1 : Int)) := (O2.out.cell 1 rfl _).trans C1.out
          have f0 := O2.out.frozen 1 rfl i
          have cs0 := (O2.out.cell 1 rfl i).trans CS.out
          simp only [List.take_succ_cons, List.take_zero, List.drop_succ_cons, List.drop_zero]
          repeat (first | still_step | still_call (turn_i _ _ (by assumption) (by decide) (by decide) _))
          try refine wpStill_nil ?_
          clear t16 t7 l16 l7 g16 g7 w16 w7 e7 e16 t15 t2 l15 l2 g15 g2 c0 c1
          go_wp2_with fail
          exact ⟨⟨i + 1, by go_num, by omega, by omega, ⟨O2.out.put 1 rfl i _ (by rw [ext_val x0 x1 x2 x3 y2 y3, arrW_set, HW.out])⟩⟩, by simp [intOf]; omega⟩
        · obtain rfl : i = 64 := by omega
          have hsz : (arrW (schN (bsN s) 64)).size = 64 := (arrW_size _).trans hl
          go_wp2_with (first
            | ((with_reducible refine gate_dst (N := 84) rfl ?_); refine wpList_load_row rfl 28 (.tmp 3) rfl gW rfl 28 (arrW (schN (bsN s) 64)) (0, 0) _ (OW.out.blk 1 rfl) Try.underlying28 rfl (by rw [hsz]; kernel_rfl) ?_)
            | ((with_reducible refine gate_store (t := 28) (p := 2) rfl ?_); refine wpList_store_row rfl 28 (.tmp 2) (.tmp 84) rfl gR (arrW (schN (bsN s) 64)) rfl rfl 28 _ (OW.out.blk 0 rfl) (by rw [hsz]; kernel_rfl) (by rw [hsz]; rfl) (arrW_one _) ?_; have n_ : Aside0 (Mem.Own w (_) [(gR, arrW (schN (bsN s) 64), 28), (gW, arrW (schN (bsN s) 64), 28)]) := ⟨OW.out.row 0 rfl (arrW (schN (bsN s) 64))⟩; clear OW; have OW := n_; clear n_))
          refine bodyPost_ret (results_cell_row (p := 2) (ty := 28) rfl _ _ gR 28 _ _ _ rfl (OW.out.blk 0 rfl) Try.underlying28 rfl (by rw [hsz]; kernel_rfl)) rfl ⟨rfl, OW.out.below⟩
theorem not32 (e : Nat) (he : e < 2 ^ 32) : 4294967295 ^^^ e = 4294967295 - e := by
  refine Nat.eq_of_testBit_eq fun i => ?_
  rw [Nat.testBit_xor, show 4294967295 - e = 2 ^ 32 - (e + 1) by omega, Nat.testBit_two_pow_sub_succ he, show 4294967295 = 2 ^ 32 - 1 from rfl, Nat.testBit_two_pow_sub_one]
  by_cases hi : i < 32
  · simp [hi]
  · have : e.testBit i = false := Nat.testBit_lt_two_pow (Nat.lt_of_lt_of_le he (Nat.pow_le_pow_right (by decide) (by omega)))
    simp [hi, this]
theorem not_val (e : Nat) (he : e < 2 ^ 32) : bits .xor .u32 4294967295 (e : Int) = ((4294967295 - e : Nat) : Int) := by
  rw [show (4294967295 : Int) = ((4294967295 : Nat) : Int) from rfl, xor32 (by decide) he, not32 e he]
theorem run_index_array {P : Program} (w : World) (t e : TypeId) (n : Nat) (cs : Array Value) (k : IntKind) (i : Int) (v : Value) (h : P.underlying t = some (.array n e)) (h0 : 0 ≤ i) (hn : i < n) (hv : cs[i.toNat]? = some v) (hs : (P.info? e).map (·.size) = some 1) {q : IntKind} (hu : P.underlying e = some (.int q)) :
    (Instr.index t (.agg cs) (.int k i)).run P w = .ok v w := by
  have : 0 ≤ i ∧ i < (n : Int) := ⟨h0, hn⟩
  obtain ⟨j, hj, h1⟩ := Option.map_eq_some_iff.1 hs
  have hz : (sizeOf e).run P w = .ok 1 w := by simp [sizeOf, run_typeInfo w hj, h1]
  have hg : (isAgg e).run P w = .ok false w := by simp [isAgg, run_underlying hu]
  simp [Instr.index, run_underlying h, asIntOf, this, go_sem, hz, hg, hv]
theorem t1_val (a4 a5 a6 a7 k w : Nat) (h4 : a4 < 2 ^ 32) (h5 : a5 < 2 ^ 32) (h6 : a6 < 2 ^ 32) :
    (((a7 : Int) + bits .xor .u32 (bits .xor .u32 ((rot a4 6 : Nat) : Int) ((rot a4 11 : Nat) : Int)) ((rot a4 25 : Nat) : Int) + bits .xor .u32 (bits .and .u32 a4 a5) (bits .and .u32 (bits .xor .u32 IntKind.u32.max a4) a6) + k) % 4294967296 + w) % 4294967296 = ((t1N a4 a5 a6 a7 k w % 2 ^ 32 : Nat) : Int) := by
  rw [show IntKind.u32.max = 4294967295 from rfl, not_val a4 h4, and32 h4 h5, and32 (by omega) h6, xor32 (Nat.and_lt_two_pow _ h5) (Nat.and_lt_two_pow _ h6), xor32 (rot_lt _ _) (rot_lt _ _), xor32 (Nat.xor_lt_two_pow (rot_lt _ _) (rot_lt _ _)) (rot_lt _ _)]
  show (((a7 : Int) + ((S1 a4 : Nat) : Int) + ((ch a4 a5 a6 : Nat) : Int) + k) % 4294967296 + w) % 4294967296 = _
  unfold t1N
  omega
theorem t2_val (a0 a1 a2 : Nat) (h0 : a0 < 2 ^ 32) (h1 : a1 < 2 ^ 32) (h2 : a2 < 2 ^ 32) :
    (bits .xor .u32 (bits .xor .u32 ((rot a0 2 : Nat) : Int) ((rot a0 13 : Nat) : Int)) ((rot a0 22 : Nat) : Int) + bits .xor .u32 (bits .xor .u32 (bits .and .u32 a0 a1) (bits .and .u32 a0 a2)) (bits .and .u32 a1 a2)) % 4294967296 = ((t2N a0 a1 a2 % 2 ^ 32 : Nat) : Int) := by
  rw [and32 h0 h1, and32 h0 h2, and32 h1 h2, xor32 (Nat.and_lt_two_pow _ h1) (Nat.and_lt_two_pow _ h2), xor32 (Nat.xor_lt_two_pow (Nat.and_lt_two_pow _ h1) (Nat.and_lt_two_pow _ h2)) (Nat.and_lt_two_pow _ h2), xor32 (rot_lt _ _) (rot_lt _ _), xor32 (Nat.xor_lt_two_pow (rot_lt _ _) (rot_lt _ _)) (rot_lt _ _)]
  show (((S0 a0 : Nat) : Int) + ((maj a0 a1 a2 : Nat) : Int)) % 4294967296 = _
  unfold t2N
  omega
theorem rnd_val (v : List Nat) (a0 a1 a2 a3 a4 a5 a6 a7 k w x y : Nat) (h0 : v.getD 0 0 = a0) (h1 : v.getD 1 0 = a1) (h2 : v.getD 2 0 = a2) (h3 : v.getD 3 0 = a3) (h4 : v.getD 4 0 = a4) (h5 : v.getD 5 0 = a5) (h6 : v.getD 6 0 = a6) (h7 : v.getD 7 0 = a7) (hx : t1N a4 a5 a6 a7 k w % 2 ^ 32 = x) (hy : t2N a0 a1 a2 % 2 ^ 32 = y) :
    #[Value.int .u32 (((x : Int) + y) % 4294967296), .int .u32 a0, .int .u32 a1, .int .u32 a2, .int .u32 (((a3 : Int) + x) % 4294967296), .int .u32 a4, .int .u32 a5, .int .u32 a6] = arrW (rndN v k w) := by
  unfold rndN arrW
  simp only [h0, h1, h2, h3, h4, h5, h6, h7, List.map_cons, List.map_nil]
  have e1 : ((x : Int) + y) % 4294967296 = (((t1N a4 a5 a6 a7 k w + t2N a0 a1 a2) % 2 ^ 32 : Nat) : Int) := by omega
  have e2 : ((a3 : Int) + x) % 4294967296 = (((a3 + t1N a4 a5 a6 a7 k w) % 2 ^ 32 : Nat) : Int) := by omega
  rw [e1, e2]
theorem set8 (v : List Nat) (h : v.length = 8) (b0 b1 b2 b3 b4 b5 b6 b7 : Value) : ((((((((arrW v).setIfInBounds 0 b0).setIfInBounds 1 b1).setIfInBounds 2 b2).setIfInBounds 3 b3).setIfInBounds 4 b4).setIfInBounds 5 b5).setIfInBounds 6 b6).setIfInBounds 7 b7 = #[b0, b1, b2, b3, b4, b5, b6, b7] := by
  match v, h with
  | [_, _, _, _, _, _, _, _], _ => simp only [arrW, List.map_cons, List.map_nil, List.setIfInBounds_toArray, List.set_cons_zero, List.set_cons_succ]
def z8 : List Nat := List.replicate 8 0
theorem step_c (K hx : List Nat) (s : ByteArray) (g : Nat) (hK : K.length = 64) (hh : hx.length = 8) (sK : Small K) (sh : Small hx) (hs : s.size = 64) (w : World) (hT : ∀ i, i < 64 → w.cell? ⟨g, i, none⟩ = some (.int .u32 ((K.getD i 0 : Nat) : Int))) :
    Calls Try.prog 105 #[.pointer (some ⟨g, 0, none⟩), .agg (arrW hx), .string s] w fun e w' => e = .returned (.agg (arrW (blockN K hx (bsN s)))) ∧ Below w.heap.size w w' := by
  have OW := Aside0.mk (Mem.Own.nil w)
  have HS := Aside0.mk hs
  have HT := Aside0.mk hT
  have zh : (arrW hx).size = 8 := (arrW_size hx).trans hh
  have HC := fun w => schedule_c s hs w
  have lW := schN_len (bsN s) 64
  have sW := schN_small (bsN s) (bsN_lt s) 64
  obtain ⟨W, hW⟩ : ∃ W, schN (bsN s) 64 = W := ⟨_, rfl⟩
  rw [hW] at lW sW HC
  have HW := Aside0.mk hW
  clear hs hT hW
  have HC := Aside0.mk HC
  go_enter Try.func105, Try.ntmps105
  go_wp2_with (first
    | ((with_reducible refine gate_dst (N := 4) rfl ?_); refine box_event ?hg (N := 4) ?hd (cs := arrW hx) (t := 29) ?hr ?_; (case hd => rfl); (case hg => rfl); (case hr => first | (go_simp; done) | (go_simp; rfl)); intro gH hg W_ hb hbb; have n_ : Aside0 (Mem.Own w W_ [(gH, arrW hx, 29)]) := ⟨OW.out.new hg hb hbb⟩; clear OW hb hbb hg; have OW := n_; clear n_)
    | ((with_reducible refine gate_dst (N := 6) rfl ?_); refine box_event ?hg (N := 6) ?hd (cs := arrW z8) (t := 29) ?hr ?_; (case hd => rfl); (case hg => rfl); (case hr => first | (go_simp; done) | (go_simp; rfl)); intro gR hg W_ hb hbb; have n_ : Aside0 (Mem.Own w W_ [(gH, arrW hx, 29), (gR, arrW z8, 29)]) := ⟨OW.out.new hg hb hbb⟩; clear OW hb hbb hg; have OW := n_; clear n_)
    | ((with_reducible refine gate_dst (N := 15) rfl ?_); refine wpList_load_row rfl 29 (.tmp 4) rfl gH rfl 29 (arrW hx) (0, 0) _ (OW.out.blk 0 rfl) Try.underlying29 rfl (by rw [zh]; kernel_rfl) ?_)
    | ((with_reducible refine gate_dst (N := 7) rfl ?_); refine box_event ?hg (N := 7) ?hd (cs := arrW z8) (t := 29) ?hr ?_; (case hd => rfl); (case hg => rfl); (case hr => first | (go_simp; done) | (go_simp; rfl)); intro gS hg W_ hb hbb; have n_ : Aside0 (Mem.Own w W_ [(gH, arrW hx, 29), (gR, arrW z8, 29), (gS, arrW z8, 29)]) := ⟨OW.out.new hg hb hbb⟩; clear OW hb hbb hg; have OW := n_; clear n_)
    | ((with_reducible refine gate_store (t := 29) (p := 7) rfl ?_); refine wpList_store_row rfl 29 (.tmp 7) (.tmp 15) rfl gS (arrW hx) rfl rfl 29 _ (OW.out.blk 2 rfl) (by rw [zh]; kernel_rfl) (by rw [zh]; rfl) (arrW_one _) ?_; have n_ : Aside0 (Mem.Own w (_) [(gH, arrW hx, 29), (gR, arrW z8, 29), (gS, arrW hx, 29)]) := ⟨OW.out.row 2 rfl (arrW hx)⟩; clear OW; have OW := n_; clear n_)
    | (go_at_call 112; refine (HC.out _).mono ?_; rintro e w_ ⟨rfl, hB_⟩; have n_ : Aside0 (Mem.Own w (w_) [(gH, arrW hx, 29), (gR, arrW z8, 29), (gS, arrW hx, 29)]) := ⟨OW.out.step hB_⟩; clear OW hB_; have OW := n_; clear n_))
  go_loopw [18] (fun v18 wr => ∃ i : Nat, v18 = .int .i64 i ∧ i ≤ 64 ∧ Aside0 (Mem.Own w (wr) [(gH, arrW hx, 29), (gR, arrW z8, 29), (gS, arrW (rndsN K W hx i), 29)])) (fun v _ => 64 - (intOf v).toNat)
  case atStart => exact ⟨0, rfl, Nat.zero_le _, OW⟩
  case round =>
    clear OW
    obtain ⟨i, rfl, hi, OW⟩ := hrel
    have hl := rndsN_len K W hx hh i
    have hsm := rndsN_small K W hx sh i
    by_cases hlt : i < 64
    · have HR := Aside0.mk (show rndsN K W hx (i + 1) = rndN (rndsN K W hx i) (K.getD i 0) (W.getD i 0) from rfl)
      obtain ⟨v, hv⟩ : ∃ v, rndsN K W hx i = v := ⟨_, rfl⟩
      rw [hv] at OW hl HR hsm
      clear hv
      obtain ⟨a0, ha0⟩ : ∃ x, v.getD 0 0 = x := ⟨_, rfl⟩
      have C0 := Aside0.mk (arrW_get v 0 (by omega))
      rw [ha0] at C0
      obtain ⟨a1, ha1⟩ : ∃ x, v.getD 1 0 = x := ⟨_, rfl⟩
      have C1 := Aside0.mk (arrW_get v 1 (by omega))
      rw [ha1] at C1
      obtain ⟨a2, ha2⟩ : ∃ x, v.getD 2 0 = x := ⟨_, rfl⟩
      have C2 := Aside0.mk (arrW_get v 2 (by omega))
      rw [ha2] at C2
      obtain ⟨a3, ha3⟩ : ∃ x, v.getD 3 0 = x := ⟨_, rfl⟩
      have C3 := Aside0.mk (arrW_get v 3 (by omega))
      rw [ha3] at C3
      obtain ⟨a4, ha4⟩ : ∃ x, v.getD 4 0 = x := ⟨_, rfl⟩
      have C4 := Aside0.mk (arrW_get v 4 (by omega))
      rw [ha4] at C4
      obtain ⟨a5, ha5⟩ : ∃ x, v.getD 5 0 = x := ⟨_, rfl⟩
      have C5 := Aside0.mk (arrW_get v 5 (by omega))
      rw [ha5] at C5
      obtain ⟨a6, ha6⟩ : ∃ x, v.getD 6 0 = x := ⟨_, rfl⟩
      have C6 := Aside0.mk (arrW_get v 6 (by omega))
      rw [ha6] at C6
      obtain ⟨a7, ha7⟩ : ∃ x, v.getD 7 0 = x := ⟨_, rfl⟩
      have C7 := Aside0.mk (arrW_get v 7 (by omega))
      rw [ha7] at C7
      obtain ⟨xk, hxk⟩ : ∃ x, K.getD i 0 = x := ⟨_, rfl⟩
      obtain ⟨xw, hxw⟩ : ∃ x, W.getD i 0 = x := ⟨_, rfl⟩
      have CK : Aside0 (w.cell? ⟨g, i, none⟩ = some (.int .u32 (xk : Int))) := ⟨by have h1 := HT.out i hlt; rw [hxk] at h1; exact h1⟩
      have EW : (arrW W)[((i : Nat) : Int).toNat]? = some (.int .u32 (xw : Int)) := by rw [Int.toNat_natCast, arrW_get W i (by omega), hxw]
      have RI := fun w => run_index_array (P := Try.prog) w 28 27 64 (arrW W) .i64 i _ Try.underlying28 (by omega) (by omega) EW (by kernel_rfl) Try.underlying27
      have HX := Aside0.mk (And.intro hxk hxw)
      have T1 := Aside0.mk (t1_val a4 a5 a6 a7 xk xw (ha4 ▸ hsm 4) (ha5 ▸ hsm 5) (ha6 ▸ hsm 6))
      have T2 := Aside0.mk (t2_val a0 a1 a2 (ha0 ▸ hsm 0) (ha1 ▸ hsm 1) (ha2 ▸ hsm 2))
      have RV := Aside0.mk (fun x y => rnd_val v a0 a1 a2 a3 a4 a5 a6 a7 xk xw x y ha0 ha1 ha2 ha3 ha4 ha5 ha6 ha7)
      have l0 : a0 < 2 ^ 32 := ha0 ▸ hsm 0
      have l4 : a4 < 2 ^ 32 := ha4 ▸ hsm 4
      have i64 : (i : Int) < 64 := by omega
      clear ha0 ha1 ha2 ha3 ha4 ha5 ha6 ha7 hxk hxw hsm EW
      go_wp2_with fail
      clear RI
      have c0 : wr.cell? ⟨gS, 0, none⟩ = some (.int .u32 (a0 : Int)) := (OW.out.cell 2 rfl 0).trans C0.out
      have c4 : wr.cell? ⟨gS, 4, none⟩ = some (.int .u32 (a4 : Int)) := (OW.out.cell 2 rfl 4).trans C4.out
      go_quiet (fail)
      have n_ : Aside0 (Mem.Own w (wr.drewN nq) [(gH, arrW hx, 29), (gR, arrW z8, 29), (gS, arrW v, 29)]) := ⟨OW.out.drewN nq⟩
      clear OW
      have OW := n_
      clear n_
      generalize wr.drewN nq = W5 at OW ⊢
      clear c0 c4
      go_wp2_with fail
      have c5 : W5.cell? ⟨gS, 5, none⟩ = some (.int .u32 (a5 : Int)) := (OW.out.cell 2 rfl 5).trans C5.out
      have c6 : W5.cell? ⟨gS, 6, none⟩ = some (.int .u32 (a6 : Int)) := (OW.out.cell 2 rfl 6).trans C6.out
      have c7 : W5.cell? ⟨gS, 7, none⟩ = some (.int .u32 (a7 : Int)) := (OW.out.cell 2 rfl 7).trans C7.out
      have SG : IntKind.u32.signed = false := rfl
      have ck : W5.cell? ⟨g, i, none⟩ = some (.int .u32 (xk : Int)) := OW.out.old CK.out
      have i0 : (0 : Int) ≤ (i : Int) := by omega
      go_quiet (first | (go_at_call 113; exact Calls.quiet_of_same (turn_i _ _ (by assumption) (by decide) (by decide) _)))
      have n_ : Aside0 (Mem.Own w (W5.drewN nq) [(gH, arrW hx, 29), (gR, arrW z8, 29), (gS, arrW v, 29)]) := ⟨OW.out.drewN nq⟩
      clear OW
      have OW := n_
      clear n_
      generalize W5.drewN nq = W6 at OW ⊢
      clear c5 c6 c7 ck
      go_wp2_with fail
      have c1 : W6.cell? ⟨gS, 1, none⟩ = some (.int .u32 (a1 : Int)) := (OW.out.cell 2 rfl 1).trans C1.out
      have c2 : W6.cell? ⟨gS, 2, none⟩ = some (.int .u32 (a2 : Int)) := (OW.out.cell 2 rfl 2).trans C2.out
      go_quiet (first | (go_at_call 113; exact Calls.quiet_of_same (turn_i _ _ (by assumption) (by decide) (by decide) _)))
      have n_ : Aside0 (Mem.Own w (W6.drewN nq) [(gH, arrW hx, 29), (gR, arrW z8, 29), (gS, arrW v, 29)]) := ⟨OW.out.drewN nq⟩
      clear OW
      have OW := n_
      clear n_
      generalize W6.drewN nq = W7 at OW ⊢
      clear c1 c2
      rw [T1.out, T2.out]
      obtain ⟨x, hxx⟩ : ∃ x, t1N a4 a5 a6 a7 xk xw % 2 ^ 32 = x := ⟨_, rfl⟩
      obtain ⟨y, hyy⟩ : ∃ y, t2N a0 a1 a2 % 2 ^ 32 = y := ⟨_, rfl⟩
      have RX := Aside0.mk (RV.out x y hxx hyy)
      rw [hxx, hyy]
      clear hxx hyy T1 T2 RV
      have c0 : W7.cell? ⟨gS, 0, none⟩ = some (.int .u32 (a0 : Int)) := (OW.out.cell 2 rfl 0).trans C0.out
      have c1 : W7.cell? ⟨gS, 1, none⟩ = some (.int .u32 (a1 : Int)) := (OW.out.cell 2 rfl 1).trans C1.out
      have c2 : W7.cell? ⟨gS, 2, none⟩ = some (.int .u32 (a2 : Int)) := (OW.out.cell 2 rfl 2).trans C2.out
      have c3 : W7.cell? ⟨gS, 3, none⟩ = some (.int .u32 (a3 : Int)) := (OW.out.cell 2 rfl 3).trans C3.out
      have c4 : W7.cell? ⟨gS, 4, none⟩ = some (.int .u32 (a4 : Int)) := (OW.out.cell 2 rfl 4).trans C4.out
      have c5 : W7.cell? ⟨gS, 5, none⟩ = some (.int .u32 (a5 : Int)) := (OW.out.cell 2 rfl 5).trans C5.out
      have c6 : W7.cell? ⟨gS, 6, none⟩ = some (.int .u32 (a6 : Int)) := (OW.out.cell 2 rfl 6).trans C6.out
      have c7 : W7.cell? ⟨gS, 7, none⟩ = some (.int .u32 (a7 : Int)) := (OW.out.cell 2 rfl 7).trans C7.out
      clear SG
      have f0 := OW.out.frozen 2 rfl 0
      have f1 := OW.out.frozen 2 rfl 1
      have f2 := OW.out.frozen 2 rfl 2
      have f3 := OW.out.frozen 2 rfl 3
      have f4 := OW.out.frozen 2 rfl 4
      have f5 := OW.out.frozen 2 rfl 5
      have f6 := OW.out.frozen 2 rfl 6
      have f7 := OW.out.frozen 2 rfl 7
      go_wp2_with fail
      rw [HX.out.1, HX.out.2] at HR
      exact ⟨⟨i + 1, by go_num, by omega, by rw [HR.out]; exact ⟨(((((((OW.out.put 2 rfl 0 _ rfl).put 2 rfl 1 _ rfl).put 2 rfl 2 _ rfl).put 2 rfl 3 _ rfl).put 2 rfl 4 _ rfl).put 2 rfl 5 _ rfl).put 2 rfl 6 _ rfl).put 2 rfl 7 _ (by rw [set8 v hl, RX.out])⟩⟩, by simp [intOf]; omega⟩
    · obtain rfl : i = 64 := by omega
      obtain ⟨v, hv⟩ : ∃ v, rndsN K W hx 64 = v := ⟨_, rfl⟩
      rw [hv] at OW hl hsm
      have HV := Aside0.mk hv
      clear hv
      go_wp2_with fail
      go_loopw [102] (fun v102 wr => ∃ i : Nat, v102 = .int .i64 i ∧ i ≤ 8 ∧ Aside0 (Mem.Own w (wr) [(gH, arrW (sumN v hx i), 29), (gR, arrW z8, 29), (gS, arrW v, 29)])) (fun v _ => 8 - (intOf v).toNat)
      case atStart => exact ⟨0, rfl, Nat.zero_le _, OW⟩
      case round =>
        clear OW hi hlt
        obtain ⟨i, rfl, hi, OW⟩ := hrel
        have hls := (sumN_len v hx i).trans hh
        by_cases hlt : i < 8
        · have HY := Aside0.mk (show sumN v hx (i + 1) = (sumN v hx i).set i (((sumN v hx i).getD i 0 + v.getD i 0) % 2 ^ 32) from rfl)
          have b1 := (OW.out.cell 0 rfl i).trans (arrW_get _ i (by omega))
          have b2 := (OW.out.cell 2 rfl i).trans (arrW_get _ i (by omega))
          generalize (sumN v hx i).getD i 0 = x at b1 HY
          generalize v.getD i 0 = y at b2 HY
          have f1 := OW.out.frozen 0 rfl i
          have HZ := Aside0.mk (show ((x : Int) + y) % 4294967296 = (((x + y) % 2 ^ 32 : Nat) : Int) by omega)
          go_wp2_with fail
          go_region
          all_goals go_wp2_with fail
          go_roundw
          case rel => exact ⟨i + 1, by go_num, by omega, ⟨(OW.out.put 0 rfl i _ (by rw [HZ.out, arrW_set, HY.out])).drew⟩⟩
          case measure => simp [intOf]; omega
        · obtain rfl : i = 8 := by omega
          have hsz : (arrW (sumN v hx 8)).size = 8 := (arrW_size _).trans hls
          go_wp2_with (first
            | ((with_reducible refine gate_dst (N := 114) rfl ?_); refine wpList_load_row rfl 29 (.tmp 4) rfl gH rfl 29 (arrW (sumN v hx 8)) (0, 0) _ (OW.out.blk 0 rfl) Try.underlying29 rfl (by rw [hsz]; kernel_rfl) ?_)
            | ((with_reducible refine gate_store (t := 29) (p := 6) rfl ?_); refine wpList_store_row rfl 29 (.tmp 6) (.tmp 114) rfl gR (arrW (sumN v hx 8)) rfl rfl 29 _ (OW.out.blk 1 rfl) (by rw [hsz]; kernel_rfl) (by rw [hsz]; rfl) (arrW_one _) ?_; have n_ : Aside0 (Mem.Own w (_) [(gH, arrW (sumN v hx 8), 29), (gR, arrW (sumN v hx 8), 29), (gS, arrW v, 29)]) := ⟨OW.out.row 1 rfl (arrW (sumN v hx 8))⟩; clear OW; have OW := n_; clear n_))
          refine bodyPost_ret (results_cell_row (p := 6) (ty := 29) rfl _ _ gR 29 _ _ _ rfl (OW.out.blk 1 rfl) Try.underlying29 rfl (by rw [hsz]; kernel_rfl)) rfl ⟨by rw [blockN, HW.out, HV.out], OW.out.below⟩
def over : Array Value → Nat → List Value → Array Value
  | cs, _, [] => cs
  | cs, o, v :: r => over (cs.setIfInBounds o v) (o + 1) r
theorem over_mid (vs : List Value) : ∀ A B C : List Value, vs.length = B.length → over (A ++ B ++ C).toArray A.length vs = (A ++ vs ++ C).toArray := by
  induction vs with
  | nil =>
    intro A B C h
    have : B = [] := List.length_eq_zero_iff.1 (by simpa using h.symm)
    subst this
    rfl
  | cons v vs ih =>
    intro A B C h
    match B, h with
    | b :: B, h =>
      have h2 : vs.length = B.length := by simpa using h
      have e : (A ++ b :: B ++ C).toArray.setIfInBounds A.length v = ((A ++ [v]) ++ B ++ C).toArray := by
        rw [List.setIfInBounds_toArray, List.append_assoc, List.set_append_right _ _ (Nat.le_refl _), Nat.sub_self]
        simp
      rw [over, e, show A.length + 1 = (A ++ [v]).length by simp, ih _ _ _ h2]
      simp
theorem grown_trans {w W W2 : World} {r : Option Nat} (a : w.grownBy W r) (b : W.grownBy W2 r) : w.grownBy W2 r :=
  ⟨b.os.trans a.os, b.tape.trans a.tape, b.output.trans a.output, Nat.le_trans a.size b.size, fun k hk hne => (b.block k (Nat.lt_of_lt_of_le hk a.size) hne).trans (a.block k hk hne)⟩
def Dg (w W : World) (g : Nat) (cs : Array Value) (t : TypeId) : Prop := w.grownBy W (some g) ∧ W.heap[g]? = some (.cells cs t (0, 0))
variable {w W W2 : World} {g : Nat} {cs cs' : Array Value} {t : TypeId}
theorem grown_below {w W : World} {r : Option Nat} (h : Below w.heap.size w W) : w.grownBy W r := ⟨h.os, h.tape, h.output, h.size, fun k hk _ => h.block k hk⟩
theorem Dg.refl (h : w.heap[g]? = some (.cells cs t (0, 0))) : Dg w w g cs t := ⟨grown_below (Below.refl _ _), h⟩
theorem Dg.step (h : Dg w W g cs t) (k : Below W.heap.size W W2) : Dg w W2 g cs t := ⟨grown_trans h.1 (grown_below k), blk_below h.2 k⟩
theorem Dg.put (h : Dg w W g cs t) (i : Nat) (v : Value) (e : cs.setIfInBounds i v = cs') : Dg w (W.setCell ⟨g, i, none⟩ v) g cs' t := ⟨grown_trans h.1 (Mem.grownBy_set W g i v), blk_put h.2 i v e⟩
theorem Dg.drew (h : Dg w W g cs t) : Dg w W.drew g cs t := ⟨⟨h.1.os, h.1.tape, h.1.output, h.1.size, h.1.block⟩, h.2⟩
theorem Dg.cell (h : Dg w W g cs t) (i : Nat) : W.cell? ⟨g, i, none⟩ = cs[i]? := blk_cell h.2 i
theorem Dg.frozen (h : Dg w W g cs t) (i : Nat) : W.frozen? ⟨g, i, none⟩ = false := blk_frozen h.2 i
theorem Dg.range (h : Dg w W g cs t) (A B C : List Value) (e : cs = (A ++ B ++ C).toArray) : W.rangeAt g A.length B := fun j v hv => by
  rw [h.cell, e, List.getElem?_toArray, List.append_assoc, List.getElem?_append_right (by omega), Nat.add_sub_cancel_left, List.getElem?_append_left (List.getElem?_eq_some_iff.1 hv).1]
  exact hv
def dig (T : List Value) (h : List Nat) (r : ByteArray) (n : Nat) : Array Value := (T ++ (arrW h).toList ++ [Value.string r, .int .u64 (n : Int)]).toArray
theorem arrW_len (h : List Nat) : (arrW h).toList.length = h.length := by simp [arrW]
theorem dig_size {T : List Value} {h : List Nat} (hT : T.length = 72) (hh : h.length = 8) (r : ByteArray) (n : Nat) : (dig T h r n).size = 82 := by simp [dig, hT, arrW, hh]
theorem dig_tab {T : List Value} {h : List Nat} {r : ByteArray} {n : Nat} (i : Nat) (hi : i < T.length) : (dig T h r n)[i]? = T[i]? := by
  unfold dig
  rw [List.getElem?_toArray, List.append_assoc, List.getElem?_append_left hi]
theorem dig_rest {T : List Value} {h : List Nat} (hT : T.length = 72) (hh : h.length = 8) (r : ByteArray) (n : Nat) : (dig T h r n)[80]? = some (.string r) := by
  unfold dig
  rw [List.getElem?_toArray, List.getElem?_append_right (by simp [hT, arrW, hh])]
  simp [hT, arrW, hh]
theorem dig_n {T : List Value} {h : List Nat} (hT : T.length = 72) (hh : h.length = 8) (r : ByteArray) (n : Nat) : (dig T h r n)[81]? = some (.int .u64 (n : Int)) := by
  unfold dig
  rw [List.getElem?_toArray, List.getElem?_append_right (by simp [hT, arrW, hh])]
  simp [hT, arrW, hh]
theorem dig_setr {T : List Value} {h : List Nat} (hT : T.length = 72) (hh : h.length = 8) (r r' : ByteArray) (n : Nat) : (dig T h r n).setIfInBounds 80 (.string r') = dig T h r' n := by
  unfold dig
  rw [List.setIfInBounds_toArray, List.set_append_right _ _ (by simp [hT, arrW, hh])]
  simp [hT, arrW, hh]
theorem dig_setn {T : List Value} {h : List Nat} (hT : T.length = 72) (hh : h.length = 8) (r : ByteArray) (n n' : Nat) : (dig T h r n).setIfInBounds 81 (.int .u64 (n' : Int)) = dig T h r n' := by
  unfold dig
  rw [List.setIfInBounds_toArray, List.set_append_right _ _ (by simp [hT, arrW, hh])]
  simp [hT, arrW, hh]
theorem dig_seth {T : List Value} {h h' : List Nat} (hT : T.length = 72) (hh : h.length = 8) (hh' : h'.length = 8) (r : ByteArray) (n : Nat) : over (dig T h r n) 72 (arrW h').toList = dig T h' r n := by
  unfold dig
  rw [← hT, over_mid _ _ _ _ (by rw [arrW_len, arrW_len, hh, hh'])]
theorem dig_h {T : List Value} {h : List Nat} {r : ByteArray} {n : Nat} (hT : T.length = 72) (hh : h.length = 8) (j : Nat) (hj : j < 8) : (dig T h r n)[72 + j]? = some (.int .u32 ((h.getD j 0 : Nat) : Int)) := by
  unfold dig
  rw [List.getElem?_toArray, List.append_assoc, List.getElem?_append_right (by omega), ← hT, Nat.add_sub_cancel_left, List.getElem?_append_left (by rw [← Array.size_eq_length_toList, arrW_size]; omega), ← arrW_get h j (by omega)]
  simp
theorem dig_put8 {T : List Value} {h : List Nat} {r : ByteArray} {n : Nat} (hT : T.length = 72) (hh : h.length = 8) (c0 c1 c2 c3 c4 c5 c6 c7 : Nat) :
    ((((((((dig T h r n).setIfInBounds 72 (.int .u32 (c0 : Int))).setIfInBounds 73 (.int .u32 (c1 : Int))).setIfInBounds 74 (.int .u32 (c2 : Int))).setIfInBounds 75 (.int .u32 (c3 : Int))).setIfInBounds 76 (.int .u32 (c4 : Int))).setIfInBounds 77 (.int .u32 (c5 : Int))).setIfInBounds 78 (.int .u32 (c6 : Int))).setIfInBounds 79 (.int .u32 (c7 : Int)) = dig T [c0, c1, c2, c3, c4, c5, c6, c7] r n :=
  dig_seth (h' := [c0, c1, c2, c3, c4, c5, c6, c7]) hT hh rfl r n
def hsN (K h bs : List Nat) : Nat → List Nat
  | 0 => h
  | i + 1 => blockN K (hsN K h bs i) ((bs.drop (64 * i)).take 64)
theorem hsN_len (K h bs : List Nat) (i : Nat) : (hsN K h bs i).length = h.length := by
  induction i with
  | zero => rfl
  | succ i ih => rw [hsN, blockN_len, ih]
theorem hsN_small (K h bs : List Nat) (hh : Small h) (i : Nat) : Small (hsN K h bs i) := by
  induction i with
  | zero => exact hh
  | succ i ih => exact blockN_small _ _ _ ih
theorem bsN_extract (s : ByteArray) (a b : Nat) : bsN (s.extract a b) = ((bsN s).take b).drop a := by
  unfold bsN
  rw [ByteArray.data_extract, Array.toList_extract]
  simp [List.extract, List.map_take, List.map_drop, List.drop_take]
theorem bsN_append (a b : ByteArray) : bsN (a ++ b) = bsN a ++ bsN b := by
  unfold bsN
  rw [ByteArray.data_append, Array.toList_append, List.map_append]
def lenS : Value → Nat | .string s => s.size | _ => 0
theorem size_bsN {s : ByteArray} {l : List Nat} (h : bsN s = l) : s.size = l.length := by rw [← h, bsN_len]
theorem write_c (T : List Value) (K hx : List Nat) (r b : ByteArray) (n : Nat) (hT : T.length = 72) (hK : K.length = 64) (hh : hx.length = 8) (sK : Small K) (sh : Small hx) (hTK : ∀ i, i < 64 → T[i]? = some (.int .u32 ((K.getD i 0 : Nat) : Int)))
    (hr : r.size + b.size ≤ 2000000000) (hn : n ≤ 2000000000) (g : Nat) (w : World) (hg : w.heap[g]? = some (.cells (dig T hx r n) 153 (0, 0))) :
    Calls Try.prog 85 #[.pointer (some ⟨g, 0, none⟩), .string b] w fun e w' => e = .returned (.tuple #[]) ∧ ∃ s : ByteArray, bsN s = (bsN r ++ bsN b).drop (64 * ((r.size + b.size) / 64)) ∧ Dg w w' g (dig T (hsN K hx (bsN r ++ bsN b) ((r.size + b.size) / 64)) s (n + b.size)) 153 := by
  have D0 := Aside0.mk (Dg.refl hg)
  clear hg
  have c81 := (D0.out.cell 81).trans (dig_n hT hh r n)
  have f81 := D0.out.frozen 81
  have c80 := (D0.out.cell 80).trans (dig_rest hT hh r n)
  have HR := Aside0.mk hr
  have HN := Aside0.mk hn
  have hb : (b.size : Int) ≤ 2000000000 := by omega
  have hn2 : (n : Int) ≤ 2000000000 := by omega
  go_enter Try.func85, Try.ntmps85
  go_wp2_with fail
  have hL : (bsN r ++ bsN b).length = r.size + b.size := by rw [List.length_append, bsN_len, bsN_len]
  obtain ⟨al, hal⟩ : ∃ l, bsN r ++ bsN b = l := ⟨_, rfl⟩
  rw [hal] at hL
  go_loopw [4] (fun v4 wr => ∃ (i : Nat) (s : ByteArray), v4 = .string s ∧ 64 * i ≤ r.size + b.size ∧ bsN s = al.drop (64 * i) ∧ Aside0 (Dg w wr g (dig T (hsN K hx al i) r (n + b.size)) 153)) (fun v _ => lenS v)
  case atStart =>
    exact ⟨0, r ++ b, rfl, Nat.zero_le _, by rw [bsN_append, hal]; rfl, ⟨D0.out.put 81 _ (by rw [← Int.natCast_add]; exact dig_setn hT hh r n (n + b.size))⟩⟩
  case round =>
    clear D0 c81 f81 c80
    obtain ⟨i, s, rfl, hi, hs, D0⟩ := hrel
    have hz := size_bsN hs
    rw [List.length_drop, hL] at hz
    have HZ := Aside0.mk hz
    clear hz
    by_cases h64 : 64 ≤ s.size
    · have h64i : (64 : Int) ≤ (s.size : Int) := by omega
      have l1 := (hsN_len K hx al i).trans hh
      have s1 := hsN_small K hx al sh i
      have HS : Aside0 (hsN K hx al (i + 1) = blockN K (hsN K hx al i) (bsN (s.extract 0 64))) := ⟨by rw [bsN_extract, hs]; rfl⟩
      have z64 : (s.extract 0 64).size = 64 := by rw [ByteArray.size_extract]; omega
      have e1 : bsN (s.extract 64 s.size) = al.drop (64 * (i + 1)) := by rw [bsN_extract, List.take_of_length_le (by rw [bsN_len]; exact Nat.le_refl _), hs, List.drop_drop]; congr 1
      generalize hsN K hx al i = hi' at *
      obtain ⟨a0, a1, a2, a3, a4, a5, a6, a7, rfl⟩ : ∃ a0 a1 a2 a3 a4 a5 a6 a7, hi' = [a0, a1, a2, a3, a4, a5, a6, a7] := ⟨_, _, _, _, _, _, _, _, eight hi' l1⟩
      have c0 : wr.cell? ⟨g, 72, none⟩ = some (.int .u32 (a0 : Int)) := (D0.out.cell 72).trans (dig_h hT l1 0 (by decide))
      have c1 : wr.cell? ⟨g, 73, none⟩ = some (.int .u32 (a1 : Int)) := (D0.out.cell 73).trans (dig_h hT l1 1 (by decide))
      have c2 : wr.cell? ⟨g, 74, none⟩ = some (.int .u32 (a2 : Int)) := (D0.out.cell 74).trans (dig_h hT l1 2 (by decide))
      have c3 : wr.cell? ⟨g, 75, none⟩ = some (.int .u32 (a3 : Int)) := (D0.out.cell 75).trans (dig_h hT l1 3 (by decide))
      have c4 : wr.cell? ⟨g, 76, none⟩ = some (.int .u32 (a4 : Int)) := (D0.out.cell 76).trans (dig_h hT l1 4 (by decide))
      have c5 : wr.cell? ⟨g, 77, none⟩ = some (.int .u32 (a5 : Int)) := (D0.out.cell 77).trans (dig_h hT l1 5 (by decide))
      have c6 : wr.cell? ⟨g, 78, none⟩ = some (.int .u32 (a6 : Int)) := (D0.out.cell 78).trans (dig_h hT l1 6 (by decide))
      have c7 : wr.cell? ⟨g, 79, none⟩ = some (.int .u32 (a7 : Int)) := (D0.out.cell 79).trans (dig_h hT l1 7 (by decide))
      have l2 := (blockN_len K [a0, a1, a2, a3, a4, a5, a6, a7] (bsN (s.extract 0 64))).trans l1
      obtain ⟨b0, b1, b2, b3, b4, b5, b6, b7, hb8⟩ : ∃ b0 b1 b2 b3 b4 b5 b6 b7, blockN K [a0, a1, a2, a3, a4, a5, a6, a7] (bsN (s.extract 0 64)) = [b0, b1, b2, b3, b4, b5, b6, b7] := ⟨_, _, _, _, _, _, _, _, eight _ l2⟩
      have HC := fun W hW => step_c K [a0, a1, a2, a3, a4, a5, a6, a7] (s.extract 0 64) g hK l1 sK s1 z64 W hW
      rw [hb8] at HC HS
      have e8 : arrW [b0, b1, b2, b3, b4, b5, b6, b7] = #[.int .u32 (b0 : Int), .int .u32 (b1 : Int), .int .u32 (b2 : Int), .int .u32 (b3 : Int), .int .u32 (b4 : Int), .int .u32 (b5 : Int), .int .u32 (b6 : Int), .int .u32 (b7 : Int)] := rfl
      rw [e8] at HC
      clear e8
      clear hb8 l2
      have HC := Aside0.mk HC
      have TJ := Aside0.mk (fun (W : World) (h : Dg w W g (dig T [a0, a1, a2, a3, a4, a5, a6, a7] r (n + b.size)) 153) j (hj : j < 64) => (h.cell j).trans ((dig_tab j (by omega)).trans (hTK j hj)))
      go_wp2_with fail
      go_region_with (first | (go_at_call 105; refine (HC.out _ (TJ.out _ D0.out.drew)).mono ?_; rintro e w_ ⟨rfl, hB⟩; have D2 := Aside0.mk (D0.out.drew.step hB); have k0 : w_.cell? ⟨g, 72, none⟩ = some (.int .u32 (a0 : Int)) := (D2.out.cell 72).trans (dig_h hT l1 0 (by decide)); have f0 := D2.out.frozen 72; have k1 : w_.cell? ⟨g, 73, none⟩ = some (.int .u32 (a1 : Int)) := (D2.out.cell 73).trans (dig_h hT l1 1 (by decide)); have f1 := D2.out.frozen 73; have k2 : w_.cell? ⟨g, 74, none⟩ = some (.int .u32 (a2 : Int)) := (D2.out.cell 74).trans (dig_h hT l1 2 (by decide)); have f2 := D2.out.frozen 74; have k3 : w_.cell? ⟨g, 75, none⟩ = some (.int .u32 (a3 : Int)) := (D2.out.cell 75).trans (dig_h hT l1 3 (by decide)); have f3 := D2.out.frozen 75; have k4 : w_.cell? ⟨g, 76, none⟩ = some (.int .u32 (a4 : Int)) := (D2.out.cell 76).trans (dig_h hT l1 4 (by decide)); have f4 := D2.out.frozen 76; have k5 : w_.cell? ⟨g, 77, none⟩ = some (.int .u32 (a5 : Int)) := (D2.out.cell 77).trans (dig_h hT l1 5 (by decide)); have f5 := D2.out.frozen 77; have k6 : w_.cell? ⟨g, 78, none⟩ = some (.int .u32 (a6 : Int)) := (D2.out.cell 78).trans (dig_h hT l1 6 (by decide)); have f6 := D2.out.frozen 78; have k7 : w_.cell? ⟨g, 79, none⟩ = some (.int .u32 (a7 : Int)) := (D2.out.cell 79).trans (dig_h hT l1 7 (by decide)); have f7 := D2.out.frozen 79))
      go_wp2_with fail
      exact ⟨⟨i + 1, s.extract 64 s.size, rfl, by have := HZ.out; omega, e1, by rw [HS.out]; exact ⟨(((((((D2.out.put 72 _ rfl).put 73 _ rfl).put 74 _ rfl).put 75 _ rfl).put 76 _ rfl).put 77 _ rfl).put 78 _ rfl).put 79 _ (dig_put8 hT l1 b0 b1 b2 b3 b4 b5 b6 b7)⟩⟩, by simp [lenS, ByteArray.size_extract]; omega⟩
    · obtain rfl : i = (r.size + b.size) / 64 := by have := HZ.out; omega
      have h64i : (s.size : Int) < 64 := by omega
      have c80 := (D0.out.cell 80).trans (dig_rest hT ((hsN_len K hx al _).trans hh) r (n + b.size))
      have f80 := D0.out.frozen 80
      go_wp2_with fail
      exact bodyPost_end (results_none rfl _ _ _) rfl (by show _ ∧ _; rw [hal]; exact ⟨rfl, s, hs, D0.out.put 80 _ (dig_setr hT ((hsN_len K hx al _).trans hh) r s (n + b.size))⟩)
end Go.Proofs.Ytondnammkcgjpaa.ShaP
namespace Go.Proofs.Ytondnammkcgjpaa.ShaP
open Go Go.RowKit Go.Proofs.YtondnammkcgjpaaW.PrintWords Go.Proofs.YtondnammkcgjpaaW.PrintLast Go.Proofs.YtondnammkcgjpaaW.PrintMore
open Go.Proofs.Ytondnammkcgjpaa.ShaM
def arrB (xs : List Nat) : Array Value := (xs.map fun n : Nat => Value.int .u8 (n : Int)).toArray
theorem arrB_get (xs : List Nat) (i : Nat) (h : i < xs.length) : (arrB xs)[i]? = some (.int .u8 ((xs.getD i 0 : Nat) : Int)) := by
  unfold arrB
  rw [List.getElem?_toArray, List.getElem?_map, List.getElem?_eq_getElem h, List.getD_eq_getElem?_getD, List.getElem?_eq_getElem h]; rfl
theorem arrB_set (xs : List Nat) (i : Nat) (v : Nat) : (arrB xs).setIfInBounds i (.int .u8 (v : Int)) = arrB (xs.set i v) := by
  unfold arrB
  rw [List.setIfInBounds_toArray, List.map_set]
def strN (xs : List Nat) : ByteArray := strOfNums (ShaM.cast xs)
theorem bsN_strN (xs : List Nat) (h : ∀ x ∈ xs, x < 256) : bsN (strN xs) = xs := by
  unfold bsN strN
  rw [strOfNums_data]
  simp only [ShaM.cast, List.map_map]
  conv => rhs; rw [← List.map_id xs]
  refine List.map_congr_left fun x hx => ?_
  have := h x hx
  simp [Nat.mod_eq_of_lt this]
def numP (n k : Nat) : Nat → List Nat
  | 0 => List.replicate k 0
  | i + 1 => (numP n k i).set i (n / 2 ^ (8 * (k - 1 - i)) % 256)
theorem numP_len (n k i : Nat) : (numP n k i).length = k := by
  induction i with
  | zero => simp [numP]
  | succ i ih => rw [numP, List.length_set, ih]
theorem numP_lt (n k i : Nat) : ∀ x ∈ numP n k i, x < 256 := by
  induction i with
  | zero =>
    intro x hx
    rw [numP] at hx
    rw [(List.mem_replicate.1 hx).2]; decide
  | succ i ih =>
    intro x hx
    rw [numP] at hx
    rcases List.mem_or_eq_of_mem_set hx with h | rfl
    · exact ih x h
    · exact Nat.mod_lt _ (by decide)
theorem info5 : (Try.prog.info? 5).map (fun i => (i.zero, i.size, i.bytes)) = some (some (.int .u8 0), 1, 1) := by kernel_rfl
theorem mk_c (k : Nat) (hk : k ≤ 8) (W : World) : (Instr.makeSlice 120 (.int .i64 (k : Int)) (.int .i64 (k : Int))).run Try.prog W = .ok (.slice (some ⟨W.heap.size, 0, none⟩) k k) (W.alloc (.cells (arrB (List.replicate k 0)) 5)) := by
  obtain ⟨i, hi, h⟩ := Option.map_eq_some_iff.1 info5
  have h1 : i.zero = some (.int .u8 0) := congrArg Prod.fst h
  have h2 : i.size = 1 := congrArg (fun x => x.2.1) h
  have h3 : i.bytes = 1 := congrArg (fun x => x.2.2) h
  have := run_make (P := Try.prog) W 120 5 i (.int .u8 0) Try.underlying120 hi h1 .i64 .i64 k k (by omega) (Int.le_refl _) (by rw [h3]; omega) (by omega)
  rw [this, h2]
  simp only [Int.toNat_natCast, Nat.mul_one]
  rw [show madeCells (Value.int .u8 0).cells k = arrB (List.replicate k 0) from by
    refine Array.ext (by simp [madeCells, arrB]) fun j h1 h2 => ?_
    simp [madeCells, arrB, Value.cells]
    rw [show j % 1 = 0 by omega]; rfl]
theorem number_c (n k : Nat) (hn : n < 2 ^ 64) (hk : k ≤ 8) (w : World) :
    Calls Try.prog 107 #[.int .u64 n, .int .i64 k] w fun e w' => e = .returned (.string (strN (numP n k k))) ∧ Below w.heap.size w w' := by
  have MK := mk_c k hk
  have OW : Aside0 (Mem.Own w (w.alloc (.cells (arrB (List.replicate k 0)) 5)) [(w.heap.size, arrB (numP n k 0), 5)]) := ⟨(Mem.Own.nil w).new rfl (blk_new _ _) ((Below.refl _ _).alloc (Nat.le_refl _) _)⟩
  have hk8 : (k : Int) ≤ 8 := by omega
  have hn2 : (n : Int) < 18446744073709551616 := by omega
  go_enter Try.func107, Try.ntmps107
  go_wp2_with fail
  have e0 : Mem.Own w (w.alloc (.cells (arrB (List.replicate k 0)) 5)) [(w.heap.size, arrB (numP n k 0), 5)] := OW.out
  generalize w.alloc (.cells (arrB (List.replicate k 0)) 5) = W1 at e0 ⊢
  obtain ⟨gB, hgB⟩ : ∃ g, w.heap.size = g := ⟨_, rfl⟩
  rw [hgB] at e0
  try rw [hgB]
  clear OW MK
  go_loopw [11] (fun v11 wr => ∃ i : Nat, v11 = .int .i64 i ∧ i ≤ k ∧ Aside0 (Mem.Own w (wr) [(gB, arrB (numP n k i), 5)])) (fun v _ => k - (intOf v).toNat)
  case atStart => exact ⟨0, rfl, Nat.zero_le _, ⟨e0⟩⟩
  case round =>
    clear e0
    obtain ⟨i, rfl, hi, OW⟩ := hrel
    by_cases hlt : i < k
    · have f0 := OW.out.frozen 0 rfl i
      have c0 := (OW.out.cell 0 rfl i).trans (arrB_get _ i (by rw [numP_len]; exact hlt))
      have x0 : (i : Int) < (k : Int) := by omega
      have x1 : IntKind.i64.wrap ((k : Int) - 1) = (k : Int) - 1 := IntWalk.i64_in _ (by omega)
      have x2 : IntKind.i64.wrap ((k : Int) - 1 - (i : Int)) = (k : Int) - 1 - (i : Int) := IntWalk.i64_in _ (by omega)
      have x3 : IntKind.i64.wrap (8 * ((k : Int) - 1 - (i : Int))) = 8 * ((k : Int) - 1 - (i : Int)) := IntWalk.i64_in _ (by omega)
      have x4 : 0 ≤ 8 * ((k : Int) - 1 - (i : Int)) := by omega
      have x5 : 8 * ((k : Int) - 1 - (i : Int)) < 64 := by omega
      have x6 : (8 * ((k : Int) - 1 - (i : Int))).toNat = 8 * (k - 1 - i) := by omega
      go_wp2_with fail
      have e2 : (n : Int) / 2 ^ (8 * (k - 1 - i)) % 256 = ((n / 2 ^ (8 * (k - 1 - i)) % 256 : Nat) : Int) := by simp
      exact ⟨⟨i + 1, by go_num, by omega, ⟨OW.out.put 0 rfl i _ (by rw [e2, arrB_set]; rfl)⟩⟩, by simp [intOf]; omega⟩
    · obtain rfl : i = k := by omega
      have CV := run_convert_bytes_arg (P := Try.prog) wr 120 5 Try.underlying120 Try.underlying5 gB 0 i i (ShaM.cast (numP n i i)) (by simp [numP_len]) (fun j hj => by rw [Nat.zero_add, OW.out.cell 0 rfl j, arrB_get _ j (by rw [numP_len]; exact hj), ShaM.cast_getD]) 9 Try.underlying9
      go_wp2_with fail
      go_ret
      exact ⟨rfl, OW.out.below⟩
theorem over_zip (vs : List Value) : ∀ (off k : Nat) (cs : Array Value), (vs.zipIdx k).foldl (fun cs (x : Value × Nat) => cs.setIfInBounds (off + x.2) x.1) cs = over cs (off + k) vs := by
  induction vs with
  | nil => intro off k cs; rfl
  | cons v vs ih => intro off k cs; rw [List.zipIdx_cons, List.foldl_cons, ih, over]; rfl
theorem over_arr (vs : Array Value) (off : Nat) (cs : Array Value) : vs.zipIdx.foldl (fun cs (x : Value × Nat) => cs.setIfInBounds (off + x.2) x.1) cs = over cs off vs.toList := by
  rw [← Array.foldl_toList, Array.toList_zipIdx, over_zip]; rfl
def digZ : Array Value := dig (List.replicate 72 (.int .u32 0)) (List.replicate 8 0) ⟨#[]⟩ 0
def digP : Nat → Option (Nat × Nat) := (#[(0, 72), (72, 8), (80, 1), (81, 1)][·]?)
theorem built_fill (parts : List (Nat × Value)) : Try.prog.built 153 parts = Instr.fill digP digZ parts := by
  kernel_rfl
theorem built_dig (T : List Value) (h : List Nat) (hT : T.length = 72) (hh : h.length = 8) : Try.prog.built 153 [(0, .agg T.toArray), (1, .agg (arrW h))] = some (dig T h ⟨#[]⟩ 0) := by
  rw [built_fill]
  have z : digZ.size = 82 := rfl
  have s1 : T.toArray.size = 72 := by simp [hT]
  have s2 : (arrW h).size = 8 := (arrW_size h).trans hh
  have o1 : over digZ 0 T = dig T (List.replicate 8 0) ⟨#[]⟩ 0 := over_mid T [] (List.replicate 72 (.int .u32 0)) ((arrW (List.replicate 8 0)).toList ++ [Value.string ⟨#[]⟩, .int .u64 (0 : Nat)]) (by simp [hT]) |>.trans (by simp [dig])
  have p0 : digP 0 = some (0, 72) := rfl
  have p1 : digP 1 = some (72, 8) := rfl
  have c1 : (Value.agg T.toArray).cells = T.toArray := rfl
  have c2 : (Value.agg (arrW h)).cells = arrW h := rfl
  have z2 : (dig T (List.replicate 8 0) ⟨#[]⟩ 0).size = 82 := dig_size hT rfl _ _
  have g1 : ¬ (T.toArray.size ≠ 72 ∨ 0 + T.toArray.size > digZ.size) := by rw [s1, z]; decide
  have g2 : ¬ ((arrW h).size ≠ 8 ∨ 72 + (arrW h).size > (dig T (List.replicate 8 0) ⟨#[]⟩ 0).size) := by rw [s2, z2]; decide
  simp only [Instr.fill, p0, p1, c1, c2, over_arr, o1, Bool.or_eq_true, decide_eq_true_eq]
  rw [if_neg g1, if_neg g2, dig_seth hT rfl hh]
theorem new_c (T : List Value) (h : List Nat) (hT : T.length = 72) (hh : h.length = 8) (hTH : T.drop 64 = (arrW h).toList) (w : World) :
    Calls Try.prog 84 #[.agg T.toArray] w fun e w' => ∃ g, e = .returned (.pointer (some ⟨g, 0, none⟩)) ∧ w.heap.size ≤ g ∧ w'.heap[g]? = some (.cells (dig T h ⟨#[]⟩ 0) 153 (0, 0)) ∧ Below w.heap.size w w' := by
  have OW := Aside0.mk (Mem.Own.nil w)
  have HI : Aside0 ((Try.prog.info? 31).map (·.size) = some T.toArray.size) := ⟨by simp only [List.size_toArray, hT]; kernel_rfl⟩
  have HB := Aside0.mk (built_dig T h hT hh)
  obtain ⟨a0, a1, a2, a3, a4, a5, a6, a7, rfl⟩ : ∃ a0 a1 a2 a3 a4 a5 a6 a7, h = [a0, a1, a2, a3, a4, a5, a6, a7] := ⟨_, _, _, _, _, _, _, _, eight h hh⟩
  have HT : Aside0 (∀ j, T.toArray[64 + j]? = (arrW [a0, a1, a2, a3, a4, a5, a6, a7])[j]?) := ⟨fun j => by rw [List.getElem?_toArray, ← List.getElem?_drop, hTH, Array.getElem?_toList]⟩
  clear hTH
  have e8 : arrW [a0, a1, a2, a3, a4, a5, a6, a7] = #[.int .u32 (a0 : Int), .int .u32 (a1 : Int), .int .u32 (a2 : Int), .int .u32 (a3 : Int), .int .u32 (a4 : Int), .int .u32 (a5 : Int), .int .u32 (a6 : Int), .int .u32 (a7 : Int)] := rfl
  rw [e8] at HB
  clear e8
  go_enter Try.func84, Try.ntmps84
  go_wp2_with (first
    | ((with_reducible refine gate_dst (N := 1) rfl ?_); refine box_event ?hg (N := 1) ?hd (cs := T.toArray) (t := 31) ?hr ?_; (case hd => rfl); (case hg => rfl); (case hr => first | (go_simp; done) | (go_simp; rfl)); intro gT hg W_ hb hbb; have n_ : Aside0 (Mem.Own w W_ [(gT, T.toArray, 31)]) := ⟨OW.out.new hg hb hbb⟩; clear OW hb hbb hg; have OW := n_; clear n_)
    | ((with_reducible refine gate_dst (N := 3) rfl ?_); have c0 : _ = some (Value.int .u32 (a0 : Int)) := (OW.out.cell 0 rfl 64).trans (HT.out 0); have c1 : _ = some (Value.int .u32 (a1 : Int)) := (OW.out.cell 0 rfl 65).trans (HT.out 1); have c2 : _ = some (Value.int .u32 (a2 : Int)) := (OW.out.cell 0 rfl 66).trans (HT.out 2); have c3 : _ = some (Value.int .u32 (a3 : Int)) := (OW.out.cell 0 rfl 67).trans (HT.out 3); have c4 : _ = some (Value.int .u32 (a4 : Int)) := (OW.out.cell 0 rfl 68).trans (HT.out 4); have c5 : _ = some (Value.int .u32 (a5 : Int)) := (OW.out.cell 0 rfl 69).trans (HT.out 5); have c6 : _ = some (Value.int .u32 (a6 : Int)) := (OW.out.cell 0 rfl 70).trans (HT.out 6); have c7 : _ = some (Value.int .u32 (a7 : Int)) := (OW.out.cell 0 rfl 71).trans (HT.out 7); refine wpList_load_row rfl 31 (.tmp 1) rfl gT rfl 31 T.toArray (0, 0) _ (OW.out.blk 0 rfl) Try.underlying31 rfl HI.out ?_)
    | ((with_reducible refine gate_dst (N := 6) rfl ?_); refine wpList_build rfl 153 #[(0, .tmp 3), (1, .tmp 5)] rfl ?_ ?_))
  · rw [HB.out]; rfl
  · have e := HB.out
    clear HB
    simp only [e, Option.getD_some]
    refine bodyPost_ret (results_tmp rfl _ _ _) rfl ⟨W_.heap.size, rfl, OW.out.size, blk_new _ _, OW.out.below.alloc OW.out.size _⟩
end Go.Proofs.Ytondnammkcgjpaa.ShaP
namespace Go.Proofs
open Go.Shelf
def Try.lays125_ren : Go.Shelf.Ren := ⟨fun | 125 => 83 | 128 => 103 | 129 => 104 | n => n, fun | 46 => 108 | 3 => 3 | 51 => 27 | 53 => 93 | 4 => 4 | 5 => 5 | 9 => 9 | n => n, fun | n => n⟩
theorem Try.lays125 : Go.Proofs.Lays.n125 Try.prog Try.lays125_ren := {
  mixed := by kernel_rfl
  f125 := Try.func83.trans (congrArg some (by kernel_rfl))
  f128 := Try.func103.trans (congrArg some (by kernel_rfl))
  f129 := Try.func104.trans (congrArg some (by kernel_rfl))
  t3 := Try.underlying3
  a3 := Try.isAgg3
  z3 := Try.sizeOf3
  v3 := Try.zeroValue3
  t4 := Try.underlying4
  a4 := Try.isAgg4
  z4 := Try.sizeOf4
  v4 := Try.zeroValue4
  t5 := Try.underlying5
  a5 := Try.isAgg5
  z5 := Try.sizeOf5
  v5 := Try.zeroValue5
  t9 := Try.underlying9
  a9 := Try.isAgg9
  z9 := Try.sizeOf9
  v9 := Try.zeroValue9
  t46 := Try.underlying108
  a46 := Try.isAgg108
  z46 := Try.sizeOf108
  v46 := Try.zeroValue108
  t51 := Try.underlying27
  a51 := Try.isAgg27
  z51 := Try.sizeOf27
  v51 := Try.zeroValue27
  t53 := Try.underlying93
  a53 := Try.isAgg93
  z53 := Try.sizeOf93
  v53 := Try.zeroValue93 }
theorem Try.bits_Len (x : Int) (w : World) (h0 : 0 ≤ x) (h1 : x ≤ 18446744073709551615) :
    Calls Try.prog 83 #[.int .u64 x] w fun e w' => e = .returned (.int .i64 (Lib.bitLen x.toNat)) ∧ w' = w := Any.bits_Len Try.lays125 x w h0 h1
def Try.lays264_ren : Go.Shelf.Ren := ⟨fun | 264 => 78 | n => n, fun | 53 => 93 | 46 => 108 | n => n, fun | n => n⟩
theorem Try.lays264 : Go.Proofs.Lays.n264 Try.prog Try.lays264_ren := {
  mixed := by kernel_rfl
  f264 := Try.func78.trans (congrArg some (by kernel_rfl))
  t46 := Try.underlying108
  a46 := Try.isAgg108
  z46 := Try.sizeOf108
  v46 := Try.zeroValue108
  t53 := Try.underlying93
  a53 := Try.isAgg93
  z53 := Try.sizeOf93
  v53 := Try.zeroValue93 }
open Go.RowKit Go.Lib in
theorem Try.bits_Mul64 (x y : Nat) (hx : x < 18446744073709551616) (hy : y < 18446744073709551616) (w : World) :
    Calls Try.prog 78 #[.int .u64 x, .int .u64 y] w fun e w' => e = .returned (.tuple #[.int .u64 ((x * y / 18446744073709551616 : Nat) : Int), .int .u64 ((x * y % 18446744073709551616 : Nat) : Int)]) ∧ w' = w := Any.bits_Mul64 Try.lays264 x y hx hy w
def Try.lays105_ren : Go.Shelf.Ren := ⟨fun | 105 => 106 | 212 => 114 | 99 => 115 | 165 => 116 | 166 => 117 | 170 => 118 | 169 => 119 | 263 => 124 | 264 => 78 | 206 => 125 | 240 => 126 | 241 => 127 | 276 => 130 | 277 => 131 | n => n, fun | 9 => 9 | 3 => 3 | 4 => 4 | 20 => 20 | 0 => 0 | 46 => 108 | 109 => 163 | 5 => 5 | 72 => 168 | 76 => 172 | 51 => 27 | 146 => 177 | 53 => 93 | 148 => 128 | 70 => 166 | 37 => 120 | 75 => 171 | 127 => 179 | 164 => 181 | 80 => 137 | n => n, fun | n => n⟩
theorem Try.lays105 : Go.Proofs.Lays.n105 Try.prog Try.lays105_ren := {
  mixed := by kernel_rfl
  f99 := Try.func115.trans (congrArg some (by kernel_rfl))
  f105 := Try.func106.trans (congrArg some (by kernel_rfl))
  f165 := Try.func116.trans (congrArg some (by kernel_rfl))
  f166 := Try.func117.trans (congrArg some (by kernel_rfl))
  f169 := Try.func119.trans (congrArg some (by kernel_rfl))
  f170 := Try.func118.trans (congrArg some (by kernel_rfl))
  f206 := Try.func125.trans (congrArg some (by kernel_rfl))
  f212 := Try.func114.trans (congrArg some (by kernel_rfl))
  f240 := Try.func126.trans (congrArg some (by kernel_rfl))
  f241 := Try.func127.trans (congrArg some (by kernel_rfl))
  f263 := Try.func124.trans (congrArg some (by kernel_rfl))
  f264 := Try.func78.trans (congrArg some (by kernel_rfl))
  f276 := Try.func130.trans (congrArg some (by kernel_rfl))
  f277 := Try.func131.trans (congrArg some (by kernel_rfl))
  t0 := Try.underlying0
  a0 := Try.isAgg0
  z0 := Try.sizeOf0
  v0 := Try.zeroValue0
  t3 := Try.underlying3
  a3 := Try.isAgg3
  z3 := Try.sizeOf3
  v3 := Try.zeroValue3
  t4 := Try.underlying4
  a4 := Try.isAgg4
  z4 := Try.sizeOf4
  v4 := Try.zeroValue4
  t5 := Try.underlying5
  a5 := Try.isAgg5
  z5 := Try.sizeOf5
  v5 := Try.zeroValue5
  t9 := Try.underlying9
  a9 := Try.isAgg9
  z9 := Try.sizeOf9
  v9 := Try.zeroValue9
  t20 := Try.underlying20
  a20 := Try.isAgg20
  z20 := Try.sizeOf20
  v20 := Try.zeroValue20
  t37 := Try.underlying120
  a37 := Try.isAgg120
  z37 := Try.sizeOf120
  v37 := Try.zeroValue120
  t46 := Try.underlying108
  a46 := Try.isAgg108
  z46 := Try.sizeOf108
  v46 := Try.zeroValue108
  t51 := Try.underlying27
  a51 := Try.isAgg27
  z51 := Try.sizeOf27
  v51 := Try.zeroValue27
  t53 := Try.underlying93
  a53 := Try.isAgg93
  z53 := Try.sizeOf93
  v53 := Try.zeroValue93
  t70 := Try.underlying166
  a70 := Try.isAgg166
  z70 := Try.sizeOf166
  v70 := Try.zeroValue166
  t72 := Try.underlying168
  a72 := Try.isAgg168
  z72 := Try.sizeOf168
  v72 := Try.zeroValue168
  t75 := Try.underlying171
  a75 := Try.isAgg171
  z75 := Try.sizeOf171
  v75 := Try.zeroValue171
  t76 := Try.underlying172
  a76 := Try.isAgg172
  z76 := Try.sizeOf172
  v76 := Try.zeroValue172
  t109 := Try.underlying163
  a109 := Try.isAgg163
  z109 := Try.sizeOf163
  v109 := Try.zeroValue163
  t127 := Try.underlying179
  a127 := Try.isAgg179
  z127 := Try.sizeOf179
  v127 := Try.zeroValue179
  t146 := Try.underlying177
  a146 := Try.isAgg177
  z146 := Try.sizeOf177
  v146 := Try.zeroValue177
  t148 := Try.underlying128
  a148 := Try.isAgg128
  z148 := Try.sizeOf128
  v148 := Try.zeroValue128
  t164 := Try.underlying181
  a164 := Try.isAgg181
  z164 := Try.sizeOf181
  v164 := Try.zeroValue181 }
theorem Try.Builder_Extra_105 : Builder.Extra Try.prog Try.lays105_ren := {
  sizeBuilder := by kernel_rfl
  liesBuilder := by kernel_rfl
  t5 := Try.underlying5
  a5 := Try.isAgg5
  z5 := Try.sizeOf5
  v5 := Try.zeroValue5
  infoByte := by kernel_rfl
  cellsByte := by kernel_rfl
  sizeByte := by kernel_rfl
  neB5 := by decide }
open Go.RowKit Go.Lib in
theorem Try.strings_Repeat (s : ByteArray) (c : Nat) (w : World) (hc : c ≤ 9223372036854775807) (hlen : s.size * c ≤ 140737488355328) :
    Calls Try.prog 106 #[.string s, .int .i64 c] w fun e w' => e = .returned (.string ⟨(Lib.repeatL s.data.toList c).toArray⟩) ∧ Below w.heap.size w w' := Any.strings_Repeat Try.lays105 Try.Builder_Extra_105 s c w hc hlen
end Go.Proofs
namespace Go.Proofs.Ytondnammkcgjpaa.ShaP
open Go Go.RowKit Go.Proofs.YtondnammkcgjpaaW.PrintWords Go.Proofs.YtondnammkcgjpaaW.PrintLast Go.Proofs.YtondnammkcgjpaaW.PrintMore
open Go.Proofs.Ytondnammkcgjpaa.ShaM
theorem rep_zero (c : Nat) : bsN ⟨(Lib.repeatL [(0 : UInt8)] c).toArray⟩ = List.replicate c 0 := by
  unfold bsN
  simp only
  induction c with
  | zero => rfl
  | succ c ih => simp_all [Lib.repeatL, List.replicate_succ]
def outN (h : List Nat) : Nat → List Nat
  | 0 => []
  | i + 1 => outN h i ++ numP (h.getD i 0) 4 4
theorem outN_len (h : List Nat) (i : Nat) : (outN h i).length = 4 * i := by
  induction i with
  | zero => rfl
  | succ i ih => rw [outN, List.length_append, ih, numP_len]; omega
def padB (r n : Nat) : List Nat := 128 :: List.replicate ((119 - r) % 64) 0 ++ numP (8 * n) 8 8
theorem padB_len (r n : Nat) : (padB r n).length = 9 + (119 - r) % 64 := by simp [padB, numP_len]; omega
def finN (K h rest : List Nat) (n : Nat) : List Nat := outN (hsN K h (rest ++ padB rest.length n) ((rest.length + (padB rest.length n).length) / 64)) 8
noncomputable def ZC : Array Value := Try.zeroCells153
theorem own_dg {w0 W W2 : World} {l : List Mem.Blk} {g : Nat} {cs cs' : Array Value} {t : TypeId} (h : Mem.Own w0 W l) (k : Nat) (e : l[k]? = some (g, cs, t)) (d : Dg W W2 g cs' t) : Mem.Own w0 W2 (l.set k (g, cs', t)) := by
  have hk : k < l.length := (List.getElem?_eq_some_iff.1 e).1
  refine ⟨h.1.grown d.1 h.size (fun j hj => by cases hj; exact h.new_le k e), fun j b eb => ?_, fun i' j' a b ea eb hij => ?_⟩
  · by_cases hj : k = j
    · subst hj
      rw [List.getElem?_set_self hk] at eb
      cases eb
      exact ⟨h.new_le k e, d.2⟩
    · rw [List.getElem?_set_ne hj] at eb
      have hne : b.1 ≠ g := fun q => h.2.2 j k b _ eb e (fun q => hj q.symm) q
      exact ⟨(h.2.1 j b eb).1, blk_grown (h.2.1 j b eb).2 d.1 (by simpa using hne)⟩
  · have key : ∀ i (a : Mem.Blk), (l.set k (g, cs', t))[i]? = some a → ∃ a' : Mem.Blk, l[i]? = some a' ∧ a'.1 = a.1 := fun i a e' => by
      by_cases hj : k = i
      · subst hj
        rw [List.getElem?_set_self hk] at e'
        cases e'
        exact ⟨_, e, rfl⟩
      · rw [List.getElem?_set_ne hj] at e'
        exact ⟨a, e', rfl⟩
    obtain ⟨a', ha, ea'⟩ := key i' a ea
    obtain ⟨b', hb, eb'⟩ := key j' b eb
    rw [← ea', ← eb']
    exact h.2.2 i' j' a' b' ha hb hij
theorem zsize : ZC.size = 82 := by unfold ZC; kernel_rfl
theorem dsum_c (T : List Value) (K hx : List Nat) (r : ByteArray) (n : Nat) (hT : T.length = 72) (hK : K.length = 64) (hh : hx.length = 8) (sK : Small K) (sh : Small hx) (hTK : ∀ i, i < 64 → T[i]? = some (.int .u32 ((K.getD i 0 : Nat) : Int)))
    (h1 : ∀ v ∈ T, v.oneCell' = true) (hr : r.size < 64) (hn : n ≤ 2000000000) (g : Nat) (w : World) (hg : w.heap[g]? = some (.cells (dig T hx r n) 153 (0, 0))) :
    Calls Try.prog 86 #[.pointer (some ⟨g, 0, none⟩)] w fun e w' => ∃ S : ByteArray, e = .returned (.string S) ∧ bsN S = finN K hx (bsN r) n ∧ Below w.heap.size w w' := by
  have OW := Aside0.mk (Mem.Own.nil w)
  have zd := dig_size hT hh r n
  have HD := Aside0.mk zd
  have HI : Aside0 ((Try.prog.info? 153).map (·.size) = some (dig T hx r n).size) := ⟨by rw [zd]; kernel_rfl⟩
  have HO : Aside0 ((dig T hx r n).all (·.oneCell') = true) := ⟨by
    rw [Array.all_eq_true_iff_forall_mem]
    intro v hv
    have hv : v ∈ T ∨ v ∈ (arrW hx).toList ∨ v ∈ [Value.string r, .int .u64 (n : Int)] := by simpa [dig, or_assoc] using hv
    rcases hv with hv | hv | hv
    · exact h1 v hv
    · exact (Array.all_eq_true_iff_forall_mem.1 (arrW_one hx)) v (by simpa using hv)
    · simp at hv; rcases hv with rfl | rfl <;> rfl⟩
  have HG := Aside0.mk hg
  have hg8 : w.cell? ⟨g, 81, none⟩ = some (.int .u64 (n : Int)) := (blk_cell hg 81).trans (dig_n hT hh r n)
  have HG8 := Aside0.mk hg8
  have HR := Aside0.mk (dig_rest hT hh r n)
  have hf : (119 - (r.size : Int)).tmod 64 = (((119 - r.size) % 64 : Nat) : Int) := by rw [Int.tmod_eq_emod_of_nonneg (by omega)]; omega
  have hf2 : IntKind.i64.wrap (119 - (r.size : Int)) = 119 - (r.size : Int) := IntWalk.i64_in _ (by omega)
  have RP := fun w => Try.strings_Repeat ⟨#[0]⟩ ((119 - r.size) % 64) w (by omega) (by show 1 * _ ≤ _; omega)
  have nr := rep_zero ((119 - r.size) % 64)
  have NB := fun w => number_c (8 * n) 8 (by omega) (Nat.le_refl _) w
  have NC := NB
  rw [show ((8 * n : Nat) : Int) = 8 * (n : Int) by omega, show ((8 : Nat) : Int) = 8 from rfl] at NC
  rw [show ((8 * n : Nat) : Int) = IntKind.u64.wrap (8 * (n : Int)) by rw [wrap64u]; omega, show ((8 : Nat) : Int) = 8 from rfl] at NB
  have nn := bsN_strN _ (numP_lt (8 * n) 8 8)
  obtain ⟨R, hR⟩ : ∃ R, (⟨(Lib.repeatL [(0 : UInt8)] ((119 - r.size) % 64)).toArray⟩ : ByteArray) = R := ⟨_, rfl⟩
  obtain ⟨N8, hN8⟩ : ∃ R, strN (numP (8 * n) 8 8) = R := ⟨_, rfl⟩
  have RP2 : ∀ w, Calls Try.prog 106 #[.string ⟨#[0]⟩, .int .i64 (((119 - r.size) % 64 : Nat) : Int)] w fun e w' => e = .returned (.string R) ∧ Below w.heap.size w w' := by rw [← hR]; exact RP
  rw [hR] at nr
  rw [hN8] at NB NC nn
  clear RP hR hN8
  have pd : bsN (⟨#[128]⟩ ++ R ++ N8) = padB (bsN r).length n := by rw [bsN_append, bsN_append, nr, nn, bsN_len]; rfl
  have pz : (⟨#[128]⟩ ++ R ++ N8 : ByteArray).size = (padB (bsN r).length n).length := by rw [← pd, bsN_len]
  have pl := padB_len (bsN r).length n
  have wl : r.size + (⟨#[128]⟩ ++ R ++ N8 : ByteArray).size ≤ 2000000000 := by omega
  have WR := fun (W : World) (gX : Nat) (hW : W.heap[gX]? = some (.cells (dig T hx r n) 153 (0, 0))) => write_c T K hx r (⟨#[128]⟩ ++ R ++ N8) n hT hK hh sK sh hTK wl hn gX W hW
  rw [pd, pz] at WR
  have zR : R.size = (119 - r.size) % 64 := by rw [← bsN_len, nr, List.length_replicate]
  have zN : N8.size = 8 := by rw [← bsN_len, nn, numP_len]
  have hfl : (119 - r.size) % 64 < 64 := by omega
  have RP2 := Aside0.mk RP2
  have NB := Aside0.mk NB
  have NC := Aside0.mk NC
  have WR := Aside0.mk WR
  have PD := Aside0.mk (And.intro pd pz)
  clear nr nn pd pz pl wl
  generalize (119 - r.size) % 64 = fl at *
  clear hg hg8 zd
  go_enter Try.func86, Try.ntmps86
  go_wp2_with (first
    | ((with_reducible refine gate_dst (N := 10) rfl ?_); refine wpList_load_row rfl 153 (.tmp 9) rfl g rfl 153 (dig T hx r n) (0, 0) _ HG.out Try.underlying153 rfl HI.out ?_)
    | ((with_reducible refine gate_dst (N := 3) rfl ?_); refine box_event ?hg (N := 3) ?hd (cs := ZC) (t := 153) ?hr ?_; (case hd => rfl); (case hg => rfl); (case hr => first | (go_simp; done) | (go_simp; rfl)); intro gX hg W_ hb hbb; have n_ : Aside0 (Mem.Own w W_ [(gX, ZC, 153)]) := ⟨OW.out.new hg hb hbb⟩; clear OW hb hbb hg; have OW := n_; clear n_)
    | ((with_reducible refine gate_store (t := 153) (p := 3) rfl ?_); refine wpList_store_row rfl 153 (.tmp 3) (.tmp 10) rfl gX (dig T hx r n) rfl rfl 153 _ (OW.out.blk 0 rfl) HI.out (by rw [HD.out, zsize]) HO.out ?_; have n_ : Aside0 (Mem.Own w (_) [(gX, dig T hx r n, 153)]) := ⟨OW.out.row 0 rfl (dig T hx r n)⟩; clear OW; have OW := n_; clear n_; have cr : _ = some (Value.string r) := (OW.out.cell 0 rfl 80).trans HR.out))
  clear cr hf hf2
  have OW2 := OW
  generalize World.setRow _ _ _ = W1 at OW OW2 ⊢
  clear OW2
  have k0 : W1.cell? ⟨g, 81, none⟩ = some (.int .u64 (n : Int)) := OW.out.old HG8.out
  go_region_with (first
    | (go_at_call 106; with_reducible refine (RP2.out _).mono ?_; rintro e w_ ⟨rfl, hB⟩; have n_ : Aside0 (Mem.Own w (w_) [(gX, dig T hx r n, 153)]) := ⟨OW.out.drew.step hB⟩; clear OW hB; have OW := n_; clear n_; have k1 : w_.cell? ⟨g, 81, none⟩ = some (.int .u64 (n : Int)) := OW.out.old HG8.out)
    | (go_at_call 107; (first | with_reducible refine (NB.out _).mono ?_ | with_reducible refine (NC.out _).mono ?_); rintro e w_ ⟨rfl, hB⟩; have n_ : Aside0 (Mem.Own w (w_) [(gX, dig T hx r n, 153)]) := ⟨OW.out.step hB⟩; clear OW hB; have OW := n_; clear n_)
    | (go_at_call 85; with_reducible refine (WR.out _ _ (OW.out.blk 0 rfl)).mono ?_; rintro e w_ ⟨rfl, s, hs, hD⟩; have OW3 := Aside0.mk (own_dg OW.out 0 rfl hD); clear OW hD; have OW := OW3; clear OW3))
  all_goals
    have lS := (hsN_len K hx (bsN r ++ padB (bsN r).length n) ((r.size + (padB (bsN r).length n).length) / 64)).trans hh
    have sS := hsN_small K hx (bsN r ++ padB (bsN r).length n) sh ((r.size + (padB (bsN r).length n).length) / 64)
    have HF : Aside0 (finN K hx (bsN r) n = outN (hsN K hx (bsN r ++ padB (bsN r).length n) ((r.size + (padB (bsN r).length n).length) / 64)) 8) := ⟨by rw [finN, bsN_len]⟩
    generalize hsN K hx (bsN r ++ padB (bsN r).length n) ((r.size + (padB (bsN r).length n).length) / 64) = hv at *
    obtain ⟨a0, a1, a2, a3, a4, a5, a6, a7, rfl⟩ : ∃ a0 a1 a2 a3 a4 a5 a6 a7, hv = [a0, a1, a2, a3, a4, a5, a6, a7] := ⟨_, _, _, _, _, _, _, _, eight hv lS⟩
    have e8 : arrW [a0, a1, a2, a3, a4, a5, a6, a7] = #[.int .u32 (a0 : Int), .int .u32 (a1 : Int), .int .u32 (a2 : Int), .int .u32 (a3 : Int), .int .u32 (a4 : Int), .int .u32 (a5 : Int), .int .u32 (a6 : Int), .int .u32 (a7 : Int)] := rfl
    have c0 := (OW.out.cell 0 rfl 72).trans (dig_h (h := [a0, a1, a2, a3, a4, a5, a6, a7]) hT lS 0 (by decide))
    have c1 := (OW.out.cell 0 rfl 73).trans (dig_h (h := [a0, a1, a2, a3, a4, a5, a6, a7]) hT lS 1 (by decide))
    have c2 := (OW.out.cell 0 rfl 74).trans (dig_h (h := [a0, a1, a2, a3, a4, a5, a6, a7]) hT lS 2 (by decide))
    have c3 := (OW.out.cell 0 rfl 75).trans (dig_h (h := [a0, a1, a2, a3, a4, a5, a6, a7]) hT lS 3 (by decide))
    have c4 := (OW.out.cell 0 rfl 76).trans (dig_h (h := [a0, a1, a2, a3, a4, a5, a6, a7]) hT lS 4 (by decide))
    have c5 := (OW.out.cell 0 rfl 77).trans (dig_h (h := [a0, a1, a2, a3, a4, a5, a6, a7]) hT lS 5 (by decide))
    have c6 := (OW.out.cell 0 rfl 78).trans (dig_h (h := [a0, a1, a2, a3, a4, a5, a6, a7]) hT lS 6 (by decide))
    have c7 := (OW.out.cell 0 rfl 79).trans (dig_h (h := [a0, a1, a2, a3, a4, a5, a6, a7]) hT lS 7 (by decide))
    simp only [List.getD_cons_zero, List.getD_cons_succ] at c0 c1 c2 c3 c4 c5 c6 c7
    have HBW := Aside0.mk OW.out.below
    clear OW
    go_wp2_with fail
    clear c0 c1 c2 c3 c4 c5 c6 c7
    go_loopw [29, 5] (fun v29 v5 wr => ∃ (i : Nat) (o : ByteArray), v29 = .int .i64 i ∧ v5 = .string o ∧ i ≤ 8 ∧ bsN o = outN [a0, a1, a2, a3, a4, a5, a6, a7] i ∧ Aside0 (Below w.heap.size w wr)) (fun v _ _ => 8 - (intOf v).toNat)
    case atStart => exact ⟨0, ⟨#[]⟩, rfl, rfl, Nat.zero_le _, rfl, HBW⟩
    case round =>
      clear HBW
      obtain ⟨i, o, rfl, rfl, hi, ho, HB⟩ := hrel
      have oz : o.size = 4 * i := by rw [← bsN_len, ho, outN_len]
      by_cases hlt : i < 8
      · obtain ⟨x, hx'⟩ : ∃ x, [a0, a1, a2, a3, a4, a5, a6, a7].getD i 0 = x := ⟨_, rfl⟩
        have sx := sS i
        have EW := arrW_get [a0, a1, a2, a3, a4, a5, a6, a7] i (by simpa using hlt)
        rw [hx'] at sx EW
        have HO' : Aside0 (outN [a0, a1, a2, a3, a4, a5, a6, a7] (i + 1) = outN [a0, a1, a2, a3, a4, a5, a6, a7] i ++ numP x 4 4) := ⟨by rw [outN, hx']⟩
        rw [e8, show i = ((i : Nat) : Int).toNat from rfl] at EW
        have RI := fun w => run_index_array (P := Try.prog) w 29 27 8 _ .i64 i _ Try.underlying29 (by omega) (by omega) EW (by kernel_rfl) Try.underlying27
        have NN := fun w => number_c x 4 (by omega) (by decide) w
        rw [show ((4 : Nat) : Int) = 4 from rfl] at NN
        have nz := bsN_strN _ (numP_lt x 4 4)
        generalize strN (numP x 4 4) = N4 at NN nz
        have z4 : N4.size = 4 := by rw [← bsN_len, nz, numP_len]
        have HN := Aside0.mk nz
        have HOO := Aside0.mk ho
        have NN := Aside0.mk NN
        have sx2 : (x : Int) < 4294967296 := by omega
        have hi8 : (i : Int) < 8 := by omega
        clear ho nz EW e8 hx' sS
        go_wp2_with (first
          | (go_at_call 107; with_reducible refine (NN.out _).mono ?_; rintro e w_ ⟨rfl, hB⟩; have n_ : Aside0 (Below w.heap.size w w_) := ⟨below_step HB.out hB⟩; clear HB hB; have HB := n_; clear n_))
        exact ⟨⟨i + 1, o ++ N4, by go_num, rfl, by omega, by rw [bsN_append, HN.out, HOO.out, HO'.out], HB⟩, by simp [intOf]; omega⟩
      · obtain rfl : i = 8 := by omega
        have HOO := Aside0.mk ho
        go_wp2_with fail
        go_ret
        exact ⟨o, rfl, by rw [HF.out, HOO.out], HB.out⟩
theorem own_one {w W : World} {g : Nat} {cs : Array Value} {t : TypeId} (hB : Below w.heap.size w W) (hg : w.heap.size ≤ g) (hb : W.heap[g]? = some (.cells cs t (0, 0))) : Mem.Own w W [(g, cs, t)] := by
  have key : ∀ (k : Nat) (b : Mem.Blk), [(g, cs, t)][k]? = some b → k = 0 ∧ b = (g, cs, t) := fun k b e => by
    cases k with
    | zero => exact ⟨rfl, by simpa using e.symm⟩
    | succ k => simp at e
  refine ⟨hB, fun k b e => ?_, fun i j a b ea eb hij => ?_⟩
  · obtain ⟨_, rfl⟩ := key k b e
    exact ⟨hg, hb⟩
  · have := (key i a ea).1
    have := (key j b eb).1
    omega
def shaN (K H bs : List Nat) : List Nat := finN K (hsN K H bs (bs.length / 64)) (bs.drop (64 * (bs.length / 64))) bs.length
theorem sum_c (T : List Value) (K H : List Nat) (b : ByteArray) (hT : T.length = 72) (hK : K.length = 64) (hh : H.length = 8) (sK : Small K) (sh : Small H) (hTK : ∀ i, i < 64 → T[i]? = some (.int .u32 ((K.getD i 0 : Nat) : Int)))
    (h1 : ∀ v ∈ T, v.oneCell' = true) (hTH : T.drop 64 = (arrW H).toList) (hb : b.size ≤ 1000000000) (w : World) :
    Calls Try.prog 58 #[.agg T.toArray, .string b] w fun e w' => ∃ S : ByteArray, e = .returned (.string S) ∧ bsN S = shaN K H (bsN b) ∧ Below w.heap.size w w' := by
  have OW := Aside0.mk (Mem.Own.nil w)
  have HI : Aside0 ((Try.prog.info? 31).map (·.size) = some T.toArray.size) := ⟨by simp only [List.size_toArray, hT]; kernel_rfl⟩
  have HN := Aside0.mk (fun W => new_c T H hT hh hTH W)
  have e0 : bsN (⟨#[]⟩ : ByteArray) ++ bsN b = bsN b := rfl
  have z0 : (⟨#[]⟩ : ByteArray).size = 0 := rfl
  have HW := fun (W : World) (g : Nat) (hg : W.heap[g]? = some (.cells (dig T H ⟨#[]⟩ 0) 153 (0, 0))) => write_c T K H ⟨#[]⟩ b 0 hT hK hh sK sh hTK (by rw [z0]; omega) (by decide) g W hg
  simp only [e0, z0, Nat.zero_add] at HW
  have HW := Aside0.mk HW
  have hl := (hsN_len K H (bsN b) (b.size / 64)).trans hh
  have hs := hsN_small K H (bsN b) sh (b.size / 64)
  have HS := Aside0.mk (fun (W : World) (g : Nat) (r : ByteArray) (hr : r.size < 64) (hg : W.heap[g]? = some (.cells (dig T (hsN K H (bsN b) (b.size / 64)) r b.size) 153 (0, 0))) => dsum_c T K _ r b.size hT hK hl sK hs hTK h1 hr (by omega) g W hg)
  have LB := Aside0.mk (bsN_len b)
  clear hTK h1 hTH sK sh e0 z0 hs hl
  go_enter Try.func58, Try.ntmps58
  go_wp2_with (first
    | ((with_reducible refine gate_dst (N := 2) rfl ?_); refine box_event ?hg (N := 2) ?hd (cs := T.toArray) (t := 31) ?hr ?_; (case hd => rfl); (case hg => rfl); (case hr => first | (go_simp; done) | (go_simp; rfl)); intro gT hg W_ hb hbb; have n_ : Aside0 (Mem.Own w W_ [(gT, T.toArray, 31)]) := ⟨OW.out.new hg hb hbb⟩; clear OW hb hbb hg; have OW := n_; clear n_)
    | ((with_reducible refine gate_dst (N := 6) rfl ?_); refine wpList_load_row rfl 31 (.tmp 2) rfl gT rfl 31 T.toArray (0, 0) _ (OW.out.blk 0 rfl) Try.underlying31 rfl HI.out ?_)
    | (go_at_call 84; with_reducible refine (HN.out _).mono ?_; rintro e w_ ⟨gD, rfl, hge, hbk, hB⟩; have n_ := Aside0.mk (own_one (below_step OW.out.below hB) (Nat.le_trans OW.out.size hge) hbk); clear OW hge hbk hB; have OW := n_; clear n_)
    | (go_at_call 85; with_reducible refine (HW.out _ _ (OW.out.blk 0 rfl)).mono ?_; rintro e w_ ⟨rfl, s, hs, hD⟩; have n_ := Aside0.mk (own_dg OW.out 0 rfl hD); have hr : s.size < 64 := (by rw [← bsN_len, hs, List.length_drop, LB.out]; omega); have HSS := Aside0.mk hs; clear OW hD hs; have OW := n_; clear n_)
    | (go_at_call 86; with_reducible refine (HS.out _ _ _ hr (OW.out.blk 0 rfl)).mono ?_; rintro e w_ ⟨S, rfl, hS, hB⟩; have n_ : Aside0 (Below w.heap.size w w_) := ⟨below_step OW.out.below hB⟩; have HR := Aside0.mk hS; clear OW hB hS; have OB := n_; clear n_))
  go_ret
  exact ⟨S, rfl, by rw [HR.out, HSS.out, shaN, LB.out], OB.out⟩
end Go.Proofs.Ytondnammkcgjpaa.ShaP
namespace Go.Proofs.Ytondnammkcgjpaa.Ref01
open Go Go.RowKit Go.Proofs.YtondnammkcgjpaaW.PrintWords Go.Proofs.YtondnammkcgjpaaW.PrintLast Go.Proofs.YtondnammkcgjpaaW.PrintMore
def bsF (s : ByteArray) : List Int := s.data.toList.map fun b => (b.toNat : Int)
theorem bsF_len (s : ByteArray) : (bsF s).length = s.size := by simp [bsF]
abbrev u8L (xs : List Int) : List Value := xs.map (Value.int .u8)
def lenV : Value → Nat | .slice _ n _ => n | _ => 0
def padN (n : Nat) : Nat := (120 - n % 64) % 64
def lv (L : Nat) : Nat → Nat
  | 0 => L
  | d + 1 => lv L d / 256
theorem lv_le (L d : Nat) : lv L d ≤ L := by
  induction d with
  | zero => exact Nat.le_refl _
  | succ d ih => exact Nat.le_trans (Nat.div_le_self _ _) ih
def pad (s : ByteArray) (k : Nat) : List Int := bsF s ++ [128] ++ List.replicate k 0
theorem pad_len (s : ByteArray) (k : Nat) : (pad s k).length = s.size + 1 + k := by simp [pad, bsF_len]; omega
theorem pad_succ (s : ByteArray) (k : Nat) : pad s (k + 1) = pad s k ++ [0] := by simp [pad, List.replicate_succ']
def lenB (L : Nat) : Nat → List Int
  | 0 => []
  | i + 1 => lenB L i ++ [((lv L (7 - i) % 256 : Nat) : Int)]
theorem lenB_len (L i : Nat) : (lenB L i).length = i := by
  induction i with
  | zero => rfl
  | succ i ih => simp [lenB, ih]
theorem info5 : (Try.prog.info? 5).map (fun i => (i.zero, i.size, i.bytes)) = some (some (.int .u8 0), 1, 1) := by kernel_rfl
theorem bytes_slice {w : World} {base n : Nat} {v : Value} {xs : List Value} (h : Mem.Bytes w base 5 v n xs) : ∃ A c, v = .slice A n c := by
  rcases h with ⟨_, ⟨rfl, rfl⟩ | ⟨g, cap, _, rfl, _⟩⟩ | ⟨_, g, cap, _, rfl, _⟩
  · exact ⟨_, _, rfl⟩
  · exact ⟨_, _, rfl⟩
  · exact ⟨_, _, rfl⟩
theorem bytes_len {w : World} {base n m : Nat} {v : Value} {xs ys : List Value} (h : Mem.Bytes w base 5 v n xs) (hn : n = m) (hx : xs = ys) : Mem.Bytes w base 5 v m ys := by subst hn; subst hx; exact h
theorem lit_cell (W : World) (u : Value) (t : TypeId) : (W.alloc (.cells #[u] t)).cell? ⟨W.heap.size, 0, none⟩ = some u := (blk_cell (blk_new _ _) 0).trans rfl
theorem bytes_alloc {w : World} {base n : Nat} {v : Value} {xs : List Value} (h : Mem.Bytes w base 5 v n xs) (o : Obj) : Mem.Bytes (w.alloc o) base 5 v n xs := h.below ((Below.refl _ _).alloc (Nat.le_refl _) _)
theorem u8_one (xs : List Int) (x : Int) : u8L xs ++ [Value.int .u8 x] = u8L (xs ++ [x]) := by simp
theorem start_below (w : World) (s : ByteArray) (o : Obj) : Below w.heap.size w ((Lib.bytesWorld w 5 s).alloc o) := (Lib.bytesWorld_below w 5 s).alloc (Lib.bytesWorld_below w 5 s).size o
theorem u8L_get (xs : List Int) (j : Nat) (h : j < xs.length) : (u8L xs)[j]? = some (.int .u8 (xs.getD j 0)) := by
  rw [List.getElem?_map, List.getElem?_eq_getElem h, List.getD_eq_getElem?_getD, List.getElem?_eq_getElem h]; rfl
def hsF (ms : List Int) : Nat → List Int
  | 0 => hF
  | k + 1 => blockF kF (hsF ms k) (ms.drop (64 * k))
theorem hsF_len (ms : List Int) (k : Nat) : (hsF ms k).length = 8 := by
  induction k with
  | zero => rfl
  | succ k ih => rw [hsF, blockF, sumW_len, ih]
theorem conv4 (W : World) (x0 x1 x2 x3 : Int) : (convert 120 9 (.slice (some ⟨W.heap.size, 0, none⟩) 4 4)).run Try.prog (W.alloc (.cells #[.int .u8 x0, .int .u8 x1, .int .u8 x2, .int .u8 x3] 5)).drew = .ok (.string (strOfNums [x0, x1, x2, x3])) (W.alloc (.cells #[.int .u8 x0, .int .u8 x1, .int .u8 x2, .int .u8 x3] 5)).drew :=
  own_string (base := W.heap.size) (e' := 5) (n := 4) (xs := [x0, x1, x2, x3]) Try.underlying120 Try.underlying5 Try.underlying9 (show (W.alloc _).ownsRow _ _ _ _ _ _ from World.ownsRow_lit W #[.int .u8 x0, .int .u8 x1, .int .u8 x2, .int .u8 x3] 4 (Nat.le_refl _) (by decide) rfl)
def msgF (s : ByteArray) : List Int := pad s (padN (s.size + 1)) ++ lenB (s.size * 8) 8
theorem blk8 {kx hx bs : List Int} (h : hx.length = 8) : (arrV (blockF kx hx bs)).size = 8 := by rw [arrV_size, blockF, sumW_len, h]
def w4 (a : Int) : List Int := [IntKind.u64.wrap (a.tdiv 16777216) % 256, (IntKind.u64.wrap (a.tdiv 65536)).tmod 256 % 256, (IntKind.u64.wrap (a.tdiv 256)).tmod 256 % 256, a.tmod 256 % 256]
def by4 (a : Int) : ByteArray := strOfNums (w4 a)
def outF (h : List Int) : Nat → ByteArray
  | 0 => ⟨#[]⟩
  | i + 1 => outF h i ++ by4 (h.getD i 0)
theorem outF_size (h : List Int) (i : Nat) : (outF h i).size = 4 * i := by
  induction i with
  | zero => rfl
  | succ i ih => rw [outF, ByteArray.size_append, ih]; show 4 * i + 4 = _; omega
def sumF (s : ByteArray) : ByteArray := outF (hsF (msgF s) ((s.size + 1 + padN (s.size + 1) + 8) / 64)) 8
theorem add_at (g q j : Nat) : (⟨g, q, none⟩ : Addr).add j = ⟨g, q + j, none⟩ := by unfold Addr.add; split <;> simp_all
theorem sum_c (s : ByteArray) (hs : s.size ≤ 1000000000) (w : World) :
    Calls Try.prog 68 #[.string s] w fun e w' => e = .returned (.string (sumF s)) ∧ Below w.heap.size w w' := by
  have hs3 : s.size ≤ maxLen := by unfold maxLen; omega
  have kc := fun (W : World) => Lib.run_convert_string_bytes (P := Try.prog) W 9 120 5 s Try.underlying9 Try.underlying120 Try.underlying5
  have kcv := conv4
  have HS3 := Lib.hid hs3
  have HM1 := Lib.hid (show s.size + 1 ≤ maxLen by unfold maxLen; omega)
  clear hs3
  go_enter Try.func68, Try.ntmps68
  go_wp2_with (first
    | ((with_reducible refine gate_dst (N := 16) rfl ?_); refine Mem.wpList_append_bytes _ rfl (.tmp 14) (.tmp 15) 120 rfl w.heap.size 5 (.int .u8 0) 1 Try.underlying120 info5 rfl rfl (bytes_alloc (Mem.Bytes.of_string w 5 s w.heap.size (Nat.le_refl _) HS3.out) _) ⟨(Lib.bytesWorld w 5 s).heap.size, 0, none⟩ 1 (.int .u8 128) rfl (lit_cell _ _ _) rfl HM1.out (by omega) (start_below w s _).size ?_; intro v1 w1 hb1 hg1 hat1 hbl1; have OW := Aside0.mk (Mem.Own.of_below ((start_below w s _).trans hbl1)); have BO := Aside0.mk (bytes_len hb1 (m := s.size + 1 + 0) rfl (ys := u8L (pad s 0)) (by simp [pad, bsF])); obtain ⟨A1, c1, rfl⟩ := bytes_slice hb1; clear hb1 hg1 hat1 hbl1))
  clear kc HM1
  go_loopw [3] (fun v3 wr => ∃ k A c, v3 = .slice A (s.size + 1 + k) c ∧ k ≤ padN (s.size + 1) ∧ Aside0 (Mem.Bytes wr w.heap.size 5 v3 (s.size + 1 + k) (u8L (pad s k))) ∧ Aside0 (Mem.Own w wr [])) (fun v _ => s.size + 1 + padN (s.size + 1) - lenV v)
  case atStart => exact ⟨0, A1, c1, rfl, Nat.zero_le _, BO, OW⟩
  case round =>
    clear BO OW
    obtain ⟨k, A, c, rfl, hk, BO, OW⟩ := hrel
    have HP := Aside0.mk (show padN (s.size + 1) ≤ 63 ∧ (k < padN (s.size + 1) → (s.size + 1 + k) % 64 ≠ 56) ∧ (k = padN (s.size + 1) → (s.size + 1 + k) % 64 = 56) from by unfold padN at hk ⊢; omega)
    have HK := Aside0.mk hk
    clear hk
    obtain ⟨N, hN⟩ : ∃ N, s.size + 1 + k = N := ⟨_, rfl⟩
    have HN := Aside0.mk hN
    rw [hN] at BO HP
    rw [hN]
    clear hN
    by_cases hlt : k < padN (s.size + 1)
    · have ht : (((N : Int) % 64) != 56) = true := by
        have := HP.out.2.1 hlt
        rw [bne_iff_ne]; omega
      have HLT := Aside0.mk hlt
      clear hlt
      have HM := Aside0.mk (show N + 1 ≤ maxLen by have := HN.out; have := HP.out.1; have := HLT.out; unfold maxLen; omega)
      have HB := Aside0.mk (show (N + 1) * 1 ≤ 140737488355328 by have := HN.out; have := HP.out.1; have := HLT.out; omega)
      go_wp2_with (first
        | ((with_reducible refine gate_dst (N := 23) rfl ?_); refine Mem.wpList_append_bytes _ rfl (.tmp 21) (.tmp 22) 120 rfl w.heap.size 5 (.int .u8 0) 1 Try.underlying120 info5 rfl rfl (bytes_alloc BO.out _) ⟨wr.heap.size, 0, none⟩ 1 (.int .u8 0) rfl (lit_cell _ _ _) rfl HM.out HB.out (OW.out.below.alloc OW.out.size _).size ?_; intro v1 w1 hb1 hg1 hat1 hbl1; have O2 := Aside0.mk (Mem.Own.of_below ((OW.out.below.alloc OW.out.size _).trans hbl1)); have B2 := Aside0.mk hb1; obtain ⟨A2, c2, rfl⟩ := bytes_slice hb1; clear hb1 hg1 hat1 hbl1))
      refine ⟨⟨k + 1, A2, c2, ?_, ?_, ?_, O2⟩, ?_⟩
      · rw [← HN.out]; rfl
      · have := HLT.out; omega
      · exact ⟨bytes_len B2.out (by rw [← HN.out]; rfl) (by rw [pad_succ, u8_one])⟩
      · have := HN.out; have := HLT.out; simp only [lenV]; omega
    · obtain rfl : k = padN (s.size + 1) := by have := HK.out; omega
      have ht : (((N : Int) % 64) != 56) = false := by
        have := HP.out.2.2 rfl
        rw [bne_eq_false_iff_eq]; omega
      have HP2 := Aside0.mk (HP.out.2.2 rfl)
      go_wp2_with fail
      have HP3 := Aside0.mk HP.out.1
      clear HP ht hlt HK
      obtain ⟨L, hL⟩ : ∃ L : Nat, L = s.size * 8 := ⟨_, rfl⟩
      have hL2 : (s.size : Int) * 8 = (L : Int) := by omega
      rw [hL2]
      have HL := Aside0.mk hL
      clear hL hL2
      go_loopw [3, 5] (fun v3 v5 wr => ∃ (i : Nat) (A : Option Addr) (c : Nat), v5 = .int .i64 i ∧ v3 = .slice A (N + i) c ∧ i ≤ 8 ∧ Aside0 (Mem.Bytes wr w.heap.size 5 v3 (N + i) (u8L (pad s (padN (s.size + 1)) ++ lenB L i))) ∧ Aside0 (Mem.Own w wr [])) (fun _ v _ => 8 - (intOf v).toNat)
      case atStart => exact ⟨0, A, c, rfl, rfl, Nat.zero_le _, ⟨bytes_len BO.out rfl (by simp [lenB])⟩, OW⟩
      case round =>
        clear BO OW
        obtain ⟨i, A, c, rfl, rfl, hi, BO, OW⟩ := hrel
        by_cases hlt : i < 8
        · have hi7 : i ≤ 7 := by omega
          go_wp2_with fail
          go_loop [6, 7] (fun v6 v7 => ∃ j : Nat, v7 = .int .i64 j ∧ i ≤ j ∧ j ≤ 7 ∧ v6 = .int .u64 ((lv L (j - i) : Nat) : Int)) (fun _ v => 7 - (intOf v).toNat)
          case atStart => exact ⟨i, rfl, Nat.le_refl _, hi7, by rw [Nat.sub_self]; rfl⟩
          case round =>
            obtain ⟨j, rfl, hij, hj7, rfl⟩ := hrel
            by_cases hjt : j < 7
            · have HX := Aside0.mk (show lv L (j + 1 - i) = lv L (j - i) / 256 from by rw [show j + 1 - i = (j - i) + 1 by omega]; rfl)
              obtain ⟨X, hX⟩ : ∃ X, lv L (j - i) = X := ⟨_, rfl⟩
              have hXL : (X : Int) ≤ 8000000000 := by have := lv_le L (j - i); have := HL.out; omega
              rw [hX] at HX ⊢
              clear hX
              go_wp2_with fail
              exact ⟨⟨j + 1, by go_num, by omega, by omega, by rw [HX.out]; rfl⟩, by simp [intOf]; omega⟩
            · obtain rfl : j = 7 := by omega
              have HX := Aside0.mk (show lenB L (i + 1) = lenB L i ++ [((lv L (7 - i) % 256 : Nat) : Int)] from rfl)
              obtain ⟨X, hX⟩ : ∃ X, lv L (7 - i) = X := ⟨_, rfl⟩
              rw [hX] at HX ⊢
              clear hX
              have HM := Aside0.mk (show N + i + 1 ≤ maxLen by have := HN.out; have := HP3.out; unfold maxLen; omega)
              have HB := Aside0.mk (show (N + i + 1) * 1 ≤ 140737488355328 by have := HN.out; have := HP3.out; omega)
              go_wp2_with (first
                | ((with_reducible refine gate_dst (N := 45) rfl ?_); refine Mem.wpList_append_bytes _ rfl (.tmp 40) (.tmp 44) 120 rfl w.heap.size 5 (.int .u8 0) 1 Try.underlying120 info5 rfl rfl (bytes_alloc BO.out _) ⟨wr.heap.size, 0, none⟩ 1 (.int .u8 ((X : Int) % 256)) rfl (lit_cell _ _ _) rfl HM.out HB.out (OW.out.below.alloc OW.out.size _).size ?_; intro v1 w1 hb1 hg1 hat1 hbl1; have O2 := Aside0.mk (Mem.Own.of_below ((OW.out.below.alloc OW.out.size _).trans hbl1)); have B2 := Aside0.mk hb1; obtain ⟨A2, c2, rfl⟩ := bytes_slice hb1; clear hb1 hg1 hat1 hbl1))
              exact ⟨⟨i + 1, A2, c2, by go_num, rfl, by omega, ⟨bytes_len B2.out rfl (by rw [u8_one, HX.out, List.append_assoc]; rfl)⟩, O2⟩, by simp [intOf]; omega⟩
        · obtain rfl : i = 8 := by omega
          have hT : (N + 8) % 64 = 0 := by have := HP2.out; omega
          obtain ⟨M, hM⟩ : ∃ M, N + 8 = 64 * M := ⟨(N + 8) / 64, by omega⟩
          have HM := Aside0.mk (And.intro hM hT)
          clear hM hT
          obtain ⟨g, cap, eb, hbase, hcap, hcm, hcell⟩ := BO.out.cell (by omega)
          injection eb with eA _ ec
          subst eA ec
          have HW := Aside0.mk OW.out.below
          have hml : (pad s (padN (s.size + 1)) ++ lenB L 8).length = N + 8 := by rw [List.length_append, pad_len, lenB_len, HN.out]
          obtain ⟨ms, hms⟩ : ∃ ms, pad s (padN (s.size + 1)) ++ lenB L 8 = ms := ⟨_, rfl⟩
          rw [hms] at hcell hml
          have HMS := Aside0.mk hms
          have CE := Aside0.mk (show ∀ j, j < N + 8 → wr.cell? ⟨g, j, none⟩ = some (.int .u8 (ms.getD j 0)) from fun j hj => hcell j _ (u8L_get ms j (by omega)))
          clear hms hml
          have LG := Aside0.mk hbase
          clear BO OW hcell hbase
          have OW := Aside0.mk (Mem.Own.nil wr)
          obtain ⟨w0, rfl⟩ : ∃ w0 : World, w0 = wr := ⟨_, rfl⟩
          
          unfold maxLen at hcm
          go_wp2_with (first
            | (go_at_call 91; refine (k_c _).mono ?_; rintro e W5 ⟨rfl, hbb⟩; have n_ := Aside0.mk (OW.out.step hbb); clear OW; have OW := n_; clear n_ hbb)
            | (go_at_call 92; refine (h_c _).mono ?_; rintro e W5 ⟨rfl, hbb⟩; have n_ := Aside0.mk (OW.out.step hbb); clear OW; have OW := n_; clear n_ hbb)
            | ((with_reducible refine gate_dst (N := 8) rfl ?_); refine box_event ?hg (N := 8) ?hd (cs := arrV z64) (t := 142) ?hr ?_; (case hd => rfl); (case hg => rfl); (case hr => first | (go_simp; done) | (go_simp; rfl)); intro gK hg W_ hb hbb; have n_ : Aside0 (Mem.Own w0 W_ [(gK, arrV z64, 142)]) := ⟨OW.out.new hg hb hbb⟩; clear OW hb hbb hg; have OW := n_; clear n_)
            | ((with_reducible refine gate_dst (N := 9) rfl ?_); refine box_event ?hg (N := 9) ?hd (cs := arrV z8) (t := 144) ?hr ?_; (case hd => rfl); (case hg => rfl); (case hr => first | (go_simp; done) | (go_simp; rfl)); intro gH hg W_ hb hbb; have n_ : Aside0 (Mem.Own w0 W_ [(gK, arrV kF, 142), (gH, arrV z8, 144)]) := ⟨OW.out.new hg hb hbb⟩; clear OW hb hbb hg; have OW := n_; clear n_)
            | ((with_reducible refine gate_store (t := 142) (p := 8) rfl ?_); refine wpList_store_row rfl 142 (.tmp 8) (.tmp 46) rfl gK (arrV kF) rfl rfl 142 _ (OW.out.blk 0 rfl) (by kernel_rfl) rfl (arrV_one _) ?_; have n_ : Aside0 (Mem.Own w0 (_) [(gK, arrV kF, 142)]) := ⟨OW.out.row 0 rfl (arrV kF)⟩; clear OW; have OW := n_; clear n_)
            | ((with_reducible refine gate_store (t := 144) (p := 9) rfl ?_); refine wpList_store_row rfl 144 (.tmp 9) (.tmp 47) rfl gH (arrV hF) rfl rfl 144 _ (OW.out.blk 1 rfl) (by kernel_rfl) rfl (arrV_one _) ?_; have n_ : Aside0 (Mem.Own w0 (_) [(gK, arrV kF, 142), (gH, arrV hF, 144)]) := ⟨OW.out.row 1 rfl (arrV hF)⟩; clear OW; have OW := n_; clear n_))
          obtain ⟨T, hT⟩ : ∃ T, N + 8 = T := ⟨_, rfl⟩
          rw [hT] at hcap CE ⊢
          have HT := Aside0.mk (show T = 64 * M from hT ▸ HM.out.1)
          have HT2 := Aside0.mk hT
          clear hT
          have LK := Aside0.mk (show kF.length = 64 from rfl)
          go_loopw [10] (fun v W => ∃ q k : Nat, v = .int .i64 q ∧ q = 64 * k ∧ k ≤ M ∧ Aside0 (Mem.Own w0 (W) [(gK, arrV kF, 142), (gH, arrV (hsF ms k), 144)])) (fun v _ => T - (intOf v).toNat)
          case atStart => exact ⟨0, 0, rfl, rfl, Nat.zero_le _, OW⟩
          case round =>
            clear OW
            obtain ⟨q, k, rfl, hq, hk, OW⟩ := hrel
            by_cases hlt : k < M
            · have q1 : q + 64 ≤ T := by have := HT.out; omega
              have hl8 := hsF_len ms k
              have sz8 : (arrV (hsF ms k)).size = 8 := (arrV_size _).trans hl8
              go_wp2_with fail
              have s1 : ((q : Int) + 64).toNat = q + 64 := by omega
              have s2 : (q : Int) + 64 ≤ (c : Int) := by omega
              have s3 : (0 : Int) ≤ (q : Int) + 64 := by omega
              have s4 : IntKind.i64.wrap ((q : Int) + 64) = (q : Int) + 64 := IntWalk.i64_in _ (by omega)
              have s6 : (q : Int) ≤ max ((q : Int) + 64) 0 := by omega
              have s7 : ¬ (c = q) := by omega
              have HQ := Aside0.mk (And.intro hq q1)
              clear hq
              refine Mem.region_still_tail 7 (by kernel_rfl) (by kernel_rfl) ?_
              intro W2 hW2
              have O2 : Aside0 (Mem.Own w0 (W2) [(gK, arrV kF, 142), (gH, arrV (hsF ms k), 144)]) := ⟨by rw [← hW2]; exact OW.out.drew⟩
              clear hW2 OW
              simp only [List.take_succ_cons, List.take_zero, List.drop_succ_cons, List.drop_zero]
              refine Mem.still_load_row rfl 142 (.tmp 8) rfl gK rfl 142 (arrV kF) (0, 0) _ (O2.out.blk 0 rfl) Try.underlying142 rfl (by kernel_rfl) ?_
              go_simp
              refine Mem.still_load_row rfl 144 (.tmp 9) rfl gH rfl 144 (arrV (hsF ms k)) (0, 0) _ (O2.out.blk 1 rfl) Try.underlying144 rfl (by rw [sz8]; kernel_rfl) ?_
              go_simp
              repeat still_step
              try refine wpStill_nil ?_
              clear s1 s2 s3 s4 s6 s7
              go_wp2_with (first
                | (go_at_call 93; refine (block_c kF (hsF ms k) (ms.drop q) LK.out hl8 ⟨g, q, none⟩ (c - q) W2 ?ha).mono ?_; (case ha => exact fun j hj => by rw [add_at]; exact O2.out.old ((CE.out (q + j) (by have := HQ.out.2; omega)).trans (by rw [List.getD_eq_getElem?_getD, List.getD_eq_getElem?_getD, List.getElem?_drop]))); rintro e W5 ⟨rfl, hbb⟩; have OW := Aside0.mk (O2.out.step hbb); clear hbb O2)
                | ((with_reducible refine gate_store (t := 144) (p := 9) rfl ?_); refine wpList_store_row rfl 144 (.tmp 9) (.tmp 61) rfl gH (arrV (blockF kF (hsF ms k) (ms.drop q))) rfl rfl 144 _ (OW.out.blk 1 rfl) (by rw [blk8 (hsF_len ms k)]; kernel_rfl) (by rw [sz8, blk8 (hsF_len ms k)]) (arrV_one _) ?_; have n_ : Aside0 (Mem.Own w0 (_) [(gK, arrV kF, 142), (gH, arrV (blockF kF (hsF ms k) (ms.drop q)), 144)]) := ⟨OW.out.row 1 rfl _⟩; clear OW; have OW := n_; clear n_))
              exact ⟨⟨q + 64, k + 1, by go_num, by have := HQ.out.1; omega, by omega, ⟨by rw [hsF, ← HQ.out.1]; exact OW.out⟩⟩, by have := HQ.out.2; simp [intOf]; omega⟩
            · obtain rfl : k = M := by omega
              have hq2 : ¬ q < T := by have := HT.out; omega
              have HQ := Aside0.mk hq
              clear hq hlt
              go_wp2_with fail
              clear hq2
              obtain ⟨hx, hhx⟩ : ∃ hx, hsF ms k = hx := ⟨_, rfl⟩
              have hxl : hx.length = 8 := hhx ▸ hsF_len ms k
              rw [hhx] at OW
              have HHX := Aside0.mk hhx
              clear hhx
              go_loopw [11, 12] (fun v11 v12 W => ∃ i : Nat, v12 = .int .i64 i ∧ i ≤ 8 ∧ v11 = .string (outF hx i) ∧ Aside0 (Mem.Own w0 (W) [(gK, arrV kF, 142), (gH, arrV hx, 144)])) (fun _ v _ => 8 - (intOf v).toNat)
              case atStart => exact ⟨0, rfl, Nat.zero_le _, rfl, OW⟩
              case round =>
                clear OW
                obtain ⟨i, rfl, hi, rfl, OW⟩ := hrel
                by_cases hlt : i < 8
                · obtain ⟨a, ha⟩ : ∃ a : Int, hx.getD i 0 = a := ⟨_, rfl⟩
                  go_wp2_with fail
                  have ca : wr.cell? ⟨gH, i, none⟩ = some (.int .u64 a) := ((OW.out.cell 1 rfl _).trans (arrV_get _ i (by omega))).trans (by rw [ha])
                  have HA := Aside0.mk (show outF hx (i + 1) = outF hx i ++ by4 a from by rw [outF, ha])
                  have hsz := outF_size hx i
                  obtain ⟨o, ho⟩ : ∃ o, outF hx i = o := ⟨_, rfl⟩
                  rw [ho] at HA hsz ⊢
                  clear ha ho
                  have hsz2 : o.size + 4 ≤ 9223372036854775807 := by omega
                  have hsz3 : ∀ x0 x1 x2 x3 : Int, (strOfNums [x0, x1, x2, x3]).size = 4 := fun _ _ _ _ => rfl
                  clear hsz
                  go_region
                  go_wp2_with fail
                  go_roundw
                  case rel => exact ⟨i + 1, by go_num, by omega, by rw [HA.out]; rfl, ⟨(OW.out.step ((Below.refl _ _).alloc (Nat.le_refl _) _)).drew⟩⟩
                  case measure => simp [intOf]; omega
                · obtain rfl : i = 8 := by omega
                  go_wp2_with fail
                  go_ret
                  exact ⟨by rw [← HHX.out, ← HMS.out, HL.out]; simp only [sumF, msgF]; rw [show k = (s.size + 1 + padN (s.size + 1) + 8) / 64 from by have := HT.out; have := HT2.out; have := HN.out; omega]; rfl, below_step HW.out OW.out.below⟩
end Go.Proofs.Ytondnammkcgjpaa.Ref01
