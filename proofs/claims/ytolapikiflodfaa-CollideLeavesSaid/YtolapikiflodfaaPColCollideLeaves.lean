/- Here is proved: what the printed functions of a claim's root come to, by a path's texts. Conditions: none. -/
import Derived.Test.YtolapikiflodfaaQCollideLeavesx19
import Derived.Test.YtolapikiflodfaaHsBCollideLeaves
namespace Go.Proofs.Ytolapikiflodfaa.PColCollideLeaves
open Go Go.RowKit Go.Proofs.YtolapikiflodfaaW.PrintWords Go.Proofs.YtolapikiflodfaaW.PrintLast Go.Proofs.YtolapikiflodfaaW.PrintMore
open Go.Proofs.Ytolapikiflodfaa.PCollideLeaves Go.Proofs.Ytolapikiflodfaa.Hsh
set_option linter.unusedVariables false
theorem Ev.pos {α : Type} {c : Prop} [Decidable c] {f g : Nat → Option α} {r : α} (h : c) (k : Ev f r) : Ev (fun n => if c then f n else g n) r := Ev.congr (fun _ => if_pos h) k
theorem Ev.neg {α : Type} {c : Prop} [Decidable c] {f g : Nat → Option α} {r : α} (h : ¬ c) (k : Ev g r) : Ev (fun n => if c then f n else g n) r := Ev.congr (fun _ => if_neg h) k
/-- the hasher of a number -/
def hsW (a0 : Int) : Hs := if Int.tmod a0 3 = 0 then hs41 else if Int.tmod a0 3 = 1 then hs42 else hs43
theorem hash_ev (a0 : Int) (s : ByteArray) (hs : s.size ≤ 1000000000) : Ev (fun k => annalistref08_Hash.f k a0 s) ((hsW a0).fn s) := by
  unfold annalistref08_Hash.f hsW
  by_cases h0 : Int.tmod a0 3 = 0
  · rw [if_pos h0]
    exact Ev.pos h0 (Ev.bind (Ev.of (fun k => annalistref08_Two.mono s k) (two_some s hs)) (Ev.now _))
  · rw [if_neg h0]
    refine Ev.neg h0 ?_
    by_cases h1 : Int.tmod a0 3 = 1
    · rw [if_pos h1]
      exact Ev.pos h1 (Ev.bind (Ev.of (fun k => annalistref08_Five.mono s k) (five_some s hs)) (Ev.now _))
    · rw [if_neg h1]
      refine Ev.neg h1 (Ev.congr (f := fun _ => some (fullF s)) (fun k => ?_) (Ev.now _))
      rw [full_some s hs]
      rfl
/-- the greatest power of two below a number -/
def hvl : Nat → Nat → Nat → Nat
  | 0, _, k => k
  | d + 1, n, k => if 2 * k < n then hvl d n (2 * k) else k
def hv (n : Nat) : Nat := hvl 20 n 1
theorem hvl_lt : ∀ d n k, k < n → hvl d n k < n
  | 0, n, k, h => h
  | d + 1, n, k, h => by
    unfold hvl
    split
    · exact hvl_lt d n (2 * k) (by omega)
    · exact h
theorem hvl_ge : ∀ d n k, k ≤ hvl d n k
  | 0, n, k => Nat.le_refl _
  | d + 1, n, k => by
    unfold hvl
    split
    · exact Nat.le_trans (by omega) (hvl_ge d n (2 * k))
    · exact Nat.le_refl _
theorem hv_lt (n : Nat) (h : 2 ≤ n) : hv n < n := hvl_lt 20 n 1 (by omega)
theorem hv_pos (n : Nat) : 1 ≤ hv n := hvl_ge 20 n 1
theorem split_l : ∀ d (n k : Nat), n ≤ 1048576 → k ≤ 1048576 → n ≤ k * 2 ^ d → collide_split.l0 (d + 1) (n : Int) (k : Int) = some ((hvl d n k : Nat) : Int)
  | 0, n, k, h1, h2, h3 => by
    have e : wrap64 (2 * (k : Int)) = 2 * (k : Int) := by unfold wrap64; omega
    rw [collide_split.l0, if_neg (by rw [e]; omega)]
    rfl
  | d + 1, n, k, h1, h2, h3 => by
    have e : wrap64 (2 * (k : Int)) = 2 * (k : Int) := by unfold wrap64; omega
    have e2 : wrap64 ((k : Int) * 2) = ((2 * k : Nat) : Int) := by unfold wrap64; omega
    rw [collide_split.l0, e, e2]
    unfold hvl
    by_cases hc : 2 * k < n
    · rw [if_pos (by omega), if_pos hc]
      exact split_l d n (2 * k) h1 (by omega) (by rw [Nat.pow_succ] at h3; rw [Nat.mul_comm 2 k, Nat.mul_assoc, Nat.mul_comm 2 _]; exact h3)
    · rw [if_neg (by omega), if_neg hc]
theorem half_l : ∀ d (n k : Nat), n ≤ 1048576 → k ≤ 1048576 → n ≤ k * 2 ^ d → annalistref08_half.l0 (d + 1) (n : Int) (k : Int) = some ((hvl d n k : Nat) : Int)
  | 0, n, k, h1, h2, h3 => by
    have e : wrap64 ((k : Int) + (k : Int)) = 2 * (k : Int) := by unfold wrap64; omega
    rw [annalistref08_half.l0, if_neg (by rw [e]; omega)]
    rfl
  | d + 1, n, k, h1, h2, h3 => by
    have e : wrap64 ((k : Int) + (k : Int)) = ((2 * k : Nat) : Int) := by unfold wrap64; omega
    rw [annalistref08_half.l0, e]
    unfold hvl
    by_cases hc : 2 * k < n
    · rw [if_pos (by omega), if_pos hc]
      exact half_l d n (2 * k) h1 (by omega) (by rw [Nat.pow_succ] at h3; rw [Nat.mul_comm 2 k, Nat.mul_assoc, Nat.mul_comm 2 _]; exact h3)
    · rw [if_neg (by omega), if_neg hc]
theorem split_ev (n : Nat) (h : n ≤ 1048576) : Ev (fun k => collide_split.f k (n : Int)) ((hv n : Nat) : Int) :=
  Ev.of (fun k => collide_split.mono (n : Int) k) (k := 21) (by unfold collide_split.f; exact split_l 20 n 1 h (by decide) (by omega))
theorem half_ev (n : Nat) (h : n ≤ 1048576) : Ev (fun k => annalistref08_half.f k (n : Int)) ((hv n : Nat) : Int) :=
  Ev.of (fun k => annalistref08_half.mono (n : Int) k) (k := 21) (by unfold annalistref08_half.f; exact half_l 20 n 1 h (by decide) (by omega))
/-- how many steps there are down to a leaf -/
def dep (i n : Nat) : Nat :=
  if h : n ≤ 1 then 0 else if i < hv n then dep i (hv n) + 1 else dep (i - hv n) (n - hv n) + 1
termination_by n
decreasing_by
  · exact hv_lt n (by omega)
  · have := hv_pos n; omega
theorem dep_0 (i n : Nat) (h : n ≤ 1) : dep i n = 0 := by rw [dep, dif_pos h]
theorem dep_l (i n : Nat) (h : ¬ n ≤ 1) (hc : i < hv n) : dep i n = dep i (hv n) + 1 := by rw [dep, dif_neg h, if_pos hc]
theorem dep_r (i n : Nat) (h : ¬ n ≤ 1) (hc : ¬ i < hv n) : dep i n = dep (i - hv n) (n - hv n) + 1 := by rw [dep, dif_neg h, if_neg hc]
/-- the stretches below one -/
def nodes (lo i n : Nat) : List S157 :=
  if h : n ≤ 1 then [] else if i < hv n then ⟨(lo : Int), ((lo + hv n : Nat) : Int), ⟨#[]⟩⟩ :: nodes lo i (hv n) else ⟨((lo + hv n : Nat) : Int), ((lo + n : Nat) : Int), ⟨#[]⟩⟩ :: nodes (lo + hv n) (i - hv n) (n - hv n)
termination_by n
decreasing_by
  · exact hv_lt n (by omega)
  · have := hv_pos n; omega
theorem nodes_len (lo i n : Nat) : (nodes lo i n).length = dep i n := by
  induction n using Nat.strongRecOn generalizing lo i with
  | _ n ih =>
    rw [nodes, dep]
    have hp := hv_pos n
    by_cases h : n ≤ 1
    · rw [dif_pos h, dif_pos h]; rfl
    · rw [dif_neg h, dif_neg h]
      have hl := hv_lt n (by omega)
      by_cases hi : i < hv n
      · rw [if_pos hi, if_pos hi, List.length_cons, ih _ hl]
      · rw [if_neg hi, if_neg hi, List.length_cons, ih _ (by omega)]
theorem dep_lt (i n : Nat) : dep i n ≤ n := by
  induction n using Nat.strongRecOn generalizing i with
  | _ n ih =>
    rw [dep]
    have hp := hv_pos n
    by_cases h : n ≤ 1
    · rw [dif_pos h]; omega
    · rw [dif_neg h]
      have hl := hv_lt n (by omega)
      by_cases hi : i < hv n
      · rw [if_pos hi]; have := ih _ hl i; omega
      · rw [if_neg hi]; have := ih (n - hv n) (by omega) (i - hv n); omega
theorem path_ev (n lo i : Nat) (acc : List S157) (h1 : 1 ≤ n) (h2 : lo + n ≤ 1048576) (hi : i < n) (ha : acc.length + n ≤ 4000000) :
    Ev (fun k => collide_path.l0 k ((lo + i : Nat) : Int) acc (lo : Int) ((lo + n : Nat) : Int)) (acc ++ nodes lo i n) := by
  induction n using Nat.strongRecOn generalizing lo i acc with
  | _ n ih =>
    have e : wrap64 (((lo + n : Nat) : Int) - (lo : Int)) = (n : Int) := by unfold wrap64; omega
    refine Ev.step (fun k => collide_path.l0.eq_2 _ _ _ _ _) ?_
    rw [e, nodes]
    by_cases h : n ≤ 1
    · rw [dif_pos h, List.append_nil]
      exact Ev.neg (by omega) (Ev.now _)
    · rw [dif_neg h]
      refine Ev.pos (by omega) ?_
      have hp := hv_pos n
      have hl := hv_lt n (by omega)
      refine Ev.bind (split_ev n (by omega)) ?_
      have e2 : wrap64 ((lo : Int) + ((hv n : Nat) : Int)) = ((lo + hv n : Nat) : Int) := by unfold wrap64; omega
      rw [e2]
      by_cases hc : i < hv n
      · rw [if_pos hc]
        refine Ev.pos (by omega) (Ev.pos (by omega) ?_)
        have := ih (hv n) hl lo i (acc ++ [⟨(lo : Int), ((lo + hv n : Nat) : Int), ⟨#[]⟩⟩]) hp (by omega) hc (by rw [List.length_append]; simp; omega)
        rw [List.append_assoc] at this
        exact this
      · rw [if_neg hc]
        refine Ev.neg (by omega) (Ev.pos (by omega) ?_)
        have := ih (n - hv n) (by omega) (lo + hv n) (i - hv n) (acc ++ [⟨((lo + hv n : Nat) : Int), ((lo + n : Nat) : Int), ⟨#[]⟩⟩]) (by omega) (by omega) (by omega) (by rw [List.length_append]; simp; omega)
        rw [List.append_assoc, show lo + hv n + (i - hv n) = lo + i by omega, show lo + hv n + (n - hv n) = lo + n by omega] at this
        exact this
/-- a node's text, of the list that begins below it -/
def hd (r : List S157) : ByteArray := (r.getD 0 z157).f2
/-- the nodes that a claim opens, with their texts -/
def tex (h9 : Hs) (leaf : ByteArray) (pr : List ByteArray) (lo i n : Nat) : List S157 :=
  if h : n ≤ 1 then [⟨(lo : Int), ((lo + n : Nat) : Int), (⟨#[0]⟩ : ByteArray) ++ leaf⟩]
  else if i < hv n then ⟨(lo : Int), ((lo + n : Nat) : Int), ((⟨#[1]⟩ : ByteArray) ++ h9.fn (hd (tex h9 leaf pr lo i (hv n)))) ++ pr.getD (dep i n - 1) ByteArray.empty⟩ :: tex h9 leaf pr lo i (hv n)
  else ⟨(lo : Int), ((lo + n : Nat) : Int), ((⟨#[1]⟩ : ByteArray) ++ pr.getD (dep i n - 1) ByteArray.empty) ++ h9.fn (hd (tex h9 leaf pr (lo + hv n) (i - hv n) (n - hv n)))⟩ :: tex h9 leaf pr (lo + hv n) (i - hv n) (n - hv n)
termination_by n
decreasing_by
  all_goals first | exact hv_lt n (by omega) | (have := hv_pos n; omega)
/-- what is to be known of such a list -/
structure Tx (h9 : Hs) (leaf : ByteArray) (pr : List ByteArray) (base F : List S157) (D : Nat) : Prop where
  len : F.length = D + 1
  blen : base.length = D + 1
  ends : ∀ j, j ≤ D → (F.getD j z157).f0 = (base.getD j z157).f0 ∧ (F.getD j z157).f1 = (base.getD j z157).f1
  mid : ∀ j, j < D → (F.getD j z157).f2 = if (F.getD (j + 1) z157).f0 = (F.getD j z157).f0 then ((⟨#[1]⟩ : ByteArray) ++ h9.fn (F.getD (j + 1) z157).f2) ++ pr.getD (D - 1 - j) ByteArray.empty else ((⟨#[1]⟩ : ByteArray) ++ pr.getD (D - 1 - j) ByteArray.empty) ++ h9.fn (F.getD (j + 1) z157).f2
  last : (F.getD D z157).f2 = (⟨#[0]⟩ : ByteArray) ++ leaf
theorem Tx.cons {h9 : Hs} {leaf : ByteArray} {pr : List ByteArray} {base F : List S157} {D : Nat} (h : Tx h9 leaf pr base F D) (a b : S157) (h0 : a.f0 = b.f0) (h1 : a.f1 = b.f1)
    (h2 : a.f2 = if (F.getD 0 z157).f0 = a.f0 then ((⟨#[1]⟩ : ByteArray) ++ h9.fn (F.getD 0 z157).f2) ++ pr.getD D ByteArray.empty else ((⟨#[1]⟩ : ByteArray) ++ pr.getD D ByteArray.empty) ++ h9.fn (F.getD 0 z157).f2) : Tx h9 leaf pr (b :: base) (a :: F) (D + 1) := by
  refine ⟨by rw [List.length_cons, h.len], by rw [List.length_cons, h.blen], fun j hj => ?_, fun j hj => ?_, ?_⟩
  · cases j with
    | zero => exact ⟨h0, h1⟩
    | succ j => simpa using h.ends j (by omega)
  · cases j with
    | zero => simpa using h2
    | succ j =>
      have := h.mid j (by omega)
      rw [show D + 1 - 1 - (j + 1) = D - 1 - j by omega]
      simpa using this
  · simpa using h.last
section
variable (h9 : Hs) (leaf : ByteArray) (pr : List ByteArray) (lo i n : Nat)
theorem tex_0 (h : n ≤ 1) : tex h9 leaf pr lo i n = [⟨(lo : Int), ((lo + n : Nat) : Int), (⟨#[0]⟩ : ByteArray) ++ leaf⟩] := by rw [tex, dif_pos h]
theorem tex_l (h : ¬ n ≤ 1) (hc : i < hv n) : tex h9 leaf pr lo i n = ⟨(lo : Int), ((lo + n : Nat) : Int), ((⟨#[1]⟩ : ByteArray) ++ h9.fn (hd (tex h9 leaf pr lo i (hv n)))) ++ pr.getD (dep i (hv n)) ByteArray.empty⟩ :: tex h9 leaf pr lo i (hv n) := by
  rw [tex, dif_neg h, if_pos hc, dep_l i n h hc, Nat.add_sub_cancel]
theorem tex_r (h : ¬ n ≤ 1) (hc : ¬ i < hv n) : tex h9 leaf pr lo i n = ⟨(lo : Int), ((lo + n : Nat) : Int), ((⟨#[1]⟩ : ByteArray) ++ pr.getD (dep (i - hv n) (n - hv n)) ByteArray.empty) ++ h9.fn (hd (tex h9 leaf pr (lo + hv n) (i - hv n) (n - hv n)))⟩ :: tex h9 leaf pr (lo + hv n) (i - hv n) (n - hv n) := by
  rw [tex, dif_neg h, if_neg hc, dep_r i n h hc, Nat.add_sub_cancel]
theorem nodes_0 (h : n ≤ 1) : nodes lo i n = [] := by rw [nodes, dif_pos h]
theorem nodes_l (h : ¬ n ≤ 1) (hc : i < hv n) : nodes lo i n = ⟨(lo : Int), ((lo + hv n : Nat) : Int), ⟨#[]⟩⟩ :: nodes lo i (hv n) := by rw [nodes, dif_neg h, if_pos hc]
theorem nodes_r (h : ¬ n ≤ 1) (hc : ¬ i < hv n) : nodes lo i n = ⟨((lo + hv n : Nat) : Int), ((lo + n : Nat) : Int), ⟨#[]⟩⟩ :: nodes (lo + hv n) (i - hv n) (n - hv n) := by rw [nodes, dif_neg h, if_neg hc]
end
theorem tex_tx (h9 : Hs) (leaf : ByteArray) (pr : List ByteArray) (lo i n : Nat) (hn : 1 ≤ n) (hi : i < n) : Tx h9 leaf pr (⟨(lo : Int), ((lo + n : Nat) : Int), ⟨#[]⟩⟩ :: nodes lo i n) (tex h9 leaf pr lo i n) (dep i n) := by
  induction n using Nat.strongRecOn generalizing lo i with
  | _ n ih =>
    have hp := hv_pos n
    by_cases h : n ≤ 1
    · rw [tex_0 _ _ _ _ _ _ h, nodes_0 _ _ _ h, dep_0 _ _ h]
      refine ⟨rfl, rfl, fun j hj => ?_, fun j hj => by omega, rfl⟩
      obtain rfl : j = 0 := by omega
      exact ⟨rfl, rfl⟩
    · have hl := hv_lt n (by omega)
      by_cases hc : i < hv n
      · rw [tex_l _ _ _ _ _ _ h hc, nodes_l _ _ _ h hc, dep_l _ _ h hc]
        have t := ih (hv n) hl lo i hp hc
        refine t.cons _ _ rfl rfl ?_
        have e := (t.ends 0 (Nat.zero_le _)).1
        rw [if_pos (by rw [e]; rfl)]
        rfl
      · rw [tex_r _ _ _ _ _ _ h hc, nodes_r _ _ _ h hc, dep_r _ _ h hc]
        have t := ih (n - hv n) (by omega) (lo + hv n) (i - hv n) (by omega) (by omega)
        rw [show lo + hv n + (n - hv n) = lo + n by omega] at t
        refine t.cons _ _ rfl rfl ?_
        have e := (t.ends 0 (Nat.zero_le _)).1
        rw [if_neg (by rw [e]; show ¬ ((lo + hv n : Nat) : Int) = (lo : Int); omega)]
        rfl
theorem tex_congr (h9 : Hs) (leaf : ByteArray) (pr pr2 : List ByteArray) (lo i n : Nat) (h : ∀ j, j < dep i n → pr.getD j ByteArray.empty = pr2.getD j ByteArray.empty) : tex h9 leaf pr lo i n = tex h9 leaf pr2 lo i n := by
  induction n using Nat.strongRecOn generalizing lo i with
  | _ n ih =>
    have hp := hv_pos n
    by_cases h0 : n ≤ 1
    · rw [tex_0 _ _ _ _ _ _ h0, tex_0 _ _ _ _ _ _ h0]
    · have hl := hv_lt n (by omega)
      by_cases hc : i < hv n
      · rw [dep_l _ _ h0 hc] at h
        rw [tex_l _ _ _ _ _ _ h0 hc, tex_l _ _ _ _ _ _ h0 hc, ih (hv n) hl lo i (fun j hj => h j (by omega)), h _ (by omega)]
      · rw [dep_r _ _ h0 hc] at h
        rw [tex_r _ _ _ _ _ _ h0 hc, tex_r _ _ _ _ _ _ h0 hc, ih (n - hv n) (by omega) (lo + hv n) (i - hv n) (fun j hj => h j (by omega)), h _ (by omega)]
theorem getD_set (l : List S157) (m t : Nat) (x : S157) (hm : m < l.length) : (l.set m x).getD t z157 = if m = t then x else l.getD t z157 := by
  rw [List.getD_eq_getElem?_getD, List.getElem?_set]
  by_cases h : m = t
  · subst h
    rw [if_pos rfl, if_pos hm, if_pos rfl]; rfl
  · rw [if_neg h, if_neg h, List.getD_eq_getElem?_getD]
theorem ext_getD (a b : List S157) (hl : a.length = b.length) (h : ∀ t, t < a.length → a.getD t z157 = b.getD t z157) : a = b := by
  refine List.ext_getElem hl (fun j h1 h2 => ?_)
  have := h j h1
  rw [List.getD_eq_getElem?_getD, List.getD_eq_getElem?_getD, List.getElem?_eq_getElem h1, List.getElem?_eq_getElem h2] at this
  exact this
theorem S_ext {a b : S157} (h0 : a.f0 = b.f0) (h1 : a.f1 = b.f1) (h2 : a.f2 = b.f2) : a = b := by
  cases a; cases b; simp only at h0 h1 h2; subst h0 h1 h2; rfl
theorem call_ev (h9 : Hs) (s : ByteArray) (hs : s.size ≤ 1000000000) : Ev (fun _ => hs_call.f h9 s) (h9.fn s) := Ev.congr (f := fun _ => some (h9.fn s)) (fun _ => by unfold hs_call.f; rw [if_pos hs]) (Ev.now _)
theorem size_1 (a b : ByteArray) : ((⟨#[1]⟩ : ByteArray) ++ a ++ b).size = 1 + a.size + b.size := by
  rw [ByteArray.size_append, ByteArray.size_append]; rfl
theorem size_0 (a : ByteArray) : ((⟨#[0]⟩ : ByteArray) ++ a).size = 1 + a.size := by
  rw [ByteArray.size_append]; rfl
theorem tx_size {h9 : Hs} {leaf : ByteArray} {pr : List ByteArray} {base F : List S157} {D : Nat} (t : Tx h9 leaf pr base F D) (hl : leaf.size ≤ 1000) (hp : ∀ s ∈ pr, s.size ≤ 40) : ∀ j, j ≤ D → (F.getD j z157).f2.size ≤ 1001 := by
  intro j hj
  have hpr : ∀ m, (pr.getD m ByteArray.empty).size ≤ 40 := fun m => by
    rw [List.getD_eq_getElem?_getD]
    by_cases hm : m < pr.length
    · rw [List.getElem?_eq_getElem hm]; exact hp _ (List.getElem_mem hm)
    · rw [List.getElem?_eq_none (by omega)]; exact Nat.zero_le _
  by_cases h : j < D
  · rw [t.mid j h]
    have h1 := hpr (D - 1 - j)
    have h2 := h9.size (F.getD (j + 1) z157).f2
    split
    · rw [size_1, h2]; omega
    · rw [size_1, h2]; omega
  · obtain rfl : j = D := by omega
    rw [t.last, size_0]; omega
theorem pr_size (pr : List ByteArray) (hp : ∀ s ∈ pr, s.size ≤ 40) (m : Nat) : (pr.getD m ByteArray.empty).size ≤ 40 := by
  rw [List.getD_eq_getElem?_getD]
  by_cases hm : m < pr.length
  · rw [List.getElem?_eq_getElem hm]; exact hp _ (List.getElem_mem hm)
  · rw [List.getElem?_eq_none (by omega)]; exact Nat.zero_le _
theorem loop_ev (h9 : Hs) (leaf : ByteArray) (pr : List ByteArray) (i sz : Int) (base F : List S157) (D : Nat) (t : Tx h9 leaf pr base F D) (hD : D ≤ 1048576) (hpl : pr.length = D) (hl : leaf.size ≤ 1000) (hp : ∀ s ∈ pr, s.size ≤ 40) :
    ∀ (m : Nat) (x5 : List S157), m ≤ D → x5.length = D + 1 → (∀ j, m ≤ j → j ≤ D → x5.getD j z157 = F.getD j z157) → (∀ j, j < m → (x5.getD j z157).f0 = (F.getD j z157).f0 ∧ (x5.getD j z157).f1 = (F.getD j z157).f1) →
      Ev (fun k => collide_opened.l0 k h9 x5 (D : Int) ((m : Int) - 1) leaf i sz pr) F
  | 0, x5, hm, hx, h1, _ => by
    refine Ev.step (fun k => collide_opened.l0.eq_2 _ _ _ _ _ _ _ _ _) (Ev.neg (by omega) ?_)
    rw [ext_getD x5 F (by rw [hx, t.len]) (fun j hj => h1 j (Nat.zero_le _) (by omega))]
    exact Ev.now _
  | m + 1, x5, hm, hx, h1, h2 => by
    have e0 : ((m + 1 : Nat) : Int) - 1 = (m : Int) := by omega
    have e1 : wrap64 ((m : Int) + 1) = ((m + 1 : Nat) : Int) := by unfold wrap64; omega
    have e2 : wrap64 (wrap64 ((D : Int) - 1) - (m : Int)) = ((D - 1 - m : Nat) : Int) := by unfold wrap64; omega
    have e3 : wrap64 ((m : Int) - 1) = (m : Int) - 1 := by unfold wrap64; omega
    have g1 := h1 (m + 1) (Nat.le_refl _) hm
    have g2 := h2 m (Nat.lt_succ_self _)
    have z1 := tx_size t hl hp (m + 1) hm
    have z2 := h9.size (F.getD (m + 1) z157).f2
    have z3 := pr_size pr hp (D - 1 - m)
    have fm := t.mid m (by omega)
    have r1 : rd_T157 x5 ((m + 1 : Nat) : Int) = F.getD (m + 1) z157 := g1
    have r2 : rd_T157 x5 (m : Int) = x5.getD m z157 := rfl
    have r3 : rdOf ByteArray.empty pr ((D - 1 - m : Nat) : Int) = pr.getD (D - 1 - m) ByteArray.empty := rfl
    refine Ev.step (fun k => collide_opened.l0.eq_2 _ _ _ _ _ _ _ _ _) ?_
    rw [e0, e1, e2, e3]
    refine Ev.pos (by omega) (Ev.pos (by omega) (Ev.pos (by omega) ?_))
    rw [r1, r2, r3]
    refine Ev.bind (call_ev h9 _ (by omega)) (Ev.pos (by omega) (Ev.pos (by omega) (Ev.pos (by omega) (Ev.pos (by omega) ?_))))
    rw [g2.1]
    have next : ∀ T : ByteArray, (F.getD m z157).f2 = T → Ev (fun k => collide_opened.l0 k h9 (x5.set (m : Int).toNat ⟨(F.getD m z157).f0, (x5.getD m z157).f1, T⟩) (D : Int) ((m : Int) - 1) leaf i sz pr) F := fun T hT => by
      refine loop_ev h9 leaf pr i sz base F D t hD hpl hl hp m _ (by omega) (by rw [List.length_set, hx]) (fun j hj1 hj2 => ?_) (fun j hj => ?_)
      · rw [Int.toNat_natCast, getD_set _ _ _ _ (by omega)]
        by_cases hjm : m = j
        · subst hjm
          rw [if_pos rfl]
          exact S_ext rfl g2.2 hT.symm
        · rw [if_neg hjm]
          exact h1 j (by omega) hj2
      · rw [Int.toNat_natCast, getD_set _ _ _ _ (by omega), if_neg (by omega)]
        exact h2 j (by omega)
    by_cases hc : (F.getD (m + 1) z157).f0 = (F.getD m z157).f0
    · refine Ev.pos hc (Ev.pos (by omega) (Ev.pos (by rw [ByteArray.size_append, z2]; show 1 + 32 + _ ≤ _; omega) ?_))
      rw [if_pos hc] at fm
      exact next _ fm
    · refine Ev.neg hc (Ev.pos (by omega) (Ev.pos (by rw [ByteArray.size_append, z2]; show 1 + _ + 32 ≤ _; omega) ?_))
      rw [if_neg hc] at fm
      exact next _ fm
theorem path_f (n i : Nat) (h1 : 1 ≤ n) (h2 : n ≤ 1048576) (hi : i < n) : Ev (fun k => collide_path.f k (i : Int) (n : Int)) (⟨((0 : Nat) : Int), ((0 + n : Nat) : Int), ⟨#[]⟩⟩ :: nodes 0 i n) := by
  have h := path_ev n 0 i [⟨((0 : Nat) : Int), ((0 + n : Nat) : Int), ⟨#[]⟩⟩] h1 (by omega) hi (by simp; omega)
  rw [Nat.zero_add, Nat.zero_add] at h
  rw [Nat.zero_add]
  exact h
theorem j0_true (h9 : Hs) (leaf : ByteArray) (i sz : Int) (pr : List ByteArray) : Ev (fun k => collide_opened.j0 k h9 true leaf i sz pr) [] :=
  Ev.step (fun k => collide_opened.j0.eq_2 _ _ _ _ _ _ _) (Ev.pos rfl (Ev.now _))
theorem j0_ok (h9 : Hs) (leaf : ByteArray) (i n : Nat) (pr : List ByteArray) (h1 : 1 ≤ n) (h2 : n ≤ 1048576) (hi : i < n) (hl : leaf.size ≤ 1000) (hp : ∀ s ∈ pr, s.size ≤ 40) (hd : pr.length = dep i n) :
    Ev (fun k => collide_opened.j0 k h9 false leaf (i : Int) (n : Int) pr) (tex h9 leaf pr 0 i n) := by
  have t := tex_tx h9 leaf pr 0 i n h1 hi
  have hb := t.blen
  have hdl := dep_lt i n
  refine Ev.step (fun k => collide_opened.j0.eq_2 _ _ _ _ _ _ _) (Ev.neg (by decide) (Ev.bind (path_f n i h1 h2 hi) ?_))
  obtain ⟨base, hbase⟩ : ∃ base, (⟨((0 : Nat) : Int), ((0 + n : Nat) : Int), ⟨#[]⟩⟩ :: nodes 0 i n : List S157) = base := ⟨_, rfl⟩
  rw [hbase] at t hb ⊢
  have e1 : wrap64 ((base.length : Int) - 1) = ((dep i n : Nat) : Int) := by unfold wrap64; omega
  have e2 : wrap64 (((dep i n : Nat) : Int) - 1) = ((dep i n : Nat) : Int) - 1 := by unfold wrap64; omega
  rw [e1, e2]
  refine Ev.pos (by unfold wrap64; omega) (Ev.pos (by omega) (Ev.pos (by omega) (Ev.pos (by omega) ?_)))
  refine loop_ev h9 leaf pr i n base _ (dep i n) t (by omega) hd hl hp (dep i n) _ (Nat.le_refl _) (by rw [List.length_set, hb]) (fun j hj1 hj2 => ?_) (fun j hj => ?_)
  · obtain rfl : j = dep i n := by omega
    rw [Int.toNat_natCast, getD_set _ _ _ _ (by omega), if_pos rfl]
    have e := t.ends (dep i n) (Nat.le_refl _)
    exact S_ext e.1.symm e.2.symm t.last.symm
  · rw [Int.toNat_natCast, getD_set _ _ _ _ (by omega), if_neg (by omega)]
    have e := t.ends j (by omega)
    exact ⟨e.1.symm, e.2.symm⟩
theorem j0_ne (h9 : Hs) (leaf : ByteArray) (i n : Nat) (pr : List ByteArray) (h1 : 1 ≤ n) (h2 : n ≤ 1048576) (hi : i < n) (hpl : pr.length ≤ 1000) (hd : pr.length ≠ dep i n) :
    Ev (fun k => collide_opened.j0 k h9 false leaf (i : Int) (n : Int) pr) [] := by
  refine Ev.step (fun k => collide_opened.j0.eq_2 _ _ _ _ _ _ _) (Ev.neg (by decide) (Ev.bind (path_f n i h1 h2 hi) ?_))
  have hdl := dep_lt i n
  refine Ev.neg ?_ (Ev.now _)
  rw [List.length_cons, nodes_len]
  unfold wrap64
  omega
theorem short_ev (pr : List ByteArray) : Ev (fun _ => collide_short.f pr) (!pr.all fun s => s.size == 32) := Ev.now _
/-- may a claim be looked at, and is its proof as long as it must be -/
def okC (i sz : Int) (pr : List ByteArray) : Bool := decide (1 ≤ sz ∧ sz ≤ 1048576 ∧ 0 ≤ i ∧ i < sz) && ((pr.all fun s => s.size == 32) && pr.length == dep i.toNat sz.toNat)
def openF (h9 : Hs) (leaf : ByteArray) (i sz : Int) (pr : List ByteArray) : List S157 := if okC i sz pr then tex h9 leaf pr 0 i.toNat sz.toNat else []
theorem opened_ev (h9 : Hs) (leaf : ByteArray) (i sz : Int) (pr : List ByteArray) (hl : leaf.size ≤ 1000) (hp : ∀ s ∈ pr, s.size ≤ 40) (hpl : pr.length ≤ 1000) :
    Ev (fun k => collide_opened.f k h9 leaf i sz pr) (openF h9 leaf i sz pr) := by
  unfold collide_opened.f openF okC
  by_cases c1 : sz < 1
  · rw [if_neg (by rw [decide_eq_false (by omega)]; exact Bool.false_ne_true)]
    exact Ev.pos c1 (j0_true _ _ _ _ _)
  refine Ev.neg c1 ?_
  by_cases c2 : sz > 1048576
  · rw [if_neg (by rw [decide_eq_false (by omega)]; exact Bool.false_ne_true)]
    exact Ev.pos c2 (j0_true _ _ _ _ _)
  refine Ev.neg c2 ?_
  by_cases c3 : i < 0
  · rw [if_neg (by rw [decide_eq_false (by omega)]; exact Bool.false_ne_true)]
    exact Ev.pos c3 (j0_true _ _ _ _ _)
  refine Ev.neg c3 ?_
  by_cases c4 : i ≥ sz
  · rw [if_neg (by rw [decide_eq_false (by omega)]; exact Bool.false_ne_true)]
    exact Ev.pos c4 (j0_true _ _ _ _ _)
  refine Ev.neg c4 (Ev.bind (short_ev pr) ?_)
  rw [decide_eq_true (by omega : 1 ≤ sz ∧ sz ≤ 1048576 ∧ 0 ≤ i ∧ i < sz), Bool.true_and]
  obtain ⟨n, rfl⟩ := Int.eq_ofNat_of_zero_le (show 0 ≤ sz by omega)
  obtain ⟨j, rfl⟩ := Int.eq_ofNat_of_zero_le (show 0 ≤ i by omega)
  rw [Int.toNat_natCast, Int.toNat_natCast]
  cases h : pr.all fun s => s.size == 32 with
  | false => exact j0_true _ _ _ _ _
  | true =>
    by_cases hd : pr.length = dep j n
    · rw [if_pos (by simp [hd])]
      exact j0_ok h9 leaf j n pr (by omega) (by omega) (by omega) hl hp hd
    · rw [if_neg (by simp [hd])]
      exact j0_ne h9 leaf j n pr (by omega) (by omega) (by omega) hpl hd
/-- a claim's root -/
def rootF (h9 : Hs) (leaf : ByteArray) (i sz : Int) (pr : List ByteArray) : ByteArray × Bool := if okC i sz pr then (h9.fn (hd (tex h9 leaf pr 0 i.toNat sz.toNat)), true) else (⟨#[]⟩, false)
theorem okC_in {i sz : Int} {pr : List ByteArray} (h : okC i sz pr = true) : 1 ≤ sz ∧ sz ≤ 1048576 ∧ 0 ≤ i ∧ i < sz ∧ (pr.all fun s => s.size == 32) = true ∧ pr.length = dep i.toNat sz.toNat := by
  unfold okC at h
  simp only [Bool.and_eq_true, decide_eq_true_eq, beq_iff_eq] at h
  exact ⟨h.1.1, h.1.2.1, h.1.2.2.1, h.1.2.2.2, h.2.1, h.2.2⟩
theorem Root_ev (h9 : Hs) (leaf : ByteArray) (i sz : Int) (pr : List ByteArray) (hl : leaf.size ≤ 1000) (hp : ∀ s ∈ pr, s.size ≤ 40) (hpl : pr.length ≤ 1000) :
    Ev (fun k => collide_Root.f k h9 leaf i sz pr) (rootF h9 leaf i sz pr) := by
  unfold collide_Root.f
  refine Ev.pos (by omega) (Ev.bind (opened_ev h9 leaf i sz pr hl hp hpl) ?_)
  unfold openF rootF
  cases h : okC i sz pr with
  | false => exact Ev.pos rfl (Ev.now _)
  | true =>
    obtain ⟨c1, c2, c3, c4, _, c6⟩ := okC_in h
    have t := tex_tx h9 leaf pr 0 i.toNat sz.toNat (by omega) (by omega)
    rw [if_pos rfl, if_pos rfl]
    refine Ev.neg (by rw [t.len]; omega) (Ev.bind (call_ev h9 _ ?_) (Ev.now _))
    have := tx_size t hl hp 0 (Nat.zero_le _)
    exact Nat.le_trans this (by decide)
theorem good_ev (pr : List ByteArray) (hpl : pr.length ≤ 1000) : ∀ d j, j + d = pr.length → Ev (fun k => annalistref08_good.l0 k pr (j : Int)) ((pr.drop j).all fun s => s.size == 32)
  | 0, j, h => by
    refine Ev.step (fun k => annalistref08_good.l0.eq_2 _ _ _) (Ev.neg (by omega) ?_)
    rw [List.drop_of_length_le (by omega)]
    exact Ev.now _
  | d + 1, j, h => by
    have e : wrap64 ((j : Int) + 1) = ((j + 1 : Nat) : Int) := by unfold wrap64; omega
    have hj : j < pr.length := by omega
    refine Ev.step (fun k => annalistref08_good.l0.eq_2 _ _ _) (Ev.pos (by omega) (Ev.pos (by omega) ?_))
    have r : rdOf ByteArray.empty pr (j : Int) = pr[j] := by
      show pr.getD j ByteArray.empty = _
      rw [List.getD_eq_getElem?_getD, List.getElem?_eq_getElem hj]; rfl
    rw [r, e, List.drop_eq_getElem_cons hj, List.all_cons]
    by_cases hc : pr[j].size = 32
    · refine Ev.pos (by omega) ?_
      rw [hc]
      exact good_ev pr hpl d (j + 1) (by omega)
    · refine Ev.neg (by omega) ?_
      rw [beq_eq_false_iff_ne.mpr hc]
      exact Ev.now _
theorem good_f (pr : List ByteArray) (hpl : pr.length ≤ 1000) : Ev (fun k => annalistref08_good.f k pr) (pr.all fun s => s.size == 32) := good_ev pr hpl pr.length 0 (Nat.zero_add _)
theorem take_getD (pr : List ByteArray) (m j : Nat) (h : j < m) : (pr.take m).getD j ByteArray.empty = pr.getD j ByteArray.empty := by
  rw [List.getD_eq_getElem?_getD, List.getD_eq_getElem?_getD, List.getElem?_take, if_pos h]
theorem up_ok (a0 : Int) (leaf : ByteArray) (hl : leaf.size ≤ 1000) (n i lo : Nat) (pr : List ByteArray) (h1 : 1 ≤ n) (h2 : n ≤ 1048576) (hi : i < n) (hp : ∀ s ∈ pr, s.size ≤ 40) (hpl : pr.length ≤ 1000) (hde : pr.length = dep i n) :
    Ev (fun k => annalistref08_up.f k a0 ((hsW a0).fn ((⟨#[0]⟩ : ByteArray) ++ leaf)) (i : Int) (n : Int) pr) ((hsW a0).fn (hd (tex (hsW a0) leaf pr lo i n)), true) := by
  induction n using Nat.strongRecOn generalizing lo i pr with
  | _ n ih =>
    have hpos := hv_pos n
    refine Ev.step (fun k => annalistref08_up.f.eq_2 _ _ _ _ _ _) ?_
    by_cases h : n ≤ 1
    · obtain rfl : n = 1 := by omega
      rw [dep_0 _ _ h] at hde
      refine Ev.pos rfl ?_
      rw [tex_0 _ _ _ _ _ _ h, hde]
      exact Ev.now _
    · have hlt := hv_lt n (by omega)
      refine Ev.neg (by omega) ?_
      have hlen : 1 ≤ pr.length := by
        by_cases hc : i < hv n
        · rw [dep_l _ _ h hc] at hde; omega
        · rw [dep_r _ _ h hc] at hde; omega
      have e1 : wrap64 ((pr.length : Int) - 1) = ((pr.length - 1 : Nat) : Int) := by unfold wrap64; omega
      rw [e1]
      refine Ev.neg (by omega) (Ev.bind (half_ev n h2) ?_)
      rw [Int.toNat_natCast]
      have r : rdOf ByteArray.empty pr ((pr.length - 1 : Nat) : Int) = pr.getD (pr.length - 1) ByteArray.empty := rfl
      have hz := pr_size pr hp (pr.length - 1)
      have tl : (pr.take (pr.length - 1)).length = pr.length - 1 := by rw [List.length_take]; omega
      have tp : ∀ s ∈ pr.take (pr.length - 1), s.size ≤ 40 := fun s hs => hp s (List.mem_of_mem_take hs)
      by_cases hc : i < hv n
      · rw [dep_l _ _ h hc] at hde
        have c := ih (hv n) hlt i lo (pr.take (pr.length - 1)) hpos (by omega) hc tp (by omega) (by omega)
        rw [tex_congr _ _ _ pr lo i (hv n) (fun j hj => take_getD pr _ j (by omega))] at c
        refine Ev.pos (by omega) (Ev.pos (by omega) (Ev.pos (by omega) (Ev.bind c ?_)))
        dsimp only
        have hs := (hsW a0).size (hd (tex (hsW a0) leaf pr lo i (hv n)))
        rw [r]
        refine Ev.pos (by omega) (Ev.pos (by omega) (Ev.pos (by rw [ByteArray.size_append, hs]; show 1 + 32 + _ ≤ _; omega) ?_))
        refine Ev.bind (hash_ev a0 _ (by rw [size_1]; omega)) ?_
        rw [tex_l _ _ _ _ _ _ h hc, show pr.length - 1 = dep i (hv n) by omega]
        exact Ev.now _
      · rw [dep_r _ _ h hc] at hde
        have e2 : wrap64 ((i : Int) - ((hv n : Nat) : Int)) = ((i - hv n : Nat) : Int) := by unfold wrap64; omega
        have e3 : wrap64 ((n : Int) - ((hv n : Nat) : Int)) = ((n - hv n : Nat) : Int) := by unfold wrap64; omega
        have c := ih (n - hv n) (by omega) (i - hv n) (lo + hv n) (pr.take (pr.length - 1)) (by omega) (by omega) (by omega) tp (by omega) (by omega)
        rw [tex_congr _ _ _ pr (lo + hv n) (i - hv n) (n - hv n) (fun j hj => take_getD pr _ j (by omega))] at c
        rw [e2, e3]
        refine Ev.neg (by omega) (Ev.pos (by omega) (Ev.pos (by omega) (Ev.bind c ?_)))
        dsimp only
        have hs := (hsW a0).size (hd (tex (hsW a0) leaf pr (lo + hv n) (i - hv n) (n - hv n)))
        rw [r]
        refine Ev.pos (by omega) (Ev.pos (by omega) (Ev.pos (by rw [ByteArray.size_append, hs]; show 1 + _ + 32 ≤ _; omega) ?_))
        refine Ev.bind (hash_ev a0 _ (by rw [size_1]; omega)) ?_
        rw [tex_r _ _ _ _ _ _ h hc, show pr.length - 1 = dep (i - hv n) (n - hv n) by omega]
        exact Ev.now _
theorem up_ne (a0 : Int) (x : ByteArray) (hx : x.size ≤ 40) (n i : Nat) (pr : List ByteArray) (h1 : 1 ≤ n) (h2 : n ≤ 1048576) (hi : i < n) (hp : ∀ s ∈ pr, s.size ≤ 40) (hpl : pr.length ≤ 1000) (hde : pr.length ≠ dep i n) :
    ∃ y : ByteArray, y.size ≤ 40 ∧ Ev (fun k => annalistref08_up.f k a0 x (i : Int) (n : Int) pr) (y, false) := by
  induction n using Nat.strongRecOn generalizing i pr with
  | _ n ih =>
    have hpos := hv_pos n
    by_cases h : n ≤ 1
    · obtain rfl : n = 1 := by omega
      rw [dep_0 _ _ h] at hde
      refine ⟨x, hx, Ev.step (fun k => annalistref08_up.f.eq_2 _ _ _ _ _ _) (Ev.pos rfl ?_)⟩
      rw [show ((pr.length : Int) == 0) = false from beq_eq_false_iff_ne.mpr (by omega)]
      exact Ev.now _
    · have hlt := hv_lt n (by omega)
      by_cases h0 : pr.length = 0
      · refine ⟨⟨#[]⟩, by decide, Ev.step (fun k => annalistref08_up.f.eq_2 _ _ _ _ _ _) (Ev.neg (by omega) (Ev.pos (by unfold wrap64; omega) (Ev.now _)))⟩
      · have e1 : wrap64 ((pr.length : Int) - 1) = ((pr.length - 1 : Nat) : Int) := by unfold wrap64; omega
        have r : rdOf ByteArray.empty pr ((pr.length - 1 : Nat) : Int) = pr.getD (pr.length - 1) ByteArray.empty := rfl
        have hz := pr_size pr hp (pr.length - 1)
        have tl : (pr.take (pr.length - 1)).length = pr.length - 1 := by rw [List.length_take]; omega
        have tp : ∀ s ∈ pr.take (pr.length - 1), s.size ≤ 40 := fun s hs => hp s (List.mem_of_mem_take hs)
        by_cases hc : i < hv n
        · rw [dep_l _ _ h hc] at hde
          obtain ⟨y, hy, c⟩ := ih (hv n) hlt i (pr.take (pr.length - 1)) hpos (by omega) hc tp (by omega) (by omega)
          refine ⟨_, Nat.le_trans (Nat.le_of_eq ((hsW a0).size (((⟨#[1]⟩ : ByteArray) ++ y) ++ pr.getD (pr.length - 1) ByteArray.empty))) (by decide), Ev.step (fun k => annalistref08_up.f.eq_2 _ _ _ _ _ _) ?_⟩
          rw [e1, Int.toNat_natCast, r]
          refine Ev.neg (by omega) (Ev.neg (by omega) (Ev.bind (half_ev n h2) (Ev.pos (by omega) (Ev.pos (by omega) (Ev.pos (by omega) (Ev.bind c ?_))))))
          dsimp only
          refine Ev.pos (by omega) (Ev.pos (by omega) (Ev.pos (by rw [ByteArray.size_append]; show 1 + _ + _ ≤ _; omega) ?_))
          exact Ev.bind (hash_ev a0 _ (by rw [size_1]; omega)) (Ev.now _)
        · rw [dep_r _ _ h hc] at hde
          have e2 : wrap64 ((i : Int) - ((hv n : Nat) : Int)) = ((i - hv n : Nat) : Int) := by unfold wrap64; omega
          have e3 : wrap64 ((n : Int) - ((hv n : Nat) : Int)) = ((n - hv n : Nat) : Int) := by unfold wrap64; omega
          obtain ⟨y, hy, c⟩ := ih (n - hv n) (by omega) (i - hv n) (pr.take (pr.length - 1)) (by omega) (by omega) (by omega) tp (by omega) (by omega)
          refine ⟨_, Nat.le_trans (Nat.le_of_eq ((hsW a0).size (((⟨#[1]⟩ : ByteArray) ++ pr.getD (pr.length - 1) ByteArray.empty) ++ y))) (by decide), Ev.step (fun k => annalistref08_up.f.eq_2 _ _ _ _ _ _) ?_⟩
          rw [e1, Int.toNat_natCast, r]
          refine Ev.neg (by omega) (Ev.neg (by omega) (Ev.bind (half_ev n h2) (Ev.neg (by omega) (Ev.pos (by omega) (Ev.pos (by omega) ?_)))))
          rw [e2, e3]
          refine Ev.bind c ?_
          dsimp only
          refine Ev.pos (by omega) (Ev.pos (by omega) (Ev.pos (by rw [ByteArray.size_append]; show 1 + _ + _ ≤ _; omega) ?_))
          exact Ev.bind (hash_ev a0 _ (by rw [size_1]; omega)) (Ev.now _)
theorem rj0_true (a0 : Int) (leaf : ByteArray) (i sz : Int) (pr : List ByteArray) : Ev (fun k => annalistref08_Root.j0 k a0 true leaf i sz pr) (⟨#[]⟩, false) :=
  Ev.step (fun k => annalistref08_Root.j0.eq_2 _ _ _ _ _ _ _) (Ev.pos rfl (Ev.now _))
theorem refRoot_ev (a0 : Int) (leaf : ByteArray) (i sz : Int) (pr : List ByteArray) (hl : leaf.size ≤ 1000) (hp : ∀ s ∈ pr, s.size ≤ 40) (hpl : pr.length ≤ 1000) :
    Ev (fun k => annalistref08_Root.f k a0 leaf i sz pr) (rootF (hsW a0) leaf i sz pr) := by
  unfold annalistref08_Root.f rootF okC
  by_cases c3 : i < 0
  · rw [if_neg (by rw [decide_eq_false (by omega)]; exact Bool.false_ne_true)]
    exact Ev.pos c3 (rj0_true _ _ _ _ _)
  refine Ev.neg c3 ?_
  by_cases c1 : sz < 1
  · rw [if_neg (by rw [decide_eq_false (by omega)]; exact Bool.false_ne_true)]
    exact Ev.pos c1 (rj0_true _ _ _ _ _)
  refine Ev.neg c1 ?_
  by_cases c2 : sz > 1048576
  · rw [if_neg (by rw [decide_eq_false (by omega)]; exact Bool.false_ne_true)]
    exact Ev.pos c2 (rj0_true _ _ _ _ _)
  refine Ev.neg c2 ?_
  by_cases c4 : i ≥ sz
  · rw [if_neg (by rw [decide_eq_false (by omega)]; exact Bool.false_ne_true)]
    exact Ev.pos c4 (rj0_true _ _ _ _ _)
  refine Ev.neg c4 (Ev.bind (good_f pr hpl) ?_)
  rw [decide_eq_true (by omega : 1 ≤ sz ∧ sz ≤ 1048576 ∧ 0 ≤ i ∧ i < sz), Bool.true_and]
  obtain ⟨n, rfl⟩ := Int.eq_ofNat_of_zero_le (show 0 ≤ sz by omega)
  obtain ⟨j, rfl⟩ := Int.eq_ofNat_of_zero_le (show 0 ≤ i by omega)
  rw [Int.toNat_natCast, Int.toNat_natCast]
  cases h : pr.all fun s => s.size == 32 with
  | false => exact rj0_true _ _ _ _ _
  | true =>
    refine Ev.step (fun k => annalistref08_Root.j0.eq_2 _ _ _ _ _ _ _) (Ev.neg (by decide) (Ev.pos (by omega) (Ev.bind (hash_ev a0 _ (by rw [size_0]; omega)) ?_)))
    by_cases hde : pr.length = dep j n
    · rw [if_pos (by simp [hde])]
      exact Ev.bind (up_ok a0 leaf hl n j 0 pr (by omega) (by omega) (by omega) hp hpl hde) (Ev.pos rfl (Ev.now _))
    · rw [if_neg (by simp [hde])]
      obtain ⟨y, _, c⟩ := up_ne a0 _ (Nat.le_trans (Nat.le_of_eq ((hsW a0).size _)) (by decide)) n j pr (by omega) (by omega) (by omega) hp hpl hde
      exact Ev.bind c (Ev.neg (by simp) (Ev.now _))
theorem few_ev (leaf : ByteArray) (i sz : Int) (l : List ByteArray) (hl : l.length ≤ 9223372036854775807) : ∀ d j, j + d = 60 → (∀ t (h : t < l.length), t < j → l[t].size ≤ 40) → ∃ b, Ev (fun k => annalistref08_Few.l0 k (j : Int) leaf i sz l) b ∧ (b = true → l.length ≤ 40 ∧ leaf.size ≤ 100 ∧ ∀ s ∈ l, s.size ≤ 40) := by
  have out : ∀ j : Nat, (l.length ≤ j ∨ 60 ≤ j) → (∀ t (h : t < l.length), t < j → l[t].size ≤ 40) → ∃ b, Ev (fun k => annalistref08_Few.j1 k (j : Int) false leaf i sz l) b ∧ (b = true → l.length ≤ 40 ∧ leaf.size ≤ 100 ∧ ∀ s ∈ l, s.size ≤ 40) := by
    intro j hj ht
    by_cases hc : l.length ≤ 40
    · refine ⟨decide ((leaf.size : Int) ≤ 100), Ev.step (fun k => annalistref08_Few.j1.eq_2 _ _ _ _ _ _ _) (Ev.neg (by decide) (Ev.pos (by omega) (Ev.now _))), fun hb => ⟨hc, by have := of_decide_eq_true hb; omega, fun s hs => ?_⟩⟩
      obtain ⟨t, h, rfl⟩ := List.mem_iff_getElem.1 hs
      exact ht t h (by omega)
    · exact ⟨false, Ev.step (fun k => annalistref08_Few.j1.eq_2 _ _ _ _ _ _ _) (Ev.neg (by decide) (Ev.neg (by omega) (Ev.now _))), fun hb => by cases hb⟩
  intro d
  induction d with
  | zero =>
    intro j hj ht
    obtain ⟨b, hb, h2⟩ := out j (.inr (by omega)) ht
    refine ⟨b, Ev.step (fun k => annalistref08_Few.l0.eq_2 _ _ _ _ _ _) ?_, h2⟩
    by_cases hc : (j : Int) < (l.length : Int)
    · refine Ev.pos hc ?_
      rw [decide_eq_false (by omega)]
      exact hb
    · exact Ev.neg hc hb
  | succ d ih =>
    intro j hj ht
    by_cases hc : j < l.length
    · have r : rdOf ByteArray.empty l (j : Int) = l[j] := by
        show l.getD j ByteArray.empty = _
        rw [List.getD_eq_getElem?_getD, List.getElem?_eq_getElem hc]; rfl
      have e : wrap64 ((j : Int) + 1) = ((j + 1 : Nat) : Int) := by unfold wrap64; omega
      by_cases hz : l[j].size ≤ 40
      · obtain ⟨b, hb, h2⟩ := ih (j + 1) (by omega) (fun t h htj => by
          by_cases h3 : t = j
          · subst h3; exact hz
          · exact ht t h (by omega))
        refine ⟨b, Ev.step (fun k => annalistref08_Few.l0.eq_2 _ _ _ _ _ _) (Ev.pos (by omega) ?_), h2⟩
        rw [decide_eq_true (by omega : (j : Int) < 60)]
        refine Ev.step (fun k => annalistref08_Few.j1.eq_2 _ _ _ _ _ _ _) (Ev.pos rfl (Ev.pos (by omega) (Ev.pos (by omega) ?_)))
        rw [r, e]
        exact Ev.neg (by omega) hb
      · refine ⟨false, Ev.step (fun k => annalistref08_Few.l0.eq_2 _ _ _ _ _ _) (Ev.pos (by omega) ?_), fun hb => by cases hb⟩
        rw [decide_eq_true (by omega : (j : Int) < 60)]
        refine Ev.step (fun k => annalistref08_Few.j1.eq_2 _ _ _ _ _ _ _) (Ev.pos rfl (Ev.pos (by omega) (Ev.pos (by omega) ?_)))
        rw [r]
        exact Ev.pos (by omega) (Ev.now _)
    · obtain ⟨b, hb, h2⟩ := out j (.inl (by omega)) ht
      exact ⟨b, Ev.step (fun k => annalistref08_Few.l0.eq_2 _ _ _ _ _ _) (Ev.neg (by omega) hb), h2⟩
theorem few_f (leaf : ByteArray) (i sz : Int) (l : List ByteArray) (hl : l.length ≤ 9223372036854775807) : ∃ b, Ev (fun k => annalistref08_Few.f k leaf i sz l) b ∧ (b = true → l.length ≤ 40 ∧ leaf.size ≤ 100 ∧ ∀ s ∈ l, s.size ≤ 40) :=
  few_ev leaf i sz l hl 60 0 rfl (fun t _ h => by omega)
theorem awake_ev : Ev (fun k => annalistlaw08_awake.f k) true := by
  unfold annalistlaw08_awake.f
  refine Ev.bind (Root_ev hs41 ⟨#[97]⟩ 0 1 [] (by decide) (fun s hs => by cases hs) (by decide)) ?_
  have : rootF hs41 ⟨#[97]⟩ 0 1 [] = (hs41.fn (hd (tex hs41 ⟨#[97]⟩ [] 0 0 1)), true) := by
    unfold rootF
    have h : okC 0 1 [] = true := by
      unfold okC
      rw [show dep (0 : Int).toNat (1 : Int).toNat = 0 from dep_0 0 1 (by decide)]
      rfl
    rw [if_pos h]
    rfl
  rw [this]
  exact Ev.now _
end Go.Proofs.Ytolapikiflodfaa.PColCollideLeaves
