/- Here is proved: what an append of one element does to a row of scalars that the call owns, be it one that came of a string; a whole block loaded in a walk of reads. Conditions: none. -/
import Derived.Test.YtolapikiflodfaaMem
import Derived.Deep.Onto
namespace Go.Proofs.Ytolapikiflodfaa.Mem
open Go Go.Proofs Go.RowKit Go.Proofs.YtolapikiflodfaaW.PrintWords
/-- a row of the call's own, or one that came of a string (its mark lies behind its last cell) -/
def Bytes (w : World) (base : Nat) (e : TypeId) (v : Value) (n : Nat) (xs : List Value) : Prop :=
  w.ownsRow base e 1 v n xs ∨ (xs.length = n ∧ ∃ g cap cur, v = .slice (some ⟨g, 0, none⟩) n cap ∧ base ≤ g ∧ w.heap[g]? = some (.cells cur e (cur.size, cur.size + 1)) ∧ n ≤ cap ∧ cap ≤ maxLen ∧ cur.size = cap ∧ cur.toList.take n = xs)
section
variable {w w2 : World} {base n : Nat} {e : TypeId} {v : Value} {xs : List Value}
theorem Bytes.len (h : Bytes w base e v n xs) : xs.length = n := by
  rcases h with h | h
  · rw [h.1, Nat.mul_one]
  · exact h.1
theorem Bytes.lt (h : Bytes w base e v n xs) (k : Nat) (hk : v.ownBlock = some k) : base ≤ k ∧ k < w.heap.size := by
  rcases h with h | ⟨_, g, cap, cur, rfl, hb, hg, _⟩
  · exact h.lt k hk
  · simp [Value.ownBlock] at hk
    subst hk
    exact ⟨hb, blk_lt hg⟩
theorem Bytes.kept {row : Option Nat} (h : Bytes w base e v n xs) (hg : w.grownBy w2 row) (hne : v.ownBlock = none ∨ v.ownBlock ≠ row) : Bytes w2 base e v n xs := by
  rcases h with h | ⟨hl, g, cap, cur, rfl, hb, hgg, rest⟩
  · exact .inl (h.kept hg hne)
  · refine .inr ⟨hl, g, cap, cur, rfl, hb, ?_, rest⟩
    rw [hg.block g (blk_lt hgg) (by simpa [Value.ownBlock] using hne)]
    exact hgg
/-- a world that differs in none of the old blocks -/
theorem Bytes.below (h : Bytes w base e v n xs) (hb : Below w.heap.size w w2) : Bytes w2 base e v n xs :=
  h.kept (row := none) ⟨hb.os, hb.tape, hb.output, hb.size, fun k hk _ => hb.block k hk⟩ (by cases v.ownBlock <;> simp)
theorem Bytes.set (h : Bytes w base e v n xs) {p : Addr} (hne : v.ownBlock ≠ some p.block) (u : Value) : Bytes (w.setCell p u) base e v n xs :=
  h.kept (row := some p.block) ⟨rfl, rfl, rfl, by simp [World.setCell], fun k _ hk => Below.heap_setCell _ _ _ _ (fun q => hk (by rw [q]))⟩ (.inr hne)
theorem Bytes.row (h : Bytes w base e v n xs) {g : Nat} (hne : v.ownBlock ≠ some g) (cs : Array Value) : Bytes (w.setRow g cs) base e v n xs :=
  h.kept (row := some g) ⟨rfl, rfl, rfl, by rw [size_setRow]; exact Nat.le_refl _, fun k _ hk => setRow_other w g k cs (fun q => hk (by rw [q]))⟩ (.inr hne)
/-- what its elements read -/
theorem Bytes.cell (h : Bytes w base e v n xs) (hn : 0 < n) : ∃ g cap, v = .slice (some ⟨g, 0, none⟩) n cap ∧ base ≤ g ∧ n ≤ cap ∧ cap ≤ maxLen ∧ ∀ j u, xs[j]? = some u → w.cell? ⟨g, j, none⟩ = some u := by
  have key : ∀ (cur : Array Value) (g : Nat) (fr : Nat × Nat), w.heap[g]? = some (.cells cur e fr) → cur.toList.take n = xs → ∀ j u, xs[j]? = some u → w.cell? ⟨g, j, none⟩ = some u := by
    intro cur g fr hg ht j u hu
    rw [cell_of_row w g j cur e fr hg]
    rw [← ht, List.getElem?_take] at hu
    split at hu
    · simpa using hu
    · cases hu
  rcases h with ⟨_, h | ⟨g, cap, cur, rfl, hb, hg, hnc, hcm, _, ht⟩⟩ | ⟨_, g, cap, cur, rfl, hb, hg, hnc, hcm, _, ht⟩
  · omega
  · rw [Nat.mul_one] at ht
    exact ⟨g, cap, rfl, hb, hnc, hcm, key cur g _ hg ht⟩
  · exact ⟨g, cap, rfl, hb, hnc, hcm, key cur g _ hg ht⟩
/-- the row that a conversion of a string lays -/
theorem Bytes.of_string (w : World) (e : TypeId) (s : ByteArray) (base : Nat) (hb : base ≤ w.heap.size) (hs : s.size ≤ maxLen) :
    Bytes (Lib.bytesWorld w e s) base e (.slice (some ⟨w.heap.size, 0, none⟩) s.size (grownCap w s.size 0 e)) s.size (s.data.toList.map fun b => Value.int .u8 b.toNat) := by
  refine .inr ⟨by simp, w.heap.size, _, Lib.bytesCells w e s, rfl, hb, Lib.bytesWorld_at_new w e s, grownCap_ge w _ _ _, grownCap_le_maxLen w _ _ _ hs, ?_, ?_⟩
  · have := grownCap_ge w s.size 0 e
    simp [Lib.bytesCells]
    omega
  · simp [Lib.bytesCells]
theorem grownBy_set (w : World) (g i : Nat) (u : Value) : w.grownBy (w.setCell ⟨g, i, none⟩ u) (some g) :=
  ⟨rfl, rfl, rfl, by simp [World.setCell], fun k _ hk => Below.heap_setCell _ _ _ _ (fun q => hk (by rw [q]))⟩
theorem blk_set_any {w : World} {g : Nat} {t : TypeId} {cs : Array Value} {fr : Nat × Nat} (h : w.heap[g]? = some (.cells cs t fr)) (i : Nat) (u : Value) : (w.setCell ⟨g, i, none⟩ u).heap[g]? = some (.cells (cs.setIfInBounds i u) t fr) := by
  simp [World.setCell, Array.getElem?_modify, h]
end
section
variable {P : Program}
theorem run_append_nil_new (w : World) (base : Nat) (t ty e : TypeId) (i : TypeInfo) (z : Value) (bytes : Nat) (ht : P.underlying t = some (.slice e)) (hi : P.info? e = some i) (hz : i.zero = some z)
    (hsize : i.size = 1) (hby : i.bytes = bytes) (hzs : z.cells.size = 1) (ad : Addr) (c : Nat) (u : Value) (hu : w.cell? ad = some u) (h1 : u.oneCell' = true) (h63 : 0 + 1 ≤ maxLen) (hbytes : (0 + 1) * bytes ≤ 140737488355328) (hbase : base ≤ w.heap.size) :
    ∃ v' w', (Builtin.append_ #[t, t] ty #[.slice none 0 0, .slice (some ad) 1 c]).run P w = .ok v' w' ∧ w'.ownsRow base e 1 v' 1 [u] ∧ ∃ b, v'.ownBlock = some b ∧ w.heap.size ≤ b := by
  obtain ⟨v', w', hrun, r1, r2, _⟩ := run_append_own (P := P) w w.heap.size t ty e i z 1 bytes ht hi hz hsize hby hzs (by decide) (.slice none 0 0) 0 [] (World.ownsRow_nil w _ e 1) ad 1 c [u] rfl (fun j u' hj => by
    cases j with
    | zero => simp at hj; subst hj; exact hu
    | succ j => simp at hj) (by intro x hx; simp at hx; subst hx; exact h1) h63 hbytes (Nat.le_refl _)
  refine ⟨v', w', hrun, by simpa using r1.mono hbase, ?_⟩
  rcases r1.2 with ⟨_, h0⟩ | ⟨g2, _, _, rfl, hb2, _⟩
  · omega
  · exact ⟨g2, rfl, hb2⟩
/-- one element more -/
theorem run_append_bytes (w : World) (base : Nat) (t ty e : TypeId) (i : TypeInfo) (z : Value) (bytes : Nat) (ht : P.underlying t = some (.slice e)) (hi : P.info? e = some i) (hz : i.zero = some z)
    (hsize : i.size = 1) (hby : i.bytes = bytes) (hzs : z.cells.size = 1) {v : Value} {n : Nat} {xs : List Value} (h : Bytes w base e v n xs)
    (ad : Addr) (c : Nat) (u : Value) (hu : w.cell? ad = some u) (h1 : u.oneCell' = true) (h63 : n + 1 ≤ maxLen) (hbytes : (n + 1) * bytes ≤ 140737488355328) (hbase : base ≤ w.heap.size) :
    ∃ v' w', (Builtin.append_ #[t, t] ty #[v, .slice (some ad) 1 c]).run P w = .ok v' w' ∧ Bytes w' base e v' (n + 1) (xs ++ [u]) ∧ w.grownBy w' v.ownBlock ∧ (v'.ownBlock = v.ownBlock ∨ ∃ b, v'.ownBlock = some b ∧ w.heap.size ≤ b) ∧ Below base w w' := by
  have hnews : ∀ (j : Nat) (u' : Value), ([u] : List Value)[j]? = some u' → w.cell? (ad.add j) = some u' := by
    intro j u' hj
    cases j with
    | zero => simp at hj; subst hj; exact hu
    | succ j => simp at hj
  have h1' : ∀ x ∈ [u], x.oneCell' = true := by intro x hx; simp at hx; subst hx; exact h1
  have hnl : ([u] : List Value).length = 1 * 1 := rfl
  have hend : ∀ (v' : Value) (w' : World), w.grownBy w' v.ownBlock → Below base w w' := fun v' w' hg => (Below.refl base w).grown hg hbase (fun k hk => (h.lt k hk).1)
  rcases h with hown | ⟨hxl, g, cap, cur, rfl, hb, hg, hnc, hcm, hcs, htk⟩
  · obtain ⟨v', w', hrun, r1, r2, r3⟩ := run_append_own (P := P) w base t ty e i z 1 bytes ht hi hz hsize hby hzs (by decide) v n xs hown ad 1 c [u] hnl hnews h1' h63 hbytes hbase
    refine ⟨v', w', hrun, .inl r1, r2, ?_, hend v' w' r2⟩
    -- the row is the old one, or a new one
    rcases hown.2 with ⟨rfl, hn0⟩ | ⟨g, cap, cur, rfl, hb, hg, hnc, hcm, hcs, htk⟩
    · subst hn0
      obtain ⟨v2, w2, hr2, o2, g2⟩ := run_append_nil_new (P := P) w base t ty e i z bytes ht hi hz hsize hby hzs ad c u hu h1 h63 hbytes hbase
      rw [hr2] at hrun
      injection hrun with e1 e2
      subst e1
      exact .inr g2
    · by_cases hroom : n + 1 ≤ cap
      · have hr2 := run_append_room (P := P) w t ty e i ht hi g n cap cur hg ad 1 c [u] (by rw [hsize]; rfl) hnews h1' hroom (by rw [hsize]; simp [hcs]; omega)
        rw [hr2] at hrun
        injection hrun with e1 e2
        subst e1
        exact .inl rfl
      · obtain ⟨v2, w2, hr2, o2, _⟩ := run_append_arg_grows (P := P) w t ty e i z 1 bytes ht hi hz hsize hby hzs (by decide) ⟨g, 0, none⟩ n cap xs (by rw [hown.1]) (fun j u' hj => hown.cells (g := g) (by simp [Value.ownBlock]) j u' hj) ad 1 c [u] hnl hnews (by omega) h63 hbytes
        rw [hr2] at hrun
        injection hrun with e1 e2
        subst e1
        rcases o2.2 with ⟨_, h0⟩ | ⟨g2, _, _, rfl, hb2, _⟩
        · omega
        · exact .inr ⟨g2, rfl, hb2⟩
  · by_cases hroom : n + 1 ≤ cap
    · have hr2 := run_append_room_cells (P := P) w t ty e i ht hi g 0 n cap ad 1 c [u] (by rw [hsize]; rfl) hnews h1' hroom
        (fun j hj => by
          obtain rfl : j = 0 := by simpa using hj
          rw [hsize, cell_of_row w g _ cur e _ hg]
          simp
          omega)
        (fun j hj => by
          obtain rfl : j = 0 := by simpa using hj
          rw [hsize]
          simp [World.frozen?, hg]
          omega)
      have hsc : w.setCells g (0 + n * i.size) [u] = w.setCell ⟨g, n, none⟩ u := by
        rw [hsize, Nat.zero_add, Nat.mul_one]; rfl
      rw [hsc] at hr2
      refine ⟨_, _, hr2, .inr ⟨by rw [List.length_append, hxl]; rfl, g, cap, cur.setIfInBounds n u, rfl, hb, ?_, hroom, hcm, by simpa using hcs, ?_⟩, grownBy_set w g n u, .inl rfl, hend (.slice (some ⟨g, 0, none⟩) (n + 1) cap) _ (grownBy_set w g n u)⟩
      · have := blk_set_any hg n u
        rw [this, Array.size_setIfInBounds]
      · rw [Array.toList_setIfInBounds, List.take_add_one, List.take_set, htk, List.getElem?_set_self (by rw [Array.length_toList]; omega), List.set_eq_of_length_le (by omega)]
        rfl
    · obtain ⟨v2, w2, hr2, o2, g2⟩ := run_append_arg_grows (P := P) w t ty e i z 1 bytes ht hi hz hsize hby hzs (by decide) ⟨g, 0, none⟩ n cap xs (by rw [hxl, Nat.mul_one]) (fun j u' hj => by
          rw [show (⟨g, 0, none⟩ : Addr).add j = ⟨g, j, none⟩ by unfold Addr.add; split <;> simp_all, cell_of_row w g j cur e _ hg]
          rw [← htk, List.getElem?_take] at hj
          split at hj
          · simpa using hj
          · cases hj) ad 1 c [u] hnl hnews (by omega) h63 hbytes
      have g3 : w.grownBy w2 (Value.slice (some ⟨g, 0, none⟩) n cap).ownBlock := ⟨g2.os, g2.tape, g2.output, g2.size, fun k hk _ => g2.block k hk (by simp)⟩
      refine ⟨v2, w2, hr2, .inl (o2.mono hbase), g3, ?_, hend v2 w2 g3⟩
      rcases o2.2 with ⟨_, h0⟩ | ⟨g2, _, _, rfl, hb2, _⟩
      · omega
      · exact .inr ⟨g2, rfl, hb2⟩
theorem wpList_append_bytes (w : World) {ops : Array Oper} {rest : List Oper} {o : Oper} {a : Act} {Q : Exit → Act → World → Prop} (hgd : o.guard = none) (s x : Operand) (t : TypeId)
    (ho : o.op = .call { callee := .builtin .append, args := #[s, x], argTypes := #[t, t] }) (base : Nat) (e : TypeId) (z : Value) (bytes : Nat) (ht : P.underlying t = some (.slice e))
    (hinfo : (P.info? e).map (fun i => (i.zero, i.size, i.bytes)) = some (some z, 1, bytes)) (hzs : z.cells.size = 1) {v : Value} {n : Nat} {xs : List Value} (hs : a.eval s = v) (h : Bytes w base e v n xs)
    (ad : Addr) (c : Nat) (u : Value) (hx : a.eval x = .slice (some ad) 1 c) (hu : w.cell? ad = some u) (h1 : u.oneCell' = true) (h63 : n + 1 ≤ maxLen) (hbytes : (n + 1) * bytes ≤ 140737488355328) (hbase : base ≤ w.heap.size)
    (hK : ∀ v' w', Bytes w' base e v' (n + 1) (xs ++ [u]) → w.grownBy w' v.ownBlock → (v'.ownBlock = v.ownBlock ∨ ∃ b, v'.ownBlock = some b ∧ w.heap.size ≤ b) → Below base w w' → wpList P ops Q rest (a.put o.dst v') w') : wpList P ops Q (o :: rest) a w := by
  obtain ⟨i, hi, hzz⟩ := Option.map_eq_some_iff.1 hinfo
  simp only [Prod.mk.injEq] at hzz
  obtain ⟨hz0, hz1, hz2⟩ := hzz
  refine wpList_plain hgd fun K hK' => ?_
  obtain ⟨v', w', hrun, r1, r2, r3, r4⟩ := run_append_bytes (P := P) w base t o.type e i z bytes ht hi hz0 hz1 hz2 hzs h ad c u hu h1 h63 hbytes hbase
  unfold Oper.wp
  simp [execOp, ho, resolve, invoke, builtin, hs, hx, hrun, Result.andThen]
  exact hK' _ _ (hK v' w' r1 r2 r3 r4)
/-- a whole block loaded, in a walk of reads -/
theorem still_load_row {ops : Array Oper} {w : World} {Q : Act → Prop} {o : Oper} {rest : List Oper} {a : Act} (hgd : o.guard = none) (ty : TypeId) (x : Operand) (ho : o.op = .load ty x)
    (g : Nat) (hx : a.eval x = .pointer (some ⟨g, 0, none⟩)) (t : TypeId) (cs : Array Value) (fr : Nat × Nat) (d : TypeDesc) (hg : w.heap[g]? = some (.cells cs t fr))
    (hu : P.underlying ty = some d) (hd : (match d with | .struct _ | .array _ _ => true | _ => false) = true) (hi : (P.info? ty).map (·.size) = some cs.size)
    (h : wpStill P ops w Q rest (a.put o.dst (.agg cs))) : wpStill P ops w Q (o :: rest) a := by
  refine wpStill_step fun K hK => ?_
  rw [if_pos (by simp [Region.wanted, hgd])]
  unfold Oper.still execOp
  simp only [ho, hx, Instr.loadAt, Instr.sureAddr, Sem.run_bind, Sem.run_pure, Result.andThen_ok, run_loadVar_row w g t ty cs fr d hg hu hd hi]
  exact ⟨rfl, hK _ h⟩
end
end Go.Proofs.Ytolapikiflodfaa.Mem
