/- Here is proved: what the iterator over a place's taken ballots gives. Conditions: none. -/
import Derived.Test.YtnhnbobgfadhpaaMDecreeEnds5
import Derived.Test.YtnhnbobgfadhpaaMDecreeEnds4
import Derived.RangeFuncGives
import Derived.Lib.SlKeysI
import Derived.Sort.MapsRangeIn
import Derived.Shelf.AbstractIn
import Derived.OwnWalkIn
import Derived.TacticsInMore
import Derived.RegionIn
import Derived.LoopNIn
import Derived.LoopIn
import Derived.Shelf.SlIterI.Nil
import Derived.Shelf.SortM.Plain
import Derived.Shelf.SortM.SortNone
import Derived.Ground.GgzProg
import Derived.Ground.SlgmProg
import Derived.Test.YtnhnbobgfadhpaaProg
import Derived.Test.YtnhnbobgfadhpaaRows
import Derived.WalkKit
import Derived.ProofKit
import Derived.OpenShut
import Derived.ShutString
import Derived.ChangeOld
import Derived.Below
import Derived.SizedLaws
namespace Go.Proofs.Ytnhnbobgfadhpaa.Dec
open Go Go.RowKit Go.Shelf Go.Maps Go.Sort Go.Proofs.YtnhnbobgfadhpaaW.PrintWords Go.Proofs.YtnhnbobgfadhpaaW.PrintLast Go.Proofs.YtnhnbobgfadhpaaW.PrintMore Go.Proofs.Ytnhnbobgfadhpaa.Mp
set_option linter.unusedVariables false
set_option linter.unusedSimpArgs false
theorem tkC_inv {f : Int → Option (Nat × ByteArray)} {x v : Value} (h : tkC f x = some v) : ∃ b z, x = kInt b ∧ f b = some z ∧ v = held z := by
  cases x with
  | int k b =>
    cases k <;> first | (simp only [tkC] at h; done) | cases h | skip
    have h : (f b).map held = some v := h
    cases hf : f b with
    | none => rw [hf] at h; cases h
    | some z => rw [hf] at h; cases h; exact ⟨b, z, rfl, hf, rfl⟩
  | _ => cases h
theorem it_walks {P : Program} {k : TypeId} {w w2 : World} {b r : Nat} {f : Cont} {done : List Value} (h : It w P k b r f done) (hk : KeepsWalks w w2) : It w2 P k b r f done ∧ itLeft w2 b r = itLeft w b r := by
  have h' := h
  obtain ⟨es, clock, seen, c0, hb, hr, rest⟩ := h'
  have e1 := (hk.same b _ hb rfl).trans hb.symm
  have e2 := (hk.same r _ hr rfl).trans hr.symm
  exact ⟨h.block e1 e2, itLeft_block e1 e2⟩
theorem it_isWalk {P : Program} {k : TypeId} {w : World} {b r : Nat} {f : Cont} {done : List Value} (h : It w P k b r f done) : ∃ o : Obj, w.heap[r]? = some o ∧ o.isWalk = true := by
  obtain ⟨es, clock, seen, c0, hb, hr, rest⟩ := h
  exact ⟨_, hr, rfl⟩
theorem map_kInt {k : Int} {ss : List Int} (h : kInt k ∈ ss.map kInt) : k ∈ ss := by
  obtain ⟨x, hx, e⟩ := List.mem_map.1 h
  rw [← kInt_inj e]; exact hx
set_option maxRecDepth 100000 in
set_option maxHeartbeats 2000000 in
theorem keys_gives (n : Nat) (hn : 1 ≤ n) (Bm gt N : Nat) (d : D) (w : World) (hBm : Bm < w.heap.size) (hm : w.cell? ⟨Bm, 0, none⟩ = some (.map (some gt))) (hI : IMap w Try.prog 3 gt (tkC d.tk))
    (hN : ∀ ks : List Int, ks.Nodup → (∀ k ∈ ks, d.tk k ≠ none) → ks.length ≤ N) :
    SeqGives Fence.wide n Try.prog 34 #[.pointer (some ⟨Bm, 0, none⟩)] encZ (Keys d) N w := fun l J W hW hJ hY h0 => by
  have hmW : W.cell? ⟨Bm, 0, none⟩ = some (.map (some gt)) := (hW.cell (p := ⟨Bm, 0, none⟩) hBm).trans hm
  obtain ⟨w2, hrun, hIt, hB⟩ := (hI.below' hW).range (t := 41) (e := 61) Try.underlying41
  have hJ0 : J [] w2 := hJ [] W w2 none h0 ⟨hB.os, hB.tape, hB.output, hB.size, fun k hk _ => hB.block k hk⟩ (fun r e => by cases e)
  obtain ⟨r, hr⟩ : ∃ r, W.heap.size = r := ⟨_, rfl⟩
  rw [hr] at hrun hIt hJ
  have HN := Aside0.mk hN
  clear hB hN hI hm hW h0 hBm
  refine callsIn_of_wp Try.func34 rfl trivial ?_ rfl
  simp only [Try.ntmps34, List.size_toArray, List.length_cons, List.length_nil, Nat.reduceAdd, Nat.reduceSub, Array.replicate_succ, Array.replicate_zero, List.push_toArray, List.append_toArray, List.nil_append, List.cons_append]
  gi_wp2
  clear hrun hmW
  gi_loopw [3] (fun _ wr => ∃ ss : List Int, It wr Try.prog 3 gt r (tkC d.tk) (ss.map kInt) ∧ Aside0 (ss.Nodup ∧ ∀ k ∈ ss, d.tk k ≠ none) ∧ J ss wr) (fun _ wr => itLeft wr gt r)
  case atStart => exact ⟨[], hIt, ⟨List.nodup_nil, fun k h => by cases h⟩, hJ0⟩
  case round =>
    clear hIt hJ0
    obtain ⟨ss, hIt, HS, hJs⟩ := hrel
    rcases hIt.next 0 with ⟨hall, hrun⟩ | ⟨key, v, w3, hf, hnd, ⟨kl, hkey⟩, hrun, hIt2, hent, hlt, hg⟩
    · have HE : Aside0 (Keys d ss) := ⟨HS.out.1, fun k => ⟨HS.out.2 k, fun hne => by
        cases ht : d.tk k with
        | none => exact absurd ht hne
        | some z => exact map_kInt (hall (kInt k) (held z) (by show (d.tk k).map held = _; rw [ht]; rfl))⟩⟩
      clear hall hIt hY hJ
      gi_wp2
      go_end0
      exact ⟨⟨_, rfl⟩, ss, HE.out, hJs⟩
    · obtain ⟨b, z, rfl, hz, rfl⟩ := tkC_inv hf
      have HS2 : Aside0 ((ss ++ [b]).Nodup ∧ ∀ k ∈ ss ++ [b], d.tk k ≠ none) := ⟨by
        refine ⟨List.nodup_append.2 ⟨HS.out.1, by simp, fun x hx y hy e => ?_⟩, fun k hk => ?_⟩
        · rw [List.mem_singleton.1 hy] at e
          subst e
          exact hnd (List.mem_map.2 ⟨x, hx, rfl⟩)
        · rcases List.mem_append.1 hk with q | q
          · exact HS.out.2 k q
          · rw [List.mem_singleton.1 q, hz]; exact fun h => by cases h⟩
      have hlen : ss.length < N := by have := HN.out _ HS2.out.1 HS2.out.2; rw [List.length_append] at this; exact this
      have hJ2 : J ss w3 := hJ ss wr w3 (some r) hJs hg (fun r' e => by cases e; exact ⟨Nat.le_refl _, it_isWalk hIt⟩)
      obtain ⟨fn, tmps, assign, body, hy, hR⟩ := hY ss b w3 hJ2 hlen
      have HLT := Aside0.mk hlt
      have HI2 := Aside0.mk hIt2
      simp only [kInt] at hrun hent
      simp only [encZ] at hy
      clear hf hnd hkey hIt2 hlt hg hz hIt hJs hJ2 hlen hY hJ
      gi_wp2
      refine hR.mono ?_
      rintro e W3 ⟨rfl, hJ3, hk3⟩
      have H3 := Aside0.mk (it_walks HI2.out hk3)
      clear hk3
      gi_wp2
      go_roundw
      case rel => exact ⟨ss ++ [b], by have := H3.out.1; rw [List.map_append]; exact this, HS2, hJ3⟩
      case measure => have := H3.out.2; have := HLT.out; omega
end Go.Proofs.Ytnhnbobgfadhpaa.Dec
namespace Go.Proofs.Ytnhnbobgfadhpaa.Dec
open Go Go.RowKit Go.Shelf Go.Proofs.YtnhnbobgfadhpaaW.PrintWords Go.Proofs.YtnhnbobgfadhpaaW.PrintLast Go.Proofs.YtnhnbobgfadhpaaW.PrintMore Go.Proofs.Ytnhnbobgfadhpaa.Mp Go.Proofs.Ytnhnbobgfadhpaa.PDecreeStill
set_option linter.unusedVariables false
set_option linter.unusedSimpArgs false
/-- what slices.Sorted answers over the iterator -/
def SortedOK : Prop := ∀ (d : D) (Bm gt N : Nat) (w : World), Bm < w.heap.size → w.cell? ⟨Bm, 0, none⟩ = some (.map (some gt)) → IMap w Try.prog 3 gt (tkC d.tk) →
  (∀ ks : List Int, ks.Nodup → (∀ k ∈ ks, d.tk k ≠ none) → ks.length ≤ N) → N ≤ 1000000 →
  Calls Try.prog 21 #[.func (.func 34) #[] #[.pointer (some ⟨Bm, 0, none⟩)]] w fun e w' =>
    ∃ v ks, e = .returned v ∧ Keys d ks ∧ Kd.R (Kd.int .i64) 3 w' w.heap.size (fun _ => True) v ks ∧ Below w.heap.size w w'
set_option maxRecDepth 100000 in
theorem keysf_c (gt : Nat) (w : World) : Calls Try.prog 22 #[.map (some gt)] w fun e w' =>
    ∃ Bm, e = .returned (.func (.func 34) #[] #[.pointer (some ⟨Bm, 0, none⟩)]) ∧ Bm < w'.heap.size ∧ w'.cell? ⟨Bm, 0, none⟩ = some (.map (some gt)) ∧ Below w.heap.size w w' := by
  go_enter Try.func22, Try.ntmps22
  go_wp2
  go_ret
  exact ⟨_, rfl, by rw [size_alloc]; omega, blk_cell (blk_alloc_new w _) 0, below_alloc (Below.refl _ _) _⟩
theorem keys_len (d : D) (M : Nat) (h : ∀ b, d.tk b ≠ none → 0 < b ∧ b < M) (ks : List Int) (hn : ks.Nodup) (hk : ∀ k ∈ ks, d.tk k ≠ none) : ks.length ≤ M := by
  have h1 := nodup_len ks ((List.range M).map fun (i : Nat) => (i : Int)) hn (fun x hx => by
    have := h x (hk x hx)
    exact List.mem_map.2 ⟨x.toNat, List.mem_range.2 (by omega), by omega⟩)
  rwa [List.length_map, List.length_range] at h1
theorem rd_at (l : List Int) (k : Nat) (h : k < l.length) : rd l (k : Int) = l[k] := by
  unfold rd
  rw [Int.toNat_natCast, List.getD_eq_getElem?_getD, List.getElem?_eq_getElem h]; rfl
theorem been_snoc (d : D) (ks : List Int) (b : Int) : beenOf d (ks ++ [b]) = beenOf d ks ++ beenOf d [b] := by unfold beenOf; exact List.filterMap_append ..
theorem been_len_le (d : D) (ks : List Int) : (beenOf d ks).length ≤ ks.length := by unfold beenOf; exact List.length_filterMap_le ..
theorem field0 (x : Int) (y : ByteArray) (W : World) : (Instr.field 61 (.agg #[.int .u64 x, .string y]) 0).run Try.prog W = .ok (.int .u64 x) W := by
  kernel_rfl
theorem field1 (x : Int) (y : ByteArray) (W : World) : (Instr.field 61 (.agg #[.int .u64 x, .string y]) 1).run Try.prog W = .ok (.string y) W := by
  kernel_rfl
theorem R_low {α : Type} {k : Kd α} {e : TypeId} {W : World} {b b' : Nat} {v : Value} {xs : List α} (hb : b' ≤ b) (h : Kd.R k e W b (fun _ => True) v xs) : Kd.R k e W b' (fun _ => True) v xs := Kd.R_lower h hb
variable {base g : Nat} {L : Lay}
set_option maxRecDepth 100000 in
set_option maxHeartbeats 8000000 in
theorem been_c (hso : SortedOK) (d : D) (M : Nat) (w : World) (h : IsD base w g L d) (hk : ∀ b, d.tk b ≠ none → 0 < b ∧ b < M) (hM : M ≤ 1000000) (hw : ∀ b z, d.tk b = some z → z.1 < 2 ^ 64) :
    Calls Try.prog 12 #[.pointer (some ⟨g, 0, none⟩)] w fun e w' => ∃ v ks, e = .returned v ∧ Keys d ks ∧ SR w' w.heap.size v (beenOf d ks) ∧ Below w.heap.size w w' := by
  have HD := Aside0.mk h
  have HK := Aside0.mk hk
  have HMM := Aside0.mk hM
  have HW := Aside0.mk hw
  have HSO := Aside0.mk hso
  obtain ⟨n, hn⟩ : ∃ n, d.sl.length = n := ⟨_, rfl⟩
  have hn5 : n ≤ 5 := by have := h.sm; omega
  have c5 := (blk_cell h.blk 5).trans (show _ = some (Value.map (some L.gt)) from rfl)
  clear h hk hM hw hso
  go_enter Try.func12, Try.ntmps12
  go_wp2_with (first
    | (go_at_call 22; go_loud ((with_reducible refine (keysf_c L.gt w).mono ?_); rintro e w1 ⟨Bm, rfl, h1, h2, hB⟩; have HS := Aside0.mk (HSO.out d Bm L.gt M w1 h1 h2 (HD.out.tk.below' hB) (fun ks a b => keys_len d M HK.out ks a b) HMM.out); have HB1 := Aside0.mk hB; clear hB h1 h2))
    | (go_at_call 21; go_loud ((with_reducible refine HS.out.mono ?_); rintro e w2 ⟨v, ks, rfl, hks, hR, hB⟩; have HKS := Aside0.mk hks; have HB2 := Aside0.mk (below_step HB1.out hB); obtain ⟨A1, c1, ev1, hc1, hC⟩ := Kd.R_reads hR; subst ev1; have HC := Aside0.mk hC; clear hB hR hc1 hC hks)))
  obtain ⟨m, hm⟩ : ∃ m, ks.length = m := ⟨_, rfl⟩
  rw [hm] at HC
  simp only [hm]
  have hmM : m ≤ 1000000 := by have h1 := keys_len d M HK.out ks HKS.out.1 (fun k hk => (HKS.out.2 k).1 hk); have := HMM.out; omega
  have HM := Aside0.mk hm
  clear HS HSO HB1 c5 hm
  go_loopw [3, 13] (fun v3 v13 wr => ∃ (k o : Nat) (A3 : Option Addr) (c3 : Nat), v13 = .int .i64 k ∧ v3 = .slice A3 o c3 ∧ k ≤ m ∧ Aside0 (o ≤ k ∧ (beenOf d (ks.take k)).length = o) ∧ Aside0 (SR wr w2.heap.size (.slice A3 o c3) (beenOf d (ks.take k))) ∧ Aside0 (Below w.heap.size w wr) ∧ Aside0 (Below w2.heap.size w2 wr)) (fun _ v13 _ => m - (Go.RowKit.intOf v13).toNat)
  case atStart => exact ⟨0, 0, none, 0, rfl, rfl, Nat.zero_le _, ⟨Nat.le_refl _, rfl⟩, ⟨Kd.R_nil _ _ _ _ _⟩, HB2, ⟨Below.refl _ _⟩⟩
  case round =>
    have HB20 := HB2
    clear HB2
    obtain ⟨k, o, A3, c3, rfl, rfl, hk, HO, HR, HB, HBw⟩ := hrel
    by_cases h1 : k < m
    · have h1i : (k : Int) < (m : Int) := by omega
      have hkl : k < ks.length := by have := HM.out; omega
      obtain ⟨ad, e, hx⟩ := Kd.at_int (Kd.C_below HC.out HBw.out) (k : Int) (by omega) h1i
      cases e
      obtain ⟨b, hb⟩ : ∃ b, ks[k] = b := ⟨_, rfl⟩
      rw [show rd ks (k : Int) = b from by rw [← hb]; exact rd_at ks k hkl, Int.toNat_natCast] at hx
      have htk : d.tk b ≠ none := by rw [← hb]; exact (HKS.out.2 _).1 (List.getElem_mem hkl)
      have HBB := Aside0.mk (HK.out b htk)
      obtain ⟨z, hz⟩ : ∃ z, d.tk b = some z := Option.ne_none_iff_exists'.1 htk
      have hha : heldAt d b = z := by unfold heldAt; rw [hz]; rfl
      have HHA := Aside0.mk hha
      have hwz : z.1 < 2 ^ 64 := HW.out b z hz
      have HEN := Aside0.mk (fun W => vote_Enough.calls (z.1 : Int) (n : Int) (enb z.1 n) W ((Go.Proofs.Ytnhnbobgfadhpaa.SetsDecreeStill.enough_f z.1 n hwz (by omega)).trans (congrArg some (enough_enb z.1 n (by omega)))))
      have HTK : Aside0 (beenOf d (ks.take (k + 1)) = beenOf d (ks.take k) ++ (if enb z.1 n = true then [z.2] else [])) := ⟨by
        rw [List.take_succ_eq_append_getElem hkl, been_snoc, hb]
        congr 1
        unfold beenOf
        rw [List.filterMap_cons, hz, hn]
        by_cases he : enb z.1 n = true <;> simp [he]⟩
      clear hkl hb htk hz hha hwz
      go_wp2_with fail
      have IW := Aside0.mk ((HD.out.below HB.out).drew)
      have BD := Aside0.mk HB.out.drew
      have BWD := Aside0.mk HBw.out.drew
      have c5 : wr.drew.cell? ⟨g, 5, none⟩ = some (.map (some L.gt)) := (blk_cell IW.out.blk 5).trans rfl
      have c0 : wr.drew.cell? ⟨g, 0, none⟩ = some (.slice (some ⟨L.gs, 0, none⟩) n n) := by rw [← hn]; exact (blk_cell IW.out.blk 0).trans rfl
      have RD := Aside0.mk (Kd.R_drew HR.out)
      clear hx HB HBw HR
      obtain ⟨x, y⟩ := z
      have hoi : (o : Int) ≤ 1000000 := by have := HO.out.1; omega
      cases he : enb x n with
      | false =>
        simp only [he] at HEN HTK
        clear he
        refine start_ (n := 13) (S := fun w' => Below (wr).drew.heap.size (wr).drew w') (ds := []) #[false, false, false, false, false, false, false, false, false, false, false, false, false] (by kernel_rfl) rfl rfl (Below.refl _ _) (fun hHeld => ?_)
        generalize (wr).drew = W0 at *
        refine pure_ (i := 0) (N := (some 17)) (v := ?_) (a' := ?_) #[true, false, false, false, false, false, false, false, false, false, false, false, false] rfl rfl (by kernel_rfl) (fun _ _ _ h => h) (Or.inl ⟨by rfl, ?_⟩) ?_ ?_
        rotate_left
        · intro w'
          go_simp
          first | done | with_reducible rfl
        rotate_left
        · simp only [Act.put, List.setIfInBounds_toArray, List.set_cons_zero, List.set_cons_succ, i64_w, i32_w]
          rfl
        refine pure_ (i := 1) (N := (some 18)) (v := ?_) (a' := ?_) #[true, true, false, false, false, false, false, false, false, false, false, false, false] rfl rfl (by kernel_rfl) (fun _ _ _ h => h) (Or.inl ⟨by rfl, ?_⟩) ?_ ?_
        rotate_left
        · intro w'
          skip
          go_simp
          first | done | with_reducible rfl
        rotate_left
        · simp only [Act.put, List.setIfInBounds_toArray, List.set_cons_zero, List.set_cons_succ, i64_w, i32_w]
          rfl
        refine pure_ (i := 2) (N := (some 19)) (v := ?_) (a' := ?_) #[true, true, true, false, false, false, false, false, false, false, false, false, false] rfl rfl (by kernel_rfl) (fun _ _ _ h => h) (Or.inl ⟨by rfl, ?_⟩) ?_ ?_
        rotate_left
        · intro w'
          go_simp
          first | done | with_reducible rfl
        rotate_left
        · simp only [Act.put, List.setIfInBounds_toArray, List.set_cons_zero, List.set_cons_succ, i64_w, i32_w]
          rfl
        refine take_ (i := 3) (N := (some 20)) (v := ?_) (a' := ?_) #[true, true, true, true, false, false, false, false, false, false, false, false, false] rfl rfl (by kernel_rfl) (fun _ _ _ h => h) (Or.inl ⟨by rfl, ?_⟩) hHeld ?_ ?_
        rotate_left
        · intro w' hS
          have s0 := pw_cell_below hS c5
          go_simp
          first | done | with_reducible rfl
        rotate_left
        · simp only [Act.put, List.setIfInBounds_toArray, List.set_cons_zero, List.set_cons_succ, i64_w, i32_w]
          rfl
        refine pure_ (i := 4) (N := (some 21)) (v := ?_) (a' := ?_) #[true, true, true, true, true, false, false, false, false, false, false, false, false] rfl rfl (by kernel_rfl) (fun _ _ _ h => h) (Or.inl ⟨by rfl, ?_⟩) ?_ ?_
        rotate_left
        · intro w'
          go_simp
          first | done | with_reducible rfl
        rotate_left
        · simp only [Act.put, List.setIfInBounds_toArray, List.set_cons_zero, List.set_cons_succ, i64_w, i32_w]
          rfl
        refine take_ (i := 5) (N := (some 22)) (v := ?_) (a' := ?_) #[true, true, true, true, true, true, false, false, false, false, false, false, false] rfl rfl (by kernel_rfl) (fun _ _ _ h => h) (Or.inl ⟨by rfl, ?_⟩) hHeld ?_ ?_
        rotate_left
        · intro w' hS
          have s0 := (IW.out.below hS).look_tk b (by have := HBB.out; omega) (by have := HBB.out; have := HMM.out; omega)
          rw [HHA.out] at s0
          go_simp
          first | done | with_reducible rfl
        rotate_left
        · simp only [Act.put, List.setIfInBounds_toArray, List.set_cons_zero, List.set_cons_succ, i64_w, i32_w]
          rfl
        refine pure_ (i := 6) (N := (some 23)) (v := ?_) (a' := ?_) #[true, true, true, true, true, true, true, false, false, false, false, false, false] rfl rfl (by kernel_rfl) (fun _ _ _ h => h) (Or.inl ⟨by rfl, ?_⟩) ?_ ?_
        rotate_left
        · intro w'
          have s0 := field0 x y w'
          go_simp
          first | done | with_reducible rfl
        rotate_left
        · simp only [Act.put, List.setIfInBounds_toArray, List.set_cons_zero, List.set_cons_succ, i64_w, i32_w]
          rfl
        refine pure_ (i := 7) (N := (some 24)) (v := ?_) (a' := ?_) #[true, true, true, true, true, true, true, true, false, false, false, false, false] rfl rfl (by kernel_rfl) (fun _ _ _ h => h) (Or.inl ⟨by rfl, ?_⟩) ?_ ?_
        rotate_left
        · intro w'
          go_simp
          first | done | with_reducible rfl
        rotate_left
        · simp only [Act.put, List.setIfInBounds_toArray, List.set_cons_zero, List.set_cons_succ, i64_w, i32_w]
          rfl
        refine pure_ (i := 8) (N := (some 25)) (v := ?_) (a' := ?_) #[true, true, true, true, true, true, true, true, true, false, false, false, false] rfl rfl (by kernel_rfl) (fun _ _ _ h => h) (Or.inl ⟨by rfl, ?_⟩) ?_ ?_
        rotate_left
        · intro w'
          skip
          go_simp
          first | done | with_reducible rfl
        rotate_left
        · simp only [Act.put, List.setIfInBounds_toArray, List.set_cons_zero, List.set_cons_succ, i64_w, i32_w]
          rfl
        refine pure_ (i := 9) (N := (some 26)) (v := ?_) (a' := ?_) #[true, true, true, true, true, true, true, true, true, true, false, false, false] rfl rfl (by kernel_rfl) (fun _ _ _ h => h) (Or.inl ⟨by rfl, ?_⟩) ?_ ?_
        rotate_left
        · intro w'
          go_simp
          first | done | with_reducible rfl
        rotate_left
        · simp only [Act.put, List.setIfInBounds_toArray, List.set_cons_zero, List.set_cons_succ, i64_w, i32_w]
          rfl
        refine take_ (i := 10) (N := (some 27)) (v := ?_) (a' := ?_) #[true, true, true, true, true, true, true, true, true, true, true, false, false] rfl rfl (by kernel_rfl) (fun _ _ _ h => h) (Or.inl ⟨by rfl, ?_⟩) hHeld ?_ ?_
        rotate_left
        · intro w' hS
          have s0 := pw_cell_below hS c0
          go_simp
          first | done | with_reducible rfl
        rotate_left
        · simp only [Act.put, List.setIfInBounds_toArray, List.set_cons_zero, List.set_cons_succ, i64_w, i32_w]
          rfl
        refine pure_ (i := 11) (N := (some 28)) (v := ?_) (a' := ?_) #[true, true, true, true, true, true, true, true, true, true, true, true, false] rfl rfl (by kernel_rfl) (fun _ _ _ h => h) (Or.inl ⟨by rfl, ?_⟩) ?_ ?_
        rotate_left
        · intro w'
          go_simp
          first | done | with_reducible rfl
        rotate_left
        · simp only [Act.put, List.setIfInBounds_toArray, List.set_cons_zero, List.set_cons_succ, i64_w, i32_w]
          rfl
        refine one_ (i := 12) (N := (some 29)) #[true, true, true, true, true, true, true, true, true, true, true, true, true] rfl rfl (by kernel_rfl) (by decide) (fun K hK => ?_)
        refine goes_ Try.func23 (by kernel_rfl) rfl #[.int .u64 x, .int .i64 (n : Int)] (by rfl) rfl rfl (by (try simp only [List.map_toArray, List.map_cons, List.map_nil]); first | done | rfl) ?_
        (with_reducible refine (HEN.out _).mono ?_)
        rintro e wa ⟨rfl, hB⟩
        obtain ⟨dm, hdm⟩ := hB.out
        refine ⟨_, rfl, ?_⟩
        have hS2 : Below W0.heap.size W0 wa := by rw [hdm]; exact pw_below_drewN hHeld dm
        clear hB hHeld hdm dm
        refine hK.out _ _ hS2 (fun hHeld => ?_)
        clear hK K
        refine norm_ (a' := ?_) ?_ ?_
        rotate_left
        · show Act.put _ (some 29) _ = _
          simp only [Act.put, List.setIfInBounds_toArray, List.set_cons_zero, List.set_cons_succ, i64_w, i32_w]
          rfl
        refine done_ (by kernel_rfl) ?_
        go_wp2_with fail
        have HW3 := Aside0.mk (below_step BD.out hHeld)
        have HW4 := Aside0.mk (below_step BWD.out hHeld)
        go_roundw
        case rel => exact ⟨k + 1, o, A3, c3, by go_num, rfl, by omega, ⟨by have := HO.out.1; omega, by rw [HTK.out, if_neg Bool.false_ne_true, List.append_nil]; exact HO.out.2⟩, ⟨by rw [HTK.out, if_neg Bool.false_ne_true, List.append_nil]; exact Kd.R_below RD.out hHeld⟩, HW3, HW4⟩
        case measure => simp [Go.RowKit.intOf]; omega
      | true =>
        simp only [he] at HEN HTK
        clear he
        refine start_ (n := 13) (S := fun w' => Below (wr).drew.heap.size (wr).drew w') (ds := []) #[false, false, false, false, false, false, false, false, false, false, false, false, false] (by kernel_rfl) rfl rfl (Below.refl _ _) (fun hHeld => ?_)
        generalize (wr).drew = W0 at *
        refine pure_ (i := 0) (N := (some 17)) (v := ?_) (a' := ?_) #[true, false, false, false, false, false, false, false, false, false, false, false, false] rfl rfl (by kernel_rfl) (fun _ _ _ h => h) (Or.inl ⟨by rfl, ?_⟩) ?_ ?_
        rotate_left
        · intro w'
          go_simp
          first | done | with_reducible rfl
        rotate_left
        · simp only [Act.put, List.setIfInBounds_toArray, List.set_cons_zero, List.set_cons_succ, i64_w, i32_w]
          rfl
        refine pure_ (i := 1) (N := (some 18)) (v := ?_) (a' := ?_) #[true, true, false, false, false, false, false, false, false, false, false, false, false] rfl rfl (by kernel_rfl) (fun _ _ _ h => h) (Or.inl ⟨by rfl, ?_⟩) ?_ ?_
        rotate_left
        · intro w'
          skip
          go_simp
          first | done | with_reducible rfl
        rotate_left
        · simp only [Act.put, List.setIfInBounds_toArray, List.set_cons_zero, List.set_cons_succ, i64_w, i32_w]
          rfl
        refine pure_ (i := 2) (N := (some 19)) (v := ?_) (a' := ?_) #[true, true, true, false, false, false, false, false, false, false, false, false, false] rfl rfl (by kernel_rfl) (fun _ _ _ h => h) (Or.inl ⟨by rfl, ?_⟩) ?_ ?_
        rotate_left
        · intro w'
          go_simp
          first | done | with_reducible rfl
        rotate_left
        · simp only [Act.put, List.setIfInBounds_toArray, List.set_cons_zero, List.set_cons_succ, i64_w, i32_w]
          rfl
        refine take_ (i := 3) (N := (some 20)) (v := ?_) (a' := ?_) #[true, true, true, true, false, false, false, false, false, false, false, false, false] rfl rfl (by kernel_rfl) (fun _ _ _ h => h) (Or.inl ⟨by rfl, ?_⟩) hHeld ?_ ?_
        rotate_left
        · intro w' hS
          have s0 := pw_cell_below hS c5
          go_simp
          first | done | with_reducible rfl
        rotate_left
        · simp only [Act.put, List.setIfInBounds_toArray, List.set_cons_zero, List.set_cons_succ, i64_w, i32_w]
          rfl
        refine pure_ (i := 4) (N := (some 21)) (v := ?_) (a' := ?_) #[true, true, true, true, true, false, false, false, false, false, false, false, false] rfl rfl (by kernel_rfl) (fun _ _ _ h => h) (Or.inl ⟨by rfl, ?_⟩) ?_ ?_
        rotate_left
        · intro w'
          go_simp
          first | done | with_reducible rfl
        rotate_left
        · simp only [Act.put, List.setIfInBounds_toArray, List.set_cons_zero, List.set_cons_succ, i64_w, i32_w]
          rfl
        refine take_ (i := 5) (N := (some 22)) (v := ?_) (a' := ?_) #[true, true, true, true, true, true, false, false, false, false, false, false, false] rfl rfl (by kernel_rfl) (fun _ _ _ h => h) (Or.inl ⟨by rfl, ?_⟩) hHeld ?_ ?_
        rotate_left
        · intro w' hS
          have s0 := (IW.out.below hS).look_tk b (by have := HBB.out; omega) (by have := HBB.out; have := HMM.out; omega)
          rw [HHA.out] at s0
          go_simp
          first | done | with_reducible rfl
        rotate_left
        · simp only [Act.put, List.setIfInBounds_toArray, List.set_cons_zero, List.set_cons_succ, i64_w, i32_w]
          rfl
        refine pure_ (i := 6) (N := (some 23)) (v := ?_) (a' := ?_) #[true, true, true, true, true, true, true, false, false, false, false, false, false] rfl rfl (by kernel_rfl) (fun _ _ _ h => h) (Or.inl ⟨by rfl, ?_⟩) ?_ ?_
        rotate_left
        · intro w'
          have s0 := field0 x y w'
          go_simp
          first | done | with_reducible rfl
        rotate_left
        · simp only [Act.put, List.setIfInBounds_toArray, List.set_cons_zero, List.set_cons_succ, i64_w, i32_w]
          rfl
        refine pure_ (i := 7) (N := (some 24)) (v := ?_) (a' := ?_) #[true, true, true, true, true, true, true, true, false, false, false, false, false] rfl rfl (by kernel_rfl) (fun _ _ _ h => h) (Or.inl ⟨by rfl, ?_⟩) ?_ ?_
        rotate_left
        · intro w'
          go_simp
          first | done | with_reducible rfl
        rotate_left
        · simp only [Act.put, List.setIfInBounds_toArray, List.set_cons_zero, List.set_cons_succ, i64_w, i32_w]
          rfl
        refine pure_ (i := 8) (N := (some 25)) (v := ?_) (a' := ?_) #[true, true, true, true, true, true, true, true, true, false, false, false, false] rfl rfl (by kernel_rfl) (fun _ _ _ h => h) (Or.inl ⟨by rfl, ?_⟩) ?_ ?_
        rotate_left
        · intro w'
          skip
          go_simp
          first | done | with_reducible rfl
        rotate_left
        · simp only [Act.put, List.setIfInBounds_toArray, List.set_cons_zero, List.set_cons_succ, i64_w, i32_w]
          rfl
        refine pure_ (i := 9) (N := (some 26)) (v := ?_) (a' := ?_) #[true, true, true, true, true, true, true, true, true, true, false, false, false] rfl rfl (by kernel_rfl) (fun _ _ _ h => h) (Or.inl ⟨by rfl, ?_⟩) ?_ ?_
        rotate_left
        · intro w'
          go_simp
          first | done | with_reducible rfl
        rotate_left
        · simp only [Act.put, List.setIfInBounds_toArray, List.set_cons_zero, List.set_cons_succ, i64_w, i32_w]
          rfl
        refine take_ (i := 10) (N := (some 27)) (v := ?_) (a' := ?_) #[true, true, true, true, true, true, true, true, true, true, true, false, false] rfl rfl (by kernel_rfl) (fun _ _ _ h => h) (Or.inl ⟨by rfl, ?_⟩) hHeld ?_ ?_
        rotate_left
        · intro w' hS
          have s0 := pw_cell_below hS c0
          go_simp
          first | done | with_reducible rfl
        rotate_left
        · simp only [Act.put, List.setIfInBounds_toArray, List.set_cons_zero, List.set_cons_succ, i64_w, i32_w]
          rfl
        refine pure_ (i := 11) (N := (some 28)) (v := ?_) (a' := ?_) #[true, true, true, true, true, true, true, true, true, true, true, true, false] rfl rfl (by kernel_rfl) (fun _ _ _ h => h) (Or.inl ⟨by rfl, ?_⟩) ?_ ?_
        rotate_left
        · intro w'
          go_simp
          first | done | with_reducible rfl
        rotate_left
        · simp only [Act.put, List.setIfInBounds_toArray, List.set_cons_zero, List.set_cons_succ, i64_w, i32_w]
          rfl
        refine one_ (i := 12) (N := (some 29)) #[true, true, true, true, true, true, true, true, true, true, true, true, true] rfl rfl (by kernel_rfl) (by decide) (fun K hK => ?_)
        refine goes_ Try.func23 (by kernel_rfl) rfl #[.int .u64 x, .int .i64 (n : Int)] (by rfl) rfl rfl (by (try simp only [List.map_toArray, List.map_cons, List.map_nil]); first | done | rfl) ?_
        (with_reducible refine (HEN.out _).mono ?_)
        rintro e wa ⟨rfl, hB⟩
        obtain ⟨dm, hdm⟩ := hB.out
        refine ⟨_, rfl, ?_⟩
        have hS2 : Below W0.heap.size W0 wa := by rw [hdm]; exact pw_below_drewN hHeld dm
        clear hB hHeld hdm dm
        refine hK.out _ _ hS2 (fun hHeld => ?_)
        clear hK K
        refine norm_ (a' := ?_) ?_ ?_
        rotate_left
        · show Act.put _ (some 29) _ = _
          simp only [Act.put, List.setIfInBounds_toArray, List.set_cons_zero, List.set_cons_succ, i64_w, i32_w]
          rfl
        refine done_ (by kernel_rfl) ?_
        have HW3 := Aside0.mk (below_step BD.out hHeld)
        have HW4 := Aside0.mk (below_step BWD.out hHeld)
        have I5 := Aside0.mk (IW.out.below hHeld)
        have R5 := Aside0.mk (Kd.R_below RD.out hHeld)
        have g5 := (blk_cell I5.out.blk 5).trans (show _ = some (Value.map (some L.gt)) from rfl)
        have hlk := I5.out.look_tk b (by have := HBB.out; omega) (by have := HBB.out; have := HMM.out; omega)
        rw [HHA.out] at hlk
        have hf1 := field1 (x : Int) y wa
        clear hHeld c5 c0 IW
        go_wp2_with (first
          | ((with_reducible refine gate_builtin (b := .append) (xs := #[.tmp 30, .tmp 38]) rfl ?_); at_builtin; refine Kd.R_append (P := Try.prog) Kd.string (w0 := w2) (W := wa) w2.heap.size rfl (.tmp 30) (.tmp 38) 30 9 (.string ⟨#[]⟩) 16 rfl Try.underlying30 info_str rfl (by decide) (by decide) (.slice A3 o c3) (beenOf d (ks.take k)) y [.string y] (fun _ => True) (fun _ => False) rfl rfl rfl (fun _ h => h.elim) (fun _ _ => trivial) R5.out HW4.out HW4.out.size (by rw [HO.out.2]; omega) ?_; intro v2 w4 hr2 hb2 hg2 hat2; obtain ⟨A4, c4, e4⟩ := Kd.R_slice hr2; have e5 : (beenOf d (ks.take k) ++ [y]).length = o + 1 := (by rw [List.length_append, HO.out.2]; rfl); rw [e5] at e4; subst e4; have HR2 := Aside0.mk hr2; have HB2 := Aside0.mk hb2; have HG2 := Aside0.mk hg2; clear hr2 hb2 hg2 hat2 e5))
        go_roundw
        case rel => exact ⟨k + 1, o + 1, A4, c4, by go_num, rfl, by omega, ⟨by have := HO.out.1; omega, by rw [HTK.out, if_pos trivial, List.length_append, HO.out.2]; rfl⟩, ⟨by rw [HTK.out, if_pos trivial]; exact HR2.out⟩, ⟨below_step HB20.out HB2.out⟩, HB2⟩
        case measure => simp [Go.RowKit.intOf]; omega
    · have h1i : ¬ (k : Int) < (m : Int) := by omega
      obtain rfl : k = m := by omega
      have HE : Aside0 (beenOf d (ks.take k) = beenOf d ks) := ⟨by rw [← HM.out, List.take_length]⟩
      go_wp2
      go_ret
      refine ⟨_, rfl, ks, HKS.out, ?_, HB.out⟩
      have h := HR.out
      rw [HE.out] at h
      exact R_low HB20.out.size h
end Go.Proofs.Ytnhnbobgfadhpaa.Dec
namespace Go.Proofs
open Go.Shelf
def Try.keysA_ren : Go.Shelf.Ren := ⟨fun | 7 => 22 | 10 => 34 | n => n, fun | 23 => 41 | 26 => 3 | 3 => 61 | 28 => 56 | 0 => 0 | 27 => 55 | 33 => 68 | 4 => 4 | n => n, fun | n => n⟩
theorem Try.keysA : Go.Proofs.SlLaysZI.n7 Try.prog Try.keysA_ren := {
  mixed := by kernel_rfl
  f7 := ⟨Try.f22.name, by decide, Try.func22.trans (congrArg some (by kernel_rfl))⟩
  f10 := ⟨Try.f34.name, by decide, Try.func34.trans (congrArg some (by kernel_rfl))⟩
  t0 := Try.underlying0
  a0 := Try.isAgg0
  z0 := Try.sizeOf0
  v0 := Try.zeroValue0
  t4 := Try.underlying4
  a4 := Try.isAgg4
  z4 := Try.sizeOf4
  v4 := Try.zeroValue4
  t23 := Try.underlying41
  a23 := Try.isAgg41
  z23 := Try.sizeOf41
  v23 := Try.zeroValue41
  t26 := Try.underlying3
  a26 := Try.isAgg3
  z26 := Try.sizeOf3
  v26 := Try.zeroValue3
  t27 := Try.underlying55
  a27 := Try.isAgg55
  z27 := Try.sizeOf55
  v27 := Try.zeroValue55
  t28 := Try.underlying56
  a28 := Try.isAgg56
  z28 := Try.sizeOf56
  v28 := Try.zeroValue56
  t33 := Try.underlying68
  a33 := Try.isAgg68
  z33 := Try.sizeOf68
  v33 := Try.zeroValue68 }
def Try.sortedA_ren : Go.Shelf.Ren := ⟨fun | 6 => 21 | 8 => 32 | 9 => 33 | 11 => 44 | 13 => 46 | 12 => 45 | 23 => 59 | 24 => 60 | 14 => 50 | 15 => 51 | 16 => 52 | 17 => 53 | 18 => 54 | 19 => 55 | 20 => 56 | 21 => 57 | 22 => 58 | 25 => 62 | 26 => 63 | 27 => 64 | 28 => 65 | 29 => 66 | 30 => 67 | 31 => 68 | n => n, fun | 26 => 3 | 28 => 56 | 24 => 53 | 0 => 0 | 3 => 3 | 37 => 82 | 48 => 94 | 50 => 58 | 4 => 4 | 40 => 87 | 39 => 86 | 45 => 91 | 5 => 5 | 9 => 9 | 51 => 95 | 55 => 99 | 57 => 101 | 58 => 102 | 33 => 68 | n => n, fun | n => n⟩
theorem Try.sortedA : Go.Proofs.SlLaysZI.n6 Try.prog Try.sortedA_ren := {
  mixed := by kernel_rfl
  f6 := ⟨Try.f21.name, by decide, Try.func21.trans (congrArg some (by kernel_rfl))⟩
  f8 := ⟨Try.f32.name, by decide, Try.func32.trans (congrArg some (by kernel_rfl))⟩
  f11 := ⟨Try.f44.name, by decide, Try.func44.trans (congrArg some (by kernel_rfl))⟩
  t0 := Try.underlying0
  a0 := Try.isAgg0
  z0 := Try.sizeOf0
  v0 := Try.zeroValue0
  t24 := Try.underlying53
  a24 := Try.isAgg53
  z24 := Try.sizeOf53
  v24 := Try.zeroValue53
  t26 := Try.underlying3
  a26 := Try.isAgg3
  z26 := Try.sizeOf3
  v26 := Try.zeroValue3
  t28 := Try.underlying56
  a28 := Try.isAgg56
  z28 := Try.sizeOf56
  v28 := Try.zeroValue56
  i26 := by kernel_rfl }
def Try.sortA_ren : Go.Shelf.Ren := ⟨fun | 5 => 33 | 8 => 46 | 7 => 45 | 19 => 59 | 20 => 60 | 10 => 50 | 11 => 51 | 12 => 52 | 13 => 53 | 14 => 54 | 15 => 55 | 16 => 56 | 17 => 57 | 18 => 58 | 30 => 62 | 31 => 63 | 32 => 64 | 33 => 65 | 34 => 66 | 35 => 67 | 40 => 68 | n => n, fun | 23 => 53 | 25 => 3 | 3 => 3 | 32 => 82 | 22 => 53 | 0 => 0 | 44 => 94 | 46 => 58 | 4 => 4 | 36 => 87 | 35 => 86 | 41 => 91 | 5 => 5 | 9 => 9 | 53 => 95 | 57 => 99 | 63 => 101 | 64 => 102 | n => n, fun | n => n⟩
theorem Try.sortA : Go.Proofs.SlLaysM.n5 Try.prog Try.sortA_ren := {
  mixed := by kernel_rfl
  f5 := ⟨Try.f33.name, by decide, Try.func33.trans (congrArg some (by kernel_rfl))⟩
  f7 := ⟨Try.f45.name, by decide, Try.func45.trans (congrArg some (by kernel_rfl))⟩
  f8 := Try.func46.trans (congrArg some (by kernel_rfl))
  f10 := ⟨Try.f50.name, by decide, Try.func50.trans (congrArg some (by kernel_rfl))⟩
  f11 := ⟨Try.f51.name, by decide, Try.func51.trans (congrArg some (by kernel_rfl))⟩
  f12 := ⟨Try.f52.name, by decide, Try.func52.trans (congrArg some (by kernel_rfl))⟩
  f13 := ⟨Try.f53.name, by decide, Try.func53.trans (congrArg some (by kernel_rfl))⟩
  f14 := ⟨Try.f54.name, by decide, Try.func54.trans (congrArg some (by kernel_rfl))⟩
  f15 := ⟨Try.f55.name, by decide, Try.func55.trans (congrArg some (by kernel_rfl))⟩
  f16 := ⟨Try.f56.name, by decide, Try.func56.trans (congrArg some (by kernel_rfl))⟩
  f17 := ⟨Try.f57.name, by decide, Try.func57.trans (congrArg some (by kernel_rfl))⟩
  f18 := ⟨Try.f58.name, by decide, Try.func58.trans (congrArg some (by kernel_rfl))⟩
  f19 := Try.func59.trans (congrArg some (by kernel_rfl))
  f20 := Try.func60.trans (congrArg some (by kernel_rfl))
  f30 := ⟨Try.f62.name, by decide, Try.func62.trans (congrArg some (by kernel_rfl))⟩
  f31 := Try.func63.trans (congrArg some (by kernel_rfl))
  f32 := Try.func64.trans (congrArg some (by kernel_rfl))
  f33 := ⟨Try.f65.name, by decide, Try.func65.trans (congrArg some (by kernel_rfl))⟩
  f34 := ⟨Try.f66.name, by decide, Try.func66.trans (congrArg some (by kernel_rfl))⟩
  f35 := ⟨Try.f67.name, by decide, Try.func67.trans (congrArg some (by kernel_rfl))⟩
  f40 := ⟨Try.f68.name, by decide, Try.func68.trans (congrArg some (by kernel_rfl))⟩
  t0 := Try.underlying0
  a0 := Try.isAgg0
  z0 := Try.sizeOf0
  v0 := Try.zeroValue0
  t3 := Try.underlying3
  a3 := Try.isAgg3
  z3 := Try.sizeOf3
  v3 := Try.zeroValue3
  t4 := Try.underlying4
  a4 := Try.isAgg4
  z4 := Try.sizeOf4
  v4 := Try.zeroValue4
  t5 := Try.underlying5
  a5 := Try.isAgg5
  z5 := Try.sizeOf5
  v5 := Try.zeroValue5
  t9 := Try.underlying9
  a9 := Try.isAgg9
  z9 := Try.sizeOf9
  v9 := Try.zeroValue9
  t22 := Try.underlying53
  a22 := Try.isAgg53
  z22 := Try.sizeOf53
  v22 := Try.zeroValue53
  t23 := Try.underlying53
  a23 := Try.isAgg53
  z23 := Try.sizeOf53
  v23 := Try.zeroValue53
  t25 := Try.underlying3
  a25 := Try.isAgg3
  z25 := Try.sizeOf3
  v25 := Try.zeroValue3
  t32 := Try.underlying82
  a32 := Try.isAgg82
  z32 := Try.sizeOf82
  v32 := Try.zeroValue82
  t35 := Try.underlying86
  a35 := Try.isAgg86
  z35 := Try.sizeOf86
  v35 := Try.zeroValue86
  t36 := Try.underlying87
  a36 := Try.isAgg87
  z36 := Try.sizeOf87
  v36 := Try.zeroValue87
  t41 := Try.underlying91
  a41 := Try.isAgg91
  z41 := Try.sizeOf91
  v41 := Try.zeroValue91
  t44 := Try.underlying94
  a44 := Try.isAgg94
  z44 := Try.sizeOf94
  v44 := Try.zeroValue94
  t46 := Try.underlying58
  a46 := Try.isAgg58
  z46 := Try.sizeOf58
  v46 := Try.zeroValue58
  t53 := Try.underlying95
  a53 := Try.isAgg95
  z53 := Try.sizeOf95
  v53 := Try.zeroValue95
  t57 := Try.underlying99
  a57 := Try.isAgg99
  z57 := Try.sizeOf99
  v57 := Try.zeroValue99
  t63 := Try.underlying101
  a63 := Try.isAgg101
  z63 := Try.sizeOf101
  v63 := Try.zeroValue101
  t64 := Try.underlying102
  a64 := Try.isAgg102
  z64 := Try.sizeOf102
  v64 := Try.zeroValue102 }
end Go.Proofs
namespace Go.Proofs.Ytnhnbobgfadhpaa.Dec
open Go Go.RowKit Go.Shelf Go.Maps Go.Sort Go.Proofs.YtnhnbobgfadhpaaW.PrintWords Go.Proofs.YtnhnbobgfadhpaaW.PrintLast Go.Proofs.YtnhnbobgfadhpaaW.PrintMore Go.Proofs.Ytnhnbobgfadhpaa.Mp
set_option linter.unusedVariables false
set_option linter.unusedSimpArgs false
/-- slices.Sort's two contracts, at the fence that asks nothing -/
theorem sortsA (m : Nat) : AnyZI.SortsIn Try.prog Try.sortedA_ren Fence.wide m :=
  ⟨fun blk off cap ss W hH hblk hsz => callsIn_wide.2 (AnyM.slices_Sort_int Try.sortA blk off cap ss W hH hblk hsz),
   fun p cap W => callsIn_wide.2 (AnyM.slices_Sort_int_none Try.sortA p cap W)⟩
theorem reps_encZ : ∀ xs : List Int, Reps (fun (x : Int) cs => cs = [Value.int .i64 x]) 1 xs (xs.map encZ)
  | [] => Reps.none _ _
  | x :: xs => Reps.one rfl (reps_encZ xs)
theorem sortedOK : SortedOK := fun d Bm gt N w hBm hm hI hN hN6 => by
  have hseq := keys_gives 2 (by omega) Bm gt N d w hBm hm hI hN
  have cS := AnyZI.sorted_in Try.sortedA Fence.wide 5 trivial trivial trivial trivial rfl (by omega) (sortsA _) (enters_of Try.func33 (by kernel_rfl) rfl) 34 #[.pointer (some ⟨Bm, 0, none⟩)] trivial (enters_of Try.func34 (by kernel_rfl) rfl) _ N (by unfold maxLen; omega) (by omega) _ hseq
  change CallsIn _ _ Try.prog 21 _ _ _ at cS
  refine ((callsIn_wide (n := 5)).1 cS).mono ?_
  rintro e w' ⟨v, ss, rfl, hS, hrow, hnil, hb⟩
  have hp : (ss.mergeSort (fun x y => decide (x ≤ y))).Perm ss := List.mergeSort_perm _ _
  refine ⟨v, ss.mergeSort (fun x y => decide (x ≤ y)), rfl, ⟨hp.nodup_iff.2 hS.1, fun k => hp.mem_iff.trans (hS.2 k)⟩, ⟨fun k hk => trivial, _, ?_, reps_encZ _⟩, hb⟩
  rw [hp.length_eq]
  exact hrow
end Go.Proofs.Ytnhnbobgfadhpaa.Dec
namespace Go.Proofs.Ytnhnbobgfadhpaa.Dec
open Go Go.RowKit Go.Shelf Go.Proofs.YtnhnbobgfadhpaaW.PrintWords Go.Proofs.YtnhnbobgfadhpaaW.PrintLast Go.Proofs.YtnhnbobgfadhpaaW.PrintMore Go.Proofs.Ytnhnbobgfadhpaa.Mp
set_option linter.unusedVariables false
set_option linter.unusedSimpArgs false
variable {base g n k q : Nat} {L : Lay} {d : D} {w W W1 : World}
set_option maxRecDepth 100000 in
set_option maxHeartbeats 4000000 in
theorem slot_c (i : Nat) (s : Sl) (w : World) (h : IsD base w g L d) (hs : d.sl[i]? = some s) :
    Calls Try.prog 14 #[.pointer (some ⟨g, 0, none⟩), .int .i64 i] w fun e w' => e = .returned (.agg #[.int .i64 s.pr, .int .i64 s.bal, .string s.val]) ∧ Below w.heap.size w w' := by
  obtain ⟨n, hn⟩ : ∃ n, d.sl.length = n := ⟨_, rfl⟩
  have hlt := (List.getElem?_eq_some_iff.1 hs).1
  have hin : (i : Int) < (n : Int) := by omega
  have hn5 : (n : Int) ≤ 5 := by have := h.sm; omega
  have hk := fun o => h.below (below_alloc (Below.refl w.heap.size w) o)
  have c0 : ∀ o, (w.alloc o).cell? ⟨g, 0, none⟩ = some (.slice (some ⟨L.gs, 0, none⟩) n n) := fun o => by rw [← hn]; exact (blk_cell (hk o).blk 0).trans rfl
  have r0 : ∀ o, (w.alloc o).cell? ⟨L.gs, i * 3, none⟩ = some (.int .i64 s.pr) := fun o => ((hk o).slot_cell i 0 s hs (by decide)).trans rfl
  have r1 : ∀ o, (w.alloc o).cell? ⟨L.gs, i * 3 + 1, none⟩ = some (.int .i64 s.bal) := fun o => ((hk o).slot_cell i 1 s hs (by decide)).trans rfl
  have r2 : ∀ o, (w.alloc o).cell? ⟨L.gs, i * 3 + 2, none⟩ = some (.string s.val) := fun o => ((hk o).slot_cell i 2 s hs (by decide)).trans rfl
  clear h hs hn hlt hk
  go_enter Try.func14, Try.ntmps14
  go_wp2
  refine bodyPost_ret (results_cell_row (p := 4) (ty := 36) rfl _ _ w.heap.size 36 _ _ _ rfl (blk_alloc_new w _) Try.underlying36 rfl (by kernel_rfl)) rfl ⟨rfl, below_alloc (Below.refl _ _) _⟩
theorem Rel.keys (h : Rel w W g n k d) (hk : k ≤ 10000) : ∀ b, d.tk b ≠ none → 0 < b ∧ b < (80008 : Nat) := fun b hb => by
  obtain ⟨V, hV⟩ := h.re.inv
  cases ht : d.tk b with
  | none => exact absurd ht hb
  | some z =>
    have h1 := hV.frs b (.inl (by rw [hV.tkV b z ht]; exact fun e => by cases e))
    have h2 := h.re.bg
    omega
theorem been_r (h : Rel w W g n k d) (hk : k ≤ 10000) : Calls Try.prog 12 #[.pointer (some ⟨g, 0, none⟩)] W fun e w' =>
    ∃ A m c ks, e = .returned (.slice A m c) ∧ (beenOf d ks).length = m ∧ Keys d ks ∧ Rel w w' g n k d ∧ Kd.C Kd.string w' A m (beenOf d ks) ∧ Below W.heap.size W w' := by
  obtain ⟨L, hI⟩ := h.ex
  refine (been_c sortedOK d 80008 W hI (h.keys hk) (by omega) h.wf.tk).mono ?_
  rintro e w' ⟨v, ks, rfl, hks, hr, hB⟩
  obtain ⟨A, c, ev, hc, hC⟩ := Kd.R_reads hr
  subst ev
  exact ⟨A, _, c, ks, rfl, rfl, hks, h.to hB, hC, hB⟩
theorem slot_r (h : Rel w W g n k d) (i : Nat) (s : Sl) (hs : d.sl[i]? = some s) : Calls Try.prog 14 #[.pointer (some ⟨g, 0, none⟩), .int .i64 i] W fun e w' =>
    e = .returned (.agg #[.int .i64 s.pr, .int .i64 s.bal, .string s.val]) ∧ Rel w w' g n k d := by
  obtain ⟨L, hI⟩ := h.ex
  refine (slot_c i s W hI hs).mono ?_
  rintro e w' ⟨rfl, hB⟩
  exact ⟨rfl, h.to hB⟩
end Go.Proofs.Ytnhnbobgfadhpaa.Dec
namespace Go.Proofs.Ytnhnbobgfadhpaa.Dec
open Go Go.RowKit Go.Shelf Go.Proofs.YtnhnbobgfadhpaaW.PrintWords Go.Proofs.YtnhnbobgfadhpaaW.PrintLast Go.Proofs.YtnhnbobgfadhpaaW.PrintMore Go.Proofs.Ytnhnbobgfadhpaa.Mp
set_option linter.unusedVariables false
set_option linter.unusedSimpArgs false
theorem quiet_been {d : D} (h : Quiet d) (ks : List Int) : (beenOf d ks).length = 0 := by
  rw [been_len]
  rw [List.length_eq_zero_iff, List.filter_eq_nil_iff]
  intro k _
  unfold good
  rw [h.tk k]
  exact Bool.false_ne_true
set_option maxRecDepth 100000 in
set_option maxHeartbeats 4000000 in
theorem still_long (A : Option Addr) (c : Nat) (l : List (Int × Int × Int × ByteArray)) (n : Int) (w : World) (hl : 100 < l.length) :
    Calls Try.prog 6 #[.int .u8 n, .slice A l.length c] w fun e w' => e = .returned (.bool true) ∧ Below w.heap.size w w' := by
  obtain ⟨m, hm⟩ : ∃ m, l.length = m := ⟨_, rfl⟩
  rw [hm] at hl ⊢
  have hli : (100 : Int) < (m : Int) := by omega
  clear hm hl
  have HB := Aside0.mk (Below.refl w.heap.size w)
  go_enter Try.func6, Try.ntmps6
  go_wp2_with (go_at_call 7; go_loud ((with_reducible refine (aw_b HB.out).mono ?_); clear HB; rintro e w1 ⟨rfl, hB⟩; have HB := Aside0.mk hB; clear hB))
  go_ret
  exact ⟨rfl, HB.out⟩
/-- a place where no letter was taken, behind at most k steps -/
structure Qt (w W : World) (g n k : Nat) : Prop where
  ex : ∃ d j, Rel w W g n j d ∧ Quiet d ∧ j ≤ k
theorem fieldS (W : World) : (Instr.field 36 (.agg #[.int .i64 0, .int .i64 0, .string ⟨#[]⟩]) 0).run Try.prog W = .ok (.int .i64 0) W := by kernel_rfl
set_option maxRecDepth 100000 in
set_option maxHeartbeats 8000000 in
theorem still_short (A : Option Addr) (c : Nat) (l : List (Int × Int × Int × ByteArray)) (n : Int) (w : World) (hn0 : 0 ≤ n) (hn1 : n ≤ 255) (hl : l.length ≤ 100) (hr : Kd.C KT w A l.length l) :
    Calls Try.prog 6 #[.int .u8 n, .slice A l.length c] w fun e w' => e = .returned (.bool true) ∧ Below w.heap.size w w' := by
  obtain ⟨m, hm⟩ : ∃ m, l.length = m := ⟨_, rfl⟩
  rw [hm] at hl hr ⊢
  have hli : (m : Int) ≤ 100 := by omega
  have HM := Aside0.mk hm
  have HR := Aside0.mk hr
  clear hm hl hr
  have HB := Aside0.mk (Below.refl w.heap.size w)
  go_enter Try.func6, Try.ntmps6
  go_wp2_with (first
    | (go_at_call 7; go_loud ((with_reducible refine (aw_b HB.out).mono ?_); clear HB; rintro e w1 ⟨rfl, hB⟩; have HB := Aside0.mk hB; clear hB))
    | (go_at_call 8; go_loud ((with_reducible refine (new_r (3 + n % 3) w1).mono ?_); rintro e w2 ⟨g, rfl, hR⟩; have H0 := Aside0.mk hR; clear hR)))
  have hN : ((nn (3 + n % 3) : Nat) : Int) = 3 + n % 3 := by rw [← nn_cast]; omega
  obtain ⟨N, hNN⟩ : ∃ N, nn (3 + n % 3) = N := ⟨_, rfl⟩
  rw [hNN] at hN H0
  have HN := Aside0.mk hN
  clear hN hNN
  go_loopw [7] (fun v7 wr => ∃ k : Nat, v7 = .int .i64 k ∧ k ≤ m ∧ Aside0 (Qt w1 wr g N k)) (fun v7 _ => m - (Go.RowKit.intOf v7).toNat)
  case atStart => exact ⟨0, rfl, Nat.zero_le _, ⟨⟨_, 0, H0.out, quiet_new N, Nat.le_refl _⟩⟩⟩
  case round =>
    clear H0
    obtain ⟨k, rfl, hk, HK⟩ := hrel
    obtain ⟨d, j, hR0, hQ, hj⟩ := HK.out.ex
    have HQ := Aside0.mk hQ
    have HJ := Aside0.mk hj
    have H1 := Aside0.mk hR0
    by_cases hkm : k < m
    · have hki : (k : Int) < (m : Int) := by omega
      obtain ⟨x, hx⟩ : ∃ x, l[k]? = some x := ⟨_, List.getElem?_eq_getElem (by have := HM.out; omega)⟩
      obtain ⟨ad, rfl, e0, e1, e2, e3⟩ := kt_elem (Kd.C_below HR.out (below_step HB.out hR0.below)) hx
      rw [add_more ad (k * 4) 0] at e1
      rw [add_more ad (k * 4) 1] at e2
      rw [add_more ad (k * 4) 2] at e3
      have HD := Aside0.mk (do_r hR0 ⟨x.1, x.2.1, x.2.2.1, x.2.2.2⟩ (by omega))
      obtain ⟨x0, x1, x2, x3⟩ := x
      by_cases hx1 : x0 = 1
      · subst hx1
        clear hx hR0 hQ hj HD
        go_wp2_with fail
        go_roundw
        case rel => exact ⟨k + 1, by go_num, by omega, ⟨⟨d, j, H1.out, HQ.out, by have := HJ.out; omega⟩⟩⟩
        case measure => simp [Go.RowKit.intOf]; omega
      · have hxb : (x0 == 1) = false := beq_eq_false_iff_ne.2 hx1
        have HX1 := Aside0.mk hx1
        clear hx hR0 hQ hj hx1
        go_wp2_with (go_at_call 9; go_loud ((with_reducible refine HD.out.mono ?_); rintro e w3 ⟨rfl, hR⟩; have H3 := Aside0.mk hR; clear hR))
        go_roundw
        case rel => exact ⟨k + 1, by go_num, by omega, ⟨⟨_, j + 1, H3.out, HQ.out.step _ HX1.out, by have := HJ.out; omega⟩⟩⟩
        case measure => simp [Go.RowKit.intOf]; omega
    · have hki : ¬ (k : Int) < (m : Int) := by omega
      have hj1 : j ≤ 1000 := by omega
      clear hkm HK hR0 hQ hj
      go_wp2_with fail
      go_loopw [8] (fun v8 wr => ∃ i : Nat, v8 = .int .i64 i ∧ i ≤ N ∧ Aside0 (Rel w1 wr g N j d)) (fun v8 _ => N - (Go.RowKit.intOf v8).toNat)
      case atStart => exact ⟨0, rfl, Nat.zero_le _, H1⟩
      case round =>
        clear H1
        obtain ⟨i, rfl, hi, HI⟩ := hrel
        by_cases hin : i < N
        · have hii : (i : Int) < 3 + n % 3 := by rw [← HN.out]; omega
          have hi5 : (i : Int) ≤ 5 := by have := HI.out.n5; omega
          have hl : i < d.sl.length := by rw [HI.out.wf.n0]; exact hin
          have hs : d.sl[i]? = some sl0 := by rw [List.getElem?_eq_getElem hl, HQ.out.sl _ (List.getElem_mem hl)]
          have HS := Aside0.mk (show Calls Try.prog 14 #[.pointer (some ⟨g, 0, none⟩), .int .i64 i] wr fun e w' => e = .returned (.agg #[.int .i64 0, .int .i64 0, .string ⟨#[]⟩]) ∧ Rel w1 w' g N j d from slot_r HI.out i sl0 hs)
          have hf := fieldS
          clear hl hs
          go_wp2_with (go_at_call 14; go_loud ((with_reducible refine HS.out.mono ?_); rintro e w3 ⟨rfl, hR⟩; have H3 := Aside0.mk hR; clear hR))
          go_roundw
          case rel => exact ⟨i + 1, by go_num, by omega, H3⟩
          case measure => simp [Go.RowKit.intOf]; omega
        · have hii : ¬ (i : Int) < 3 + n % 3 := by rw [← HN.out]; omega
          have HC := Aside0.mk (cho_r HI.out (by omega) (show d.ch.length = 0 by rw [HQ.out.ch]; rfl))
          clear HI
          go_wp2_with (first
            | (go_at_call 11; go_loud ((with_reducible refine HC.out.mono ?_); rintro e w5 ⟨a5, c5, rfl, hR⟩; have H5 := Aside0.mk hR; have HE := Aside0.mk (been_r hR (by omega)); clear hR))
            | (go_at_call 12; go_loud ((with_reducible refine HE.out.mono ?_); rintro e w6 ⟨A6, m6, c6, ks, rfl, hm6, _, hR, _, _⟩; have H6 := Aside0.mk hR; obtain rfl : m6 = 0 := hm6.symm.trans (quiet_been HQ.out ks); clear hR hm6)))
          go_ret
          exact ⟨rfl, below_step HB.out H6.out.below⟩
theorem law_still (A : Option Addr) (c : Nat) (l : List (Int × Int × Int × ByteArray)) (n : Int) (w : World) (hn : (Lit.int .u8 n).wf = true) (hr : Kd.C KT w A l.length l) :
    Calls Try.prog 6 #[.int .u8 n, .slice A l.length c] w fun e w' => e = .returned (.bool true) ∧ Below w.heap.size w w' := by
  have hb : 0 ≤ n ∧ n ≤ 255 := by
    have h := hn
    simp [Lit.wf, IntKind.min, IntKind.max, IntKind.bits, IntKind.signed] at h
    exact ⟨by omega, by omega⟩
  by_cases hl : l.length ≤ 100
  · exact still_short A c l n w hb.1 hb.2 hl hr
  · exact still_long A c l n w (by omega)
end Go.Proofs.Ytnhnbobgfadhpaa.Dec
namespace Go.Proofs.Ytnhnbobgfadhpaa.decreeStill
open Go.ChangeShapes Go.WideShapes Go.ChangeAt Go.RowKit
open Go.ChangeMaps (open_string shut_string)
open Go.Proofs.Ytnhnbobgfadhpaa Go.Proofs.YtnhnbobgfadhpaaOpens Go.Proofs.YtnhnbobgfadhpaaW.PrintWords
set_option linter.unusedVariables false
theorem own : ownKnob Try.prog.godebug = none := by kernel_rfl
theorem laidOut : laidOutB Try.prog = true := by kernel_rfl
set_option maxRecDepth 100000 in
theorem lifted (os : Os) (started : os.Started) (H : Type) (enc : TypeId × Value → H) :
    ReturnsInHanded {} Try.checked os 6 .any (Rows.decreeStillSpec.pre6 enc Try.prog Try.f6 Rows.decreeStillRow.domain false) (Rows.decreeStillSpec.post enc Try.prog Try.f6 false true false false) := by
  refine returnsInHanded_of_change_sized (C := Try.checked) own started (by kernel_rfl) Try.func6
    (ChangeSpec.witness6 (enc := enc) (C := Try.checked) false ⟨#[], #[.int .u8 0, .slice none 0 0], []⟩ 8 (by kernel_rfl) (by kernel_rfl) (by kernel_rfl) (by kernel_rfl)) ?_
  intro W base args ds gs before hval0 hW hcnd hsz0 _
  have hsz : (DataW.weightsEach Try.prog (Try.f6.params.toList ++ Rows.decreeStillSpec.plain.varTypes Try.prog) (ds ++ gs)).all (· ≤ reachBytes) = true := hsz0
  have hval : ∀ (j : Nat) t v, Try.f6.params[j]? = some t → args[j]? = some v → Value.okWide Try.prog W .any base t v := hval0
  have hW' := hW
  obtain ⟨p, q, hA0, hV, rfl, hfz, hnd⟩ := hW
  have hA : DataW.TrodAll enc Try.prog W 0 (fun _ => true) true Try.f6.params.toList args.toList ds p := hA0
  rw [Try.params6] at hA hval hsz
  obtain ⟨v0, vs0, d0, ds0, p0, q0, hargs, rfl, rfl, h0, r0⟩ := trodAll_cons hA
  obtain ⟨v1, vs1, d1, ds1, p1, q1, rfl, rfl, rfl, h1, r1⟩ := trodAll_cons r0
  obtain ⟨rfl, rfl, rfl⟩ := trodAll_nil r1
  obtain rfl : args = #[v0, v1] := by cases args; simp_all
  obtain ⟨rfl, rfl⟩ := trodVars_none hV
  obtain ⟨a0, rfl, rfl, rfl, w0⟩ := open_int Try.underlying5 (hval 0 5 v0 rfl rfl) h0
  have k1 := h1
  have lt1 : ∀ x ∈ p1, x.block < W.heap.size := by obtain ⟨m, hm⟩ := k1; exact DataW.trod_lt m _ _ _ hm
  obtain ⟨A1, c1, l1, rfl, hl1, hm1, hC1, hq1⟩ := arg_slice Try.underlying22 (by kernel_rfl) (reads_struct Try.underlying28 (by kernel_rfl) (fs_cons (reads_int Try.underlying3) (by kernel_rfl) rfl (by decide) (fs_cons (reads_int Try.underlying3) (by kernel_rfl) rfl (by decide) (fs_cons (reads_int Try.underlying3) (by kernel_rfl) rfl (by decide) (fs_last (reads_string Try.underlying9) (by kernel_rfl) rfl))))) (hval 1 22 v1 rfl rfl) h1
  clear hA0 hval0 hsz0 hsz
  refine (Go.Proofs.Ytnhnbobgfadhpaa.Dec.law_still A1 c1 l1 a0 W w0 hC1).mono fun e W' ⟨he, bel⟩ => ?_
  subst he
  exact ⟨_, rfl, _, _, _, [], _, [], hW', trodAll_mk1 (shut_bool Try.underlying4 _), (trodAll_cons_mk (shut_int Try.underlying5 w0) (trodAll_cons_mk (Below.trod laidOut (by kernel_rfl) (of_decide_eq_true (by kernel_rfl)) k1 bel lt1) trodAll_mk0)), rfl, bel.frame _, fun h => by cases h⟩
theorem over : Rows.decreeStillRow.holds Try.pinned (OpenSpec.ofChange Rows.decreeStillSpec) :=
  OpenClaim.holds_of_wide 6 Try.f6 rfl rfl rfl rfl rfl rfl rfl ⟨rfl, rfl, rfl, rfl, rfl⟩ rfl rfl rfl rfl rfl (by kernel_rfl) Try.func6 (by kernel_rfl)
    (of_decide_eq_true (by kernel_rfl)) (by unfold Func.isWrapper; first | (rw [if_pos (by decide +kernel)]; kernel_rfl) | (rw [if_neg (by decide +kernel)]; exact ⟨rfl, rfl⟩))
    (fun os started H enc _ => lifted os started H enc)
theorem proved : Rows.DecreeStillSaid := over
#print axioms proved
end Go.Proofs.Ytnhnbobgfadhpaa.decreeStill
namespace Go.Proofs.Ytnhnbobgfadhpaa
/-- The row, under a short name, for the claim. -/
theorem decreeStill_holds : Rows.DecreeStillSaid := decreeStill.proved
end Go.Proofs.Ytnhnbobgfadhpaa
