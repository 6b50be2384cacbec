/- Here is proved: what the law RangesRoots answers. Conditions: none. -/
import Derived.Test.YtondnammkcgjpaaMRangesRoots1
import Derived.Deep.Slices
import Derived.ChangeSame
import Derived.OpenShut
import Derived.Test.YtondnammkcgjpaaWMore
import Derived.Test.YtondnammkcgjpaaWArr
import Derived.Test.YtondnammkcgjpaaRows
import Derived.WalkKit
import Derived.ProofKit
import Derived.ShutString
import Derived.ChangeOld
import Derived.Below
import Derived.SizedLaws
namespace Go.Proofs.Ytondnammkcgjpaa.RgL
open Go Go.RowKit Go.Shelf Go.Proofs.YtondnammkcgjpaaW.PrintWords Go.Proofs.YtondnammkcgjpaaW.PrintLast Go.Proofs.YtondnammkcgjpaaW.PrintMore
open Go.Proofs.Ytondnammkcgjpaa.ShaP Go.Proofs.Ytondnammkcgjpaa.Mk Go.Proofs.Ytondnammkcgjpaa.Rg Go.Proofs.Ytondnammkcgjpaa.Rng Go.Proofs.Ytondnammkcgjpaa.Rf Go.Proofs.Ytondnammkcgjpaa.RgP
set_option linter.unusedVariables false
set_option linter.unusedSimpArgs false
theorem few63 (A : Option Addr) (c : Nat) (l : List ByteArray) (w : World) (hr : Kd.C Kd.string w A l.length l) :
    Calls Try.prog 15 #[.slice A l.length c, .int .i64 63, .int .i64 60] w fun e w' => e = .returned (.bool (fewB l 63 60)) ∧ w = w' := few_c A c l 63 60 w (by omega) (by omega) hr
theorem leaves_one (A : Option Addr) (c : Nat) (s : ByteArray) (w : World) (hs : s.size ≤ 10000) (hr : Kd.C Kd.string w A 1 [s]) :
    Calls Try.prog 17 #[.slice A 1 c] w fun e w' => ∃ v, e = .returned v ∧ SR w' w.heap.size v [leafF s] ∧ Below w.heap.size w w' :=
  leaves_c A c [s] w (by simp) (by simpa using hs) hr
theorem rootR_of (L : List ByteArray) (hL : L.length ≤ 100) : rootR (ofF L) = rootF L := root_of 200 L (by omega) (by omega)
theorem one_lit (W : World) (s : ByteArray) : Kd.C Kd.string (W.alloc (.cells #[.string s] 9)) (some ⟨W.heap.size, 0, none⟩) 1 [s] := by
  have h := Kd.R_of_own (enc := Value.string) (h1 := fun _ => rfl) (e := 9) (ok := fun _ => True) (own_lit_of (enc := Value.string) W W.heap.size 9 [s] (Nat.le_refl _) (by simp)) (fun _ _ => trivial)
  exact (Kd.R_reads' h).2.2
theorem one_at {W : World} {base : Nat} {A : Option Addr} {c : Nat} {x : ByteArray} (h : SR W base (.slice A 1 c) [x]) : ∃ ad, A = some ad ∧ W.cell? ad = some (.string x) := by
  obtain ⟨ad, e, hx⟩ := Kd.at_string (Kd.R_reads' h).2.2 0 (by omega) (by simp)
  have ha0 : ad.add (Int.toNat 0) = ad := by simp [Addr.add]
  rw [ha0] at hx
  exact ⟨ad, e, hx⟩
set_option maxRecDepth 100000 in
set_option maxHeartbeats 8000000 in
theorem law_roots (A : Option Addr) (c : Nat) (l : List ByteArray) (leaf : ByteArray) (w : World) (hc : l.length ≤ c) (hr : Kd.C Kd.string w A l.length l) (hlf : leaf.size ≤ 140737488351232) :
    Calls Try.prog 7 #[.slice A l.length c, .string leaf] w fun e w' => e = .returned (.bool true) ∧ Below w.heap.size w w' := by
  have OW := Aside0.mk (Mem.Own.nil w)
  have HI := Aside0.mk info_tab
  have HR := Aside0.mk hr
  have HAW := Aside0.mk awake6_c
  have HF := Aside0.mk (fun W h => few63 A c l W h)
  cases hb : fewB l 63 60 with
  | false =>
    rw [hb] at HF
    clear hb hr hc
    go_enter Try.func7, Try.ntmps7
    go_wp2_with (first
      | (go_at_call 19; (with_reducible refine (HAW.out _).mono ?_); rintro e w_ ⟨rfl, hB⟩; have n_ := Aside0.mk (OW.out.step hB); clear OW hB; have OW := n_; clear n_)
      | (go_at_call 15; (with_reducible refine (HF.out _ (Kd.C_below HR.out OW.out.below)).mono ?_); rintro e w_ ⟨rfl, rfl⟩))
    go_ret
    exact ⟨rfl, OW.out.below⟩
  | true =>
    rw [hb] at HF
    by_cases h60 : leaf.size ≤ 60
    · have h60i : ¬ (60 : Int) < (leaf.size : Int) := by omega
      obtain ⟨hl, hs⟩ := few_yes hb (by omega)
      have hll := leaves_len l
      have h32 := leaves_32 l
      have HLV := Aside0.mk (fun W h => leaves_c A c l W (by omega) (fun s hs2 => Nat.le_trans (hs s hs2) (by omega)) h)
      generalize leavesF l = L at *
      have hL : L.length ≤ 63 := by omega
      have hx32 := leaf_size leaf
      have HL1 := Aside0.mk (fun A4 c4 W h => leaves_one A4 c4 leaf W (by omega) h)
      generalize leafF leaf = x at *
      have hO32 := ofF_32 L h32 (by omega)
      have hOL := ofF_size L
      have HOF := Aside0.mk (fun (A4 : Option Addr) (c4 : Nat) (h4 : L.length ≤ c4) (W : World) h => of_c A4 c4 L W (by omega) h32.sm h4 h)
      have hLX32 : A32 (L ++ [x]) := fun s hs => by
        rcases List.mem_append.1 hs with h | h
        · exact h32 s h
        · rw [List.mem_singleton.1 h]; exact hx32
      have hO2 := ofF_size (L ++ [x])
      have hO232 := ofF_32 (L ++ [x]) hLX32 (by simp; omega)
      have HAD := Aside0.mk (fun (A4 : Option Addr) (c4 : Nat) (h4 : (ofF L).length ≤ c4) (W : World) h => add_c L.length A4 c4 (ofF L) x (ofF (L ++ [x])) W (grow_one L x (by omega)) (by omega) (by omega) hO32.sm (by omega) h4 h)
      have hRR := rootR_of (L ++ [x]) (by simp; omega)
      have HRT := Aside0.mk (fun (A4 : Option Addr) (c4 : Nat) (h4 : (L ++ [x]).length ≤ c4) (W : World) h => root_c 100000 A4 c4 (L ++ [x]) W (by simp; omega) (by omega) hLX32.sm h4 h)
      have hfold : rootN 100000 (L ++ [x]) = rootF (L ++ [x]) := rfl
      rw [hfold] at HRT
      have HLX : Aside0 ((L ++ [x]).length ≤ 64 ∧ L.length ≤ 63) := ⟨by simp; omega, hL⟩
      obtain ⟨T, hT⟩ : ∃ T, L.length + 1 = T := ⟨_, rfl⟩
      rw [hT] at HAD
      generalize rootF (L ++ [x]) = r0 at *
      generalize ofF L = O at *
      generalize ofF (L ++ [x]) = O2 at *
      have HRB := Aside0.mk (fun (A4 : Option Addr) (c4 : Nat) (h4 : O2.length ≤ c4) (W : World) h => rroot_any (T : Int) A4 c4 O2 W (by omega) hO232.sm h4 h)
      rw [hRR] at HRB
      clear hb hr hc hl hs hll h32 hO32 hOL hLX32 hO2 hO232 hRR hfold hx32 h60 hL
      go_enter Try.func7, Try.ntmps7
      go_wp2_with (first
        | (go_at_call 19; (with_reducible refine (HAW.out _).mono ?_); rintro e wz ⟨rfl, hB⟩; have n_ := Aside0.mk (OW.out.step hB); clear OW hB; have OW := n_; clear n_)
        | (go_at_call 15; (with_reducible refine (HF.out _ (Kd.C_below HR.out OW.out.below)).mono ?_); rintro e wz ⟨rfl, rfl⟩)
        | (go_at_call 16; (with_reducible refine (make_c _).mono ?_); rintro e wz ⟨rfl, hB⟩; have n_ := Aside0.mk (OW.out.step hB); clear OW hB; have OW := n_; clear n_)
        | ((with_reducible refine gate_dst (N := 5) rfl ?_); refine tab_event (N := 5) rfl rfl rfl rfl rfl rfl (fun _ => rfl) (fun _ => rfl) ?_; intro gT hg wz hb hbb; have n_ : Aside0 (Mem.Own w (wz) [(gT, TV, 31)]) := ⟨OW.out.new hg hb hbb⟩; clear OW hb hbb hg; have OW := n_; clear n_)
        | (go_at_call 17; (with_reducible refine (HLV.out _ (Kd.C_below HR.out OW.out.below)).mono ?_); rintro e wz ⟨v4, rfl, hr4, hB⟩; obtain ⟨A4, c4, rfl, h4, _⟩ := Kd.R_reads hr4; have HC4 := Aside0.mk hr4; have H4 := Aside0.mk h4; have n_ := Aside0.mk (OW.out.step hB); clear OW hB hr4 h4; have OW := n_; clear n_)
        | (go_at_call 17; (with_reducible refine (HL1.out _ _ _ (one_lit wz leaf)).mono ?_); rintro e wz2 ⟨v7, rfl, hr7, hB2⟩; have hB := (below_alloc (Below.refl wz.heap.size wz) (.cells #[.string leaf] 9)).trans (hB2.mono (below_size (below_alloc (Below.refl wz.heap.size wz) _))); obtain ⟨A7, c7, e6⟩ := Kd.R_slice hr7; have e7 : v7 = .slice A7 1 c7 := e6; subst e7; have HC7 := Aside0.mk hr7; have m_ := Aside0.mk (Kd.R_below HC4.out hB); have n_ := Aside0.mk (OW.out.step hB); clear OW HC4 hr7 hB hB2 e6; have OW := n_; have HC4 := m_; clear n_ m_))
      obtain ⟨ad, rfl, cX0⟩ := one_at HC7.out
      have OD := Aside0.mk OW.out.drew
      have K4 := Aside0.mk (Kd.R_reads' (Kd.R_drew HC4.out)).2.2
      have cX : wz2.drew.cell? ad = some (.string x) := cX0
      clear OW HC4 HC7 cX0
      refine start_ (n := 10) (S := fun w' => Below (wz2).drew.heap.size (wz2).drew w') (ds := []) #[false, false, false, false, false, false, false, false, false, false] (by kernel_rfl) rfl rfl (Below.refl _ _) (fun hHeld => ?_)
      generalize (wz2).drew = W0 at *
      refine take_ (i := 0) (N := (some 28)) (a' := ?_) #[true, false, false, false, false, false, false, false, false, false] rfl rfl (by kernel_rfl) (fun _ _ _ h => h) (yields_tab (by rfl) (.tmp 5) rfl gT rfl (fun w' hS => hS) (OD.out.blk 0 rfl)) hHeld ?_ ?_
      rotate_left
      · simp only [Act.put, List.setIfInBounds_toArray, List.set_cons_zero, List.set_cons_succ, i64_w, i32_w]
        rfl
      refine take_ (i := 1) (N := (some 29)) (a' := ?_) #[true, true, false, false, false, false, false, false, false, false] rfl rfl (by kernel_rfl) (fun _ _ _ h => h) (yields_tab (by rfl) (.tmp 5) rfl gT rfl (fun w' hS => hS) (OD.out.blk 0 rfl)) hHeld ?_ ?_
      rotate_left
      · simp only [Act.put, List.setIfInBounds_toArray, List.set_cons_zero, List.set_cons_succ, i64_w, i32_w]
        rfl
      refine pure_ (i := 2) (N := (some 30)) (v := ?_) (a' := ?_) #[true, true, true, false, false, false, false, false, false, false] rfl rfl (by kernel_rfl) (fun _ _ _ h => h) (Or.inl ⟨by rfl, ?_⟩) ?_ ?_
      rotate_left
      · intro w'
        go_simp
        first | done | with_reducible rfl
      rotate_left
      · simp only [Act.put, List.setIfInBounds_toArray, List.set_cons_zero, List.set_cons_succ, i64_w, i32_w]
        rfl
      refine pure_ (i := 4) (N := (some 32)) (v := ?_) (a' := ?_) #[true, true, true, false, true, false, false, false, false, false] rfl rfl (by kernel_rfl) (fun _ _ _ h => h) (Or.inl ⟨by rfl, ?_⟩) ?_ ?_
      rotate_left
      · intro w'
        go_simp
        first | done | with_reducible rfl
      rotate_left
      · simp only [Act.put, List.setIfInBounds_toArray, List.set_cons_zero, List.set_cons_succ, i64_w, i32_w]
        rfl
      refine pure_ (i := 5) (N := (some 33)) (v := ?_) (a' := ?_) #[true, true, true, false, true, true, false, false, false, false] rfl rfl (by kernel_rfl) (fun _ _ _ h => h) (Or.inl ⟨by rfl, ?_⟩) ?_ ?_
      rotate_left
      · intro w'
        go_simp
        first | done | with_reducible rfl
      rotate_left
      · simp only [Act.put, List.setIfInBounds_toArray, List.set_cons_zero, List.set_cons_succ, i64_w, i32_w]
        rfl
      refine take_ (i := 6) (N := (some 34)) (v := ?_) (a' := ?_) #[true, true, true, false, true, true, true, false, false, false] rfl rfl (by kernel_rfl) (fun _ _ _ h => h) (Or.inl ⟨by rfl, ?_⟩) hHeld ?_ ?_
      rotate_left
      · intro w' hS
        have s0 := pw_cell_below hS cX
        go_simp
        first | done | with_reducible rfl
      rotate_left
      · simp only [Act.put, List.setIfInBounds_toArray, List.set_cons_zero, List.set_cons_succ, i64_w, i32_w]
        rfl
      refine two_ (i := 3) (j := 8) (Ni := (some 31)) (Nj := (some 8)) #[true, true, true, true, true, true, true, false, false, false] #[true, true, true, false, true, true, true, false, true, false] rfl rfl rfl rfl (by kernel_rfl) (by decide) (by decide) (fun K hK => ?_) (fun K hK => ?_)
      refine goes_ Try.func21 (by kernel_rfl) rfl #[.agg TV, .slice A4 L.length c4] (by rfl) rfl rfl (by (try simp only [List.map_toArray, List.map_cons, List.map_nil]); first | done | rfl) ?_
      (with_reducible refine (HOF.out A4 c4 H4.out _ (Kd.C_below K4.out hHeld)).mono ?_)
      rintro e wz ⟨v5, rfl, hr5, hB⟩
      refine ⟨_, rfl, ?_⟩
      have hS2 : Below W0.heap.size W0 wz := below_step hHeld hB
      obtain ⟨A5, c5, rfl, h5, _⟩ := Kd.R_reads hr5
      have HV5 := Aside0.mk hr5
      have H5 := Aside0.mk h5
      (try (have n_ := Aside0.mk (blk_below HBX.out hB); clear HBX; have HBX := n_; clear n_))
      clear hr5 hB h5 hHeld
      refine hK.out _ _ hS2 (fun hHeld => ?_)
      clear hK K
      refine norm_ (a' := ?_) ?_ ?_
      rotate_left
      · show Act.put _ (some 31) _ = _
        simp only [Act.put, List.setIfInBounds_toArray, List.set_cons_zero, List.set_cons_succ, i64_w, i32_w]
        rfl
      refine two_ (i := 7) (j := 8) (Ni := (some 35)) (Nj := (some 8)) #[true, true, true, true, true, true, true, true, false, false] #[true, true, true, true, true, true, true, false, true, false] rfl rfl rfl rfl (by kernel_rfl) (by decide) (by decide) (fun K hK => ?_) (fun K hK => ?_)
      refine goes_ Try.func28 (by kernel_rfl) rfl #[.agg TV, .agg #[.int .i64 (L.length : Int), .slice A5 O.length c5], .string x] (by rfl) rfl rfl (by (try simp only [List.map_toArray, List.map_cons, List.map_nil]); first | done | rfl) ?_
      (with_reducible refine (HAD.out A5 c5 H5.out _ (Kd.R_reads' HV5.out).2.2).mono ?_)
      rintro e wz ⟨v9, rfl, hr9, hB⟩
      refine ⟨_, rfl, ?_⟩
      have hS2 : Below W0.heap.size W0 wz := below_step hHeld hB
      obtain ⟨A9, c9, rfl, h9, _⟩ := Kd.R_reads hr9
      have HV9 := Aside0.mk (Kd.R_lower hr9 (Nat.le_trans OD.out.size hHeld.size))
      have H9 := Aside0.mk h9
      (try (have n_ := Aside0.mk (blk_below HBX.out hB); clear HBX; have HBX := n_; clear n_))
      clear hr9 hB h9 hHeld HV5 H5
      refine hK.out _ _ hS2 (fun hHeld => ?_)
      clear hK K
      refine norm_ (a' := ?_) ?_ ?_
      rotate_left
      · show Act.put _ (some 35) _ = _
        simp only [Act.put, List.setIfInBounds_toArray, List.set_cons_zero, List.set_cons_succ, i64_w, i32_w]
        rfl
      refine one_ (i := 8) (N := (some 8)) #[true, true, true, true, true, true, true, true, true, false] rfl rfl (by kernel_rfl) (by decide) (fun K hK => ?_)
      refine box_step (by rfl) (N := 8) rfl (cs := #[.int .i64 0, .slice none 0 0]) (t := 41) (by first | (go_simp; done) | (go_simp; rfl)) ?_
      intro gR hg wz hb hbb
      have hS2 : Below W0.heap.size W0 wz := below_step hHeld hbb
      have HBX := Aside0.mk hb
      have HGE : Aside0 (W0.heap.size ≤ gR) := ⟨by rw [hg]; exact hHeld.size⟩
      (try (have n_ := Aside0.mk (Kd.R_below HV5.out hbb); clear HV5; have HV5 := n_; clear n_))
      (try (have n_ := Aside0.mk (Kd.R_below HV9.out hbb); clear HV9; have HV9 := n_; clear n_))
      clear hb hbb hg hHeld
      refine hK.out _ _ hS2 (fun hHeld => ?_)
      clear hK K
      refine norm_ (a' := ?_) ?_ ?_
      rotate_left
      · show Act.put _ (some 8) _ = _
        simp only [Act.put, List.setIfInBounds_toArray, List.set_cons_zero, List.set_cons_succ, i64_w, i32_w]
        rfl
      refine one_ (i := 9) (N := none) #[true, true, true, true, true, true, true, true, true, true] rfl rfl (by kernel_rfl) (by decide) (fun K hK => ?_)
      have z0 := (blk_cell HBX.out 0).trans rfl
      have z1 := (blk_cell HBX.out 1).trans rfl
      have y0 := blk_frozen HBX.out 0
      have y1 := blk_frozen HBX.out 1
      refine skip_ (by rfl) rfl (by first | (go_simp; done) | (go_simp; rfl)) ?_
      have hS2 : Below W0.heap.size W0 ((wz.setCell ⟨gR, 0, none⟩ (.int .i64 (T : Int))).setCell ⟨gR, 1, none⟩ (.slice A9 O2.length c9)) := (hHeld.setCell (p := ⟨gR, 0, none⟩) HGE.out _).setCell (p := ⟨gR, 1, none⟩) HGE.out _
      have B1 := blk_put HBX.out 0 (.int .i64 (T : Int)) rfl
      have BX := Aside0.mk (blk_put B1 1 (.slice A9 O2.length c9) rfl)
      have HV := Aside0.mk (Kd.R_set (Kd.R_set HV9.out HBX.out (by decide) 0 (.int .i64 (T : Int))) B1 (by decide) 1 (.slice A9 O2.length c9))
      clear HBX HV9 z0 z1 y0 y1 B1 hHeld
      refine hK.out _ _ hS2 (fun hHeld => ?_)
      clear hK K
      refine done_ (by kernel_rfl) ?_
      rotate_left
      refine box_step (by rfl) (N := 8) rfl (cs := #[.int .i64 0, .slice none 0 0]) (t := 41) (by first | (go_simp; done) | (go_simp; rfl)) ?_
      intro gR hg wz hb hbb
      have hS2 : Below W0.heap.size W0 wz := below_step hHeld hbb
      have HBX := Aside0.mk hb
      have HGE : Aside0 (W0.heap.size ≤ gR) := ⟨by rw [hg]; exact hHeld.size⟩
      (try (have n_ := Aside0.mk (Kd.R_below HV5.out hbb); clear HV5; have HV5 := n_; clear n_))
      (try (have n_ := Aside0.mk (Kd.R_below HV9.out hbb); clear HV9; have HV9 := n_; clear n_))
      clear hb hbb hg hHeld
      refine hK.out _ _ hS2 (fun hHeld => ?_)
      clear hK K
      refine norm_ (a' := ?_) ?_ ?_
      rotate_left
      · show Act.put _ (some 8) _ = _
        simp only [Act.put, List.setIfInBounds_toArray, List.set_cons_zero, List.set_cons_succ, i64_w, i32_w]
        rfl
      refine one_ (i := 7) (N := (some 35)) #[true, true, true, true, true, true, true, true, true, false] rfl rfl (by kernel_rfl) (by decide) (fun K hK => ?_)
      refine goes_ Try.func28 (by kernel_rfl) rfl #[.agg TV, .agg #[.int .i64 (L.length : Int), .slice A5 O.length c5], .string x] (by rfl) rfl rfl (by (try simp only [List.map_toArray, List.map_cons, List.map_nil]); first | done | rfl) ?_
      (with_reducible refine (HAD.out A5 c5 H5.out _ (Kd.R_reads' HV5.out).2.2).mono ?_)
      rintro e wz ⟨v9, rfl, hr9, hB⟩
      refine ⟨_, rfl, ?_⟩
      have hS2 : Below W0.heap.size W0 wz := below_step hHeld hB
      obtain ⟨A9, c9, rfl, h9, _⟩ := Kd.R_reads hr9
      have HV9 := Aside0.mk (Kd.R_lower hr9 (Nat.le_trans OD.out.size hHeld.size))
      have H9 := Aside0.mk h9
      (try (have n_ := Aside0.mk (blk_below HBX.out hB); clear HBX; have HBX := n_; clear n_))
      clear hr9 hB h9 hHeld HV5 H5
      refine hK.out _ _ hS2 (fun hHeld => ?_)
      clear hK K
      refine norm_ (a' := ?_) ?_ ?_
      rotate_left
      · show Act.put _ (some 35) _ = _
        simp only [Act.put, List.setIfInBounds_toArray, List.set_cons_zero, List.set_cons_succ, i64_w, i32_w]
        rfl
      refine one_ (i := 9) (N := none) #[true, true, true, true, true, true, true, true, true, true] rfl rfl (by kernel_rfl) (by decide) (fun K hK => ?_)
      have z0 := (blk_cell HBX.out 0).trans rfl
      have z1 := (blk_cell HBX.out 1).trans rfl
      have y0 := blk_frozen HBX.out 0
      have y1 := blk_frozen HBX.out 1
      refine skip_ (by rfl) rfl (by first | (go_simp; done) | (go_simp; rfl)) ?_
      have hS2 : Below W0.heap.size W0 ((wz.setCell ⟨gR, 0, none⟩ (.int .i64 (T : Int))).setCell ⟨gR, 1, none⟩ (.slice A9 O2.length c9)) := (hHeld.setCell (p := ⟨gR, 0, none⟩) HGE.out _).setCell (p := ⟨gR, 1, none⟩) HGE.out _
      have B1 := blk_put HBX.out 0 (.int .i64 (T : Int)) rfl
      have BX := Aside0.mk (blk_put B1 1 (.slice A9 O2.length c9) rfl)
      have HV := Aside0.mk (Kd.R_set (Kd.R_set HV9.out HBX.out (by decide) 0 (.int .i64 (T : Int))) B1 (by decide) 1 (.slice A9 O2.length c9))
      clear HBX HV9 z0 z1 y0 y1 B1 hHeld
      refine hK.out _ _ hS2 (fun hHeld => ?_)
      clear hK K
      refine done_ (by kernel_rfl) ?_
      rotate_left
      refine box_step (by rfl) (N := 8) rfl (cs := #[.int .i64 0, .slice none 0 0]) (t := 41) (by first | (go_simp; done) | (go_simp; rfl)) ?_
      intro gR hg wz hb hbb
      have hS2 : Below W0.heap.size W0 wz := below_step hHeld hbb
      have HBX := Aside0.mk hb
      have HGE : Aside0 (W0.heap.size ≤ gR) := ⟨by rw [hg]; exact hHeld.size⟩
      (try (have n_ := Aside0.mk (Kd.R_below HV5.out hbb); clear HV5; have HV5 := n_; clear n_))
      (try (have n_ := Aside0.mk (Kd.R_below HV9.out hbb); clear HV9; have HV9 := n_; clear n_))
      clear hb hbb hg hHeld
      refine hK.out _ _ hS2 (fun hHeld => ?_)
      clear hK K
      refine norm_ (a' := ?_) ?_ ?_
      rotate_left
      · show Act.put _ (some 8) _ = _
        simp only [Act.put, List.setIfInBounds_toArray, List.set_cons_zero, List.set_cons_succ, i64_w, i32_w]
        rfl
      refine one_ (i := 3) (N := (some 31)) #[true, true, true, true, true, true, true, false, true, false] rfl rfl (by kernel_rfl) (by decide) (fun K hK => ?_)
      refine goes_ Try.func21 (by kernel_rfl) rfl #[.agg TV, .slice A4 L.length c4] (by rfl) rfl rfl (by (try simp only [List.map_toArray, List.map_cons, List.map_nil]); first | done | rfl) ?_
      (with_reducible refine (HOF.out A4 c4 H4.out _ (Kd.C_below K4.out hHeld)).mono ?_)
      rintro e wz ⟨v5, rfl, hr5, hB⟩
      refine ⟨_, rfl, ?_⟩
      have hS2 : Below W0.heap.size W0 wz := below_step hHeld hB
      obtain ⟨A5, c5, rfl, h5, _⟩ := Kd.R_reads hr5
      have HV5 := Aside0.mk hr5
      have H5 := Aside0.mk h5
      (try (have n_ := Aside0.mk (blk_below HBX.out hB); clear HBX; have HBX := n_; clear n_))
      clear hr5 hB h5 hHeld
      refine hK.out _ _ hS2 (fun hHeld => ?_)
      clear hK K
      refine norm_ (a' := ?_) ?_ ?_
      rotate_left
      · show Act.put _ (some 31) _ = _
        simp only [Act.put, List.setIfInBounds_toArray, List.set_cons_zero, List.set_cons_succ, i64_w, i32_w]
        rfl
      refine one_ (i := 7) (N := (some 35)) #[true, true, true, true, true, true, true, true, true, false] rfl rfl (by kernel_rfl) (by decide) (fun K hK => ?_)
      refine goes_ Try.func28 (by kernel_rfl) rfl #[.agg TV, .agg #[.int .i64 (L.length : Int), .slice A5 O.length c5], .string x] (by rfl) rfl rfl (by (try simp only [List.map_toArray, List.map_cons, List.map_nil]); first | done | rfl) ?_
      (with_reducible refine (HAD.out A5 c5 H5.out _ (Kd.R_reads' HV5.out).2.2).mono ?_)
      rintro e wz ⟨v9, rfl, hr9, hB⟩
      refine ⟨_, rfl, ?_⟩
      have hS2 : Below W0.heap.size W0 wz := below_step hHeld hB
      obtain ⟨A9, c9, rfl, h9, _⟩ := Kd.R_reads hr9
      have HV9 := Aside0.mk (Kd.R_lower hr9 (Nat.le_trans OD.out.size hHeld.size))
      have H9 := Aside0.mk h9
      (try (have n_ := Aside0.mk (blk_below HBX.out hB); clear HBX; have HBX := n_; clear n_))
      clear hr9 hB h9 hHeld HV5 H5
      refine hK.out _ _ hS2 (fun hHeld => ?_)
      clear hK K
      refine norm_ (a' := ?_) ?_ ?_
      rotate_left
      · show Act.put _ (some 35) _ = _
        simp only [Act.put, List.setIfInBounds_toArray, List.set_cons_zero, List.set_cons_succ, i64_w, i32_w]
        rfl
      refine one_ (i := 9) (N := none) #[true, true, true, true, true, true, true, true, true, true] rfl rfl (by kernel_rfl) (by decide) (fun K hK => ?_)
      have z0 := (blk_cell HBX.out 0).trans rfl
      have z1 := (blk_cell HBX.out 1).trans rfl
      have y0 := blk_frozen HBX.out 0
      have y1 := blk_frozen HBX.out 1
      refine skip_ (by rfl) rfl (by first | (go_simp; done) | (go_simp; rfl)) ?_
      have hS2 : Below W0.heap.size W0 ((wz.setCell ⟨gR, 0, none⟩ (.int .i64 (T : Int))).setCell ⟨gR, 1, none⟩ (.slice A9 O2.length c9)) := (hHeld.setCell (p := ⟨gR, 0, none⟩) HGE.out _).setCell (p := ⟨gR, 1, none⟩) HGE.out _
      have B1 := blk_put HBX.out 0 (.int .i64 (T : Int)) rfl
      have BX := Aside0.mk (blk_put B1 1 (.slice A9 O2.length c9) rfl)
      have HV := Aside0.mk (Kd.R_set (Kd.R_set HV9.out HBX.out (by decide) 0 (.int .i64 (T : Int))) B1 (by decide) 1 (.slice A9 O2.length c9))
      clear HBX HV9 z0 z1 y0 y1 B1 hHeld
      refine hK.out _ _ hS2 (fun hHeld => ?_)
      clear hK K
      refine done_ (by kernel_rfl) ?_
      all_goals
        generalize (wz.setCell ⟨gR, 0, none⟩ (.int .i64 (T : Int))).setCell ⟨gR, 1, none⟩ (.slice A9 O2.length c9) = wy at *
        have OE := Aside0.mk (OD.out.step hHeld).drew
        have K5 := Aside0.mk (Kd.C_drew (Kd.C_below K4.out hHeld))
        have K9 := Aside0.mk (Kd.R_reads' (Kd.R_drew HV.out)).2.2
        have cY : wy.drew.cell? ad = some (.string x) := pw_cell_below hHeld cX
        have cR0 : wy.drew.cell? ⟨gR, 0, none⟩ = some (.int .i64 (T : Int)) := (blk_cell BX.out 0).trans rfl
        have cR1 : wy.drew.cell? ⟨gR, 1, none⟩ = some (.slice A9 O2.length c9) := (blk_cell BX.out 1).trans rfl
        clear hHeld OD K4 HV cX BX HGE
        go_wp2_with fail
        refine start_ (n := 15) (S := fun w' => Below (wy).drew.heap.size (wy).drew w') (ds := []) #[false, false, false, false, false, false, false, false, false, false, false, false, false, false, false] (by kernel_rfl) rfl rfl (Below.refl _ _) (fun hHeld => ?_)
        generalize (wy).drew = W0 at *
        refine take_ (i := 0) (N := (some 36)) (a' := ?_) #[true, false, false, false, false, false, false, false, false, false, false, false, false, false, false] rfl rfl (by kernel_rfl) (fun _ _ _ h => h) (yields_tab (by rfl) (.tmp 5) rfl gT rfl (fun w' hS => hS) (OE.out.blk 0 rfl)) hHeld ?_ ?_
        rotate_left
        · simp only [Act.put, List.setIfInBounds_toArray, List.set_cons_zero, List.set_cons_succ, i64_w, i32_w]
          rfl
        refine take_ (i := 1) (N := (some 37)) (v := ?_) (a' := ?_) #[true, true, false, false, false, false, false, false, false, false, false, false, false, false, false] rfl rfl (by kernel_rfl) (fun _ _ _ h => h) (Or.inl ⟨by rfl, ?_⟩) hHeld ?_ ?_
        rotate_left
        · intro w' hS
          have s0 := pw_cell_below hS cR0
          have s1 := pw_cell_below hS cR1
          go_simp
          first | done | with_reducible rfl
        rotate_left
        · simp only [Act.put, List.setIfInBounds_toArray, List.set_cons_zero, List.set_cons_succ, i64_w, i32_w]
          rfl
        refine take_ (i := 3) (N := (some 39)) (a' := ?_) #[true, true, false, true, false, false, false, false, false, false, false, false, false, false, false] rfl rfl (by kernel_rfl) (fun _ _ _ h => h) (yields_tab (by rfl) (.tmp 5) rfl gT rfl (fun w' hS => hS) (OE.out.blk 0 rfl)) hHeld ?_ ?_
        rotate_left
        · simp only [Act.put, List.setIfInBounds_toArray, List.set_cons_zero, List.set_cons_succ, i64_w, i32_w]
          rfl
        refine pure_ (i := 5) (N := (some 41)) (v := ?_) (a' := ?_) #[true, true, false, true, false, true, false, false, false, false, false, false, false, false, false] rfl rfl (by kernel_rfl) (fun _ _ _ h => h) (Or.inl ⟨by rfl, ?_⟩) ?_ ?_
        rotate_left
        · intro w'
          go_simp
          first | done | with_reducible rfl
        rotate_left
        · simp only [Act.put, List.setIfInBounds_toArray, List.set_cons_zero, List.set_cons_succ, i64_w, i32_w]
          rfl
        refine pure_ (i := 7) (N := (some 43)) (v := ?_) (a' := ?_) #[true, true, false, true, false, true, false, true, false, false, false, false, false, false, false] rfl rfl (by kernel_rfl) (fun _ _ _ h => h) (Or.inl ⟨by rfl, ?_⟩) ?_ ?_
        rotate_left
        · intro w'
          go_simp
          first | done | with_reducible rfl
        rotate_left
        · simp only [Act.put, List.setIfInBounds_toArray, List.set_cons_zero, List.set_cons_succ, i64_w, i32_w]
          rfl
        refine pure_ (i := 8) (N := (some 44)) (v := ?_) (a' := ?_) #[true, true, false, true, false, true, false, true, true, false, false, false, false, false, false] rfl rfl (by kernel_rfl) (fun _ _ _ h => h) (Or.inl ⟨by rfl, ?_⟩) ?_ ?_
        rotate_left
        · intro w'
          go_simp
          first | done | with_reducible rfl
        rotate_left
        · simp only [Act.put, List.setIfInBounds_toArray, List.set_cons_zero, List.set_cons_succ, i64_w, i32_w]
          rfl
        refine take_ (i := 9) (N := (some 45)) (v := ?_) (a' := ?_) #[true, true, false, true, false, true, false, true, true, true, false, false, false, false, false] rfl rfl (by kernel_rfl) (fun _ _ _ h => h) (Or.inl ⟨by rfl, ?_⟩) hHeld ?_ ?_
        rotate_left
        · intro w' hS
          have s0 := pw_cell_below hS cY
          go_simp
          first | done | with_reducible rfl
        rotate_left
        · simp only [Act.put, List.setIfInBounds_toArray, List.set_cons_zero, List.set_cons_succ, i64_w, i32_w]
          rfl
        refine three_ (i := 2) (j := 4) (k := 10) (Ni := (some 38)) (Nj := (some 40)) (Nk := (some 46)) #[true, true, true, true, false, true, false, true, true, true, false, false, false, false, false] #[true, true, false, true, true, true, false, true, true, true, false, false, false, false, false] #[true, true, false, true, false, true, false, true, true, true, true, false, false, false, false] rfl rfl rfl rfl rfl rfl (by kernel_rfl) (by decide) (by decide) (by decide) (fun K hK => ?_) (fun K hK => ?_) (fun K hK => ?_)
        refine goes_ Try.func29 (by kernel_rfl) rfl #[.agg TV, .agg #[.int .i64 (T : Int), .slice A9 O2.length c9]] (by rfl) rfl rfl (by (try simp only [List.map_toArray, List.map_cons, List.map_nil]); first | done | rfl) ?_
        (with_reducible refine (HRB.out A9 c9 H9.out _ (Kd.C_below K9.out hHeld)).mono ?_)
        rintro e wz ⟨rfl, hB⟩
        refine ⟨_, rfl, ?_⟩
        have hS2 : Below W0.heap.size W0 wz := below_step hHeld hB
        (try (have n_ := Aside0.mk (Kd.R_below HN.out hB); clear HN; have HN := n_; clear n_))
        (try (have n_ := Aside0.mk (Kd.R_below HY.out hB); clear HY; have HY := n_; clear n_))
        clear hB hHeld
        refine hK.out _ _ hS2 (fun hHeld => ?_)
        clear hK K
        refine norm_ (a' := ?_) ?_ ?_
        rotate_left
        · show Act.put _ (some 38) _ = _
          simp only [Act.put, List.setIfInBounds_toArray, List.set_cons_zero, List.set_cons_succ, i64_w, i32_w]
          rfl
        refine two_ (i := 4) (j := 10) (Ni := (some 40)) (Nj := (some 46)) #[true, true, true, true, true, true, false, true, true, true, false, false, false, false, false] #[true, true, true, true, false, true, false, true, true, true, true, false, false, false, false] rfl rfl rfl rfl (by kernel_rfl) (by decide) (by decide) (fun K hK => ?_) (fun K hK => ?_)
        refine lit_step2 (by rfl) (N := 40) rfl [] (by first | (go_simp; done) | (go_simp; rfl)) (by decide) ?_
        intro vN wz hrN hB
        have hS2 : Below W0.heap.size W0 wz := below_step hHeld hB
        (try (have HNE := Aside0.mk (ne_rows hrN HY.out); have n_ := Aside0.mk (Kd.R_below HY.out hB); clear HY; have HY := n_; clear n_))
        have HN := Aside0.mk (Kd.R_lower hrN hHeld.size)
        clear hB hHeld hrN
        refine hK.out _ _ hS2 (fun hHeld => ?_)
        clear hK K
        refine norm_ (a' := ?_) ?_ ?_
        rotate_left
        · show Act.put _ (some 40) _ = _
          simp only [Act.put, List.setIfInBounds_toArray, List.set_cons_zero, List.set_cons_succ, i64_w, i32_w]
          rfl
        refine two_ (i := 6) (j := 10) (Ni := (some 42)) (Nj := (some 46)) #[true, true, true, true, true, true, true, true, true, true, false, false, false, false, false] #[true, true, true, true, true, true, false, true, true, true, true, false, false, false, false] rfl rfl rfl rfl (by kernel_rfl) (by decide) (by decide) (fun K hK => ?_) (fun K hK => ?_)
        refine app_step2 (W0 := W0) W0.heap.size (by rfl) (.tmp 40) (.tmp 41) rfl vN [] L A4 c4 rfl rfl HN.out (Kd.C_below K5.out hHeld) hHeld hHeld.size (by have := HLX.out; simp; omega) ?_
        intro vN2 wz hrN hb hg hat
        have hS2 : Below W0.heap.size W0 wz := hb
        (try (have m_ := Aside0.mk (ne_app HNE.out hat HY.out); have n_ := Aside0.mk (row_beside HY.out HNE.out hg); clear HNE HY; have HNE := m_; have HY := n_; clear m_ n_))
        clear HN
        rw [List.nil_append] at hrN
        have HN := Aside0.mk hrN
        clear hb hg hat hrN hHeld
        refine hK.out _ _ hS2 (fun hHeld => ?_)
        clear hK K
        refine norm_ (a' := ?_) ?_ ?_
        rotate_left
        · show Act.put _ (some 42) _ = _
          simp only [Act.put, List.setIfInBounds_toArray, List.set_cons_zero, List.set_cons_succ, i64_w, i32_w]
          rfl
        refine one_ (i := 10) (N := (some 46)) #[true, true, true, true, true, true, true, true, true, true, true, false, false, false, false] rfl rfl (by kernel_rfl) (by decide) (fun K hK => ?_)
        refine lit_step2 (by rfl) (N := 46) rfl [x] (by first | (go_simp; done) | (go_simp; rfl)) (by simp) ?_
        intro vY wz hrY hB
        have hS2 : Below W0.heap.size W0 wz := below_step hHeld hB
        (try (have HNE := Aside0.mk (ne_symm (ne_rows hrY HN.out)); have n_ := Aside0.mk (Kd.R_below HN.out hB); clear HN; have HN := n_; clear n_))
        obtain ⟨AY, cYY, rfl⟩ := Kd.R_slice hrY
        have HY := Aside0.mk (Kd.R_lower hrY hHeld.size)
        clear hB hHeld hrY
        refine hK.out _ _ hS2 (fun hHeld => ?_)
        clear hK K
        refine norm_ (a' := ?_) ?_ ?_
        rotate_left
        · show Act.put _ (some 46) _ = _
          simp only [Act.put, List.setIfInBounds_toArray, List.set_cons_zero, List.set_cons_succ, i64_w, i32_w]
          rfl
        refine one_ (i := 11) (N := (some 47)) #[true, true, true, true, true, true, true, true, true, true, true, true, false, false, false] rfl rfl (by kernel_rfl) (by decide) (fun K hK => ?_)
        refine app_step2 (W0 := W0) W0.heap.size (by rfl) (.tmp 42) (.tmp 46) rfl _ L [x] AY cYY rfl rfl HN.out (Kd.R_reads' HY.out).2.2 hHeld hHeld.size (by have := HLX.out; simp; omega) ?_
        intro vN3 wz hrN hb hg hat
        have hS2 : Below W0.heap.size W0 wz := hb
        clear HN HY HNE
        obtain ⟨AN, cN, rfl, hN, _⟩ := Kd.R_reads hrN
        have HN := Aside0.mk hrN
        have HNC := Aside0.mk hN
        clear hb hg hat hrN hHeld hN
        refine hK.out _ _ hS2 (fun hHeld => ?_)
        clear hK K
        refine norm_ (a' := ?_) ?_ ?_
        rotate_left
        · show Act.put _ (some 47) _ = _
          simp only [Act.put, List.setIfInBounds_toArray, List.set_cons_zero, List.set_cons_succ, i64_w, i32_w]
          rfl
        refine one_ (i := 12) (N := (some 48)) #[true, true, true, true, true, true, true, true, true, true, true, true, true, false, false] rfl rfl (by kernel_rfl) (by decide) (fun K hK => ?_)
        refine goes_ Try.func30 (by kernel_rfl) rfl #[.agg TV, .slice AN (L ++ [x]).length cN] (by rfl) rfl rfl (by (try simp only [List.map_toArray, List.map_cons, List.map_nil]); first | done | rfl) ?_
        (with_reducible refine (HRT.out AN cN HNC.out _ (Kd.R_reads' HN.out).2.2).mono ?_)
        rintro e wz ⟨rfl, hB⟩
        refine ⟨_, rfl, ?_⟩
        have hS2 : Below W0.heap.size W0 wz := below_step hHeld hB
        clear hB hHeld HN
        refine hK.out _ _ hS2 (fun hHeld => ?_)
        clear hK K
        refine norm_ (a' := ?_) ?_ ?_
        rotate_left
        · show Act.put _ (some 48) _ = _
          simp only [Act.put, List.setIfInBounds_toArray, List.set_cons_zero, List.set_cons_succ, i64_w, i32_w]
          rfl
        refine pure_ (i := 13) (N := (some 49)) (v := ?_) (a' := ?_) #[true, true, true, true, true, true, true, true, true, true, true, true, true, true, false] rfl rfl (by kernel_rfl) (fun _ _ _ h => h) (Or.inl ⟨by rfl, ?_⟩) ?_ ?_
        rotate_left
        · intro w'
          go_simp
          first | done | with_reducible rfl
        rotate_left
        · simp only [Act.put, List.setIfInBounds_toArray, List.set_cons_zero, List.set_cons_succ, i64_w, i32_w]
          rfl
        refine pure_ (i := 14) (N := (some 4)) (v := ?_) (a' := ?_) #[true, true, true, true, true, true, true, true, true, true, true, true, true, true, true] rfl rfl (by kernel_rfl) (fun _ _ _ h => h) (Or.inl ⟨by rfl, ?_⟩) ?_ ?_
        rotate_left
        · intro w'
          go_simp
          first | done | with_reducible rfl
        rotate_left
        · simp only [Act.put, List.setIfInBounds_toArray, List.set_cons_zero, List.set_cons_succ, i64_w, i32_w]
          rfl
        refine done_ (by kernel_rfl) ?_
        rotate_left
        refine lit_step2 (by rfl) (N := 46) rfl [x] (by first | (go_simp; done) | (go_simp; rfl)) (by simp) ?_
        intro vY wz hrY hB
        have hS2 : Below W0.heap.size W0 wz := below_step hHeld hB
        (try (have HNE := Aside0.mk (ne_symm (ne_rows hrY HN.out)); have n_ := Aside0.mk (Kd.R_below HN.out hB); clear HN; have HN := n_; clear n_))
        obtain ⟨AY, cYY, rfl⟩ := Kd.R_slice hrY
        have HY := Aside0.mk (Kd.R_lower hrY hHeld.size)
        clear hB hHeld hrY
        refine hK.out _ _ hS2 (fun hHeld => ?_)
        clear hK K
        refine norm_ (a' := ?_) ?_ ?_
        rotate_left
        · show Act.put _ (some 46) _ = _
          simp only [Act.put, List.setIfInBounds_toArray, List.set_cons_zero, List.set_cons_succ, i64_w, i32_w]
          rfl
        refine one_ (i := 6) (N := (some 42)) #[true, true, true, true, true, true, true, true, true, true, true, false, false, false, false] rfl rfl (by kernel_rfl) (by decide) (fun K hK => ?_)
        refine app_step2 (W0 := W0) W0.heap.size (by rfl) (.tmp 40) (.tmp 41) rfl vN [] L A4 c4 rfl rfl HN.out (Kd.C_below K5.out hHeld) hHeld hHeld.size (by have := HLX.out; simp; omega) ?_
        intro vN2 wz hrN hb hg hat
        have hS2 : Below W0.heap.size W0 wz := hb
        (try (have m_ := Aside0.mk (ne_app HNE.out hat HY.out); have n_ := Aside0.mk (row_beside HY.out HNE.out hg); clear HNE HY; have HNE := m_; have HY := n_; clear m_ n_))
        clear HN
        rw [List.nil_append] at hrN
        have HN := Aside0.mk hrN
        clear hb hg hat hrN hHeld
        refine hK.out _ _ hS2 (fun hHeld => ?_)
        clear hK K
        refine norm_ (a' := ?_) ?_ ?_
        rotate_left
        · show Act.put _ (some 42) _ = _
          simp only [Act.put, List.setIfInBounds_toArray, List.set_cons_zero, List.set_cons_succ, i64_w, i32_w]
          rfl
        refine one_ (i := 11) (N := (some 47)) #[true, true, true, true, true, true, true, true, true, true, true, true, false, false, false] rfl rfl (by kernel_rfl) (by decide) (fun K hK => ?_)
        refine app_step2 (W0 := W0) W0.heap.size (by rfl) (.tmp 42) (.tmp 46) rfl _ L [x] AY cYY rfl rfl HN.out (Kd.R_reads' HY.out).2.2 hHeld hHeld.size (by have := HLX.out; simp; omega) ?_
        intro vN3 wz hrN hb hg hat
        have hS2 : Below W0.heap.size W0 wz := hb
        clear HN HY HNE
        obtain ⟨AN, cN, rfl, hN, _⟩ := Kd.R_reads hrN
        have HN := Aside0.mk hrN
        have HNC := Aside0.mk hN
        clear hb hg hat hrN hHeld hN
        refine hK.out _ _ hS2 (fun hHeld => ?_)
        clear hK K
        refine norm_ (a' := ?_) ?_ ?_
        rotate_left
        · show Act.put _ (some 47) _ = _
          simp only [Act.put, List.setIfInBounds_toArray, List.set_cons_zero, List.set_cons_succ, i64_w, i32_w]
          rfl
        refine one_ (i := 12) (N := (some 48)) #[true, true, true, true, true, true, true, true, true, true, true, true, true, false, false] rfl rfl (by kernel_rfl) (by decide) (fun K hK => ?_)
        refine goes_ Try.func30 (by kernel_rfl) rfl #[.agg TV, .slice AN (L ++ [x]).length cN] (by rfl) rfl rfl (by (try simp only [List.map_toArray, List.map_cons, List.map_nil]); first | done | rfl) ?_
        (with_reducible refine (HRT.out AN cN HNC.out _ (Kd.R_reads' HN.out).2.2).mono ?_)
        rintro e wz ⟨rfl, hB⟩
        refine ⟨_, rfl, ?_⟩
        have hS2 : Below W0.heap.size W0 wz := below_step hHeld hB
        clear hB hHeld HN
        refine hK.out _ _ hS2 (fun hHeld => ?_)
        clear hK K
        refine norm_ (a' := ?_) ?_ ?_
        rotate_left
        · show Act.put _ (some 48) _ = _
          simp only [Act.put, List.setIfInBounds_toArray, List.set_cons_zero, List.set_cons_succ, i64_w, i32_w]
          rfl
        refine pure_ (i := 13) (N := (some 49)) (v := ?_) (a' := ?_) #[true, true, true, true, true, true, true, true, true, true, true, true, true, true, false] rfl rfl (by kernel_rfl) (fun _ _ _ h => h) (Or.inl ⟨by rfl, ?_⟩) ?_ ?_
        rotate_left
        · intro w'
          go_simp
          first | done | with_reducible rfl
        rotate_left
        · simp only [Act.put, List.setIfInBounds_toArray, List.set_cons_zero, List.set_cons_succ, i64_w, i32_w]
          rfl
        refine pure_ (i := 14) (N := (some 4)) (v := ?_) (a' := ?_) #[true, true, true, true, true, true, true, true, true, true, true, true, true, true, true] rfl rfl (by kernel_rfl) (fun _ _ _ h => h) (Or.inl ⟨by rfl, ?_⟩) ?_ ?_
        rotate_left
        · intro w'
          go_simp
          first | done | with_reducible rfl
        rotate_left
        · simp only [Act.put, List.setIfInBounds_toArray, List.set_cons_zero, List.set_cons_succ, i64_w, i32_w]
          rfl
        refine done_ (by kernel_rfl) ?_
        rotate_left
        refine lit_step2 (by rfl) (N := 46) rfl [x] (by first | (go_simp; done) | (go_simp; rfl)) (by simp) ?_
        intro vY wz hrY hB
        have hS2 : Below W0.heap.size W0 wz := below_step hHeld hB
        (try (have HNE := Aside0.mk (ne_symm (ne_rows hrY HN.out)); have n_ := Aside0.mk (Kd.R_below HN.out hB); clear HN; have HN := n_; clear n_))
        obtain ⟨AY, cYY, rfl⟩ := Kd.R_slice hrY
        have HY := Aside0.mk (Kd.R_lower hrY hHeld.size)
        clear hB hHeld hrY
        refine hK.out _ _ hS2 (fun hHeld => ?_)
        clear hK K
        refine norm_ (a' := ?_) ?_ ?_
        rotate_left
        · show Act.put _ (some 46) _ = _
          simp only [Act.put, List.setIfInBounds_toArray, List.set_cons_zero, List.set_cons_succ, i64_w, i32_w]
          rfl
        refine one_ (i := 4) (N := (some 40)) #[true, true, true, true, true, true, false, true, true, true, true, false, false, false, false] rfl rfl (by kernel_rfl) (by decide) (fun K hK => ?_)
        refine lit_step2 (by rfl) (N := 40) rfl [] (by first | (go_simp; done) | (go_simp; rfl)) (by decide) ?_
        intro vN wz hrN hB
        have hS2 : Below W0.heap.size W0 wz := below_step hHeld hB
        (try (have HNE := Aside0.mk (ne_rows hrN HY.out); have n_ := Aside0.mk (Kd.R_below HY.out hB); clear HY; have HY := n_; clear n_))
        have HN := Aside0.mk (Kd.R_lower hrN hHeld.size)
        clear hB hHeld hrN
        refine hK.out _ _ hS2 (fun hHeld => ?_)
        clear hK K
        refine norm_ (a' := ?_) ?_ ?_
        rotate_left
        · show Act.put _ (some 40) _ = _
          simp only [Act.put, List.setIfInBounds_toArray, List.set_cons_zero, List.set_cons_succ, i64_w, i32_w]
          rfl
        refine one_ (i := 6) (N := (some 42)) #[true, true, true, true, true, true, true, true, true, true, true, false, false, false, false] rfl rfl (by kernel_rfl) (by decide) (fun K hK => ?_)
        refine app_step2 (W0 := W0) W0.heap.size (by rfl) (.tmp 40) (.tmp 41) rfl vN [] L A4 c4 rfl rfl HN.out (Kd.C_below K5.out hHeld) hHeld hHeld.size (by have := HLX.out; simp; omega) ?_
        intro vN2 wz hrN hb hg hat
        have hS2 : Below W0.heap.size W0 wz := hb
        (try (have m_ := Aside0.mk (ne_app HNE.out hat HY.out); have n_ := Aside0.mk (row_beside HY.out HNE.out hg); clear HNE HY; have HNE := m_; have HY := n_; clear m_ n_))
        clear HN
        rw [List.nil_append] at hrN
        have HN := Aside0.mk hrN
        clear hb hg hat hrN hHeld
        refine hK.out _ _ hS2 (fun hHeld => ?_)
        clear hK K
        refine norm_ (a' := ?_) ?_ ?_
        rotate_left
        · show Act.put _ (some 42) _ = _
          simp only [Act.put, List.setIfInBounds_toArray, List.set_cons_zero, List.set_cons_succ, i64_w, i32_w]
          rfl
        refine one_ (i := 11) (N := (some 47)) #[true, true, true, true, true, true, true, true, true, true, true, true, false, false, false] rfl rfl (by kernel_rfl) (by decide) (fun K hK => ?_)
        refine app_step2 (W0 := W0) W0.heap.size (by rfl) (.tmp 42) (.tmp 46) rfl _ L [x] AY cYY rfl rfl HN.out (Kd.R_reads' HY.out).2.2 hHeld hHeld.size (by have := HLX.out; simp; omega) ?_
        intro vN3 wz hrN hb hg hat
        have hS2 : Below W0.heap.size W0 wz := hb
        clear HN HY HNE
        obtain ⟨AN, cN, rfl, hN, _⟩ := Kd.R_reads hrN
        have HN := Aside0.mk hrN
        have HNC := Aside0.mk hN
        clear hb hg hat hrN hHeld hN
        refine hK.out _ _ hS2 (fun hHeld => ?_)
        clear hK K
        refine norm_ (a' := ?_) ?_ ?_
        rotate_left
        · show Act.put _ (some 47) _ = _
          simp only [Act.put, List.setIfInBounds_toArray, List.set_cons_zero, List.set_cons_succ, i64_w, i32_w]
          rfl
        refine one_ (i := 12) (N := (some 48)) #[true, true, true, true, true, true, true, true, true, true, true, true, true, false, false] rfl rfl (by kernel_rfl) (by decide) (fun K hK => ?_)
        refine goes_ Try.func30 (by kernel_rfl) rfl #[.agg TV, .slice AN (L ++ [x]).length cN] (by rfl) rfl rfl (by (try simp only [List.map_toArray, List.map_cons, List.map_nil]); first | done | rfl) ?_
        (with_reducible refine (HRT.out AN cN HNC.out _ (Kd.R_reads' HN.out).2.2).mono ?_)
        rintro e wz ⟨rfl, hB⟩
        refine ⟨_, rfl, ?_⟩
        have hS2 : Below W0.heap.size W0 wz := below_step hHeld hB
        clear hB hHeld HN
        refine hK.out _ _ hS2 (fun hHeld => ?_)
        clear hK K
        refine norm_ (a' := ?_) ?_ ?_
        rotate_left
        · show Act.put _ (some 48) _ = _
          simp only [Act.put, List.setIfInBounds_toArray, List.set_cons_zero, List.set_cons_succ, i64_w, i32_w]
          rfl
        refine pure_ (i := 13) (N := (some 49)) (v := ?_) (a' := ?_) #[true, true, true, true, true, true, true, true, true, true, true, true, true, true, false] rfl rfl (by kernel_rfl) (fun _ _ _ h => h) (Or.inl ⟨by rfl, ?_⟩) ?_ ?_
        rotate_left
        · intro w'
          go_simp
          first | done | with_reducible rfl
        rotate_left
        · simp only [Act.put, List.setIfInBounds_toArray, List.set_cons_zero, List.set_cons_succ, i64_w, i32_w]
          rfl
        refine pure_ (i := 14) (N := (some 4)) (v := ?_) (a' := ?_) #[true, true, true, true, true, true, true, true, true, true, true, true, true, true, true] rfl rfl (by kernel_rfl) (fun _ _ _ h => h) (Or.inl ⟨by rfl, ?_⟩) ?_ ?_
        rotate_left
        · intro w'
          go_simp
          first | done | with_reducible rfl
        rotate_left
        · simp only [Act.put, List.setIfInBounds_toArray, List.set_cons_zero, List.set_cons_succ, i64_w, i32_w]
          rfl
        refine done_ (by kernel_rfl) ?_
        rotate_left
        refine lit_step2 (by rfl) (N := 40) rfl [] (by first | (go_simp; done) | (go_simp; rfl)) (by decide) ?_
        intro vN wz hrN hB
        have hS2 : Below W0.heap.size W0 wz := below_step hHeld hB
        (try (have HNE := Aside0.mk (ne_rows hrN HY.out); have n_ := Aside0.mk (Kd.R_below HY.out hB); clear HY; have HY := n_; clear n_))
        have HN := Aside0.mk (Kd.R_lower hrN hHeld.size)
        clear hB hHeld hrN
        refine hK.out _ _ hS2 (fun hHeld => ?_)
        clear hK K
        refine norm_ (a' := ?_) ?_ ?_
        rotate_left
        · show Act.put _ (some 40) _ = _
          simp only [Act.put, List.setIfInBounds_toArray, List.set_cons_zero, List.set_cons_succ, i64_w, i32_w]
          rfl
        refine two_ (i := 2) (j := 10) (Ni := (some 38)) (Nj := (some 46)) #[true, true, true, true, true, true, false, true, true, true, false, false, false, false, false] #[true, true, false, true, true, true, false, true, true, true, true, false, false, false, false] rfl rfl rfl rfl (by kernel_rfl) (by decide) (by decide) (fun K hK => ?_) (fun K hK => ?_)
        refine goes_ Try.func29 (by kernel_rfl) rfl #[.agg TV, .agg #[.int .i64 (T : Int), .slice A9 O2.length c9]] (by rfl) rfl rfl (by (try simp only [List.map_toArray, List.map_cons, List.map_nil]); first | done | rfl) ?_
        (with_reducible refine (HRB.out A9 c9 H9.out _ (Kd.C_below K9.out hHeld)).mono ?_)
        rintro e wz ⟨rfl, hB⟩
        refine ⟨_, rfl, ?_⟩
        have hS2 : Below W0.heap.size W0 wz := below_step hHeld hB
        (try (have n_ := Aside0.mk (Kd.R_below HN.out hB); clear HN; have HN := n_; clear n_))
        (try (have n_ := Aside0.mk (Kd.R_below HY.out hB); clear HY; have HY := n_; clear n_))
        clear hB hHeld
        refine hK.out _ _ hS2 (fun hHeld => ?_)
        clear hK K
        refine norm_ (a' := ?_) ?_ ?_
        rotate_left
        · show Act.put _ (some 38) _ = _
          simp only [Act.put, List.setIfInBounds_toArray, List.set_cons_zero, List.set_cons_succ, i64_w, i32_w]
          rfl
        refine two_ (i := 6) (j := 10) (Ni := (some 42)) (Nj := (some 46)) #[true, true, true, true, true, true, true, true, true, true, false, false, false, false, false] #[true, true, true, true, true, true, false, true, true, true, true, false, false, false, false] rfl rfl rfl rfl (by kernel_rfl) (by decide) (by decide) (fun K hK => ?_) (fun K hK => ?_)
        refine app_step2 (W0 := W0) W0.heap.size (by rfl) (.tmp 40) (.tmp 41) rfl vN [] L A4 c4 rfl rfl HN.out (Kd.C_below K5.out hHeld) hHeld hHeld.size (by have := HLX.out; simp; omega) ?_
        intro vN2 wz hrN hb hg hat
        have hS2 : Below W0.heap.size W0 wz := hb
        (try (have m_ := Aside0.mk (ne_app HNE.out hat HY.out); have n_ := Aside0.mk (row_beside HY.out HNE.out hg); clear HNE HY; have HNE := m_; have HY := n_; clear m_ n_))
        clear HN
        rw [List.nil_append] at hrN
        have HN := Aside0.mk hrN
        clear hb hg hat hrN hHeld
        refine hK.out _ _ hS2 (fun hHeld => ?_)
        clear hK K
        refine norm_ (a' := ?_) ?_ ?_
        rotate_left
        · show Act.put _ (some 42) _ = _
          simp only [Act.put, List.setIfInBounds_toArray, List.set_cons_zero, List.set_cons_succ, i64_w, i32_w]
          rfl
        refine one_ (i := 10) (N := (some 46)) #[true, true, true, true, true, true, true, true, true, true, true, false, false, false, false] rfl rfl (by kernel_rfl) (by decide) (fun K hK => ?_)
        refine lit_step2 (by rfl) (N := 46) rfl [x] (by first | (go_simp; done) | (go_simp; rfl)) (by simp) ?_
        intro vY wz hrY hB
        have hS2 : Below W0.heap.size W0 wz := below_step hHeld hB
        (try (have HNE := Aside0.mk (ne_symm (ne_rows hrY HN.out)); have n_ := Aside0.mk (Kd.R_below HN.out hB); clear HN; have HN := n_; clear n_))
        obtain ⟨AY, cYY, rfl⟩ := Kd.R_slice hrY
        have HY := Aside0.mk (Kd.R_lower hrY hHeld.size)
        clear hB hHeld hrY
        refine hK.out _ _ hS2 (fun hHeld => ?_)
        clear hK K
        refine norm_ (a' := ?_) ?_ ?_
        rotate_left
        · show Act.put _ (some 46) _ = _
          simp only [Act.put, List.setIfInBounds_toArray, List.set_cons_zero, List.set_cons_succ, i64_w, i32_w]
          rfl
        refine one_ (i := 11) (N := (some 47)) #[true, true, true, true, true, true, true, true, true, true, true, true, false, false, false] rfl rfl (by kernel_rfl) (by decide) (fun K hK => ?_)
        refine app_step2 (W0 := W0) W0.heap.size (by rfl) (.tmp 42) (.tmp 46) rfl _ L [x] AY cYY rfl rfl HN.out (Kd.R_reads' HY.out).2.2 hHeld hHeld.size (by have := HLX.out; simp; omega) ?_
        intro vN3 wz hrN hb hg hat
        have hS2 : Below W0.heap.size W0 wz := hb
        clear HN HY HNE
        obtain ⟨AN, cN, rfl, hN, _⟩ := Kd.R_reads hrN
        have HN := Aside0.mk hrN
        have HNC := Aside0.mk hN
        clear hb hg hat hrN hHeld hN
        refine hK.out _ _ hS2 (fun hHeld => ?_)
        clear hK K
        refine norm_ (a' := ?_) ?_ ?_
        rotate_left
        · show Act.put _ (some 47) _ = _
          simp only [Act.put, List.setIfInBounds_toArray, List.set_cons_zero, List.set_cons_succ, i64_w, i32_w]
          rfl
        refine one_ (i := 12) (N := (some 48)) #[true, true, true, true, true, true, true, true, true, true, true, true, true, false, false] rfl rfl (by kernel_rfl) (by decide) (fun K hK => ?_)
        refine goes_ Try.func30 (by kernel_rfl) rfl #[.agg TV, .slice AN (L ++ [x]).length cN] (by rfl) rfl rfl (by (try simp only [List.map_toArray, List.map_cons, List.map_nil]); first | done | rfl) ?_
        (with_reducible refine (HRT.out AN cN HNC.out _ (Kd.R_reads' HN.out).2.2).mono ?_)
        rintro e wz ⟨rfl, hB⟩
        refine ⟨_, rfl, ?_⟩
        have hS2 : Below W0.heap.size W0 wz := below_step hHeld hB
        clear hB hHeld HN
        refine hK.out _ _ hS2 (fun hHeld => ?_)
        clear hK K
        refine norm_ (a' := ?_) ?_ ?_
        rotate_left
        · show Act.put _ (some 48) _ = _
          simp only [Act.put, List.setIfInBounds_toArray, List.set_cons_zero, List.set_cons_succ, i64_w, i32_w]
          rfl
        refine pure_ (i := 13) (N := (some 49)) (v := ?_) (a' := ?_) #[true, true, true, true, true, true, true, true, true, true, true, true, true, true, false] rfl rfl (by kernel_rfl) (fun _ _ _ h => h) (Or.inl ⟨by rfl, ?_⟩) ?_ ?_
        rotate_left
        · intro w'
          go_simp
          first | done | with_reducible rfl
        rotate_left
        · simp only [Act.put, List.setIfInBounds_toArray, List.set_cons_zero, List.set_cons_succ, i64_w, i32_w]
          rfl
        refine pure_ (i := 14) (N := (some 4)) (v := ?_) (a' := ?_) #[true, true, true, true, true, true, true, true, true, true, true, true, true, true, true] rfl rfl (by kernel_rfl) (fun _ _ _ h => h) (Or.inl ⟨by rfl, ?_⟩) ?_ ?_
        rotate_left
        · intro w'
          go_simp
          first | done | with_reducible rfl
        rotate_left
        · simp only [Act.put, List.setIfInBounds_toArray, List.set_cons_zero, List.set_cons_succ, i64_w, i32_w]
          rfl
        refine done_ (by kernel_rfl) ?_
        rotate_left
        refine lit_step2 (by rfl) (N := 46) rfl [x] (by first | (go_simp; done) | (go_simp; rfl)) (by simp) ?_
        intro vY wz hrY hB
        have hS2 : Below W0.heap.size W0 wz := below_step hHeld hB
        (try (have HNE := Aside0.mk (ne_symm (ne_rows hrY HN.out)); have n_ := Aside0.mk (Kd.R_below HN.out hB); clear HN; have HN := n_; clear n_))
        obtain ⟨AY, cYY, rfl⟩ := Kd.R_slice hrY
        have HY := Aside0.mk (Kd.R_lower hrY hHeld.size)
        clear hB hHeld hrY
        refine hK.out _ _ hS2 (fun hHeld => ?_)
        clear hK K
        refine norm_ (a' := ?_) ?_ ?_
        rotate_left
        · show Act.put _ (some 46) _ = _
          simp only [Act.put, List.setIfInBounds_toArray, List.set_cons_zero, List.set_cons_succ, i64_w, i32_w]
          rfl
        refine one_ (i := 6) (N := (some 42)) #[true, true, true, true, true, true, true, true, true, true, true, false, false, false, false] rfl rfl (by kernel_rfl) (by decide) (fun K hK => ?_)
        refine app_step2 (W0 := W0) W0.heap.size (by rfl) (.tmp 40) (.tmp 41) rfl vN [] L A4 c4 rfl rfl HN.out (Kd.C_below K5.out hHeld) hHeld hHeld.size (by have := HLX.out; simp; omega) ?_
        intro vN2 wz hrN hb hg hat
        have hS2 : Below W0.heap.size W0 wz := hb
        (try (have m_ := Aside0.mk (ne_app HNE.out hat HY.out); have n_ := Aside0.mk (row_beside HY.out HNE.out hg); clear HNE HY; have HNE := m_; have HY := n_; clear m_ n_))
        clear HN
        rw [List.nil_append] at hrN
        have HN := Aside0.mk hrN
        clear hb hg hat hrN hHeld
        refine hK.out _ _ hS2 (fun hHeld => ?_)
        clear hK K
        refine norm_ (a' := ?_) ?_ ?_
        rotate_left
        · show Act.put _ (some 42) _ = _
          simp only [Act.put, List.setIfInBounds_toArray, List.set_cons_zero, List.set_cons_succ, i64_w, i32_w]
          rfl
        refine one_ (i := 11) (N := (some 47)) #[true, true, true, true, true, true, true, true, true, true, true, true, false, false, false] rfl rfl (by kernel_rfl) (by decide) (fun K hK => ?_)
        refine app_step2 (W0 := W0) W0.heap.size (by rfl) (.tmp 42) (.tmp 46) rfl _ L [x] AY cYY rfl rfl HN.out (Kd.R_reads' HY.out).2.2 hHeld hHeld.size (by have := HLX.out; simp; omega) ?_
        intro vN3 wz hrN hb hg hat
        have hS2 : Below W0.heap.size W0 wz := hb
        clear HN HY HNE
        obtain ⟨AN, cN, rfl, hN, _⟩ := Kd.R_reads hrN
        have HN := Aside0.mk hrN
        have HNC := Aside0.mk hN
        clear hb hg hat hrN hHeld hN
        refine hK.out _ _ hS2 (fun hHeld => ?_)
        clear hK K
        refine norm_ (a' := ?_) ?_ ?_
        rotate_left
        · show Act.put _ (some 47) _ = _
          simp only [Act.put, List.setIfInBounds_toArray, List.set_cons_zero, List.set_cons_succ, i64_w, i32_w]
          rfl
        refine one_ (i := 12) (N := (some 48)) #[true, true, true, true, true, true, true, true, true, true, true, true, true, false, false] rfl rfl (by kernel_rfl) (by decide) (fun K hK => ?_)
        refine goes_ Try.func30 (by kernel_rfl) rfl #[.agg TV, .slice AN (L ++ [x]).length cN] (by rfl) rfl rfl (by (try simp only [List.map_toArray, List.map_cons, List.map_nil]); first | done | rfl) ?_
        (with_reducible refine (HRT.out AN cN HNC.out _ (Kd.R_reads' HN.out).2.2).mono ?_)
        rintro e wz ⟨rfl, hB⟩
        refine ⟨_, rfl, ?_⟩
        have hS2 : Below W0.heap.size W0 wz := below_step hHeld hB
        clear hB hHeld HN
        refine hK.out _ _ hS2 (fun hHeld => ?_)
        clear hK K
        refine norm_ (a' := ?_) ?_ ?_
        rotate_left
        · show Act.put _ (some 48) _ = _
          simp only [Act.put, List.setIfInBounds_toArray, List.set_cons_zero, List.set_cons_succ, i64_w, i32_w]
          rfl
        refine pure_ (i := 13) (N := (some 49)) (v := ?_) (a' := ?_) #[true, true, true, true, true, true, true, true, true, true, true, true, true, true, false] rfl rfl (by kernel_rfl) (fun _ _ _ h => h) (Or.inl ⟨by rfl, ?_⟩) ?_ ?_
        rotate_left
        · intro w'
          go_simp
          first | done | with_reducible rfl
        rotate_left
        · simp only [Act.put, List.setIfInBounds_toArray, List.set_cons_zero, List.set_cons_succ, i64_w, i32_w]
          rfl
        refine pure_ (i := 14) (N := (some 4)) (v := ?_) (a' := ?_) #[true, true, true, true, true, true, true, true, true, true, true, true, true, true, true] rfl rfl (by kernel_rfl) (fun _ _ _ h => h) (Or.inl ⟨by rfl, ?_⟩) ?_ ?_
        rotate_left
        · intro w'
          go_simp
          first | done | with_reducible rfl
        rotate_left
        · simp only [Act.put, List.setIfInBounds_toArray, List.set_cons_zero, List.set_cons_succ, i64_w, i32_w]
          rfl
        refine done_ (by kernel_rfl) ?_
        rotate_left
        refine lit_step2 (by rfl) (N := 46) rfl [x] (by first | (go_simp; done) | (go_simp; rfl)) (by simp) ?_
        intro vY wz hrY hB
        have hS2 : Below W0.heap.size W0 wz := below_step hHeld hB
        (try (have HNE := Aside0.mk (ne_symm (ne_rows hrY HN.out)); have n_ := Aside0.mk (Kd.R_below HN.out hB); clear HN; have HN := n_; clear n_))
        obtain ⟨AY, cYY, rfl⟩ := Kd.R_slice hrY
        have HY := Aside0.mk (Kd.R_lower hrY hHeld.size)
        clear hB hHeld hrY
        refine hK.out _ _ hS2 (fun hHeld => ?_)
        clear hK K
        refine norm_ (a' := ?_) ?_ ?_
        rotate_left
        · show Act.put _ (some 46) _ = _
          simp only [Act.put, List.setIfInBounds_toArray, List.set_cons_zero, List.set_cons_succ, i64_w, i32_w]
          rfl
        refine one_ (i := 2) (N := (some 38)) #[true, true, true, true, true, true, false, true, true, true, true, false, false, false, false] rfl rfl (by kernel_rfl) (by decide) (fun K hK => ?_)
        refine goes_ Try.func29 (by kernel_rfl) rfl #[.agg TV, .agg #[.int .i64 (T : Int), .slice A9 O2.length c9]] (by rfl) rfl rfl (by (try simp only [List.map_toArray, List.map_cons, List.map_nil]); first | done | rfl) ?_
        (with_reducible refine (HRB.out A9 c9 H9.out _ (Kd.C_below K9.out hHeld)).mono ?_)
        rintro e wz ⟨rfl, hB⟩
        refine ⟨_, rfl, ?_⟩
        have hS2 : Below W0.heap.size W0 wz := below_step hHeld hB
        (try (have n_ := Aside0.mk (Kd.R_below HN.out hB); clear HN; have HN := n_; clear n_))
        (try (have n_ := Aside0.mk (Kd.R_below HY.out hB); clear HY; have HY := n_; clear n_))
        clear hB hHeld
        refine hK.out _ _ hS2 (fun hHeld => ?_)
        clear hK K
        refine norm_ (a' := ?_) ?_ ?_
        rotate_left
        · show Act.put _ (some 38) _ = _
          simp only [Act.put, List.setIfInBounds_toArray, List.set_cons_zero, List.set_cons_succ, i64_w, i32_w]
          rfl
        refine one_ (i := 6) (N := (some 42)) #[true, true, true, true, true, true, true, true, true, true, true, false, false, false, false] rfl rfl (by kernel_rfl) (by decide) (fun K hK => ?_)
        refine app_step2 (W0 := W0) W0.heap.size (by rfl) (.tmp 40) (.tmp 41) rfl vN [] L A4 c4 rfl rfl HN.out (Kd.C_below K5.out hHeld) hHeld hHeld.size (by have := HLX.out; simp; omega) ?_
        intro vN2 wz hrN hb hg hat
        have hS2 : Below W0.heap.size W0 wz := hb
        (try (have m_ := Aside0.mk (ne_app HNE.out hat HY.out); have n_ := Aside0.mk (row_beside HY.out HNE.out hg); clear HNE HY; have HNE := m_; have HY := n_; clear m_ n_))
        clear HN
        rw [List.nil_append] at hrN
        have HN := Aside0.mk hrN
        clear hb hg hat hrN hHeld
        refine hK.out _ _ hS2 (fun hHeld => ?_)
        clear hK K
        refine norm_ (a' := ?_) ?_ ?_
        rotate_left
        · show Act.put _ (some 42) _ = _
          simp only [Act.put, List.setIfInBounds_toArray, List.set_cons_zero, List.set_cons_succ, i64_w, i32_w]
          rfl
        refine one_ (i := 11) (N := (some 47)) #[true, true, true, true, true, true, true, true, true, true, true, true, false, false, false] rfl rfl (by kernel_rfl) (by decide) (fun K hK => ?_)
        refine app_step2 (W0 := W0) W0.heap.size (by rfl) (.tmp 42) (.tmp 46) rfl _ L [x] AY cYY rfl rfl HN.out (Kd.R_reads' HY.out).2.2 hHeld hHeld.size (by have := HLX.out; simp; omega) ?_
        intro vN3 wz hrN hb hg hat
        have hS2 : Below W0.heap.size W0 wz := hb
        clear HN HY HNE
        obtain ⟨AN, cN, rfl, hN, _⟩ := Kd.R_reads hrN
        have HN := Aside0.mk hrN
        have HNC := Aside0.mk hN
        clear hb hg hat hrN hHeld hN
        refine hK.out _ _ hS2 (fun hHeld => ?_)
        clear hK K
        refine norm_ (a' := ?_) ?_ ?_
        rotate_left
        · show Act.put _ (some 47) _ = _
          simp only [Act.put, List.setIfInBounds_toArray, List.set_cons_zero, List.set_cons_succ, i64_w, i32_w]
          rfl
        refine one_ (i := 12) (N := (some 48)) #[true, true, true, true, true, true, true, true, true, true, true, true, true, false, false] rfl rfl (by kernel_rfl) (by decide) (fun K hK => ?_)
        refine goes_ Try.func30 (by kernel_rfl) rfl #[.agg TV, .slice AN (L ++ [x]).length cN] (by rfl) rfl rfl (by (try simp only [List.map_toArray, List.map_cons, List.map_nil]); first | done | rfl) ?_
        (with_reducible refine (HRT.out AN cN HNC.out _ (Kd.R_reads' HN.out).2.2).mono ?_)
        rintro e wz ⟨rfl, hB⟩
        refine ⟨_, rfl, ?_⟩
        have hS2 : Below W0.heap.size W0 wz := below_step hHeld hB
        clear hB hHeld HN
        refine hK.out _ _ hS2 (fun hHeld => ?_)
        clear hK K
        refine norm_ (a' := ?_) ?_ ?_
        rotate_left
        · show Act.put _ (some 48) _ = _
          simp only [Act.put, List.setIfInBounds_toArray, List.set_cons_zero, List.set_cons_succ, i64_w, i32_w]
          rfl
        refine pure_ (i := 13) (N := (some 49)) (v := ?_) (a' := ?_) #[true, true, true, true, true, true, true, true, true, true, true, true, true, true, false] rfl rfl (by kernel_rfl) (fun _ _ _ h => h) (Or.inl ⟨by rfl, ?_⟩) ?_ ?_
        rotate_left
        · intro w'
          go_simp
          first | done | with_reducible rfl
        rotate_left
        · simp only [Act.put, List.setIfInBounds_toArray, List.set_cons_zero, List.set_cons_succ, i64_w, i32_w]
          rfl
        refine pure_ (i := 14) (N := (some 4)) (v := ?_) (a' := ?_) #[true, true, true, true, true, true, true, true, true, true, true, true, true, true, true] rfl rfl (by kernel_rfl) (fun _ _ _ h => h) (Or.inl ⟨by rfl, ?_⟩) ?_ ?_
        rotate_left
        · intro w'
          go_simp
          first | done | with_reducible rfl
        rotate_left
        · simp only [Act.put, List.setIfInBounds_toArray, List.set_cons_zero, List.set_cons_succ, i64_w, i32_w]
          rfl
        refine done_ (by kernel_rfl) ?_
        rotate_left
        refine lit_step2 (by rfl) (N := 46) rfl [x] (by first | (go_simp; done) | (go_simp; rfl)) (by simp) ?_
        intro vY wz hrY hB
        have hS2 : Below W0.heap.size W0 wz := below_step hHeld hB
        (try (have HNE := Aside0.mk (ne_symm (ne_rows hrY HN.out)); have n_ := Aside0.mk (Kd.R_below HN.out hB); clear HN; have HN := n_; clear n_))
        obtain ⟨AY, cYY, rfl⟩ := Kd.R_slice hrY
        have HY := Aside0.mk (Kd.R_lower hrY hHeld.size)
        clear hB hHeld hrY
        refine hK.out _ _ hS2 (fun hHeld => ?_)
        clear hK K
        refine norm_ (a' := ?_) ?_ ?_
        rotate_left
        · show Act.put _ (some 46) _ = _
          simp only [Act.put, List.setIfInBounds_toArray, List.set_cons_zero, List.set_cons_succ, i64_w, i32_w]
          rfl
        refine two_ (i := 2) (j := 4) (Ni := (some 38)) (Nj := (some 40)) #[true, true, true, true, false, true, false, true, true, true, true, false, false, false, false] #[true, true, false, true, true, true, false, true, true, true, true, false, false, false, false] rfl rfl rfl rfl (by kernel_rfl) (by decide) (by decide) (fun K hK => ?_) (fun K hK => ?_)
        refine goes_ Try.func29 (by kernel_rfl) rfl #[.agg TV, .agg #[.int .i64 (T : Int), .slice A9 O2.length c9]] (by rfl) rfl rfl (by (try simp only [List.map_toArray, List.map_cons, List.map_nil]); first | done | rfl) ?_
        (with_reducible refine (HRB.out A9 c9 H9.out _ (Kd.C_below K9.out hHeld)).mono ?_)
        rintro e wz ⟨rfl, hB⟩
        refine ⟨_, rfl, ?_⟩
        have hS2 : Below W0.heap.size W0 wz := below_step hHeld hB
        (try (have n_ := Aside0.mk (Kd.R_below HN.out hB); clear HN; have HN := n_; clear n_))
        (try (have n_ := Aside0.mk (Kd.R_below HY.out hB); clear HY; have HY := n_; clear n_))
        clear hB hHeld
        refine hK.out _ _ hS2 (fun hHeld => ?_)
        clear hK K
        refine norm_ (a' := ?_) ?_ ?_
        rotate_left
        · show Act.put _ (some 38) _ = _
          simp only [Act.put, List.setIfInBounds_toArray, List.set_cons_zero, List.set_cons_succ, i64_w, i32_w]
          rfl
        refine one_ (i := 4) (N := (some 40)) #[true, true, true, true, true, true, false, true, true, true, true, false, false, false, false] rfl rfl (by kernel_rfl) (by decide) (fun K hK => ?_)
        refine lit_step2 (by rfl) (N := 40) rfl [] (by first | (go_simp; done) | (go_simp; rfl)) (by decide) ?_
        intro vN wz hrN hB
        have hS2 : Below W0.heap.size W0 wz := below_step hHeld hB
        (try (have HNE := Aside0.mk (ne_rows hrN HY.out); have n_ := Aside0.mk (Kd.R_below HY.out hB); clear HY; have HY := n_; clear n_))
        have HN := Aside0.mk (Kd.R_lower hrN hHeld.size)
        clear hB hHeld hrN
        refine hK.out _ _ hS2 (fun hHeld => ?_)
        clear hK K
        refine norm_ (a' := ?_) ?_ ?_
        rotate_left
        · show Act.put _ (some 40) _ = _
          simp only [Act.put, List.setIfInBounds_toArray, List.set_cons_zero, List.set_cons_succ, i64_w, i32_w]
          rfl
        refine one_ (i := 6) (N := (some 42)) #[true, true, true, true, true, true, true, true, true, true, true, false, false, false, false] rfl rfl (by kernel_rfl) (by decide) (fun K hK => ?_)
        refine app_step2 (W0 := W0) W0.heap.size (by rfl) (.tmp 40) (.tmp 41) rfl vN [] L A4 c4 rfl rfl HN.out (Kd.C_below K5.out hHeld) hHeld hHeld.size (by have := HLX.out; simp; omega) ?_
        intro vN2 wz hrN hb hg hat
        have hS2 : Below W0.heap.size W0 wz := hb
        (try (have m_ := Aside0.mk (ne_app HNE.out hat HY.out); have n_ := Aside0.mk (row_beside HY.out HNE.out hg); clear HNE HY; have HNE := m_; have HY := n_; clear m_ n_))
        clear HN
        rw [List.nil_append] at hrN
        have HN := Aside0.mk hrN
        clear hb hg hat hrN hHeld
        refine hK.out _ _ hS2 (fun hHeld => ?_)
        clear hK K
        refine norm_ (a' := ?_) ?_ ?_
        rotate_left
        · show Act.put _ (some 42) _ = _
          simp only [Act.put, List.setIfInBounds_toArray, List.set_cons_zero, List.set_cons_succ, i64_w, i32_w]
          rfl
        refine one_ (i := 11) (N := (some 47)) #[true, true, true, true, true, true, true, true, true, true, true, true, false, false, false] rfl rfl (by kernel_rfl) (by decide) (fun K hK => ?_)
        refine app_step2 (W0 := W0) W0.heap.size (by rfl) (.tmp 42) (.tmp 46) rfl _ L [x] AY cYY rfl rfl HN.out (Kd.R_reads' HY.out).2.2 hHeld hHeld.size (by have := HLX.out; simp; omega) ?_
        intro vN3 wz hrN hb hg hat
        have hS2 : Below W0.heap.size W0 wz := hb
        clear HN HY HNE
        obtain ⟨AN, cN, rfl, hN, _⟩ := Kd.R_reads hrN
        have HN := Aside0.mk hrN
        have HNC := Aside0.mk hN
        clear hb hg hat hrN hHeld hN
        refine hK.out _ _ hS2 (fun hHeld => ?_)
        clear hK K
        refine norm_ (a' := ?_) ?_ ?_
        rotate_left
        · show Act.put _ (some 47) _ = _
          simp only [Act.put, List.setIfInBounds_toArray, List.set_cons_zero, List.set_cons_succ, i64_w, i32_w]
          rfl
        refine one_ (i := 12) (N := (some 48)) #[true, true, true, true, true, true, true, true, true, true, true, true, true, false, false] rfl rfl (by kernel_rfl) (by decide) (fun K hK => ?_)
        refine goes_ Try.func30 (by kernel_rfl) rfl #[.agg TV, .slice AN (L ++ [x]).length cN] (by rfl) rfl rfl (by (try simp only [List.map_toArray, List.map_cons, List.map_nil]); first | done | rfl) ?_
        (with_reducible refine (HRT.out AN cN HNC.out _ (Kd.R_reads' HN.out).2.2).mono ?_)
        rintro e wz ⟨rfl, hB⟩
        refine ⟨_, rfl, ?_⟩
        have hS2 : Below W0.heap.size W0 wz := below_step hHeld hB
        clear hB hHeld HN
        refine hK.out _ _ hS2 (fun hHeld => ?_)
        clear hK K
        refine norm_ (a' := ?_) ?_ ?_
        rotate_left
        · show Act.put _ (some 48) _ = _
          simp only [Act.put, List.setIfInBounds_toArray, List.set_cons_zero, List.set_cons_succ, i64_w, i32_w]
          rfl
        refine pure_ (i := 13) (N := (some 49)) (v := ?_) (a' := ?_) #[true, true, true, true, true, true, true, true, true, true, true, true, true, true, false] rfl rfl (by kernel_rfl) (fun _ _ _ h => h) (Or.inl ⟨by rfl, ?_⟩) ?_ ?_
        rotate_left
        · intro w'
          go_simp
          first | done | with_reducible rfl
        rotate_left
        · simp only [Act.put, List.setIfInBounds_toArray, List.set_cons_zero, List.set_cons_succ, i64_w, i32_w]
          rfl
        refine pure_ (i := 14) (N := (some 4)) (v := ?_) (a' := ?_) #[true, true, true, true, true, true, true, true, true, true, true, true, true, true, true] rfl rfl (by kernel_rfl) (fun _ _ _ h => h) (Or.inl ⟨by rfl, ?_⟩) ?_ ?_
        rotate_left
        · intro w'
          go_simp
          first | done | with_reducible rfl
        rotate_left
        · simp only [Act.put, List.setIfInBounds_toArray, List.set_cons_zero, List.set_cons_succ, i64_w, i32_w]
          rfl
        refine done_ (by kernel_rfl) ?_
        rotate_left
        refine lit_step2 (by rfl) (N := 40) rfl [] (by first | (go_simp; done) | (go_simp; rfl)) (by decide) ?_
        intro vN wz hrN hB
        have hS2 : Below W0.heap.size W0 wz := below_step hHeld hB
        (try (have HNE := Aside0.mk (ne_rows hrN HY.out); have n_ := Aside0.mk (Kd.R_below HY.out hB); clear HY; have HY := n_; clear n_))
        have HN := Aside0.mk (Kd.R_lower hrN hHeld.size)
        clear hB hHeld hrN
        refine hK.out _ _ hS2 (fun hHeld => ?_)
        clear hK K
        refine norm_ (a' := ?_) ?_ ?_
        rotate_left
        · show Act.put _ (some 40) _ = _
          simp only [Act.put, List.setIfInBounds_toArray, List.set_cons_zero, List.set_cons_succ, i64_w, i32_w]
          rfl
        refine one_ (i := 2) (N := (some 38)) #[true, true, true, true, true, true, false, true, true, true, true, false, false, false, false] rfl rfl (by kernel_rfl) (by decide) (fun K hK => ?_)
        refine goes_ Try.func29 (by kernel_rfl) rfl #[.agg TV, .agg #[.int .i64 (T : Int), .slice A9 O2.length c9]] (by rfl) rfl rfl (by (try simp only [List.map_toArray, List.map_cons, List.map_nil]); first | done | rfl) ?_
        (with_reducible refine (HRB.out A9 c9 H9.out _ (Kd.C_below K9.out hHeld)).mono ?_)
        rintro e wz ⟨rfl, hB⟩
        refine ⟨_, rfl, ?_⟩
        have hS2 : Below W0.heap.size W0 wz := below_step hHeld hB
        (try (have n_ := Aside0.mk (Kd.R_below HN.out hB); clear HN; have HN := n_; clear n_))
        (try (have n_ := Aside0.mk (Kd.R_below HY.out hB); clear HY; have HY := n_; clear n_))
        clear hB hHeld
        refine hK.out _ _ hS2 (fun hHeld => ?_)
        clear hK K
        refine norm_ (a' := ?_) ?_ ?_
        rotate_left
        · show Act.put _ (some 38) _ = _
          simp only [Act.put, List.setIfInBounds_toArray, List.set_cons_zero, List.set_cons_succ, i64_w, i32_w]
          rfl
        refine one_ (i := 6) (N := (some 42)) #[true, true, true, true, true, true, true, true, true, true, true, false, false, false, false] rfl rfl (by kernel_rfl) (by decide) (fun K hK => ?_)
        refine app_step2 (W0 := W0) W0.heap.size (by rfl) (.tmp 40) (.tmp 41) rfl vN [] L A4 c4 rfl rfl HN.out (Kd.C_below K5.out hHeld) hHeld hHeld.size (by have := HLX.out; simp; omega) ?_
        intro vN2 wz hrN hb hg hat
        have hS2 : Below W0.heap.size W0 wz := hb
        (try (have m_ := Aside0.mk (ne_app HNE.out hat HY.out); have n_ := Aside0.mk (row_beside HY.out HNE.out hg); clear HNE HY; have HNE := m_; have HY := n_; clear m_ n_))
        clear HN
        rw [List.nil_append] at hrN
        have HN := Aside0.mk hrN
        clear hb hg hat hrN hHeld
        refine hK.out _ _ hS2 (fun hHeld => ?_)
        clear hK K
        refine norm_ (a' := ?_) ?_ ?_
        rotate_left
        · show Act.put _ (some 42) _ = _
          simp only [Act.put, List.setIfInBounds_toArray, List.set_cons_zero, List.set_cons_succ, i64_w, i32_w]
          rfl
        refine one_ (i := 11) (N := (some 47)) #[true, true, true, true, true, true, true, true, true, true, true, true, false, false, false] rfl rfl (by kernel_rfl) (by decide) (fun K hK => ?_)
        refine app_step2 (W0 := W0) W0.heap.size (by rfl) (.tmp 42) (.tmp 46) rfl _ L [x] AY cYY rfl rfl HN.out (Kd.R_reads' HY.out).2.2 hHeld hHeld.size (by have := HLX.out; simp; omega) ?_
        intro vN3 wz hrN hb hg hat
        have hS2 : Below W0.heap.size W0 wz := hb
        clear HN HY HNE
        obtain ⟨AN, cN, rfl, hN, _⟩ := Kd.R_reads hrN
        have HN := Aside0.mk hrN
        have HNC := Aside0.mk hN
        clear hb hg hat hrN hHeld hN
        refine hK.out _ _ hS2 (fun hHeld => ?_)
        clear hK K
        refine norm_ (a' := ?_) ?_ ?_
        rotate_left
        · show Act.put _ (some 47) _ = _
          simp only [Act.put, List.setIfInBounds_toArray, List.set_cons_zero, List.set_cons_succ, i64_w, i32_w]
          rfl
        refine one_ (i := 12) (N := (some 48)) #[true, true, true, true, true, true, true, true, true, true, true, true, true, false, false] rfl rfl (by kernel_rfl) (by decide) (fun K hK => ?_)
        refine goes_ Try.func30 (by kernel_rfl) rfl #[.agg TV, .slice AN (L ++ [x]).length cN] (by rfl) rfl rfl (by (try simp only [List.map_toArray, List.map_cons, List.map_nil]); first | done | rfl) ?_
        (with_reducible refine (HRT.out AN cN HNC.out _ (Kd.R_reads' HN.out).2.2).mono ?_)
        rintro e wz ⟨rfl, hB⟩
        refine ⟨_, rfl, ?_⟩
        have hS2 : Below W0.heap.size W0 wz := below_step hHeld hB
        clear hB hHeld HN
        refine hK.out _ _ hS2 (fun hHeld => ?_)
        clear hK K
        refine norm_ (a' := ?_) ?_ ?_
        rotate_left
        · show Act.put _ (some 48) _ = _
          simp only [Act.put, List.setIfInBounds_toArray, List.set_cons_zero, List.set_cons_succ, i64_w, i32_w]
          rfl
        refine pure_ (i := 13) (N := (some 49)) (v := ?_) (a' := ?_) #[true, true, true, true, true, true, true, true, true, true, true, true, true, true, false] rfl rfl (by kernel_rfl) (fun _ _ _ h => h) (Or.inl ⟨by rfl, ?_⟩) ?_ ?_
        rotate_left
        · intro w'
          go_simp
          first | done | with_reducible rfl
        rotate_left
        · simp only [Act.put, List.setIfInBounds_toArray, List.set_cons_zero, List.set_cons_succ, i64_w, i32_w]
          rfl
        refine pure_ (i := 14) (N := (some 4)) (v := ?_) (a' := ?_) #[true, true, true, true, true, true, true, true, true, true, true, true, true, true, true] rfl rfl (by kernel_rfl) (fun _ _ _ h => h) (Or.inl ⟨by rfl, ?_⟩) ?_ ?_
        rotate_left
        · intro w'
          go_simp
          first | done | with_reducible rfl
        rotate_left
        · simp only [Act.put, List.setIfInBounds_toArray, List.set_cons_zero, List.set_cons_succ, i64_w, i32_w]
          rfl
        refine done_ (by kernel_rfl) ?_
        all_goals
          have OB := (OE.out.step hHeld).below
          go_wp2_with fail
          go_ret
          exact ⟨rfl, OB⟩
    · have h60i : (60 : Int) < (leaf.size : Int) := by omega
      clear hb hr hc
      go_enter Try.func7, Try.ntmps7
      go_wp2_with (first
        | (go_at_call 19; (with_reducible refine (HAW.out _).mono ?_); rintro e w_ ⟨rfl, hB⟩; have n_ := Aside0.mk (OW.out.step hB); clear OW hB; have OW := n_; clear n_)
        | (go_at_call 15; (with_reducible refine (HF.out _ (Kd.C_below HR.out OW.out.below)).mono ?_); rintro e w_ ⟨rfl, rfl⟩))
      go_ret
      exact ⟨rfl, OW.out.below⟩
end Go.Proofs.Ytondnammkcgjpaa.RgL
namespace Go.Proofs.Ytondnammkcgjpaa.RgL
open Go Go.RowKit Go.Shelf Go.Proofs.YtondnammkcgjpaaW.PrintWords Go.Proofs.YtondnammkcgjpaaW.PrintLast Go.Proofs.YtondnammkcgjpaaW.PrintMore
open Go.Proofs.Ytondnammkcgjpaa.ShaP Go.Proofs.Ytondnammkcgjpaa.Mk Go.Proofs.Ytondnammkcgjpaa.Rg Go.Proofs.Ytondnammkcgjpaa.Rng Go.Proofs.Ytondnammkcgjpaa.Rf Go.Proofs.Ytondnammkcgjpaa.RgP
set_option linter.unusedVariables false
set_option linter.unusedSimpArgs false
section
variable {ops : Array Oper} {o : Oper} {rest : List Oper} {a : Act} {Q : Exit → Act → World → Prop} {W0 W : World}
/-- a list of texts written out -/
theorem lit_ev (hgd : o.guard = none) {N : Tmp} (hd : o.dst = some N) (xs : List ByteArray)
    (hrun : (execOp a.eval o).run Try.prog W = .ok (.value (.slice (some ⟨W.heap.size, 0, none⟩) xs.length xs.length)) (W.alloc (.cells (encs Value.string xs).toArray 9)))
    (hm : xs.length ≤ 1000000) (h : ∀ v1 w1, SR w1 W.heap.size v1 xs → Below W.heap.size W w1 → wpList Try.prog ops Q rest (a.put o.dst v1) w1) : wpList Try.prog ops Q (o :: rest) a W :=
  Kd.R_lit Kd.string (w0 := W) W.heap.size 9 hgd hd (xs := xs) (inner := encs Value.string xs) (ok := fun _ => True) (okp := fun _ => True) hrun (Kd.reps_scalar xs) (fun _ _ => trivial) trivial (Below.refl _ _) (Nat.le_refl _) (by omega) (fun v1 w1 h1 h2 _ _ => h v1 w1 h1 h2)
/-- texts appended to a row of the call's own -/
theorem app_ev (base : Nat) (hgd : o.guard = none) (s x : Operand) (ho : o.op = .call { callee := .builtin .append, args := #[s, x], argTypes := #[22, 22] })
    (v : Value) (xs ys : List ByteArray) (A : Option Addr) (c : Nat) (hs : a.eval s = v) (hx : a.eval x = .slice A ys.length c) (HO : SR W base v xs) (HR : Kd.C Kd.string W A ys.length ys) (HB : Below base W0 W) (hbase : base ≤ W.heap.size) (hl : xs.length + ys.length ≤ 1000000)
    (h : ∀ v1 w1, SR w1 base v1 (xs ++ ys) → Below base W0 w1 → wpList Try.prog ops Q rest (a.put o.dst v1) w1) : wpList Try.prog ops Q (o :: rest) a W :=
  Kd.R_append_rows (P := Try.prog) Kd.string (Rr := Kd.string.K W) (w0 := W0) base hgd s x 22 9 (.string ⟨#[]⟩) 16 ho Try.underlying22 info_str rfl (by decide) (by decide) v xs ys A ys.length c (fun _ => True) (fun _ => False) hs hx HO HR (fun _ _ h => h) (fun _ h => h.elim) (fun _ _ => trivial) HB hbase (by omega) (fun v1 w1 h1 h2 _ _ => h v1 w1 h1 h2)
end
theorem of_nil (w : World) : Calls Try.prog 21 #[.agg TV, .slice none 0 0] w fun e w' => ∃ A c, e = .returned (.agg #[.int .i64 0, .slice A 0 c]) ∧ SR w' w.heap.size (.slice A 0 c) [] ∧ Below w.heap.size w w' := by
  refine (of_c none 0 [] w (by simp) (fun s hs => by simp at hs) (Nat.le_refl _) (Kd.R_reads' (Kd.R_nil Kd.string 9 w w.heap.size (fun _ => True))).2.2).mono ?_
  rintro e w' ⟨v, rfl, hr, hB⟩
  have e0 : ofF ([] : List ByteArray) = [] := rfl
  rw [e0] at hr
  obtain ⟨A, c, e1⟩ := Kd.R_slice hr
  subst e1
  exact ⟨A, c, rfl, hr, hB⟩
set_option maxRecDepth 100000 in
set_option maxHeartbeats 8000000 in
theorem law_adds (A : Option Addr) (c : Nat) (l : List ByteArray) (w : World) (hc : l.length ≤ c) (hr : Kd.C Kd.string w A l.length l) :
    Calls Try.prog 6 #[.slice A l.length c] w fun e w' => e = .returned (.bool true) ∧ Below w.heap.size w w' := by
  have OW := Aside0.mk (Mem.Own.nil w)
  have HI := Aside0.mk info_tab
  have HR := Aside0.mk hr
  have HAW := Aside0.mk awake6_c
  have HF := Aside0.mk (fun W h => few64 A c l W h)
  cases hb : fewB l 64 60 with
  | false =>
    rw [hb] at HF
    clear hb hr hc
    go_enter Try.func6, Try.ntmps6
    go_wp2_with (first
      | (go_at_call 19; (with_reducible refine (HAW.out _).mono ?_); rintro e w_ ⟨rfl, hB⟩; have n_ := Aside0.mk (OW.out.step hB); clear OW hB; have OW := n_; clear n_)
      | (go_at_call 15; (with_reducible refine (HF.out _ (Kd.C_below HR.out OW.out.below)).mono ?_); rintro e w_ ⟨rfl, rfl⟩))
    go_ret
    exact ⟨rfl, OW.out.below⟩
  | true =>
    rw [hb] at HF
    obtain ⟨hl, hs⟩ := few_yes hb (by omega)
    have hll := leaves_len l
    have h32 := leaves_32 l
    have HLV := Aside0.mk (fun W h => leaves_c A c l W (by omega) (fun s hs2 => Nat.le_trans (hs s hs2) (by omega)) h)
    generalize leavesF l = L at *
    have hL : L.length ≤ 64 := by omega
    have H32 := Aside0.mk h32
    have hRR := rootR_of L (by omega)
    have hO32 := ofF_32 L h32 (by omega)
    have hOL := ofF_size L
    have HRT := Aside0.mk (fun (A4 : Option Addr) (c4 : Nat) (h4 : L.length ≤ c4) (W : World) h => root_c 100000 A4 c4 L W (by omega) (by omega) h32.sm h4 h)
    have hfold : rootN 100000 L = rootF L := rfl
    rw [hfold] at HRT
    have HRB := Aside0.mk (fun (A4 : Option Addr) (c4 : Nat) (h4 : (ofF L).length ≤ c4) (W : World) h => rroot_any (L.length : Int) A4 c4 (ofF L) W (by omega) hO32.sm h4 h)
    rw [hRR] at HRB
    clear hb hr hc hl hs hll h32 hO32 hOL hRR hfold
    go_enter Try.func6, Try.ntmps6
    go_wp2_with (first
      | (go_at_call 19; (with_reducible refine (HAW.out _).mono ?_); rintro e wz ⟨rfl, hB⟩; have n_ := Aside0.mk (OW.out.step hB); clear OW hB; have OW := n_; clear n_)
      | (go_at_call 15; (with_reducible refine (HF.out _ (Kd.C_below HR.out OW.out.below)).mono ?_); rintro e wz ⟨rfl, rfl⟩)
      | (go_at_call 16; (with_reducible refine (make_c _).mono ?_); rintro e wz ⟨rfl, hB⟩; have n_ := Aside0.mk (OW.out.step hB); clear OW hB; have OW := n_; clear n_)
      | ((with_reducible refine gate_dst (N := 3) rfl ?_); refine tab_event (N := 3) rfl rfl rfl rfl rfl rfl (fun _ => rfl) (fun _ => rfl) ?_; intro gT hg wz hb hbb; have n_ : Aside0 (Mem.Own w (wz) [(gT, TV, 31)]) := ⟨OW.out.new hg hb hbb⟩; clear OW hb hbb hg; have OW := n_; clear n_)
      | (go_at_call 17; (with_reducible refine (HLV.out _ (Kd.C_below HR.out OW.out.below)).mono ?_); rintro e wz ⟨v4, rfl, hr4, hB⟩; obtain ⟨A4, c4, rfl, h4, _⟩ := Kd.R_reads hr4; have HC4 := Aside0.mk (Kd.R_lower hr4 OW.out.size); have H4 := Aside0.mk h4; have n_ := Aside0.mk (OW.out.step hB); clear OW hB hr4 h4; have OW := n_; clear n_)
      | ((with_reducible refine gate_dst (N := 20) rfl ?_); refine wpList_load_row rfl 31 (.tmp 3) rfl gT rfl 31 TV (0, 0) _ (OW.out.blk 0 rfl) Try.underlying31 rfl HI.out ?_)
      | (go_at_call 21; (with_reducible refine (of_nil _).mono ?_); rintro e wz ⟨A5, c5, rfl, hr5, hB⟩; have HC5 := Aside0.mk (Kd.R_lower hr5 OW.out.size); have n_ := Aside0.mk (OW.out.step hB); have m_ := Aside0.mk (Kd.R_below HC4.out hB); clear OW hB hr5 HC4; have OW := n_; have HC4 := m_; clear n_ m_)
      | ((with_reducible refine gate_dst (N := 5) rfl ?_); refine box_event ?hg (N := 5) ?hd (cs := #[.int .i64 0, .slice none 0 0]) (t := 41) ?hr ?_; (case hd => rfl); (case hg => rfl); (case hr => first | (go_simp; done) | (go_simp; rfl)); intro gX hg W_ hb hbb; have x0 := (blk_cell hb 0).trans rfl; have x1 := (blk_cell hb 1).trans rfl; have y0 := blk_frozen hb 0; have y1 := blk_frozen hb 1; have m4 := Aside0.mk (Kd.R_below HC4.out hbb); have m5 := Aside0.mk (Kd.R_below HC5.out hbb); clear HC4 HC5; have HC4 := m4; have HC5 := m5; clear m4 m5; have n_ : Aside0 (Mem.Own w W_ [(gT, TV, 31), (gX, #[.int .i64 0, .slice none 0 0], 41)]) := ⟨OW.out.new hg hb hbb⟩; clear OW hb hbb hg; have OW := n_; clear n_))
    go_loopw [6, 7, 8] (fun v6 _ _ wr => ∃ (k : Nat) (A9 : Option Addr) (c9 : Nat), v6 = .int .i64 k ∧ k ≤ L.length ∧ Aside0 (Mem.Own w (wr) [(gT, TV, 31), (gX, #[.int .i64 (k : Int), .slice A9 (ofF (L.take k)).length c9], 41)]) ∧ Aside0 (SR wr w.heap.size (.slice A4 L.length c4) L) ∧ Aside0 (SR wr w.heap.size (.slice A9 (ofF (L.take k)).length c9) (ofF (L.take k)))) (fun v6 _ _ _ => L.length - (intOf v6).toNat)
    case atStart =>
      have O2 := (OW.out.put 1 rfl 0 (.int .i64 0) rfl).put 1 rfl 1 (.slice A5 0 c5) rfl
      have S4 := Kd.R_set (Kd.R_set HC4.out (OW.out.blk 1 rfl) (by decide) 0 (.int .i64 0)) ((OW.out.put 1 rfl 0 (.int .i64 0) rfl).blk 1 rfl) (by decide) 1 (.slice A5 0 c5)
      have S5 := Kd.R_set (Kd.R_set HC5.out (OW.out.blk 1 rfl) (by decide) 0 (.int .i64 0)) ((OW.out.put 1 rfl 0 (.int .i64 0) rfl).blk 1 rfl) (by decide) 1 (.slice A5 0 c5)
      exact ⟨0, A5, c5, rfl, Nat.zero_le _, ⟨O2⟩, ⟨S4⟩, ⟨S5⟩⟩
    case round =>
      clear OW HC4 HC5 x0 x1 y0 y1
      obtain ⟨k, A9, c9, rfl, hk, OW, HC4, HC9⟩ := hrel
      by_cases h1 : k < L.length
      · have h1i : (k : Int) < (L.length : Int) := by omega
        obtain ⟨k1, hk1⟩ : ∃ k1, k1 = k + 1 := ⟨_, rfl⟩
        have htk : L.take k1 = L.take k ++ [L[k]] := by rw [hk1]; exact List.take_succ_eq_append_getElem h1
        have hlt : (L.take k).length = k := by rw [List.length_take]; omega
        have hx32 : L[k].size = 32 := H32.out _ (List.getElem_mem h1)
        have hT32 : A32 (L.take k) := fun s hs => H32.out s (List.mem_of_mem_take hs)
        have hT232 : A32 (L.take k1) := fun s hs => H32.out s (List.mem_of_mem_take hs)
        have hlt2 : (L.take k1).length = k1 := by rw [List.length_take]; omega
        have hg1 := grow_one (L.take k) L[k] (by omega)
        rw [hlt, ← htk] at hg1
        obtain ⟨ad, e, _⟩ := Kd.at_string (Kd.R_reads' HC4.out).2.2 (k : Int) (by omega) h1i
        cases e
        have HAT := Aside0.mk (fun W (h : Kd.C Kd.string W (some ad) L.length L) => by
          obtain ⟨ad2, e2, hx⟩ := Kd.at_string h (k : Int) (by omega) h1i
          cases e2
          rw [rdOf_at L k h1] at hx
          rw [Int.toNat_natCast] at hx
          exact (hx : W.cell? (ad.add k) = some (.string L[k])))
        obtain ⟨hcut, hC2, hc2⟩ := cut_take (some ad) c4 L k1 (by omega) H4.out
        have HCC := Aside0.mk hC2
        have hHc2 := Aside0.mk hc2
        have hO := ofF_size (L.take k)
        have hOs := ofF_32 (L.take k) hT32 (by omega)
        have hO2 := ofF_size (L.take k1)
        generalize L[k] = x at *
        have HRO := Aside0.mk (fun (W : World) h => rfof_c (some ad) c4 (L.take k1) W (by omega) hT232.sm hc2 h)
        obtain ⟨T2, hT2e⟩ : ∃ T2, L.take k1 = T2 := ⟨_, rfl⟩
        rw [hT2e] at htk hT232 hlt2 hcut hC2 hc2 HCC hHc2 hO2 HRO hg1
        generalize L.take k = T at *
        have HAD := Aside0.mk (fun (A5 : Option Addr) (c5 : Nat) (h5 : (ofF T).length ≤ c5) (W : World) h => add_c k A5 c5 (ofF T) x (ofF T2) W hg1 (by omega) (by omega) hOs.sm (by omega) h5 h)
        have hlt3 := hlt2
        clear hlt2
        rw [hlt3] at HRO
        rw [hlt3] at HCC
        rw [hlt3] at hcut
        generalize ofF T = O at *
        obtain ⟨O2, hO2e⟩ : ∃ O2, ofF T2 = O2 := ⟨_, rfl⟩
        rw [hO2e] at HRO HAD hO2
        have HE : Aside0 (ofF (L.take k1) = O2) := ⟨by rw [hT2e]; exact hO2e⟩
        have HSM := Aside0.mk (fun (A6 A7 : Option Addr) (c6 c7 : Nat) (W : World) h h2 => same_c A6 A7 c6 c7 O O W h h2)
        have HSN := Aside0.mk (fun (A6 A7 : Option Addr) (c6 c7 : Nat) (W : World) h h2 => same_c A6 A7 c6 c7 O2 O2 W h h2)
        have hdec : decide (O = O) = true := decide_eq_true rfl
        have hdec2 : decide (O2 = O2) = true := decide_eq_true rfl
        rw [hdec] at HSM
        rw [hdec2] at HSN
        obtain ⟨A9, c9', e9, h9, _⟩ := Kd.R_reads HC9.out
        cases e9
        have H9 := Aside0.mk h9
        have HOL := Aside0.mk hO
        rw [← hk1] at HAD
        have hkn : ((k : Int) + 1) = (k1 : Int) := by omega
        have hwk : wrap64 (k1 : Int) = (k1 : Int) := by unfold wrap64; omega
        have HK1 := Aside0.mk hk1
        clear hT2e hO2e hlt3 hk1 hdec hdec2 h9 htk hlt hx32 hT32 hT232 hg1 hC2 hc2 hO hOs hO2
        have cx1 := (OW.out.cell 1 rfl 1).trans rfl
        go_wp2_with (first
          | ((with_reducible refine gate_dst (N := 28) rfl ?_); refine lit_ev rfl (N := 28) rfl [] (by first | (go_simp; done) | (go_simp; rfl)) (by simp) ?_; intro vN wz hrN hB; have cz1 := pw_cell_below hB cx1; clear cx1)
          | ((with_reducible refine gate_builtin (b := .append) (xs := #[.tmp 28, .tmp 30]) rfl ?_); at_builtin; refine app_ev (W0 := wr) wr.heap.size rfl (.tmp 28) (.tmp 30) rfl vN [] O A9 c9 rfl rfl hrN (Kd.C_below (Kd.R_reads' HC9.out).2.2 hB) hB hB.size (by have := HOL.out; simp; omega) ?_; intro v7 wy hr7 hb7; rw [List.nil_append] at hr7; obtain ⟨A7, c7, rfl, _, hC7⟩ := Kd.R_reads hr7; have HC7 := Aside0.mk hC7; have n_ := Aside0.mk (OW.out.step hb7); have n4 := Aside0.mk (Kd.R_below HC4.out hb7); have n9 := Aside0.mk (Kd.R_below HC9.out hb7); clear OW HC4 HC9 hrN hB hr7 hb7 hC7 cz1; have OW := n_; have HC4 := n4; have HC9 := n9; clear n_ n4 n9))
        have OD := Aside0.mk OW.out.drew
        have K4 := Aside0.mk (Kd.R_drew HC4.out)
        have K9 := Aside0.mk (Kd.R_drew HC9.out)
        have K7 := Aside0.mk (Kd.C_drew HC7.out)
        have cX0 : wy.drew.cell? ⟨gX, 0, none⟩ = some (.int .i64 (k : Int)) := (OD.out.cell 1 rfl 0).trans rfl
        have cX1 : wy.drew.cell? ⟨gX, 1, none⟩ = some (.slice A9 O.length c9) := (OD.out.cell 1 rfl 1).trans rfl
        have cL : wy.drew.cell? (ad.add k) = some (.string x) := HAT.out _ (Kd.R_reads' K4.out).2.2
        clear OW HC4 HC9 HC7
        refine start_ (n := 9) (S := fun w' => Below (wy).drew.heap.size (wy).drew w') (ds := []) #[false, false, false, false, false, false, false, false, false] (by kernel_rfl) rfl rfl (Below.refl _ _) (fun hHeld => ?_)
        generalize (wy).drew = W0 at *
        refine take_ (i := 0) (N := (some 32)) (a' := ?_) #[true, false, false, false, false, false, false, false, false] rfl rfl (by kernel_rfl) (fun _ _ _ h => h) (yields_tab (by rfl) (.tmp 3) rfl gT rfl (fun w' hS => hS) (OD.out.blk 0 rfl)) hHeld ?_ ?_
        rotate_left
        · simp only [Act.put, List.setIfInBounds_toArray, List.set_cons_zero, List.set_cons_succ, i64_w, i32_w]
          rfl
        refine take_ (i := 1) (N := (some 33)) (v := ?_) (a' := ?_) #[true, true, false, false, false, false, false, false, false] rfl rfl (by kernel_rfl) (fun _ _ _ h => h) (Or.inl ⟨by rfl, ?_⟩) hHeld ?_ ?_
        rotate_left
        · intro w' hS
          have s0 := pw_cell_below hS cX0
          have s1 := pw_cell_below hS cX1
          go_simp
          first | done | with_reducible rfl
        rotate_left
        · simp only [Act.put, List.setIfInBounds_toArray, List.set_cons_zero, List.set_cons_succ, i64_w, i32_w]
          rfl
        refine pure_ (i := 2) (N := (some 34)) (v := ?_) (a' := ?_) #[true, true, true, false, false, false, false, false, false] rfl rfl (by kernel_rfl) (fun _ _ _ h => h) (Or.inl ⟨by rfl, ?_⟩) ?_ ?_
        rotate_left
        · intro w'
          go_simp
          first | done | with_reducible rfl
        rotate_left
        · simp only [Act.put, List.setIfInBounds_toArray, List.set_cons_zero, List.set_cons_succ, i64_w, i32_w]
          rfl
        refine pure_ (i := 3) (N := (some 35)) (v := ?_) (a' := ?_) #[true, true, true, true, false, false, false, false, false] rfl rfl (by kernel_rfl) (fun _ _ _ h => h) (Or.inl ⟨by rfl, ?_⟩) ?_ ?_
        rotate_left
        · intro w'
          go_simp
          first | done | with_reducible rfl
        rotate_left
        · simp only [Act.put, List.setIfInBounds_toArray, List.set_cons_zero, List.set_cons_succ, i64_w, i32_w]
          rfl
        refine pure_ (i := 4) (N := (some 36)) (v := ?_) (a' := ?_) #[true, true, true, true, true, false, false, false, false] rfl rfl (by kernel_rfl) (fun _ _ _ h => h) (Or.inl ⟨by rfl, ?_⟩) ?_ ?_
        rotate_left
        · intro w'
          go_simp
          first | done | with_reducible rfl
        rotate_left
        · simp only [Act.put, List.setIfInBounds_toArray, List.set_cons_zero, List.set_cons_succ, i64_w, i32_w]
          rfl
        refine take_ (i := 5) (N := (some 37)) (v := ?_) (a' := ?_) #[true, true, true, true, true, true, false, false, false] rfl rfl (by kernel_rfl) (fun _ _ _ h => h) (Or.inl ⟨by rfl, ?_⟩) hHeld ?_ ?_
        rotate_left
        · intro w' hS
          have s0 := pw_cell_below hS cL
          go_simp
          first | done | with_reducible rfl
        rotate_left
        · simp only [Act.put, List.setIfInBounds_toArray, List.set_cons_zero, List.set_cons_succ, i64_w, i32_w]
          rfl
        refine two_ (i := 6) (j := 7) (Ni := (some 38)) (Nj := (some 8)) #[true, true, true, true, true, true, true, false, false] #[true, true, true, true, true, true, false, true, false] rfl rfl rfl rfl (by kernel_rfl) (by decide) (by decide) (fun K hK => ?_) (fun K hK => ?_)
        refine goes_ Try.func28 (by kernel_rfl) rfl #[.agg TV, .agg #[.int .i64 (k : Int), .slice A9 O.length c9], .string x] (by rfl) rfl rfl (by (try simp only [List.map_toArray, List.map_cons, List.map_nil]); first | done | rfl) ?_
        (with_reducible refine (HAD.out A9 c9 H9.out _ (Kd.C_below (Kd.R_reads' K9.out).2.2 hHeld)).mono ?_)
        rintro e wz ⟨v9, rfl, hr9, hB⟩
        refine ⟨_, rfl, ?_⟩
        have hS2 : Below W0.heap.size W0 wz := below_step hHeld hB
        obtain ⟨A8, c8, rfl, _⟩ := Kd.R_reads hr9
        have HV := Aside0.mk (Kd.R_lower hr9 (Nat.le_trans OD.out.size hHeld.size))
        (try (have n_ := Aside0.mk (blk_below HBX.out hB); clear HBX; have HBX := n_; clear n_))
        clear hr9 hB hHeld
        refine hK.out _ _ hS2 (fun hHeld => ?_)
        clear hK K
        refine norm_ (a' := ?_) ?_ ?_
        rotate_left
        · show Act.put _ (some 38) _ = _
          simp only [Act.put, List.setIfInBounds_toArray, List.set_cons_zero, List.set_cons_succ, i64_w, i32_w]
          rfl
        refine one_ (i := 7) (N := (some 8)) #[true, true, true, true, true, true, true, true, false] rfl rfl (by kernel_rfl) (by decide) (fun K hK => ?_)
        refine box_step (by rfl) (N := 8) rfl (cs := #[.int .i64 0, .slice none 0 0]) (t := 41) (by first | (go_simp; done) | (go_simp; rfl)) ?_
        intro gR hg wz hb hbb
        have hS2 : Below W0.heap.size W0 wz := below_step hHeld hbb
        have HBX := Aside0.mk hb
        have HGE : Aside0 (W0.heap.size ≤ gR) := ⟨by rw [hg]; exact hHeld.size⟩
        (try (have n_ := Aside0.mk (Kd.R_below HV.out hbb); clear HV; have HV := n_; clear n_))
        clear hb hbb hg hHeld
        refine hK.out _ _ hS2 (fun hHeld => ?_)
        clear hK K
        refine norm_ (a' := ?_) ?_ ?_
        rotate_left
        · show Act.put _ (some 8) _ = _
          simp only [Act.put, List.setIfInBounds_toArray, List.set_cons_zero, List.set_cons_succ, i64_w, i32_w]
          rfl
        refine one_ (i := 8) (N := none) #[true, true, true, true, true, true, true, true, true] rfl rfl (by kernel_rfl) (by decide) (fun K hK => ?_)
        have z0 := (blk_cell HBX.out 0).trans rfl
        have z1 := (blk_cell HBX.out 1).trans rfl
        have y0 := blk_frozen HBX.out 0
        have y1 := blk_frozen HBX.out 1
        refine skip_ (by rfl) rfl (by first | (go_simp; done) | (go_simp; rfl)) ?_
        have hS2 : Below W0.heap.size W0 ((wz.setCell ⟨gR, 0, none⟩ (.int .i64 (k1 : Int))).setCell ⟨gR, 1, none⟩ (.slice A8 O2.length c8)) := (hHeld.setCell (p := ⟨gR, 0, none⟩) HGE.out _).setCell (p := ⟨gR, 1, none⟩) HGE.out _
        have B1 := blk_put HBX.out 0 (.int .i64 (k1 : Int)) rfl
        have BX := Aside0.mk (blk_put B1 1 (.slice A8 O2.length c8) rfl)
        have HV2 := Aside0.mk (Kd.R_set (Kd.R_set HV.out HBX.out (by decide) 0 (.int .i64 (k1 : Int))) B1 (by decide) 1 (.slice A8 O2.length c8))
        clear HBX HV z0 z1 y0 y1 B1 hHeld
        refine hK.out _ _ hS2 (fun hHeld => ?_)
        clear hK K
        refine done_ (by kernel_rfl) ?_
        rotate_left
        refine box_step (by rfl) (N := 8) rfl (cs := #[.int .i64 0, .slice none 0 0]) (t := 41) (by first | (go_simp; done) | (go_simp; rfl)) ?_
        intro gR hg wz hb hbb
        have hS2 : Below W0.heap.size W0 wz := below_step hHeld hbb
        have HBX := Aside0.mk hb
        have HGE : Aside0 (W0.heap.size ≤ gR) := ⟨by rw [hg]; exact hHeld.size⟩
        (try (have n_ := Aside0.mk (Kd.R_below HV.out hbb); clear HV; have HV := n_; clear n_))
        clear hb hbb hg hHeld
        refine hK.out _ _ hS2 (fun hHeld => ?_)
        clear hK K
        refine norm_ (a' := ?_) ?_ ?_
        rotate_left
        · show Act.put _ (some 8) _ = _
          simp only [Act.put, List.setIfInBounds_toArray, List.set_cons_zero, List.set_cons_succ, i64_w, i32_w]
          rfl
        refine one_ (i := 6) (N := (some 38)) #[true, true, true, true, true, true, true, true, false] rfl rfl (by kernel_rfl) (by decide) (fun K hK => ?_)
        refine goes_ Try.func28 (by kernel_rfl) rfl #[.agg TV, .agg #[.int .i64 (k : Int), .slice A9 O.length c9], .string x] (by rfl) rfl rfl (by (try simp only [List.map_toArray, List.map_cons, List.map_nil]); first | done | rfl) ?_
        (with_reducible refine (HAD.out A9 c9 H9.out _ (Kd.C_below (Kd.R_reads' K9.out).2.2 hHeld)).mono ?_)
        rintro e wz ⟨v9, rfl, hr9, hB⟩
        refine ⟨_, rfl, ?_⟩
        have hS2 : Below W0.heap.size W0 wz := below_step hHeld hB
        obtain ⟨A8, c8, rfl, _⟩ := Kd.R_reads hr9
        have HV := Aside0.mk (Kd.R_lower hr9 (Nat.le_trans OD.out.size hHeld.size))
        (try (have n_ := Aside0.mk (blk_below HBX.out hB); clear HBX; have HBX := n_; clear n_))
        clear hr9 hB hHeld
        refine hK.out _ _ hS2 (fun hHeld => ?_)
        clear hK K
        refine norm_ (a' := ?_) ?_ ?_
        rotate_left
        · show Act.put _ (some 38) _ = _
          simp only [Act.put, List.setIfInBounds_toArray, List.set_cons_zero, List.set_cons_succ, i64_w, i32_w]
          rfl
        refine one_ (i := 8) (N := none) #[true, true, true, true, true, true, true, true, true] rfl rfl (by kernel_rfl) (by decide) (fun K hK => ?_)
        have z0 := (blk_cell HBX.out 0).trans rfl
        have z1 := (blk_cell HBX.out 1).trans rfl
        have y0 := blk_frozen HBX.out 0
        have y1 := blk_frozen HBX.out 1
        refine skip_ (by rfl) rfl (by first | (go_simp; done) | (go_simp; rfl)) ?_
        have hS2 : Below W0.heap.size W0 ((wz.setCell ⟨gR, 0, none⟩ (.int .i64 (k1 : Int))).setCell ⟨gR, 1, none⟩ (.slice A8 O2.length c8)) := (hHeld.setCell (p := ⟨gR, 0, none⟩) HGE.out _).setCell (p := ⟨gR, 1, none⟩) HGE.out _
        have B1 := blk_put HBX.out 0 (.int .i64 (k1 : Int)) rfl
        have BX := Aside0.mk (blk_put B1 1 (.slice A8 O2.length c8) rfl)
        have HV2 := Aside0.mk (Kd.R_set (Kd.R_set HV.out HBX.out (by decide) 0 (.int .i64 (k1 : Int))) B1 (by decide) 1 (.slice A8 O2.length c8))
        clear HBX HV z0 z1 y0 y1 B1 hHeld
        refine hK.out _ _ hS2 (fun hHeld => ?_)
        clear hK K
        refine done_ (by kernel_rfl) ?_
        all_goals
          generalize (wz.setCell ⟨gR, 0, none⟩ (.int .i64 (k1 : Int))).setCell ⟨gR, 1, none⟩ (.slice A8 O2.length c8) = wx at *
          have OE := Aside0.mk (OD.out.step hHeld).drew
          have K4' := Aside0.mk (Kd.R_drew (Kd.R_below K4.out hHeld))
          have K9' := Aside0.mk (Kd.R_drew (Kd.R_below K9.out hHeld))
          have K7' := Aside0.mk (Kd.C_drew (Kd.C_below K7.out hHeld))
          have K8 := Aside0.mk (Kd.R_drew HV2.out)
          have cX1' : wx.drew.cell? ⟨gX, 1, none⟩ = some (.slice A9 O.length c9) := (OE.out.cell 1 rfl 1).trans rfl
          have cR0 : wx.drew.cell? ⟨gR, 0, none⟩ = some (.int .i64 (k1 : Int)) := (blk_cell BX.out 0).trans rfl
          have cR1 : wx.drew.cell? ⟨gR, 1, none⟩ = some (.slice A8 O2.length c8) := (blk_cell BX.out 1).trans rfl
          clear hHeld OD K4 K9 K7 HV2 cX0 cX1 cL BX HGE
          go_wp2_with fail
          refine start_ (n := 23) (S := fun w' => Below (wx).drew.heap.size (wx).drew w') (ds := []) #[false, false, false, false, false, false, false, false, false, false, false, false, false, false, false, false, false, false, false, false, false, false, false] (by kernel_rfl) rfl rfl (Below.refl _ _) (fun hHeld => ?_)
          generalize (wx).drew = W0 at *
          refine pure_ (i := 0) (N := (some 39)) (v := ?_) (a' := ?_) #[true, false, false, false, false, false, false, false, false, false, false, false, false, false, false, false, false, false, false, false, false, false, false] rfl rfl (by kernel_rfl) (fun _ _ _ h => h) (Or.inl ⟨by rfl, ?_⟩) ?_ ?_
          rotate_left
          · intro w'
            go_simp
            first | done | with_reducible rfl
          rotate_left
          · simp only [Act.put, List.setIfInBounds_toArray, List.set_cons_zero, List.set_cons_succ, i64_w, i32_w]
            rfl
          refine take_ (i := 1) (N := (some 40)) (v := ?_) (a' := ?_) #[true, true, false, false, false, false, false, false, false, false, false, false, false, false, false, false, false, false, false, false, false, false, false] rfl rfl (by kernel_rfl) (fun _ _ _ h => h) (Or.inl ⟨by rfl, ?_⟩) hHeld ?_ ?_
          rotate_left
          · intro w' hS
            have s0 := pw_cell_below hS cX1'
            go_simp
            first | done | with_reducible rfl
          rotate_left
          · simp only [Act.put, List.setIfInBounds_toArray, List.set_cons_zero, List.set_cons_succ, i64_w, i32_w]
            rfl
          refine pure_ (i := 2) (N := (some 41)) (v := ?_) (a' := ?_) #[true, true, true, false, false, false, false, false, false, false, false, false, false, false, false, false, false, false, false, false, false, false, false] rfl rfl (by kernel_rfl) (fun _ _ _ h => h) (Or.inl ⟨by rfl, ?_⟩) ?_ ?_
          rotate_left
          · intro w'
            go_simp
            first | done | with_reducible rfl
          rotate_left
          · simp only [Act.put, List.setIfInBounds_toArray, List.set_cons_zero, List.set_cons_succ, i64_w, i32_w]
            rfl
          refine one_ (i := 3) (N := (some 42)) #[true, true, true, true, false, false, false, false, false, false, false, false, false, false, false, false, false, false, false, false, false, false, false] rfl rfl (by kernel_rfl) (by decide) (fun K hK => ?_)
          refine goes_ Try.func23 (by kernel_rfl) rfl #[.slice A9 O.length c9, .slice A7 O.length c7] (by rfl) rfl rfl (by (try simp only [List.map_toArray, List.map_cons, List.map_nil]); first | done | rfl) ?_
          (with_reducible refine (HSM.out A9 A7 c9 c7 _ (Kd.C_below (Kd.R_reads' K9'.out).2.2 hHeld) (Kd.C_below K7'.out hHeld)).mono ?_)
          rintro e wz ⟨rfl, hB⟩
          refine ⟨_, rfl, ?_⟩
          have hS2 : Below W0.heap.size W0 wz := below_step hHeld hB
          clear hB hHeld
          refine hK.out _ _ hS2 (fun hHeld => ?_)
          clear hK K
          refine norm_ (a' := ?_) ?_ ?_
          rotate_left
          · show Act.put _ (some 42) _ = _
            simp only [Act.put, List.setIfInBounds_toArray, List.set_cons_zero, List.set_cons_succ, i64_w, i32_w]
            rfl
          refine pure_ (i := 4) (N := (some 43)) (v := ?_) (a' := ?_) #[true, true, true, true, true, false, false, false, false, false, false, false, false, false, false, false, false, false, false, false, false, false, false] rfl rfl (by kernel_rfl) (fun _ _ _ h => h) (Or.inl ⟨by rfl, ?_⟩) ?_ ?_
          rotate_left
          · intro w'
            go_simp
            first | done | with_reducible rfl
          rotate_left
          · simp only [Act.put, List.setIfInBounds_toArray, List.set_cons_zero, List.set_cons_succ, i64_w, i32_w]
            rfl
          refine pure_ (i := 5) (N := (some 44)) (v := ?_) (a' := ?_) #[true, true, true, true, true, true, false, false, false, false, false, false, false, false, false, false, false, false, false, false, false, false, false] rfl rfl (by kernel_rfl) (fun _ _ _ h => h) (Or.inl ⟨by rfl, ?_⟩) ?_ ?_
          rotate_left
          · intro w'
            go_simp
            first | done | with_reducible rfl
          rotate_left
          · simp only [Act.put, List.setIfInBounds_toArray, List.set_cons_zero, List.set_cons_succ, i64_w, i32_w]
            rfl
          refine pure_ (i := 6) (N := (some 45)) (v := ?_) (a' := ?_) #[true, true, true, true, true, true, true, false, false, false, false, false, false, false, false, false, false, false, false, false, false, false, false] rfl rfl (by kernel_rfl) (fun _ _ _ h => h) (Or.inl ⟨by rfl, ?_⟩) ?_ ?_
          rotate_left
          · intro w'
            go_simp
            first | done | with_reducible rfl
          rotate_left
          · simp only [Act.put, List.setIfInBounds_toArray, List.set_cons_zero, List.set_cons_succ, i64_w, i32_w]
            rfl
          refine take_ (i := 7) (N := (some 46)) (v := ?_) (a' := ?_) #[true, true, true, true, true, true, true, true, false, false, false, false, false, false, false, false, false, false, false, false, false, false, false] rfl rfl (by kernel_rfl) (fun _ _ _ h => h) (Or.inl ⟨by rfl, ?_⟩) hHeld ?_ ?_
          rotate_left
          · intro w' hS
            have s0 := pw_cell_below hS cR0
            go_simp
            first | done | with_reducible rfl
          rotate_left
          · simp only [Act.put, List.setIfInBounds_toArray, List.set_cons_zero, List.set_cons_succ, i64_w, i32_w]
            rfl
          refine pure_ (i := 8) (N := (some 47)) (v := ?_) (a' := ?_) #[true, true, true, true, true, true, true, true, true, false, false, false, false, false, false, false, false, false, false, false, false, false, false] rfl rfl (by kernel_rfl) (fun _ _ _ h => h) (Or.inl ⟨by rfl, ?_⟩) ?_ ?_
          rotate_left
          · intro w'
            go_simp
            first | done | with_reducible rfl
          rotate_left
          · simp only [Act.put, List.setIfInBounds_toArray, List.set_cons_zero, List.set_cons_succ, i64_w, i32_w]
            rfl
          refine pure_ (i := 9) (N := (some 48)) (v := ?_) (a' := ?_) #[true, true, true, true, true, true, true, true, true, true, false, false, false, false, false, false, false, false, false, false, false, false, false] rfl rfl (by kernel_rfl) (fun _ _ _ h => h) (Or.inl ⟨by rfl, ?_⟩) ?_ ?_
          rotate_left
          · intro w'
            have hwk2 : IntKind.i64.wrap (k1 : Int) = (k1 : Int) := (i64_w _).trans hwk
            go_simp
            first | done | with_reducible rfl
          rotate_left
          · simp only [Act.put, List.setIfInBounds_toArray, List.set_cons_zero, List.set_cons_succ, i64_w, i32_w]
            rfl
          refine pure_ (i := 10) (N := (some 49)) (v := ?_) (a' := ?_) #[true, true, true, true, true, true, true, true, true, true, true, false, false, false, false, false, false, false, false, false, false, false, false] rfl rfl (by kernel_rfl) (fun _ _ _ h => h) (Or.inl ⟨by rfl, ?_⟩) ?_ ?_
          rotate_left
          · intro w'
            go_simp
            first | done | with_reducible rfl
          rotate_left
          · simp only [Act.put, List.setIfInBounds_toArray, List.set_cons_zero, List.set_cons_succ, i64_w, i32_w]
            rfl
          refine pure_ (i := 11) (N := (some 50)) (v := ?_) (a' := ?_) #[true, true, true, true, true, true, true, true, true, true, true, true, false, false, false, false, false, false, false, false, false, false, false] rfl rfl (by kernel_rfl) (fun _ _ _ h => h) (Or.inl ⟨by rfl, ?_⟩) ?_ ?_
          rotate_left
          · intro w'
            go_simp
            first | done | with_reducible rfl
          rotate_left
          · simp only [Act.put, List.setIfInBounds_toArray, List.set_cons_zero, List.set_cons_succ, i64_w, i32_w]
            rfl
          refine pure_ (i := 12) (N := (some 51)) (v := ?_) (a' := ?_) #[true, true, true, true, true, true, true, true, true, true, true, true, true, false, false, false, false, false, false, false, false, false, false] rfl rfl (by kernel_rfl) (fun _ _ _ h => h) (Or.inl ⟨by rfl, ?_⟩) ?_ ?_
          rotate_left
          · intro w'
            go_simp
            first | done | with_reducible rfl
          rotate_left
          · simp only [Act.put, List.setIfInBounds_toArray, List.set_cons_zero, List.set_cons_succ, i64_w, i32_w]
            rfl
          refine pure_ (i := 13) (N := (some 52)) (v := ?_) (a' := ?_) #[true, true, true, true, true, true, true, true, true, true, true, true, true, true, false, false, false, false, false, false, false, false, false] rfl rfl (by kernel_rfl) (fun _ _ _ h => h) (Or.inl ⟨by rfl, ?_⟩) ?_ ?_
          rotate_left
          · intro w'
            go_simp
            first | done | with_reducible rfl
          rotate_left
          · simp only [Act.put, List.setIfInBounds_toArray, List.set_cons_zero, List.set_cons_succ, i64_w, i32_w]
            rfl
          refine take_ (i := 14) (N := (some 53)) (v := ?_) (a' := ?_) #[true, true, true, true, true, true, true, true, true, true, true, true, true, true, true, false, false, false, false, false, false, false, false] rfl rfl (by kernel_rfl) (fun _ _ _ h => h) (Or.inl ⟨by rfl, ?_⟩) hHeld ?_ ?_
          rotate_left
          · intro w' hS
            have s0 := pw_cell_below hS cR1
            go_simp
            first | done | with_reducible rfl
          rotate_left
          · simp only [Act.put, List.setIfInBounds_toArray, List.set_cons_zero, List.set_cons_succ, i64_w, i32_w]
            rfl
          refine pure_ (i := 15) (N := (some 54)) (v := ?_) (a' := ?_) #[true, true, true, true, true, true, true, true, true, true, true, true, true, true, true, true, false, false, false, false, false, false, false] rfl rfl (by kernel_rfl) (fun _ _ _ h => h) (Or.inl ⟨by rfl, ?_⟩) ?_ ?_
          rotate_left
          · intro w'
            go_simp
            first | done | with_reducible rfl
          rotate_left
          · simp only [Act.put, List.setIfInBounds_toArray, List.set_cons_zero, List.set_cons_succ, i64_w, i32_w]
            rfl
          refine pure_ (i := 16) (N := (some 55)) (v := ?_) (a' := ?_) #[true, true, true, true, true, true, true, true, true, true, true, true, true, true, true, true, true, false, false, false, false, false, false] rfl rfl (by kernel_rfl) (fun _ _ _ h => h) (Or.inl ⟨by rfl, ?_⟩) ?_ ?_
          rotate_left
          · intro w'
            go_simp
            first | done | with_reducible rfl
          rotate_left
          · simp only [Act.put, List.setIfInBounds_toArray, List.set_cons_zero, List.set_cons_succ, i64_w, i32_w]
            rfl
          refine pure_ (i := 17) (N := (some 56)) (v := ?_) (a' := ?_) #[true, true, true, true, true, true, true, true, true, true, true, true, true, true, true, true, true, true, false, false, false, false, false] rfl rfl (by kernel_rfl) (fun _ _ _ h => h) (Or.inl ⟨by rfl, ?_⟩) ?_ ?_
          rotate_left
          · intro w'
            have hwk2 : IntKind.i64.wrap (k1 : Int) = (k1 : Int) := (i64_w _).trans hwk
            go_simp
            first | done | with_reducible rfl
          rotate_left
          · simp only [Act.put, List.setIfInBounds_toArray, List.set_cons_zero, List.set_cons_succ, i64_w, i32_w]
            rfl
          refine pure_ (i := 18) (N := (some 57)) (v := ?_) (a' := ?_) #[true, true, true, true, true, true, true, true, true, true, true, true, true, true, true, true, true, true, true, false, false, false, false] rfl rfl (by kernel_rfl) (fun _ _ _ h => h) (Or.inl ⟨by rfl, ?_⟩) ?_ ?_
          rotate_left
          · intro w'
            go_simp
            first | done | with_reducible rfl
          rotate_left
          · simp only [Act.put, List.setIfInBounds_toArray, List.set_cons_zero, List.set_cons_succ, i64_w, i32_w]
            rfl
          refine one_ (i := 19) (N := (some 58)) #[true, true, true, true, true, true, true, true, true, true, true, true, true, true, true, true, true, true, true, true, false, false, false] rfl rfl (by kernel_rfl) (by decide) (fun K hK => ?_)
          refine goes_ Try.func24 (by kernel_rfl) rfl #[.slice (some ad) k1 c4] (by rfl) rfl rfl (by (try simp only [List.map_toArray, List.map_cons, List.map_nil]); first | done | rfl) ?_
          (with_reducible refine (HRO.out _ (Kd.C_below (HCC.out _ (Kd.R_reads' K4'.out).2.2) hHeld)).mono ?_)
          rintro e wz ⟨v6, rfl, hr6, hB⟩
          refine ⟨_, rfl, ?_⟩
          obtain ⟨A6, c6, rfl, _, hC6⟩ := Kd.R_reads hr6
          have HC6 := Aside0.mk hC6
          have hS2 : Below W0.heap.size W0 wz := below_step hHeld hB
          clear hr6 hB hC6 hHeld
          refine hK.out _ _ hS2 (fun hHeld => ?_)
          clear hK K
          refine norm_ (a' := ?_) ?_ ?_
          rotate_left
          · show Act.put _ (some 58) _ = _
            simp only [Act.put, List.setIfInBounds_toArray, List.set_cons_zero, List.set_cons_succ, i64_w, i32_w]
            rfl
          refine one_ (i := 20) (N := (some 59)) #[true, true, true, true, true, true, true, true, true, true, true, true, true, true, true, true, true, true, true, true, true, false, false] rfl rfl (by kernel_rfl) (by decide) (fun K hK => ?_)
          refine goes_ Try.func23 (by kernel_rfl) rfl #[.slice A8 O2.length c8, .slice A6 O2.length c6] (by rfl) rfl rfl (by (try simp only [List.map_toArray, List.map_cons, List.map_nil]); first | done | rfl) ?_
          (with_reducible refine (HSN.out A8 A6 c8 c6 _ (Kd.C_below (Kd.R_reads' K8.out).2.2 hHeld) HC6.out).mono ?_)
          rintro e wq ⟨rfl, hB⟩
          refine ⟨_, rfl, ?_⟩
          have hS2 : Below W0.heap.size W0 wq := below_step hHeld hB
          clear hB hHeld HC6
          refine hK.out _ _ hS2 (fun hHeld => ?_)
          clear hK K
          refine norm_ (a' := ?_) ?_ ?_
          rotate_left
          · show Act.put _ (some 59) _ = _
            simp only [Act.put, List.setIfInBounds_toArray, List.set_cons_zero, List.set_cons_succ, i64_w, i32_w]
            rfl
          refine pure_ (i := 21) (N := (some 60)) (v := ?_) (a' := ?_) #[true, true, true, true, true, true, true, true, true, true, true, true, true, true, true, true, true, true, true, true, true, true, false] rfl rfl (by kernel_rfl) (fun _ _ _ h => h) (Or.inl ⟨by rfl, ?_⟩) ?_ ?_
          rotate_left
          · intro w'
            go_simp
            first | done | with_reducible rfl
          rotate_left
          · simp only [Act.put, List.setIfInBounds_toArray, List.set_cons_zero, List.set_cons_succ, i64_w, i32_w]
            rfl
          refine pure_ (i := 22) (N := (some 61)) (v := ?_) (a' := ?_) #[true, true, true, true, true, true, true, true, true, true, true, true, true, true, true, true, true, true, true, true, true, true, true] rfl rfl (by kernel_rfl) (fun _ _ _ h => h) (Or.inl ⟨by rfl, ?_⟩) ?_ ?_
          rotate_left
          · intro w'
            go_simp
            first | done | with_reducible rfl
          rotate_left
          · simp only [Act.put, List.setIfInBounds_toArray, List.set_cons_zero, List.set_cons_succ, i64_w, i32_w]
            rfl
          refine done_ (by kernel_rfl) ?_
          have OF := Aside0.mk (OE.out.step hHeld)
          have L4 := Aside0.mk (Kd.R_below K4'.out hHeld)
          have L8 := Aside0.mk (Kd.R_below K8.out hHeld)
          have d0 := pw_cell_below hHeld cR0
          have d1 := pw_cell_below hHeld cR1
          have x0 := (OF.out.cell 1 rfl 0).trans rfl
          have x1 := (OF.out.cell 1 rfl 1).trans rfl
          have y0 := OF.out.frozen 1 rfl 0
          have y1 := OF.out.frozen 1 rfl 1
          clear hHeld OE K4' K9' K7' K8 cX1' cR0 cR1
          go_wp2_with fail
          go_roundw
          case rel =>
            have OP2 := (OF.out.put 1 rfl 0 (.int .i64 (k1 : Int)) rfl).put 1 rfl 1 (.slice A8 O2.length c8) rfl
            have S4 := Kd.R_set (Kd.R_set L4.out (OF.out.blk 1 rfl) (by decide) 0 (.int .i64 (k1 : Int))) ((OF.out.put 1 rfl 0 (.int .i64 (k1 : Int)) rfl).blk 1 rfl) (by decide) 1 (.slice A8 O2.length c8)
            have S8 := Kd.R_set (Kd.R_set L8.out (OF.out.blk 1 rfl) (by decide) 0 (.int .i64 (k1 : Int))) ((OF.out.put 1 rfl 0 (.int .i64 (k1 : Int)) rfl).blk 1 rfl) (by decide) 1 (.slice A8 O2.length c8)
            exact ⟨k1, A8, c8, by go_num, by have := HK1.out; omega, by rw [HE.out]; exact ⟨OP2⟩, ⟨S4⟩, by rw [HE.out]; exact ⟨S8⟩⟩
          case measure => simp [intOf]; have := HK1.out; omega
      · have h1i : ¬ (k : Int) < (L.length : Int) := by omega
        obtain rfl : k = L.length := by omega
        rw [List.take_length] at OW HC9
        generalize ofF L = O at *
        obtain ⟨A9, c9', e9, h9, _⟩ := Kd.R_reads HC9.out
        cases e9
        have H9 := Aside0.mk h9
        clear h9
        go_wp2_with fail
        have OD := Aside0.mk OW.out.drew
        have K4 := Aside0.mk (Kd.R_drew HC4.out)
        have K9 := Aside0.mk (Kd.R_drew HC9.out)
        have cX0 : wr.drew.cell? ⟨gX, 0, none⟩ = some (.int .i64 (L.length : Int)) := (OD.out.cell 1 rfl 0).trans rfl
        have cX1 : wr.drew.cell? ⟨gX, 1, none⟩ = some (.slice A9 O.length c9) := (OD.out.cell 1 rfl 1).trans rfl
        clear OW HC4 HC9
        refine start_ (n := 8) (S := fun w' => Below (wr).drew.heap.size (wr).drew w') (ds := []) #[false, false, false, false, false, false, false, false] (by kernel_rfl) rfl rfl (Below.refl _ _) (fun hHeld => ?_)
        generalize (wr).drew = W0 at *
        refine take_ (i := 0) (N := (some 63)) (a' := ?_) #[true, false, false, false, false, false, false, false] rfl rfl (by kernel_rfl) (fun _ _ _ h => h) (yields_tab (by rfl) (.tmp 3) rfl gT rfl (fun w' hS => hS) (OD.out.blk 0 rfl)) hHeld ?_ ?_
        rotate_left
        · simp only [Act.put, List.setIfInBounds_toArray, List.set_cons_zero, List.set_cons_succ, i64_w, i32_w]
          rfl
        refine take_ (i := 1) (N := (some 64)) (v := ?_) (a' := ?_) #[true, true, false, false, false, false, false, false] rfl rfl (by kernel_rfl) (fun _ _ _ h => h) (Or.inl ⟨by rfl, ?_⟩) hHeld ?_ ?_
        rotate_left
        · intro w' hS
          have s0 := pw_cell_below hS cX0
          have s1 := pw_cell_below hS cX1
          go_simp
          first | done | with_reducible rfl
        rotate_left
        · simp only [Act.put, List.setIfInBounds_toArray, List.set_cons_zero, List.set_cons_succ, i64_w, i32_w]
          rfl
        refine take_ (i := 3) (N := (some 66)) (a' := ?_) #[true, true, false, true, false, false, false, false] rfl rfl (by kernel_rfl) (fun _ _ _ h => h) (yields_tab (by rfl) (.tmp 3) rfl gT rfl (fun w' hS => hS) (OD.out.blk 0 rfl)) hHeld ?_ ?_
        rotate_left
        · simp only [Act.put, List.setIfInBounds_toArray, List.set_cons_zero, List.set_cons_succ, i64_w, i32_w]
          rfl
        refine pure_ (i := 4) (N := (some 67)) (v := ?_) (a' := ?_) #[true, true, false, true, true, false, false, false] rfl rfl (by kernel_rfl) (fun _ _ _ h => h) (Or.inl ⟨by rfl, ?_⟩) ?_ ?_
        rotate_left
        · intro w'
          go_simp
          first | done | with_reducible rfl
        rotate_left
        · simp only [Act.put, List.setIfInBounds_toArray, List.set_cons_zero, List.set_cons_succ, i64_w, i32_w]
          rfl
        refine one_ (i := 2) (N := (some 65)) #[true, true, true, true, true, false, false, false] rfl rfl (by kernel_rfl) (by decide) (fun K hK => ?_)
        refine goes_ Try.func29 (by kernel_rfl) rfl #[.agg TV, .agg #[.int .i64 (L.length : Int), .slice A9 O.length c9]] (by rfl) rfl rfl (by (try simp only [List.map_toArray, List.map_cons, List.map_nil]); first | done | rfl) ?_
        (with_reducible refine (HRB.out A9 c9 H9.out _ (Kd.C_below (Kd.R_reads' K9.out).2.2 hHeld)).mono ?_)
        rintro e wz ⟨rfl, hB⟩
        refine ⟨_, rfl, ?_⟩
        have hS2 : Below W0.heap.size W0 wz := below_step hHeld hB
        clear hB hHeld
        refine hK.out _ _ hS2 (fun hHeld => ?_)
        clear hK K
        refine norm_ (a' := ?_) ?_ ?_
        rotate_left
        · show Act.put _ (some 65) _ = _
          simp only [Act.put, List.setIfInBounds_toArray, List.set_cons_zero, List.set_cons_succ, i64_w, i32_w]
          rfl
        refine one_ (i := 5) (N := (some 68)) #[true, true, true, true, true, true, false, false] rfl rfl (by kernel_rfl) (by decide) (fun K hK => ?_)
        refine goes_ Try.func30 (by kernel_rfl) rfl #[.agg TV, .slice A4 L.length c4] (by rfl) rfl rfl (by (try simp only [List.map_toArray, List.map_cons, List.map_nil]); first | done | rfl) ?_
        (with_reducible refine (HRT.out A4 c4 H4.out _ (Kd.C_below (Kd.R_reads' K4.out).2.2 hHeld)).mono ?_)
        rintro e wz ⟨rfl, hB⟩
        refine ⟨_, rfl, ?_⟩
        have hS2 : Below W0.heap.size W0 wz := below_step hHeld hB
        clear hB hHeld
        refine hK.out _ _ hS2 (fun hHeld => ?_)
        clear hK K
        refine norm_ (a' := ?_) ?_ ?_
        rotate_left
        · show Act.put _ (some 68) _ = _
          simp only [Act.put, List.setIfInBounds_toArray, List.set_cons_zero, List.set_cons_succ, i64_w, i32_w]
          rfl
        refine pure_ (i := 6) (N := (some 69)) (v := ?_) (a' := ?_) #[true, true, true, true, true, true, true, false] rfl rfl (by kernel_rfl) (fun _ _ _ h => h) (Or.inl ⟨by rfl, ?_⟩) ?_ ?_
        rotate_left
        · intro w'
          go_simp
          first | done | with_reducible rfl
        rotate_left
        · simp only [Act.put, List.setIfInBounds_toArray, List.set_cons_zero, List.set_cons_succ, i64_w, i32_w]
          rfl
        refine pure_ (i := 7) (N := (some 2)) (v := ?_) (a' := ?_) #[true, true, true, true, true, true, true, true] rfl rfl (by kernel_rfl) (fun _ _ _ h => h) (Or.inl ⟨by rfl, ?_⟩) ?_ ?_
        rotate_left
        · intro w'
          go_simp
          first | done | with_reducible rfl
        rotate_left
        · simp only [Act.put, List.setIfInBounds_toArray, List.set_cons_zero, List.set_cons_succ, i64_w, i32_w]
          rfl
        refine done_ (by kernel_rfl) ?_
        all_goals
          have OB := (OD.out.step hHeld).below
          go_wp2_with fail
          go_ret
          exact ⟨rfl, OB⟩
end Go.Proofs.Ytondnammkcgjpaa.RgL
namespace Go.Proofs.YtondnammkcgjpaaOpens
open Go.ChangeShapes Go.WideShapes Go.Deep Go.Proofs.YtondnammkcgjpaaW.PrintWords

/-- whatever the reader reads at type e is of kind d, and Q holds of it -/
def Reads {α : Type} (d : Kd α) (P : Program) (e : TypeId) (Q : α → Prop) : Prop :=
  ∀ (H : Type) (enc : TypeId × Value → H) (w : World) (base : Nat) (spare : Nat → Bool) (held : Bool) (n : Nat) (cs : List Value) (x : DataW H × List MemPlace),
    DataW.trod enc P w base spare held n e cs = some x → ∃ a : α, d.K w a cs ∧ Q a

theorem reads_int {P : Program} {e : TypeId} {k : IntKind} (he : P.underlying e = some (.int k)) : Reads (Kd.int k) P e (fun n => (Lit.int k n).wf = true) := by
  intro H enc w base spare held n cs x h
  obtain ⟨m, rfl, _, hw⟩ := DataW.trod_int he h
  exact ⟨m, rfl, hw⟩
theorem reads_bool {P : Program} {e : TypeId} (he : P.underlying e = some .bool) : Reads Kd.bool P e (fun _ => True) := by
  intro H enc w base spare held n cs x h
  obtain ⟨m, rfl, _⟩ := DataW.trod_bool he h
  exact ⟨m, rfl, trivial⟩
theorem reads_string {P : Program} {e : TypeId} (he : P.underlying e = some .string) : Reads Kd.string P e (fun s => s.size ≤ maxLen) := by
  intro H enc w base spare held n cs x h
  obtain ⟨m, rfl, _, hs⟩ := DataW.trod_string he h
  exact ⟨m, rfl, hs⟩
theorem reads_iso {α β : Type} {d : Kd α} {P : Program} {e : TypeId} {Q : α → Prop} (f : β → α) (g : α → β) (hfg : ∀ a, f (g a) = a) (h : Reads d P e Q) : Reads (Kd.iso d f) P e (fun b => Q (f b)) := by
  intro H enc w base spare held n cs x hx
  obtain ⟨a, ha, hq⟩ := h H enc w base spare held n cs x hx
  exact ⟨g a, by show d.K w (f (g a)) cs; rw [hfg]; exact ha, by show Q (f (g a)); rw [hfg]; exact hq⟩
theorem reads_imp {α : Type} {d : Kd α} {P : Program} {e : TypeId} {Q Q' : α → Prop} (h : Reads d P e Q) (hq : ∀ a, Q a → Q' a) : Reads d P e Q' := by
  intro H enc w base spare held n cs x hx
  obtain ⟨a, ha, h1⟩ := h H enc w base spare held n cs x hx
  exact ⟨a, ha, hq a h1⟩

/-- fields, from cell 'off' on -/
def ReadsFs {α : Type} (d : Kd α) (P : Program) (fs : List Field) (off : Nat) (Q : α → Prop) : Prop :=
  ∀ (H : Type) (enc : TypeId × Value → H) (w : World) (base : Nat) (spare : Nat → Bool) (held : Bool) (n : Nat) (cs : List Value),
    cs.length = d.sz → (∀ f, f ∈ fs → ∃ y, DataW.trod enc P w base spare held n f.type ((cs.drop (f.offset - off)).take (P.cellsOf f.type)) = some y) → ∃ a : α, d.K w a cs ∧ Q a

theorem fs_last {α : Type} {d : Kd α} {P : Program} {f : Field} {off : Nat} {Q : α → Prop} (h : Reads d P f.type Q) (hs : P.cellsOf f.type = d.sz) (ho : f.offset = off) : ReadsFs d P [f] off Q := by
  intro H enc w base spare held n cs hl hf
  obtain ⟨y, hy⟩ := hf f (List.mem_singleton.2 rfl)
  rw [ho, Nat.sub_self, List.drop_zero, hs, List.take_of_length_le (by omega)] at hy
  exact h H enc w base spare held n cs y hy
theorem fs_cons {α β : Type} {a : Kd α} {b : Kd β} {P : Program} {f : Field} {fs : List Field} {off : Nat} {Qa : α → Prop} {Qb : β → Prop} (h : Reads a P f.type Qa) (hs : P.cellsOf f.type = a.sz) (ho : f.offset = off)
    (hr : ∀ g, g ∈ fs → off + a.sz ≤ g.offset) (hb : ReadsFs b P fs (off + a.sz) Qb) : ReadsFs (Kd.pair a b) P (f :: fs) off (fun x => Qa x.1 ∧ Qb x.2) := by
  intro H enc w base spare held n cs hl hf
  have hl' : cs.length = a.sz + b.sz := hl
  obtain ⟨y, hy⟩ := hf f (List.mem_cons_self ..)
  rw [ho, Nat.sub_self, List.drop_zero, hs] at hy
  obtain ⟨x, hx, hqx⟩ := h H enc w base spare held n _ y hy
  obtain ⟨z, hz, hqz⟩ := hb H enc w base spare held n (cs.drop a.sz) (by rw [List.length_drop]; omega) (fun g hg => by
    obtain ⟨u, hu⟩ := hf g (List.mem_cons_of_mem _ hg)
    refine ⟨u, ?_⟩
    have := hr g hg
    rw [List.drop_drop, show a.sz + (g.offset - (off + a.sz)) = g.offset - off from by omega]
    exact hu)
  exact ⟨(x, z), ⟨cs.take a.sz, cs.drop a.sz, (List.take_append_drop _ _).symm, hx, hz⟩, hqx, hqz⟩
theorem reads_struct {α : Type} {d : Kd α} {P : Program} {t : TypeId} {fs : Array Field} {Q : α → Prop} (ht : P.underlying t = some (.struct fs)) (hs : P.cellsOf t = d.sz) (h : ReadsFs d P fs.toList 0 Q) : Reads d P t Q := by
  intro H enc w base spare held n cs x hx
  obtain ⟨xs, m, _, _, hl, hlen, hf⟩ := DataW.trod_struct ht hx
  refine h H enc w base spare held m cs (hl.trans hs) (fun f hm => ?_)
  obtain ⟨i, hi, rfl⟩ := List.mem_iff_getElem.1 hm
  have hi' : i < fs.size := by rw [Array.length_toList] at hi; exact hi
  have e := hf i (fs.toList[i]) (by rw [Array.getElem?_eq_getElem hi']; rfl)
  have hx2 : i < xs.length := by omega
  exact ⟨xs[i], by rw [Nat.sub_zero, e]; exact List.getElem?_eq_getElem hx2⟩

theorem collect {α : Type} (len : Nat) (R : Nat → α → Prop) (each : ∀ i, i < len → ∃ z, R i z) : ∃ xs : List α, xs.length = len ∧ ∀ i z, xs[i]? = some z → R i z := by
  induction len with
  | zero => exact ⟨[], rfl, fun i z hz => by cases hz⟩
  | succ len ih =>
    obtain ⟨xs, hxl, hxs⟩ := ih (fun i hil => each i (by omega))
    obtain ⟨z, hz⟩ := each len (by omega)
    refine ⟨xs ++ [z], by rw [List.length_append, hxl]; rfl, fun i y hy => ?_⟩
    by_cases hil : i < xs.length
    · rw [List.getElem?_append_left hil] at hy; exact hxs i y hy
    · rw [List.getElem?_append_right (by omega)] at hy
      obtain ⟨hj, rfl⟩ := List.getElem?_eq_some_iff.1 hy
      have : i = len := by simp at hj; omega
      subst this
      simpa using hz

/-- a slice -/
theorem slice_row {α : Type} {d : Kd α} {P : Program} {t e : TypeId} {Q : α → Prop} (ht : P.underlying t = some (.slice e)) (hs : P.cellsOf e = d.sz) (h : Reads d P e Q)
    (H : Type) (enc : TypeId × Value → H) (w : World) (base : Nat) (spare : Nat → Bool) (held : Bool) (n : Nat) (cs : List Value) (x : DataW H × List MemPlace)
    (hx : DataW.trod enc P w base spare held n t cs = some x) : ∃ (A : Option Addr) (c : Nat) (xs : List α), cs = [.slice A xs.length c] ∧ xs.length ≤ c ∧ c ≤ maxLen ∧ d.C w A xs.length xs ∧ ∀ a ∈ xs, Q a := by
  rcases open_slice ht hx with ⟨rfl, _⟩ | ⟨a, len, cap, m, n', D, Pl, rfl, hb, hl, hm, hmm, _, hi⟩
  · exact ⟨none, 0, [], rfl, Nat.le_refl _, by decide, ⟨rfl, Nat.zero_le _, fun h0 => absurd h0 (Nat.lt_irrefl 0)⟩, fun a ha => by cases ha⟩
  · have hlm : len ≤ m := by rw [hmm]; split <;> omega
    have each : ∀ i, i < len → ∃ z : α, Q z ∧ ∃ c : List Value, c.length = d.sz ∧ d.K w z c ∧ ∀ j u, c[j]? = some u → w.cell? (a.add (i * d.sz + j)) = some u := by
      intro i hil
      obtain ⟨cs', hc, hy⟩ := hi i (by omega)
      rw [hs] at hc
      obtain ⟨z, hz, hq⟩ := h H enc w base spare held n' cs' _ hy
      obtain ⟨_, hcl, hat⟩ := World.cells?_some hc
      refine ⟨z, hq, cs', d.K_len hz, hz, fun j u hu => ?_⟩
      obtain ⟨hj, hu2⟩ := List.getElem?_eq_some_iff.1 hu
      have := hat j (by omega)
      rw [← Go.Deep.add_add, this]
      exact hu
    have hex := collect len _ each
    obtain ⟨xs, rfl, hxs⟩ := hex
    refine ⟨some a, cap, xs, rfl, hl, hm, ⟨rfl, by have : xs.length ≤ maxLen := by omega
                                                   unfold maxLen at this; exact this, fun _ => ⟨a, rfl, fun j p hp => (hxs j p hp).2⟩⟩, fun z hz => ?_⟩
    obtain ⟨i, hi2, rfl⟩ := List.mem_iff_getElem.1 hz
    exact (hxs i _ (List.getElem?_eq_getElem hi2)).1
theorem reads_slice {α : Type} {d : Kd α} {P : Program} {t e : TypeId} {Q : α → Prop} (ht : P.underlying t = some (.slice e)) (hs : P.cellsOf e = d.sz) (h : Reads d P e Q) : Reads (Kd.slice e d) P t (fun xs => xs.length ≤ maxLen ∧ ∀ a ∈ xs, Q a) := by
  intro H enc w base spare held n cs x hx
  obtain ⟨A, c, xs, rfl, hl, hm, hC, hq⟩ := slice_row ht hs h H enc w base spare held n cs x hx
  exact ⟨xs, ⟨A, c, rfl, hl, hC⟩, by omega, hq⟩
/-- a slice as an argument -/
theorem arg_slice {α : Type} {d : Kd α} {P : Program} {t e : TypeId} {Q : α → Prop} (ht : P.underlying t = some (.slice e)) (hs : P.cellsOf e = d.sz) (h : Reads d P e Q)
    {H : Type} {enc : TypeId × Value → H} {w : World} {base : Nat} {spare : Nat → Bool} {held : Bool} {r : Reach} {b0 : Nat} {v : Value} {dd : DataW H} {p : List MemPlace} (hv : Value.okWide P w r b0 t v) (hx : DataW.Trod enc P w base spare held t v dd p) :
    ∃ (A : Option Addr) (c : Nat) (xs : List α), v = .slice A xs.length c ∧ xs.length ≤ c ∧ c ≤ maxLen ∧ d.C w A xs.length xs ∧ ∀ a ∈ xs, Q a := by
  obtain ⟨a, len, cap, rfl⟩ := okWide_slice ht hv
  obtain ⟨fuel, hf⟩ := hx
  obtain ⟨A, c, xs, hcs, hl, hm, hC, hq⟩ := slice_row ht hs h H enc w base spare held fuel _ _ hf
  simp only [Value.cells, List.cons.injEq, and_true] at hcs
  exact ⟨A, c, xs, hcs, hl, hm, hC, hq⟩

/-- a struct as an argument -/
theorem arg_agg {α : Type} {d : Kd α} {P : Program} {t : TypeId} {fs : Array Field} {Q : α → Prop} (ht : P.underlying t = some (.struct fs)) (h : Reads d P t Q)
    {H : Type} {enc : TypeId × Value → H} {w : World} {base : Nat} {spare : Nat → Bool} {held : Bool} {r : Reach} {b0 : Nat} {v : Value} {dd : DataW H} {p : List MemPlace} (hv : Value.okWide P w r b0 t v) (hx : DataW.Trod enc P w base spare held t v dd p) :
    ∃ (cs : Array Value) (a : α), v = .agg cs ∧ d.K w a cs.toList ∧ Q a := by
  obtain ⟨cs, rfl, hsz⟩ := okWide_struct ht hv
  obtain ⟨fuel, hf⟩ := hx
  obtain ⟨a, hk, hq⟩ := h H enc w base spare held fuel _ _ hf
  exact ⟨cs, a, rfl, hk, hq⟩

/-- an array of two numbers as an argument -/
theorem arg_two {P : Program} {t e : TypeId} {k : IntKind} (ht : P.underlying t = some (.array 2 e)) (he : P.underlying e = some (.int k)) (hs : P.cellsOf t = 2) (hc : P.cellsOf e = 1)
    {H : Type} {enc : TypeId × Value → H} {w : World} {base : Nat} {spare : Nat → Bool} {held : Bool} {r : Reach} {b0 : Nat} {v : Value} {dd : DataW H} {p : List MemPlace} (hv : Value.okWide P w r b0 t v) (hx : DataW.Trod enc P w base spare held t v dd p) :
    ∃ a b : Int, v = .agg #[.int k a, .int k b] ∧ (Lit.int k a).wf = true ∧ (Lit.int k b).wf = true := by
  simp only [Value.okWide, ht] at hv
  obtain ⟨cs, rfl, hsz, _⟩ := hv
  rw [hs] at hsz
  obtain ⟨fuel, hf⟩ := hx
  obtain ⟨xs, m, _, _, hl, hlen, hi⟩ := DataW.trod_array ht hf
  obtain ⟨ls⟩ := cs
  match ls, hsz with
  | [c0, c1], _ =>
    have h0 := hi 0 (by omega)
    have h1 := hi 1 (by omega)
    rw [hc, List.getElem?_eq_getElem (by omega)] at h0 h1
    obtain ⟨a, ea, _, wa⟩ := DataW.trod_int he h0
    obtain ⟨b, eb, _, wb⟩ := DataW.trod_int he h1
    have ea' : c0 = .int k a := by simpa [Value.cells] using ea
    have eb' : c1 = .int k b := by simpa [Value.cells] using eb
    exact ⟨a, b, by rw [ea', eb'], wa, wb⟩
end Go.Proofs.YtondnammkcgjpaaOpens
namespace Go.Proofs.Ytondnammkcgjpaa.rangesAdds
open Go.ChangeShapes Go.WideShapes Go.ChangeAt Go.RowKit
open Go.ChangeMaps (open_string shut_string)
open Go.Proofs.Ytondnammkcgjpaa Go.Proofs.YtondnammkcgjpaaOpens Go.Proofs.YtondnammkcgjpaaW.PrintWords
set_option linter.unusedVariables false
theorem own : ownKnob Try.prog.godebug = none := by kernel_rfl
theorem laidOut : laidOutB Try.prog = true := by kernel_rfl
set_option maxRecDepth 100000 in
theorem lifted (os : Os) (started : os.Started) (H : Type) (enc : TypeId × Value → H) :
    ReturnsInHanded {} Try.checked os 6 .any (Rows.rangesAddsSpec.pre6 enc Try.prog Try.f6 Rows.rangesAddsRow.domain false) (Rows.rangesAddsSpec.post enc Try.prog Try.f6 false true false false) := by
  refine returnsInHanded_of_change_sized (C := Try.checked) own started (by kernel_rfl) Try.func6
    (ChangeSpec.witness6 (enc := enc) (C := Try.checked) false ⟨#[], #[.slice none 0 0], []⟩ 8 (by kernel_rfl) (by kernel_rfl) (by kernel_rfl) (by kernel_rfl)) ?_
  intro W base args ds gs before hval0 hW hcnd hsz0 _
  have hsz : (DataW.weightsEach Try.prog (Try.f6.params.toList ++ Rows.rangesAddsSpec.plain.varTypes Try.prog) (ds ++ gs)).all (· ≤ reachBytes) = true := hsz0
  have hval : ∀ (j : Nat) t v, Try.f6.params[j]? = some t → args[j]? = some v → Value.okWide Try.prog W .any base t v := hval0
  have hW' := hW
  obtain ⟨p, q, hA0, hV, rfl, hfz, hnd⟩ := hW
  have hA : DataW.TrodAll enc Try.prog W 0 (fun _ => true) true Try.f6.params.toList args.toList ds p := hA0
  rw [Try.params6] at hA hval hsz
  obtain ⟨v0, vs0, d0, ds0, p0, q0, hargs, rfl, rfl, h0, r0⟩ := trodAll_cons hA
  obtain ⟨rfl, rfl, rfl⟩ := trodAll_nil r0
  obtain rfl : args = #[v0] := by cases args; simp_all
  obtain ⟨rfl, rfl⟩ := trodVars_none hV
  have k0 := h0
  have lt0 : ∀ x ∈ p0, x.block < W.heap.size := by obtain ⟨m, hm⟩ := k0; exact DataW.trod_lt m _ _ _ hm
  obtain ⟨A0, c0, l0, rfl, hl0, hm0, hC0, hq0⟩ := arg_slice Try.underlying22 (by kernel_rfl) (reads_string Try.underlying9) (hval 0 22 v0 rfl rfl) h0
  clear hA0 hval0 hsz0 hsz
  refine (Go.Proofs.Ytondnammkcgjpaa.RgL.law_adds A0 c0 l0 W hl0 hC0).mono fun e W' ⟨he, bel⟩ => ?_
  subst he
  exact ⟨_, rfl, _, _, _, [], _, [], hW', trodAll_mk1 (shut_bool Try.underlying4 _), (trodAll_cons_mk (Below.trod laidOut (by kernel_rfl) (of_decide_eq_true (by kernel_rfl)) k0 bel lt0) trodAll_mk0), rfl, bel.frame _, fun h => by cases h⟩
theorem over : Rows.rangesAddsRow.holds Try.pinned (OpenSpec.ofChange Rows.rangesAddsSpec) :=
  OpenClaim.holds_of_wide 6 Try.f6 rfl rfl rfl rfl rfl rfl rfl ⟨rfl, rfl, rfl, rfl, rfl⟩ rfl rfl rfl rfl rfl (by kernel_rfl) Try.func6 (by kernel_rfl)
    (of_decide_eq_true (by kernel_rfl)) (by unfold Func.isWrapper; first | (rw [if_pos (by decide +kernel)]; kernel_rfl) | (rw [if_neg (by decide +kernel)]; exact ⟨rfl, rfl⟩))
    (fun os started H enc _ => lifted os started H enc)
theorem proved : Rows.RangesAddsSaid := over
#print axioms proved
end Go.Proofs.Ytondnammkcgjpaa.rangesAdds
namespace Go.Proofs.Ytondnammkcgjpaa
/-- The row, under a short name, for the claim. -/
theorem rangesAdds_holds : Rows.RangesAddsSaid := rangesAdds.proved
end Go.Proofs.Ytondnammkcgjpaa
