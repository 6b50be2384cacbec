/- Here is proved: what (*decree.Decree).accept does. Conditions: at most five nodes, not too many letters. -/
import Derived.Test.YtnhnbobgfadhpaaMDecreeEnds1
import Derived.Test.YtnhnbobgfadhpaaMDecreeEnds3
import Derived.Shelf.Abstract
namespace Go.Proofs.Ytnhnbobgfadhpaa.Dec
open Go Go.RowKit Go.Proofs.YtnhnbobgfadhpaaW.PrintWords Go.Proofs.YtnhnbobgfadhpaaW.PrintLast Go.Proofs.YtnhnbobgfadhpaaW.PrintMore Go.Proofs.Ytnhnbobgfadhpaa.Mp Go.Proofs.Ytnhnbobgfadhpaa.PDecreeStill
set_option linter.unusedVariables false
set_option linter.unusedSimpArgs false
theorem keyedInt : Go.Maps.Keyed Try.prog 3 := Go.Maps.int_keyed Try.underlying3
theorem keyInt (b : Int) (h0 : 0 ≤ b) (h1 : b < 4294967296) : keyOf Try.prog 3 (kInt b) = some (.int .i64 b) := Go.Maps.keyOf_int_mk Try.underlying3 (by simp [Lit.wf, IntKind.min, IntKind.max, IntKind.bits, IntKind.signed]; omega)
theorem zeroHeld (w : World) : (zeroValue 61).run Try.prog w = .ok (.agg #[.int .u64 0, .string ⟨#[]⟩]) w := by kernel_rfl
theorem zeroPtr (w : World) : (zeroValue 63).run Try.prog w = .ok (.pointer none) w := by kernel_rfl
variable {base g : Nat} {L L' : Lay} {d : D} {W W1 : World}
def heldAt (d : D) (b : Int) : Nat × ByteArray := (d.tk b).getD (0, e0)
theorem whoOf_at (d : D) (b : Int) : whoOf d b = (heldAt d b).1 := by unfold whoOf heldAt; cases d.tk b <;> rfl
theorem tkC_at (f : Int → Option (Nat × ByteArray)) (b : Int) : (tkC f (kInt b)).getD (.agg #[.int .u64 0, .string ⟨#[]⟩]) = held ((f b).getD (0, e0)) := by
  show ((f b).map held).getD _ = _
  cases f b <;> rfl
/-- the look-up of who has accepted -/
theorem IsD.look_tk (h : IsD base W g L d) (b : Int) (h0 : 0 ≤ b) (h1 : b < 4294967296) : (Instr.lookup 41 (.map (some L.gt)) (.int .i64 b) false).run Try.prog W = .ok (.agg #[.int .u64 (heldAt d b).1, .string (heldAt d b).2]) W := by
  have hh := h.tk.look false keyedInt Try.underlying41 (zeroHeld W) (keyInt b h0 h1)
  rw [if_neg Bool.false_ne_true, tkC_at] at hh
  exact hh
set_option maxRecDepth 100000 in
set_option maxHeartbeats 8000000 in
theorem acc_c (x : Lt) (w : World) (h : IsD base w g L d) (hx : LtW d.sl.length x) (hw : ∀ b z, d.tk b = some z → z.1 < 2 ^ 64) (hl : d.lt.length ≤ 1000000) (hbase : base ≤ w.heap.size) :
    Calls Try.prog 30 #[.pointer (some ⟨g, 0, none⟩), .agg (encL x).toArray] w fun e w' => e = .returned (.tuple #[]) ∧
      ∃ L', IsD base w' g L' (accD d x) ∧ Turn w w' (Foot L g) (Foot L' g) := by
  have OW := Aside0.mk (Mem.Own.nil w)
  have HD := Aside0.mk h
  have HL := Aside0.mk hl
  have HB := Aside0.mk hbase
  have HX := Aside0.mk hx
  obtain ⟨n, hn⟩ : ∃ n, d.sl.length = n := ⟨_, rfl⟩
  rw [hn] at HX hx
  have hn5 : (n : Int) ≤ 5 := by have := h.sm; omega
  obtain ⟨x0, x1, x2, x3, x4, x5⟩ := x
  obtain ⟨i, rfl⟩ : ∃ i : Nat, x2 = i := ⟨x2.toNat, by have : 0 ≤ x2 := hx.t0; omega⟩
  have hin : (i : Int) < (n : Int) := hx.t1
  have hsl := slot_at hn (Int.natCast_nonneg i) hin
  rw [Int.toNat_natCast] at hsl
  obtain ⟨s, hs⟩ : ∃ s, slot d (i : Int) = s := ⟨_, rfl⟩
  rw [hs] at hsl
  have HS := Aside0.mk hs
  have HSL := Aside0.mk hsl
  have HFT := Aside0.mk (fun k hk => h.foot_lt k hk)
  obtain ⟨hv, hhv⟩ : ∃ hv, heldAt d x3 = hv := ⟨_, rfl⟩
  have HHV := Aside0.mk hhv
  have hwv : hv.1 < 2 ^ 64 := by
    rw [← hhv]; unfold heldAt
    cases ht : d.tk x3 with
    | none => exact (by decide : (0 : Nat) < 2 ^ 64)
    | some z => exact hw x3 z ht
  have hwith : vote_Set_With.f (hv.1 : Int) (i : Int) = some ((bput hv.1 i : Nat) : Int) := by
    rw [Go.Proofs.Ytnhnbobgfadhpaa.SetsDecreeStill.with_f hv.1 i hwv, put_bput _ _ (by omega) (by omega), Int.toNat_natCast]
  have HWI := Aside0.mk (fun W => vote_Set_With.calls (hv.1 : Int) (i : Int) _ W hwith)
  have hsp := slot_acc s x3 x5
  clear h hl hbase hsl hs hw hwv hwith hhv hx
  go_enter Try.func30, Try.ntmps30
  go_wp2_with (first
    | ((with_reducible refine gate_dst (N := 3) rfl ?_); refine box_event ?hg (N := 3) ?hd (cs := #[.int .i64 x0, .int .i64 x1, .int .i64 (i : Int), .int .i64 x3, .int .i64 x4, .string x5]) (t := 49) ?hr ?_; (case hd => rfl); (case hg => rfl); (case hr => first | (go_simp; done) | (go_simp; rfl)); intro gX hg W_ hb hbb; have n2 := Aside0.mk (HD.out.below hbb); clear HD; have HD := n2; clear n2; have n_ : Aside0 (Mem.Own w W_ [(gX, #[.int .i64 x0, .int .i64 x1, .int .i64 (i : Int), .int .i64 x3, .int .i64 x4, .string x5], 49)]) := ⟨OW.out.new hg hb hbb⟩; clear OW hb hbb hg; have OW := n_; clear n_))
  have OD := Aside0.mk OW.out.drew
  have ID := Aside0.mk HD.out.drew
  have c0 : W_.drew.cell? ⟨g, 0, none⟩ = some (.slice (some ⟨L.gs, 0, none⟩) n n) := by rw [← hn]; exact (blk_cell ID.out.blk 0).trans rfl
  have e2 : W_.drew.cell? ⟨gX, 2, none⟩ = some (.int .i64 (i : Int)) := (OD.out.cell 0 rfl 2).trans rfl
  have e3 : W_.drew.cell? ⟨gX, 3, none⟩ = some (.int .i64 x3) := (OD.out.cell 0 rfl 3).trans rfl
  have e5 : W_.drew.cell? ⟨gX, 5, none⟩ = some (.string x5) := (OD.out.cell 0 rfl 5).trans rfl
  have r0 : W_.drew.cell? ⟨L.gs, i * 3, none⟩ = some (.int .i64 s.pr) := (ID.out.slot_cell i 0 s HSL.out (by decide)).trans rfl
  have r1 : W_.drew.cell? ⟨L.gs, i * 3 + 1, none⟩ = some (.int .i64 s.bal) := (ID.out.slot_cell i 1 s HSL.out (by decide)).trans rfl
  have r2 : W_.drew.cell? ⟨L.gs, i * 3 + 2, none⟩ = some (.string s.val) := (ID.out.slot_cell i 2 s HSL.out (by decide)).trans rfl
  clear OW HD
  by_cases hc : isB x3 ∧ s.pr ≤ x3
  · rw [if_pos hc] at hsp
    have HSP := Aside0.mk (fun W => slot_Slot_Accept.calls s.pr s.bal s.val x3 x5 x3 x3 x5 true W hsp)
    have HC := Aside0.mk hc
    clear hsp hc
    refine start_ (n := 19) (S := fun w' => Below (W_).drew.heap.size (W_).drew w') (ds := [17]) #[false, false, false, false, false, false, false, false, false, false, false, false, false, false, false, false, false, false, false] (by kernel_rfl) rfl rfl (Below.refl _ _) (fun hHeld => ?_)
    generalize (W_).drew = W0 at *
    refine pure_ (i := 0) (N := (some 8)) (v := ?_) (a' := ?_) #[true, false, false, false, false, false, false, false, false, false, false, false, false, false, false, false, false, false, false] rfl rfl (by kernel_rfl) (fun _ _ _ h => h) (Or.inl ⟨by rfl, ?_⟩) ?_ ?_
    rotate_left
    · intro w'
      go_simp
      first | done | with_reducible rfl
    rotate_left
    · simp only [Act.put, List.setIfInBounds_toArray, List.set_cons_zero, List.set_cons_succ, i64_w, i32_w]
      rfl
    refine pure_ (i := 1) (N := (some 9)) (v := ?_) (a' := ?_) #[true, true, false, false, false, false, false, false, false, false, false, false, false, false, false, false, false, false, false] rfl rfl (by kernel_rfl) (fun _ _ _ h => h) (Or.inl ⟨by rfl, ?_⟩) ?_ ?_
    rotate_left
    · intro w'
      skip
      go_simp
      first | done | with_reducible rfl
    rotate_left
    · simp only [Act.put, List.setIfInBounds_toArray, List.set_cons_zero, List.set_cons_succ, i64_w, i32_w]
      rfl
    refine pure_ (i := 2) (N := (some 10)) (v := ?_) (a' := ?_) #[true, true, true, false, false, false, false, false, false, false, false, false, false, false, false, false, false, false, false] rfl rfl (by kernel_rfl) (fun _ _ _ h => h) (Or.inl ⟨by rfl, ?_⟩) ?_ ?_
    rotate_left
    · intro w'
      go_simp
      first | done | with_reducible rfl
    rotate_left
    · simp only [Act.put, List.setIfInBounds_toArray, List.set_cons_zero, List.set_cons_succ, i64_w, i32_w]
      rfl
    refine take_ (i := 3) (N := (some 11)) (v := ?_) (a' := ?_) #[true, true, true, true, false, false, false, false, false, false, false, false, false, false, false, false, false, false, false] rfl rfl (by kernel_rfl) (fun _ _ _ h => h) (Or.inl ⟨by rfl, ?_⟩) hHeld ?_ ?_
    rotate_left
    · intro w' hS
      have s0 := pw_cell_below hS c0
      go_simp
      first | done | with_reducible rfl
    rotate_left
    · simp only [Act.put, List.setIfInBounds_toArray, List.set_cons_zero, List.set_cons_succ, i64_w, i32_w]
      rfl
    refine pure_ (i := 4) (N := (some 12)) (v := ?_) (a' := ?_) #[true, true, true, true, true, false, false, false, false, false, false, false, false, false, false, false, false, false, false] rfl rfl (by kernel_rfl) (fun _ _ _ h => h) (Or.inl ⟨by rfl, ?_⟩) ?_ ?_
    rotate_left
    · intro w'
      go_simp
      first | done | with_reducible rfl
    rotate_left
    · simp only [Act.put, List.setIfInBounds_toArray, List.set_cons_zero, List.set_cons_succ, i64_w, i32_w]
      rfl
    refine take_ (i := 5) (N := (some 13)) (v := ?_) (a' := ?_) #[true, true, true, true, true, true, false, false, false, false, false, false, false, false, false, false, false, false, false] rfl rfl (by kernel_rfl) (fun _ _ _ h => h) (Or.inl ⟨by rfl, ?_⟩) hHeld ?_ ?_
    rotate_left
    · intro w' hS
      have s0 := pw_cell_below hS e2
      go_simp
      first | done | with_reducible rfl
    rotate_left
    · simp only [Act.put, List.setIfInBounds_toArray, List.set_cons_zero, List.set_cons_succ, i64_w, i32_w]
      rfl
    refine pure_ (i := 6) (N := (some 14)) (v := ?_) (a' := ?_) #[true, true, true, true, true, true, true, false, false, false, false, false, false, false, false, false, false, false, false] rfl rfl (by kernel_rfl) (fun _ _ _ h => h) (Or.inl ⟨by rfl, ?_⟩) ?_ ?_
    rotate_left
    · intro w'
      go_simp
      first | done | with_reducible rfl
    rotate_left
    · simp only [Act.put, List.setIfInBounds_toArray, List.set_cons_zero, List.set_cons_succ, i64_w, i32_w]
      rfl
    refine take_ (i := 7) (N := (some 15)) (v := ?_) (a' := ?_) #[true, true, true, true, true, true, true, true, false, false, false, false, false, false, false, false, false, false, false] rfl rfl (by kernel_rfl) (fun _ _ _ h => h) (Or.inl ⟨by rfl, ?_⟩) hHeld ?_ ?_
    rotate_left
    · intro w' hS
      have s0 := pw_cell_below hS r0
      have s1 := pw_cell_below hS r1
      have s2 := pw_cell_below hS r2
      go_simp
      first | done | with_reducible rfl
    rotate_left
    · simp only [Act.put, List.setIfInBounds_toArray, List.set_cons_zero, List.set_cons_succ, i64_w, i32_w]
      rfl
    refine pure_ (i := 8) (N := (some 16)) (v := ?_) (a' := ?_) #[true, true, true, true, true, true, true, true, true, false, false, false, false, false, false, false, false, false, false] rfl rfl (by kernel_rfl) (fun _ _ _ h => h) (Or.inl ⟨by rfl, ?_⟩) ?_ ?_
    rotate_left
    · intro w'
      go_simp
      first | done | with_reducible rfl
    rotate_left
    · simp only [Act.put, List.setIfInBounds_toArray, List.set_cons_zero, List.set_cons_succ, i64_w, i32_w]
      rfl
    refine take_ (i := 9) (N := (some 17)) (v := ?_) (a' := ?_) #[true, true, true, true, true, true, true, true, true, true, false, false, false, false, false, false, false, false, false] rfl rfl (by kernel_rfl) (fun _ _ _ h => h) (Or.inl ⟨by rfl, ?_⟩) hHeld ?_ ?_
    rotate_left
    · intro w' hS
      have s0 := pw_cell_below hS e3
      go_simp
      first | done | with_reducible rfl
    rotate_left
    · simp only [Act.put, List.setIfInBounds_toArray, List.set_cons_zero, List.set_cons_succ, i64_w, i32_w]
      rfl
    refine pure_ (i := 10) (N := (some 18)) (v := ?_) (a' := ?_) #[true, true, true, true, true, true, true, true, true, true, true, false, false, false, false, false, false, false, false] rfl rfl (by kernel_rfl) (fun _ _ _ h => h) (Or.inl ⟨by rfl, ?_⟩) ?_ ?_
    rotate_left
    · intro w'
      go_simp
      first | done | with_reducible rfl
    rotate_left
    · simp only [Act.put, List.setIfInBounds_toArray, List.set_cons_zero, List.set_cons_succ, i64_w, i32_w]
      rfl
    refine take_ (i := 11) (N := (some 19)) (v := ?_) (a' := ?_) #[true, true, true, true, true, true, true, true, true, true, true, true, false, false, false, false, false, false, false] rfl rfl (by kernel_rfl) (fun _ _ _ h => h) (Or.inl ⟨by rfl, ?_⟩) hHeld ?_ ?_
    rotate_left
    · intro w' hS
      have s0 := pw_cell_below hS e5
      go_simp
      first | done | with_reducible rfl
    rotate_left
    · simp only [Act.put, List.setIfInBounds_toArray, List.set_cons_zero, List.set_cons_succ, i64_w, i32_w]
      rfl
    refine two_ (i := 12) (j := 16) (Ni := (some 20)) (Nj := (some 4)) #[true, true, true, true, true, true, true, true, true, true, true, true, true, false, false, false, false, false, false] #[true, true, true, true, true, true, true, true, true, true, true, true, false, false, false, false, true, false, false] rfl rfl rfl rfl (by kernel_rfl) (by decide) (by decide) (fun K hK => ?_) (fun K hK => ?_)
    refine goes_ Try.func39 (by kernel_rfl) rfl #[.agg #[.int .i64 s.pr, .int .i64 s.bal, .string s.val], .int .i64 x3, .string x5] (by rfl) rfl rfl (by (try simp only [List.map_toArray, List.map_cons, List.map_nil]); first | done | rfl) ?_
    (with_reducible refine (HSP.out _).mono ?_)
    rintro e wa ⟨rfl, hB⟩
    refine ⟨_, rfl, ?_⟩
    have hS2 : Below W0.heap.size W0 wa := below_step hHeld hB
    (try (have n_ := Aside0.mk (blk_below HBA.out hB); clear HBA; have HBA := n_; clear n_))
    clear hB hHeld
    refine hK.out _ _ hS2 (fun hHeld => ?_)
    clear hK K
    refine norm_ (a' := ?_) ?_ ?_
    rotate_left
    · show Act.put _ (some 20) _ = _
      simp only [Act.put, List.setIfInBounds_toArray, List.set_cons_zero, List.set_cons_succ, i64_w, i32_w]
      rfl
    refine pure_ (i := 13) (N := (some 7)) (v := ?_) (a' := ?_) #[true, true, true, true, true, true, true, true, true, true, true, true, true, true, false, false, false, false, false] rfl rfl (by kernel_rfl) (fun _ _ _ h => h) (Or.inl ⟨by rfl, ?_⟩) ?_ ?_
    rotate_left
    · intro w'
      go_simp
      first | done | with_reducible rfl
    rotate_left
    · simp only [Act.put, List.setIfInBounds_toArray, List.set_cons_zero, List.set_cons_succ, i64_w, i32_w]
      rfl
    refine pure_ (i := 14) (N := (some 21)) (v := ?_) (a' := ?_) #[true, true, true, true, true, true, true, true, true, true, true, true, true, true, true, false, false, false, false] rfl rfl (by kernel_rfl) (fun _ _ _ h => h) (Or.inl ⟨by rfl, ?_⟩) ?_ ?_
    rotate_left
    · intro w'
      go_simp
      first | done | with_reducible rfl
    rotate_left
    · simp only [Act.put, List.setIfInBounds_toArray, List.set_cons_zero, List.set_cons_succ, i64_w, i32_w]
      rfl
    refine pure_ (i := 15) (N := (some 22)) (v := ?_) (a' := ?_) #[true, true, true, true, true, true, true, true, true, true, true, true, true, true, true, true, false, false, false] rfl rfl (by kernel_rfl) (fun _ _ _ h => h) (Or.inl ⟨by rfl, ?_⟩) ?_ ?_
    rotate_left
    · intro w'
      go_simp
      first | done | with_reducible rfl
    rotate_left
    · simp only [Act.put, List.setIfInBounds_toArray, List.set_cons_zero, List.set_cons_succ, i64_w, i32_w]
      rfl
    refine one_ (i := 16) (N := (some 4)) #[true, true, true, true, true, true, true, true, true, true, true, true, true, true, true, true, true, false, false] rfl rfl (by kernel_rfl) (by decide) (fun K hK => ?_)
    refine box_step (by rfl) (N := 4) rfl (cs := #[.int .i64 0, .int .i64 0, .string ⟨#[]⟩]) (t := 36) (by first | (go_simp; done) | (go_simp; rfl)) ?_
    intro gA hg wa hb hbb
    have HBA := Aside0.mk hb
    have hS2 : Below W0.heap.size W0 wa := below_step hHeld hbb
    have HGA := Aside0.mk (show W0.heap.size ≤ gA by rw [hg]; exact hHeld.size)
    clear hb hbb hg hHeld
    refine hK.out _ _ hS2 (fun hHeld => ?_)
    clear hK K
    refine norm_ (a' := ?_) ?_ ?_
    rotate_left
    · show Act.put _ (some 4) _ = _
      simp only [Act.put, List.setIfInBounds_toArray, List.set_cons_zero, List.set_cons_succ, i64_w, i32_w]
      rfl
    refine last_ (i := 17) (N := none) #[true, true, true, true, true, true, true, true, true, true, true, true, true, true, true, true, true, true, false] rfl rfl (by kernel_rfl) (by decide) (fun K hK => ?_)
    have z0 := (blk_cell HBA.out 0).trans rfl
    have z1 := (blk_cell HBA.out 1).trans rfl
    have z2 := (blk_cell HBA.out 2).trans rfl
    have y0 := blk_frozen HBA.out 0
    have y1 := blk_frozen HBA.out 1
    have y2 := blk_frozen HBA.out 2
    refine skip_ (by rfl) rfl (by first | (go_simp; done) | (go_simp; rfl)) ?_
    refine hK.out _ _ ?_
    clear hK K
    refine pure_ (i := 18) (N := (some 5)) (v := ?_) (a' := ?_) #[true, true, true, true, true, true, true, true, true, true, true, true, true, true, true, true, true, true, true] rfl rfl (by kernel_rfl) (fun _ _ _ h => h) (Or.inl ⟨by rfl, ?_⟩) ?_ ?_
    rotate_left
    · intro w'
      go_simp
      first | done | with_reducible rfl
    rotate_left
    · simp only [Act.put, List.setIfInBounds_toArray, List.set_cons_zero, List.set_cons_succ, i64_w, i32_w]
      rfl
    refine done_ (by kernel_rfl) ?_
    rotate_left
    refine box_step (by rfl) (N := 4) rfl (cs := #[.int .i64 0, .int .i64 0, .string ⟨#[]⟩]) (t := 36) (by first | (go_simp; done) | (go_simp; rfl)) ?_
    intro gA hg wa hb hbb
    have HBA := Aside0.mk hb
    have hS2 : Below W0.heap.size W0 wa := below_step hHeld hbb
    have HGA := Aside0.mk (show W0.heap.size ≤ gA by rw [hg]; exact hHeld.size)
    clear hb hbb hg hHeld
    refine hK.out _ _ hS2 (fun hHeld => ?_)
    clear hK K
    refine norm_ (a' := ?_) ?_ ?_
    rotate_left
    · show Act.put _ (some 4) _ = _
      simp only [Act.put, List.setIfInBounds_toArray, List.set_cons_zero, List.set_cons_succ, i64_w, i32_w]
      rfl
    refine one_ (i := 12) (N := (some 20)) #[true, true, true, true, true, true, true, true, true, true, true, true, true, false, false, false, true, false, false] rfl rfl (by kernel_rfl) (by decide) (fun K hK => ?_)
    refine goes_ Try.func39 (by kernel_rfl) rfl #[.agg #[.int .i64 s.pr, .int .i64 s.bal, .string s.val], .int .i64 x3, .string x5] (by rfl) rfl rfl (by (try simp only [List.map_toArray, List.map_cons, List.map_nil]); first | done | rfl) ?_
    (with_reducible refine (HSP.out _).mono ?_)
    rintro e wa ⟨rfl, hB⟩
    refine ⟨_, rfl, ?_⟩
    have hS2 : Below W0.heap.size W0 wa := below_step hHeld hB
    (try (have n_ := Aside0.mk (blk_below HBA.out hB); clear HBA; have HBA := n_; clear n_))
    clear hB hHeld
    refine hK.out _ _ hS2 (fun hHeld => ?_)
    clear hK K
    refine norm_ (a' := ?_) ?_ ?_
    rotate_left
    · show Act.put _ (some 20) _ = _
      simp only [Act.put, List.setIfInBounds_toArray, List.set_cons_zero, List.set_cons_succ, i64_w, i32_w]
      rfl
    refine pure_ (i := 13) (N := (some 7)) (v := ?_) (a' := ?_) #[true, true, true, true, true, true, true, true, true, true, true, true, true, true, false, false, true, false, false] rfl rfl (by kernel_rfl) (fun _ _ _ h => h) (Or.inl ⟨by rfl, ?_⟩) ?_ ?_
    rotate_left
    · intro w'
      go_simp
      first | done | with_reducible rfl
    rotate_left
    · simp only [Act.put, List.setIfInBounds_toArray, List.set_cons_zero, List.set_cons_succ, i64_w, i32_w]
      rfl
    refine pure_ (i := 14) (N := (some 21)) (v := ?_) (a' := ?_) #[true, true, true, true, true, true, true, true, true, true, true, true, true, true, true, false, true, false, false] rfl rfl (by kernel_rfl) (fun _ _ _ h => h) (Or.inl ⟨by rfl, ?_⟩) ?_ ?_
    rotate_left
    · intro w'
      go_simp
      first | done | with_reducible rfl
    rotate_left
    · simp only [Act.put, List.setIfInBounds_toArray, List.set_cons_zero, List.set_cons_succ, i64_w, i32_w]
      rfl
    refine pure_ (i := 15) (N := (some 22)) (v := ?_) (a' := ?_) #[true, true, true, true, true, true, true, true, true, true, true, true, true, true, true, true, true, false, false] rfl rfl (by kernel_rfl) (fun _ _ _ h => h) (Or.inl ⟨by rfl, ?_⟩) ?_ ?_
    rotate_left
    · intro w'
      go_simp
      first | done | with_reducible rfl
    rotate_left
    · simp only [Act.put, List.setIfInBounds_toArray, List.set_cons_zero, List.set_cons_succ, i64_w, i32_w]
      rfl
    refine last_ (i := 17) (N := none) #[true, true, true, true, true, true, true, true, true, true, true, true, true, true, true, true, true, true, false] rfl rfl (by kernel_rfl) (by decide) (fun K hK => ?_)
    have z0 := (blk_cell HBA.out 0).trans rfl
    have z1 := (blk_cell HBA.out 1).trans rfl
    have z2 := (blk_cell HBA.out 2).trans rfl
    have y0 := blk_frozen HBA.out 0
    have y1 := blk_frozen HBA.out 1
    have y2 := blk_frozen HBA.out 2
    refine skip_ (by rfl) rfl (by first | (go_simp; done) | (go_simp; rfl)) ?_
    refine hK.out _ _ ?_
    clear hK K
    refine pure_ (i := 18) (N := (some 5)) (v := ?_) (a' := ?_) #[true, true, true, true, true, true, true, true, true, true, true, true, true, true, true, true, true, true, true] rfl rfl (by kernel_rfl) (fun _ _ _ h => h) (Or.inl ⟨by rfl, ?_⟩) ?_ ?_
    rotate_left
    · intro w'
      go_simp
      first | done | with_reducible rfl
    rotate_left
    · simp only [Act.put, List.setIfInBounds_toArray, List.set_cons_zero, List.set_cons_succ, i64_w, i32_w]
      rfl
    refine done_ (by kernel_rfl) ?_
    all_goals
      have A6 : Aside0 ((((wa.setCell ⟨gA, 0, none⟩ (.int .i64 x3)).setCell ⟨gA, 1, none⟩ (.int .i64 x3)).setCell ⟨gA, 2, none⟩ (.string x5)).heap[gA]? = some (.cells (encS ⟨x3, x3, x5⟩).toArray 36 (0, 0))) := ⟨blk_put (blk_put (blk_put HBA.out 0 (.int .i64 x3) rfl) 1 (.int .i64 x3) rfl) 2 (.string x5) rfl⟩
      have B6 := Aside0.mk (((hHeld.setCell (p := ⟨gA, 0, none⟩) HGA.out (.int .i64 x3)).setCell (p := ⟨gA, 1, none⟩) HGA.out (.int .i64 x3)).setCell (p := ⟨gA, 2, none⟩) HGA.out (.string x5))
      clear HBA hHeld z0 z1 z2 y0 y1 y2
      generalize ((wa.setCell ⟨gA, 0, none⟩ (.int .i64 x3)).setCell ⟨gA, 1, none⟩ (.int .i64 x3)).setCell ⟨gA, 2, none⟩ (.string x5) = w6 at *
      have I6 := Aside0.mk (ID.out.below B6.out)
      have X6 := Aside0.mk (blk_below (OD.out.blk 0 rfl) B6.out)
      have T6 := Aside0.mk (Turn.below (F := Foot L g) (show Below w.heap.size w w6 from below_step OD.out.below B6.out))
      have GX := Aside0.mk (OD.out.new_le 0 rfl)
      have GA := Aside0.mk (Nat.le_trans OD.out.size HGA.out)
      clear ID OD B6 HGA c0 e2 e3 e5 r0 r1 r2
      go_wp2_with fail
      have ID := Aside0.mk I6.out.drew
      have c0 : w6.drew.cell? ⟨g, 0, none⟩ = some (.slice (some ⟨L.gs, 0, none⟩) n n) := by rw [← hn]; exact (blk_cell ID.out.blk 0).trans rfl
      have e2 : w6.drew.cell? ⟨gX, 2, none⟩ = some (.int .i64 (i : Int)) := (blk_cell X6.out 2).trans rfl
      have r0 : w6.drew.cell? ⟨gA, 0, none⟩ = some (.int .i64 x3) := (blk_cell A6.out 0).trans rfl
      have r1 : w6.drew.cell? ⟨gA, 1, none⟩ = some (.int .i64 x3) := (blk_cell A6.out 1).trans rfl
      have r2 : w6.drew.cell? ⟨gA, 2, none⟩ = some (.string x5) := (blk_cell A6.out 2).trans rfl
      have XD : Aside0 (w6.drew.heap[gX]? = _) := ⟨X6.out⟩
      have TD := Aside0.mk T6.out.drew
      clear I6 A6 X6 T6
      refine start_ (n := 9) (S := fun w' => Below (w6).drew.heap.size (w6).drew w') (ds := [8]) #[false, false, false, false, false, false, false, false, false] (by kernel_rfl) rfl rfl (Below.refl _ _) (fun hHeld => ?_)
      generalize (w6).drew = W0 at *
      refine pure_ (i := 0) (N := (some 25)) (v := ?_) (a' := ?_) #[true, false, false, false, false, false, false, false, false] rfl rfl (by kernel_rfl) (fun _ _ _ h => h) (Or.inl ⟨by rfl, ?_⟩) ?_ ?_
      rotate_left
      · intro w'
        go_simp
        first | done | with_reducible rfl
      rotate_left
      · simp only [Act.put, List.setIfInBounds_toArray, List.set_cons_zero, List.set_cons_succ, i64_w, i32_w]
        rfl
      refine pure_ (i := 1) (N := (some 26)) (v := ?_) (a' := ?_) #[true, true, false, false, false, false, false, false, false] rfl rfl (by kernel_rfl) (fun _ _ _ h => h) (Or.inl ⟨by rfl, ?_⟩) ?_ ?_
      rotate_left
      · intro w'
        skip
        go_simp
        first | done | with_reducible rfl
      rotate_left
      · simp only [Act.put, List.setIfInBounds_toArray, List.set_cons_zero, List.set_cons_succ, i64_w, i32_w]
        rfl
      refine pure_ (i := 2) (N := (some 27)) (v := ?_) (a' := ?_) #[true, true, true, false, false, false, false, false, false] rfl rfl (by kernel_rfl) (fun _ _ _ h => h) (Or.inl ⟨by rfl, ?_⟩) ?_ ?_
      rotate_left
      · intro w'
        go_simp
        first | done | with_reducible rfl
      rotate_left
      · simp only [Act.put, List.setIfInBounds_toArray, List.set_cons_zero, List.set_cons_succ, i64_w, i32_w]
        rfl
      refine take_ (i := 3) (N := (some 28)) (v := ?_) (a' := ?_) #[true, true, true, true, false, false, false, false, false] rfl rfl (by kernel_rfl) (fun _ _ _ h => h) (Or.inl ⟨by rfl, ?_⟩) hHeld ?_ ?_
      rotate_left
      · intro w' hS
        have s0 := pw_cell_below hS c0
        go_simp
        first | done | with_reducible rfl
      rotate_left
      · simp only [Act.put, List.setIfInBounds_toArray, List.set_cons_zero, List.set_cons_succ, i64_w, i32_w]
        rfl
      refine pure_ (i := 4) (N := (some 29)) (v := ?_) (a' := ?_) #[true, true, true, true, true, false, false, false, false] rfl rfl (by kernel_rfl) (fun _ _ _ h => h) (Or.inl ⟨by rfl, ?_⟩) ?_ ?_
      rotate_left
      · intro w'
        go_simp
        first | done | with_reducible rfl
      rotate_left
      · simp only [Act.put, List.setIfInBounds_toArray, List.set_cons_zero, List.set_cons_succ, i64_w, i32_w]
        rfl
      refine take_ (i := 5) (N := (some 30)) (v := ?_) (a' := ?_) #[true, true, true, true, true, true, false, false, false] rfl rfl (by kernel_rfl) (fun _ _ _ h => h) (Or.inl ⟨by rfl, ?_⟩) hHeld ?_ ?_
      rotate_left
      · intro w' hS
        have s0 := pw_cell_below hS e2
        go_simp
        first | done | with_reducible rfl
      rotate_left
      · simp only [Act.put, List.setIfInBounds_toArray, List.set_cons_zero, List.set_cons_succ, i64_w, i32_w]
        rfl
      refine take_ (i := 6) (N := (some 31)) (v := ?_) (a' := ?_) #[true, true, true, true, true, true, true, false, false] rfl rfl (by kernel_rfl) (fun _ _ _ h => h) (Or.inl ⟨by rfl, ?_⟩) hHeld ?_ ?_
      rotate_left
      · intro w' hS
        have s0 := pw_cell_below hS r0
        have s1 := pw_cell_below hS r1
        have s2 := pw_cell_below hS r2
        go_simp
        first | done | with_reducible rfl
      rotate_left
      · simp only [Act.put, List.setIfInBounds_toArray, List.set_cons_zero, List.set_cons_succ, i64_w, i32_w]
        rfl
      refine pure_ (i := 7) (N := (some 32)) (v := ?_) (a' := ?_) #[true, true, true, true, true, true, true, true, false] rfl rfl (by kernel_rfl) (fun _ _ _ h => h) (Or.inl ⟨by rfl, ?_⟩) ?_ ?_
      rotate_left
      · intro w'
        go_simp
        first | done | with_reducible rfl
      rotate_left
      · simp only [Act.put, List.setIfInBounds_toArray, List.set_cons_zero, List.set_cons_succ, i64_w, i32_w]
        rfl
      refine last_ (i := 8) (N := none) #[true, true, true, true, true, true, true, true, true] rfl rfl (by kernel_rfl) (by decide) (fun K hK => ?_)
      have z0 := (ID.out.slot_cell i 0 s HSL.out (by decide)).trans (show (encS s)[0]? = some (Value.int .i64 s.pr) from rfl)
      have z1 := (ID.out.slot_cell i 1 s HSL.out (by decide)).trans (show (encS s)[1]? = some (Value.int .i64 s.bal) from rfl)
      have z2 := (ID.out.slot_cell i 2 s HSL.out (by decide)).trans (show (encS s)[2]? = some (Value.string s.val) from rfl)
      have y0 := ID.out.slot_frozen (i * 3)
      have y1 := ID.out.slot_frozen (i * 3 + 1)
      have y2 := ID.out.slot_frozen (i * 3 + 2)
      rw [Nat.add_zero] at z0
      refine skip_ (by rfl) rfl (by first | (go_simp; done) | (go_simp; rfl)) ?_
      refine hK.out _ _ ?_
      clear hK K
      refine done_ (by kernel_rfl) ?_
      have P8 : Aside0 (IsD base (((W0.setCell ⟨L.gs, i * 3, none⟩ (.int .i64 x3)).setCell ⟨L.gs, i * 3 + 1, none⟩ (.int .i64 x3)).setCell ⟨L.gs, i * 3 + 2, none⟩ (.string x5)) g L { d with sl := d.sl.set i ⟨x3, x3, x5⟩ } ∧
          Turn W0 (((W0.setCell ⟨L.gs, i * 3, none⟩ (.int .i64 x3)).setCell ⟨L.gs, i * 3 + 1, none⟩ (.int .i64 x3)).setCell ⟨L.gs, i * 3 + 2, none⟩ (.string x5)) (Foot L g) (Foot L g)) := ⟨ID.out.put_sl i ⟨x3, x3, x5⟩ (by rw [hn]; omega)⟩
      generalize ((W0.setCell ⟨L.gs, i * 3, none⟩ (.int .i64 x3)).setCell ⟨L.gs, i * 3 + 1, none⟩ (.int .i64 x3)).setCell ⟨L.gs, i * 3 + 2, none⟩ (.string x5) = w8 at *
      have T8 := Aside0.mk (TD.out.trans P8.out.2)
      have X8 := Aside0.mk ((P8.out.2.keep gX (blk_lt XD.out) (fun hf => by have := HFT.out gX hf; have := GX.out; omega)).trans XD.out)
      have I8 := Aside0.mk P8.out.1
      clear P8 ID XD TD z0 z1 z2 y0 y1 y2 c0 e2 r0 r1 r2 hHeld GA
      go_wp2_with fail
      have ID := Aside0.mk I8.out.drew
      have XD : Aside0 (w8.drew.heap[gX]? = _) := ⟨X8.out⟩
      have TD := Aside0.mk T8.out.drew
      have c5 : w8.drew.cell? ⟨g, 5, none⟩ = some (.map (some L.gt)) := (blk_cell ID.out.blk 5).trans rfl
      have e3 : w8.drew.cell? ⟨gX, 3, none⟩ = some (.int .i64 x3) := (blk_cell XD.out 3).trans rfl
      clear I8 X8 T8
      refine start_ (n := 9) (S := fun w' => Below (w8).drew.heap.size (w8).drew w') (ds := [8]) #[false, false, false, false, false, false, false, false, false] (by kernel_rfl) rfl rfl (Below.refl _ _) (fun hHeld => ?_)
      generalize (w8).drew = W0 at *
      refine pure_ (i := 0) (N := (some 33)) (v := ?_) (a' := ?_) #[true, false, false, false, false, false, false, false, false] rfl rfl (by kernel_rfl) (fun _ _ _ h => h) (Or.inl ⟨by rfl, ?_⟩) ?_ ?_
      rotate_left
      · intro w'
        go_simp
        first | done | with_reducible rfl
      rotate_left
      · simp only [Act.put, List.setIfInBounds_toArray, List.set_cons_zero, List.set_cons_succ, i64_w, i32_w]
        rfl
      refine pure_ (i := 1) (N := (some 34)) (v := ?_) (a' := ?_) #[true, true, false, false, false, false, false, false, false] rfl rfl (by kernel_rfl) (fun _ _ _ h => h) (Or.inl ⟨by rfl, ?_⟩) ?_ ?_
      rotate_left
      · intro w'
        skip
        go_simp
        first | done | with_reducible rfl
      rotate_left
      · simp only [Act.put, List.setIfInBounds_toArray, List.set_cons_zero, List.set_cons_succ, i64_w, i32_w]
        rfl
      refine pure_ (i := 2) (N := (some 35)) (v := ?_) (a' := ?_) #[true, true, true, false, false, false, false, false, false] rfl rfl (by kernel_rfl) (fun _ _ _ h => h) (Or.inl ⟨by rfl, ?_⟩) ?_ ?_
      rotate_left
      · intro w'
        go_simp
        first | done | with_reducible rfl
      rotate_left
      · simp only [Act.put, List.setIfInBounds_toArray, List.set_cons_zero, List.set_cons_succ, i64_w, i32_w]
        rfl
      refine take_ (i := 3) (N := (some 36)) (v := ?_) (a' := ?_) #[true, true, true, true, false, false, false, false, false] rfl rfl (by kernel_rfl) (fun _ _ _ h => h) (Or.inl ⟨by rfl, ?_⟩) hHeld ?_ ?_
      rotate_left
      · intro w' hS
        have s0 := pw_cell_below hS c5
        go_simp
        first | done | with_reducible rfl
      rotate_left
      · simp only [Act.put, List.setIfInBounds_toArray, List.set_cons_zero, List.set_cons_succ, i64_w, i32_w]
        rfl
      refine pure_ (i := 4) (N := (some 37)) (v := ?_) (a' := ?_) #[true, true, true, true, true, false, false, false, false] rfl rfl (by kernel_rfl) (fun _ _ _ h => h) (Or.inl ⟨by rfl, ?_⟩) ?_ ?_
      rotate_left
      · intro w'
        go_simp
        first | done | with_reducible rfl
      rotate_left
      · simp only [Act.put, List.setIfInBounds_toArray, List.set_cons_zero, List.set_cons_succ, i64_w, i32_w]
        rfl
      refine take_ (i := 5) (N := (some 38)) (v := ?_) (a' := ?_) #[true, true, true, true, true, true, false, false, false] rfl rfl (by kernel_rfl) (fun _ _ _ h => h) (Or.inl ⟨by rfl, ?_⟩) hHeld ?_ ?_
      rotate_left
      · intro w' hS
        have s0 := pw_cell_below hS e3
        go_simp
        first | done | with_reducible rfl
      rotate_left
      · simp only [Act.put, List.setIfInBounds_toArray, List.set_cons_zero, List.set_cons_succ, i64_w, i32_w]
        rfl
      refine take_ (i := 6) (N := (some 39)) (v := ?_) (a' := ?_) #[true, true, true, true, true, true, true, false, false] rfl rfl (by kernel_rfl) (fun _ _ _ h => h) (Or.inl ⟨by rfl, ?_⟩) hHeld ?_ ?_
      rotate_left
      · intro w' hS
        have s0 := (ID.out.below hS).look_tk x3 HX.out.b0 HX.out.b1
        have s1 : heldAt { d with sl := d.sl.set i ⟨x3, x3, x5⟩ } x3 = hv := HHV.out
        rw [s1] at s0
        go_simp
        first | done | with_reducible rfl
      rotate_left
      · simp only [Act.put, List.setIfInBounds_toArray, List.set_cons_zero, List.set_cons_succ, i64_w, i32_w]
        rfl
      refine one_ (i := 7) (N := (some 6)) #[true, true, true, true, true, true, true, true, false] rfl rfl (by kernel_rfl) (by decide) (fun K hK => ?_)
      refine box_step (by rfl) (N := 6) rfl (cs := #[.int .u64 0, .string ⟨#[]⟩]) (t := 61) (by first | (go_simp; done) | (go_simp; rfl)) ?_
      intro gH hg wa hb hbb
      have HBA := Aside0.mk hb
      have hS2 : Below W0.heap.size W0 wa := below_step hHeld hbb
      have HGA := Aside0.mk (show W0.heap.size ≤ gH by rw [hg]; exact hHeld.size)
      clear hb hbb hg hHeld
      refine hK.out _ _ hS2 (fun hHeld => ?_)
      clear hK K
      refine norm_ (a' := ?_) ?_ ?_
      rotate_left
      · show Act.put _ (some 6) _ = _
        simp only [Act.put, List.setIfInBounds_toArray, List.set_cons_zero, List.set_cons_succ, i64_w, i32_w]
        rfl
      refine last_ (i := 8) (N := none) #[true, true, true, true, true, true, true, true, true] rfl rfl (by kernel_rfl) (by decide) (fun K hK => ?_)
      have z0 := (blk_cell HBA.out 0).trans rfl
      have z1 := (blk_cell HBA.out 1).trans rfl
      have y0 := blk_frozen HBA.out 0
      have y1 := blk_frozen HBA.out 1
      refine skip_ (by rfl) rfl (by first | (go_simp; done) | (go_simp; rfl)) ?_
      refine hK.out _ _ ?_
      clear hK K
      refine done_ (by kernel_rfl) ?_
      have H6 : Aside0 (((wa.setCell ⟨gH, 0, none⟩ (.int .u64 hv.1)).setCell ⟨gH, 1, none⟩ (.string hv.2)).heap[gH]? = some (.cells #[.int .u64 hv.1, .string hv.2] 61 (0, 0))) := ⟨blk_put (blk_put HBA.out 0 (.int .u64 hv.1) rfl) 1 (.string hv.2) rfl⟩
      have B6 := Aside0.mk ((hHeld.setCell (p := ⟨gH, 0, none⟩) HGA.out (.int .u64 hv.1)).setCell (p := ⟨gH, 1, none⟩) HGA.out (.string hv.2))
      clear HBA hHeld z0 z1 y0 y1
      generalize (wa.setCell ⟨gH, 0, none⟩ (.int .u64 hv.1)).setCell ⟨gH, 1, none⟩ (.string hv.2) = w9 at *
      have I9 := Aside0.mk (ID.out.below B6.out)
      have X9 := Aside0.mk (blk_below XD.out B6.out)
      have T9 := Aside0.mk (TD.out.trans (Turn.below (F := Foot L g) B6.out))
      clear ID XD TD B6 HGA c5 e3
      go_wp2_with fail
      have ID := Aside0.mk I9.out.drew
      have XD : Aside0 (w9.drew.heap[gX]? = _) := ⟨X9.out⟩
      have TD := Aside0.mk T9.out.drew
      have c5 : w9.drew.cell? ⟨g, 5, none⟩ = some (.map (some L.gt)) := (blk_cell ID.out.blk 5).trans rfl
      have e2 : w9.drew.cell? ⟨gX, 2, none⟩ = some (.int .i64 (i : Int)) := (blk_cell XD.out 2).trans rfl
      have e3 : w9.drew.cell? ⟨gX, 3, none⟩ = some (.int .i64 x3) := (blk_cell XD.out 3).trans rfl
      have e5 : w9.drew.cell? ⟨gX, 5, none⟩ = some (.string x5) := (blk_cell XD.out 5).trans rfl
      have h0 : w9.drew.cell? ⟨gH, 0, none⟩ = some (.int .u64 hv.1) := (blk_cell H6.out 0).trans rfl
      clear I9 X9 T9 H6
      refine start_ (n := 15) (S := fun w' => Below (w9).drew.heap.size (w9).drew w') (ds := [14]) #[false, false, false, false, false, false, false, false, false, false, false, false, false, false, false] (by kernel_rfl) rfl rfl (Below.refl _ _) (fun hHeld => ?_)
      generalize (w9).drew = W0 at *
      refine pure_ (i := 0) (N := (some 40)) (v := ?_) (a' := ?_) #[true, false, false, false, false, false, false, false, false, false, false, false, false, false, false] rfl rfl (by kernel_rfl) (fun _ _ _ h => h) (Or.inl ⟨by rfl, ?_⟩) ?_ ?_
      rotate_left
      · intro w'
        go_simp
        first | done | with_reducible rfl
      rotate_left
      · simp only [Act.put, List.setIfInBounds_toArray, List.set_cons_zero, List.set_cons_succ, i64_w, i32_w]
        rfl
      refine pure_ (i := 1) (N := (some 41)) (v := ?_) (a' := ?_) #[true, true, false, false, false, false, false, false, false, false, false, false, false, false, false] rfl rfl (by kernel_rfl) (fun _ _ _ h => h) (Or.inl ⟨by rfl, ?_⟩) ?_ ?_
      rotate_left
      · intro w'
        skip
        go_simp
        first | done | with_reducible rfl
      rotate_left
      · simp only [Act.put, List.setIfInBounds_toArray, List.set_cons_zero, List.set_cons_succ, i64_w, i32_w]
        rfl
      refine pure_ (i := 2) (N := (some 42)) (v := ?_) (a' := ?_) #[true, true, true, false, false, false, false, false, false, false, false, false, false, false, false] rfl rfl (by kernel_rfl) (fun _ _ _ h => h) (Or.inl ⟨by rfl, ?_⟩) ?_ ?_
      rotate_left
      · intro w'
        go_simp
        first | done | with_reducible rfl
      rotate_left
      · simp only [Act.put, List.setIfInBounds_toArray, List.set_cons_zero, List.set_cons_succ, i64_w, i32_w]
        rfl
      refine take_ (i := 3) (N := (some 43)) (v := ?_) (a' := ?_) #[true, true, true, true, false, false, false, false, false, false, false, false, false, false, false] rfl rfl (by kernel_rfl) (fun _ _ _ h => h) (Or.inl ⟨by rfl, ?_⟩) hHeld ?_ ?_
      rotate_left
      · intro w' hS
        have s0 := pw_cell_below hS c5
        go_simp
        first | done | with_reducible rfl
      rotate_left
      · simp only [Act.put, List.setIfInBounds_toArray, List.set_cons_zero, List.set_cons_succ, i64_w, i32_w]
        rfl
      refine pure_ (i := 4) (N := (some 44)) (v := ?_) (a' := ?_) #[true, true, true, true, true, false, false, false, false, false, false, false, false, false, false] rfl rfl (by kernel_rfl) (fun _ _ _ h => h) (Or.inl ⟨by rfl, ?_⟩) ?_ ?_
      rotate_left
      · intro w'
        go_simp
        first | done | with_reducible rfl
      rotate_left
      · simp only [Act.put, List.setIfInBounds_toArray, List.set_cons_zero, List.set_cons_succ, i64_w, i32_w]
        rfl
      refine take_ (i := 5) (N := (some 45)) (v := ?_) (a' := ?_) #[true, true, true, true, true, true, false, false, false, false, false, false, false, false, false] rfl rfl (by kernel_rfl) (fun _ _ _ h => h) (Or.inl ⟨by rfl, ?_⟩) hHeld ?_ ?_
      rotate_left
      · intro w' hS
        have s0 := pw_cell_below hS e3
        go_simp
        first | done | with_reducible rfl
      rotate_left
      · simp only [Act.put, List.setIfInBounds_toArray, List.set_cons_zero, List.set_cons_succ, i64_w, i32_w]
        rfl
      refine pure_ (i := 6) (N := (some 46)) (v := ?_) (a' := ?_) #[true, true, true, true, true, true, true, false, false, false, false, false, false, false, false] rfl rfl (by kernel_rfl) (fun _ _ _ h => h) (Or.inl ⟨by rfl, ?_⟩) ?_ ?_
      rotate_left
      · intro w'
        go_simp
        first | done | with_reducible rfl
      rotate_left
      · simp only [Act.put, List.setIfInBounds_toArray, List.set_cons_zero, List.set_cons_succ, i64_w, i32_w]
        rfl
      refine take_ (i := 7) (N := (some 47)) (v := ?_) (a' := ?_) #[true, true, true, true, true, true, true, true, false, false, false, false, false, false, false] rfl rfl (by kernel_rfl) (fun _ _ _ h => h) (Or.inl ⟨by rfl, ?_⟩) hHeld ?_ ?_
      rotate_left
      · intro w' hS
        have s0 := pw_cell_below hS h0
        go_simp
        first | done | with_reducible rfl
      rotate_left
      · simp only [Act.put, List.setIfInBounds_toArray, List.set_cons_zero, List.set_cons_succ, i64_w, i32_w]
        rfl
      refine pure_ (i := 8) (N := (some 48)) (v := ?_) (a' := ?_) #[true, true, true, true, true, true, true, true, true, false, false, false, false, false, false] rfl rfl (by kernel_rfl) (fun _ _ _ h => h) (Or.inl ⟨by rfl, ?_⟩) ?_ ?_
      rotate_left
      · intro w'
        go_simp
        first | done | with_reducible rfl
      rotate_left
      · simp only [Act.put, List.setIfInBounds_toArray, List.set_cons_zero, List.set_cons_succ, i64_w, i32_w]
        rfl
      refine take_ (i := 9) (N := (some 49)) (v := ?_) (a' := ?_) #[true, true, true, true, true, true, true, true, true, true, false, false, false, false, false] rfl rfl (by kernel_rfl) (fun _ _ _ h => h) (Or.inl ⟨by rfl, ?_⟩) hHeld ?_ ?_
      rotate_left
      · intro w' hS
        have s0 := pw_cell_below hS e2
        go_simp
        first | done | with_reducible rfl
      rotate_left
      · simp only [Act.put, List.setIfInBounds_toArray, List.set_cons_zero, List.set_cons_succ, i64_w, i32_w]
        rfl
      refine pure_ (i := 11) (N := (some 51)) (v := ?_) (a' := ?_) #[true, true, true, true, true, true, true, true, true, true, false, true, false, false, false] rfl rfl (by kernel_rfl) (fun _ _ _ h => h) (Or.inl ⟨by rfl, ?_⟩) ?_ ?_
      rotate_left
      · intro w'
        go_simp
        first | done | with_reducible rfl
      rotate_left
      · simp only [Act.put, List.setIfInBounds_toArray, List.set_cons_zero, List.set_cons_succ, i64_w, i32_w]
        rfl
      refine take_ (i := 12) (N := (some 52)) (v := ?_) (a' := ?_) #[true, true, true, true, true, true, true, true, true, true, false, true, true, false, false] rfl rfl (by kernel_rfl) (fun _ _ _ h => h) (Or.inl ⟨by rfl, ?_⟩) hHeld ?_ ?_
      rotate_left
      · intro w' hS
        have s0 := pw_cell_below hS e5
        go_simp
        first | done | with_reducible rfl
      rotate_left
      · simp only [Act.put, List.setIfInBounds_toArray, List.set_cons_zero, List.set_cons_succ, i64_w, i32_w]
        rfl
      refine one_ (i := 10) (N := (some 50)) #[true, true, true, true, true, true, true, true, true, true, true, true, true, false, false] rfl rfl (by kernel_rfl) (by decide) (fun K hK => ?_)
      refine goes_ Try.func40 (by kernel_rfl) rfl #[.int .u64 hv.1, .int .i64 (i : Int)] (by rfl) rfl rfl (by (try simp only [List.map_toArray, List.map_cons, List.map_nil]); first | done | rfl) ?_
      (with_reducible refine (HWI.out _).mono ?_)
      rintro e wa ⟨rfl, hB⟩
      obtain ⟨dm, hdm⟩ := hB.out
      refine ⟨_, rfl, ?_⟩
      have hS2 : Below W0.heap.size W0 wa := by rw [hdm]; exact pw_below_drewN hHeld dm
      clear hB hHeld hdm dm
      refine hK.out _ _ hS2 (fun hHeld => ?_)
      clear hK K
      refine norm_ (a' := ?_) ?_ ?_
      rotate_left
      · show Act.put _ (some 50) _ = _
        simp only [Act.put, List.setIfInBounds_toArray, List.set_cons_zero, List.set_cons_succ, i64_w, i32_w]
        rfl
      refine pure_ (i := 13) (N := (some 53)) (v := ?_) (a' := ?_) #[true, true, true, true, true, true, true, true, true, true, true, true, true, true, false] rfl rfl (by kernel_rfl) (fun _ _ _ h => h) (Or.inl ⟨by rfl, ?_⟩) ?_ ?_
      rotate_left
      · intro w'
        go_simp
        first | done | with_reducible rfl
      rotate_left
      · simp only [Act.put, List.setIfInBounds_toArray, List.set_cons_zero, List.set_cons_succ, i64_w, i32_w]
        rfl
      refine last_ (i := 14) (N := none) #[true, true, true, true, true, true, true, true, true, true, true, true, true, true, true] rfl rfl (by kernel_rfl) (by decide) (fun K hK => ?_)
      have IE := Aside0.mk (ID.out.below hHeld)
      obtain ⟨wb, hrun, hM, hT⟩ := IE.out.tk.store (key := kInt x3) (val := held (bput hv.1 i, x5)) keyedInt Try.underlying41 (keyInt x3 HX.out.b0 HX.out.b1)
      have hrun2 : (Instr.mapUpdate 41 (.map (some L.gt)) (.int .i64 x3) (.agg #[.int .u64 ((bput hv.1 i : Nat) : Int), .string x5])).run Try.prog wa = .ok () wb := hrun
      have HP := Aside0.mk (IE.out.put_tk hM hT)
      have HBE := Aside0.mk hHeld
      clear hrun hM hT hHeld
      refine skip_ (w1 := wb) (by rfl) rfl (by first | (go_simp; done) | (go_simp; rfl)) ?_
      clear hrun2
      refine hK.out _ _ ?_
      clear hK K
      refine done_ (by kernel_rfl) ?_
      have X9 := Aside0.mk ((HP.out.2.keep gX (Nat.lt_of_lt_of_le (blk_lt XD.out) HBE.out.size) (fun hf => by have := HFT.out gX hf; have := GX.out; omega)).trans (blk_below XD.out HBE.out))
      have T9 := Aside0.mk ((TD.out.trans (Turn.below (F := Foot L g) HBE.out)).trans HP.out.2)
      have I9 := Aside0.mk HP.out.1
      clear HP HBE ID XD TD c5 e2 e3 e5 h0 IE
      go_wp2_with fail
      have ID := Aside0.mk I9.out.drew
      have XD : Aside0 (wb.drew.heap[gX]? = _) := ⟨X9.out⟩
      have TD := Aside0.mk T9.out.drew
      have cL : wb.drew.cell? ⟨g, 2, none⟩ = some L.vl := (blk_cell ID.out.blk 2).trans rfl
      have e1 : wb.drew.cell? ⟨gX, 1, none⟩ = some (.int .i64 x1) := (blk_cell XD.out 1).trans rfl
      have e2 : wb.drew.cell? ⟨gX, 2, none⟩ = some (.int .i64 (i : Int)) := (blk_cell XD.out 2).trans rfl
      have e3 : wb.drew.cell? ⟨gX, 3, none⟩ = some (.int .i64 x3) := (blk_cell XD.out 3).trans rfl
      clear I9 X9 T9
      refine start_ (n := 17) (S := fun w' => Below (wb).drew.heap.size (wb).drew w') (ds := [13, 16]) #[false, false, false, false, false, false, false, false, false, false, false, false, false, false, false, false, false] (by kernel_rfl) rfl rfl (Below.refl _ _) (fun hHeld => ?_)
      generalize (wb).drew = W0 at *
      refine pure_ (i := 0) (N := (some 54)) (v := ?_) (a' := ?_) #[true, false, false, false, false, false, false, false, false, false, false, false, false, false, false, false, false] rfl rfl (by kernel_rfl) (fun _ _ _ h => h) (Or.inl ⟨by rfl, ?_⟩) ?_ ?_
      rotate_left
      · intro w'
        go_simp
        first | done | with_reducible rfl
      rotate_left
      · simp only [Act.put, List.setIfInBounds_toArray, List.set_cons_zero, List.set_cons_succ, i64_w, i32_w]
        rfl
      refine pure_ (i := 1) (N := (some 55)) (v := ?_) (a' := ?_) #[true, true, false, false, false, false, false, false, false, false, false, false, false, false, false, false, false] rfl rfl (by kernel_rfl) (fun _ _ _ h => h) (Or.inl ⟨by rfl, ?_⟩) ?_ ?_
      rotate_left
      · intro w'
        go_simp
        first | done | with_reducible rfl
      rotate_left
      · simp only [Act.put, List.setIfInBounds_toArray, List.set_cons_zero, List.set_cons_succ, i64_w, i32_w]
        rfl
      refine pure_ (i := 2) (N := (some 56)) (v := ?_) (a' := ?_) #[true, true, true, false, false, false, false, false, false, false, false, false, false, false, false, false, false] rfl rfl (by kernel_rfl) (fun _ _ _ h => h) (Or.inl ⟨by rfl, ?_⟩) ?_ ?_
      rotate_left
      · intro w'
        skip
        go_simp
        first | done | with_reducible rfl
      rotate_left
      · simp only [Act.put, List.setIfInBounds_toArray, List.set_cons_zero, List.set_cons_succ, i64_w, i32_w]
        rfl
      refine pure_ (i := 3) (N := (some 57)) (v := ?_) (a' := ?_) #[true, true, true, true, false, false, false, false, false, false, false, false, false, false, false, false, false] rfl rfl (by kernel_rfl) (fun _ _ _ h => h) (Or.inl ⟨by rfl, ?_⟩) ?_ ?_
      rotate_left
      · intro w'
        go_simp
        first | done | with_reducible rfl
      rotate_left
      · simp only [Act.put, List.setIfInBounds_toArray, List.set_cons_zero, List.set_cons_succ, i64_w, i32_w]
        rfl
      refine take_ (i := 4) (N := (some 58)) (v := ?_) (a' := ?_) #[true, true, true, true, true, false, false, false, false, false, false, false, false, false, false, false, false] rfl rfl (by kernel_rfl) (fun _ _ _ h => h) (Or.inl ⟨by rfl, ?_⟩) hHeld ?_ ?_
      rotate_left
      · intro w' hS
        have s0 := pw_cell_below hS cL
        go_simp
        first | done | with_reducible rfl
      rotate_left
      · simp only [Act.put, List.setIfInBounds_toArray, List.set_cons_zero, List.set_cons_succ, i64_w, i32_w]
        rfl
      refine pure_ (i := 5) (N := (some 59)) (v := ?_) (a' := ?_) #[true, true, true, true, true, true, false, false, false, false, false, false, false, false, false, false, false] rfl rfl (by kernel_rfl) (fun _ _ _ h => h) (Or.inl ⟨by rfl, ?_⟩) ?_ ?_
      rotate_left
      · intro w'
        go_simp
        first | done | with_reducible rfl
      rotate_left
      · simp only [Act.put, List.setIfInBounds_toArray, List.set_cons_zero, List.set_cons_succ, i64_w, i32_w]
        rfl
      refine take_ (i := 6) (N := (some 60)) (v := ?_) (a' := ?_) #[true, true, true, true, true, true, true, false, false, false, false, false, false, false, false, false, false] rfl rfl (by kernel_rfl) (fun _ _ _ h => h) (Or.inl ⟨by rfl, ?_⟩) hHeld ?_ ?_
      rotate_left
      · intro w' hS
        have s0 := pw_cell_below hS e2
        go_simp
        first | done | with_reducible rfl
      rotate_left
      · simp only [Act.put, List.setIfInBounds_toArray, List.set_cons_zero, List.set_cons_succ, i64_w, i32_w]
        rfl
      refine pure_ (i := 7) (N := (some 61)) (v := ?_) (a' := ?_) #[true, true, true, true, true, true, true, true, false, false, false, false, false, false, false, false, false] rfl rfl (by kernel_rfl) (fun _ _ _ h => h) (Or.inl ⟨by rfl, ?_⟩) ?_ ?_
      rotate_left
      · intro w'
        go_simp
        first | done | with_reducible rfl
      rotate_left
      · simp only [Act.put, List.setIfInBounds_toArray, List.set_cons_zero, List.set_cons_succ, i64_w, i32_w]
        rfl
      refine take_ (i := 8) (N := (some 62)) (v := ?_) (a' := ?_) #[true, true, true, true, true, true, true, true, true, false, false, false, false, false, false, false, false] rfl rfl (by kernel_rfl) (fun _ _ _ h => h) (Or.inl ⟨by rfl, ?_⟩) hHeld ?_ ?_
      rotate_left
      · intro w' hS
        have s0 := pw_cell_below hS e1
        go_simp
        first | done | with_reducible rfl
      rotate_left
      · simp only [Act.put, List.setIfInBounds_toArray, List.set_cons_zero, List.set_cons_succ, i64_w, i32_w]
        rfl
      refine pure_ (i := 9) (N := (some 63)) (v := ?_) (a' := ?_) #[true, true, true, true, true, true, true, true, true, true, false, false, false, false, false, false, false] rfl rfl (by kernel_rfl) (fun _ _ _ h => h) (Or.inl ⟨by rfl, ?_⟩) ?_ ?_
      rotate_left
      · intro w'
        go_simp
        first | done | with_reducible rfl
      rotate_left
      · simp only [Act.put, List.setIfInBounds_toArray, List.set_cons_zero, List.set_cons_succ, i64_w, i32_w]
        rfl
      refine take_ (i := 10) (N := (some 64)) (v := ?_) (a' := ?_) #[true, true, true, true, true, true, true, true, true, true, true, false, false, false, false, false, false] rfl rfl (by kernel_rfl) (fun _ _ _ h => h) (Or.inl ⟨by rfl, ?_⟩) hHeld ?_ ?_
      rotate_left
      · intro w' hS
        have s0 := pw_cell_below hS e3
        go_simp
        first | done | with_reducible rfl
      rotate_left
      · simp only [Act.put, List.setIfInBounds_toArray, List.set_cons_zero, List.set_cons_succ, i64_w, i32_w]
        rfl
      refine pure_ (i := 11) (N := (some 65)) (v := ?_) (a' := ?_) #[true, true, true, true, true, true, true, true, true, true, true, true, false, false, false, false, false] rfl rfl (by kernel_rfl) (fun _ _ _ h => h) (Or.inl ⟨by rfl, ?_⟩) ?_ ?_
      rotate_left
      · intro w'
        go_simp
        first | done | with_reducible rfl
      rotate_left
      · simp only [Act.put, List.setIfInBounds_toArray, List.set_cons_zero, List.set_cons_succ, i64_w, i32_w]
        rfl
      refine one_ (i := 12) (N := (some 66)) #[true, true, true, true, true, true, true, true, true, true, true, true, true, false, false, false, false] rfl rfl (by kernel_rfl) (by decide) (fun K hK => ?_)
      refine value_ (v := .slice (some ⟨W0.heap.size, 0, none⟩) 1 1) (w1 := W0.alloc (.cells (encL ⟨3, i, x1, x3, 0, e0⟩).toArray 49)) (by rfl) rfl (by first | (go_simp; done) | (go_simp; rfl)) ?_
      have hS2 : Below W0.heap.size W0 (W0.alloc (.cells (encL ⟨3, i, x1, x3, 0, e0⟩).toArray 49)) := below_alloc (Below.refl _ _) _
      refine hK.out _ _ hS2 (fun hHeld => ?_)
      clear hK K
      refine norm_ (a' := ?_) ?_ ?_
      rotate_left
      · show Act.put _ (some 66) _ = _
        simp only [Act.put, List.setIfInBounds_toArray, List.set_cons_zero, List.set_cons_succ, i64_w, i32_w]
        rfl
      refine last_ (i := 13) (N := (some 67)) #[true, true, true, true, true, true, true, true, true, true, true, true, true, true, false, false, false] rfl rfl (by kernel_rfl) (by decide) (fun K hK => ?_)
      refine Kd.R_append_step (P := Try.prog) KL (w0 := W0) (W := W0) base (by rfl) (.tmp 58) (.tmp 66) 42 49 (.agg #[.int .i64 0, .int .i64 0, .int .i64 0, .int .i64 0, .int .i64 0, .string ⟨#[]⟩]) 56 rfl Try.underlying42 info_L rfl (by decide) (by decide) L.vl d.lt ⟨3, i, x1, x3, 0, e0⟩ (encL ⟨3, i, x1, x3, 0, e0⟩) (fun _ => True) (fun _ => False) rfl rfl rfl (fun _ h => h.elim) (fun _ _ => trivial) ID.out.lt (Below.refl _ _) (by have := HB.out; have := TD.out.size; omega) (by have := HL.out; omega) ?_
      intro v1 w1 hr1 hb1 hg1 hat1
      have hgb := ID.out.blk_lt_ hg1
      have z2 := (blk_cell hgb 2).trans rfl
      have y2 := blk_frozen hgb 2
      have HA := Aside0.mk (ID.out.app_lt hr1 hg1 hat1)
      obtain ⟨A1, m1, c1, ev1⟩ := R_sl hr1
      clear hr1 hb1 hg1 hat1 hgb
      subst ev1
      refine hK.out _ _ ?_
      clear hK K
      refine norm_ (a' := ?_) ?_ ?_
      rotate_left
      · show Act.put _ (some 67) _ = _
        simp only [Act.put, List.setIfInBounds_toArray, List.set_cons_zero, List.set_cons_succ, i64_w, i32_w]
        rfl
      refine pure_ (i := 14) (N := (some 68)) (v := ?_) (a' := ?_) #[true, true, true, true, true, true, true, true, true, true, true, true, true, true, true, false, false] rfl rfl (by kernel_rfl) (fun _ _ _ h => h) (Or.inl ⟨by rfl, ?_⟩) ?_ ?_
      rotate_left
      · intro w'
        skip
        go_simp
        first | done | with_reducible rfl
      rotate_left
      · simp only [Act.put, List.setIfInBounds_toArray, List.set_cons_zero, List.set_cons_succ, i64_w, i32_w]
        rfl
      refine pure_ (i := 15) (N := (some 69)) (v := ?_) (a' := ?_) #[true, true, true, true, true, true, true, true, true, true, true, true, true, true, true, true, false] rfl rfl (by kernel_rfl) (fun _ _ _ h => h) (Or.inl ⟨by rfl, ?_⟩) ?_ ?_
      rotate_left
      · intro w'
        go_simp
        first | done | with_reducible rfl
      rotate_left
      · simp only [Act.put, List.setIfInBounds_toArray, List.set_cons_zero, List.set_cons_succ, i64_w, i32_w]
        rfl
      refine last_ (i := 16) (N := none) #[true, true, true, true, true, true, true, true, true, true, true, true, true, true, true, true, true] rfl rfl (by kernel_rfl) (by decide) (fun K hK => ?_)
      refine skip_ (by rfl) rfl (by first | (go_simp; done) | (go_simp; rfl)) ?_
      refine hK.out _ _ ?_
      clear hK K
      refine done_ (by kernel_rfl) ?_
      go_wp2_with fail
      go_end0
      refine ⟨rfl, _, ?_, TD.out.trans HA.out.2⟩
      unfold accD
      rw [if_pos (show isB x3 ∧ (slot d (i : Int)).pr ≤ x3 by rw [HS.out]; exact HC.out)]
      show IsD base _ g _ { d with sl := d.sl.set (i : Int).toNat ⟨x3, x3, x5⟩, tk := upd d.tk x3 (some (bput (whoOf d x3) (i : Int).toNat, x5)), lt := d.lt ++ [⟨3, (i : Int), x1, x3, 0, e0⟩] }
      rw [whoOf_at, HHV.out, Int.toNat_natCast]
      exact HA.out.1
  · rw [if_neg hc] at hsp
    have HSP := Aside0.mk (fun W => slot_Slot_Accept.calls s.pr s.bal s.val x3 x5 s.pr s.bal s.val false W hsp)
    have HC := Aside0.mk hc
    clear hsp hc
    refine start_ (n := 19) (S := fun w' => Below (W_).drew.heap.size (W_).drew w') (ds := [17]) #[false, false, false, false, false, false, false, false, false, false, false, false, false, false, false, false, false, false, false] (by kernel_rfl) rfl rfl (Below.refl _ _) (fun hHeld => ?_)
    generalize (W_).drew = W0 at *
    refine pure_ (i := 0) (N := (some 8)) (v := ?_) (a' := ?_) #[true, false, false, false, false, false, false, false, false, false, false, false, false, false, false, false, false, false, false] rfl rfl (by kernel_rfl) (fun _ _ _ h => h) (Or.inl ⟨by rfl, ?_⟩) ?_ ?_
    rotate_left
    · intro w'
      go_simp
      first | done | with_reducible rfl
    rotate_left
    · simp only [Act.put, List.setIfInBounds_toArray, List.set_cons_zero, List.set_cons_succ, i64_w, i32_w]
      rfl
    refine pure_ (i := 1) (N := (some 9)) (v := ?_) (a' := ?_) #[true, true, false, false, false, false, false, false, false, false, false, false, false, false, false, false, false, false, false] rfl rfl (by kernel_rfl) (fun _ _ _ h => h) (Or.inl ⟨by rfl, ?_⟩) ?_ ?_
    rotate_left
    · intro w'
      skip
      go_simp
      first | done | with_reducible rfl
    rotate_left
    · simp only [Act.put, List.setIfInBounds_toArray, List.set_cons_zero, List.set_cons_succ, i64_w, i32_w]
      rfl
    refine pure_ (i := 2) (N := (some 10)) (v := ?_) (a' := ?_) #[true, true, true, false, false, false, false, false, false, false, false, false, false, false, false, false, false, false, false] rfl rfl (by kernel_rfl) (fun _ _ _ h => h) (Or.inl ⟨by rfl, ?_⟩) ?_ ?_
    rotate_left
    · intro w'
      go_simp
      first | done | with_reducible rfl
    rotate_left
    · simp only [Act.put, List.setIfInBounds_toArray, List.set_cons_zero, List.set_cons_succ, i64_w, i32_w]
      rfl
    refine take_ (i := 3) (N := (some 11)) (v := ?_) (a' := ?_) #[true, true, true, true, false, false, false, false, false, false, false, false, false, false, false, false, false, false, false] rfl rfl (by kernel_rfl) (fun _ _ _ h => h) (Or.inl ⟨by rfl, ?_⟩) hHeld ?_ ?_
    rotate_left
    · intro w' hS
      have s0 := pw_cell_below hS c0
      go_simp
      first | done | with_reducible rfl
    rotate_left
    · simp only [Act.put, List.setIfInBounds_toArray, List.set_cons_zero, List.set_cons_succ, i64_w, i32_w]
      rfl
    refine pure_ (i := 4) (N := (some 12)) (v := ?_) (a' := ?_) #[true, true, true, true, true, false, false, false, false, false, false, false, false, false, false, false, false, false, false] rfl rfl (by kernel_rfl) (fun _ _ _ h => h) (Or.inl ⟨by rfl, ?_⟩) ?_ ?_
    rotate_left
    · intro w'
      go_simp
      first | done | with_reducible rfl
    rotate_left
    · simp only [Act.put, List.setIfInBounds_toArray, List.set_cons_zero, List.set_cons_succ, i64_w, i32_w]
      rfl
    refine take_ (i := 5) (N := (some 13)) (v := ?_) (a' := ?_) #[true, true, true, true, true, true, false, false, false, false, false, false, false, false, false, false, false, false, false] rfl rfl (by kernel_rfl) (fun _ _ _ h => h) (Or.inl ⟨by rfl, ?_⟩) hHeld ?_ ?_
    rotate_left
    · intro w' hS
      have s0 := pw_cell_below hS e2
      go_simp
      first | done | with_reducible rfl
    rotate_left
    · simp only [Act.put, List.setIfInBounds_toArray, List.set_cons_zero, List.set_cons_succ, i64_w, i32_w]
      rfl
    refine pure_ (i := 6) (N := (some 14)) (v := ?_) (a' := ?_) #[true, true, true, true, true, true, true, false, false, false, false, false, false, false, false, false, false, false, false] rfl rfl (by kernel_rfl) (fun _ _ _ h => h) (Or.inl ⟨by rfl, ?_⟩) ?_ ?_
    rotate_left
    · intro w'
      go_simp
      first | done | with_reducible rfl
    rotate_left
    · simp only [Act.put, List.setIfInBounds_toArray, List.set_cons_zero, List.set_cons_succ, i64_w, i32_w]
      rfl
    refine take_ (i := 7) (N := (some 15)) (v := ?_) (a' := ?_) #[true, true, true, true, true, true, true, true, false, false, false, false, false, false, false, false, false, false, false] rfl rfl (by kernel_rfl) (fun _ _ _ h => h) (Or.inl ⟨by rfl, ?_⟩) hHeld ?_ ?_
    rotate_left
    · intro w' hS
      have s0 := pw_cell_below hS r0
      have s1 := pw_cell_below hS r1
      have s2 := pw_cell_below hS r2
      go_simp
      first | done | with_reducible rfl
    rotate_left
    · simp only [Act.put, List.setIfInBounds_toArray, List.set_cons_zero, List.set_cons_succ, i64_w, i32_w]
      rfl
    refine pure_ (i := 8) (N := (some 16)) (v := ?_) (a' := ?_) #[true, true, true, true, true, true, true, true, true, false, false, false, false, false, false, false, false, false, false] rfl rfl (by kernel_rfl) (fun _ _ _ h => h) (Or.inl ⟨by rfl, ?_⟩) ?_ ?_
    rotate_left
    · intro w'
      go_simp
      first | done | with_reducible rfl
    rotate_left
    · simp only [Act.put, List.setIfInBounds_toArray, List.set_cons_zero, List.set_cons_succ, i64_w, i32_w]
      rfl
    refine take_ (i := 9) (N := (some 17)) (v := ?_) (a' := ?_) #[true, true, true, true, true, true, true, true, true, true, false, false, false, false, false, false, false, false, false] rfl rfl (by kernel_rfl) (fun _ _ _ h => h) (Or.inl ⟨by rfl, ?_⟩) hHeld ?_ ?_
    rotate_left
    · intro w' hS
      have s0 := pw_cell_below hS e3
      go_simp
      first | done | with_reducible rfl
    rotate_left
    · simp only [Act.put, List.setIfInBounds_toArray, List.set_cons_zero, List.set_cons_succ, i64_w, i32_w]
      rfl
    refine pure_ (i := 10) (N := (some 18)) (v := ?_) (a' := ?_) #[true, true, true, true, true, true, true, true, true, true, true, false, false, false, false, false, false, false, false] rfl rfl (by kernel_rfl) (fun _ _ _ h => h) (Or.inl ⟨by rfl, ?_⟩) ?_ ?_
    rotate_left
    · intro w'
      go_simp
      first | done | with_reducible rfl
    rotate_left
    · simp only [Act.put, List.setIfInBounds_toArray, List.set_cons_zero, List.set_cons_succ, i64_w, i32_w]
      rfl
    refine take_ (i := 11) (N := (some 19)) (v := ?_) (a' := ?_) #[true, true, true, true, true, true, true, true, true, true, true, true, false, false, false, false, false, false, false] rfl rfl (by kernel_rfl) (fun _ _ _ h => h) (Or.inl ⟨by rfl, ?_⟩) hHeld ?_ ?_
    rotate_left
    · intro w' hS
      have s0 := pw_cell_below hS e5
      go_simp
      first | done | with_reducible rfl
    rotate_left
    · simp only [Act.put, List.setIfInBounds_toArray, List.set_cons_zero, List.set_cons_succ, i64_w, i32_w]
      rfl
    refine two_ (i := 12) (j := 16) (Ni := (some 20)) (Nj := (some 4)) #[true, true, true, true, true, true, true, true, true, true, true, true, true, false, false, false, false, false, false] #[true, true, true, true, true, true, true, true, true, true, true, true, false, false, false, false, true, false, false] rfl rfl rfl rfl (by kernel_rfl) (by decide) (by decide) (fun K hK => ?_) (fun K hK => ?_)
    refine goes_ Try.func39 (by kernel_rfl) rfl #[.agg #[.int .i64 s.pr, .int .i64 s.bal, .string s.val], .int .i64 x3, .string x5] (by rfl) rfl rfl (by (try simp only [List.map_toArray, List.map_cons, List.map_nil]); first | done | rfl) ?_
    (with_reducible refine (HSP.out _).mono ?_)
    rintro e wa ⟨rfl, hB⟩
    refine ⟨_, rfl, ?_⟩
    have hS2 : Below W0.heap.size W0 wa := below_step hHeld hB
    (try (have n_ := Aside0.mk (blk_below HBA.out hB); clear HBA; have HBA := n_; clear n_))
    clear hB hHeld
    refine hK.out _ _ hS2 (fun hHeld => ?_)
    clear hK K
    refine norm_ (a' := ?_) ?_ ?_
    rotate_left
    · show Act.put _ (some 20) _ = _
      simp only [Act.put, List.setIfInBounds_toArray, List.set_cons_zero, List.set_cons_succ, i64_w, i32_w]
      rfl
    refine pure_ (i := 13) (N := (some 7)) (v := ?_) (a' := ?_) #[true, true, true, true, true, true, true, true, true, true, true, true, true, true, false, false, false, false, false] rfl rfl (by kernel_rfl) (fun _ _ _ h => h) (Or.inl ⟨by rfl, ?_⟩) ?_ ?_
    rotate_left
    · intro w'
      go_simp
      first | done | with_reducible rfl
    rotate_left
    · simp only [Act.put, List.setIfInBounds_toArray, List.set_cons_zero, List.set_cons_succ, i64_w, i32_w]
      rfl
    refine pure_ (i := 14) (N := (some 21)) (v := ?_) (a' := ?_) #[true, true, true, true, true, true, true, true, true, true, true, true, true, true, true, false, false, false, false] rfl rfl (by kernel_rfl) (fun _ _ _ h => h) (Or.inl ⟨by rfl, ?_⟩) ?_ ?_
    rotate_left
    · intro w'
      go_simp
      first | done | with_reducible rfl
    rotate_left
    · simp only [Act.put, List.setIfInBounds_toArray, List.set_cons_zero, List.set_cons_succ, i64_w, i32_w]
      rfl
    refine pure_ (i := 15) (N := (some 22)) (v := ?_) (a' := ?_) #[true, true, true, true, true, true, true, true, true, true, true, true, true, true, true, true, false, false, false] rfl rfl (by kernel_rfl) (fun _ _ _ h => h) (Or.inl ⟨by rfl, ?_⟩) ?_ ?_
    rotate_left
    · intro w'
      go_simp
      first | done | with_reducible rfl
    rotate_left
    · simp only [Act.put, List.setIfInBounds_toArray, List.set_cons_zero, List.set_cons_succ, i64_w, i32_w]
      rfl
    refine one_ (i := 16) (N := (some 4)) #[true, true, true, true, true, true, true, true, true, true, true, true, true, true, true, true, true, false, false] rfl rfl (by kernel_rfl) (by decide) (fun K hK => ?_)
    refine box_step (by rfl) (N := 4) rfl (cs := #[.int .i64 0, .int .i64 0, .string ⟨#[]⟩]) (t := 36) (by first | (go_simp; done) | (go_simp; rfl)) ?_
    intro gA hg wa hb hbb
    have HBA := Aside0.mk hb
    have hS2 : Below W0.heap.size W0 wa := below_step hHeld hbb
    have HGA := Aside0.mk (show W0.heap.size ≤ gA by rw [hg]; exact hHeld.size)
    clear hb hbb hg hHeld
    refine hK.out _ _ hS2 (fun hHeld => ?_)
    clear hK K
    refine norm_ (a' := ?_) ?_ ?_
    rotate_left
    · show Act.put _ (some 4) _ = _
      simp only [Act.put, List.setIfInBounds_toArray, List.set_cons_zero, List.set_cons_succ, i64_w, i32_w]
      rfl
    refine last_ (i := 17) (N := none) #[true, true, true, true, true, true, true, true, true, true, true, true, true, true, true, true, true, true, false] rfl rfl (by kernel_rfl) (by decide) (fun K hK => ?_)
    have z0 := (blk_cell HBA.out 0).trans rfl
    have z1 := (blk_cell HBA.out 1).trans rfl
    have z2 := (blk_cell HBA.out 2).trans rfl
    have y0 := blk_frozen HBA.out 0
    have y1 := blk_frozen HBA.out 1
    have y2 := blk_frozen HBA.out 2
    refine skip_ (by rfl) rfl (by first | (go_simp; done) | (go_simp; rfl)) ?_
    refine hK.out _ _ ?_
    clear hK K
    refine pure_ (i := 18) (N := (some 5)) (v := ?_) (a' := ?_) #[true, true, true, true, true, true, true, true, true, true, true, true, true, true, true, true, true, true, true] rfl rfl (by kernel_rfl) (fun _ _ _ h => h) (Or.inl ⟨by rfl, ?_⟩) ?_ ?_
    rotate_left
    · intro w'
      go_simp
      first | done | with_reducible rfl
    rotate_left
    · simp only [Act.put, List.setIfInBounds_toArray, List.set_cons_zero, List.set_cons_succ, i64_w, i32_w]
      rfl
    refine done_ (by kernel_rfl) ?_
    rotate_left
    refine box_step (by rfl) (N := 4) rfl (cs := #[.int .i64 0, .int .i64 0, .string ⟨#[]⟩]) (t := 36) (by first | (go_simp; done) | (go_simp; rfl)) ?_
    intro gA hg wa hb hbb
    have HBA := Aside0.mk hb
    have hS2 : Below W0.heap.size W0 wa := below_step hHeld hbb
    have HGA := Aside0.mk (show W0.heap.size ≤ gA by rw [hg]; exact hHeld.size)
    clear hb hbb hg hHeld
    refine hK.out _ _ hS2 (fun hHeld => ?_)
    clear hK K
    refine norm_ (a' := ?_) ?_ ?_
    rotate_left
    · show Act.put _ (some 4) _ = _
      simp only [Act.put, List.setIfInBounds_toArray, List.set_cons_zero, List.set_cons_succ, i64_w, i32_w]
      rfl
    refine one_ (i := 12) (N := (some 20)) #[true, true, true, true, true, true, true, true, true, true, true, true, true, false, false, false, true, false, false] rfl rfl (by kernel_rfl) (by decide) (fun K hK => ?_)
    refine goes_ Try.func39 (by kernel_rfl) rfl #[.agg #[.int .i64 s.pr, .int .i64 s.bal, .string s.val], .int .i64 x3, .string x5] (by rfl) rfl rfl (by (try simp only [List.map_toArray, List.map_cons, List.map_nil]); first | done | rfl) ?_
    (with_reducible refine (HSP.out _).mono ?_)
    rintro e wa ⟨rfl, hB⟩
    refine ⟨_, rfl, ?_⟩
    have hS2 : Below W0.heap.size W0 wa := below_step hHeld hB
    (try (have n_ := Aside0.mk (blk_below HBA.out hB); clear HBA; have HBA := n_; clear n_))
    clear hB hHeld
    refine hK.out _ _ hS2 (fun hHeld => ?_)
    clear hK K
    refine norm_ (a' := ?_) ?_ ?_
    rotate_left
    · show Act.put _ (some 20) _ = _
      simp only [Act.put, List.setIfInBounds_toArray, List.set_cons_zero, List.set_cons_succ, i64_w, i32_w]
      rfl
    refine pure_ (i := 13) (N := (some 7)) (v := ?_) (a' := ?_) #[true, true, true, true, true, true, true, true, true, true, true, true, true, true, false, false, true, false, false] rfl rfl (by kernel_rfl) (fun _ _ _ h => h) (Or.inl ⟨by rfl, ?_⟩) ?_ ?_
    rotate_left
    · intro w'
      go_simp
      first | done | with_reducible rfl
    rotate_left
    · simp only [Act.put, List.setIfInBounds_toArray, List.set_cons_zero, List.set_cons_succ, i64_w, i32_w]
      rfl
    refine pure_ (i := 14) (N := (some 21)) (v := ?_) (a' := ?_) #[true, true, true, true, true, true, true, true, true, true, true, true, true, true, true, false, true, false, false] rfl rfl (by kernel_rfl) (fun _ _ _ h => h) (Or.inl ⟨by rfl, ?_⟩) ?_ ?_
    rotate_left
    · intro w'
      go_simp
      first | done | with_reducible rfl
    rotate_left
    · simp only [Act.put, List.setIfInBounds_toArray, List.set_cons_zero, List.set_cons_succ, i64_w, i32_w]
      rfl
    refine pure_ (i := 15) (N := (some 22)) (v := ?_) (a' := ?_) #[true, true, true, true, true, true, true, true, true, true, true, true, true, true, true, true, true, false, false] rfl rfl (by kernel_rfl) (fun _ _ _ h => h) (Or.inl ⟨by rfl, ?_⟩) ?_ ?_
    rotate_left
    · intro w'
      go_simp
      first | done | with_reducible rfl
    rotate_left
    · simp only [Act.put, List.setIfInBounds_toArray, List.set_cons_zero, List.set_cons_succ, i64_w, i32_w]
      rfl
    refine last_ (i := 17) (N := none) #[true, true, true, true, true, true, true, true, true, true, true, true, true, true, true, true, true, true, false] rfl rfl (by kernel_rfl) (by decide) (fun K hK => ?_)
    have z0 := (blk_cell HBA.out 0).trans rfl
    have z1 := (blk_cell HBA.out 1).trans rfl
    have z2 := (blk_cell HBA.out 2).trans rfl
    have y0 := blk_frozen HBA.out 0
    have y1 := blk_frozen HBA.out 1
    have y2 := blk_frozen HBA.out 2
    refine skip_ (by rfl) rfl (by first | (go_simp; done) | (go_simp; rfl)) ?_
    refine hK.out _ _ ?_
    clear hK K
    refine pure_ (i := 18) (N := (some 5)) (v := ?_) (a' := ?_) #[true, true, true, true, true, true, true, true, true, true, true, true, true, true, true, true, true, true, true] rfl rfl (by kernel_rfl) (fun _ _ _ h => h) (Or.inl ⟨by rfl, ?_⟩) ?_ ?_
    rotate_left
    · intro w'
      go_simp
      first | done | with_reducible rfl
    rotate_left
    · simp only [Act.put, List.setIfInBounds_toArray, List.set_cons_zero, List.set_cons_succ, i64_w, i32_w]
      rfl
    refine done_ (by kernel_rfl) ?_
    all_goals
      have B6 := Aside0.mk (((hHeld.setCell (p := ⟨gA, 0, none⟩) HGA.out (.int .i64 s.pr)).setCell (p := ⟨gA, 1, none⟩) HGA.out (.int .i64 s.bal)).setCell (p := ⟨gA, 2, none⟩) HGA.out (.string s.val))
      clear HBA hHeld z0 z1 z2 y0 y1 y2
      generalize ((wa.setCell ⟨gA, 0, none⟩ (.int .i64 s.pr)).setCell ⟨gA, 1, none⟩ (.int .i64 s.bal)).setCell ⟨gA, 2, none⟩ (.string s.val) = w6 at *
      have I6 := Aside0.mk (ID.out.below B6.out)
      have T6 := Aside0.mk (Turn.below (F := Foot L g) (show Below w.heap.size w w6 from below_step OD.out.below B6.out))
      clear ID OD B6 HGA c0 e2 e3 e5 r0 r1 r2
      go_wp2_with fail
      refine bodyPost_ret (results_none rfl _ _ _) rfl ⟨rfl, L, ?_, T6.out⟩
      unfold accD
      rw [if_neg (show ¬ (isB x3 ∧ (slot d (i : Int)).pr ≤ x3) by rw [HS.out]; exact HC.out)]
      exact I6.out
end Go.Proofs.Ytnhnbobgfadhpaa.Dec
namespace Go.Proofs.Ytnhnbobgfadhpaa.Dec
open Go Go.RowKit Go.Proofs.YtnhnbobgfadhpaaW.PrintWords Go.Proofs.YtnhnbobgfadhpaaW.PrintLast Go.Proofs.YtnhnbobgfadhpaaW.PrintMore Go.Proofs.Ytnhnbobgfadhpaa.Mp Go.Proofs.Ytnhnbobgfadhpaa.PDecreeStill
open Go.Proofs.Ytnhnbobgfadhpaa.SetsDecreeStill (new_f)
set_option linter.unusedVariables false
set_option linter.unusedSimpArgs false
theorem info_str : (Try.prog.info? 9).map (fun i => (i.zero, i.size, i.bytes)) = some (some (.string ⟨#[]⟩), 1, 16) := by kernel_rfl
variable {base g : Nat} {L L' : Lay} {d : D} {W W0 W1 : World} {F F' : Nat → Prop}
theorem turn_new {b : Nat} (hB : Below W.heap.size W W0) (hT : W0.mapTurned W1 b) (hF : F b) (hf : ∀ k, F' k → F k ∨ W.heap.size ≤ k) : Turn W W1 F F' := by
  have h1 := Turn.below (F := F) hB
  have hg := hT.grown
  refine ⟨hg.os.trans h1.os, hg.tape.trans h1.tape, hg.output.trans h1.output, Nat.le_trans h1.size hg.size, fun k hk hn => ?_, hf⟩
  exact (hg.block k (Nat.lt_of_lt_of_le hk h1.size) (fun e => hn (by cases e; exact hF))).trans (h1.keep k hk hn)
theorem blk_lt_pl (h : IsD base W g L d) {b : Int} {q : Nat} (e : L.pl b = some q) : q < W.heap.size := h.foot_lt q (.inr (.inr (.inr (.inr (.inr (.inr (.inr ⟨b, e⟩)))))))
theorem foot_pl {b : Int} {q k : Nat} (h : Foot { L with pl := upd L.pl b (some q) } g k) : Foot L g k ∨ k = q := by
  rcases h with e | e | e | e | e | e | e | ⟨b', e⟩
  · exact .inl (.inl e)
  · exact .inl (.inr (.inl e))
  · exact .inl (.inr (.inr (.inl e)))
  · exact .inl (.inr (.inr (.inr (.inl e))))
  · exact .inl (.inr (.inr (.inr (.inr (.inl e)))))
  · exact .inl (.inr (.inr (.inr (.inr (.inr (.inl e))))))
  · exact .inl (.inr (.inr (.inr (.inr (.inr (.inr (.inl e)))))))
  · have e : upd L.pl b (some q) b' = some k := e
    by_cases hb : b' = b
    · rw [hb, upd_self] at e; cases e; exact .inr rfl
    · rw [upd_ne _ _ hb] at e
      exact .inl (.inr (.inr (.inr (.inr (.inr (.inr (.inr ⟨b', e⟩)))))))
theorem all_v (x0 x1 x2 x3 x4 : Int) (x5 : ByteArray) (w : World) (h : IsD base w g L d) (hl : d.lt.length ≤ 1000000) (hbase : base ≤ w.heap.size) :
    Calls Try.prog 25 #[.pointer (some ⟨g, 0, none⟩), .agg #[.int .i64 x0, .int .i64 x1, .int .i64 x2, .int .i64 x3, .int .i64 x4, .string x5]] w fun e w' => e = .returned (.tuple #[]) ∧
      ∃ L', IsD base w' g L' { d with lt := d.lt ++ allTo d.sl.length ⟨x0, x1, x2, x3, x4, x5⟩ } ∧ Turn w w' (Foot L g) (Foot L' g) := all_c ⟨x0, x1, x2, x3, x4, x5⟩ w h hl hbase
set_option maxRecDepth 100000 in
set_option maxHeartbeats 8000000 in
theorem begin_c (who : Int) (v : ByteArray) (w : World) (h : IsD base w g L d) (h0 : 0 < d.sl.length) (hw0 : 0 ≤ who) (hw8 : who < 8) (hl : d.lt.length ≤ 1000000) (hbase : base ≤ w.heap.size) :
    Calls Try.prog 16 #[.pointer (some ⟨g, 0, none⟩), .int .i64 who, .string v] w fun e w' => e = .returned (.tuple #[]) ∧
      ∃ L', IsD base w' g L' (beginD d who v) ∧ Turn w w' (Foot L g) (Foot L' g) := by
  obtain ⟨A3, c3, ev3⟩ := Kd.R_slice h.bg
  have k3 : w.cell? ⟨g, 3, none⟩ = some (.slice A3 d.bg.length c3) := by rw [← ev3]; exact (blk_cell h.blk 3).trans rfl
  by_cases hc : (d.bg.length : Int) ≥ 268435454
  · have hcd : decide ((d.bg.length : Int) ≥ 268435454) = true := decide_eq_true hc
    have HR := Aside0.mk (show IsD base w g L (beginD d who v) by unfold beginD; rw [if_pos hc]; exact h)
    clear h ev3
    go_enter Try.func16, Try.ntmps16
    go_wp2
    refine bodyPost_ret (results_none rfl _ _ _) rfl ⟨rfl, L, HR.out, Turn.refl _ _⟩
  · have hcl : (d.bg.length : Int) < 268435454 := by omega
    obtain ⟨n, hn⟩ : ∃ n, d.sl.length = n := ⟨_, rfl⟩
    have hn5 : (n : Int) ≤ 5 := by have := h.sm; omega
    have hn1 : (1 : Int) ≤ n := by omega
    obtain ⟨b, hb⟩ : ∃ b, nextB d who = b := ⟨_, rfl⟩
    have hbv : 8 * ((d.bg.length : Int) + 1) + who = b := hb
    have hwm : wrap64 ((d.bg.length : Int) + 1) = (d.bg.length : Int) + 1 := by unfold wrap64; clear h; omega
    have hwn : wrap64 (8 * ((d.bg.length : Int) + 1)) = 8 * ((d.bg.length : Int) + 1) := by unfold wrap64; clear h; omega
    have hb0 : 0 ≤ b := by omega
    have hb1 : b < 4294967296 := by omega
    have hwb : wrap64 b = b := by unfold wrap64; clear h; omega
    have HD := Aside0.mk h
    have HL := Aside0.mk hl
    have HB := Aside0.mk hbase
    have HBB := Aside0.mk (show beginD d who v = { d with bg := d.bg ++ [v], pp := upd d.pp b (some (fresh b v)), lt := d.lt ++ allTo d.sl.length ⟨0, who, 0, b, 0, e0⟩ } by unfold beginD; rw [if_neg hc, hb])
    have HK := Aside0.mk (And.intro hb0 hb1)
    obtain ⟨m, hm⟩ : ∃ m, d.bg.length = m := ⟨_, rfl⟩
    have HM := Aside0.mk hm
    rw [hm] at k3 hcl hbv hwm hwn
    have hcd : decide ((m : Int) ≥ 268435454) = false := decide_eq_false (Int.not_le.2 hcl)
    have HCL := Aside0.mk hcl
    have HE := Aside0.mk (show L.vb = .slice A3 m c3 by rw [ev3, hm])
    clear h ev3 hc hb hl hbase hw0 hw8 h0 hm hb0 hb1 hcl
    go_enter Try.func16, Try.ntmps16
    go_wp2_with (first
      | ((with_reducible refine gate_builtin (b := .append) (xs := #[.tmp 26, .tmp 28]) rfl ?_); at_builtin; go_loud (refine Kd.R_append (P := Try.prog) Kd.string (w0 := w) (W := w) base rfl (.tmp 26) (.tmp 28) 30 9 (.string ⟨#[]⟩) 16 rfl Try.underlying30 info_str rfl (by decide) (by decide) (.slice A3 m c3) d.bg v [.string v] (fun _ => True) (fun _ => False) rfl rfl rfl (fun _ h => h.elim) (fun _ _ => trivial) (by rw [← HE.out]; exact HD.out.bg) (Below.refl _ _) HB.out (by have := HM.out; have := HCL.out; omega) ?_; intro v1 w1 hr1 hb1 hg1 hat1; rw [← HE.out] at hg1 hat1; have hgb := HD.out.blk_bg hg1; have z3 := (blk_cell hgb 3).trans rfl; have y3 := blk_frozen hgb 3; have HA := Aside0.mk (HD.out.app_bg hr1 hg1 hat1); obtain ⟨A1, m1, c1, ev1⟩ := R_sl hr1; clear hr1 hb1 hg1 hat1 hgb; subst ev1)))
    have I6 := Aside0.mk HA.out.1
    have T6 := Aside0.mk HA.out.2
    clear HA z3 y3 k3 HE HD
    generalize w1.setCell ⟨g, 3, none⟩ (.slice A1 m1 c1) = w6 at *
    generalize hL6 : ({ L with vb := .slice A1 m1 c1 } : Lay) = L6 at *
    have ID := Aside0.mk I6.out.drew
    have TD := Aside0.mk T6.out.drew
    have c1 : w6.drew.cell? ⟨g, 1, none⟩ = some (.map (some L6.gp)) := (blk_cell ID.out.blk 1).trans rfl
    have c0 : w6.drew.cell? ⟨g, 0, none⟩ = some (.slice (some ⟨L6.gs, 0, none⟩) n n) := by rw [← hn]; exact (blk_cell ID.out.blk 0).trans rfl
    have hfr := new_f (n : Int) b v
    clear I6 T6
    refine start_ (n := 14) (S := fun w' => Below (w6).drew.heap.size (w6).drew w') (ds := [13]) #[false, false, false, false, false, false, false, false, false, false, false, false, false, false] (by kernel_rfl) rfl rfl (Below.refl _ _) (fun hHeld => ?_)
    generalize (w6).drew = W0 at *
    refine pure_ (i := 0) (N := (some 32)) (v := ?_) (a' := ?_) #[true, false, false, false, false, false, false, false, false, false, false, false, false, false] rfl rfl (by kernel_rfl) (fun _ _ _ h => h) (Or.inl ⟨by rfl, ?_⟩) ?_ ?_
    rotate_left
    · intro w'
      go_simp
      first | done | with_reducible rfl
    rotate_left
    · simp only [Act.put, List.setIfInBounds_toArray, List.set_cons_zero, List.set_cons_succ, i64_w, i32_w]
      rfl
    refine pure_ (i := 1) (N := (some 33)) (v := ?_) (a' := ?_) #[true, true, false, false, false, false, false, false, false, false, false, false, false, false] rfl rfl (by kernel_rfl) (fun _ _ _ h => h) (Or.inl ⟨by rfl, ?_⟩) ?_ ?_
    rotate_left
    · intro w'
      skip
      go_simp
      first | done | with_reducible rfl
    rotate_left
    · simp only [Act.put, List.setIfInBounds_toArray, List.set_cons_zero, List.set_cons_succ, i64_w, i32_w]
      rfl
    refine pure_ (i := 2) (N := (some 34)) (v := ?_) (a' := ?_) #[true, true, true, false, false, false, false, false, false, false, false, false, false, false] rfl rfl (by kernel_rfl) (fun _ _ _ h => h) (Or.inl ⟨by rfl, ?_⟩) ?_ ?_
    rotate_left
    · intro w'
      go_simp
      first | done | with_reducible rfl
    rotate_left
    · simp only [Act.put, List.setIfInBounds_toArray, List.set_cons_zero, List.set_cons_succ, i64_w, i32_w]
      rfl
    refine take_ (i := 3) (N := (some 35)) (v := ?_) (a' := ?_) #[true, true, true, true, false, false, false, false, false, false, false, false, false, false] rfl rfl (by kernel_rfl) (fun _ _ _ h => h) (Or.inl ⟨by rfl, ?_⟩) hHeld ?_ ?_
    rotate_left
    · intro w' hS
      have s0 := pw_cell_below hS c1
      go_simp
      first | done | with_reducible rfl
    rotate_left
    · simp only [Act.put, List.setIfInBounds_toArray, List.set_cons_zero, List.set_cons_succ, i64_w, i32_w]
      rfl
    refine pure_ (i := 4) (N := (some 36)) (v := ?_) (a' := ?_) #[true, true, true, true, true, false, false, false, false, false, false, false, false, false] rfl rfl (by kernel_rfl) (fun _ _ _ h => h) (Or.inl ⟨by rfl, ?_⟩) ?_ ?_
    rotate_left
    · intro w'
      go_simp
      first | done | with_reducible rfl
    rotate_left
    · simp only [Act.put, List.setIfInBounds_toArray, List.set_cons_zero, List.set_cons_succ, i64_w, i32_w]
      rfl
    refine pure_ (i := 5) (N := (some 37)) (v := ?_) (a' := ?_) #[true, true, true, true, true, true, false, false, false, false, false, false, false, false] rfl rfl (by kernel_rfl) (fun _ _ _ h => h) (Or.inl ⟨by rfl, ?_⟩) ?_ ?_
    rotate_left
    · intro w'
      go_simp
      first | done | with_reducible rfl
    rotate_left
    · simp only [Act.put, List.setIfInBounds_toArray, List.set_cons_zero, List.set_cons_succ, i64_w, i32_w]
      rfl
    refine pure_ (i := 6) (N := (some 38)) (v := ?_) (a' := ?_) #[true, true, true, true, true, true, true, false, false, false, false, false, false, false] rfl rfl (by kernel_rfl) (fun _ _ _ h => h) (Or.inl ⟨by rfl, ?_⟩) ?_ ?_
    rotate_left
    · intro w'
      skip
      go_simp
      first | done | with_reducible rfl
    rotate_left
    · simp only [Act.put, List.setIfInBounds_toArray, List.set_cons_zero, List.set_cons_succ, i64_w, i32_w]
      rfl
    refine pure_ (i := 7) (N := (some 39)) (v := ?_) (a' := ?_) #[true, true, true, true, true, true, true, true, false, false, false, false, false, false] rfl rfl (by kernel_rfl) (fun _ _ _ h => h) (Or.inl ⟨by rfl, ?_⟩) ?_ ?_
    rotate_left
    · intro w'
      go_simp
      first | done | with_reducible rfl
    rotate_left
    · simp only [Act.put, List.setIfInBounds_toArray, List.set_cons_zero, List.set_cons_succ, i64_w, i32_w]
      rfl
    refine take_ (i := 8) (N := (some 40)) (v := ?_) (a' := ?_) #[true, true, true, true, true, true, true, true, true, false, false, false, false, false] rfl rfl (by kernel_rfl) (fun _ _ _ h => h) (Or.inl ⟨by rfl, ?_⟩) hHeld ?_ ?_
    rotate_left
    · intro w' hS
      have s0 := pw_cell_below hS c0
      go_simp
      first | done | with_reducible rfl
    rotate_left
    · simp only [Act.put, List.setIfInBounds_toArray, List.set_cons_zero, List.set_cons_succ, i64_w, i32_w]
      rfl
    refine pure_ (i := 9) (N := (some 41)) (v := ?_) (a' := ?_) #[true, true, true, true, true, true, true, true, true, true, false, false, false, false] rfl rfl (by kernel_rfl) (fun _ _ _ h => h) (Or.inl ⟨by rfl, ?_⟩) ?_ ?_
    rotate_left
    · intro w'
      go_simp
      first | done | with_reducible rfl
    rotate_left
    · simp only [Act.put, List.setIfInBounds_toArray, List.set_cons_zero, List.set_cons_succ, i64_w, i32_w]
      rfl
    refine pure_ (i := 10) (N := (some 42)) (v := ?_) (a' := ?_) #[true, true, true, true, true, true, true, true, true, true, true, false, false, false] rfl rfl (by kernel_rfl) (fun _ _ _ h => h) (Or.inl ⟨by rfl, ?_⟩) ?_ ?_
    rotate_left
    · intro w'
      go_simp
      first | done | with_reducible rfl
    rotate_left
    · simp only [Act.put, List.setIfInBounds_toArray, List.set_cons_zero, List.set_cons_succ, i64_w, i32_w]
      rfl
    refine pure_ (i := 11) (N := (some 43)) (v := ?_) (a' := ?_) #[true, true, true, true, true, true, true, true, true, true, true, true, false, false] rfl rfl (by kernel_rfl) (fun _ _ _ h => h) (Or.inl ⟨by rfl, ?_⟩) ?_ ?_
    rotate_left
    · intro w'
      go_simp
      first | done | with_reducible rfl
    rotate_left
    · simp only [Act.put, List.setIfInBounds_toArray, List.set_cons_zero, List.set_cons_succ, i64_w, i32_w]
      rfl
    refine one_ (i := 12) (N := (some 44)) #[true, true, true, true, true, true, true, true, true, true, true, true, true, false] rfl rfl (by kernel_rfl) (by decide) (fun K hK => ?_)
    refine goes_ Try.func24 (by kernel_rfl) rfl #[.int .i64 (n : Int), .int .i64 b, .string v] (by rfl) rfl rfl (by (try simp only [List.map_toArray, List.map_cons, List.map_nil]); first | done | rfl) ?_
    refine (prop_New.calls (n : Int) b v _ _ _ _ _ _ _ _ W0 _ hHeld hfr).mono ?_
    rintro e wa ⟨q, rfl, hI, hB, _⟩
    refine ⟨_, rfl, ?_⟩
    have hS2 : Below W0.heap.size W0 wa := hB
    have HQ := Aside0.mk hI
    clear hB hHeld hI
    refine hK.out _ _ hS2 (fun hHeld => ?_)
    clear hK K
    refine norm_ (a' := ?_) ?_ ?_
    rotate_left
    · show Act.put _ (some 44) _ = _
      simp only [Act.put, List.setIfInBounds_toArray, List.set_cons_zero, List.set_cons_succ, i64_w, i32_w]
      rfl
    refine last_ (i := 13) (N := none) #[true, true, true, true, true, true, true, true, true, true, true, true, true, true] rfl rfl (by kernel_rfl) (by decide) (fun K hK => ?_)
    have IE := Aside0.mk (ID.out.below hHeld)
    obtain ⟨wb, hrun, hM, hT⟩ := IE.out.pp.store (key := kInt b) (val := ptr q) keyedInt Try.underlying40 (keyInt b HK.out.1 HK.out.2)
    have hrun2 : (Instr.mapUpdate 40 (.map (some L6.gp)) (.int .i64 b) (.pointer (some ⟨q, 0, none⟩))).run Try.prog wa = .ok () wb := hrun
    have hmn : (min (max (n : Int) 1) 63) = (n : Int) := by omega
    have HP := Aside0.mk (IE.out.put_pp (b := b) (q := q) (p := fresh b v) (by
      have h1 := HQ.out.1
      rw [show (Go.Proofs.Ytnhnbobgfadhpaa.SetsDecreeStill.fresh (n : Int) b v).n = min (max (n : Int) 1) 63 from rfl, hmn] at h1
      show wa.heap[q]? = some (.cells (ppc d.sl.length (fresh b v)) _ _)
      rw [hn]; exact h1) (by have := HQ.out.2; have := HB.out; have := TD.out.size; omega) (fun b' e => by have := blk_lt_pl ID.out e; have := HQ.out.2; omega) hM hT)
    have HTT := Aside0.mk (turn_new (F := Foot L6 g) (F' := Foot { L6 with pl := upd L6.pl b (some q) } g) hHeld hT (.inr (.inr (.inl rfl))) (fun k hk => (foot_pl hk).imp id (fun e => by rw [e]; exact HQ.out.2)))
    clear hrun hM hT hmn hHeld
    refine skip_ (w1 := wb) (by rfl) rfl (by first | (go_simp; done) | (go_simp; rfl)) ?_
    clear hrun2
    refine hK.out _ _ ?_
    clear hK K
    refine done_ (by kernel_rfl) ?_
    have I9 := Aside0.mk HP.out
    have T9 := Aside0.mk (TD.out.trans HTT.out)
    clear HP HTT ID TD IE HQ c0 c1 hfr
    have HC := Aside0.mk (all_v 0 who 0 b 0 ⟨#[]⟩ wb I9.out HL.out (by have := HB.out; have := T9.out.size; omega))
    clear I9
    go_wp2_with (first
      | (go_at_call 25; go_loud ((with_reducible refine (HC.out).mono ?_); rintro e wz ⟨rfl, L9, hI9, hT9⟩; have I10 := Aside0.mk hI9; have T10 := Aside0.mk hT9; clear hI9 hT9)))
    go_end0
    refine ⟨rfl, L9, ?_, T9.out.trans T10.out⟩
    rw [HBB.out]
    exact I10.out
end Go.Proofs.Ytnhnbobgfadhpaa.Dec
namespace Go.Proofs.Ytnhnbobgfadhpaa.Dec
open Go Go.RowKit Go.Proofs.YtnhnbobgfadhpaaW.PrintWords Go.Proofs.YtnhnbobgfadhpaaW.PrintLast Go.Proofs.YtnhnbobgfadhpaaW.PrintMore Go.Proofs.Ytnhnbobgfadhpaa.Mp Go.Proofs.Ytnhnbobgfadhpaa.PDecreeStill
open Go.Proofs.Ytnhnbobgfadhpaa.SetsDecreeStill (PS promise accepting promised_f accepted_f out)
set_option linter.unusedVariables false
set_option linter.unusedSimpArgs false
theorem value_c (q : Nat) (n : Nat) (p : Pp) (w : World) (hq : w.heap[q]? = some (.cells (ppc n p) 72 (0, 0))) :
    Calls Try.prog 42 #[.pointer (some ⟨q, 0, none⟩)] w fun e w' => e = .returned (.string p.v) ∧ w = w' := by
  have c := (blk_cell hq 3).trans (show (ppc n p)[3]? = some (Value.string p.v) from rfl)
  clear hq
  go_enter Try.func42, Try.ntmps42
  go_wp2
  go_ret
  exact ⟨rfl, rfl⟩
theorem phase_c (q : Nat) (n : Nat) (p : Pp) (w : World) (hq : w.heap[q]? = some (.cells (ppc n p) 72 (0, 0))) :
    Calls Try.prog 28 #[.pointer (some ⟨q, 0, none⟩)] w fun e w' => e = .returned (.int .i64 p.ph) ∧ w = w' := by
  have c := (blk_cell hq 2).trans (show (ppc n p)[2]? = some (Value.int .i64 p.ph) from rfl)
  clear hq
  go_enter Try.func28, Try.ntmps28
  go_wp2
  go_ret
  exact ⟨rfl, rfl⟩
theorem promised_c (q n : Nat) (p : Pp) (fr bal acc : Int) (val : ByteArray) (w0 w : World) (hq : w.heap[q]? = some (.cells (ppc n p) 72 (0, 0))) (hqb : w0.heap.size ≤ q) (hB : Below w0.heap.size w0 w) (hpr : p.pr < 2 ^ 64) (hn : n ≤ 5) :
    Calls Try.prog 41 #[.pointer (some ⟨q, 0, none⟩), .int .i64 fr, .int .i64 bal, .int .i64 acc, .string val] w fun e w' => e = .returned (.bool (promP n p fr bal acc val).1) ∧
      w'.heap[q]? = some (.cells (ppc n (promP n p fr bal acc val).2) 72 (0, 0)) ∧ Below w0.heap.size w0 w' ∧ KeepBut w w' q none := by
  have hf := promised_f 0 (toPS n p) fr bal acc val hpr (by show (n : Int) ≤ _; omega)
  rw [promise_promP n p fr bal acc val (by omega)] at hf
  exact (prop_Prop_Promised.calls 1 q n p.b p.ph p.v p.best p.fd p.pr p.tk fr bal acc val _ _ _ _ _ _ _ _ _ w0 w ⟨hq, hqb⟩ hB hf).mono fun e w' ⟨h1, h2, h3, h4⟩ => ⟨h1, h2.1, h3, h4⟩
theorem accepted_c (q n : Nat) (p : Pp) (fr bal : Int) (w0 w : World) (hq : w.heap[q]? = some (.cells (ppc n p) 72 (0, 0))) (hqb : w0.heap.size ≤ q) (hB : Below w0.heap.size w0 w) (htk : p.tk < 2 ^ 64) (hn : n ≤ 5) :
    Calls Try.prog 43 #[.pointer (some ⟨q, 0, none⟩), .int .i64 fr, .int .i64 bal] w fun e w' => e = .returned (.bool (accP n p fr bal).1) ∧
      w'.heap[q]? = some (.cells (ppc n (accP n p fr bal).2) 72 (0, 0)) ∧ Below w0.heap.size w0 w' ∧ KeepBut w w' q none := by
  have hf := accepted_f (toPS n p) fr bal htk (by show (n : Int) ≤ _; omega)
  rw [accepting_accP n p fr bal (by omega)] at hf
  exact (prop_Prop_Accepted.calls q n p.b p.ph p.v p.best p.fd p.pr p.tk fr bal _ _ _ _ _ _ _ _ _ w0 w ⟨hq, hqb⟩ hB hf).mono fun e w' ⟨h1, h2, h3, h4⟩ => ⟨h1, h2.1, h3, h4⟩
variable {g : Nat} {L L' : Lay} {d : D} {W W1 w0 : World}
theorem ppC_at (f : Int → Option Nat) (b : Int) : (ppC f (kInt b)).getD (.pointer none) = .pointer ((f b).map fun q => ⟨q, 0, none⟩) := by
  show ((f b).map ptr).getD _ = _
  cases f b <;> rfl
theorem IsD.look_pp {base : Nat} (h : IsD base W g L d) (b : Int) (h0 : 0 ≤ b) (h1 : b < 4294967296) : (Instr.lookup 40 (.map (some L.gp)) (.int .i64 b) false).run Try.prog W = .ok (.pointer ((L.pl b).map fun q => ⟨q, 0, none⟩)) W := by
  have hh := h.pp.look false keyedInt Try.underlying40 (zeroPtr W) (keyInt b h0 h1)
  rw [if_neg Bool.false_ne_true, ppC_at] at hh
  exact hh
set_option maxRecDepth 100000 in
set_option maxHeartbeats 8000000 in
theorem tell_c (x : Lt) (w : World) (h : IsD w0.heap.size w g L d) (hB0 : Below w0.heap.size w0 w) (hx : LtW d.sl.length x) (hw : ∀ b p, d.pp b = some p → p.pr < 2 ^ 64 ∧ p.tk < 2 ^ 64) (hl : d.lt.length ≤ 1000000) (hlc : d.ch.length ≤ 1000000) :
    Calls Try.prog 31 #[.pointer (some ⟨g, 0, none⟩), .agg (encL x).toArray] w fun e w' => e = .returned (.tuple #[]) ∧
      ∃ L', IsD w0.heap.size w' g L' (tellD d x) ∧ Turn w w' (Foot L g) (Foot L' g) := by
  have OW := Aside0.mk (Mem.Own.nil w)
  have HD := Aside0.mk h
  have HL := Aside0.mk hl
  have HLC := Aside0.mk hlc
  have HB0 := Aside0.mk hB0
  have HX := Aside0.mk hx
  have HW := Aside0.mk hw
  obtain ⟨n, hn⟩ : ∃ n, d.sl.length = n := ⟨_, rfl⟩
  have hn5 : n ≤ 5 := by have := h.sm; omega
  obtain ⟨x0, x1, x2, x3, x4, x5⟩ := x
  have HFT := Aside0.mk (fun k hk => h.foot_lt k hk)
  clear h hB0 hl hlc hw hx
  go_enter Try.func31, Try.ntmps31
  go_wp2_with (first
    | ((with_reducible refine gate_dst (N := 3) rfl ?_); refine box_event ?hg (N := 3) ?hd (cs := #[.int .i64 x0, .int .i64 x1, .int .i64 x2, .int .i64 x3, .int .i64 x4, .string x5]) (t := 49) ?hr ?_; (case hd => rfl); (case hg => rfl); (case hr => first | (go_simp; done) | (go_simp; rfl)); intro gX hg W_ hb hbb; have n2 := Aside0.mk (HD.out.below hbb); clear HD; have HD := n2; clear n2; have n_ : Aside0 (Mem.Own w W_ [(gX, #[.int .i64 x0, .int .i64 x1, .int .i64 x2, .int .i64 x3, .int .i64 x4, .string x5], 49)]) := ⟨OW.out.new hg hb hbb⟩; clear OW hb hbb hg; have OW := n_; clear n_))
  have OD := Aside0.mk OW.out.drew
  have ID := Aside0.mk HD.out.drew
  have BD := Aside0.mk (show Below w0.heap.size w0 W_.drew from (below_step HB0.out OW.out.below).drew)
  have c1 : W_.drew.cell? ⟨g, 1, none⟩ = some (.map (some L.gp)) := (blk_cell ID.out.blk 1).trans rfl
  have e3 : W_.drew.cell? ⟨gX, 3, none⟩ = some (.int .i64 x3) := (OD.out.cell 0 rfl 3).trans rfl
  obtain ⟨r, hr⟩ : ∃ r, (L.pl x3).map (fun q => (⟨q, 0, none⟩ : Addr)) = r := ⟨_, rfl⟩
  have HR := Aside0.mk hr
  clear OW HD hr
  refine start_ (n := 8) (S := fun w' => Below (W_).drew.heap.size (W_).drew w') (ds := []) #[false, false, false, false, false, false, false, false] (by kernel_rfl) rfl rfl (Below.refl _ _) (fun hHeld => ?_)
  generalize (W_).drew = W0 at *
  refine pure_ (i := 0) (N := (some 5)) (v := ?_) (a' := ?_) #[true, false, false, false, false, false, false, false] rfl rfl (by kernel_rfl) (fun _ _ _ h => h) (Or.inl ⟨by rfl, ?_⟩) ?_ ?_
  rotate_left
  · intro w'
    go_simp
    first | done | with_reducible rfl
  rotate_left
  · simp only [Act.put, List.setIfInBounds_toArray, List.set_cons_zero, List.set_cons_succ, i64_w, i32_w]
    rfl
  refine pure_ (i := 1) (N := (some 6)) (v := ?_) (a' := ?_) #[true, true, false, false, false, false, false, false] rfl rfl (by kernel_rfl) (fun _ _ _ h => h) (Or.inl ⟨by rfl, ?_⟩) ?_ ?_
  rotate_left
  · intro w'
    skip
    go_simp
    first | done | with_reducible rfl
  rotate_left
  · simp only [Act.put, List.setIfInBounds_toArray, List.set_cons_zero, List.set_cons_succ, i64_w, i32_w]
    rfl
  refine pure_ (i := 2) (N := (some 7)) (v := ?_) (a' := ?_) #[true, true, true, false, false, false, false, false] rfl rfl (by kernel_rfl) (fun _ _ _ h => h) (Or.inl ⟨by rfl, ?_⟩) ?_ ?_
  rotate_left
  · intro w'
    go_simp
    first | done | with_reducible rfl
  rotate_left
  · simp only [Act.put, List.setIfInBounds_toArray, List.set_cons_zero, List.set_cons_succ, i64_w, i32_w]
    rfl
  refine take_ (i := 3) (N := (some 8)) (v := ?_) (a' := ?_) #[true, true, true, true, false, false, false, false] rfl rfl (by kernel_rfl) (fun _ _ _ h => h) (Or.inl ⟨by rfl, ?_⟩) hHeld ?_ ?_
  rotate_left
  · intro w' hS
    have s0 := pw_cell_below hS c1
    go_simp
    first | done | with_reducible rfl
  rotate_left
  · simp only [Act.put, List.setIfInBounds_toArray, List.set_cons_zero, List.set_cons_succ, i64_w, i32_w]
    rfl
  refine pure_ (i := 4) (N := (some 9)) (v := ?_) (a' := ?_) #[true, true, true, true, true, false, false, false] rfl rfl (by kernel_rfl) (fun _ _ _ h => h) (Or.inl ⟨by rfl, ?_⟩) ?_ ?_
  rotate_left
  · intro w'
    go_simp
    first | done | with_reducible rfl
  rotate_left
  · simp only [Act.put, List.setIfInBounds_toArray, List.set_cons_zero, List.set_cons_succ, i64_w, i32_w]
    rfl
  refine take_ (i := 5) (N := (some 10)) (v := ?_) (a' := ?_) #[true, true, true, true, true, true, false, false] rfl rfl (by kernel_rfl) (fun _ _ _ h => h) (Or.inl ⟨by rfl, ?_⟩) hHeld ?_ ?_
  rotate_left
  · intro w' hS
    have s0 := pw_cell_below hS e3
    go_simp
    first | done | with_reducible rfl
  rotate_left
  · simp only [Act.put, List.setIfInBounds_toArray, List.set_cons_zero, List.set_cons_succ, i64_w, i32_w]
    rfl
  refine take_ (i := 6) (N := (some 11)) (v := ?_) (a' := ?_) #[true, true, true, true, true, true, true, false] rfl rfl (by kernel_rfl) (fun _ _ _ h => h) (Or.inl ⟨by rfl, ?_⟩) hHeld ?_ ?_
  rotate_left
  · intro w' hS
    have s0 := (ID.out.below hS).look_pp x3 HX.out.b0 HX.out.b1
    rw [HR.out] at s0
    go_simp
    first | done | with_reducible rfl
  rotate_left
  · simp only [Act.put, List.setIfInBounds_toArray, List.set_cons_zero, List.set_cons_succ, i64_w, i32_w]
    rfl
  refine pure_ (i := 7) (N := (some 4)) (v := ?_) (a' := ?_) #[true, true, true, true, true, true, true, true] rfl rfl (by kernel_rfl) (fun _ _ _ h => h) (Or.inl ⟨by rfl, ?_⟩) ?_ ?_
  rotate_left
  · intro w'
    go_simp
    first | done | with_reducible rfl
  rotate_left
  · simp only [Act.put, List.setIfInBounds_toArray, List.set_cons_zero, List.set_cons_succ, i64_w, i32_w]
    rfl
  refine done_ (by kernel_rfl) ?_
  have T1 := Aside0.mk (Turn.below (F := Foot L g) (show Below w.heap.size w W0 from OD.out.below))
  cases hp : d.pp x3 with
  | none =>
    have hr2 := HR.out
    rw [ID.out.prn x3 hp] at hr2
    obtain rfl : r = none := hr2.symm
    have HT := Aside0.mk (show tellD d ⟨x0, x1, x2, x3, x4, x5⟩ = d by unfold tellD; rw [hp])
    clear hr2 hp c1 e3 hHeld OD
    go_wp2_with fail
    refine bodyPost_ret (results_none rfl _ _ _) rfl ⟨rfl, L, ?_, T1.out⟩
    rw [HT.out]; exact ID.out
  | some p =>
    obtain ⟨q, hq1, hq2, hq3⟩ := ID.out.prs x3 p hp
    have hr2 := HR.out
    rw [hq1] at hr2
    obtain rfl : r = some ⟨q, 0, none⟩ := hr2.symm
    rw [hn] at hq3
    have HQ := Aside0.mk hq1
    have HQB := Aside0.mk hq2
    have HQH := Aside0.mk hq3
    have HP := Aside0.mk hp
    have hFq : Foot L g q := .inr (.inr (.inr (.inr (.inr (.inr (.inr ⟨x3, hq1⟩))))))
    have HFQ := Aside0.mk hFq
    have XD := Aside0.mk (OD.out.blk 0 rfl)
    have GX := Aside0.mk (OD.out.new_le 0 rfl)
    have HNX := Aside0.mk (show ¬ Foot L g gX from fun hf => by have := HFT.out gX hf; have := GX.out; omega)
    have a0 := (blk_cell XD.out 0).trans (show _ = some (Value.int .i64 x0) from rfl)
    have a1 := (blk_cell XD.out 1).trans (show _ = some (Value.int .i64 x1) from rfl)
    have a3 := (blk_cell XD.out 3).trans (show _ = some (Value.int .i64 x3) from rfl)
    have a4 := (blk_cell XD.out 4).trans (show _ = some (Value.int .i64 x4) from rfl)
    have a5 := (blk_cell XD.out 5).trans (show _ = some (Value.string x5) from rfl)
    clear hr2 hq1 hq2 hq3 hp c1 e3 hHeld OD hFq HR
    by_cases hk : x0 = 1
    · have hkb : (x0 == 1) = true := beq_iff_eq.2 hk
      have HPR := Aside0.mk (promised_c q n p x1 x3 x4 x5 w0 W0 HQH.out HQB.out BD.out (HW.out x3 p HP.out).1 hn5)
      obtain ⟨p', hp'⟩ : ∃ p', (promP n p x1 x3 x4 x5).2 = p' := ⟨_, rfl⟩
      obtain ⟨ok, hok⟩ : ∃ ok, (promP n p x1 x3 x4 x5).1 = ok := ⟨_, rfl⟩
      rw [hp', hok] at HPR
      have HE : Aside0 (tellD d ⟨x0, x1, x2, x3, x4, x5⟩ = { d with pp := upd d.pp x3 (some p'), lt := d.lt ++ (if ok = true then allTo n ⟨2, x2, 0, x3, 0, p'.v⟩ else []) }) := ⟨by
        unfold tellD
        rw [HP.out]
        show (if x0 = 1 then _ else _) = _
        rw [if_pos hk, hn, hp', hok]⟩
      clear hk hp' hok
      cases ok with
      | false =>
        go_wp2_with (first
          | (go_at_call 41; go_loud ((with_reducible refine (HPR.out).mono ?_); rintro e wz ⟨rfl, h1, h2, h3⟩; have HH1 := Aside0.mk h1; have HH2 := Aside0.mk h2; have HH3 := Aside0.mk h3; clear h1 h2 h3)))
        go_end0
        refine ⟨rfl, L, ?_, T1.out.trans (turn_keep HH3.out BD.out HH2.out HFQ.out)⟩
        rw [HE.out]
        show IsD w0.heap.size wz g L { d with pp := upd d.pp x3 (some p'), lt := d.lt ++ [] }
        rw [List.append_nil]
        exact ID.out.set_pp HP.out HQ.out (by rw [hn]; exact HH1.out) HH3.out
      | true =>
        go_wp2_with (first
          | (go_at_call 41; go_loud ((with_reducible refine (HPR.out).mono ?_); rintro e wz ⟨rfl, h1, h2, h3⟩; have HH1 := Aside0.mk h1; have HH2 := Aside0.mk h2; have HH3 := Aside0.mk h3; clear h1 h2 h3)))
        have IE := Aside0.mk ((ID.out.set_pp HP.out HQ.out (by rw [hn]; exact HH1.out) HH3.out).drew)
        have TE := Aside0.mk ((T1.out.trans (turn_keep HH3.out BD.out HH2.out HFQ.out)).drew)
        have BE := Aside0.mk HH2.out.drew
        have XE : Aside0 (wz.drew.heap[gX]? = _) := ⟨(HH3.out.2 gX (blk_lt XD.out) (fun e => HNX.out (e ▸ HFQ.out)) (by simp)).trans XD.out⟩
        have QE : Aside0 (wz.drew.heap[q]? = some (.cells (ppc n p') 72 (0, 0))) := ⟨HH1.out⟩
        have e2 : wz.drew.cell? ⟨gX, 2, none⟩ = some (.int .i64 x2) := (blk_cell XE.out 2).trans rfl
        have e3 : wz.drew.cell? ⟨gX, 3, none⟩ = some (.int .i64 x3) := (blk_cell XE.out 3).trans rfl
        clear HH1 HH2 HH3 ID T1 BD XD a0 a1 a3 a4 a5 HPR
        refine start_ (n := 9) (S := fun w' => Below (wz).drew.heap.size (wz).drew w') (ds := [8]) #[false, false, false, false, false, false, false, false, false] (by kernel_rfl) rfl rfl (Below.refl _ _) (fun hHeld => ?_)
        generalize (wz).drew = W0 at *
        refine pure_ (i := 0) (N := (some 29)) (v := ?_) (a' := ?_) #[true, false, false, false, false, false, false, false, false] rfl rfl (by kernel_rfl) (fun _ _ _ h => h) (Or.inl ⟨by rfl, ?_⟩) ?_ ?_
        rotate_left
        · intro w'
          go_simp
          first | done | with_reducible rfl
        rotate_left
        · simp only [Act.put, List.setIfInBounds_toArray, List.set_cons_zero, List.set_cons_succ, i64_w, i32_w]
          rfl
        refine pure_ (i := 1) (N := (some 30)) (v := ?_) (a' := ?_) #[true, true, false, false, false, false, false, false, false] rfl rfl (by kernel_rfl) (fun _ _ _ h => h) (Or.inl ⟨by rfl, ?_⟩) ?_ ?_
        rotate_left
        · intro w'
          go_simp
          first | done | with_reducible rfl
        rotate_left
        · simp only [Act.put, List.setIfInBounds_toArray, List.set_cons_zero, List.set_cons_succ, i64_w, i32_w]
          rfl
        refine take_ (i := 2) (N := (some 31)) (v := ?_) (a' := ?_) #[true, true, true, false, false, false, false, false, false] rfl rfl (by kernel_rfl) (fun _ _ _ h => h) (Or.inl ⟨by rfl, ?_⟩) hHeld ?_ ?_
        rotate_left
        · intro w' hS
          have s0 := pw_cell_below hS e2
          go_simp
          first | done | with_reducible rfl
        rotate_left
        · simp only [Act.put, List.setIfInBounds_toArray, List.set_cons_zero, List.set_cons_succ, i64_w, i32_w]
          rfl
        refine pure_ (i := 3) (N := (some 32)) (v := ?_) (a' := ?_) #[true, true, true, true, false, false, false, false, false] rfl rfl (by kernel_rfl) (fun _ _ _ h => h) (Or.inl ⟨by rfl, ?_⟩) ?_ ?_
        rotate_left
        · intro w'
          go_simp
          first | done | with_reducible rfl
        rotate_left
        · simp only [Act.put, List.setIfInBounds_toArray, List.set_cons_zero, List.set_cons_succ, i64_w, i32_w]
          rfl
        refine take_ (i := 4) (N := (some 33)) (v := ?_) (a' := ?_) #[true, true, true, true, true, false, false, false, false] rfl rfl (by kernel_rfl) (fun _ _ _ h => h) (Or.inl ⟨by rfl, ?_⟩) hHeld ?_ ?_
        rotate_left
        · intro w' hS
          have s0 := pw_cell_below hS e3
          go_simp
          first | done | with_reducible rfl
        rotate_left
        · simp only [Act.put, List.setIfInBounds_toArray, List.set_cons_zero, List.set_cons_succ, i64_w, i32_w]
          rfl
        refine pure_ (i := 5) (N := (some 34)) (v := ?_) (a' := ?_) #[true, true, true, true, true, true, false, false, false] rfl rfl (by kernel_rfl) (fun _ _ _ h => h) (Or.inl ⟨by rfl, ?_⟩) ?_ ?_
        rotate_left
        · intro w'
          go_simp
          first | done | with_reducible rfl
        rotate_left
        · simp only [Act.put, List.setIfInBounds_toArray, List.set_cons_zero, List.set_cons_succ, i64_w, i32_w]
          rfl
        refine one_ (i := 6) (N := (some 35)) #[true, true, true, true, true, true, true, false, false] rfl rfl (by kernel_rfl) (by decide) (fun K hK => ?_)
        refine goes_ Try.func42 (by kernel_rfl) rfl #[.pointer (some ⟨q, 0, none⟩)] (by rfl) rfl rfl (by (try simp only [List.map_toArray, List.map_cons, List.map_nil]); first | done | rfl) ?_
        refine (value_c q n p' _ (blk_below QE.out hHeld)).mono ?_
        rintro e wa ⟨rfl, rfl⟩
        refine ⟨_, rfl, ?_⟩
        have hS2 := hHeld
        clear hHeld
        refine hK.out _ _ hS2 (fun hHeld => ?_)
        clear hK K
        refine norm_ (a' := ?_) ?_ ?_
        rotate_left
        · show Act.put _ (some 35) _ = _
          simp only [Act.put, List.setIfInBounds_toArray, List.set_cons_zero, List.set_cons_succ, i64_w, i32_w]
          rfl
        refine pure_ (i := 7) (N := (some 36)) (v := ?_) (a' := ?_) #[true, true, true, true, true, true, true, true, false] rfl rfl (by kernel_rfl) (fun _ _ _ h => h) (Or.inl ⟨by rfl, ?_⟩) ?_ ?_
        rotate_left
        · intro w'
          go_simp
          first | done | with_reducible rfl
        rotate_left
        · simp only [Act.put, List.setIfInBounds_toArray, List.set_cons_zero, List.set_cons_succ, i64_w, i32_w]
          rfl
        refine last_ (i := 8) (N := (some 37)) #[true, true, true, true, true, true, true, true, true] rfl rfl (by kernel_rfl) (by decide) (fun K hK => ?_)
        refine goes_ Try.func25 (by kernel_rfl) rfl #[.pointer (some ⟨g, 0, none⟩), .agg #[.int .i64 2, .int .i64 x2, .int .i64 0, .int .i64 x3, .int .i64 0, .string p'.v]] (by rfl) rfl rfl (by (try simp only [List.map_toArray, List.map_cons, List.map_nil]); first | done | rfl) ?_
        refine (all_v 2 x2 0 x3 0 p'.v _ (IE.out.below hHeld) HL.out (Nat.le_trans BE.out.size hHeld.size)).mono ?_
        rintro e wb ⟨rfl, L9, hI9, hT9⟩
        refine ⟨_, rfl, ?_⟩
        have I9 := Aside0.mk hI9
        have T9 := Aside0.mk ((TE.out.trans (Turn.below (F := Foot L g) hHeld)).trans hT9)
        clear hI9 hT9
        refine hK.out _ _ ?_
        clear hK K
        refine norm_ (a' := ?_) ?_ ?_
        rotate_left
        · show Act.put _ (some 37) _ = _
          simp only [Act.put, List.setIfInBounds_toArray, List.set_cons_zero, List.set_cons_succ, i64_w, i32_w]
          rfl
        refine done_ (by kernel_rfl) ?_
        go_wp2_with fail
        go_end0
        refine ⟨rfl, L9, ?_, T9.out⟩
        rw [HE.out]
        have h9 := I9.out
        rw [show ({ d with pp := upd d.pp x3 (some p') } : D).sl.length = n from hn] at h9
        exact h9
    · have hkb : (x0 == 1) = false := beq_eq_false_iff_ne.2 hk
      have HPR := Aside0.mk (accepted_c q n p x1 x3 w0 W0 HQH.out HQB.out BD.out (HW.out x3 p HP.out).2 hn5)
      obtain ⟨p', hp'⟩ : ∃ p', (accP n p x1 x3).2 = p' := ⟨_, rfl⟩
      obtain ⟨ok, hok⟩ : ∃ ok, (accP n p x1 x3).1 = ok := ⟨_, rfl⟩
      rw [hp', hok] at HPR
      have HE : Aside0 (tellD d ⟨x0, x1, x2, x3, x4, x5⟩ = { d with pp := upd d.pp x3 (some p'), ch := d.ch ++ (if ok = true then [p'.v] else []) }) := ⟨by
        unfold tellD
        rw [HP.out]
        show (if x0 = 1 then _ else _) = _
        rw [if_neg hk, hn, hp', hok]⟩
      clear hk hp' hok
      cases ok with
      | false =>
        go_wp2_with (first
          | (go_at_call 43; go_loud ((with_reducible refine (HPR.out).mono ?_); rintro e wz ⟨rfl, h1, h2, h3⟩; have HH1 := Aside0.mk h1; have HH2 := Aside0.mk h2; have HH3 := Aside0.mk h3; clear h1 h2 h3)))
        go_end0
        refine ⟨rfl, L, ?_, T1.out.trans (turn_keep HH3.out BD.out HH2.out HFQ.out)⟩
        rw [HE.out]
        show IsD w0.heap.size wz g L { d with pp := upd d.pp x3 (some p'), ch := d.ch ++ [] }
        rw [List.append_nil]
        exact ID.out.set_pp HP.out HQ.out (by rw [hn]; exact HH1.out) HH3.out
      | true =>
        go_wp2_with (first
          | (go_at_call 43; go_loud ((with_reducible refine (HPR.out).mono ?_); rintro e wz ⟨rfl, h1, h2, h3⟩; have HH1 := Aside0.mk h1; have HH2 := Aside0.mk h2; have HH3 := Aside0.mk h3; clear h1 h2 h3)))
        have IE := Aside0.mk ((ID.out.set_pp HP.out HQ.out (by rw [hn]; exact HH1.out) HH3.out).drew)
        have TE := Aside0.mk ((T1.out.trans (turn_keep HH3.out BD.out HH2.out HFQ.out)).drew)
        have BE := Aside0.mk HH2.out.drew
        have XE : Aside0 (wz.drew.heap[gX]? = _) := ⟨(HH3.out.2 gX (blk_lt XD.out) (fun e => HNX.out (e ▸ HFQ.out)) (by simp)).trans XD.out⟩
        have QE : Aside0 (wz.drew.heap[q]? = some (.cells (ppc n p') 72 (0, 0))) := ⟨HH1.out⟩
        have cC : wz.drew.cell? ⟨g, 4, none⟩ = some L.vc := (blk_cell IE.out.blk 4).trans rfl
        clear HH1 HH2 HH3 ID T1 BD XD a0 a1 a3 a4 a5 HPR
        refine start_ (n := 12) (S := fun w' => Below (wz).drew.heap.size (wz).drew w') (ds := [8, 11]) #[false, false, false, false, false, false, false, false, false, false, false, false] (by kernel_rfl) rfl rfl (Below.refl _ _) (fun hHeld => ?_)
        generalize (wz).drew = W0 at *
        refine pure_ (i := 0) (N := (some 45)) (v := ?_) (a' := ?_) #[true, false, false, false, false, false, false, false, false, false, false, false] rfl rfl (by kernel_rfl) (fun _ _ _ h => h) (Or.inl ⟨by rfl, ?_⟩) ?_ ?_
        rotate_left
        · intro w'
          go_simp
          first | done | with_reducible rfl
        rotate_left
        · simp only [Act.put, List.setIfInBounds_toArray, List.set_cons_zero, List.set_cons_succ, i64_w, i32_w]
          rfl
        refine pure_ (i := 1) (N := (some 46)) (v := ?_) (a' := ?_) #[true, true, false, false, false, false, false, false, false, false, false, false] rfl rfl (by kernel_rfl) (fun _ _ _ h => h) (Or.inl ⟨by rfl, ?_⟩) ?_ ?_
        rotate_left
        · intro w'
          go_simp
          first | done | with_reducible rfl
        rotate_left
        · simp only [Act.put, List.setIfInBounds_toArray, List.set_cons_zero, List.set_cons_succ, i64_w, i32_w]
          rfl
        refine pure_ (i := 2) (N := (some 47)) (v := ?_) (a' := ?_) #[true, true, true, false, false, false, false, false, false, false, false, false] rfl rfl (by kernel_rfl) (fun _ _ _ h => h) (Or.inl ⟨by rfl, ?_⟩) ?_ ?_
        rotate_left
        · intro w'
          skip
          go_simp
          first | done | with_reducible rfl
        rotate_left
        · simp only [Act.put, List.setIfInBounds_toArray, List.set_cons_zero, List.set_cons_succ, i64_w, i32_w]
          rfl
        refine pure_ (i := 3) (N := (some 48)) (v := ?_) (a' := ?_) #[true, true, true, true, false, false, false, false, false, false, false, false] rfl rfl (by kernel_rfl) (fun _ _ _ h => h) (Or.inl ⟨by rfl, ?_⟩) ?_ ?_
        rotate_left
        · intro w'
          go_simp
          first | done | with_reducible rfl
        rotate_left
        · simp only [Act.put, List.setIfInBounds_toArray, List.set_cons_zero, List.set_cons_succ, i64_w, i32_w]
          rfl
        refine take_ (i := 4) (N := (some 49)) (v := ?_) (a' := ?_) #[true, true, true, true, true, false, false, false, false, false, false, false] rfl rfl (by kernel_rfl) (fun _ _ _ h => h) (Or.inl ⟨by rfl, ?_⟩) hHeld ?_ ?_
        rotate_left
        · intro w' hS
          have s0 := pw_cell_below hS cC
          go_simp
          first | done | with_reducible rfl
        rotate_left
        · simp only [Act.put, List.setIfInBounds_toArray, List.set_cons_zero, List.set_cons_succ, i64_w, i32_w]
          rfl
        refine pure_ (i := 5) (N := (some 50)) (v := ?_) (a' := ?_) #[true, true, true, true, true, true, false, false, false, false, false, false] rfl rfl (by kernel_rfl) (fun _ _ _ h => h) (Or.inl ⟨by rfl, ?_⟩) ?_ ?_
        rotate_left
        · intro w'
          go_simp
          first | done | with_reducible rfl
        rotate_left
        · simp only [Act.put, List.setIfInBounds_toArray, List.set_cons_zero, List.set_cons_succ, i64_w, i32_w]
          rfl
        refine one_ (i := 6) (N := (some 51)) #[true, true, true, true, true, true, true, false, false, false, false, false] rfl rfl (by kernel_rfl) (by decide) (fun K hK => ?_)
        refine goes_ Try.func42 (by kernel_rfl) rfl #[.pointer (some ⟨q, 0, none⟩)] (by rfl) rfl rfl (by (try simp only [List.map_toArray, List.map_cons, List.map_nil]); first | done | rfl) ?_
        refine (value_c q n p' _ (blk_below QE.out hHeld)).mono ?_
        rintro e wa ⟨rfl, rfl⟩
        refine ⟨_, rfl, ?_⟩
        have hS2 := hHeld
        clear hHeld
        refine hK.out _ _ hS2 (fun hHeld => ?_)
        clear hK K
        refine norm_ (a' := ?_) ?_ ?_
        rotate_left
        · show Act.put _ (some 51) _ = _
          simp only [Act.put, List.setIfInBounds_toArray, List.set_cons_zero, List.set_cons_succ, i64_w, i32_w]
          rfl
        refine one_ (i := 7) (N := (some 52)) #[true, true, true, true, true, true, true, true, false, false, false, false] rfl rfl (by kernel_rfl) (by decide) (fun K hK => ?_)
        refine value_ (v := .slice (some ⟨W0.heap.size, 0, none⟩) 1 1) (w1 := W0.alloc (.cells #[.string p'.v] 9)) (by rfl) rfl (by first | (go_simp; done) | (go_simp; rfl)) ?_
        have hS2 : Below W0.heap.size W0 (W0.alloc (.cells #[.string p'.v] 9)) := below_alloc (Below.refl _ _) _
        refine hK.out _ _ hS2 (fun hHeld => ?_)
        clear hK K
        refine norm_ (a' := ?_) ?_ ?_
        rotate_left
        · show Act.put _ (some 52) _ = _
          simp only [Act.put, List.setIfInBounds_toArray, List.set_cons_zero, List.set_cons_succ, i64_w, i32_w]
          rfl
        refine last_ (i := 8) (N := (some 53)) #[true, true, true, true, true, true, true, true, true, false, false, false] rfl rfl (by kernel_rfl) (by decide) (fun K hK => ?_)
        refine Kd.R_append_step (P := Try.prog) Kd.string (w0 := W0) (W := W0) w0.heap.size (by rfl) (.tmp 49) (.tmp 52) 30 9 (.string ⟨#[]⟩) 16 rfl Try.underlying30 info_str rfl (by decide) (by decide) L.vc d.ch p'.v [.string p'.v] (fun _ => True) (fun _ => False) rfl rfl rfl (fun _ h => h.elim) (fun _ _ => trivial) IE.out.ch (Below.refl _ _) BE.out.size (by have := HLC.out; omega) ?_
        intro v1 w1 hr1 hb1 hg1 hat1
        have hgb := IE.out.blk_ch hg1
        have z2 := (blk_cell hgb 4).trans rfl
        have y2 := blk_frozen hgb 4
        have HA := Aside0.mk (IE.out.app_ch hr1 hg1 hat1)
        obtain ⟨A1, m1, c1, ev1⟩ := R_sl hr1
        clear hr1 hb1 hg1 hat1 hgb
        subst ev1
        refine hK.out _ _ ?_
        clear hK K
        refine norm_ (a' := ?_) ?_ ?_
        rotate_left
        · show Act.put _ (some 53) _ = _
          simp only [Act.put, List.setIfInBounds_toArray, List.set_cons_zero, List.set_cons_succ, i64_w, i32_w]
          rfl
        refine pure_ (i := 9) (N := (some 54)) (v := ?_) (a' := ?_) #[true, true, true, true, true, true, true, true, true, true, false, false] rfl rfl (by kernel_rfl) (fun _ _ _ h => h) (Or.inl ⟨by rfl, ?_⟩) ?_ ?_
        rotate_left
        · intro w'
          skip
          go_simp
          first | done | with_reducible rfl
        rotate_left
        · simp only [Act.put, List.setIfInBounds_toArray, List.set_cons_zero, List.set_cons_succ, i64_w, i32_w]
          rfl
        refine pure_ (i := 10) (N := (some 55)) (v := ?_) (a' := ?_) #[true, true, true, true, true, true, true, true, true, true, true, false] rfl rfl (by kernel_rfl) (fun _ _ _ h => h) (Or.inl ⟨by rfl, ?_⟩) ?_ ?_
        rotate_left
        · intro w'
          go_simp
          first | done | with_reducible rfl
        rotate_left
        · simp only [Act.put, List.setIfInBounds_toArray, List.set_cons_zero, List.set_cons_succ, i64_w, i32_w]
          rfl
        refine last_ (i := 11) (N := none) #[true, true, true, true, true, true, true, true, true, true, true, true] rfl rfl (by kernel_rfl) (by decide) (fun K hK => ?_)
        refine skip_ (by rfl) rfl (by first | (go_simp; done) | (go_simp; rfl)) ?_
        refine hK.out _ _ ?_
        clear hK K
        refine done_ (by kernel_rfl) ?_
        go_wp2_with fail
        go_end0
        refine ⟨rfl, _, ?_, TE.out.trans HA.out.2⟩
        rw [HE.out]
        exact HA.out.1
end Go.Proofs.Ytnhnbobgfadhpaa.Dec
namespace Go.Proofs.Ytnhnbobgfadhpaa.Mp
open Go Go.RowKit Go.MapKept
open Go.Maps (Keyed)
open Go.ChangeMaps (setBlock heap_setBlock_same heap_setBlock_other)
set_option linter.unusedVariables false
set_option linter.unusedSimpArgs false
variable {P : Program} {k t e ty : TypeId} {w w2 : World} {b r : Nat} {f : Cont} {done : List Value}
/-- block r is an iterator over the map in block b, whose content is f; done: the keys that have come -/
def It (w : World) (P : Program) (k : TypeId) (b r : Nat) (f : Cont) (done : List Value) : Prop :=
  ∃ es clock seen c0, w.heap[b]? = some (.map es clock) ∧ w.heap[r]? = some (.mapIter (some b) clock seen c0) ∧ clock ≤ c0 ∧ Ents P k es clock f ∧ ∀ e, e ∈ es.toList → (seen.contains e.born = true ↔ e.key ∈ done)
/-- how many entries are still to come -/
def itLeft (w : World) (b r : Nat) : Nat := match w.heap[b]?, w.heap[r]? with | some (.map es _), some (.mapIter _ _ seen _) => (leftOf es seen).size | _, _ => 0
theorem It.map (h : It w P k b r f done) : IMap w P k b f := by
  obtain ⟨es, clock, seen, c0, hb, _, _, hE, _⟩ := h
  exact ⟨es, clock, hb, hE⟩
theorem It.lt (h : It w P k b r f done) : r < w.heap.size := by
  obtain ⟨es, clock, seen, c0, hb, hr, _⟩ := h
  exact (Array.getElem?_eq_some_iff.1 hr).1
theorem It.ne (h : It w P k b r f done) : b ≠ r := by
  obtain ⟨es, clock, seen, c0, hb, hr, _⟩ := h
  intro e; subst e; rw [hb] at hr; cases hr
theorem It.block (h : It w P k b r f done) (e1 : w2.heap[b]? = w.heap[b]?) (e2 : w2.heap[r]? = w.heap[r]?) : It w2 P k b r f done := by
  obtain ⟨es, clock, seen, c0, hb, hr, rest⟩ := h
  exact ⟨es, clock, seen, c0, e1.trans hb, e2.trans hr, rest⟩
theorem itLeft_block (e1 : w2.heap[b]? = w.heap[b]?) (e2 : w2.heap[r]? = w.heap[r]?) : itLeft w2 b r = itLeft w b r := by unfold itLeft; rw [e1, e2]
theorem It.below' (h : It w P k b r f done) (hB : Below w.heap.size w w2) : It w2 P k b r f done := h.block (hB.block b h.map.lt) (hB.block r h.lt)
theorem It.left_below (h : It w P k b r f done) (hB : Below w.heap.size w w2) : itLeft w2 b r = itLeft w b r := itLeft_block (hB.block b h.map.lt) (hB.block r h.lt)
/-- the iterator is made -/
theorem IMap.range (h : IMap w P k b f) (ht : P.underlying t = some (.map k e)) :
    ∃ w2, (Instr.range t (.map (some b))).run P w = .ok (.pointer (some ⟨w.heap.size, 0, none⟩)) w2 ∧ It w2 P k b w.heap.size f [] ∧ Below w.heap.size w w2 := by
  have hlt := h.lt
  obtain ⟨es, clock, hb, hE⟩ := h
  refine ⟨_, run_range_map w t k e b es clock ht hb, ⟨es, clock, #[], clock, ((MapKept.heap_alloc w _).2 b hlt).trans hb, (MapKept.heap_alloc w _).1, Nat.le_refl _, hE, fun e he => ?_⟩, (Below.refl _ w).alloc (Nat.le_refl _) _⟩
  simp
theorem key_one {l : List MapEntry} (hp : l.Pairwise (fun x y => x.key ≠ y.key)) {x y : MapEntry} (hx : x ∈ l) (hy : y ∈ l) (h : x.key = y.key) : x = y := by
  obtain ⟨i, hi, ei⟩ := List.getElem_of_mem hx
  obtain ⟨j, hj, ej⟩ := List.getElem_of_mem hy
  rcases Nat.lt_trichotomy i j with q | q | q
  · exact absurd (by rw [ei, ej]; exact h) (List.pairwise_iff_getElem.1 hp i j hi hj q)
  · subst q; rw [← ei, ← ej]
  · exact absurd (by rw [ei, ej]; exact h.symm) (List.pairwise_iff_getElem.1 hp j i hj hi q)
/-- a step -/
theorem It.next (h : It w P k b r f done) (ty : TypeId) :
    ((∀ x v, f x = some v → x ∈ done) ∧ (Instr.next (.pointer (some ⟨r, 0, none⟩)) false ty).run P w = .ok (.tuple #[.bool false]) w) ∨
    ∃ key v w2, f key = some v ∧ key ∉ done ∧ (∃ l, keyOf P k key = some l) ∧ (Instr.next (.pointer (some ⟨r, 0, none⟩)) false ty).run P w = .ok (.tuple #[.bool true, key, v]) w2 ∧ It w2 P k b r f (done ++ [key]) ∧
      (Instr.entry (.pointer (some ⟨r, 0, none⟩))).run P w2 = .ok (.tuple #[key, v]) w2 ∧ itLeft w2 b r < itLeft w b r ∧ w.grownBy w2 (some r) := by
  have hne := h.ne
  obtain ⟨es, clock, seen, c0, hb, hr, hc, hE, hs⟩ := h
  have hst := (stamped_iff es clock).1 hE.st
  rcases run_next_at (P := P) w ty r b clock c0 seen es clock hr hb hst.1 hc with ⟨h0, hrun⟩ | ⟨e, he, w1, hw1, hrun⟩
  · refine .inl ⟨fun x v hx => ?_, hrun⟩
    obtain ⟨y, hy, hyk⟩ := hE.all x v hx
    have hnl : y ∉ (leftOf es seen) := fun hm => by
      have := Array.eq_empty_of_size_eq_zero h0
      rw [this] at hm
      simp at hm
    have : seen.contains y.born = true := by
      cases hcn : seen.contains y.born with
      | true => rfl
      | false => exact absurd (by unfold leftOf; rw [Array.mem_filter]; exact ⟨by simpa using hy, by rw [hcn]; rfl⟩) hnl
    rw [← hyk]
    exact (hs y hy).1 this
  · have hmem : e ∈ es.toList ∧ seen.contains e.born = false := by
      have := he
      unfold leftOf at this
      rw [Array.mem_toList_iff, Array.mem_filter] at this
      exact ⟨by simpa using this.1, by simpa using this.2⟩
    have hb1 : w1.heap = w.heap := by rcases hw1 with rfl | rfl <;> rfl
    have hr1 : w1.heap[r]? = some (.mapIter (some b) clock seen c0) := by rw [hb1]; exact hr
    have hlt1 : r < w1.heap.size := (Array.getElem?_eq_some_iff.1 hr1).1
    have hrn : (setBlock w1 r (.mapIter (some b) clock (seen.push e.born) clock)).heap[r]? = some (.mapIter (some b) clock (seen.push e.born) clock) := by
      show (w1.heap.setIfInBounds r _)[r]? = _
      rw [Array.getElem?_setIfInBounds_self_of_lt hlt1]
    have hoth : ∀ j, j ≠ r → (setBlock w1 r (.mapIter (some b) clock (seen.push e.born) clock)).heap[j]? = w.heap[j]? := fun j hj => by
      show (w1.heap.setIfInBounds r _)[j]? = _
      rw [Array.getElem?_setIfInBounds_ne (fun q => hj q.symm), hb1]
    have hbn := (hoth b hne).trans hb
    have hsz : (setBlock w1 r (.mapIter (some b) clock (seen.push e.born) clock)).heap.size = w.heap.size := by
      show (w1.heap.setIfInBounds r _).size = _
      rw [Array.size_setIfInBounds, hb1]
    refine .inr ⟨e.key, e.val, _, (hE.ks e hmem.1).2, fun hd => ?_, (hE.ks e hmem.1).1, hrun, ⟨es, clock, _, clock, hbn, hrn, Nat.le_refl _, hE, fun y hy => ?_⟩, run_entry_at _ r b clock seen es clock e hrn hbn hmem.1 hst.2.1, ?_, ?_⟩
    · have := (hs e hmem.1).2 hd
      rw [hmem.2] at this; cases this
    · rw [Array.contains_push, List.mem_append, List.mem_singleton, Bool.or_eq_true, hs y hy, beq_iff_eq]
      constructor
      · rintro (h1 | h1)
        · exact .inl h1
        · exact .inr (congrArg MapEntry.key (born_inj hst.2.1 hy hmem.1 h1))
      · rintro (h1 | h1)
        · exact .inl h1
        · right
          rw [key_one hst.2.2 hy hmem.1 h1]
    · unfold itLeft
      rw [hbn, hrn, hb, hr]
      show (leftOf es (seen.push e.born)).size < (leftOf es seen).size
      exact left_shrinks es seen e he
    · refine ⟨?_, ?_, ?_, Nat.le_of_eq hsz.symm, fun j _ hj => hoth j (fun q => hj (by rw [q]))⟩ <;> rcases hw1 with rfl | rfl <;> rfl
/-- the entry that has just come is taken out -/
theorem It.del (h : It w P k b r f done) (K : Keyed P k) (ht : P.underlying t = some (.map k e)) {key : Value} {kl : Lit} (hkey : keyOf P k key = some kl) (ty : TypeId) :
    ∃ w2, (Builtin.delete_ #[t, k] ty #[.map (some b), key]).run P w = .ok (.tuple #[]) w2 ∧ It w2 P k b r (drop f key) done ∧ w.mapTurned w2 b ∧ itLeft w2 b r ≤ itLeft w b r := by
  have hne := h.ne
  obtain ⟨es, clock, seen, c0, hb, hr, hc, hE, hs⟩ := h
  have key : ∃ es2 : Array MapEntry, (Builtin.delete_ #[t, k] ty #[.map (some b), key]).run P w = .ok (.tuple #[]) (setBlock w b (.map es2 clock)) ∧ Ents P k es2 clock (drop f key) ∧ es2.toList.Sublist es.toList := by
    rcases K.find w hkey es.toList (fun e he => (hE.ks e he).1) with ⟨h1, h2⟩ | ⟨j, e0, h1, h2, h3⟩
    · refine ⟨es, ?_, ⟨hE.st, fun x hx => ⟨(hE.ks x hx).1, by rw [drop_ne _ (h2 x hx)]; exact (hE.ks x hx).2⟩, fun x v hv => ?_⟩, List.Sublist.refl _⟩
      · simp [Builtin.delete_, run_underlying ht, MapKept.run_getObj_map hb, K.check w _ hkey, h1, MapKept.run_setObj_map _ hb, Result.andThen, setBlock]
      · by_cases hxk : x = key
        · rw [hxk, drop_self] at hv; cases hv
        · rw [drop_ne _ hxk] at hv
          exact hE.all x v hv
    · have hpw := ((stamped_iff es clock).1 hE.st).2.2
      have hjl : j < es.toList.length := (List.getElem?_eq_some_iff.1 h2).1
      have hjs : j < es.size := by simpa using hjl
      have ej : es.toList[j] = e0 := (List.getElem?_eq_some_iff.1 h2).2
      have hsub : (es.eraseIdxIfInBounds j).toList = es.toList.eraseIdx j := by
        unfold Array.eraseIdxIfInBounds
        rw [dif_pos hjs]
        simp
      refine ⟨es.eraseIdxIfInBounds j, ?_, ⟨stamped_erase hE.st j, fun x hx => ?_, fun x v hv => ?_⟩, by rw [hsub]; exact List.eraseIdx_sublist _ _⟩
      · simp [Builtin.delete_, run_underlying ht, MapKept.run_getObj_map hb, K.check w _ hkey, h1, MapKept.run_setObj_map _ hb, Result.andThen, setBlock]
      · rw [hsub] at hx
        obtain ⟨i, hij, hi⟩ := List.mem_eraseIdx_iff_getElem?.1 hx
        have hi' : i < es.toList.length := (List.getElem?_eq_some_iff.1 hi).1
        have ei : es.toList[i] = x := (List.getElem?_eq_some_iff.1 hi).2
        have hxm := List.mem_of_getElem? hi
        have hne2 : x.key ≠ key := fun hh => by
          have ejk : es.toList[j].key = es.toList[i].key := (congrArg MapEntry.key ej).trans (h3.trans (hh.symm.trans (congrArg MapEntry.key ei).symm))
          rcases Nat.lt_or_gt_of_ne hij with q | q
          · exact List.pairwise_iff_getElem.1 hpw i j hi' hjl q ejk.symm
          · exact List.pairwise_iff_getElem.1 hpw j i hjl hi' q ejk
        exact ⟨(hE.ks x hxm).1, by rw [drop_ne _ hne2]; exact (hE.ks x hxm).2⟩
      · by_cases hxk : x = key
        · rw [hxk, drop_self] at hv; cases hv
        · rw [drop_ne _ hxk] at hv
          obtain ⟨y, hy, hyk⟩ := hE.all x v hv
          obtain ⟨i, hi, ey⟩ := List.getElem_of_mem hy
          refine ⟨y, ?_, hyk⟩
          rw [hsub]
          refine List.mem_eraseIdx_iff_getElem?.2 ⟨i, fun hh => ?_, by rw [List.getElem?_eq_getElem hi, ey]⟩
          subst hh
          rw [ej] at ey
          exact hxk (by rw [← hyk, ← ey, h3])
  obtain ⟨es2, hrun, hE2, hsub⟩ := key
  have hb2 : (setBlock w b (.map es2 clock)).heap[b]? = some (.map es2 clock) := heap_setBlock_same hb _
  have hr2 : (setBlock w b (.map es2 clock)).heap[r]? = some (.mapIter (some b) clock seen c0) := (heap_setBlock_other hb _ (fun q => hne q.symm)).trans hr
  refine ⟨_, hrun, ⟨es2, clock, seen, c0, hb2, hr2, hc, hE2, fun e he => hs e (hsub.subset he)⟩, ⟨es, clock, _, _, hb, rfl⟩, ?_⟩
  unfold itLeft
  rw [hb2, hr2, hb, hr]
  show (leftOf es2 seen).size ≤ (leftOf es seen).size
  have h1 : ∀ a : Array MapEntry, (leftOf a seen).size = (a.toList.filter fun e => !seen.contains e.born).length := fun a => by
    unfold leftOf
    rw [← Array.length_toList, Array.toList_filter]
  rw [h1, h1]
  exact (hsub.filter _).length_le
end Go.Proofs.Ytnhnbobgfadhpaa.Mp
namespace Go.Proofs.Ytnhnbobgfadhpaa.Dec
open Go Go.RowKit Go.Shelf Go.Proofs.YtnhnbobgfadhpaaW.PrintWords Go.Proofs.YtnhnbobgfadhpaaW.PrintLast Go.Proofs.YtnhnbobgfadhpaaW.PrintMore Go.Proofs.Ytnhnbobgfadhpaa.Mp
set_option linter.unusedVariables false
set_option linter.unusedSimpArgs false
variable {g : Nat} {L L' : Lay} {d : D} {W W1 w0 : World}
theorem fnE27 : ∀ args w, (callFunc 27 args).run Try.prog w = .ok (.enter 27 args) w := enters_of Try.func27 (by kernel_rfl) rfl
/-- is a proposal to be lost? -/
def lostB (who : Int) (b : Int) (p : Pp) : Bool := decide (Int.tmod b 8 = who) && decide (p.ph ≠ 3)
set_option maxRecDepth 100000 in
theorem lost_c (who b : Int) (q n gW : Nat) (p : Pp) (w : World) (hq : w.heap[q]? = some (.cells (ppc n p) 72 (0, 0))) (hw : w.cell? ⟨gW, 0, none⟩ = some (.int .i64 who)) :
    Calls Try.prog 27 #[.int .i64 b, .pointer (some ⟨q, 0, none⟩), .pointer (some ⟨gW, 0, none⟩)] w fun e w' => e = .returned (.bool (lostB who b p)) ∧ w = w' := by
  have HP := Aside0.mk (phase_c q n p w hq)
  clear hq
  by_cases h1 : Int.tmod b 8 = who
  · have h1b : (Int.tmod b 8 == who) = true := beq_iff_eq.2 h1
    by_cases h2 : p.ph = 3
    · have HR : Aside0 (lostB who b p = false) := ⟨by unfold lostB; rw [decide_eq_false (show ¬ p.ph ≠ 3 from fun hh => hh h2), Bool.and_false]⟩
      have h2b : (p.ph != 3) = false := by simp [h2]
      clear h1 h2
      go_enter Try.func27, Try.ntmps27
      go_wp2_with (first | (go_at_call 28; go_loud ((with_reducible refine HP.out.mono ?_); rintro e w_ ⟨rfl, rfl⟩)))
      go_ret
      rw [HR.out]
      exact ⟨rfl, rfl⟩
    · have HR : Aside0 (lostB who b p = true) := ⟨by unfold lostB; rw [decide_eq_true h1, decide_eq_true h2]; rfl⟩
      have h2b : (p.ph != 3) = true := by simp [h2]
      clear h1 h2
      go_enter Try.func27, Try.ntmps27
      go_wp2_with (first | (go_at_call 28; go_loud ((with_reducible refine HP.out.mono ?_); rintro e w_ ⟨rfl, rfl⟩)))
      go_ret
      rw [HR.out]
      exact ⟨rfl, rfl⟩
  · have h1b : (Int.tmod b 8 == who) = false := beq_eq_false_iff_ne.2 h1
    have HR : Aside0 (lostB who b p = false) := ⟨by unfold lostB; rw [decide_eq_false h1, Bool.false_and]⟩
    clear h1
    go_enter Try.func27, Try.ntmps27
    go_wp2
    go_ret
    rw [HR.out]
    exact ⟨rfl, rfl⟩
theorem ppC_inv {f : Int → Option Nat} {x v : Value} (h : ppC f x = some v) : ∃ b q, x = kInt b ∧ f b = some q ∧ v = ptr q := by
  cases x <;> try (cases h)
  rename_i k b
  cases k <;> try (cases h)
  have h : (f b).map ptr = some v := h
  cases hf : f b with
  | none => rw [hf] at h; cases h
  | some q => rw [hf] at h; exact ⟨b, q, rfl, hf, (Option.some.inj h).symm⟩
theorem ppC_drop (f : Int → Option Nat) (b : Int) : drop (ppC f) (kInt b) = ppC (upd f b none) := by
  funext v
  by_cases hv : v = kInt b
  · subst hv
    rw [drop_self]
    show _ = (upd f b none b).map ptr
    rw [upd_self]; rfl
  · rw [drop_ne _ hv]
    cases v <;> try rfl
    rename_i k a
    cases k <;> try rfl
    show (f a).map ptr = (upd f b none a).map ptr
    rw [upd_ne _ _ (fun e => hv (by rw [e]; rfl))]
/-- in the midst of the loss: pl' is what is left, done the keys that have come -/
structure FgRel (base : Nat) (w : World) (g : Nat) (L : Lay) (d : D) (who : Int) (r : Nat) (wr : World) : Prop where
  ex : ∃ (pl' : Int → Option Nat) (done : List Value), It wr Try.prog 3 L.gp r (ppC pl') done ∧
    (∀ b, (pl' b = L.pl b ∧ ∀ p, d.pp b = some p → kInt b ∈ done → lostB who b p = false) ∨ (pl' b = none ∧ ∃ p, d.pp b = some p ∧ lostB who b p = true)) ∧
    w.os = wr.os ∧ w.tape = wr.tape ∧ w.output = wr.output ∧ w.heap.size ≤ wr.heap.size ∧ (∀ k, k < w.heap.size → k ≠ L.gp → wr.heap[k]? = w.heap[k]?)
theorem forg_pp (d : D) (who b : Int) : (forgD d who).pp b = match d.pp b with | none => none | some p => if lostB who b p = true then none else some p := by
  show (match d.pp b with | none => none | some p => if Int.tmod b 8 = who ∧ p.ph ≠ 3 then none else some p) = _
  cases d.pp b with
  | none => rfl
  | some p =>
    show (if Int.tmod b 8 = who ∧ p.ph ≠ 3 then none else some p) = if lostB who b p = true then none else some p
    unfold lostB
    by_cases h1 : Int.tmod b 8 = who
    · by_cases h2 : p.ph ≠ 3
      · rw [if_pos ⟨h1, h2⟩, decide_eq_true h1, decide_eq_true h2]; rfl
      · rw [if_neg (fun hh => h2 hh.2), decide_eq_false h2, Bool.and_false, if_neg Bool.false_ne_true]
    · rw [if_neg (fun hh => h1 hh.1), decide_eq_false h1, Bool.false_and, if_neg Bool.false_ne_true]
/-- what is left -/
def FgEnd (w : World) (L : Lay) (d : D) (who : Int) (wr : World) (pl' : Int → Option Nat) : Prop :=
  IMap wr Try.prog 3 L.gp (ppC pl') ∧ (∀ b, (pl' b = L.pl b ∧ ∀ p, d.pp b = some p → lostB who b p = false) ∨ (pl' b = none ∧ ∃ p, d.pp b = some p ∧ lostB who b p = true)) ∧
    (wr.os = w.os ∧ wr.tape = w.tape ∧ wr.output = w.output ∧ w.heap.size ≤ wr.heap.size) ∧ (∀ k, k < w.heap.size → k ≠ L.gp → wr.heap[k]? = w.heap[k]?)
set_option maxRecDepth 100000 in
set_option maxHeartbeats 8000000 in
theorem delf_c {base : Nat} (who : Int) (gW : Nat) (w : World) (h : IsD base w g L d) (hw : w.cell? ⟨gW, 0, none⟩ = some (.int .i64 who)) (hgw : gW ≠ L.gp) :
    Calls Try.prog 26 #[.map (some L.gp), .func (.func 27) #[] #[.pointer (some ⟨gW, 0, none⟩)]] w fun e w' => e = .returned (.tuple #[]) ∧
      ∃ pl', FgEnd w L d who w' pl' := by
  have HD := Aside0.mk h
  have HWC := Aside0.mk hw
  have HGW := Aside0.mk hgw
  have hfe := fnE27
  obtain ⟨w2, hrun, hIt, hB⟩ := h.pp.range (t := 40) (e := 63) Try.underlying40
  have HR0 : Aside0 (FgRel base w g L d who w.heap.size w2) := ⟨⟨L.pl, [], hIt, fun b => .inl ⟨rfl, fun p _ hm => by cases hm⟩, hB.os.symm, hB.tape.symm, hB.output.symm, hB.size, fun k hk _ => hB.block k hk⟩⟩
  obtain ⟨r, hr⟩ : ∃ r, w.heap.size = r := ⟨_, rfl⟩
  rw [hr] at HR0 hrun
  have HRR := Aside0.mk hr
  clear h hw hgw hIt hB hr
  go_enter Try.func26, Try.ntmps26
  go_wp2_with fail
  clear hrun
  go_loopw [4] (fun _ wr => Aside0 (FgRel base w g L d who r wr)) (fun _ wr => itLeft wr L.gp r)
  case atStart => exact HR0
  case round =>
    clear HR0
    obtain ⟨⟨pl', done, hIt, hpl, h1, h2, h3, h4, h5⟩⟩ := hrel.out
    rcases hIt.next 0 with ⟨hall, hrun⟩ | ⟨key, v, w3, hf, hnd, ⟨l, hkey⟩, hrun, hIt2, hent, hlt, hg⟩
    · have HE : Aside0 (FgEnd w L d who wr pl') := ⟨hIt.map, fun b => by
        rcases hpl b with ⟨e1, e2⟩ | e
        · refine .inl ⟨e1, fun p hp => e2 p hp ?_⟩
          obtain ⟨q, hq, _⟩ := HD.out.prs b p hp
          exact hall (kInt b) (ptr q) (by show (pl' b).map ptr = _; rw [e1, hq]; rfl)
        · exact .inr e, ⟨h1.symm, h2.symm, h3.symm, h4⟩, h5⟩
      clear hall hIt hpl h1 h2 h3 h4 h5 hrel
      go_wp2_with fail
      go_end0
      exact ⟨rfl, pl', HE.out⟩
    · obtain ⟨b, q, rfl, hq, rfl⟩ := ppC_inv hf
      have hLq : L.pl b = some q := by
        rcases hpl b with ⟨e1, _⟩ | ⟨e1, _⟩
        · rw [← e1]; exact hq
        · rw [hq] at e1; cases e1
      obtain ⟨p, hp, hqb⟩ : ∃ p, d.pp b = some p ∧ w.heap[q]? = some (.cells (ppc d.sl.length p) 72 (0, 0)) := by
        cases hp : d.pp b with
        | none => rw [HD.out.prn b hp] at hLq; cases hLq
        | some p => obtain ⟨q', e1, _, e2⟩ := HD.out.prs b p hp; rw [hLq] at e1; cases e1; exact ⟨p, rfl, e2⟩
      have hsz : w.heap.size ≤ w3.heap.size := Nat.le_trans h4 hg.size
      have hk3 : ∀ k, k < w.heap.size → k ≠ L.gp → w3.heap[k]? = w.heap[k]? := fun k hk hne => (hg.block k (Nat.lt_of_lt_of_le hk h4) (fun e => by have := Option.some.inj e; have := HRR.out; omega)).trans (h5 k hk hne)
      have hq3 := (hk3 q (blk_lt hqb) (ne_tag (tag_cells hqb) (tag_map HD.out.pp) (by decide))).trans hqb
      have hc3 : w3.cell? ⟨gW, 0, none⟩ = some (.int .i64 who) := by
        rw [← HWC.out]
        unfold World.cell?
        rw [hk3 gW (World.block_lt_of_cell? _ _ HWC.out) HGW.out]
      have HC := Aside0.mk (lost_c who b q d.sl.length gW p w3 hq3 hc3)
      have HM := Aside0.mk hlt
      simp only [kInt, ptr] at hrun hent
      cases hl : lostB who b p with
      | true =>
        rw [hl] at HC
        obtain ⟨w4, hdel, hIt3, hT, hle⟩ := hIt2.del keyedInt Try.underlying40 hkey 0
        simp only [kInt] at hdel
        rw [ppC_drop] at hIt3
        have HN : Aside0 (FgRel base w g L d who r w4) := ⟨⟨upd pl' b none, done ++ [kInt b], hIt3, fun b2 => by
          by_cases e : b2 = b
          · subst e
            exact .inr ⟨upd_self _ _ _, p, hp, hl⟩
          · rw [upd_ne _ _ e]
            rcases hpl b2 with ⟨e1, e2⟩ | e1
            · refine .inl ⟨e1, fun p2 hp2 hm => ?_⟩
              rcases List.mem_append.1 hm with hm | hm
              · exact e2 p2 hp2 hm
              · exact absurd (kInt_inj (List.mem_singleton.1 hm)) e
            · exact .inr e1, h1.trans (hT.grown.os.trans hg.os).symm, h2.trans (hT.grown.tape.trans hg.tape).symm, h3.trans (hT.grown.output.trans hg.output).symm, Nat.le_trans hsz hT.grown.size,
            fun k hk hne => (mapTurned_keep hT hne (Nat.lt_of_lt_of_le hk hsz)).trans (hk3 k hk hne)⟩⟩
        have HLE := Aside0.mk hle
        clear hIt hpl h1 h2 h3 h4 h5 hrel hf hnd hIt2 hlt hg hq hLq hp hqb hsz hk3 hq3 hc3 hl hT hIt3 hle
        go_wp2_with (go_at_fn 27; refine HC.out.mono ?_; rintro e w_ ⟨rfl, rfl⟩)
        go_roundw
        case rel => exact HN
        case measure => have := HM.out; have := HLE.out; omega
      | false =>
        rw [hl] at HC
        have HN : Aside0 (FgRel base w g L d who r w3) := ⟨⟨pl', done ++ [kInt b], hIt2, fun b2 => by
          rcases hpl b2 with ⟨e1, e2⟩ | e1
          · refine .inl ⟨e1, fun p2 hp2 hm => ?_⟩
            rcases List.mem_append.1 hm with hm | hm
            · exact e2 p2 hp2 hm
            · have e := kInt_inj (List.mem_singleton.1 hm)
              subst e
              rw [hp] at hp2; cases hp2; exact hl
          · exact .inr e1, h1.trans hg.os.symm, h2.trans hg.tape.symm, h3.trans hg.output.symm, hsz, hk3⟩⟩
        clear hIt hpl h1 h2 h3 h4 h5 hrel hf hnd hIt2 hlt hg hq hLq hp hqb hsz hk3 hq3 hc3 hl
        go_wp2_with (go_at_fn 27; refine HC.out.mono ?_; rintro e w_ ⟨rfl, rfl⟩)
        go_roundw
        case rel => exact HN
        case measure => have := HM.out; omega
end Go.Proofs.Ytnhnbobgfadhpaa.Dec
namespace Go.Proofs.Ytnhnbobgfadhpaa.Dec
open Go Go.RowKit Go.Shelf Go.Proofs.YtnhnbobgfadhpaaW.PrintWords Go.Proofs.YtnhnbobgfadhpaaW.PrintLast Go.Proofs.YtnhnbobgfadhpaaW.PrintMore Go.Proofs.Ytnhnbobgfadhpaa.Mp
set_option linter.unusedVariables false
set_option linter.unusedSimpArgs false
variable {g : Nat} {L L' : Lay} {d : D} {W W1 w0 : World}
set_option maxRecDepth 100000 in
set_option maxHeartbeats 8000000 in
theorem forget_c {base : Nat} (who : Int) (w : World) (h : IsD base w g L d) :
    Calls Try.prog 17 #[.pointer (some ⟨g, 0, none⟩), .int .i64 who] w fun e w' => e = .returned (.tuple #[]) ∧
      ∃ L', IsD base w' g L' (forgD d who) ∧ Turn w w' (Foot L g) (Foot L' g) := by
  have OW := Aside0.mk (Mem.Own.nil w)
  have HD := Aside0.mk h
  have HFT := Aside0.mk (fun k hk => h.foot_lt k hk)
  have k1 : w.cell? ⟨g, 1, none⟩ = some (.map (some L.gp)) := (blk_cell h.blk 1).trans rfl
  clear h
  go_enter Try.func17, Try.ntmps17
  go_wp2_with (first
    | ((with_reducible refine gate_dst (N := 3) rfl ?_); refine box_event ?hg (N := 3) ?hd (cs := #[.int .i64 who]) (t := 3) ?hr ?_; (case hd => rfl); (case hg => rfl); (case hr => first | (go_simp; done) | (go_simp; rfl)); intro gW hg W_ hb hbb; have n2 := Aside0.mk (HD.out.below hbb); clear HD; have HD := n2; clear n2; have n3 := (hbb.cell (World.block_lt_of_cell? _ _ k1)).trans k1; clear k1; have k1 := n3; clear n3; have HC := Aside0.mk (delf_c who gW W_ HD.out ((blk_cell hb 0).trans rfl) (fun e => (by have := HFT.out L.gp (.inr (.inr (.inl rfl))); rw [← e, hg] at this; exact Nat.lt_irrefl _ this))); have n_ : Aside0 (Mem.Own w W_ [(gW, #[.int .i64 who], 3)]) := ⟨OW.out.new hg hb hbb⟩; clear OW hb hbb hg; have OW := n_; clear n_)
    | (go_at_call 26; go_loud (refine HC.out.mono ?_; rintro e wz ⟨rfl, pl', h1, h2, h3, h4⟩; have H1 := Aside0.mk h1; have H2 := Aside0.mk h2; have H3 := Aside0.mk h3; have H4 := Aside0.mk h4; clear h1 h2 h3 h4)))
  go_end0
  obtain ⟨hI, hT⟩ := HD.out.drop_pp (pp' := (forgD d who).pp) H1.out H3.out H4.out (fun b q e => by
    rcases H2.out b with ⟨e1, _⟩ | ⟨e1, _⟩
    · rw [← e1]; exact e
    · rw [e] at e1; cases e1) (fun b => by
    rw [forg_pp]
    rcases H2.out b with ⟨e1, e2⟩ | ⟨e1, p, e2, e3⟩
    · refine .inr ⟨?_, e1⟩
      cases hp : d.pp b with
      | none => rfl
      | some p =>
        show (if lostB who b p = true then none else some p) = some p
        rw [e2 p hp, if_neg Bool.false_ne_true]
    · refine .inl ⟨?_, e1⟩
      rw [e2]
      show (if lostB who b p = true then none else some p) = none
      rw [e3, if_pos rfl])
  exact ⟨rfl, _, hI, (Turn.below (F := Foot L g) OW.out.below).trans hT⟩
theorem prom_v {base : Nat} (x0 x1 x2 x3 x4 : Int) (x5 : ByteArray) (w : World) (h : IsD base w g L d) (hx : LtW d.sl.length ⟨x0, x1, x2, x3, x4, x5⟩) (hl : d.lt.length ≤ 1000000) (hbase : base ≤ w.heap.size) :
    Calls Try.prog 29 #[.pointer (some ⟨g, 0, none⟩), .agg #[.int .i64 x0, .int .i64 x1, .int .i64 x2, .int .i64 x3, .int .i64 x4, .string x5]] w fun e w' => e = .returned (.tuple #[]) ∧
      ∃ L', IsD base w' g L' (promD d ⟨x0, x1, x2, x3, x4, x5⟩) ∧ Turn w w' (Foot L g) (Foot L' g) := prom_c ⟨x0, x1, x2, x3, x4, x5⟩ w h hx hl hbase
theorem acc_v {base : Nat} (x0 x1 x2 x3 x4 : Int) (x5 : ByteArray) (w : World) (h : IsD base w g L d) (hx : LtW d.sl.length ⟨x0, x1, x2, x3, x4, x5⟩) (hw : ∀ b z, d.tk b = some z → z.1 < 2 ^ 64) (hl : d.lt.length ≤ 1000000) (hbase : base ≤ w.heap.size) :
    Calls Try.prog 30 #[.pointer (some ⟨g, 0, none⟩), .agg #[.int .i64 x0, .int .i64 x1, .int .i64 x2, .int .i64 x3, .int .i64 x4, .string x5]] w fun e w' => e = .returned (.tuple #[]) ∧
      ∃ L', IsD base w' g L' (accD d ⟨x0, x1, x2, x3, x4, x5⟩) ∧ Turn w w' (Foot L g) (Foot L' g) := acc_c ⟨x0, x1, x2, x3, x4, x5⟩ w h hx hw hl hbase
theorem tell_v (x0 x1 x2 x3 x4 : Int) (x5 : ByteArray) (w : World) (h : IsD w0.heap.size w g L d) (hB0 : Below w0.heap.size w0 w) (hx : LtW d.sl.length ⟨x0, x1, x2, x3, x4, x5⟩) (hw : ∀ b p, d.pp b = some p → p.pr < 2 ^ 64 ∧ p.tk < 2 ^ 64) (hl : d.lt.length ≤ 1000000) (hlc : d.ch.length ≤ 1000000) :
    Calls Try.prog 31 #[.pointer (some ⟨g, 0, none⟩), .agg #[.int .i64 x0, .int .i64 x1, .int .i64 x2, .int .i64 x3, .int .i64 x4, .string x5]] w fun e w' => e = .returned (.tuple #[]) ∧
      ∃ L', IsD w0.heap.size w' g L' (tellD d ⟨x0, x1, x2, x3, x4, x5⟩) ∧ Turn w w' (Foot L g) (Foot L' g) := tell_c ⟨x0, x1, x2, x3, x4, x5⟩ w h hB0 hx hw hl hlc
set_option maxRecDepth 100000 in
set_option maxHeartbeats 8000000 in
theorem read_c (x0 x1 x2 x3 x4 : Int) (x5 : ByteArray) (w : World) (h : IsD w0.heap.size w g L d) (hB0 : Below w0.heap.size w0 w) (hx : LtW d.sl.length ⟨x0, x1, x2, x3, x4, x5⟩) (hwf : Wf d.sl.length d) (hl : d.lt.length ≤ 1000000) (hlc : d.ch.length ≤ 1000000) :
    Calls Try.prog 19 #[.pointer (some ⟨g, 0, none⟩), .agg #[.int .i64 x0, .int .i64 x1, .int .i64 x2, .int .i64 x3, .int .i64 x4, .string x5]] w fun e w' => e = .returned (.tuple #[]) ∧
      ∃ L', IsD w0.heap.size w' g L' (readD d ⟨x0, x1, x2, x3, x4, x5⟩) ∧ Turn w w' (Foot L g) (Foot L' g) := by
  have OW := Aside0.mk (Mem.Own.nil w)
  have HD := Aside0.mk h
  have HB0 := Aside0.mk hB0
  have HX := Aside0.mk hx
  have HW := Aside0.mk hwf
  have HL := Aside0.mk hl
  have HLC := Aside0.mk hlc
  clear h hB0 hx hwf hl hlc
  by_cases h0 : x0 = 0
  · have h0b : (x0 == 0) = true := beq_iff_eq.2 h0
    have HR : Aside0 (readD d ⟨x0, x1, x2, x3, x4, x5⟩ = promD d ⟨x0, x1, x2, x3, x4, x5⟩) := ⟨if_pos h0⟩
    clear h0
    go_enter Try.func19, Try.ntmps19
    go_wp2_with (first
      | ((with_reducible refine gate_dst (N := 3) rfl ?_); refine box_event ?hg (N := 3) ?hd (cs := #[.int .i64 x0, .int .i64 x1, .int .i64 x2, .int .i64 x3, .int .i64 x4, .string x5]) (t := 49) ?hr ?_; (case hd => rfl); (case hg => rfl); (case hr => first | (go_simp; done) | (go_simp; rfl)); intro gX hg W_ hb hbb; have n2 := Aside0.mk (HD.out.below hbb); clear HD; have HD := n2; clear n2; have a0 := (blk_cell hb 0).trans rfl; have a1 := (blk_cell hb 1).trans rfl; have a2 := (blk_cell hb 2).trans rfl; have a3 := (blk_cell hb 3).trans rfl; have a4 := (blk_cell hb 4).trans rfl; have a5 := (blk_cell hb 5).trans rfl; have n_ : Aside0 (Mem.Own w W_ [(gX, #[.int .i64 x0, .int .i64 x1, .int .i64 x2, .int .i64 x3, .int .i64 x4, .string x5], 49)]) := ⟨OW.out.new hg hb hbb⟩; clear OW hb hbb hg; have OW := n_; clear n_)
      | (go_at_call 29; go_loud (refine (prom_v x0 x1 x2 x3 x4 x5 _ HD.out HX.out HL.out (Nat.le_trans HB0.out.size OW.out.size)).mono ?_; rintro e wz ⟨rfl, L9, hI, hT⟩; have I9 := Aside0.mk hI; have T9 := Aside0.mk hT; clear hI hT)))
    go_end0
    exact ⟨rfl, L9, by rw [HR.out]; exact I9.out, (Turn.below (F := Foot L g) OW.out.below).trans T9.out⟩
  · have h0b : (x0 == 0) = false := beq_eq_false_iff_ne.2 h0
    by_cases h2 : x0 = 2
    · have h2b : (x0 == 2) = true := beq_iff_eq.2 h2
      have HR : Aside0 (readD d ⟨x0, x1, x2, x3, x4, x5⟩ = accD d ⟨x0, x1, x2, x3, x4, x5⟩) := ⟨(if_neg h0).trans (if_pos h2)⟩
      clear h0 h2
      go_enter Try.func19, Try.ntmps19
      go_wp2_with (first
        | ((with_reducible refine gate_dst (N := 3) rfl ?_); refine box_event ?hg (N := 3) ?hd (cs := #[.int .i64 x0, .int .i64 x1, .int .i64 x2, .int .i64 x3, .int .i64 x4, .string x5]) (t := 49) ?hr ?_; (case hd => rfl); (case hg => rfl); (case hr => first | (go_simp; done) | (go_simp; rfl)); intro gX hg W_ hb hbb; have n2 := Aside0.mk (HD.out.below hbb); clear HD; have HD := n2; clear n2; have a0 := (blk_cell hb 0).trans rfl; have a1 := (blk_cell hb 1).trans rfl; have a2 := (blk_cell hb 2).trans rfl; have a3 := (blk_cell hb 3).trans rfl; have a4 := (blk_cell hb 4).trans rfl; have a5 := (blk_cell hb 5).trans rfl; have n_ : Aside0 (Mem.Own w W_ [(gX, #[.int .i64 x0, .int .i64 x1, .int .i64 x2, .int .i64 x3, .int .i64 x4, .string x5], 49)]) := ⟨OW.out.new hg hb hbb⟩; clear OW hb hbb hg; have OW := n_; clear n_)
        | (go_at_call 30; go_loud (refine (acc_v x0 x1 x2 x3 x4 x5 _ HD.out HX.out HW.out.tk HL.out (Nat.le_trans HB0.out.size OW.out.size)).mono ?_; rintro e wz ⟨rfl, L9, hI, hT⟩; have I9 := Aside0.mk hI; have T9 := Aside0.mk hT; clear hI hT)))
      go_end0
      exact ⟨rfl, L9, by rw [HR.out]; exact I9.out, (Turn.below (F := Foot L g) OW.out.below).trans T9.out⟩
    · have h2b : (x0 == 2) = false := beq_eq_false_iff_ne.2 h2
      have HR : Aside0 (readD d ⟨x0, x1, x2, x3, x4, x5⟩ = tellD d ⟨x0, x1, x2, x3, x4, x5⟩) := ⟨(if_neg h0).trans (if_neg h2)⟩
      clear h0 h2
      go_enter Try.func19, Try.ntmps19
      go_wp2_with (first
        | ((with_reducible refine gate_dst (N := 3) rfl ?_); refine box_event ?hg (N := 3) ?hd (cs := #[.int .i64 x0, .int .i64 x1, .int .i64 x2, .int .i64 x3, .int .i64 x4, .string x5]) (t := 49) ?hr ?_; (case hd => rfl); (case hg => rfl); (case hr => first | (go_simp; done) | (go_simp; rfl)); intro gX hg W_ hb hbb; have n2 := Aside0.mk (HD.out.below hbb); clear HD; have HD := n2; clear n2; have a0 := (blk_cell hb 0).trans rfl; have a1 := (blk_cell hb 1).trans rfl; have a2 := (blk_cell hb 2).trans rfl; have a3 := (blk_cell hb 3).trans rfl; have a4 := (blk_cell hb 4).trans rfl; have a5 := (blk_cell hb 5).trans rfl; have n_ : Aside0 (Mem.Own w W_ [(gX, #[.int .i64 x0, .int .i64 x1, .int .i64 x2, .int .i64 x3, .int .i64 x4, .string x5], 49)]) := ⟨OW.out.new hg hb hbb⟩; clear OW hb hbb hg; have OW := n_; clear n_)
        | (go_at_call 31; go_loud (refine (tell_v x0 x1 x2 x3 x4 x5 _ HD.out (below_step HB0.out OW.out.below) HX.out HW.out.pp HL.out HLC.out).mono ?_; rintro e wz ⟨rfl, L9, hI, hT⟩; have I9 := Aside0.mk hI; have T9 := Aside0.mk hT; clear hI hT)))
      go_end0
      exact ⟨rfl, L9, by rw [HR.out]; exact I9.out, (Turn.below (F := Foot L g) OW.out.below).trans T9.out⟩
end Go.Proofs.Ytnhnbobgfadhpaa.Dec
namespace Go.Proofs.Ytnhnbobgfadhpaa.Dec
open Go Go.RowKit Go.Shelf Go.Proofs.YtnhnbobgfadhpaaW.PrintWords Go.Proofs.YtnhnbobgfadhpaaW.PrintLast Go.Proofs.YtnhnbobgfadhpaaW.PrintMore Go.Proofs.Ytnhnbobgfadhpaa.Mp
set_option linter.unusedVariables false
set_option linter.unusedSimpArgs false
theorem zeros_len (cells : Array Value) (n : Nat) : (Builtin.zeroCells cells n).toList.length = n * cells.size := by simp [Builtin.zeroCells]; try omega
theorem zeroL (w : World) : (zeroValue 49).run Try.prog w = .ok (.agg #[.int .i64 0, .int .i64 0, .int .i64 0, .int .i64 0, .int .i64 0, .string ⟨#[]⟩]) w := by kernel_rfl
/-- a cell behind a row is cleared -/
theorem clear_tail {w : World} {base gl m c : Nat} {xs : List Lt} (h : KL.R 49 w base (fun _ => True) (.slice (some ⟨gl, 0, none⟩) m c) xs) (hm : m < c) (ty : TypeId) :
    ∃ w1, (Builtin.clear_ #[42] ty #[.slice (some ⟨gl, m * 6, none⟩) 1 (c - m)]).run Try.prog w = .ok (.tuple #[]) w1 ∧ KL.R 49 w1 base (fun _ => True) (.slice (some ⟨gl, 0, none⟩) m c) xs ∧ w.grownBy w1 (some gl) := by
  obtain ⟨hok, inner, ⟨hil, ho⟩, hr⟩ := h
  rcases ho with ⟨e, _⟩ | ⟨g2, cap, cur, e, hb, hh, hnc, hcm, hcs, ht⟩
  · cases e
  · injection e with e1 e2 e3
    injection e1 with e1
    injection e1 with e1 _ _
    subst e1; subst e2; subst e3
    obtain ⟨vs, hvs⟩ : ∃ vs, (Builtin.zeroCells (Value.agg #[.int .i64 0, .int .i64 0, .int .i64 0, .int .i64 0, .int .i64 0, .string ⟨#[]⟩]).cells 1).toList = vs := ⟨_, rfl⟩
    have hlen : vs.length = 6 := by rw [← hvs, zeros_len]; rfl
    have hvl : vs = [Value.int .i64 0, .int .i64 0, .int .i64 0, .int .i64 0, .int .i64 0, .string ⟨#[]⟩] := by rw [← hvs]; kernel_rfl
    have hone : ∀ v ∈ vs, v.oneCell' = true := by
      intro v hv
      rw [hvl] at hv
      simp at hv
      rcases hv with rfl | rfl <;> rfl
    have hs6 : xs.length * 6 + 6 ≤ cur.size := by rw [hcs]; show _ ≤ c * 6; omega
    have hst := run_storeCells_cells (P := Try.prog) gl (xs.length * 6) vs 0 w (fun j hj => by
      show (w.cell? ⟨gl, xs.length * 6 + 0 + j, none⟩).isSome = true
      rw [blk_cell hh, Array.getElem?_eq_getElem (by omega)]; rfl) (fun j hj => blk_frozen hh _) hone
    simp only [Nat.add_zero] at hst
    obtain ⟨cur', k1, k2, k3⟩ := setCells_row vs (xs.length * 6) w cur hh (by omega)
    obtain ⟨s1, s2, s3, s4⟩ := setCells_same gl vs (xs.length * 6) w
    refine ⟨w.setCells gl (xs.length * 6) vs, ?_, ⟨hok, inner, ⟨hil, .inr ⟨gl, c, cur', rfl, hb, k1, hnc, hcm, by rw [k2, hcs], ?_⟩⟩, hr.imp_ (fun _ _ hp => hp)⟩, ⟨s1, s2, s3, by rw [s4]; exact Nat.le_refl _, fun k _ hk => setCells_far vs _ k (fun e => hk (by rw [e]))⟩⟩
    · simp [Builtin.clear_, run_underlying Try.underlying42, zeroL, hvs, hst]
    · rw [k3]
      have hcl : cur.toList.length = cur.size := Array.length_toList
      have hlt : (cur.toList.take (xs.length * 6)).length = xs.length * 6 := by rw [List.length_take]; omega
      show List.take (xs.length * 6) _ = inner
      rw [List.append_assoc, List.take_left' hlt]
      exact ht
set_option maxRecDepth 100000 in
set_option maxHeartbeats 8000000 in
theorem del_c (base gl n c i : Nat) (xs : List Lt) (w : World) (h : KL.R 49 w base (fun _ => True) (.slice (some ⟨gl, 0, none⟩) n c) xs) (hi : i < n) (hn : n ≤ 1000000) (hc : n ≤ c) (hbase : base ≤ w.heap.size) :
    Calls Try.prog 18 #[.slice (some ⟨gl, 0, none⟩) n c, .int .i64 (i : Int), .int .i64 ((i : Int) + 1)] w fun e w' => e = .returned (.slice (some ⟨gl, 0, none⟩) (n - 1) c) ∧
      KL.R 49 w' base (fun _ => True) (.slice (some ⟨gl, 0, none⟩) (n - 1) c) (xs.eraseIdx i) ∧ w.grownBy w' (some gl) := by
  have HR := Aside0.mk h
  have HI := Aside0.mk hi
  have HB := Aside0.mk hbase
  have hii : (i : Int) < (n : Int) := by omega
  have hi1 : (i : Int) + 1 ≤ (n : Int) := by omega
  have hci : (n : Int) ≤ (c : Int) := by omega
  have hni : (n : Int) ≤ 1000000 := by omega
  have hne : ((i : Int) == (i : Int) + 1) = false := beq_eq_false_iff_ne.2 (by omega)
  clear h hi hn hc hbase
  go_enter Try.func18, Try.ntmps18
  go_wp2_with fail
  have HRD := Aside0.mk (Kd.R_drew HR.out)
  have HGW := Aside0.mk (show ∀ w1, w.drew.grownBy w1 (some gl) → w.grownBy w1 (some gl) from fun w1 h => ⟨h.os, h.tape, h.output, h.size, h.block⟩)
  obtain ⟨m, hnm⟩ : ∃ m, n - 1 = m := ⟨_, rfl⟩
  have hn1 : n - m = 1 := by omega
  have hmc : m < c := by omega
  have hmc2 : ¬ c = m := by omega
  have hmi : (m : Int) ≤ (n : Int) := by omega
  have h0i : (0 : Int) ≤ (i : Int) + 1 := by omega
  have HBD := Aside0.mk (show base ≤ w.drew.heap.size from HB.out)
  have hicN : i ≤ c := by omega
  have hi1N : i + 1 ≤ n := by omega
  have hi1c : i + 1 ≤ c := by omega
  clear HR
  refine start_ (n := 8) (S := fun w' => Below (w).drew.heap.size (w).drew w') (ds := [6]) #[false, false, false, false, false, false, false, false] (by kernel_rfl) rfl rfl (Below.refl _ _) (fun hHeld => ?_)
  generalize (w).drew = W0 at *
  refine pure_ (i := 0) (N := (some 20)) (v := ?_) (a' := ?_) #[true, false, false, false, false, false, false, false] rfl rfl (by kernel_rfl) (fun _ _ _ h => h) (Or.inl ⟨by rfl, ?_⟩) ?_ ?_
  rotate_left
  · intro w'
    go_simp
    first | done | with_reducible rfl
  rotate_left
  · simp only [Act.put, List.setIfInBounds_toArray, List.set_cons_zero, List.set_cons_succ, i64_w, i32_w]
    rfl
  refine pure_ (i := 1) (N := (some 21)) (v := ?_) (a' := ?_) #[true, true, false, false, false, false, false, false] rfl rfl (by kernel_rfl) (fun _ _ _ h => h) (Or.inl ⟨by rfl, ?_⟩) ?_ ?_
  rotate_left
  · intro w'
    go_simp
    first | done | with_reducible rfl
  rotate_left
  · simp only [Act.put, List.setIfInBounds_toArray, List.set_cons_zero, List.set_cons_succ, i64_w, i32_w]
    rfl
  refine pure_ (i := 2) (N := (some 22)) (v := ?_) (a' := ?_) #[true, true, true, false, false, false, false, false] rfl rfl (by kernel_rfl) (fun _ _ _ h => h) (Or.inl ⟨by rfl, ?_⟩) ?_ ?_
  rotate_left
  · intro w'
    go_simp
    first | done | with_reducible rfl
  rotate_left
  · simp only [Act.put, List.setIfInBounds_toArray, List.set_cons_zero, List.set_cons_succ, i64_w, i32_w]
    rfl
  refine pure_ (i := 3) (N := (some 23)) (v := ?_) (a' := ?_) #[true, true, true, true, false, false, false, false] rfl rfl (by kernel_rfl) (fun _ _ _ h => h) (Or.inl ⟨by rfl, ?_⟩) ?_ ?_
  rotate_left
  · intro w'
    go_simp
    first | done | with_reducible rfl
  rotate_left
  · simp only [Act.put, List.setIfInBounds_toArray, List.set_cons_zero, List.set_cons_succ, i64_w, i32_w]
    rfl
  refine pure_ (i := 4) (N := (some 24)) (v := ?_) (a' := ?_) #[true, true, true, true, true, false, false, false] rfl rfl (by kernel_rfl) (fun _ _ _ h => h) (Or.inl ⟨by rfl, ?_⟩) ?_ ?_
  rotate_left
  · intro w'
    go_simp
    first | done | with_reducible rfl
  rotate_left
  · simp only [Act.put, List.setIfInBounds_toArray, List.set_cons_zero, List.set_cons_succ, i64_w, i32_w]
    rfl
  refine pure_ (i := 5) (N := (some 25)) (v := ?_) (a' := ?_) #[true, true, true, true, true, true, false, false] rfl rfl (by kernel_rfl) (fun _ _ _ h => h) (Or.inl ⟨by rfl, ?_⟩) ?_ ?_
  rotate_left
  · intro w'
    go_simp
    first | done | with_reducible rfl
  rotate_left
  · simp only [Act.put, List.setIfInBounds_toArray, List.set_cons_zero, List.set_cons_succ, i64_w, i32_w]
    rfl
  refine last_ (i := 6) (N := (some 26)) #[true, true, true, true, true, true, true, false] rfl rfl (by kernel_rfl) (by decide) (fun K hK => ?_)
  refine Kd.R_delete_step (P := Try.prog) KL (w0 := W0) (W := W0) base (by rfl) (.tmp 22) (.tmp 25) 42 49 rfl Try.underlying42 (by kernel_rfl) (g := gl) (n := n) (c := c) (k := i) (m := n - (i + 1)) (c2 := c - (i + 1)) rfl rfl ?_ rfl HRD.out HI.out (Below.refl _ _) HBD.out ?_
  · by_cases e : c = i + 1
    · rw [if_pos e, if_pos e]
    · rw [if_neg e, if_neg e, Option.map_some]; simp only [Addr.add, Nat.zero_add]; rfl
  intro w1 hr1 hb1 hg1
  rw [hnm] at hr1 ⊢
  have R1 := Aside0.mk hr1
  have G1 := Aside0.mk (HGW.out w1 hg1)
  obtain ⟨w2, hcl, hr2, hg2⟩ := clear_tail hr1 hmc 0
  have R2 := Aside0.mk hr2
  have G2 := Aside0.mk ((HGW.out w1 hg1).trans hg2)
  clear hr1 hb1 hg1 hr2 hg2
  refine hK.out _ _ ?_
  clear hK K
  refine norm_ (a' := ?_) ?_ ?_
  rotate_left
  · show Act.put _ (some 26) _ = _
    simp only [Act.put, List.setIfInBounds_toArray, List.set_cons_zero, List.set_cons_succ, i64_w, i32_w]
    rfl
  refine pure_ (i := 7) (N := (some 0)) (v := ?_) (a' := ?_) #[true, true, true, true, true, true, true, true] rfl rfl (by kernel_rfl) (fun _ _ _ h => h) (Or.inl ⟨by rfl, ?_⟩) ?_ ?_
  rotate_left
  · intro w'
    go_simp
    first | done | with_reducible rfl
  rotate_left
  · simp only [Act.put, List.setIfInBounds_toArray, List.set_cons_zero, List.set_cons_succ, i64_w, i32_w]
    rfl
  refine done_ (by kernel_rfl) ?_
  go_wp2_with fail
  all_goals
    go_ret
    (try rw [hnm])
    first | exact ⟨rfl, R2.out, G2.out⟩ | (subst_vars; exact ⟨rfl, R2.out, G2.out⟩)
end Go.Proofs.Ytnhnbobgfadhpaa.Dec
