/- Here is proved: what (*fetch.Fetch).takeEdge does. Conditions: what is given is as wide as it must be, of hashes. -/
import Derived.Test.YtondnammkcgjpaaMFetchAll3
import Derived.Test.YtondnammkcgjpaaMFetchAll4
set_option linter.unusedVariables false
set_option linter.unusedSimpArgs false
set_option maxRecDepth 100000
set_option maxHeartbeats 8000000
namespace Go.Proofs.Ytondnammkcgjpaa.Ft
open Go Go.RowKit Go.Shelf Go.Proofs.YtondnammkcgjpaaW.PrintWords Go.Proofs.YtondnammkcgjpaaW.PrintLast Go.Proofs.YtondnammkcgjpaaW.PrintMore Go.Proofs.Ytondnammkcgjpaa.Mp
open Go.Proofs.Ytondnammkcgjpaa.ShaP Go.Proofs.Ytondnammkcgjpaa.Mk Go.Proofs.Ytondnammkcgjpaa.Rg Go.Proofs.Ytondnammkcgjpaa.RgP Go.Proofs.Ytondnammkcgjpaa.Rf Go.Proofs.Ytondnammkcgjpaa.RgL Go.Proofs.Ytondnammkcgjpaa.Til Go.Proofs.Ytondnammkcgjpaa.Fg Go.Proofs.Ytondnammkcgjpaa.Fun Go.Proofs.Ytondnammkcgjpaa.Rng
variable {base g gt gb : Nat} {s : FS} {w W W1 : World}
theorem ki_turn {B : Nat} {v : Value} {l : List (Int × Int)} (h : KI.R 24 W B (fun _ => True) v l) (hI : IsF base W g gt gb s) (hT : Turn (Foot g gt gb) W W1) : KI.R 24 W1 B (fun _ => True) v l :=
  Kd.R_mono (Kd.R_step (only_k h) (fun k ho hlt => hT.keep k hlt (fun hf => by
    have ht := tag_row h k ho
    rcases hf with rfl | rfl | rfl
    · exact ne_tag ht hI.tg (by decide) rfl
    · exact ne_tag ht hI.tl.tag (by decide) rfl
    · exact ne_tag ht hI.bn.tag (by decide) rfl))) (fun _ _ => trivial)
def okE (s : FS) : Bool := !haveE s || decide (rootE s = s.root)
noncomputable def dropE (s : FS) : FS := (edgeF wdF s.size).foldl dropT s
theorem drops_size (l : List (Int × Int)) : ∀ s : FS, (l.foldl dropT s).size = s.size := by
  induction l with
  | nil => intro s; rfl
  | cons x l ih => intro s; exact ih _
theorem inv_put {x : Int × Int} {l : List ByteArray} (h : InvF s) (h1 : (l.length : Int) = wdF s.size x.1 x.2) (h2 : A32 l) : InvF (putT s x l) := by
  refine ⟨fun y l' hy => ?_, h.bn⟩
  by_cases e : y = x
  · subst e
    have : (putT s y l).tiles y = some l := upd_self _ _ _
    rw [this] at hy
    cases hy
    exact ⟨h1, h2⟩
  · have : (putT s x l).tiles y = s.tiles y := upd_ne _ _ e
    rw [this] at hy
    exact h.tl y l' hy
theorem takeE_c (x0 x1 : Int) (A : Option Addr) (c : Nat) (l : List ByteArray) (h : IsF base w g gt gb s) (hv : InvF s) (hb : base ≤ w.heap.size) (hlw : (l.length : Int) = wdF s.size x0 x1) (h0 : 0 < l.length) (h4 : l.length ≤ 4) (h32 : A32 l) (w0 : wf x0) (w1 : wf x1) (hr : Kd.C Kd.string w A l.length l) :
    Calls Try.prog 98 #[.pointer (some ⟨g, 0, none⟩), .agg #[.int .i64 x0, .int .i64 x1], .slice A l.length c] w fun e w' => e = .returned (.int .i64 (if okE (putT s (x0, x1) l) then 0 else 8)) ∧
      IsF base w' g gt gb (if okE (putT s (x0, x1) l) then putT s (x0, x1) l else dropE (putT s (x0, x1) l)) ∧ Turn (Foot g gt gb) w w' := by
  have OW := Aside0.mk (Mem.Own.nil w)
  have HF := Aside0.mk h
  have HR := Aside0.mk hr
  have HB := Aside0.mk hb
  have HL := Aside0.mk (show 0 < l.length ∧ l.length ≤ 4 from ⟨h0, h4⟩)
  have HWF := Aside0.mk (show wf x0 ∧ wf x1 from ⟨w0, w1⟩)
  have HCL := Aside0.mk (fun W h => clone_c A c l W (by omega) h)
  have HSZ := Aside0.mk h.sz
  have HV := Aside0.mk (inv_put (x := (x0, x1)) hv hlw h32)
  have HSZ := Aside0.mk (show (putT s (x0, x1) l).size ≤ 64 from HSZ.out)
  have HOE := Aside0.mk (show okE (putT s (x0, x1) l) = (!haveE (putT s (x0, x1) l) || decide (rootE (putT s (x0, x1) l) = (putT s (x0, x1) l).root)) from rfl)
  obtain ⟨cd, hcd⟩ : ∃ cd : Int, (if okE (putT s (x0, x1) l) then 0 else 8) = cd := ⟨_, rfl⟩
  obtain ⟨s9, hs9⟩ : ∃ s9, (if okE (putT s (x0, x1) l) then putT s (x0, x1) l else dropE (putT s (x0, x1) l)) = s9 := ⟨_, rfl⟩
  rw [hcd, hs9]
  have HCD := Aside0.mk hcd
  have HS9 := Aside0.mk hs9
  clear h hr hb h0 h4 hlw h32 w0 w1 hv hcd hs9
  go_enter Try.func98, Try.ntmps98
  go_wp2_with (first
    | ((with_reducible refine gate_dst (N := 4) rfl ?_); refine box_event ?hg (N := 4) ?hd (cs := #[.int .i64 x0, .int .i64 x1]) (t := 24) ?hr ?_; (case hd => rfl); (case hg => rfl); (case hr => first | (go_simp; done) | (go_simp; rfl)); intro gI hg W_ hb hbb; have n_ : Aside0 (Mem.Own w W_ [(gI, #[.int .i64 x0, .int .i64 x1], 24)]) := ⟨OW.out.new hg hb hbb⟩; clear OW hb hbb hg; have OW := n_; clear n_))
  have OD := Aside0.mk OW.out.drew
  have HFD := Aside0.mk ((HF.out.below OW.out.below).drew)
  have HRD := Aside0.mk (Kd.C_drew (Kd.C_below HR.out OW.out.below))
  have b0 : W_.drew.cell? ⟨gI, 0, none⟩ = some (.int .i64 x0) := (OD.out.cell 0 rfl 0).trans rfl
  have b1 : W_.drew.cell? ⟨gI, 1, none⟩ = some (.int .i64 x1) := (OD.out.cell 0 rfl 1).trans rfl
  have c2 : W_.drew.cell? ⟨g, 74, none⟩ = some (.map (some gt)) := (HFD.out.cell 2).trans rfl
  clear OW
  refine start_ (n := 8) (S := fun w' => Below (W_).drew.heap.size (W_).drew w') (ds := [7]) #[false, false, false, false, false, false, false, false] (by kernel_rfl) rfl rfl (Below.refl _ _) (fun hHeld => ?_)
  generalize (W_).drew = W1 at *
  refine pure_ (i := 0) (N := (some 11)) (v := ?_) (a' := ?_) #[true, false, false, false, false, false, false, false] rfl rfl (by kernel_rfl) (fun _ _ _ h => h) (Or.inl ⟨by rfl, ?_⟩) ?_ ?_
  rotate_left
  · intro w'
    go_simp
    first | done | with_reducible rfl
  rotate_left
  · simp only [Act.put, List.setIfInBounds_toArray, List.set_cons_zero, List.set_cons_succ, i64_w, i32_w]
    rfl
  refine pure_ (i := 1) (N := (some 12)) (v := ?_) (a' := ?_) #[true, true, false, false, false, false, false, false] rfl rfl (by kernel_rfl) (fun _ _ _ h => h) (Or.inl ⟨by rfl, ?_⟩) ?_ ?_
  rotate_left
  · intro w'
    skip
    go_simp
    first | done | with_reducible rfl
  rotate_left
  · simp only [Act.put, List.setIfInBounds_toArray, List.set_cons_zero, List.set_cons_succ, i64_w, i32_w]
    rfl
  refine pure_ (i := 2) (N := (some 13)) (v := ?_) (a' := ?_) #[true, true, true, false, false, false, false, false] rfl rfl (by kernel_rfl) (fun _ _ _ h => h) (Or.inl ⟨by rfl, ?_⟩) ?_ ?_
  rotate_left
  · intro w'
    go_simp
    first | done | with_reducible rfl
  rotate_left
  · simp only [Act.put, List.setIfInBounds_toArray, List.set_cons_zero, List.set_cons_succ, i64_w, i32_w]
    rfl
  refine take_ (i := 3) (N := (some 14)) (v := ?_) (a' := ?_) #[true, true, true, true, false, false, false, false] rfl rfl (by kernel_rfl) (fun _ _ _ h => h) (Or.inl ⟨by rfl, ?_⟩) hHeld ?_ ?_
  rotate_left
  · intro w' hS
    have s0 := pw_cell_below hS c2
    go_simp
    first | done | with_reducible rfl
  rotate_left
  · simp only [Act.put, List.setIfInBounds_toArray, List.set_cons_zero, List.set_cons_succ, i64_w, i32_w]
    rfl
  refine take_ (i := 4) (N := (some 15)) (v := ?_) (a' := ?_) #[true, true, true, true, true, false, false, false] rfl rfl (by kernel_rfl) (fun _ _ _ h => h) (Or.inl ⟨by rfl, ?_⟩) hHeld ?_ ?_
  rotate_left
  · intro w' hS
    have s0 := pw_cell_below hS b0
    have s1 := pw_cell_below hS b1
    go_simp
    first | done | with_reducible rfl
  rotate_left
  · simp only [Act.put, List.setIfInBounds_toArray, List.set_cons_zero, List.set_cons_succ, i64_w, i32_w]
    rfl
  refine pure_ (i := 5) (N := (some 16)) (v := ?_) (a' := ?_) #[true, true, true, true, true, true, false, false] rfl rfl (by kernel_rfl) (fun _ _ _ h => h) (Or.inl ⟨by rfl, ?_⟩) ?_ ?_
  rotate_left
  · intro w'
    go_simp
    first | done | with_reducible rfl
  rotate_left
  · simp only [Act.put, List.setIfInBounds_toArray, List.set_cons_zero, List.set_cons_succ, i64_w, i32_w]
    rfl
  refine one_ (i := 6) (N := (some 17)) #[true, true, true, true, true, true, true, false] rfl rfl (by kernel_rfl) (by decide) (fun K hK => ?_)
  refine goes_ Try.func51 (by kernel_rfl) rfl #[.slice A l.length c] (by rfl) rfl rfl (by (try simp only [List.map_toArray, List.map_cons, List.map_nil]); first | done | rfl) ?_
  (with_reducible refine (HCL.out _ (Kd.C_below HRD.out hHeld)).mono ?_)
  rintro e wc ⟨v9, rfl, hr9, hB⟩
  refine ⟨_, rfl, ?_⟩
  have hS2 : Below W1.heap.size W1 wc := below_step hHeld hB
  have HV9 := Aside0.mk (Kd.R_lower hr9 (Nat.le_trans HB.out (Nat.le_trans OD.out.size hHeld.size)))
  clear hB hHeld hr9
  refine hK.out _ _ hS2 (fun hHeld => ?_)
  clear hK K
  refine norm_ (a' := ?_) ?_ ?_
  rotate_left
  · show Act.put _ (some 17) _ = _
    simp only [Act.put, List.setIfInBounds_toArray, List.set_cons_zero, List.set_cons_succ, i64_w, i32_w]
    rfl
  refine last_ (i := 7) (N := none) #[true, true, true, true, true, true, true, true] rfl rfl (by kernel_rfl) (by decide) (fun K hK => ?_)
  obtain ⟨wb, hrun, hI, hT⟩ := (HFD.out.below hHeld).storeT (x0, x1) v9 l HV9.out HL.out.1 HL.out.2 HWF.out.1 HWF.out.2
  have HI9 := Aside0.mk hI
  have HT9 := Aside0.mk ((Turn.below (P := Foot g gt gb) (below_step OD.out.below hHeld)).trans hT)
  clear hI hT hHeld
  refine skip_ (w1 := wb) (by rfl) rfl (by first | (go_simp; done) | (go_simp; rfl)) ?_
  refine hK.out _ _ ?_
  clear hK K
  refine done_ (by kernel_rfl) ?_
  clear hrun OD HFD HRD b0 b1 c2 HV9
  have HWH := Aside0.mk (fun W (h : IsF base W g gt gb (putT s (x0, x1) l)) => whole_c base g gt gb _ W h HV.out)
  generalize putT s (x0, x1) l = s1 at *
  by_cases hok : okE s1 = true
  · have e1 := HCD.out
    have e2 := HS9.out
    rw [hok] at e1 e2
    obtain rfl : (0 : Int) = cd := e1
    obtain rfl : s1 = s9 := e2
    cases hhe : haveE s1 with
    | false =>
      rw [hhe] at HWH
      clear hok hhe
      go_wp2_with (first
        | (go_at_call 110; (with_reducible refine (HWH.out _ HI9.out).mono ?_); rintro e wd ⟨rfl, hB⟩; have HB9 := Aside0.mk hB; clear hB))
      go_ret
      exact ⟨rfl, HI9.out.below HB9.out, HT9.out.trans (Turn.below HB9.out)⟩
    | true =>
      have hdec : decide (rootE s1 = s1.root) = true := by rw [HOE.out, hhe] at hok; simpa using hok
      rw [hhe, hdec] at HWH
      clear hok hhe hdec
      go_wp2_with (first
        | (go_at_call 110; (with_reducible refine (HWH.out _ HI9.out).mono ?_); rintro e wd ⟨rfl, hB⟩; have HB9 := Aside0.mk hB; clear hB))
      go_ret
      exact ⟨rfl, HI9.out.below HB9.out, HT9.out.trans (Turn.below HB9.out)⟩
  · have hokf : okE s1 = false := by simpa using hok
    have e1 := HCD.out
    have e2 := HS9.out
    rw [hokf] at e1 e2
    obtain rfl : (8 : Int) = cd := e1
    obtain rfl : dropE s1 = s9 := e2
    have hboth : haveE s1 = true ∧ decide (rootE s1 = s1.root) = false := by
      rw [HOE.out] at hokf
      simpa using hokf
    rw [hboth.1, hboth.2] at HWH
    clear hok hokf hboth
    have HEK := Aside0.mk (fun W => edge_k (s1.size : Int) W)
    obtain ⟨E, hE⟩ : ∃ E, edgeF wdF s1.size = E := ⟨_, rfl⟩
    obtain ⟨m, hme⟩ : ∃ m, E.length = m := ⟨_, rfl⟩
    have hmi : (m : Int) ≤ 4 := by have := edge_len s1.size (by have := HSZ.out; omega); rw [hE, hme] at this; omega
    have HEI := Aside0.mk (edge_in s1.size (by have := HSZ.out; omega))
    have HEE := Aside0.mk hE
    have HME := Aside0.mk hme
    rw [hE] at HEK HEI
    clear hE hme
    go_wp2_with (first
      | (go_at_call 110; (with_reducible refine (HWH.out _ HI9.out).mono ?_); rintro e wd ⟨rfl, hB⟩; have HI8 := Aside0.mk (HI9.out.below hB); have HT8 := Aside0.mk (HT9.out.trans (Turn.below hB)); have c1 : wd.cell? ⟨g, 72, none⟩ = some (.int .i64 s1.size) := (HI8.out.cell 0).trans rfl; clear hB)
      | (go_at_call 111; go_loud ((with_reducible refine (HEK.out _).mono ?_); rintro e we ⟨v8, rfl, hr8, hB⟩; obtain ⟨A8, c8, rfl⟩ := ki_form hr8; rw [HME.out] at hr8 ⊢; have HE := Aside0.mk (Kd.R_lower hr8 HT8.out.size); have HI7 := Aside0.mk (HI8.out.below hB); have HT7 := Aside0.mk (HT8.out.trans (Turn.below hB)); clear hr8 hB c1)))
    clear HI8 HT8 HI9 HT9 HWH HEK
    go_loopw [34] (fun v34 wr => ∃ i : Nat, v34 = .int .i64 i ∧ i ≤ m ∧ Aside0 (IsF base wr g gt gb ((E.take i).foldl dropT s1)) ∧ Aside0 (Turn (Foot g gt gb) w wr) ∧ Aside0 (KI.R 24 wr w.heap.size (fun _ => True) (.slice A8 m c8) E)) (fun v34 _ => m - (intOf v34).toNat)
    case atStart => exact ⟨0, rfl, Nat.zero_le _, HI7, HT7, HE⟩
    case round =>
      clear HI7 HT7 HE
      obtain ⟨i, rfl, hi, HI, HT, HE⟩ := hrel
      by_cases h1 : i < m
      · have h1i : (i : Int) < (m : Int) := by omega
        have hie : i < E.length := by rw [HME.out]; exact h1
        obtain ⟨ge, eb, e0, e1⟩ := ki_elem HE.out i hie
        cases eb
        have HTK : Aside0 ((E.take (i + 1)).foldl dropT s1 = dropT ((E.take i).foldl dropT s1) E[i]) := ⟨by rw [List.take_succ_eq_append_getElem hie, List.foldl_append]; rfl⟩
        have hbd := HEI.out E[i] (List.getElem_mem hie)
        have HI1 := Aside0.mk h1
        generalize E[i] = x at *
        obtain ⟨x0, x1⟩ := x
        simp only at e0 e1 hbd
        have HWX := Aside0.mk (show wf x0 ∧ wf x1 from ⟨wf_of (by omega) (by omega), wf_of (by omega) (by omega)⟩)
        clear hbd hie h1
        go_wp2_with fail
        have hal : Below wr.heap.size wr (wr.alloc (.cells #[.int .i64 x0, .int .i64 x1] 24)) := below_alloc (Below.refl _ _) _
        have hbk := blk_new wr (.cells #[.int .i64 x0, .int .i64 x1] 24)
        have HI2 := Aside0.mk (HI.out.below hal).drew
        have HT2 := Aside0.mk (HT.out.trans (Turn.below hal)).drew
        have HE2 := Aside0.mk (Kd.R_drew (Kd.R_below HE.out hal))
        obtain ⟨gJ, hgJ⟩ : ∃ gJ, wr.heap.size = gJ := ⟨_, rfl⟩
        rw [hgJ] at hbk ⊢
        generalize wr.alloc (.cells #[.int .i64 x0, .int .i64 x1] 24) = wx at *
        have d0 : wx.drew.cell? ⟨gJ, 0, none⟩ = some (.int .i64 x0) := (blk_cell hbk 0).trans rfl
        have d1 : wx.drew.cell? ⟨gJ, 1, none⟩ = some (.int .i64 x1) := (blk_cell hbk 1).trans rfl
        have c2 : wx.drew.cell? ⟨g, 74, none⟩ = some (.map (some gt)) := (HI2.out.cell 2).trans rfl
        clear hal e0 e1 HI HT HE hgJ hbk
        refine start_ (n := 6) (S := fun w' => Below (wx).drew.heap.size (wx).drew w') (ds := [5]) #[false, false, false, false, false, false] (by kernel_rfl) rfl rfl (Below.refl _ _) (fun hHeld => ?_)
        generalize (wx).drew = W2 at *
        refine pure_ (i := 0) (N := (some 38)) (v := ?_) (a' := ?_) #[true, false, false, false, false, false] rfl rfl (by kernel_rfl) (fun _ _ _ h => h) (Or.inl ⟨by rfl, ?_⟩) ?_ ?_
        rotate_left
        · intro w'
          go_simp
          first | done | with_reducible rfl
        rotate_left
        · simp only [Act.put, List.setIfInBounds_toArray, List.set_cons_zero, List.set_cons_succ, i64_w, i32_w]
          rfl
        refine pure_ (i := 1) (N := (some 39)) (v := ?_) (a' := ?_) #[true, true, false, false, false, false] rfl rfl (by kernel_rfl) (fun _ _ _ h => h) (Or.inl ⟨by rfl, ?_⟩) ?_ ?_
        rotate_left
        · intro w'
          skip
          go_simp
          first | done | with_reducible rfl
        rotate_left
        · simp only [Act.put, List.setIfInBounds_toArray, List.set_cons_zero, List.set_cons_succ, i64_w, i32_w]
          rfl
        refine pure_ (i := 2) (N := (some 40)) (v := ?_) (a' := ?_) #[true, true, true, false, false, false] rfl rfl (by kernel_rfl) (fun _ _ _ h => h) (Or.inl ⟨by rfl, ?_⟩) ?_ ?_
        rotate_left
        · intro w'
          go_simp
          first | done | with_reducible rfl
        rotate_left
        · simp only [Act.put, List.setIfInBounds_toArray, List.set_cons_zero, List.set_cons_succ, i64_w, i32_w]
          rfl
        refine take_ (i := 3) (N := (some 41)) (v := ?_) (a' := ?_) #[true, true, true, true, false, false] rfl rfl (by kernel_rfl) (fun _ _ _ h => h) (Or.inl ⟨by rfl, ?_⟩) hHeld ?_ ?_
        rotate_left
        · intro w' hS
          have s0 := pw_cell_below hS c2
          go_simp
          first | done | with_reducible rfl
        rotate_left
        · simp only [Act.put, List.setIfInBounds_toArray, List.set_cons_zero, List.set_cons_succ, i64_w, i32_w]
          rfl
        refine take_ (i := 4) (N := (some 42)) (v := ?_) (a' := ?_) #[true, true, true, true, true, false] rfl rfl (by kernel_rfl) (fun _ _ _ h => h) (Or.inl ⟨by rfl, ?_⟩) hHeld ?_ ?_
        rotate_left
        · intro w' hS
          have s0 := pw_cell_below hS d0
          have s1 := pw_cell_below hS d1
          go_simp
          first | done | with_reducible rfl
        rotate_left
        · simp only [Act.put, List.setIfInBounds_toArray, List.set_cons_zero, List.set_cons_succ, i64_w, i32_w]
          rfl
        refine last_ (i := 5) (N := none) #[true, true, true, true, true, true] rfl rfl (by kernel_rfl) (by decide) (fun K hK => ?_)
        obtain ⟨wb, hrun, hI, hT⟩ := (HI2.out.below hHeld).eraseT (x0, x1) HWX.out.1 HWX.out.2 0
        have HI9 := Aside0.mk hI
        have HE9 := Aside0.mk (ki_turn (Kd.R_below HE2.out hHeld) (HI2.out.below hHeld) hT)
        have HT9 := Aside0.mk ((HT2.out.trans (Turn.below hHeld)).trans hT)
        clear hI hT hHeld
        refine value_ (v := .tuple #[]) (w1 := wb) (by rfl) rfl (by first | (go_simp; done) | (go_simp; rfl)) ?_
        refine hK.out _ _ ?_
        clear hK K
        refine done_ (by kernel_rfl) ?_
        clear hrun d0 d1 c2 HI2 HT2 HE2
        go_wp2_with fail
        go_roundw
        case rel => exact ⟨i + 1, by go_num, HI1.out, by rw [HTK.out]; exact HI9, HT9, HE9⟩
        case measure => simp [intOf]; have := HI1.out; omega
      · have h1i : ¬ (i : Int) < (m : Int) := by omega
        obtain rfl : i = m := by omega
        have htk : E.take i = E := by rw [← HME.out]; exact List.take_length
        rw [htk] at HI
        clear htk
        go_wp2_with fail
        go_ret
        exact ⟨rfl, by unfold dropE; rw [HEE.out]; exact HI.out, HT.out⟩
end Go.Proofs.Ytondnammkcgjpaa.Ft
namespace Go.Proofs.Ytondnammkcgjpaa.Ft
open Go Go.RowKit Go.Shelf Go.Proofs.YtondnammkcgjpaaW.PrintWords Go.Proofs.YtondnammkcgjpaaW.PrintLast Go.Proofs.YtondnammkcgjpaaW.PrintMore Go.Proofs.Ytondnammkcgjpaa.Mp
open Go.Proofs.Ytondnammkcgjpaa.ShaP Go.Proofs.Ytondnammkcgjpaa.Mk Go.Proofs.Ytondnammkcgjpaa.Rg Go.Proofs.Ytondnammkcgjpaa.RgP Go.Proofs.Ytondnammkcgjpaa.Rf Go.Proofs.Ytondnammkcgjpaa.RgL Go.Proofs.Ytondnammkcgjpaa.Til Go.Proofs.Ytondnammkcgjpaa.Fg Go.Proofs.Ytondnammkcgjpaa.Fun Go.Proofs.Ytondnammkcgjpaa.Rng
variable {base g gt gb : Nat} {s : FS} {w W : World}
theorem take_width (b : Bool) (x0 x1 : Int) (A : Option Addr) (c : Nat) (l : List ByteArray) (h : IsF base w g gt gb s) (hb : base ≤ w.heap.size) (hmax : l.length ≤ maxLen) (hr : Kd.C Kd.string w A l.length l) (hw : (l.length : Int) ≠ wdF s.size x0 x1) :
    Calls Try.prog 71 #[.pointer (some ⟨g, 0, none⟩), .agg #[.bool b, .int .i64 x0, .int .i64 x1], .slice A l.length c] w fun e w' => e = .returned (.int .i64 2) ∧ IsF base w' g gt gb s ∧ Turn (Foot g gt gb) w w' := by
  have OW := Aside0.mk (Mem.Own.nil w)
  have HF := Aside0.mk h
  have HR := Aside0.mk hr
  have HB := Aside0.mk hb
  have HMX := Aside0.mk hmax
  have HWD := Aside0.mk (fun W => width_c (s.size : Int) x0 x1 W)
  have hne : ((l.length : Int) != inTile x1 (cntv s.size x0)) = true := bne_iff_ne.2 hw
  generalize inTile x1 (cntv s.size x0) = q at *
  clear h hr hb
  go_enter Try.func71, Try.ntmps71
  go_wp2_with (first
    | ((with_reducible refine gate_dst (N := 4) rfl ?_); refine box_event ?hg (N := 4) ?hd (cs := #[.bool b, .int .i64 x0, .int .i64 x1]) (t := 58) ?hr ?_; (case hd => rfl); (case hg => rfl); (case hr => first | (go_simp; done) | (go_simp; rfl)); intro gI hg W_ hb hbb; have n_ : Aside0 (Mem.Own w W_ [(gI, #[.bool b, .int .i64 x0, .int .i64 x1], 58)]) := ⟨OW.out.new hg hb hbb⟩; clear OW hb hbb hg; have OW := n_; clear n_))
  have OD := Aside0.mk OW.out.drew
  have HFD := Aside0.mk ((HF.out.below OW.out.below).drew)
  have HRD := Aside0.mk (Kd.C_drew (Kd.C_below HR.out OW.out.below))
  have b0 : W_.drew.cell? ⟨gI, 0, none⟩ = some (.bool b) := (OD.out.cell 0 rfl 0).trans rfl
  have b1 : W_.drew.cell? ⟨gI, 1, none⟩ = some (.int .i64 x0) := (OD.out.cell 0 rfl 1).trans rfl
  have b2 : W_.drew.cell? ⟨gI, 2, none⟩ = some (.int .i64 x1) := (OD.out.cell 0 rfl 2).trans rfl
  have c0 : W_.drew.cell? ⟨g, 72, none⟩ = some (.int .i64 s.size) := (HFD.out.cell 0).trans rfl
  clear OW
  go_wp2_with fail
  refine start_ (n := 20) (S := fun w' => Below (W_).drew.heap.size (W_).drew w') (ds := []) #[false, false, false, false, false, false, false, false, false, false, false, false, false, false, false, false, false, false, false, false] (by kernel_rfl) rfl rfl (Below.refl _ _) (fun hHeld => ?_)
  generalize (W_).drew = W1 at *
  refine pure_ (i := 0) (N := (some 8)) (v := ?_) (a' := ?_) #[true, false, false, false, false, false, false, false, false, false, false, false, false, false, false, false, false, false, false, false] rfl rfl (by kernel_rfl) (fun _ _ _ h => h) (Or.inl ⟨by rfl, ?_⟩) ?_ ?_
  rotate_left
  · intro w'
    go_simp
    first | done | with_reducible rfl
  rotate_left
  · simp only [Act.put, List.setIfInBounds_toArray, List.set_cons_zero, List.set_cons_succ, i64_w, i32_w]
    rfl
  refine pure_ (i := 1) (N := (some 9)) (v := ?_) (a' := ?_) #[true, true, false, false, false, false, false, false, false, false, false, false, false, false, false, false, false, false, false, false] rfl rfl (by kernel_rfl) (fun _ _ _ h => h) (Or.inl ⟨by rfl, ?_⟩) ?_ ?_
  rotate_left
  · intro w'
    go_simp
    first | done | with_reducible rfl
  rotate_left
  · simp only [Act.put, List.setIfInBounds_toArray, List.set_cons_zero, List.set_cons_succ, i64_w, i32_w]
    rfl
  refine pure_ (i := 2) (N := (some 10)) (v := ?_) (a' := ?_) #[true, true, true, false, false, false, false, false, false, false, false, false, false, false, false, false, false, false, false, false] rfl rfl (by kernel_rfl) (fun _ _ _ h => h) (Or.inl ⟨by rfl, ?_⟩) ?_ ?_
  rotate_left
  · intro w'
    go_simp
    first | done | with_reducible rfl
  rotate_left
  · simp only [Act.put, List.setIfInBounds_toArray, List.set_cons_zero, List.set_cons_succ, i64_w, i32_w]
    rfl
  refine pure_ (i := 3) (N := (some 11)) (v := ?_) (a' := ?_) #[true, true, true, true, false, false, false, false, false, false, false, false, false, false, false, false, false, false, false, false] rfl rfl (by kernel_rfl) (fun _ _ _ h => h) (Or.inl ⟨by rfl, ?_⟩) ?_ ?_
  rotate_left
  · intro w'
    skip
    go_simp
    first | done | with_reducible rfl
  rotate_left
  · simp only [Act.put, List.setIfInBounds_toArray, List.set_cons_zero, List.set_cons_succ, i64_w, i32_w]
    rfl
  refine pure_ (i := 4) (N := (some 12)) (v := ?_) (a' := ?_) #[true, true, true, true, true, false, false, false, false, false, false, false, false, false, false, false, false, false, false, false] rfl rfl (by kernel_rfl) (fun _ _ _ h => h) (Or.inl ⟨by rfl, ?_⟩) ?_ ?_
  rotate_left
  · intro w'
    go_simp
    first | done | with_reducible rfl
  rotate_left
  · simp only [Act.put, List.setIfInBounds_toArray, List.set_cons_zero, List.set_cons_succ, i64_w, i32_w]
    rfl
  refine take_ (i := 5) (N := (some 13)) (v := ?_) (a' := ?_) #[true, true, true, true, true, true, false, false, false, false, false, false, false, false, false, false, false, false, false, false] rfl rfl (by kernel_rfl) (fun _ _ _ h => h) (Or.inl ⟨by rfl, ?_⟩) hHeld ?_ ?_
  rotate_left
  · intro w' hS
    have s0 := pw_cell_below hS c0
    go_simp
    first | done | with_reducible rfl
  rotate_left
  · simp only [Act.put, List.setIfInBounds_toArray, List.set_cons_zero, List.set_cons_succ, i64_w, i32_w]
    rfl
  refine pure_ (i := 6) (N := (some 14)) (v := ?_) (a' := ?_) #[true, true, true, true, true, true, true, false, false, false, false, false, false, false, false, false, false, false, false, false] rfl rfl (by kernel_rfl) (fun _ _ _ h => h) (Or.inl ⟨by rfl, ?_⟩) ?_ ?_
  rotate_left
  · intro w'
    go_simp
    first | done | with_reducible rfl
  rotate_left
  · simp only [Act.put, List.setIfInBounds_toArray, List.set_cons_zero, List.set_cons_succ, i64_w, i32_w]
    rfl
  refine take_ (i := 7) (N := (some 15)) (v := ?_) (a' := ?_) #[true, true, true, true, true, true, true, true, false, false, false, false, false, false, false, false, false, false, false, false] rfl rfl (by kernel_rfl) (fun _ _ _ h => h) (Or.inl ⟨by rfl, ?_⟩) hHeld ?_ ?_
  rotate_left
  · intro w' hS
    have s0 := pw_cell_below hS b1
    have s1 := pw_cell_below hS b2
    go_simp
    first | done | with_reducible rfl
  rotate_left
  · simp only [Act.put, List.setIfInBounds_toArray, List.set_cons_zero, List.set_cons_succ, i64_w, i32_w]
    rfl
  refine one_ (i := 8) (N := (some 16)) #[true, true, true, true, true, true, true, true, true, false, false, false, false, false, false, false, false, false, false, false] rfl rfl (by kernel_rfl) (by decide) (fun K hK => ?_)
  refine goes_ Try.func50 (by kernel_rfl) rfl #[.int .i64 s.size, .agg #[.int .i64 x0, .int .i64 x1]] (by rfl) rfl rfl (by (try simp only [List.map_toArray, List.map_cons, List.map_nil]); first | done | rfl) ?_
  (with_reducible refine (HWD.out _).mono ?_)
  rintro e wa ⟨rfl, hB⟩
  refine ⟨_, rfl, ?_⟩
  have hS2 : Below W1.heap.size W1 wa := below_step hHeld hB
  clear hB hHeld
  refine hK.out _ _ hS2 (fun hHeld => ?_)
  clear hK K
  refine norm_ (a' := ?_) ?_ ?_
  rotate_left
  · show Act.put _ (some 16) _ = _
    simp only [Act.put, List.setIfInBounds_toArray, List.set_cons_zero, List.set_cons_succ, i64_w, i32_w]
    rfl
  refine pure_ (i := 9) (N := (some 17)) (v := ?_) (a' := ?_) #[true, true, true, true, true, true, true, true, true, true, false, false, false, false, false, false, false, false, false, false] rfl rfl (by kernel_rfl) (fun _ _ _ h => h) (Or.inl ⟨by rfl, ?_⟩) ?_ ?_
  rotate_left
  · intro w'
    go_simp
    first | done | with_reducible rfl
  rotate_left
  · simp only [Act.put, List.setIfInBounds_toArray, List.set_cons_zero, List.set_cons_succ, i64_w, i32_w]
    rfl
  refine pure_ (i := 10) (N := (some 18)) (v := ?_) (a' := ?_) #[true, true, true, true, true, true, true, true, true, true, true, false, false, false, false, false, false, false, false, false] rfl rfl (by kernel_rfl) (fun _ _ _ h => h) (Or.inl ⟨by rfl, ?_⟩) ?_ ?_
  rotate_left
  · intro w'
    go_simp
    first | done | with_reducible rfl
  rotate_left
  · simp only [Act.put, List.setIfInBounds_toArray, List.set_cons_zero, List.set_cons_succ, i64_w, i32_w]
    rfl
  refine pure_ (i := 11) (N := (some 19)) (v := undef) (a' := ?_) #[true, true, true, true, true, true, true, true, true, true, true, true, false, false, false, false, false, false, false, false] rfl rfl (by kernel_rfl) (fun _ _ _ h => h) (Or.inr ⟨by rfl, rfl⟩) ?_ ?_
  rotate_left
  · simp only [Act.put, List.setIfInBounds_toArray, List.set_cons_zero, List.set_cons_succ, i64_w, i32_w]
    rfl
  refine pure_ (i := 12) (N := (some 20)) (v := undef) (a' := ?_) #[true, true, true, true, true, true, true, true, true, true, true, true, true, false, false, false, false, false, false, false] rfl rfl (by kernel_rfl) (fun _ _ _ h => h) (Or.inr ⟨by rfl, rfl⟩) ?_ ?_
  rotate_left
  · simp only [Act.put, List.setIfInBounds_toArray, List.set_cons_zero, List.set_cons_succ, i64_w, i32_w]
    rfl
  refine pure_ (i := 13) (N := (some 21)) (v := undef) (a' := ?_) #[true, true, true, true, true, true, true, true, true, true, true, true, true, true, false, false, false, false, false, false] rfl rfl (by kernel_rfl) (fun _ _ _ h => h) (Or.inr ⟨by rfl, rfl⟩) ?_ ?_
  rotate_left
  · simp only [Act.put, List.setIfInBounds_toArray, List.set_cons_zero, List.set_cons_succ, i64_w, i32_w]
    rfl
  refine pure_ (i := 14) (N := (some 22)) (v := undef) (a' := ?_) #[true, true, true, true, true, true, true, true, true, true, true, true, true, true, true, false, false, false, false, false] rfl rfl (by kernel_rfl) (fun _ _ _ h => h) (Or.inr ⟨by rfl, rfl⟩) ?_ ?_
  rotate_left
  · simp only [Act.put, List.setIfInBounds_toArray, List.set_cons_zero, List.set_cons_succ, i64_w, i32_w]
    rfl
  refine pure_ (i := 15) (N := (some 23)) (v := undef) (a' := ?_) #[true, true, true, true, true, true, true, true, true, true, true, true, true, true, true, true, false, false, false, false] rfl rfl (by kernel_rfl) (fun _ _ _ h => h) (Or.inr ⟨by rfl, rfl⟩) ?_ ?_
  rotate_left
  · simp only [Act.put, List.setIfInBounds_toArray, List.set_cons_zero, List.set_cons_succ, i64_w, i32_w]
    rfl
  refine pure_ (i := 16) (N := (some 24)) (v := undef) (a' := ?_) #[true, true, true, true, true, true, true, true, true, true, true, true, true, true, true, true, true, false, false, false] rfl rfl (by kernel_rfl) (fun _ _ _ h => h) (Or.inr ⟨by rfl, rfl⟩) ?_ ?_
  rotate_left
  · simp only [Act.put, List.setIfInBounds_toArray, List.set_cons_zero, List.set_cons_succ, i64_w, i32_w]
    rfl
  refine pure_ (i := 17) (N := (some 25)) (v := undef) (a' := ?_) #[true, true, true, true, true, true, true, true, true, true, true, true, true, true, true, true, true, true, false, false] rfl rfl (by kernel_rfl) (fun _ _ _ h => h) (Or.inr ⟨by rfl, rfl⟩) ?_ ?_
  rotate_left
  · simp only [Act.put, List.setIfInBounds_toArray, List.set_cons_zero, List.set_cons_succ, i64_w, i32_w]
    rfl
  refine pure_ (i := 18) (N := (some 26)) (v := ?_) (a' := ?_) #[true, true, true, true, true, true, true, true, true, true, true, true, true, true, true, true, true, true, true, false] rfl rfl (by kernel_rfl) (fun _ _ _ h => h) (Or.inl ⟨by rfl, ?_⟩) ?_ ?_
  rotate_left
  · intro w'
    go_simp
    first | done | with_reducible rfl
  rotate_left
  · simp only [Act.put, List.setIfInBounds_toArray, List.set_cons_zero, List.set_cons_succ, i64_w, i32_w]
    rfl
  refine pure_ (i := 19) (N := (some 7)) (v := ?_) (a' := ?_) #[true, true, true, true, true, true, true, true, true, true, true, true, true, true, true, true, true, true, true, true] rfl rfl (by kernel_rfl) (fun _ _ _ h => h) (Or.inl ⟨by rfl, ?_⟩) ?_ ?_
  rotate_left
  · intro w'
    go_simp
    first | done | with_reducible rfl
  rotate_left
  · simp only [Act.put, List.setIfInBounds_toArray, List.set_cons_zero, List.set_cons_succ, i64_w, i32_w]
    rfl
  refine done_ (by kernel_rfl) ?_
  have HBW := Aside0.mk (below_step OD.out.below hHeld)
  clear hHeld b0 b1 b2 c0 HRD
  go_wp2_with fail
  go_ret
  exact ⟨rfl, HF.out.below HBW.out, Turn.below HBW.out⟩
theorem take_bad (x0 x1 : Int) (A : Option Addr) (c : Nat) (l : List ByteArray) (h : IsF base w g gt gb s) (hb : base ≤ w.heap.size) (hmax : l.length ≤ maxLen) (hr : Kd.C Kd.string w A l.length l) (hw : (l.length : Int) = wdF s.size x0 x1) (h32 : all32 l = false) :
    Calls Try.prog 71 #[.pointer (some ⟨g, 0, none⟩), .agg #[.bool false, .int .i64 x0, .int .i64 x1], .slice A l.length c] w fun e w' => e = .returned (.int .i64 2) ∧ IsF base w' g gt gb s ∧ Turn (Foot g gt gb) w w' := by
  have OW := Aside0.mk (Mem.Own.nil w)
  have HF := Aside0.mk h
  have HR := Aside0.mk hr
  have HB := Aside0.mk hb
  have HMX := Aside0.mk hmax
  have HWD := Aside0.mk (fun W => width_c (s.size : Int) x0 x1 W)
  rw [show inTile x1 (cntv s.size x0) = (l.length : Int) from hw.symm] at HWD
  have hne : ((l.length : Int) != (l.length : Int)) = false := by simp
  have HSH := Aside0.mk (fun W (h : Kd.C Kd.string W A l.length l) => short_c A c l W HMX.out h)
  rw [h32] at HSH
  clear h hr hb h32 hw
  go_enter Try.func71, Try.ntmps71
  go_wp2_with (first
    | ((with_reducible refine gate_dst (N := 4) rfl ?_); refine box_event ?hg (N := 4) ?hd (cs := #[.bool false, .int .i64 x0, .int .i64 x1]) (t := 58) ?hr ?_; (case hd => rfl); (case hg => rfl); (case hr => first | (go_simp; done) | (go_simp; rfl)); intro gI hg W_ hb hbb; have n_ : Aside0 (Mem.Own w W_ [(gI, #[.bool false, .int .i64 x0, .int .i64 x1], 58)]) := ⟨OW.out.new hg hb hbb⟩; clear OW hb hbb hg; have OW := n_; clear n_))
  have OD := Aside0.mk OW.out.drew
  have HFD := Aside0.mk ((HF.out.below OW.out.below).drew)
  have HRD := Aside0.mk (Kd.C_drew (Kd.C_below HR.out OW.out.below))
  have b0 : W_.drew.cell? ⟨gI, 0, none⟩ = some (.bool false) := (OD.out.cell 0 rfl 0).trans rfl
  have b1 : W_.drew.cell? ⟨gI, 1, none⟩ = some (.int .i64 x0) := (OD.out.cell 0 rfl 1).trans rfl
  have b2 : W_.drew.cell? ⟨gI, 2, none⟩ = some (.int .i64 x1) := (OD.out.cell 0 rfl 2).trans rfl
  have c0 : W_.drew.cell? ⟨g, 72, none⟩ = some (.int .i64 s.size) := (HFD.out.cell 0).trans rfl
  clear OW
  go_wp2_with fail
  refine start_ (n := 20) (S := fun w' => Below (W_).drew.heap.size (W_).drew w') (ds := []) #[false, false, false, false, false, false, false, false, false, false, false, false, false, false, false, false, false, false, false, false] (by kernel_rfl) rfl rfl (Below.refl _ _) (fun hHeld => ?_)
  generalize (W_).drew = W1 at *
  refine pure_ (i := 0) (N := (some 8)) (v := ?_) (a' := ?_) #[true, false, false, false, false, false, false, false, false, false, false, false, false, false, false, false, false, false, false, false] rfl rfl (by kernel_rfl) (fun _ _ _ h => h) (Or.inl ⟨by rfl, ?_⟩) ?_ ?_
  rotate_left
  · intro w'
    go_simp
    first | done | with_reducible rfl
  rotate_left
  · simp only [Act.put, List.setIfInBounds_toArray, List.set_cons_zero, List.set_cons_succ, i64_w, i32_w]
    rfl
  refine pure_ (i := 1) (N := (some 9)) (v := ?_) (a' := ?_) #[true, true, false, false, false, false, false, false, false, false, false, false, false, false, false, false, false, false, false, false] rfl rfl (by kernel_rfl) (fun _ _ _ h => h) (Or.inl ⟨by rfl, ?_⟩) ?_ ?_
  rotate_left
  · intro w'
    go_simp
    first | done | with_reducible rfl
  rotate_left
  · simp only [Act.put, List.setIfInBounds_toArray, List.set_cons_zero, List.set_cons_succ, i64_w, i32_w]
    rfl
  refine pure_ (i := 2) (N := (some 10)) (v := ?_) (a' := ?_) #[true, true, true, false, false, false, false, false, false, false, false, false, false, false, false, false, false, false, false, false] rfl rfl (by kernel_rfl) (fun _ _ _ h => h) (Or.inl ⟨by rfl, ?_⟩) ?_ ?_
  rotate_left
  · intro w'
    go_simp
    first | done | with_reducible rfl
  rotate_left
  · simp only [Act.put, List.setIfInBounds_toArray, List.set_cons_zero, List.set_cons_succ, i64_w, i32_w]
    rfl
  refine pure_ (i := 3) (N := (some 11)) (v := ?_) (a' := ?_) #[true, true, true, true, false, false, false, false, false, false, false, false, false, false, false, false, false, false, false, false] rfl rfl (by kernel_rfl) (fun _ _ _ h => h) (Or.inl ⟨by rfl, ?_⟩) ?_ ?_
  rotate_left
  · intro w'
    skip
    go_simp
    first | done | with_reducible rfl
  rotate_left
  · simp only [Act.put, List.setIfInBounds_toArray, List.set_cons_zero, List.set_cons_succ, i64_w, i32_w]
    rfl
  refine pure_ (i := 4) (N := (some 12)) (v := ?_) (a' := ?_) #[true, true, true, true, true, false, false, false, false, false, false, false, false, false, false, false, false, false, false, false] rfl rfl (by kernel_rfl) (fun _ _ _ h => h) (Or.inl ⟨by rfl, ?_⟩) ?_ ?_
  rotate_left
  · intro w'
    go_simp
    first | done | with_reducible rfl
  rotate_left
  · simp only [Act.put, List.setIfInBounds_toArray, List.set_cons_zero, List.set_cons_succ, i64_w, i32_w]
    rfl
  refine take_ (i := 5) (N := (some 13)) (v := ?_) (a' := ?_) #[true, true, true, true, true, true, false, false, false, false, false, false, false, false, false, false, false, false, false, false] rfl rfl (by kernel_rfl) (fun _ _ _ h => h) (Or.inl ⟨by rfl, ?_⟩) hHeld ?_ ?_
  rotate_left
  · intro w' hS
    have s0 := pw_cell_below hS c0
    go_simp
    first | done | with_reducible rfl
  rotate_left
  · simp only [Act.put, List.setIfInBounds_toArray, List.set_cons_zero, List.set_cons_succ, i64_w, i32_w]
    rfl
  refine pure_ (i := 6) (N := (some 14)) (v := ?_) (a' := ?_) #[true, true, true, true, true, true, true, false, false, false, false, false, false, false, false, false, false, false, false, false] rfl rfl (by kernel_rfl) (fun _ _ _ h => h) (Or.inl ⟨by rfl, ?_⟩) ?_ ?_
  rotate_left
  · intro w'
    go_simp
    first | done | with_reducible rfl
  rotate_left
  · simp only [Act.put, List.setIfInBounds_toArray, List.set_cons_zero, List.set_cons_succ, i64_w, i32_w]
    rfl
  refine take_ (i := 7) (N := (some 15)) (v := ?_) (a' := ?_) #[true, true, true, true, true, true, true, true, false, false, false, false, false, false, false, false, false, false, false, false] rfl rfl (by kernel_rfl) (fun _ _ _ h => h) (Or.inl ⟨by rfl, ?_⟩) hHeld ?_ ?_
  rotate_left
  · intro w' hS
    have s0 := pw_cell_below hS b1
    have s1 := pw_cell_below hS b2
    go_simp
    first | done | with_reducible rfl
  rotate_left
  · simp only [Act.put, List.setIfInBounds_toArray, List.set_cons_zero, List.set_cons_succ, i64_w, i32_w]
    rfl
  refine one_ (i := 8) (N := (some 16)) #[true, true, true, true, true, true, true, true, true, false, false, false, false, false, false, false, false, false, false, false] rfl rfl (by kernel_rfl) (by decide) (fun K hK => ?_)
  refine goes_ Try.func50 (by kernel_rfl) rfl #[.int .i64 s.size, .agg #[.int .i64 x0, .int .i64 x1]] (by rfl) rfl rfl (by (try simp only [List.map_toArray, List.map_cons, List.map_nil]); first | done | rfl) ?_
  (with_reducible refine (HWD.out _).mono ?_)
  rintro e wa ⟨rfl, hB⟩
  refine ⟨_, rfl, ?_⟩
  have hS2 : Below W1.heap.size W1 wa := below_step hHeld hB
  clear hB hHeld
  refine hK.out _ _ hS2 (fun hHeld => ?_)
  clear hK K
  refine norm_ (a' := ?_) ?_ ?_
  rotate_left
  · show Act.put _ (some 16) _ = _
    simp only [Act.put, List.setIfInBounds_toArray, List.set_cons_zero, List.set_cons_succ, i64_w, i32_w]
    rfl
  refine pure_ (i := 9) (N := (some 17)) (v := ?_) (a' := ?_) #[true, true, true, true, true, true, true, true, true, true, false, false, false, false, false, false, false, false, false, false] rfl rfl (by kernel_rfl) (fun _ _ _ h => h) (Or.inl ⟨by rfl, ?_⟩) ?_ ?_
  rotate_left
  · intro w'
    go_simp
    first | done | with_reducible rfl
  rotate_left
  · simp only [Act.put, List.setIfInBounds_toArray, List.set_cons_zero, List.set_cons_succ, i64_w, i32_w]
    rfl
  refine pure_ (i := 10) (N := (some 18)) (v := ?_) (a' := ?_) #[true, true, true, true, true, true, true, true, true, true, true, false, false, false, false, false, false, false, false, false] rfl rfl (by kernel_rfl) (fun _ _ _ h => h) (Or.inl ⟨by rfl, ?_⟩) ?_ ?_
  rotate_left
  · intro w'
    go_simp
    first | done | with_reducible rfl
  rotate_left
  · simp only [Act.put, List.setIfInBounds_toArray, List.set_cons_zero, List.set_cons_succ, i64_w, i32_w]
    rfl
  refine pure_ (i := 11) (N := (some 19)) (v := ?_) (a' := ?_) #[true, true, true, true, true, true, true, true, true, true, true, true, false, false, false, false, false, false, false, false] rfl rfl (by kernel_rfl) (fun _ _ _ h => h) (Or.inl ⟨by rfl, ?_⟩) ?_ ?_
  rotate_left
  · intro w'
    go_simp
    first | done | with_reducible rfl
  rotate_left
  · simp only [Act.put, List.setIfInBounds_toArray, List.set_cons_zero, List.set_cons_succ, i64_w, i32_w]
    rfl
  refine take_ (i := 12) (N := (some 20)) (v := ?_) (a' := ?_) #[true, true, true, true, true, true, true, true, true, true, true, true, true, false, false, false, false, false, false, false] rfl rfl (by kernel_rfl) (fun _ _ _ h => h) (Or.inl ⟨by rfl, ?_⟩) hHeld ?_ ?_
  rotate_left
  · intro w' hS
    have s0 := pw_cell_below hS b0
    go_simp
    first | done | with_reducible rfl
  rotate_left
  · simp only [Act.put, List.setIfInBounds_toArray, List.set_cons_zero, List.set_cons_succ, i64_w, i32_w]
    rfl
  refine pure_ (i := 13) (N := (some 21)) (v := ?_) (a' := ?_) #[true, true, true, true, true, true, true, true, true, true, true, true, true, true, false, false, false, false, false, false] rfl rfl (by kernel_rfl) (fun _ _ _ h => h) (Or.inl ⟨by rfl, ?_⟩) ?_ ?_
  rotate_left
  · intro w'
    go_simp
    first | done | with_reducible rfl
  rotate_left
  · simp only [Act.put, List.setIfInBounds_toArray, List.set_cons_zero, List.set_cons_succ, i64_w, i32_w]
    rfl
  refine pure_ (i := 14) (N := (some 22)) (v := ?_) (a' := ?_) #[true, true, true, true, true, true, true, true, true, true, true, true, true, true, true, false, false, false, false, false] rfl rfl (by kernel_rfl) (fun _ _ _ h => h) (Or.inl ⟨by rfl, ?_⟩) ?_ ?_
  rotate_left
  · intro w'
    go_simp
    first | done | with_reducible rfl
  rotate_left
  · simp only [Act.put, List.setIfInBounds_toArray, List.set_cons_zero, List.set_cons_succ, i64_w, i32_w]
    rfl
  refine pure_ (i := 15) (N := (some 23)) (v := ?_) (a' := ?_) #[true, true, true, true, true, true, true, true, true, true, true, true, true, true, true, true, false, false, false, false] rfl rfl (by kernel_rfl) (fun _ _ _ h => h) (Or.inl ⟨by rfl, ?_⟩) ?_ ?_
  rotate_left
  · intro w'
    go_simp
    first | done | with_reducible rfl
  rotate_left
  · simp only [Act.put, List.setIfInBounds_toArray, List.set_cons_zero, List.set_cons_succ, i64_w, i32_w]
    rfl
  refine one_ (i := 16) (N := (some 24)) #[true, true, true, true, true, true, true, true, true, true, true, true, true, true, true, true, true, false, false, false] rfl rfl (by kernel_rfl) (by decide) (fun K hK => ?_)
  refine goes_ Try.func96 (by kernel_rfl) rfl #[.slice A l.length c] (by rfl) rfl rfl (by (try simp only [List.map_toArray, List.map_cons, List.map_nil]); first | done | rfl) ?_
  (with_reducible refine (HSH.out _ (Kd.C_below HRD.out hHeld)).mono ?_)
  rintro e wb ⟨rfl, rfl⟩
  refine ⟨_, rfl, ?_⟩
  have hS2 : Below W1.heap.size W1 wb := hHeld
  clear hHeld
  refine hK.out _ _ hS2 (fun hHeld => ?_)
  clear hK K
  refine norm_ (a' := ?_) ?_ ?_
  rotate_left
  · show Act.put _ (some 24) _ = _
    simp only [Act.put, List.setIfInBounds_toArray, List.set_cons_zero, List.set_cons_succ, i64_w, i32_w]
    rfl
  refine pure_ (i := 17) (N := (some 25)) (v := ?_) (a' := ?_) #[true, true, true, true, true, true, true, true, true, true, true, true, true, true, true, true, true, true, false, false] rfl rfl (by kernel_rfl) (fun _ _ _ h => h) (Or.inl ⟨by rfl, ?_⟩) ?_ ?_
  rotate_left
  · intro w'
    go_simp
    first | done | with_reducible rfl
  rotate_left
  · simp only [Act.put, List.setIfInBounds_toArray, List.set_cons_zero, List.set_cons_succ, i64_w, i32_w]
    rfl
  refine pure_ (i := 18) (N := (some 26)) (v := ?_) (a' := ?_) #[true, true, true, true, true, true, true, true, true, true, true, true, true, true, true, true, true, true, true, false] rfl rfl (by kernel_rfl) (fun _ _ _ h => h) (Or.inl ⟨by rfl, ?_⟩) ?_ ?_
  rotate_left
  · intro w'
    go_simp
    first | done | with_reducible rfl
  rotate_left
  · simp only [Act.put, List.setIfInBounds_toArray, List.set_cons_zero, List.set_cons_succ, i64_w, i32_w]
    rfl
  refine pure_ (i := 19) (N := (some 7)) (v := ?_) (a' := ?_) #[true, true, true, true, true, true, true, true, true, true, true, true, true, true, true, true, true, true, true, true] rfl rfl (by kernel_rfl) (fun _ _ _ h => h) (Or.inl ⟨by rfl, ?_⟩) ?_ ?_
  rotate_left
  · intro w'
    go_simp
    first | done | with_reducible rfl
  rotate_left
  · simp only [Act.put, List.setIfInBounds_toArray, List.set_cons_zero, List.set_cons_succ, i64_w, i32_w]
    rfl
  refine done_ (by kernel_rfl) ?_
  have HBW := Aside0.mk (below_step OD.out.below hHeld)
  clear hHeld b0 b1 b2 c0 HRD
  go_wp2_with fail
  go_ret
  exact ⟨rfl, HF.out.below HBW.out, Turn.below HBW.out⟩
theorem take_b (x0 x1 : Int) (A : Option Addr) (c : Nat) (l : List ByteArray) (h : IsF base w g gt gb s) (hb : base ≤ w.heap.size) (hmax : l.length ≤ maxLen) (hr : Kd.C Kd.string w A l.length l) (hw : (l.length : Int) = wdF s.size x0 x1) (hlen : (tileOf s (x0, x1)).length ≤ l.length) (h0 : 0 < l.length) (h4 : l.length ≤ 4) (hsz : ∀ y ∈ l, y.size ≤ 100000) (w0 : wf x0) (w1 : wf x1) :
    Calls Try.prog 71 #[.pointer (some ⟨g, 0, none⟩), .agg #[.bool true, .int .i64 x0, .int .i64 x1], .slice A l.length c] w fun e w' => e = .returned (.int .i64 (if okB s (x0, x1) l then 0 else 8)) ∧ IsF base w' g gt gb (if okB s (x0, x1) l then putB s x1 l else s) ∧ Turn (Foot g gt gb) w w' := by
  have OW := Aside0.mk (Mem.Own.nil w)
  have HF := Aside0.mk h
  have HR := Aside0.mk hr
  have HB := Aside0.mk hb
  have HMX := Aside0.mk hmax
  have HWD := Aside0.mk (fun W => width_c (s.size : Int) x0 x1 W)
  rw [show inTile x1 (cntv s.size x0) = (l.length : Int) from hw.symm] at HWD
  have hne : ((l.length : Int) != (l.length : Int)) = false := by simp
  have HTB := Aside0.mk (fun W (h : IsF base W g gt gb s) (hb : base ≤ W.heap.size) (hr : Kd.C Kd.string W A l.length l) => takeB_c x0 x1 A c l h hb hlen h0 h4 hsz w0 w1 hr)
  generalize (if okB s (x0, x1) l then (0 : Int) else 8) = cd at *
  generalize (if okB s (x0, x1) l then putB s x1 l else s) = s9 at *
  clear h hr hb hw hlen h0 h4 hsz w0 w1
  go_enter Try.func71, Try.ntmps71
  go_wp2_with (first
    | ((with_reducible refine gate_dst (N := 4) rfl ?_); refine box_event ?hg (N := 4) ?hd (cs := #[.bool true, .int .i64 x0, .int .i64 x1]) (t := 58) ?hr ?_; (case hd => rfl); (case hg => rfl); (case hr => first | (go_simp; done) | (go_simp; rfl)); intro gI hg W_ hb hbb; have n_ : Aside0 (Mem.Own w W_ [(gI, #[.bool true, .int .i64 x0, .int .i64 x1], 58)]) := ⟨OW.out.new hg hb hbb⟩; clear OW hb hbb hg; have OW := n_; clear n_))
  have OD := Aside0.mk OW.out.drew
  have HFD := Aside0.mk ((HF.out.below OW.out.below).drew)
  have HRD := Aside0.mk (Kd.C_drew (Kd.C_below HR.out OW.out.below))
  have b0 : W_.drew.cell? ⟨gI, 0, none⟩ = some (.bool true) := (OD.out.cell 0 rfl 0).trans rfl
  have b1 : W_.drew.cell? ⟨gI, 1, none⟩ = some (.int .i64 x0) := (OD.out.cell 0 rfl 1).trans rfl
  have b2 : W_.drew.cell? ⟨gI, 2, none⟩ = some (.int .i64 x1) := (OD.out.cell 0 rfl 2).trans rfl
  have c0 : W_.drew.cell? ⟨g, 72, none⟩ = some (.int .i64 s.size) := (HFD.out.cell 0).trans rfl
  clear OW
  go_wp2_with fail
  refine start_ (n := 20) (S := fun w' => Below (W_).drew.heap.size (W_).drew w') (ds := []) #[false, false, false, false, false, false, false, false, false, false, false, false, false, false, false, false, false, false, false, false] (by kernel_rfl) rfl rfl (Below.refl _ _) (fun hHeld => ?_)
  generalize (W_).drew = W1 at *
  refine pure_ (i := 0) (N := (some 8)) (v := ?_) (a' := ?_) #[true, false, false, false, false, false, false, false, false, false, false, false, false, false, false, false, false, false, false, false] rfl rfl (by kernel_rfl) (fun _ _ _ h => h) (Or.inl ⟨by rfl, ?_⟩) ?_ ?_
  rotate_left
  · intro w'
    go_simp
    first | done | with_reducible rfl
  rotate_left
  · simp only [Act.put, List.setIfInBounds_toArray, List.set_cons_zero, List.set_cons_succ, i64_w, i32_w]
    rfl
  refine pure_ (i := 1) (N := (some 9)) (v := ?_) (a' := ?_) #[true, true, false, false, false, false, false, false, false, false, false, false, false, false, false, false, false, false, false, false] rfl rfl (by kernel_rfl) (fun _ _ _ h => h) (Or.inl ⟨by rfl, ?_⟩) ?_ ?_
  rotate_left
  · intro w'
    go_simp
    first | done | with_reducible rfl
  rotate_left
  · simp only [Act.put, List.setIfInBounds_toArray, List.set_cons_zero, List.set_cons_succ, i64_w, i32_w]
    rfl
  refine pure_ (i := 2) (N := (some 10)) (v := ?_) (a' := ?_) #[true, true, true, false, false, false, false, false, false, false, false, false, false, false, false, false, false, false, false, false] rfl rfl (by kernel_rfl) (fun _ _ _ h => h) (Or.inl ⟨by rfl, ?_⟩) ?_ ?_
  rotate_left
  · intro w'
    go_simp
    first | done | with_reducible rfl
  rotate_left
  · simp only [Act.put, List.setIfInBounds_toArray, List.set_cons_zero, List.set_cons_succ, i64_w, i32_w]
    rfl
  refine pure_ (i := 3) (N := (some 11)) (v := ?_) (a' := ?_) #[true, true, true, true, false, false, false, false, false, false, false, false, false, false, false, false, false, false, false, false] rfl rfl (by kernel_rfl) (fun _ _ _ h => h) (Or.inl ⟨by rfl, ?_⟩) ?_ ?_
  rotate_left
  · intro w'
    skip
    go_simp
    first | done | with_reducible rfl
  rotate_left
  · simp only [Act.put, List.setIfInBounds_toArray, List.set_cons_zero, List.set_cons_succ, i64_w, i32_w]
    rfl
  refine pure_ (i := 4) (N := (some 12)) (v := ?_) (a' := ?_) #[true, true, true, true, true, false, false, false, false, false, false, false, false, false, false, false, false, false, false, false] rfl rfl (by kernel_rfl) (fun _ _ _ h => h) (Or.inl ⟨by rfl, ?_⟩) ?_ ?_
  rotate_left
  · intro w'
    go_simp
    first | done | with_reducible rfl
  rotate_left
  · simp only [Act.put, List.setIfInBounds_toArray, List.set_cons_zero, List.set_cons_succ, i64_w, i32_w]
    rfl
  refine take_ (i := 5) (N := (some 13)) (v := ?_) (a' := ?_) #[true, true, true, true, true, true, false, false, false, false, false, false, false, false, false, false, false, false, false, false] rfl rfl (by kernel_rfl) (fun _ _ _ h => h) (Or.inl ⟨by rfl, ?_⟩) hHeld ?_ ?_
  rotate_left
  · intro w' hS
    have s0 := pw_cell_below hS c0
    go_simp
    first | done | with_reducible rfl
  rotate_left
  · simp only [Act.put, List.setIfInBounds_toArray, List.set_cons_zero, List.set_cons_succ, i64_w, i32_w]
    rfl
  refine pure_ (i := 6) (N := (some 14)) (v := ?_) (a' := ?_) #[true, true, true, true, true, true, true, false, false, false, false, false, false, false, false, false, false, false, false, false] rfl rfl (by kernel_rfl) (fun _ _ _ h => h) (Or.inl ⟨by rfl, ?_⟩) ?_ ?_
  rotate_left
  · intro w'
    go_simp
    first | done | with_reducible rfl
  rotate_left
  · simp only [Act.put, List.setIfInBounds_toArray, List.set_cons_zero, List.set_cons_succ, i64_w, i32_w]
    rfl
  refine take_ (i := 7) (N := (some 15)) (v := ?_) (a' := ?_) #[true, true, true, true, true, true, true, true, false, false, false, false, false, false, false, false, false, false, false, false] rfl rfl (by kernel_rfl) (fun _ _ _ h => h) (Or.inl ⟨by rfl, ?_⟩) hHeld ?_ ?_
  rotate_left
  · intro w' hS
    have s0 := pw_cell_below hS b1
    have s1 := pw_cell_below hS b2
    go_simp
    first | done | with_reducible rfl
  rotate_left
  · simp only [Act.put, List.setIfInBounds_toArray, List.set_cons_zero, List.set_cons_succ, i64_w, i32_w]
    rfl
  refine one_ (i := 8) (N := (some 16)) #[true, true, true, true, true, true, true, true, true, false, false, false, false, false, false, false, false, false, false, false] rfl rfl (by kernel_rfl) (by decide) (fun K hK => ?_)
  refine goes_ Try.func50 (by kernel_rfl) rfl #[.int .i64 s.size, .agg #[.int .i64 x0, .int .i64 x1]] (by rfl) rfl rfl (by (try simp only [List.map_toArray, List.map_cons, List.map_nil]); first | done | rfl) ?_
  (with_reducible refine (HWD.out _).mono ?_)
  rintro e wa ⟨rfl, hB⟩
  refine ⟨_, rfl, ?_⟩
  have hS2 : Below W1.heap.size W1 wa := below_step hHeld hB
  clear hB hHeld
  refine hK.out _ _ hS2 (fun hHeld => ?_)
  clear hK K
  refine norm_ (a' := ?_) ?_ ?_
  rotate_left
  · show Act.put _ (some 16) _ = _
    simp only [Act.put, List.setIfInBounds_toArray, List.set_cons_zero, List.set_cons_succ, i64_w, i32_w]
    rfl
  refine pure_ (i := 9) (N := (some 17)) (v := ?_) (a' := ?_) #[true, true, true, true, true, true, true, true, true, true, false, false, false, false, false, false, false, false, false, false] rfl rfl (by kernel_rfl) (fun _ _ _ h => h) (Or.inl ⟨by rfl, ?_⟩) ?_ ?_
  rotate_left
  · intro w'
    go_simp
    first | done | with_reducible rfl
  rotate_left
  · simp only [Act.put, List.setIfInBounds_toArray, List.set_cons_zero, List.set_cons_succ, i64_w, i32_w]
    rfl
  refine pure_ (i := 10) (N := (some 18)) (v := ?_) (a' := ?_) #[true, true, true, true, true, true, true, true, true, true, true, false, false, false, false, false, false, false, false, false] rfl rfl (by kernel_rfl) (fun _ _ _ h => h) (Or.inl ⟨by rfl, ?_⟩) ?_ ?_
  rotate_left
  · intro w'
    go_simp
    first | done | with_reducible rfl
  rotate_left
  · simp only [Act.put, List.setIfInBounds_toArray, List.set_cons_zero, List.set_cons_succ, i64_w, i32_w]
    rfl
  refine pure_ (i := 11) (N := (some 19)) (v := ?_) (a' := ?_) #[true, true, true, true, true, true, true, true, true, true, true, true, false, false, false, false, false, false, false, false] rfl rfl (by kernel_rfl) (fun _ _ _ h => h) (Or.inl ⟨by rfl, ?_⟩) ?_ ?_
  rotate_left
  · intro w'
    go_simp
    first | done | with_reducible rfl
  rotate_left
  · simp only [Act.put, List.setIfInBounds_toArray, List.set_cons_zero, List.set_cons_succ, i64_w, i32_w]
    rfl
  refine take_ (i := 12) (N := (some 20)) (v := ?_) (a' := ?_) #[true, true, true, true, true, true, true, true, true, true, true, true, true, false, false, false, false, false, false, false] rfl rfl (by kernel_rfl) (fun _ _ _ h => h) (Or.inl ⟨by rfl, ?_⟩) hHeld ?_ ?_
  rotate_left
  · intro w' hS
    have s0 := pw_cell_below hS b0
    go_simp
    first | done | with_reducible rfl
  rotate_left
  · simp only [Act.put, List.setIfInBounds_toArray, List.set_cons_zero, List.set_cons_succ, i64_w, i32_w]
    rfl
  refine pure_ (i := 13) (N := (some 21)) (v := ?_) (a' := ?_) #[true, true, true, true, true, true, true, true, true, true, true, true, true, true, false, false, false, false, false, false] rfl rfl (by kernel_rfl) (fun _ _ _ h => h) (Or.inl ⟨by rfl, ?_⟩) ?_ ?_
  rotate_left
  · intro w'
    go_simp
    first | done | with_reducible rfl
  rotate_left
  · simp only [Act.put, List.setIfInBounds_toArray, List.set_cons_zero, List.set_cons_succ, i64_w, i32_w]
    rfl
  refine pure_ (i := 14) (N := (some 22)) (v := ?_) (a' := ?_) #[true, true, true, true, true, true, true, true, true, true, true, true, true, true, true, false, false, false, false, false] rfl rfl (by kernel_rfl) (fun _ _ _ h => h) (Or.inl ⟨by rfl, ?_⟩) ?_ ?_
  rotate_left
  · intro w'
    go_simp
    first | done | with_reducible rfl
  rotate_left
  · simp only [Act.put, List.setIfInBounds_toArray, List.set_cons_zero, List.set_cons_succ, i64_w, i32_w]
    rfl
  refine pure_ (i := 15) (N := (some 23)) (v := undef) (a' := ?_) #[true, true, true, true, true, true, true, true, true, true, true, true, true, true, true, true, false, false, false, false] rfl rfl (by kernel_rfl) (fun _ _ _ h => h) (Or.inr ⟨by rfl, rfl⟩) ?_ ?_
  rotate_left
  · simp only [Act.put, List.setIfInBounds_toArray, List.set_cons_zero, List.set_cons_succ, i64_w, i32_w]
    rfl
  refine pure_ (i := 16) (N := (some 24)) (v := undef) (a' := ?_) #[true, true, true, true, true, true, true, true, true, true, true, true, true, true, true, true, true, false, false, false] rfl rfl (by kernel_rfl) (fun _ _ _ h => h) (Or.inr ⟨by rfl, rfl⟩) ?_ ?_
  rotate_left
  · simp only [Act.put, List.setIfInBounds_toArray, List.set_cons_zero, List.set_cons_succ, i64_w, i32_w]
    rfl
  refine pure_ (i := 17) (N := (some 25)) (v := ?_) (a' := ?_) #[true, true, true, true, true, true, true, true, true, true, true, true, true, true, true, true, true, true, false, false] rfl rfl (by kernel_rfl) (fun _ _ _ h => h) (Or.inl ⟨by rfl, ?_⟩) ?_ ?_
  rotate_left
  · intro w'
    go_simp
    first | done | with_reducible rfl
  rotate_left
  · simp only [Act.put, List.setIfInBounds_toArray, List.set_cons_zero, List.set_cons_succ, i64_w, i32_w]
    rfl
  refine pure_ (i := 18) (N := (some 26)) (v := ?_) (a' := ?_) #[true, true, true, true, true, true, true, true, true, true, true, true, true, true, true, true, true, true, true, false] rfl rfl (by kernel_rfl) (fun _ _ _ h => h) (Or.inl ⟨by rfl, ?_⟩) ?_ ?_
  rotate_left
  · intro w'
    go_simp
    first | done | with_reducible rfl
  rotate_left
  · simp only [Act.put, List.setIfInBounds_toArray, List.set_cons_zero, List.set_cons_succ, i64_w, i32_w]
    rfl
  refine pure_ (i := 19) (N := (some 7)) (v := ?_) (a' := ?_) #[true, true, true, true, true, true, true, true, true, true, true, true, true, true, true, true, true, true, true, true] rfl rfl (by kernel_rfl) (fun _ _ _ h => h) (Or.inl ⟨by rfl, ?_⟩) ?_ ?_
  rotate_left
  · intro w'
    go_simp
    first | done | with_reducible rfl
  rotate_left
  · simp only [Act.put, List.setIfInBounds_toArray, List.set_cons_zero, List.set_cons_succ, i64_w, i32_w]
    rfl
  refine done_ (by kernel_rfl) ?_
  have OE := Aside0.mk (OD.out.step hHeld)
  have HF1 := Aside0.mk (HFD.out.below hHeld)
  have HR1 := Aside0.mk (Kd.C_below HRD.out hHeld)
  have i0 := (OE.out.cell 0 rfl 0).trans rfl
  have i1 := (OE.out.cell 0 rfl 1).trans rfl
  have i2 := (OE.out.cell 0 rfl 2).trans rfl
  clear OD HFD HRD hHeld b0 b1 b2 c0
  go_wp2_with (first
    | (go_at_call 97; (with_reducible refine (HTB.out _ HF1.out (Nat.le_trans HB.out OE.out.size) HR1.out).mono ?_); rintro e wz ⟨rfl, hI, hT⟩; have HI := Aside0.mk hI; have HT := Aside0.mk ((Turn.below OE.out.below).trans hT); clear hI hT i0 i1 i2))
  go_ret
  exact ⟨rfl, HI.out, HT.out⟩
theorem take_e (x0 x1 : Int) (A : Option Addr) (c : Nat) (l : List ByteArray) (h : IsF base w g gt gb s) (hb : base ≤ w.heap.size) (hmax : l.length ≤ maxLen) (hr : Kd.C Kd.string w A l.length l) (hv : InvF s) (hw : (l.length : Int) = wdF s.size x0 x1) (h0 : 0 < l.length) (h4 : l.length ≤ 4) (h32 : A32 l) (he : edB s.size (x0, x1) = true) (w0 : wf x0) (w1 : wf x1) :
    Calls Try.prog 71 #[.pointer (some ⟨g, 0, none⟩), .agg #[.bool false, .int .i64 x0, .int .i64 x1], .slice A l.length c] w fun e w' => e = .returned (.int .i64 (if okE (putT s (x0, x1) l) then 0 else 8)) ∧ IsF base w' g gt gb (if okE (putT s (x0, x1) l) then putT s (x0, x1) l else dropE (putT s (x0, x1) l)) ∧ Turn (Foot g gt gb) w w' := by
  have OW := Aside0.mk (Mem.Own.nil w)
  have HF := Aside0.mk h
  have HR := Aside0.mk hr
  have HB := Aside0.mk hb
  have HMX := Aside0.mk hmax
  have HWD := Aside0.mk (fun W => width_c (s.size : Int) x0 x1 W)
  rw [show inTile x1 (cntv s.size x0) = (l.length : Int) from hw.symm] at HWD
  have hne : ((l.length : Int) != (l.length : Int)) = false := by simp
  have HSH := Aside0.mk (fun W (h : Kd.C Kd.string W A l.length l) => short_c A c l W HMX.out h)
  rw [show all32 l = true from List.all_eq_true.2 (fun y hy => by rw [h32 y hy]; rfl)] at HSH
  have HED := Aside0.mk (fun W (h : IsF base W g gt gb s) => edge1_f base g gt gb s x0 x1 W h)
  rw [he] at HED
  have HTE := Aside0.mk (fun W (h : IsF base W g gt gb s) (hb : base ≤ W.heap.size) (hr : Kd.C Kd.string W A l.length l) => takeE_c x0 x1 A c l h hv hb hw h0 h4 h32 w0 w1 hr)
  generalize (if okE (putT s (x0, x1) l) then (0 : Int) else 8) = cd at *
  generalize (if okE (putT s (x0, x1) l) then putT s (x0, x1) l else dropE (putT s (x0, x1) l)) = s9 at *
  clear h hr hb hv hw h0 h4 h32 he w0 w1
  go_enter Try.func71, Try.ntmps71
  go_wp2_with (first
    | ((with_reducible refine gate_dst (N := 4) rfl ?_); refine box_event ?hg (N := 4) ?hd (cs := #[.bool false, .int .i64 x0, .int .i64 x1]) (t := 58) ?hr ?_; (case hd => rfl); (case hg => rfl); (case hr => first | (go_simp; done) | (go_simp; rfl)); intro gI hg W_ hb hbb; have n_ : Aside0 (Mem.Own w W_ [(gI, #[.bool false, .int .i64 x0, .int .i64 x1], 58)]) := ⟨OW.out.new hg hb hbb⟩; clear OW hb hbb hg; have OW := n_; clear n_))
  have OD := Aside0.mk OW.out.drew
  have HFD := Aside0.mk ((HF.out.below OW.out.below).drew)
  have HRD := Aside0.mk (Kd.C_drew (Kd.C_below HR.out OW.out.below))
  have b0 : W_.drew.cell? ⟨gI, 0, none⟩ = some (.bool false) := (OD.out.cell 0 rfl 0).trans rfl
  have b1 : W_.drew.cell? ⟨gI, 1, none⟩ = some (.int .i64 x0) := (OD.out.cell 0 rfl 1).trans rfl
  have b2 : W_.drew.cell? ⟨gI, 2, none⟩ = some (.int .i64 x1) := (OD.out.cell 0 rfl 2).trans rfl
  have c0 : W_.drew.cell? ⟨g, 72, none⟩ = some (.int .i64 s.size) := (HFD.out.cell 0).trans rfl
  clear OW
  go_wp2_with fail
  refine start_ (n := 20) (S := fun w' => Below (W_).drew.heap.size (W_).drew w') (ds := []) #[false, false, false, false, false, false, false, false, false, false, false, false, false, false, false, false, false, false, false, false] (by kernel_rfl) rfl rfl (Below.refl _ _) (fun hHeld => ?_)
  generalize (W_).drew = W1 at *
  refine pure_ (i := 0) (N := (some 8)) (v := ?_) (a' := ?_) #[true, false, false, false, false, false, false, false, false, false, false, false, false, false, false, false, false, false, false, false] rfl rfl (by kernel_rfl) (fun _ _ _ h => h) (Or.inl ⟨by rfl, ?_⟩) ?_ ?_
  rotate_left
  · intro w'
    go_simp
    first | done | with_reducible rfl
  rotate_left
  · simp only [Act.put, List.setIfInBounds_toArray, List.set_cons_zero, List.set_cons_succ, i64_w, i32_w]
    rfl
  refine pure_ (i := 1) (N := (some 9)) (v := ?_) (a' := ?_) #[true, true, false, false, false, false, false, false, false, false, false, false, false, false, false, false, false, false, false, false] rfl rfl (by kernel_rfl) (fun _ _ _ h => h) (Or.inl ⟨by rfl, ?_⟩) ?_ ?_
  rotate_left
  · intro w'
    go_simp
    first | done | with_reducible rfl
  rotate_left
  · simp only [Act.put, List.setIfInBounds_toArray, List.set_cons_zero, List.set_cons_succ, i64_w, i32_w]
    rfl
  refine pure_ (i := 2) (N := (some 10)) (v := ?_) (a' := ?_) #[true, true, true, false, false, false, false, false, false, false, false, false, false, false, false, false, false, false, false, false] rfl rfl (by kernel_rfl) (fun _ _ _ h => h) (Or.inl ⟨by rfl, ?_⟩) ?_ ?_
  rotate_left
  · intro w'
    go_simp
    first | done | with_reducible rfl
  rotate_left
  · simp only [Act.put, List.setIfInBounds_toArray, List.set_cons_zero, List.set_cons_succ, i64_w, i32_w]
    rfl
  refine pure_ (i := 3) (N := (some 11)) (v := ?_) (a' := ?_) #[true, true, true, true, false, false, false, false, false, false, false, false, false, false, false, false, false, false, false, false] rfl rfl (by kernel_rfl) (fun _ _ _ h => h) (Or.inl ⟨by rfl, ?_⟩) ?_ ?_
  rotate_left
  · intro w'
    skip
    go_simp
    first | done | with_reducible rfl
  rotate_left
  · simp only [Act.put, List.setIfInBounds_toArray, List.set_cons_zero, List.set_cons_succ, i64_w, i32_w]
    rfl
  refine pure_ (i := 4) (N := (some 12)) (v := ?_) (a' := ?_) #[true, true, true, true, true, false, false, false, false, false, false, false, false, false, false, false, false, false, false, false] rfl rfl (by kernel_rfl) (fun _ _ _ h => h) (Or.inl ⟨by rfl, ?_⟩) ?_ ?_
  rotate_left
  · intro w'
    go_simp
    first | done | with_reducible rfl
  rotate_left
  · simp only [Act.put, List.setIfInBounds_toArray, List.set_cons_zero, List.set_cons_succ, i64_w, i32_w]
    rfl
  refine take_ (i := 5) (N := (some 13)) (v := ?_) (a' := ?_) #[true, true, true, true, true, true, false, false, false, false, false, false, false, false, false, false, false, false, false, false] rfl rfl (by kernel_rfl) (fun _ _ _ h => h) (Or.inl ⟨by rfl, ?_⟩) hHeld ?_ ?_
  rotate_left
  · intro w' hS
    have s0 := pw_cell_below hS c0
    go_simp
    first | done | with_reducible rfl
  rotate_left
  · simp only [Act.put, List.setIfInBounds_toArray, List.set_cons_zero, List.set_cons_succ, i64_w, i32_w]
    rfl
  refine pure_ (i := 6) (N := (some 14)) (v := ?_) (a' := ?_) #[true, true, true, true, true, true, true, false, false, false, false, false, false, false, false, false, false, false, false, false] rfl rfl (by kernel_rfl) (fun _ _ _ h => h) (Or.inl ⟨by rfl, ?_⟩) ?_ ?_
  rotate_left
  · intro w'
    go_simp
    first | done | with_reducible rfl
  rotate_left
  · simp only [Act.put, List.setIfInBounds_toArray, List.set_cons_zero, List.set_cons_succ, i64_w, i32_w]
    rfl
  refine take_ (i := 7) (N := (some 15)) (v := ?_) (a' := ?_) #[true, true, true, true, true, true, true, true, false, false, false, false, false, false, false, false, false, false, false, false] rfl rfl (by kernel_rfl) (fun _ _ _ h => h) (Or.inl ⟨by rfl, ?_⟩) hHeld ?_ ?_
  rotate_left
  · intro w' hS
    have s0 := pw_cell_below hS b1
    have s1 := pw_cell_below hS b2
    go_simp
    first | done | with_reducible rfl
  rotate_left
  · simp only [Act.put, List.setIfInBounds_toArray, List.set_cons_zero, List.set_cons_succ, i64_w, i32_w]
    rfl
  refine one_ (i := 8) (N := (some 16)) #[true, true, true, true, true, true, true, true, true, false, false, false, false, false, false, false, false, false, false, false] rfl rfl (by kernel_rfl) (by decide) (fun K hK => ?_)
  refine goes_ Try.func50 (by kernel_rfl) rfl #[.int .i64 s.size, .agg #[.int .i64 x0, .int .i64 x1]] (by rfl) rfl rfl (by (try simp only [List.map_toArray, List.map_cons, List.map_nil]); first | done | rfl) ?_
  (with_reducible refine (HWD.out _).mono ?_)
  rintro e wa ⟨rfl, hB⟩
  refine ⟨_, rfl, ?_⟩
  have hS2 : Below W1.heap.size W1 wa := below_step hHeld hB
  clear hB hHeld
  refine hK.out _ _ hS2 (fun hHeld => ?_)
  clear hK K
  refine norm_ (a' := ?_) ?_ ?_
  rotate_left
  · show Act.put _ (some 16) _ = _
    simp only [Act.put, List.setIfInBounds_toArray, List.set_cons_zero, List.set_cons_succ, i64_w, i32_w]
    rfl
  refine pure_ (i := 9) (N := (some 17)) (v := ?_) (a' := ?_) #[true, true, true, true, true, true, true, true, true, true, false, false, false, false, false, false, false, false, false, false] rfl rfl (by kernel_rfl) (fun _ _ _ h => h) (Or.inl ⟨by rfl, ?_⟩) ?_ ?_
  rotate_left
  · intro w'
    go_simp
    first | done | with_reducible rfl
  rotate_left
  · simp only [Act.put, List.setIfInBounds_toArray, List.set_cons_zero, List.set_cons_succ, i64_w, i32_w]
    rfl
  refine pure_ (i := 10) (N := (some 18)) (v := ?_) (a' := ?_) #[true, true, true, true, true, true, true, true, true, true, true, false, false, false, false, false, false, false, false, false] rfl rfl (by kernel_rfl) (fun _ _ _ h => h) (Or.inl ⟨by rfl, ?_⟩) ?_ ?_
  rotate_left
  · intro w'
    go_simp
    first | done | with_reducible rfl
  rotate_left
  · simp only [Act.put, List.setIfInBounds_toArray, List.set_cons_zero, List.set_cons_succ, i64_w, i32_w]
    rfl
  refine pure_ (i := 11) (N := (some 19)) (v := ?_) (a' := ?_) #[true, true, true, true, true, true, true, true, true, true, true, true, false, false, false, false, false, false, false, false] rfl rfl (by kernel_rfl) (fun _ _ _ h => h) (Or.inl ⟨by rfl, ?_⟩) ?_ ?_
  rotate_left
  · intro w'
    go_simp
    first | done | with_reducible rfl
  rotate_left
  · simp only [Act.put, List.setIfInBounds_toArray, List.set_cons_zero, List.set_cons_succ, i64_w, i32_w]
    rfl
  refine take_ (i := 12) (N := (some 20)) (v := ?_) (a' := ?_) #[true, true, true, true, true, true, true, true, true, true, true, true, true, false, false, false, false, false, false, false] rfl rfl (by kernel_rfl) (fun _ _ _ h => h) (Or.inl ⟨by rfl, ?_⟩) hHeld ?_ ?_
  rotate_left
  · intro w' hS
    have s0 := pw_cell_below hS b0
    go_simp
    first | done | with_reducible rfl
  rotate_left
  · simp only [Act.put, List.setIfInBounds_toArray, List.set_cons_zero, List.set_cons_succ, i64_w, i32_w]
    rfl
  refine pure_ (i := 13) (N := (some 21)) (v := ?_) (a' := ?_) #[true, true, true, true, true, true, true, true, true, true, true, true, true, true, false, false, false, false, false, false] rfl rfl (by kernel_rfl) (fun _ _ _ h => h) (Or.inl ⟨by rfl, ?_⟩) ?_ ?_
  rotate_left
  · intro w'
    go_simp
    first | done | with_reducible rfl
  rotate_left
  · simp only [Act.put, List.setIfInBounds_toArray, List.set_cons_zero, List.set_cons_succ, i64_w, i32_w]
    rfl
  refine pure_ (i := 14) (N := (some 22)) (v := ?_) (a' := ?_) #[true, true, true, true, true, true, true, true, true, true, true, true, true, true, true, false, false, false, false, false] rfl rfl (by kernel_rfl) (fun _ _ _ h => h) (Or.inl ⟨by rfl, ?_⟩) ?_ ?_
  rotate_left
  · intro w'
    go_simp
    first | done | with_reducible rfl
  rotate_left
  · simp only [Act.put, List.setIfInBounds_toArray, List.set_cons_zero, List.set_cons_succ, i64_w, i32_w]
    rfl
  refine pure_ (i := 15) (N := (some 23)) (v := ?_) (a' := ?_) #[true, true, true, true, true, true, true, true, true, true, true, true, true, true, true, true, false, false, false, false] rfl rfl (by kernel_rfl) (fun _ _ _ h => h) (Or.inl ⟨by rfl, ?_⟩) ?_ ?_
  rotate_left
  · intro w'
    go_simp
    first | done | with_reducible rfl
  rotate_left
  · simp only [Act.put, List.setIfInBounds_toArray, List.set_cons_zero, List.set_cons_succ, i64_w, i32_w]
    rfl
  refine one_ (i := 16) (N := (some 24)) #[true, true, true, true, true, true, true, true, true, true, true, true, true, true, true, true, true, false, false, false] rfl rfl (by kernel_rfl) (by decide) (fun K hK => ?_)
  refine goes_ Try.func96 (by kernel_rfl) rfl #[.slice A l.length c] (by rfl) rfl rfl (by (try simp only [List.map_toArray, List.map_cons, List.map_nil]); first | done | rfl) ?_
  (with_reducible refine (HSH.out _ (Kd.C_below HRD.out hHeld)).mono ?_)
  rintro e wb ⟨rfl, rfl⟩
  refine ⟨_, rfl, ?_⟩
  have hS2 : Below W1.heap.size W1 wb := hHeld
  clear hHeld
  refine hK.out _ _ hS2 (fun hHeld => ?_)
  clear hK K
  refine norm_ (a' := ?_) ?_ ?_
  rotate_left
  · show Act.put _ (some 24) _ = _
    simp only [Act.put, List.setIfInBounds_toArray, List.set_cons_zero, List.set_cons_succ, i64_w, i32_w]
    rfl
  refine pure_ (i := 17) (N := (some 25)) (v := ?_) (a' := ?_) #[true, true, true, true, true, true, true, true, true, true, true, true, true, true, true, true, true, true, false, false] rfl rfl (by kernel_rfl) (fun _ _ _ h => h) (Or.inl ⟨by rfl, ?_⟩) ?_ ?_
  rotate_left
  · intro w'
    go_simp
    first | done | with_reducible rfl
  rotate_left
  · simp only [Act.put, List.setIfInBounds_toArray, List.set_cons_zero, List.set_cons_succ, i64_w, i32_w]
    rfl
  refine pure_ (i := 18) (N := (some 26)) (v := ?_) (a' := ?_) #[true, true, true, true, true, true, true, true, true, true, true, true, true, true, true, true, true, true, true, false] rfl rfl (by kernel_rfl) (fun _ _ _ h => h) (Or.inl ⟨by rfl, ?_⟩) ?_ ?_
  rotate_left
  · intro w'
    go_simp
    first | done | with_reducible rfl
  rotate_left
  · simp only [Act.put, List.setIfInBounds_toArray, List.set_cons_zero, List.set_cons_succ, i64_w, i32_w]
    rfl
  refine pure_ (i := 19) (N := (some 7)) (v := ?_) (a' := ?_) #[true, true, true, true, true, true, true, true, true, true, true, true, true, true, true, true, true, true, true, true] rfl rfl (by kernel_rfl) (fun _ _ _ h => h) (Or.inl ⟨by rfl, ?_⟩) ?_ ?_
  rotate_left
  · intro w'
    go_simp
    first | done | with_reducible rfl
  rotate_left
  · simp only [Act.put, List.setIfInBounds_toArray, List.set_cons_zero, List.set_cons_succ, i64_w, i32_w]
    rfl
  refine done_ (by kernel_rfl) ?_
  have OE := Aside0.mk (OD.out.step hHeld)
  have HF1 := Aside0.mk (HFD.out.below hHeld)
  have HR1 := Aside0.mk (Kd.C_below HRD.out hHeld)
  have i0 := (OE.out.cell 0 rfl 0).trans rfl
  have i1 := (OE.out.cell 0 rfl 1).trans rfl
  have i2 := (OE.out.cell 0 rfl 2).trans rfl
  clear OD HFD HRD hHeld b0 b1 b2 c0
  go_wp2_with (first
    | (go_at_call 95; (with_reducible refine (HED.out _ HF1.out).mono ?_); rintro e wy ⟨rfl, hB⟩; have n1 := Aside0.mk (OE.out.step hB); have n2 := Aside0.mk (HF1.out.below hB); have n3 := Aside0.mk (Kd.C_below HR1.out hB); clear OE HF1 HR1 hB i0 i1 i2; have OE := n1; have HF1 := n2; have HR1 := n3; clear n1 n2 n3; have i1 := (OE.out.cell 0 rfl 1).trans rfl; have i2 := (OE.out.cell 0 rfl 2).trans rfl)
    | (go_at_call 98; (with_reducible refine (HTE.out _ HF1.out (Nat.le_trans HB.out OE.out.size) HR1.out).mono ?_); rintro e wz ⟨rfl, hI, hT⟩; have HI := Aside0.mk hI; have HT := Aside0.mk ((Turn.below OE.out.below).trans hT); clear hI hT i1 i2))
  go_ret
  exact ⟨rfl, HI.out, HT.out⟩
theorem take_f (k i : Nat) (A : Option Addr) (c : Nat) (l : List ByteArray) (h : IsF base w g gt gb s) (hb : base ≤ w.heap.size) (hmax : l.length ≤ maxLen) (hr : Kd.C Kd.string w A l.length l) (hk3 : k ≤ 3) (hi16 : i ≤ 16) (hw : (l.length : Int) = wdF s.size (k : Int) (i : Int)) (h4 : l.length = 4) (hc4 : 4 ≤ c) (h32 : A32 l) (he : edB s.size ((k : Int), (i : Int)) = false) :
    Calls Try.prog 71 #[.pointer (some ⟨g, 0, none⟩), .agg #[.bool false, .int .i64 (k : Int), .int .i64 (i : Int)], .slice A l.length c] w fun e w' => e = .returned (.int .i64 (if okF s k i l then 0 else 8)) ∧ IsF base w' g gt gb (if okF s k i l then putT s ((k : Int), (i : Int)) l else s) ∧ Turn (Foot g gt gb) w w' := by
  have OW := Aside0.mk (Mem.Own.nil w)
  have HF := Aside0.mk h
  have HR := Aside0.mk hr
  have HB := Aside0.mk hb
  have HMX := Aside0.mk hmax
  have HWD := Aside0.mk (fun W => width_c (s.size : Int) (k : Int) (i : Int) W)
  rw [show inTile (i : Int) (cntv s.size (k : Int)) = (l.length : Int) from hw.symm] at HWD
  have hne : ((l.length : Int) != (l.length : Int)) = false := by simp
  have HSH := Aside0.mk (fun W (h : Kd.C Kd.string W A l.length l) => short_c A c l W HMX.out h)
  rw [show all32 l = true from List.all_eq_true.2 (fun y hy => by rw [h32 y hy]; rfl)] at HSH
  have HED := Aside0.mk (fun W (h : IsF base W g gt gb s) => edge1_f base g gt gb s (k : Int) (i : Int) W h)
  rw [he] at HED
  have HTE := Aside0.mk (fun W (h : IsF base W g gt gb s) (hb : base ≤ W.heap.size) (hr : Kd.C Kd.string W A l.length l) => takeF_c k i A c l h hb h4 h32 hk3 hi16 hc4 (by rw [h4] at hr; exact hr))
  have HL4 := Aside0.mk h4
  generalize (if okF s k i l then (0 : Int) else 8) = cd at *
  generalize (if okF s k i l then putT s ((k : Int), (i : Int)) l else s) = s9 at *
  clear h hr hb hw hk3 hi16 h4 h32 he hc4
  go_enter Try.func71, Try.ntmps71
  go_wp2_with (first
    | ((with_reducible refine gate_dst (N := 4) rfl ?_); refine box_event ?hg (N := 4) ?hd (cs := #[.bool false, .int .i64 (k : Int), .int .i64 (i : Int)]) (t := 58) ?hr ?_; (case hd => rfl); (case hg => rfl); (case hr => first | (go_simp; done) | (go_simp; rfl)); intro gI hg W_ hb hbb; have n_ : Aside0 (Mem.Own w W_ [(gI, #[.bool false, .int .i64 (k : Int), .int .i64 (i : Int)], 58)]) := ⟨OW.out.new hg hb hbb⟩; clear OW hb hbb hg; have OW := n_; clear n_))
  have OD := Aside0.mk OW.out.drew
  have HFD := Aside0.mk ((HF.out.below OW.out.below).drew)
  have HRD := Aside0.mk (Kd.C_drew (Kd.C_below HR.out OW.out.below))
  have b0 : W_.drew.cell? ⟨gI, 0, none⟩ = some (.bool false) := (OD.out.cell 0 rfl 0).trans rfl
  have b1 : W_.drew.cell? ⟨gI, 1, none⟩ = some (.int .i64 (k : Int)) := (OD.out.cell 0 rfl 1).trans rfl
  have b2 : W_.drew.cell? ⟨gI, 2, none⟩ = some (.int .i64 (i : Int)) := (OD.out.cell 0 rfl 2).trans rfl
  have c0 : W_.drew.cell? ⟨g, 72, none⟩ = some (.int .i64 s.size) := (HFD.out.cell 0).trans rfl
  clear OW
  go_wp2_with fail
  refine start_ (n := 20) (S := fun w' => Below (W_).drew.heap.size (W_).drew w') (ds := []) #[false, false, false, false, false, false, false, false, false, false, false, false, false, false, false, false, false, false, false, false] (by kernel_rfl) rfl rfl (Below.refl _ _) (fun hHeld => ?_)
  generalize (W_).drew = W1 at *
  refine pure_ (i := 0) (N := (some 8)) (v := ?_) (a' := ?_) #[true, false, false, false, false, false, false, false, false, false, false, false, false, false, false, false, false, false, false, false] rfl rfl (by kernel_rfl) (fun _ _ _ h => h) (Or.inl ⟨by rfl, ?_⟩) ?_ ?_
  rotate_left
  · intro w'
    go_simp
    first | done | with_reducible rfl
  rotate_left
  · simp only [Act.put, List.setIfInBounds_toArray, List.set_cons_zero, List.set_cons_succ, i64_w, i32_w]
    rfl
  refine pure_ (i := 1) (N := (some 9)) (v := ?_) (a' := ?_) #[true, true, false, false, false, false, false, false, false, false, false, false, false, false, false, false, false, false, false, false] rfl rfl (by kernel_rfl) (fun _ _ _ h => h) (Or.inl ⟨by rfl, ?_⟩) ?_ ?_
  rotate_left
  · intro w'
    go_simp
    first | done | with_reducible rfl
  rotate_left
  · simp only [Act.put, List.setIfInBounds_toArray, List.set_cons_zero, List.set_cons_succ, i64_w, i32_w]
    rfl
  refine pure_ (i := 2) (N := (some 10)) (v := ?_) (a' := ?_) #[true, true, true, false, false, false, false, false, false, false, false, false, false, false, false, false, false, false, false, false] rfl rfl (by kernel_rfl) (fun _ _ _ h => h) (Or.inl ⟨by rfl, ?_⟩) ?_ ?_
  rotate_left
  · intro w'
    go_simp
    first | done | with_reducible rfl
  rotate_left
  · simp only [Act.put, List.setIfInBounds_toArray, List.set_cons_zero, List.set_cons_succ, i64_w, i32_w]
    rfl
  refine pure_ (i := 3) (N := (some 11)) (v := ?_) (a' := ?_) #[true, true, true, true, false, false, false, false, false, false, false, false, false, false, false, false, false, false, false, false] rfl rfl (by kernel_rfl) (fun _ _ _ h => h) (Or.inl ⟨by rfl, ?_⟩) ?_ ?_
  rotate_left
  · intro w'
    skip
    go_simp
    first | done | with_reducible rfl
  rotate_left
  · simp only [Act.put, List.setIfInBounds_toArray, List.set_cons_zero, List.set_cons_succ, i64_w, i32_w]
    rfl
  refine pure_ (i := 4) (N := (some 12)) (v := ?_) (a' := ?_) #[true, true, true, true, true, false, false, false, false, false, false, false, false, false, false, false, false, false, false, false] rfl rfl (by kernel_rfl) (fun _ _ _ h => h) (Or.inl ⟨by rfl, ?_⟩) ?_ ?_
  rotate_left
  · intro w'
    go_simp
    first | done | with_reducible rfl
  rotate_left
  · simp only [Act.put, List.setIfInBounds_toArray, List.set_cons_zero, List.set_cons_succ, i64_w, i32_w]
    rfl
  refine take_ (i := 5) (N := (some 13)) (v := ?_) (a' := ?_) #[true, true, true, true, true, true, false, false, false, false, false, false, false, false, false, false, false, false, false, false] rfl rfl (by kernel_rfl) (fun _ _ _ h => h) (Or.inl ⟨by rfl, ?_⟩) hHeld ?_ ?_
  rotate_left
  · intro w' hS
    have s0 := pw_cell_below hS c0
    go_simp
    first | done | with_reducible rfl
  rotate_left
  · simp only [Act.put, List.setIfInBounds_toArray, List.set_cons_zero, List.set_cons_succ, i64_w, i32_w]
    rfl
  refine pure_ (i := 6) (N := (some 14)) (v := ?_) (a' := ?_) #[true, true, true, true, true, true, true, false, false, false, false, false, false, false, false, false, false, false, false, false] rfl rfl (by kernel_rfl) (fun _ _ _ h => h) (Or.inl ⟨by rfl, ?_⟩) ?_ ?_
  rotate_left
  · intro w'
    go_simp
    first | done | with_reducible rfl
  rotate_left
  · simp only [Act.put, List.setIfInBounds_toArray, List.set_cons_zero, List.set_cons_succ, i64_w, i32_w]
    rfl
  refine take_ (i := 7) (N := (some 15)) (v := ?_) (a' := ?_) #[true, true, true, true, true, true, true, true, false, false, false, false, false, false, false, false, false, false, false, false] rfl rfl (by kernel_rfl) (fun _ _ _ h => h) (Or.inl ⟨by rfl, ?_⟩) hHeld ?_ ?_
  rotate_left
  · intro w' hS
    have s0 := pw_cell_below hS b1
    have s1 := pw_cell_below hS b2
    go_simp
    first | done | with_reducible rfl
  rotate_left
  · simp only [Act.put, List.setIfInBounds_toArray, List.set_cons_zero, List.set_cons_succ, i64_w, i32_w]
    rfl
  refine one_ (i := 8) (N := (some 16)) #[true, true, true, true, true, true, true, true, true, false, false, false, false, false, false, false, false, false, false, false] rfl rfl (by kernel_rfl) (by decide) (fun K hK => ?_)
  refine goes_ Try.func50 (by kernel_rfl) rfl #[.int .i64 s.size, .agg #[.int .i64 (k : Int), .int .i64 (i : Int)]] (by rfl) rfl rfl (by (try simp only [List.map_toArray, List.map_cons, List.map_nil]); first | done | rfl) ?_
  (with_reducible refine (HWD.out _).mono ?_)
  rintro e wa ⟨rfl, hB⟩
  refine ⟨_, rfl, ?_⟩
  have hS2 : Below W1.heap.size W1 wa := below_step hHeld hB
  clear hB hHeld
  refine hK.out _ _ hS2 (fun hHeld => ?_)
  clear hK K
  refine norm_ (a' := ?_) ?_ ?_
  rotate_left
  · show Act.put _ (some 16) _ = _
    simp only [Act.put, List.setIfInBounds_toArray, List.set_cons_zero, List.set_cons_succ, i64_w, i32_w]
    rfl
  refine pure_ (i := 9) (N := (some 17)) (v := ?_) (a' := ?_) #[true, true, true, true, true, true, true, true, true, true, false, false, false, false, false, false, false, false, false, false] rfl rfl (by kernel_rfl) (fun _ _ _ h => h) (Or.inl ⟨by rfl, ?_⟩) ?_ ?_
  rotate_left
  · intro w'
    go_simp
    first | done | with_reducible rfl
  rotate_left
  · simp only [Act.put, List.setIfInBounds_toArray, List.set_cons_zero, List.set_cons_succ, i64_w, i32_w]
    rfl
  refine pure_ (i := 10) (N := (some 18)) (v := ?_) (a' := ?_) #[true, true, true, true, true, true, true, true, true, true, true, false, false, false, false, false, false, false, false, false] rfl rfl (by kernel_rfl) (fun _ _ _ h => h) (Or.inl ⟨by rfl, ?_⟩) ?_ ?_
  rotate_left
  · intro w'
    go_simp
    first | done | with_reducible rfl
  rotate_left
  · simp only [Act.put, List.setIfInBounds_toArray, List.set_cons_zero, List.set_cons_succ, i64_w, i32_w]
    rfl
  refine pure_ (i := 11) (N := (some 19)) (v := ?_) (a' := ?_) #[true, true, true, true, true, true, true, true, true, true, true, true, false, false, false, false, false, false, false, false] rfl rfl (by kernel_rfl) (fun _ _ _ h => h) (Or.inl ⟨by rfl, ?_⟩) ?_ ?_
  rotate_left
  · intro w'
    go_simp
    first | done | with_reducible rfl
  rotate_left
  · simp only [Act.put, List.setIfInBounds_toArray, List.set_cons_zero, List.set_cons_succ, i64_w, i32_w]
    rfl
  refine take_ (i := 12) (N := (some 20)) (v := ?_) (a' := ?_) #[true, true, true, true, true, true, true, true, true, true, true, true, true, false, false, false, false, false, false, false] rfl rfl (by kernel_rfl) (fun _ _ _ h => h) (Or.inl ⟨by rfl, ?_⟩) hHeld ?_ ?_
  rotate_left
  · intro w' hS
    have s0 := pw_cell_below hS b0
    go_simp
    first | done | with_reducible rfl
  rotate_left
  · simp only [Act.put, List.setIfInBounds_toArray, List.set_cons_zero, List.set_cons_succ, i64_w, i32_w]
    rfl
  refine pure_ (i := 13) (N := (some 21)) (v := ?_) (a' := ?_) #[true, true, true, true, true, true, true, true, true, true, true, true, true, true, false, false, false, false, false, false] rfl rfl (by kernel_rfl) (fun _ _ _ h => h) (Or.inl ⟨by rfl, ?_⟩) ?_ ?_
  rotate_left
  · intro w'
    go_simp
    first | done | with_reducible rfl
  rotate_left
  · simp only [Act.put, List.setIfInBounds_toArray, List.set_cons_zero, List.set_cons_succ, i64_w, i32_w]
    rfl
  refine pure_ (i := 14) (N := (some 22)) (v := ?_) (a' := ?_) #[true, true, true, true, true, true, true, true, true, true, true, true, true, true, true, false, false, false, false, false] rfl rfl (by kernel_rfl) (fun _ _ _ h => h) (Or.inl ⟨by rfl, ?_⟩) ?_ ?_
  rotate_left
  · intro w'
    go_simp
    first | done | with_reducible rfl
  rotate_left
  · simp only [Act.put, List.setIfInBounds_toArray, List.set_cons_zero, List.set_cons_succ, i64_w, i32_w]
    rfl
  refine pure_ (i := 15) (N := (some 23)) (v := ?_) (a' := ?_) #[true, true, true, true, true, true, true, true, true, true, true, true, true, true, true, true, false, false, false, false] rfl rfl (by kernel_rfl) (fun _ _ _ h => h) (Or.inl ⟨by rfl, ?_⟩) ?_ ?_
  rotate_left
  · intro w'
    go_simp
    first | done | with_reducible rfl
  rotate_left
  · simp only [Act.put, List.setIfInBounds_toArray, List.set_cons_zero, List.set_cons_succ, i64_w, i32_w]
    rfl
  refine one_ (i := 16) (N := (some 24)) #[true, true, true, true, true, true, true, true, true, true, true, true, true, true, true, true, true, false, false, false] rfl rfl (by kernel_rfl) (by decide) (fun K hK => ?_)
  refine goes_ Try.func96 (by kernel_rfl) rfl #[.slice A l.length c] (by rfl) rfl rfl (by (try simp only [List.map_toArray, List.map_cons, List.map_nil]); first | done | rfl) ?_
  (with_reducible refine (HSH.out _ (Kd.C_below HRD.out hHeld)).mono ?_)
  rintro e wb ⟨rfl, rfl⟩
  refine ⟨_, rfl, ?_⟩
  have hS2 : Below W1.heap.size W1 wb := hHeld
  clear hHeld
  refine hK.out _ _ hS2 (fun hHeld => ?_)
  clear hK K
  refine norm_ (a' := ?_) ?_ ?_
  rotate_left
  · show Act.put _ (some 24) _ = _
    simp only [Act.put, List.setIfInBounds_toArray, List.set_cons_zero, List.set_cons_succ, i64_w, i32_w]
    rfl
  refine pure_ (i := 17) (N := (some 25)) (v := ?_) (a' := ?_) #[true, true, true, true, true, true, true, true, true, true, true, true, true, true, true, true, true, true, false, false] rfl rfl (by kernel_rfl) (fun _ _ _ h => h) (Or.inl ⟨by rfl, ?_⟩) ?_ ?_
  rotate_left
  · intro w'
    go_simp
    first | done | with_reducible rfl
  rotate_left
  · simp only [Act.put, List.setIfInBounds_toArray, List.set_cons_zero, List.set_cons_succ, i64_w, i32_w]
    rfl
  refine pure_ (i := 18) (N := (some 26)) (v := ?_) (a' := ?_) #[true, true, true, true, true, true, true, true, true, true, true, true, true, true, true, true, true, true, true, false] rfl rfl (by kernel_rfl) (fun _ _ _ h => h) (Or.inl ⟨by rfl, ?_⟩) ?_ ?_
  rotate_left
  · intro w'
    go_simp
    first | done | with_reducible rfl
  rotate_left
  · simp only [Act.put, List.setIfInBounds_toArray, List.set_cons_zero, List.set_cons_succ, i64_w, i32_w]
    rfl
  refine pure_ (i := 19) (N := (some 7)) (v := ?_) (a' := ?_) #[true, true, true, true, true, true, true, true, true, true, true, true, true, true, true, true, true, true, true, true] rfl rfl (by kernel_rfl) (fun _ _ _ h => h) (Or.inl ⟨by rfl, ?_⟩) ?_ ?_
  rotate_left
  · intro w'
    go_simp
    first | done | with_reducible rfl
  rotate_left
  · simp only [Act.put, List.setIfInBounds_toArray, List.set_cons_zero, List.set_cons_succ, i64_w, i32_w]
    rfl
  refine done_ (by kernel_rfl) ?_
  have OE := Aside0.mk (OD.out.step hHeld)
  have HF1 := Aside0.mk (HFD.out.below hHeld)
  have HR1 := Aside0.mk (Kd.C_below HRD.out hHeld)
  have i0 := (OE.out.cell 0 rfl 0).trans rfl
  have i1 := (OE.out.cell 0 rfl 1).trans rfl
  have i2 := (OE.out.cell 0 rfl 2).trans rfl
  clear OD HFD HRD hHeld b0 b1 b2 c0
  rw [HL4.out] at *
  go_wp2_with (first
    | (go_at_call 95; (with_reducible refine (HED.out _ HF1.out).mono ?_); rintro e wy ⟨rfl, hB⟩; have n1 := Aside0.mk (OE.out.step hB); have n2 := Aside0.mk (HF1.out.below hB); have n3 := Aside0.mk (Kd.C_below HR1.out hB); clear OE HF1 HR1 hB i0 i1 i2; have OE := n1; have HF1 := n2; have HR1 := n3; clear n1 n2 n3; have i1 := (OE.out.cell 0 rfl 1).trans rfl; have i2 := (OE.out.cell 0 rfl 2).trans rfl)
    | (go_at_call 99; (with_reducible refine (HTE.out _ HF1.out (Nat.le_trans HB.out OE.out.size) HR1.out).mono ?_); rintro e wz ⟨rfl, hI, hT⟩; have HI := Aside0.mk hI; have HT := Aside0.mk ((Turn.below OE.out.below).trans hT); clear hI hT i1 i2))
  go_ret
  exact ⟨rfl, HI.out, HT.out⟩
end Go.Proofs.Ytondnammkcgjpaa.Ft
namespace Go.Proofs.Ytondnammkcgjpaa.Ft
open Go Go.RowKit Go.Shelf Go.Proofs.YtondnammkcgjpaaW.PrintWords Go.Proofs.YtondnammkcgjpaaW.PrintLast Go.Proofs.YtondnammkcgjpaaW.PrintMore Go.Proofs.Ytondnammkcgjpaa.Mp
open Go.Proofs.Ytondnammkcgjpaa.ShaP Go.Proofs.Ytondnammkcgjpaa.Mk Go.Proofs.Ytondnammkcgjpaa.Rg Go.Proofs.Ytondnammkcgjpaa.RgP Go.Proofs.Ytondnammkcgjpaa.Rf Go.Proofs.Ytondnammkcgjpaa.RgL Go.Proofs.Ytondnammkcgjpaa.Til Go.Proofs.Ytondnammkcgjpaa.Fg Go.Proofs.Ytondnammkcgjpaa.Fun Go.Proofs.Ytondnammkcgjpaa.Rng
variable {base g gt gb : Nat} {s : FS} {w W : World}
theorem eqA24 (d : Nat) (w : World) (a b c e : Int) : (Op.equalIn (d + 2) 24 (.agg #[.int .i64 a, .int .i64 b]) (.agg #[.int .i64 c, .int .i64 e])).run Try.prog w = .ok (a == c && (b == e)) w := by
  refine eqA_of Try.underlying24 (by kernel_rfl) ?_
  refine eqf_cons (by rfl) (by go_simp; rfl) (by go_simp; rfl) (by go_simp) ?_
  exact eqf_last (by rfl) (by go_simp; rfl) (by go_simp; rfl) (by go_simp)
theorem eqA58 (d : Nat) (w : World) (p q : Bool) (a b c e : Int) : (Op.equalIn (d + 3) 58 (.agg #[.bool p, .int .i64 a, .int .i64 b]) (.agg #[.bool q, .int .i64 c, .int .i64 e])).run Try.prog w = .ok (p == q && (a == c && (b == e))) w := by
  refine eqA_of Try.underlying58 (by kernel_rfl) ?_
  refine eqf_cons (by rfl) (by first | (go_simp; done) | (go_simp; rfl)) (by first | (go_simp; done) | (go_simp; rfl)) (by go_simp) ?_
  exact eqf_last (by rfl) (by first | (go_simp; done) | (go_simp; rfl)) (by first | (go_simp; done) | (go_simp; rfl)) (eqA24 d w a b c e)
theorem neq_want (w : World) (p q : Bool) (a b c e : Int) : (binOp .neq 58 (.agg #[.bool p, .int .i64 a, .int .i64 b]) (.agg #[.bool q, .int .i64 c, .int .i64 e])).run Try.prog w = .ok (.bool (!(p == q && (a == c && (b == e))))) w := by
  simp only [binOp]
  simp [Op.equal, Op.maxDepth, eqA58 9997 w p q a b c e]
open Classical in
noncomputable def takeS (s : FS) (x : Want) (l : List ByteArray) : FS × Int :=
  if (l.length : Int) ≠ wdF s.size x.2.1 x.2.2 then (s, 2)
  else if x.1 = false ∧ all32 l = false then (s, 2)
  else if x.1 = true then (if okB s x.2 l then putB s x.2.2 l else s, if okB s x.2 l then 0 else 8)
  else if edB s.size x.2 = true then (if okE (putT s x.2 l) then putT s x.2 l else dropE (putT s x.2 l), if okE (putT s x.2 l) then 0 else 8)
  else (if okF s x.2.1.toNat x.2.2.toNat l then putT s x.2 l else s, if okF s x.2.1.toNat x.2.2.toNat l then 0 else 8)
theorem plan_w : ∀ n : Nat, n < 65 → ∀ x ∈ planF n, 0 < wdF n x.1 x.2 ∧ wdF n x.1 x.2 ≤ 4 := by decide +kernel
theorem wants_w (n : Nat) (hn : n ≤ 64) (x : Want) (hx : x ∈ wantsF n) : 0 < wdF n x.2.1 x.2.2 ∧ wdF n x.2.1 x.2.2 ≤ 4 := by
  have key : x.2 ∈ planF n := by
    unfold wantsF pickT pickB at hx
    simp only [List.mem_append, List.mem_map, List.mem_filter] at hx
    rcases hx with (⟨y, hy, rfl⟩ | ⟨y, hy, rfl⟩) | ⟨y, hy, rfl⟩ <;> exact hy.1
  exact plan_w n (by omega) _ key
theorem all32_A (l : List ByteArray) (h : all32 l = true) : A32 l := fun y hy => by
  have := List.all_eq_true.1 h y hy
  simpa using this
theorem take_c (x : Want) (hx : x ∈ wantsF s.size) (A : Option Addr) (c : Nat) (l : List ByteArray) (h : IsF base w g gt gb s) (hv : InvF s) (hb : base ≤ w.heap.size) (hmax : l.length ≤ maxLen) (hsz : ∀ y ∈ l, y.size ≤ 100000) (hc : l.length ≤ c) (hr : Kd.C Kd.string w A l.length l) :
    Calls Try.prog 71 #[.pointer (some ⟨g, 0, none⟩), .agg #[.bool x.1, .int .i64 x.2.1, .int .i64 x.2.2], .slice A l.length c] w fun e w' => e = .returned (.int .i64 (takeS s x l).2) ∧ IsF base w' g gt gb (takeS s x l).1 ∧ Turn (Foot g gt gb) w w' := by
  obtain ⟨b, x0, x1⟩ := x
  have hw := wants_w s.size h.sz _ hx
  have hbd := wants_b s.size h.sz _ hx
  simp only at hw hbd
  by_cases h1 : (l.length : Int) = wdF s.size x0 x1
  · have h0 : 0 < l.length := by omega
    have h4 : l.length ≤ 4 := by omega
    have w0 : wf x0 := wf_of (by omega) (by omega)
    have w1 : wf x1 := wf_of (by omega) (by omega)
    cases b with
    | true =>
      have e : takeS s (true, x0, x1) l = (if okB s (x0, x1) l then putB s x1 l else s, if okB s (x0, x1) l then 0 else 8) := by
        unfold takeS
        rw [if_neg (by simpa using h1), if_neg (by simp), if_pos rfl]
      rw [e]
      refine take_b x0 x1 A c l h hb hmax hr h1 ?_ h0 h4 hsz w0 w1
      unfold tileOf
      cases hq : s.tiles (x0, x1) with
      | none => exact Nat.zero_le _
      | some l' =>
        have := (hv.tl _ _ hq).1
        show l'.length ≤ l.length
        simp only at this
        omega
    | false =>
      cases h32 : all32 l with
      | false =>
        have e : takeS s (false, x0, x1) l = (s, 2) := by
          unfold takeS
          rw [if_neg (by simpa using h1), if_pos ⟨rfl, h32⟩]
        rw [e]
        exact take_bad x0 x1 A c l h hb hmax hr h1 h32
      | true =>
        cases he : edB s.size (x0, x1) with
        | true =>
          have e : takeS s (false, x0, x1) l = (if okE (putT s (x0, x1) l) then putT s (x0, x1) l else dropE (putT s (x0, x1) l), if okE (putT s (x0, x1) l) then 0 else 8) := by
            unfold takeS
            rw [if_neg (by simpa using h1), if_neg (by rw [h32]; simp), if_neg (by simp), if_pos he]
          rw [e]
          exact take_e x0 x1 A c l h hb hmax hr hv h1 h0 h4 (all32_A l h32) he w0 w1
        | false =>
          obtain ⟨k, rfl⟩ : ∃ k : Nat, x0 = k := ⟨x0.toNat, by omega⟩
          obtain ⟨i, rfl⟩ : ∃ i : Nat, x1 = i := ⟨x1.toNat, by omega⟩
          have e : takeS s (false, (k : Int), (i : Int)) l = (if okF s k i l then putT s ((k : Int), (i : Int)) l else s, if okF s k i l then 0 else 8) := by
            unfold takeS
            rw [if_neg (by simpa using h1), if_neg (by rw [h32]; simp), if_neg (by simp), if_neg (by rw [he]; simp)]
            rfl
          rw [e]
          have h44 : l.length = 4 := by
            unfold edB at he
            have := of_decide_eq_false he
            unfold wdF at h1
            simp only at this
            omega
          exact take_f k i A c l h hb hmax hr (by omega) (by omega) h1 h44 (by omega) (all32_A l h32) he
  · have e : takeS s (b, x0, x1) l = (s, 2) := by
      unfold takeS
      rw [if_pos h1]
    rw [e]
    exact take_width b x0 x1 A c l h hb hmax hr h1
open Classical in
noncomputable def takenS (s : FS) (x : Want) (l : List ByteArray) : FS × Int :=
  if nextF s = some x then (if (takeS s x l).2 = 0 then (⟨(takeS s x l).1.size, (takeS s x l).1.root, (takeS s x l).1.tiles, (takeS s x l).1.bund, (takeS s x l).1.asked + 1⟩, 0) else takeS s x l) else (s, 1)
theorem next_mem {x : Want} (h : nextF s = some x) : x ∈ wantsF s.size := List.mem_of_find?_eq_some h
end Go.Proofs.Ytondnammkcgjpaa.Ft
namespace Go.Proofs.Ytondnammkcgjpaa.Ft
open Go Go.RowKit Go.Shelf Go.Proofs.YtondnammkcgjpaaW.PrintWords Go.Proofs.YtondnammkcgjpaaW.PrintLast Go.Proofs.YtondnammkcgjpaaW.PrintMore Go.Proofs.Ytondnammkcgjpaa.Mp
open Go.Proofs.Ytondnammkcgjpaa.ShaP Go.Proofs.Ytondnammkcgjpaa.Mk Go.Proofs.Ytondnammkcgjpaa.Rg Go.Proofs.Ytondnammkcgjpaa.RgP Go.Proofs.Ytondnammkcgjpaa.Rf Go.Proofs.Ytondnammkcgjpaa.RgL Go.Proofs.Ytondnammkcgjpaa.Til Go.Proofs.Ytondnammkcgjpaa.Fg Go.Proofs.Ytondnammkcgjpaa.Fun Go.Proofs.Ytondnammkcgjpaa.Rng
variable {base g gt gb : Nat} {s : FS} {w W : World}
theorem Take_yes (x : Want) (A : Option Addr) (c : Nat) (l : List ByteArray) (h : IsF base w g gt gb s) (hv : InvF s) (hn : nextF s = some x) (hb : base ≤ w.heap.size) (hmax : l.length ≤ maxLen) (hsz : ∀ y ∈ l, y.size ≤ 100000) (hc : l.length ≤ c) (hr : Kd.C Kd.string w A l.length l) (has : 0 ≤ (takeS s x l).1.asked) (has2 : (takeS s x l).1.asked ≤ 1000000) :
    Calls Try.prog 40 #[.pointer (some ⟨g, 0, none⟩), .agg #[.bool x.1, .int .i64 x.2.1, .int .i64 x.2.2], .slice A l.length c] w fun e w' => e = .returned (.int .i64 (takenS s x l).2) ∧ IsF base w' g gt gb (takenS s x l).1 ∧ Turn (Foot g gt gb) w w' := by
  have OW := Aside0.mk (Mem.Own.nil w)
  have HF := Aside0.mk h
  have HR := Aside0.mk hr
  have HB := Aside0.mk hb
  have HNX := Aside0.mk (fun W (h : IsF base W g gt gb s) => next_c W h)
  have HTK := Aside0.mk (fun W (h : IsF base W g gt gb s) (hb : base ≤ W.heap.size) (hr : Kd.C Kd.string W A l.length l) => take_c x (next_mem hn) A c l h hv hb hmax hsz hc hr)
  have hT : takenS s x l = (if (takeS s x l).2 = 0 then (⟨(takeS s x l).1.size, (takeS s x l).1.root, (takeS s x l).1.tiles, (takeS s x l).1.bund, (takeS s x l).1.asked + 1⟩, 0) else takeS s x l) := if_pos hn
  have HT := Aside0.mk hT
  generalize takeS s x l = r at *
  generalize takenS s x l = r9 at *
  obtain ⟨b, x0, x1⟩ := x
  have HN := Aside0.mk hn
  clear h hn hr hb hv hsz hc hmax hT
  go_enter Try.func40, Try.ntmps40
  go_wp2_with (first
    | ((with_reducible refine gate_dst (N := 4) rfl ?_); refine box_event ?hg (N := 4) ?hd (cs := #[.bool b, .int .i64 x0, .int .i64 x1]) (t := 58) ?hr ?_; (case hd => rfl); (case hg => rfl); (case hr => first | (go_simp; done) | (go_simp; rfl)); intro gW hg W_ hb hbb; have n_ : Aside0 (Mem.Own w W_ [(gW, #[.bool b, .int .i64 x0, .int .i64 x1], 58)]) := ⟨OW.out.new hg hb hbb⟩; clear OW hb hbb hg; have OW := n_; clear n_))
  refine (HNX.out _ (HF.out.below OW.out.below)).mono ?_
  rintro e wz ⟨y, ok, rfl, hcs, hB⟩
  have n_ := Aside0.mk (OW.out.step hB)
  clear OW hB
  have OW := n_
  clear n_
  obtain ⟨b', y0, y1⟩ := y
  rcases hcs with ⟨hy, rfl⟩ | ⟨hy, _, _⟩
  · obtain ⟨rfl, rfl, rfl⟩ : b' = b ∧ y0 = x0 ∧ y1 = x1 := by
      have := HN.out.symm.trans hy
      simp at this
      exact ⟨this.1.symm, this.2.1.symm, this.2.2.symm⟩
    have hnw := fun W => neq_want W b' b' y0 y1 y0 y1
    have hne : (b' == b' && (y0 == y0 && (y1 == y1))) = true := by simp
    rw [hne] at hnw
    have hal : Below wz.heap.size wz (wz.alloc (.cells #[.bool b', .int .i64 y0, .int .i64 y1] 58)) := below_alloc (Below.refl _ _) _
    have j0 := pw_cell_below hal ((OW.out.cell 0 rfl 0).trans rfl)
    have j1 := pw_cell_below hal ((OW.out.cell 0 rfl 1).trans rfl)
    have j2 := pw_cell_below hal ((OW.out.cell 0 rfl 2).trans rfl)
    have hBl := below_step OW.out.below hal
    have HF1 := Aside0.mk (HF.out.below hBl)
    have HR1 := Aside0.mk (Kd.C_below HR.out hBl)
    have HBL := Aside0.mk hBl
    simp only [wcs]
    clear hy hne hal OW hBl
    go_wp2_with fail
    refine (HTK.out _ HF1.out (Nat.le_trans HB.out HBL.out.size) HR1.out).mono ?_
    rintro e wa ⟨rfl, hI, hTu⟩
    have HI := Aside0.mk hI
    have HTU := Aside0.mk ((Turn.below (P := Foot g gt gb) HBL.out).trans hTu)
    clear hI hTu j0 j1 j2 hnw HF1 HR1
    obtain ⟨r1, cd⟩ := r
    simp only at has has2 HI ⊢
    by_cases hz : cd = 0
    · subst hz
      have e9 := HT.out
      simp only [if_true] at e9
      have c4 : wa.cell? ⟨g, 76, none⟩ = some (.int .i64 r1.asked) := (HI.out.cell 4).trans rfl
      have y4 : wa.frozen? ⟨g, 76, none⟩ = false := blk_frozen HI.out.blk 76
      have HAS := Aside0.mk (HI.out.asks (r1.asked + 1))
      have hwr : wrap64 (r1.asked + 1) = r1.asked + 1 := by unfold wrap64; omega
      have E9 := Aside0.mk e9
      clear e9
      go_wp2_with fail
      go_ret
      rw [E9.out]
      exact ⟨rfl, HAS.out.1, HTU.out.trans HAS.out.2⟩
    · have e9 := HT.out
      simp only [if_neg hz] at e9
      have hzb : (cd == 0) = false := beq_eq_false_iff_ne.2 hz
      have E9 := Aside0.mk e9
      clear e9
      go_wp2_with fail
      go_ret
      rw [E9.out]
      exact ⟨rfl, HI.out, HTU.out⟩
  · exact absurd hy (by rw [HN.out]; simp)
theorem asked_c (h : IsF base w g gt gb s) : Calls Try.prog 41 #[.pointer (some ⟨g, 0, none⟩)] w fun e w' => e = .returned (.int .i64 s.asked) ∧ w' = w := by
  have c4 : w.cell? ⟨g, 76, none⟩ = some (.int .i64 s.asked) := (h.cell 4).trans rfl
  clear h
  go_enter Try.func41, Try.ntmps41
  go_wp2
  go_ret
  exact ⟨rfl, rfl⟩
def bundOf (s : FS) (k : Nat) : List ByteArray := (s.bund (k : Int)).getD []
def allK (s : FS) (k : Nat) : List ByteArray := (List.range k).flatMap (bundOf s)
theorem allK_succ (s : FS) (k : Nat) : allK s (k + 1) = allK s k ++ bundOf s k := by simp [allK, List.range_succ]
def nb (n : Nat) : Nat := (n + 3) / 4
theorem IsF.bund_at (h : IsF base w g gt gb s) (k : Nat) (w0 : wf (k : Int)) : (bundOf s k).length ≤ 4 ∧ ∃ A c, SR w base (.slice A (bundOf s k).length c) (bundOf s k) ∧
    ∀ W, Below w.heap.size w W → (Instr.lookup 112 (.map (some gb)) (.int .i64 (k : Int)) false).run Try.prog W = .ok (.slice A (bundOf s k).length c) W := by
  obtain ⟨kl, hkl⟩ := key3 w0
  obtain ⟨f, hm, hx⟩ := h.bn
  obtain ⟨q1, q2⟩ := hx (k : Int)
  cases hq : s.bund (k : Int) with
  | none =>
    have e : bundOf s k = [] := by unfold bundOf; rw [hq]; rfl
    rw [e]
    exact ⟨by simp, none, 0, Kd.R_nil _ _ _ _ _, fun W hB => look_s (hm.below' hB) K3 Try.underlying112 hkl (by show (f (inV k)).getD _ = _; rw [q1 hq]; rfl)⟩
  | some l =>
    have e : bundOf s k = l := by unfold bundOf; rw [hq]; rfl
    obtain ⟨v, hf, hr, _, h4⟩ := q2 l hq
    obtain ⟨A, c, rfl⟩ := Kd.R_slice hr
    rw [e]
    exact ⟨h4, A, c, hr, fun W hB => look_s (hm.below' hB) K3 Try.underlying112 hkl (by show (f (inV k)).getD _ = _; rw [hf]; rfl)⟩
theorem leaves_no (h : IsF base w g gt gb s) (hn : nextF s ≠ none) :
    Calls Try.prog 42 #[.pointer (some ⟨g, 0, none⟩)] w fun e w' => e = .returned (.tuple #[.slice none 0 0, .bool false]) ∧ Below w.heap.size w w' := by
  have HNX := Aside0.mk (next_c w h)
  have HN := Aside0.mk hn
  clear h hn
  go_enter Try.func42, Try.ntmps42
  go_wp2_with fail
  refine HNX.out.mono ?_
  rintro e wz ⟨y, ok, rfl, hcs, hB⟩
  rcases hcs with ⟨_, rfl⟩ | ⟨hy, _, _⟩
  · have HB := Aside0.mk hB
    simp only [wcs]
    clear hB
    go_wp2_with fail
    go_ret2
    exact ⟨rfl, below_alloc HB.out _⟩
  · exact absurd hy HN.out
theorem leaves_yes (h : IsF base w g gt gb s) (hn : nextF s = none) :
    Calls Try.prog 42 #[.pointer (some ⟨g, 0, none⟩)] w fun e w' => ∃ A c, e = .returned (.tuple #[.slice A (allK s (nb s.size)).length c, .bool true]) ∧ SR w' w.heap.size (.slice A (allK s (nb s.size)).length c) (allK s (nb s.size)) ∧ Below w.heap.size w w' := by
  have HF := Aside0.mk h
  have HNX := Aside0.mk (next_c w h)
  have HN := Aside0.mk hn
  have hsz := h.sz
  clear h hn
  go_enter Try.func42, Try.ntmps42
  go_wp2_with fail
  refine HNX.out.mono ?_
  rintro e wz ⟨y, ok, rfl, hcs, hB⟩
  rcases hcs with ⟨hy, _⟩ | ⟨_, rfl, rfl⟩
  · exact absurd hy (by rw [HN.out]; simp)
  · have HB := Aside0.mk (below_alloc hB (.cells #[.bool false, .int .i64 0, .int .i64 0] 58))
    simp only [wcs]
    clear hB HNX
    go_wp2_with fail
    generalize wz.alloc (.cells #[.bool false, .int .i64 0, .int .i64 0] 58) = wy at *
    have hsi : (s.size : Int) ≤ 64 := by omega
    go_loopw [6, 7] (fun v6 v7 wr => ∃ (k o : Nat) (A3 : Option Addr) (c3 : Nat), v7 = .int .i64 k ∧ v6 = .slice A3 o c3 ∧ k ≤ nb s.size ∧ o ≤ 4 * k ∧ Aside0 (SR wr w.heap.size (.slice A3 o c3) (allK s k)) ∧ Aside0 (Below w.heap.size w wr)) (fun _ v7 _ => 64 - (intOf v7).toNat)
    case atStart => exact ⟨0, 0, none, 0, rfl, rfl, Nat.zero_le _, Nat.zero_le _, ⟨Kd.R_nil _ _ _ _ _⟩, HB⟩
    case round =>
      clear HB
      obtain ⟨k, o, A3, c3, rfl, rfl, hk, ho, HO, HB⟩ := hrel
      have hk16 : k ≤ 16 := by unfold nb at hk; omega
      have hk4 : wrap64 ((k : Int) * 4) = (k : Int) * 4 := by unfold wrap64; omega
      have hk5 : IntKind.i64.wrap ((k : Int) * 4) = (k : Int) * 4 := by rw [IntKind.wrap_i64]; omega
      have c0 : wr.cell? ⟨g, 72, none⟩ = some (.int .i64 s.size) := ((HF.out.below HB.out).cell 0).trans rfl
      have c3' : wr.cell? ⟨g, 75, none⟩ = some (.map (some gb)) := ((HF.out.below HB.out).cell 3).trans rfl
      by_cases h1 : 4 * k < s.size
      · have h1i : (k : Int) * 4 < (s.size : Int) := by omega
        have hk1 : k + 1 ≤ nb s.size := by unfold nb; omega
        obtain ⟨hb4, A, c, hrb, hlk⟩ := HF.out.bund_at k (wf_of (by omega) (by omega))
        have hl := hlk wr HB.out
        have HAK := Aside0.mk (allK_succ s k)
        have HRB := Aside0.mk ((Kd.R_reads' hrb).2.2)
        have HLO := Aside0.mk ((Kd.R_reads' HO.out).1)
        generalize bundOf s k = T at *
        generalize allK s k = ol at *
        have HI1 := Aside0.mk (show k + 1 ≤ nb s.size ∧ k ≤ 16 ∧ o ≤ 4 * k ∧ T.length ≤ 4 from ⟨hk1, hk16, ho, hb4⟩)
        clear hlk hrb hk1 hk hb4 h1 ho hk16
        go_wp2_with (first
          | ((with_reducible refine gate_builtin (b := .append) (xs := #[.tmp 23, .tmp 29]) rfl ?_); at_builtin; refine Kd.R_append_row (P := Try.prog) Value.string (⟨#[]⟩ : ByteArray) (w0 := w) w.heap.size rfl (.tmp 23) (.tmp 29) 22 9 (.string ⟨#[]⟩) 16 rfl Try.underlying22 info_str rfl (by decide) (.slice A3 o c3) ol T A T.length c (fun _ => True) rfl rfl (fun _ _ => trivial) HO.out (Kd.C_below HRB.out HB.out) HB.out HB.out.size (by have := HI1.out; have := HLO.out; omega) ?_; intro v2 w2 hr2 hb2 hg2 hat2; obtain ⟨A5, c5, e5⟩ := Kd.R_slice hr2; have e6 : (ol ++ T).length = o + T.length := (by rw [List.length_append, HLO.out]); rw [e6] at e5; subst e5; have HR2 := Aside0.mk hr2; have HB2 := Aside0.mk hb2; clear hr2 hb2 hg2 hat2 e6 c0 c3' hl))
        go_roundw
        case rel => exact ⟨k + 1, o + T.length, A5, c5, by go_num, rfl, HI1.out.1, by have := HI1.out; omega, by rw [HAK.out]; exact HR2, HB2⟩
        case measure => have := HI1.out; simp [intOf]; omega
      · have h1i : ¬ (k : Int) * 4 < (s.size : Int) := by omega
        have hkn : k = nb s.size := by unfold nb at hk ⊢; omega
        have HKN := Aside0.mk hkn
        have hlo := (Kd.R_reads' HO.out).1
        have HLO := Aside0.mk hlo
        clear hlo hkn hk ho h1
        go_wp2_with fail
        go_ret2
        rw [← HKN.out]
        have hR := HO.out
        rw [HLO.out] at hR ⊢
        exact ⟨_, _, rfl, hR, HB.out⟩
end Go.Proofs.Ytondnammkcgjpaa.Ft
namespace Go.Proofs.Ytondnammkcgjpaa.Ft
open Go Go.RowKit Go.Shelf Go.Proofs.YtondnammkcgjpaaW.PrintWords
open Go.Proofs.Ytondnammkcgjpaa.ShaP Go.Proofs.Ytondnammkcgjpaa.Mk Go.Proofs.Ytondnammkcgjpaa.Rg Go.Proofs.Ytondnammkcgjpaa.RgP Go.Proofs.Ytondnammkcgjpaa.Rf Go.Proofs.Ytondnammkcgjpaa.RgL Go.Proofs.Ytondnammkcgjpaa.Til Go.Proofs.Ytondnammkcgjpaa.Fg Go.Proofs.Ytondnammkcgjpaa.Rng
theorem rootF_lev (L : List ByteArray) (hl : L.length ≤ 64) : ∀ (k m a : Nat), m + 2 * k < 8 → (a + 2 ^ m) * 4 ^ k ≤ L.length → rootF (seg (levF k L) a (2 ^ m)) = rootF (seg L (a * 4 ^ k) (2 ^ m * 4 ^ k))
  | 0, m, a, _, h => by rw [levF, Nat.pow_zero, Nat.mul_one, Nat.mul_one]
  | k + 1, m, a, hm, h => by
    have hp : 4 ^ (k + 1) = 4 * 4 ^ k := by rw [Nat.pow_succ, Nat.mul_comm]
    rw [hp] at h
    have h2 : (4 * a + 4 * 2 ^ m) * 4 ^ k ≤ L.length := by
      rw [← Nat.mul_add, Nat.mul_assoc, Nat.mul_comm 4, Nat.mul_assoc, Nat.mul_comm (4 ^ k) 4]
      exact h
    have hp0 : 0 < 4 ^ k := Nat.pow_pos (by omega)
    have hlen : 4 * a + 4 * 2 ^ m ≤ (levF k L).length := by
      rw [lev_len]
      exact (Nat.le_div_iff_mul_le hp0).2 h2
    have h64 : (levF k L).length ≤ 64 := by rw [lev_len]; exact Nat.le_trans (Nat.div_le_self _ _) hl
    have hm6 : m < 6 := by
      rcases Nat.lt_or_ge m 6 with h' | h'
      · exact h'
      · exfalso
        have : 2 ^ 6 ≤ 2 ^ m := Nat.pow_le_pow_right (by omega) h'
        omega
    rw [lev_up, rootF_up (levF k L) h64 m a hm6 hlen]
    have e2 : 4 * 2 ^ m = 2 ^ (m + 2) := by rw [Nat.pow_add]; omega
    rw [e2]
    rw [e2] at h2
    rw [rootF_lev L hl k (m + 2) (4 * a) (by omega) h2]
    congr 2
    · rw [hp, Nat.mul_comm 4 a, Nat.mul_assoc]
    · rw [hp, Nat.pow_add, Nat.mul_assoc]
def offs : Nat → List Nat → List (Nat × Nat)
  | _, [] => []
  | a, p :: r => (a, p) :: offs (a + p) r
theorem ofB_offs (l : List ByteArray) : ∀ (ps : List Nat) (a : Nat), ofB l a ps = (offs a ps).map fun x => rootF (seg l x.1 x.2)
  | [], _ => rfl
  | p :: ps, a => by rw [ofB, offs, List.map_cons, ofB_offs l ps]; rfl
def offE (n : Nat) : List (Nat × Nat) := (edgeF wdF n).flatMap fun x => (offs 0 (pn (inTile x.2 (cntv n x.1)).toNat)).map fun y => ((4 * x.2.toNat + y.1) * 4 ^ x.1.toNat, y.2 * 4 ^ x.1.toNat)
theorem off_eq : ∀ n : Nat, n < 65 → offs 0 (pn n) = offE n := by decide +kernel
theorem off_in : ∀ n : Nat, n < 65 → ∀ x ∈ edgeF wdF n, ∀ y ∈ offs 0 (pn (inTile x.2 (cntv n x.1)).toNat), (y.2 = 2 ^ 0 ∨ y.2 = 2 ^ 1) ∧ y.1 + y.2 ≤ (inTile x.2 (cntv n x.1)).toNat := by decide +kernel
theorem edge_fit : ∀ n : Nat, n < 65 → ∀ x ∈ edgeF wdF n, 0 ≤ x.1 ∧ x.1 ≤ 3 ∧ 0 ≤ x.2 ∧ 4 * x.2.toNat + (inTile x.2 (cntv n x.1)).toNat ≤ n / 4 ^ x.1.toNat := by decide +kernel
theorem seg_seg (l : List ByteArray) (a n b m : Nat) (h : b + m ≤ n) : seg (seg l a n) b m = seg l (a + b) m := by
  unfold seg
  rw [List.take_drop, List.drop_drop, List.take_take]
  congr 2
  omega
theorem flatMap_same {α β : Type} {l : List α} {f g : α → List β} (h : ∀ x ∈ l, f x = g x) : l.flatMap f = l.flatMap g := by
  induction l with
  | nil => rfl
  | cons x l ih => rw [List.flatMap_cons, List.flatMap_cons, h x (by simp), ih (fun y hy => h y (by simp [hy]))]
theorem stretch_eq (L : List ByteArray) (hl : L.length ≤ 64) (x : Int × Int) (hx : x ∈ edgeF wdF L.length) (y : Nat × Nat) (hy : y ∈ offs 0 (pn (inTile x.2 (cntv L.length x.1)).toNat)) :
    rootF (seg (seg (levF x.1.toNat L) (4 * x.2.toNat) (inTile x.2 (cntv L.length x.1)).toNat) y.1 y.2) = rootF (seg L ((4 * x.2.toNat + y.1) * 4 ^ x.1.toNat) (y.2 * 4 ^ x.1.toNat)) := by
  have hfit := edge_fit L.length (by omega) x hx
  obtain ⟨h2, h3⟩ := off_in L.length (by omega) x hx y hy
  rw [seg_seg _ _ _ _ _ h3]
  have hk : x.1.toNat ≤ 3 := by omega
  have hf := hfit.2.2.2
  clear hfit hx hy
  generalize inTile x.2 (cntv L.length x.1) = q at *
  generalize x.1.toNat = k at *
  generalize x.2.toNat = i at *
  obtain ⟨a, b⟩ := y
  simp only at h2 h3 ⊢
  have hab : 4 * i + a + b ≤ L.length / 4 ^ k := by omega
  have hle : (4 * i + a + b) * 4 ^ k ≤ L.length := Nat.le_trans (Nat.mul_le_mul_right _ hab) (Nat.div_mul_le_self _ _)
  rcases h2 with rfl | rfl
  · exact rootF_lev L hl k 0 _ (by omega) hle
  · exact rootF_lev L hl k 1 _ (by omega) hle
theorem ofF_tile (L : List ByteArray) (hl : L.length ≤ 64) (x : Int × Int) (hx : x ∈ edgeF wdF L.length) :
    ofF (seg (levF x.1.toNat L) (4 * x.2.toNat) (inTile x.2 (cntv L.length x.1)).toNat) = (offs 0 (pn (inTile x.2 (cntv L.length x.1)).toNat)).map fun y => rootF (seg L ((4 * x.2.toNat + y.1) * 4 ^ x.1.toNat) (y.2 * 4 ^ x.1.toNat)) := by
  have hfit := edge_fit L.length (by omega) x hx
  have hlen : (seg (levF x.1.toNat L) (4 * x.2.toNat) (inTile x.2 (cntv L.length x.1)).toNat).length = (inTile x.2 (cntv L.length x.1)).toNat := seg_len _ _ _ (by rw [lev_len]; exact hfit.2.2.2)
  rw [ofF_B, hlen, ofB_offs]
  exact List.map_congr_left fun y hy => stretch_eq L hl x hx y hy
theorem root_edge (L : List ByteArray) (f : Int × Int → List ByteArray) (hl : L.length ≤ 64) (hf : ∀ x ∈ edgeF wdF L.length, f x = seg (levF x.1.toNat L) (4 * x.2.toNat) (inTile x.2 (cntv L.length x.1)).toNat) :
    rootR (accF ((edgeF wdF L.length).map f)) = rootF L := by
  have h1 : accF ((edgeF wdF L.length).map f) = (edgeF wdF L.length).flatMap fun x => (offs 0 (pn (inTile x.2 (cntv L.length x.1)).toNat)).map fun y => rootF (seg L ((4 * x.2.toNat + y.1) * 4 ^ x.1.toNat) (y.2 * 4 ^ x.1.toNat)) := by
    unfold accF
    rw [List.flatMap_map]
    exact flatMap_same fun x hx => by rw [hf x hx, ofF_tile L hl x hx]
  have h2 : ofF L = (edgeF wdF L.length).flatMap fun x => (offs 0 (pn (inTile x.2 (cntv L.length x.1)).toNat)).map fun y => rootF (seg L ((4 * x.2.toNat + y.1) * 4 ^ x.1.toNat) (y.2 * 4 ^ x.1.toNat)) := by
    rw [ofF_B, ofB_offs, off_eq L.length (by omega)]
    unfold offE
    rw [List.map_flatMap]
    exact flatMap_same fun x hx => by rw [List.map_map]; rfl
  rw [h1, ← h2]
  exact root_of 200 L (by omega) (by omega)
theorem in_plan0 : ((List.range 65).all fun n => (List.range 4).all fun k => (List.range 17).all fun i => decide (inTile (i : Int) (cntv (n : Int) (k : Int)) ≤ 0) || (planF (n : Int)).contains ((k : Int), (i : Int))) = true := by decide +kernel
theorem in_plan (n : Nat) (hn : n < 65) (k : Nat) (hk : k < 4) (i : Nat) (hi : i < 17) : inTile (i : Int) (cntv n k) ≤ 0 ∨ ((k : Int), (i : Int)) ∈ planF n := by
  have h1 := List.all_eq_true.1 in_plan0 n (List.mem_range.2 hn)
  have h2 := List.all_eq_true.1 h1 k (List.mem_range.2 hk)
  have h3 := List.all_eq_true.1 h2 i (List.mem_range.2 hi)
  rcases Bool.or_eq_true_iff.1 h3 with h | h
  · exact .inl (of_decide_eq_true h)
  · exact .inr (by simpa using h)
def LV (s : FS) (k : Nat) : List ByteArray := (List.range (s.size / 4 ^ k)).map fun j => ((tileOf s ((k : Int), ((j / 4 : Nat) : Int)))[j % 4]?).getD ByteArray.empty
theorem LV_len (s : FS) (k : Nat) : (LV s k).length = s.size / 4 ^ k := by unfold LV; rw [List.length_map, List.length_range]
theorem LV_get (s : FS) (k j : Nat) (h : j < s.size / 4 ^ k) : (LV s k)[j]? = some (((tileOf s ((k : Int), ((j / 4 : Nat) : Int)))[j % 4]?).getD ByteArray.empty) := by
  unfold LV
  rw [List.getElem?_map, List.getElem?_range h]
  rfl
def tw (n k i : Nat) : Nat := min 4 (n / 4 ^ k - 4 * i)
theorem tw_in (n k i : Nat) (hn : n ≤ 64) (hk : k < 4) : inTile (i : Int) (cntv n k) = (tw n k i : Int) := by
  rw [cnt_pow n (by omega) k hk]
  unfold inTile tw
  rw [if_neg (by omega)]
  generalize n / 4 ^ k = c
  omega
structure Full (s : FS) : Prop where
  sz : s.size ≤ 64
  inv : InvF s
  all : ∀ x ∈ planF s.size, (s.tiles x).isSome = true
  up : ∀ k i : Nat, k < 4 → tw s.size k i = 4 → okF s k i (tileOf s ((k : Int), (i : Int))) = true
  bn : ∀ i : Nat, 4 * i < s.size → ∃ l, s.bund (i : Int) = some l ∧ okB s (0, (i : Int)) l = true
variable {s : FS}
theorem quo_le (n k : Nat) (hn : n ≤ 64) : n / 4 ^ k ≤ 64 := Nat.le_trans (Nat.div_le_self _ _) hn
theorem Full.len (h : Full s) (k i : Nat) (hk : k < 4) (hp : 0 < tw s.size k i) : (tileOf s ((k : Int), (i : Int))).length = tw s.size k i := by
  have hi : i < 17 := by
    have := quo_le s.size k h.sz
    unfold tw at hp
    omega
  have hm : ((k : Int), (i : Int)) ∈ planF s.size := (in_plan s.size (by have := h.sz; omega) k hk i hi).resolve_left (by rw [tw_in s.size k i h.sz hk]; omega)
  have h1 := h.all _ hm
  cases hq : s.tiles ((k : Int), (i : Int)) with
  | none => rw [hq] at h1; cases h1
  | some l =>
    have e : tileOf s ((k : Int), (i : Int)) = l := by unfold tileOf; rw [hq]; rfl
    rw [e]
    have h2 := (h.inv.tl _ _ hq).1
    unfold wdF at h2
    simp only at h2
    rw [tw_in s.size k i h.sz hk] at h2
    omega
theorem Full.seg (h : Full s) (k i : Nat) (hk : k < 4) (hp : 0 < tw s.size k i) : tileOf s ((k : Int), (i : Int)) = Til.seg (LV s k) (4 * i) (tw s.size k i) := by
  have hl := h.len k i hk hp
  have hfit : 4 * i + tw s.size k i ≤ (LV s k).length := by rw [LV_len]; unfold tw at hp ⊢; omega
  have hsl := seg_len (LV s k) (4 * i) (tw s.size k i) hfit
  have hm4 : tw s.size k i ≤ 4 := by unfold tw; omega
  refine List.ext_getElem? fun t => ?_
  by_cases ht : t < tw s.size k i
  · unfold Til.seg
    rw [List.getElem?_drop, List.getElem?_take, if_pos (by omega), LV_get s k (4 * i + t) (by rw [LV_len] at hfit; omega)]
    have e1 : (4 * i + t) / 4 = i := by omega
    have e2 : (4 * i + t) % 4 = t := by omega
    rw [e1, e2, List.getElem?_eq_getElem (by omega)]
    rfl
  · rw [List.getElem?_eq_none (by omega), List.getElem?_eq_none (by omega)]
theorem Full.lv_up (h : Full s) (k : Nat) (hk : k < 3) : LV s (k + 1) = upF (LV s k) := by
  have hq : s.size / 4 ^ (k + 1) = s.size / 4 ^ k / 4 := by rw [Nat.pow_succ, Nat.div_div_eq_div_mul]
  refine List.ext_getElem? fun j => ?_
  by_cases hj : j < s.size / 4 ^ (k + 1)
  · have h4 : 4 * j + 4 ≤ (LV s k).length := by rw [LV_len]; omega
    have ht : tw s.size k j = 4 := by rw [LV_len] at h4; unfold tw; omega
    rw [LV_get s (k + 1) j hj, upF_get (LV s k) j h4]
    have h1 := h.seg k j (by omega) (by omega)
    rw [ht] at h1
    have h2 := of_decide_eq_true (h.up k j (by omega) ht)
    rw [h1] at h2
    show some (((tileOf s (((k : Int) + 1), ((j / 4 : Nat) : Int)))[j % 4]?).getD ByteArray.empty) = _
    rw [h2]
    rfl
  · rw [List.getElem?_eq_none (by rw [LV_len]; omega), List.getElem?_eq_none (by rw [upF_length, LV_len]; omega)]
theorem Full.lv_lev (h : Full s) : ∀ k : Nat, k < 4 → LV s k = levF k (LV s 0)
  | 0, _ => rfl
  | k + 1, hk => by rw [h.lv_up k (by omega), h.lv_lev k (by omega), lev_up]
theorem LV0_len (s : FS) : (LV s 0).length = s.size := by rw [LV_len, Nat.pow_zero, Nat.div_one]
theorem edge_pos : ∀ n : Nat, n < 65 → ∀ x ∈ edgeF wdF n, 0 < inTile x.2 (cntv n x.1) := by decide +kernel
theorem edge_nat (n : Nat) (hn : n ≤ 64) (x : Int × Int) (hx : x ∈ edgeF wdF n) : ∃ k i : Nat, k < 4 ∧ x = ((k : Int), (i : Int)) ∧ 0 < tw n k i := by
  obtain ⟨a, b⟩ := x
  have h1 := edge_in n (by omega) _ hx
  have h2 := edge_pos n (by omega) _ hx
  simp only at h1 h2
  obtain ⟨k, rfl⟩ : ∃ k : Nat, a = k := ⟨a.toNat, by omega⟩
  obtain ⟨i, rfl⟩ : ∃ i : Nat, b = i := ⟨b.toNat, by omega⟩
  refine ⟨k, i, by omega, rfl, ?_⟩
  rw [tw_in n k i hn (by omega)] at h2
  omega
theorem Full.root (h : Full s) : rootE s = rootF (LV s 0) := by
  have hl := LV0_len s
  have h64 := h.sz
  have h1 := root_edge (LV s 0) (tileOf s) (by omega) (fun x hx => by
    rw [hl] at hx ⊢
    obtain ⟨k, i, hk, rfl, hp⟩ := edge_nat s.size (by omega) x hx
    simp only [Int.toNat_natCast]
    rw [tw_in s.size k i h64 hk, Int.toNat_natCast, ← h.lv_lev k hk]
    exact h.seg k i hk hp)
  rw [hl] at h1
  exact h1
theorem leavesF_app (a b : List ByteArray) : leavesF (a ++ b) = leavesF a ++ leavesF b := by unfold leavesF; rw [List.map_append]
theorem Full.bund (h : Full s) (i : Nat) (hi : 4 * i < s.size) : leavesF (bundOf s i) = Til.seg (LV s 0) (4 * i) (tw s.size 0 i) := by
  obtain ⟨l, hl, hok⟩ := h.bn i hi
  have hp : 0 < tw s.size 0 i := by unfold tw; rw [Nat.pow_zero, Nat.div_one]; omega
  have e : bundOf s i = l := by unfold bundOf; rw [hl]; rfl
  have h1 := of_decide_eq_true hok
  have h2 := h.inv.bn _ _ hl
  unfold wdF at h2
  have h3 := tw_in s.size 0 i h.sz (by omega)
  rw [show ((0 : Nat) : Int) = 0 from rfl] at h3
  rw [h3] at h2
  have h4 := h.len 0 i (by omega) hp
  rw [show ((0 : Nat) : Int) = 0 from rfl] at h4
  have h5 := h.seg 0 i (by omega) hp
  rw [show ((0 : Nat) : Int) = 0 from rfl] at h5
  rw [e, ← h5]
  rw [h4, List.take_of_length_le (by rw [List.length_map]; omega)] at h1
  exact h1
theorem Full.leaves (h : Full s) : ∀ k : Nat, k ≤ nb s.size → leavesF (allK s k) = (LV s 0).take (4 * k)
  | 0, _ => rfl
  | k + 1, hk => by
    have hlt : 4 * k < s.size := by unfold nb at hk; omega
    rw [allK_succ, leavesF_app, h.leaves k (by omega), h.bund k hlt]
    unfold Til.seg tw
    rw [Nat.pow_zero, Nat.div_one]
    have hl := LV0_len s
    generalize LV s 0 = X at *
    have e : X.take (4 * (k + 1)) = X.take (4 * k + min 4 (s.size - 4 * k)) := by
      rcases Nat.lt_or_ge (s.size - 4 * k) 4 with h5 | h5
      · rw [List.take_of_length_le (by omega), List.take_of_length_le (by omega)]
      · rw [show 4 * (k + 1) = 4 * k + min 4 (s.size - 4 * k) by omega]
    rw [e]
    have := List.take_append_drop (4 * k) (X.take (4 * k + min 4 (s.size - 4 * k)))
    rw [List.take_take, Nat.min_eq_left (by omega)] at this
    exact this
theorem Full.sound (h : Full s) : (allK s (nb s.size)).length = s.size ∧ rootF (leavesF (allK s (nb s.size))) = rootE s := by
  have h1 := h.leaves (nb s.size) (Nat.le_refl _)
  have hl := LV0_len s
  rw [List.take_of_length_le (by unfold nb; omega)] at h1
  refine ⟨?_, by rw [h1, h.root]⟩
  have := congrArg List.length h1
  unfold leavesF at this
  rw [List.length_map] at this
  omega
end Go.Proofs.Ytondnammkcgjpaa.Ft
namespace Go.Proofs.Ytondnammkcgjpaa.Ft
open Go Go.RowKit Go.Shelf Go.Proofs.YtondnammkcgjpaaW.PrintWords
open Go.Proofs.Ytondnammkcgjpaa.ShaP Go.Proofs.Ytondnammkcgjpaa.Mk Go.Proofs.Ytondnammkcgjpaa.Rg Go.Proofs.Ytondnammkcgjpaa.RgP Go.Proofs.Ytondnammkcgjpaa.Rf Go.Proofs.Ytondnammkcgjpaa.RgL Go.Proofs.Ytondnammkcgjpaa.Til Go.Proofs.Ytondnammkcgjpaa.Fg Go.Proofs.Ytondnammkcgjpaa.Rng
structure Snd (s : FS) : Prop where
  sz : s.size ≤ 64
  inv : InvF s
  edge : haveE s = true → rootE s = s.root
  full : ∀ k i : Nat, k < 4 → tw s.size k i = 4 → (s.tiles ((k : Int), (i : Int))).isSome = true → haveE s = true ∧ okF s k i (tileOf s ((k : Int), (i : Int))) = true
  bund : ∀ i : Nat, ∀ l, s.bund (i : Int) = some l → (∀ x ∈ planF s.size, (s.tiles x).isSome = true) ∧ okB s (0, (i : Int)) l = true
variable {s : FS} {x : Want} {l : List ByteArray}
theorem find_left {α : Type} {A B : List α} {p : α → Bool} {x : α} (h : (A ++ B).find? p = some x) (hx : x ∉ A) : A.find? p = none := by
  rw [List.find?_append] at h
  cases hA : A.find? p with
  | none => rfl
  | some y =>
    rw [hA] at h
    have e : y = x := by simpa using h
    exact absurd (e ▸ List.mem_of_find?_eq_some hA) hx
theorem next_not (h : nextF s = some x) : hasF s x = false := by
  have := List.find?_some h
  simpa using this
theorem mem_pickT {n : Nat} {e : Bool} {l : List (Int × Int)} {x : Want} : x ∈ pickT n e l ↔ x.1 = false ∧ x.2 ∈ l ∧ edB n x.2 = e := by
  unfold pickT
  simp only [List.mem_map, List.mem_filter]
  constructor
  · rintro ⟨y, ⟨h1, h2⟩, rfl⟩
    exact ⟨rfl, h1, by simpa using h2⟩
  · rintro ⟨h1, h2, h3⟩
    obtain ⟨b, y⟩ := x
    simp only at h1 h2 h3
    subst h1
    exact ⟨y, ⟨h2, by simpa using h3⟩, rfl⟩
theorem mem_pickB {l : List (Int × Int)} {x : Want} : x ∈ pickB l ↔ x.1 = true ∧ x.2 ∈ l ∧ x.2.1 = 0 := by
  unfold pickB
  simp only [List.mem_map, List.mem_filter]
  constructor
  · rintro ⟨y, ⟨h1, h2⟩, rfl⟩
    exact ⟨rfl, h1, by simpa using h2⟩
  · rintro ⟨h1, h2, h3⟩
    obtain ⟨b, y⟩ := x
    simp only at h1 h2 h3
    subst h1
    exact ⟨y, ⟨h2, by simpa using h3⟩, rfl⟩
theorem mem_edge {n : Nat} {y : Int × Int} : y ∈ edgeF wdF n ↔ y ∈ planF n ∧ edB n y = true := by rw [edF_eq, List.mem_filter]
theorem haveE_iff : haveE s = true ↔ ∀ y ∈ edgeF wdF s.size, (s.tiles y).isSome = true := by unfold haveE; exact List.all_eq_true
theorem next_full {y : Int × Int} (h : nextF s = some (false, y)) (he : edB s.size y = false) : haveE s = true := by
  unfold nextF wantsF at h
  rw [List.append_assoc] at h
  have h1 := find_left h (fun hm => by have := (mem_pickT.1 hm).2.2; rw [he] at this; cases this)
  rw [haveE_iff]
  intro z hz
  have h2 := List.find?_eq_none.1 h1 (false, z) (mem_pickT.2 ⟨rfl, (mem_edge.1 hz).1, (mem_edge.1 hz).2⟩)
  unfold hasF at h2
  cases hq : s.tiles z with
  | none => rw [hq] at h2; exact absurd rfl h2
  | some q => rfl
theorem next_bund {y : Int × Int} (h : nextF s = some (true, y)) : ∀ z ∈ planF s.size, (s.tiles z).isSome = true := by
  unfold nextF wantsF at h
  have h1 := find_left h (fun hm => by
    rcases List.mem_append.1 hm with h | h <;> exact absurd (mem_pickT.1 h).1 (by simp))
  intro z hz
  have h2 := List.find?_eq_none.1 h1 (false, z) (List.mem_append.2 (by
    cases he : edB s.size z with
    | true => exact .inl (mem_pickT.2 ⟨rfl, hz, he⟩)
    | false => exact .inr (mem_pickT.2 ⟨rfl, hz, he⟩)))
  unfold hasF at h2
  cases hq : s.tiles z with
  | none => rw [hq] at h2; exact absurd rfl h2
  | some q => rfl
theorem next_plan (h : nextF s = some x) : x.2 ∈ planF s.size ∧ (x.1 = true → x.2.1 = 0) := by
  have hm := next_mem h
  unfold wantsF at hm
  rcases List.mem_append.1 hm with hm | hm
  · rcases List.mem_append.1 hm with hm | hm
    · exact ⟨(mem_pickT.1 hm).2.1, fun e => by rw [(mem_pickT.1 hm).1] at e; cases e⟩
    · exact ⟨(mem_pickT.1 hm).2.1, fun e => by rw [(mem_pickT.1 hm).1] at e; cases e⟩
  · exact ⟨(mem_pickB.1 hm).2.1, fun _ => (mem_pickB.1 hm).2.2⟩
theorem drops_tiles (l : List (Int × Int)) : ∀ (s : FS) (z : Int × Int), (l.foldl dropT s).tiles z = if z ∈ l then none else s.tiles z := by
  induction l with
  | nil => intro s z; simp
  | cons y l ih =>
    intro s z
    rw [List.foldl_cons, ih]
    by_cases h1 : z ∈ l
    · rw [if_pos h1, if_pos (by simp [h1])]
    · rw [if_neg h1]
      by_cases h2 : z = y
      · subst h2
        rw [if_pos (by simp)]
        exact upd_self _ _ _
      · rw [if_neg (by simp [h1, h2])]
        exact upd_ne _ _ h2
theorem drops_bund (l : List (Int × Int)) : ∀ s : FS, (l.foldl dropT s).bund = s.bund := by
  induction l with
  | nil => intro s; rfl
  | cons y l ih => intro s; rw [List.foldl_cons, ih]; rfl
theorem drops_root (l : List (Int × Int)) : ∀ s : FS, (l.foldl dropT s).root = s.root := by
  induction l with
  | nil => intro s; rfl
  | cons y l ih => intro s; rw [List.foldl_cons, ih]; rfl
theorem putT_self (s : FS) (y : Int × Int) (l : List ByteArray) : (putT s y l).tiles y = some l := upd_self _ _ _
theorem putT_ne (s : FS) {y z : Int × Int} (l : List ByteArray) (h : z ≠ y) : (putT s y l).tiles z = s.tiles z := upd_ne _ _ h
theorem tileOf_ne (s : FS) {y z : Int × Int} (l : List ByteArray) (h : z ≠ y) : tileOf (putT s y l) z = tileOf s z := by unfold tileOf; rw [putT_ne s l h]
theorem tw_edB {n k i : Nat} (hn : n ≤ 64) (hk : k < 4) (h : tw n k i = 4) : edB n ((k : Int), (i : Int)) = false := by
  unfold edB
  have := tw_in n k i hn hk
  simp only
  rw [this, h]
  rfl
theorem Snd.take (h : Snd s) (hx : nextF s = some x) (l : List ByteArray) : Snd (takeS s x l).1 := by
  have hnot := next_not hx
  have hpl := next_plan hx
  unfold takeS
  by_cases h1 : (l.length : Int) ≠ wdF s.size x.2.1 x.2.2
  · rw [if_pos h1]; exact h
  rw [if_neg h1]
  have hlw : (l.length : Int) = wdF s.size x.2.1 x.2.2 := Decidable.byContradiction h1
  by_cases h2 : x.1 = false ∧ all32 l = false
  · rw [if_pos h2]; exact h
  rw [if_neg h2]
  obtain ⟨b, y⟩ := x
  cases b with
  | true =>
    rw [if_pos rfl]
    show Snd (if okB s y l then putB s y.2 l else s)
    have hy0 : y = (0, y.2) := Prod.ext (hpl.2 rfl) rfl
    cases hok : okB s y l with
    | false => exact h
    | true =>
      show Snd (putB s y.2 l)
      have hall := next_bund hx
      refine ⟨h.sz, ⟨h.inv.tl, fun k l' hk => ?_⟩, h.edge, h.full, fun i l' hi => ?_⟩
      · by_cases e : k = y.2
        · subst e
          have : (putB s y.2 l).bund y.2 = some l := upd_self _ _ _
          rw [this] at hk
          cases hk
          rw [hy0] at hlw
          exact hlw
        · have : (putB s y.2 l).bund k = s.bund k := upd_ne _ _ e
          rw [this] at hk
          exact h.inv.bn k l' hk
      · by_cases e : (i : Int) = y.2
        · have : (putB s y.2 l).bund i = some l := by rw [e]; exact upd_self _ _ _
          rw [this] at hi
          cases hi
          refine ⟨hall, ?_⟩
          rw [e]
          rw [hy0] at hok
          exact hok
        · have : (putB s y.2 l).bund i = s.bund i := upd_ne _ _ e
          rw [this] at hi
          exact h.bund i l' hi
  | false =>
    rw [if_neg (by simp)]
    have hnone : s.tiles y = none := by
      unfold hasF at hnot
      cases hq : s.tiles y with
      | none => rfl
      | some l' => simp [hq] at hnot
    have h32 : A32 l := all32_A l (by
      cases hq : all32 l with
      | true => rfl
      | false => exact absurd ⟨rfl, hq⟩ h2)
    have hinv := inv_put (x := y) h.inv hlw h32
    have hnb : ∀ (i : Nat) (l' : List ByteArray), s.bund (i : Int) = some l' → False := fun i l' hi => by
      have := (h.bund i l' hi).1 y hpl.1
      rw [hnone] at this
      cases this
    cases he : edB s.size y with
    | true =>
      show Snd (if true = true then (if okE (putT s y l) then putT s y l else dropE (putT s y l), _) else _).1
      rw [if_pos rfl]
      show Snd (if okE (putT s y l) then putT s y l else dropE (putT s y l))
      have hnf : ∀ k i : Nat, k < 4 → tw s.size k i = 4 → (s.tiles ((k : Int), (i : Int))).isSome = true → False := fun k i hk ht hs => by
        have h3 := (h.full k i hk ht hs).1
        rw [haveE_iff] at h3
        have := h3 y (mem_edge.2 ⟨hpl.1, he⟩)
        rw [hnone] at this
        cases this
      have hne : ∀ k i : Nat, k < 4 → tw s.size k i = 4 → ((k : Int), (i : Int)) ≠ y := fun k i hk ht e => by
        have := tw_edB h.sz hk ht
        rw [e, he] at this
        cases this
      cases hok : okE (putT s y l) with
      | true =>
        show Snd (putT s y l)
        refine ⟨h.sz, hinv, fun hh => ?_, fun k i hk ht hs => ?_, fun i l' hi => (hnb i l' hi).elim⟩
        · show rootE (putT s y l) = (putT s y l).root
          have hh : haveE (putT s y l) = true := hh
          unfold okE at hok
          rw [hh] at hok
          simpa using hok
        · have hs : ((putT s y l).tiles ((k : Int), (i : Int))).isSome = true := hs
          rw [putT_ne s l (hne k i hk ht)] at hs
          exact (hnf k i hk ht hs).elim
      | false =>
        show Snd (dropE (putT s y l))
        have hsz : (dropE (putT s y l)).size = s.size := drops_size _ _
        have htl : ∀ z, (dropE (putT s y l)).tiles z = if z ∈ edgeF wdF s.size then none else (putT s y l).tiles z := drops_tiles _ _
        have hbn : (dropE (putT s y l)).bund = s.bund := drops_bund _ _
        refine ⟨by show (dropE (putT s y l)).size ≤ 64; rw [hsz]; exact h.sz, ⟨fun z l' hz => ?_, fun k l' hk => ?_⟩, fun hh => ?_, fun k i hk ht hs => ?_, fun i l' hi => ?_⟩
        · have hz : (dropE (putT s y l)).tiles z = some l' := hz
          rw [htl] at hz
          split at hz
          · cases hz
          · have := hinv.tl z l' hz
            show (l'.length : Int) = wdF (dropE (putT s y l)).size z.1 z.2 ∧ A32 l'
            rw [hsz]
            exact this
        · have hk : (dropE (putT s y l)).bund k = some l' := hk
          rw [hbn] at hk
          show (l'.length : Int) = wdF (dropE (putT s y l)).size 0 k
          rw [hsz]
          exact h.inv.bn k l' hk
        · exfalso
          have hh : haveE (dropE (putT s y l)) = true := hh
          rw [haveE_iff, hsz] at hh
          have := hh y (mem_edge.2 ⟨hpl.1, he⟩)
          rw [htl, if_pos (mem_edge.2 ⟨hpl.1, he⟩)] at this
          cases this
        · have ht : tw (dropE (putT s y l)).size k i = 4 := ht
          rw [hsz] at ht
          have hs : ((dropE (putT s y l)).tiles ((k : Int), (i : Int))).isSome = true := hs
          rw [htl] at hs
          split at hs
          · cases hs
          · rw [putT_ne s l (hne k i hk ht)] at hs
            exact (hnf k i hk ht hs).elim
        · have hi : (dropE (putT s y l)).bund i = some l' := hi
          rw [hbn] at hi
          exact (hnb i l' hi).elim
    | false =>
      show Snd (if false = true then _ else (if okF s y.1.toNat y.2.toNat l then putT s y l else s, _)).1
      rw [if_neg (by simp)]
      show Snd (if okF s y.1.toNat y.2.toNat l then putT s y l else s)
      have hhe := next_full hx he
      cases hok : okF s y.1.toNat y.2.toNat l with
      | false => exact h
      | true =>
        show Snd (putT s y l)
        have hb := plan_b s.size (by have := h.sz; omega) y hpl.1
        obtain ⟨k0, i0, rfl⟩ : ∃ k0 i0 : Nat, y = ((k0 : Int), (i0 : Int)) := ⟨y.1.toNat, y.2.toNat, Prod.ext (by simp only; omega) (by simp only; omega)⟩
        simp only [Int.toNat_natCast] at hok
        have hez : ∀ z ∈ edgeF wdF s.size, z ≠ ((k0 : Int), (i0 : Int)) := fun z hz e => by
          have := (mem_edge.1 hz).2
          rw [e, he] at this
          cases this
        have hh1 : haveE (putT s ((k0 : Int), (i0 : Int)) l) = true := by
          rw [haveE_iff] at hhe ⊢
          intro z hz
          have hz : z ∈ edgeF wdF s.size := hz
          rw [putT_ne s l (hez z hz)]
          exact hhe z hz
        have hrt : rootE (putT s ((k0 : Int), (i0 : Int)) l) = rootE s := by
          unfold rootE
          show rootR (accF ((edgeF wdF s.size).map (tileOf (putT s ((k0 : Int), (i0 : Int)) l)))) = _
          rw [List.map_congr_left (fun z hz => tileOf_ne s l (hez z hz))]
        refine ⟨h.sz, hinv, fun _ => hrt.trans (h.edge hhe), fun k i hk ht hs => ⟨hh1, ?_⟩, fun i l' hi => (hnb i l' hi).elim⟩
        have hs : ((putT s ((k0 : Int), (i0 : Int)) l).tiles ((k : Int), (i : Int))).isSome = true := hs
        have ht : tw s.size k i = 4 := ht
        by_cases e : ((k : Int), (i : Int)) = ((k0 : Int), (i0 : Int))
        · obtain ⟨rfl, rfl⟩ : k = k0 ∧ i = i0 := by simp at e; omega
          have e1 : tileOf (putT s ((k : Int), (i : Int)) l) ((k : Int), (i : Int)) = l := by unfold tileOf; rw [putT_self]; rfl
          rw [e1]
          unfold okF at hok ⊢
          rw [tileOf_ne s l (fun q => by have := congrArg Prod.fst q; simp only at this; omega)]
          exact hok
        · rw [putT_ne s l e] at hs
          rw [tileOf_ne s l e]
          have h3 := (h.full k i hk ht hs).2
          unfold okF at h3 ⊢
          have hne : (((k : Int) + 1, ((i / 4 : Nat) : Int)) : Int × Int) ≠ ((k0 : Int), (i0 : Int)) := fun q => by
            rw [q] at h3
            have e2 : tileOf s ((k0 : Int), (i0 : Int)) = [] := by unfold tileOf; rw [hnone]; rfl
            rw [e2] at h3
            have := of_decide_eq_true h3
            simp at this
          rw [tileOf_ne s l hne]
          exact h3
theorem Snd.asked (h : Snd s) (a : Int) : Snd ⟨s.size, s.root, s.tiles, s.bund, a⟩ := ⟨h.sz, ⟨h.inv.tl, h.inv.bn⟩, h.edge, h.full, h.bund⟩
theorem Snd.done (h : Snd s) (hn : nextF s = none) : (allK s (nb s.size)).length = s.size ∧ rootF (leavesF (allK s (nb s.size))) = s.root := by
  have hall := List.find?_eq_none.1 hn
  have hpt : ∀ z ∈ planF s.size, (s.tiles z).isSome = true := fun z hz => by
    have := hall (false, z) (by
      unfold wantsF
      refine List.mem_append.2 (.inl (List.mem_append.2 ?_))
      cases he : edB s.size z with
      | true => exact .inl (mem_pickT.2 ⟨rfl, hz, he⟩)
      | false => exact .inr (mem_pickT.2 ⟨rfl, hz, he⟩))
    unfold hasF at this
    cases hq : s.tiles z with
    | none => rw [hq] at this; exact absurd rfl this
    | some q => rfl
  have hpp : ∀ k i : Nat, k < 4 → 0 < tw s.size k i → ((k : Int), (i : Int)) ∈ planF s.size := fun k i hk hp => by
    have := quo_le s.size k h.sz
    exact (in_plan s.size (by have := h.sz; omega) k hk i (by unfold tw at hp; omega)).resolve_left (by rw [tw_in s.size k i h.sz hk]; omega)
  have hF : Full s := ⟨h.sz, h.inv, hpt, fun k i hk ht => (h.full k i hk ht (hpt _ (hpp k i hk (by omega)))).2, fun i hi => by
    have hm := hpp 0 i (by omega) (by unfold tw; rw [Nat.pow_zero, Nat.div_one]; omega)
    have := hall (true, (0, (i : Int))) (by
      unfold wantsF
      exact List.mem_append.2 (.inr (mem_pickB.2 ⟨rfl, hm, rfl⟩)))
    unfold hasF at this
    simp only [if_true] at this
    cases hq : s.bund (i : Int) with
    | none => rw [hq] at this; simp at this
    | some l => exact ⟨l, rfl, (h.bund i l hq).2⟩⟩
  have he : haveE s = true := haveE_iff.2 (fun y hy => hpt y (mem_edge.1 hy).1)
  exact ⟨hF.sound.1, hF.sound.2.trans (h.edge he)⟩
end Go.Proofs.Ytondnammkcgjpaa.Ft
namespace Go.Proofs.Ytondnammkcgjpaa.Ft
open Go Go.RowKit Go.Shelf Go.Proofs.YtondnammkcgjpaaW.PrintWords
open Go.Proofs.Ytondnammkcgjpaa.ShaP Go.Proofs.Ytondnammkcgjpaa.Mk Go.Proofs.Ytondnammkcgjpaa.Rg Go.Proofs.Ytondnammkcgjpaa.RgP Go.Proofs.Ytondnammkcgjpaa.Rf Go.Proofs.Ytondnammkcgjpaa.RgL Go.Proofs.Ytondnammkcgjpaa.Til Go.Proofs.Ytondnammkcgjpaa.Fg Go.Proofs.Ytondnammkcgjpaa.Rng
def ordB (n : Nat) : Bool := (List.range (wantsF n).length).all fun j => match (wantsF n)[j]? with
  | none => true
  | some x => !((wantsF n).take j).contains x && (if x.1 then decide (x.2.1 = 0) && ((wantsF n).take j).contains (false, x.2) else edB n x.2 || decide (inTile x.2.2 (cntv n x.2.1) = 4) && ((wantsF n).take j).contains (false, (x.2.1 + 1, x.2.2 / 4)) && (edgeF wdF n).all fun y => ((wantsF n).take j).contains (false, y))
theorem ordB_all : ∀ n : Nat, n < 65 → ordB n = true := by decide +kernel
theorem ord_at (n : Nat) (hn : n ≤ 64) (j : Nat) (x : Want) (h : (wantsF n)[j]? = some x) :
    x ∉ (wantsF n).take j ∧ (x.1 = true → x.2.1 = 0 ∧ (false, x.2) ∈ (wantsF n).take j) ∧ (x.1 = false → edB n x.2 = false → inTile x.2.2 (cntv n x.2.1) = 4 ∧ (false, (x.2.1 + 1, x.2.2 / 4)) ∈ (wantsF n).take j) := by
  have hj : j < (wantsF n).length := by
    obtain ⟨h1, _⟩ := List.getElem?_eq_some_iff.1 h
    exact h1
  have h1 := List.all_eq_true.1 (ordB_all n (by omega)) j (List.mem_range.2 hj)
  simp only [h] at h1
  obtain ⟨b, y⟩ := x
  cases b with
  | true =>
    simp at h1
    refine ⟨h1.1, fun _ => ⟨h1.2.1, h1.2.2⟩, fun q => (by cases q)⟩
  | false =>
    simp at h1
    refine ⟨h1.1, fun q => (by cases q), fun _ he => ?_⟩
    rcases h1.2 with h2 | h2
    · rw [show edB n (y.1, y.2) = edB n y from rfl, he] at h2; cases h2
    · exact ⟨h2.1.1, h2.1.2⟩
def honS (l : List ByteArray) (k : Nat) : FS := ⟨l.length, rootF (leavesF l), fun y => if (false, y) ∈ (wantsF l.length).take k then some (giveF l false y.1 y.2) else none, fun i => if (true, ((0 : Int), i)) ∈ (wantsF l.length).take k then some (giveF l true 0 i) else none, k⟩
theorem hon_zero (l : List ByteArray) : honS l 0 = mt l.length (rootF (leavesF l)) := by
  unfold honS mt
  simp
theorem seg_zero (l : List ByteArray) (a : Nat) : seg l a 0 = [] := by
  unfold seg
  rw [Nat.add_zero]
  exact List.drop_eq_nil_of_le (by rw [List.length_take]; omega)
theorem leavesF_len (l : List ByteArray) : (leavesF l).length = l.length := by unfold leavesF; rw [List.length_map]
theorem tileF_seg (L : List ByteArray) (hl : L.length ≤ 64) (k i : Nat) (hk : k < 4) : tileF L k i = seg (levF k L) (4 * i) (tw L.length k i) := by
  unfold tileF
  rw [tw_in L.length k i hl hk, Int.toNat_natCast, Int.toNat_natCast, Int.toNat_natCast]
  by_cases h : tw L.length k i = 0
  · rw [if_pos (by omega), h, seg_zero]
  · rw [if_neg (by omega), seg_hash L k i _ hk hl (by unfold tw at h ⊢; omega)]
theorem give_tileF (l : List ByteArray) (lv ix : Int) : giveF l false lv ix = tileF (leavesF l) lv ix := rfl
theorem leaves_32 (l : List ByteArray) : A32 (leavesF l) := fun s hs => by
  obtain ⟨y, _, rfl⟩ := List.mem_map.1 hs
  exact leaf_size y
theorem tile_32 (l : List ByteArray) (hl : l.length ≤ 64) (k i : Nat) (hk : k < 4) : A32 (giveF l false k i) := by
  rw [give_tileF, tileF_seg _ (by rw [leavesF_len]; exact hl) k i hk]
  exact seg_32 _ _ _ (levF_32 _ _ (leaves_32 l) (by rw [leavesF_len]; exact hl))
theorem tile_len (l : List ByteArray) (lv ix : Int) : ((giveF l false lv ix).length : Int) = wdF l.length lv ix := by
  rw [give_tileF, tileF_len, leavesF_len]
  rfl
theorem bund_seg (l : List ByteArray) (hl : l.length ≤ 64) (i : Nat) : giveF l true 0 (i : Int) = seg l (4 * i) (tw l.length 0 i) := by
  have h3 := tw_in l.length 0 i hl (by omega)
  rw [show ((0 : Nat) : Int) = 0 from rfl] at h3
  unfold giveF
  rw [if_pos rfl, h3, Int.toNat_natCast, Int.toNat_natCast]
theorem bund_len (l : List ByteArray) (hl : l.length ≤ 64) (i : Nat) : ((giveF l true 0 (i : Int)).length : Int) = wdF l.length 0 (i : Int) := by
  have h3 := tw_in l.length 0 i hl (by omega)
  rw [show ((0 : Nat) : Int) = 0 from rfl] at h3
  rw [bund_seg l hl i]
  unfold wdF
  rw [h3]
  by_cases h : tw l.length 0 i = 0
  · rw [h, seg_zero]; rfl
  · rw [seg_len _ _ _ (by unfold tw at h ⊢; rw [Nat.pow_zero, Nat.div_one] at *; omega)]
theorem want_nat (n : Nat) (hn : n ≤ 64) (x : Want) (hx : x ∈ wantsF n) : ∃ k i : Nat, k < 4 ∧ x.2 = ((k : Int), (i : Int)) := by
  have h := wants_b n hn x hx
  exact ⟨x.2.1.toNat, x.2.2.toNat, by omega, Prod.ext (by simp only; omega) (by simp only; omega)⟩
theorem hon_inv (l : List ByteArray) (hl : l.length ≤ 64) (k : Nat) : InvF (honS l k) := by
  constructor
  · intro y l' h
    have h : (if (false, y) ∈ (wantsF l.length).take k then some (giveF l false y.1 y.2) else none) = some l' := h
    split at h
    · rename_i hm
      obtain ⟨a, i, ha, e⟩ := want_nat l.length hl _ (List.mem_of_mem_take hm)
      simp only at e
      subst e
      cases h
      exact ⟨tile_len l _ _, tile_32 l hl a i ha⟩
    · cases h
  · intro i l' h
    have h : (if (true, ((0 : Int), i)) ∈ (wantsF l.length).take k then some (giveF l true 0 i) else none) = some l' := h
    split at h
    · rename_i hm
      obtain ⟨a, i', ha, e⟩ := want_nat l.length hl _ (List.mem_of_mem_take hm)
      simp only [Prod.mk.injEq] at e
      rw [e.2] at h
      cases h
      rw [e.2]
      exact bund_len l hl i'
    · cases h
theorem hon_has (l : List ByteArray) (hl : l.length ≤ 64) (k : Nat) (x : Want) (hx : x ∈ wantsF l.length) : hasF (honS l k) x = decide (x ∈ (wantsF l.length).take k) := by
  obtain ⟨b, a, i⟩ := x
  cases b with
  | true =>
    have h0 : a = 0 := by
      obtain ⟨j, hj⟩ := List.mem_iff_getElem?.1 hx
      exact ((ord_at l.length hl j _ hj).2.1 rfl).1
    subst h0
    show (if (true, ((0 : Int), i)) ∈ (wantsF l.length).take k then some (giveF l true 0 i) else none).isSome = _
    by_cases h : (true, ((0 : Int), i)) ∈ (wantsF l.length).take k
    · rw [if_pos h, decide_eq_true h]; rfl
    · rw [if_neg h, decide_eq_false h]; rfl
  | false =>
    show (if (false, (a, i)) ∈ (wantsF l.length).take k then some (giveF l false a i) else none).isSome = _
    by_cases h : (false, (a, i)) ∈ (wantsF l.length).take k
    · rw [if_pos h, decide_eq_true h]; rfl
    · rw [if_neg h, decide_eq_false h]; rfl
theorem find_some {α : Type} (p : α → Bool) : ∀ (l : List α) (k : Nat), (∀ j y, l[j]? = some y → p y = decide (k ≤ j)) → l.find? p = l[k]?
  | [], k, _ => by simp
  | y :: l, 0, h => by rw [List.find?_cons, h 0 y rfl]; rfl
  | y :: l, k + 1, h => by
    rw [List.find?_cons, h 0 y rfl]
    exact find_some p l k (fun j z hz => by
      rw [h (j + 1) z hz]
      exact decide_eq_decide.2 (by omega))
theorem hon_next (l : List ByteArray) (hl : l.length ≤ 64) (k : Nat) : nextF (honS l k) = (wantsF l.length)[k]? := by
  unfold nextF
  show (wantsF l.length).find? _ = _
  refine find_some _ _ _ fun j y hy => ?_
  rw [hon_has l hl k y (List.mem_iff_getElem?.2 ⟨j, hy⟩)]
  have hno := (ord_at l.length hl j y hy).1
  by_cases h : k ≤ j
  · rw [decide_eq_true h, decide_eq_false (fun hm => hno (List.take_subset_take_left _ h hm))]
    rfl
  · rw [decide_eq_false h, decide_eq_true (List.mem_iff_getElem?.2 ⟨j, by rw [List.getElem?_take, if_pos (by omega)]; exact hy⟩)]
    rfl
theorem mem_take1 {n k : Nat} {x y : Want} (hx : (wantsF n)[k]? = some x) : y ∈ (wantsF n).take (k + 1) ↔ y ∈ (wantsF n).take k ∨ y = x := by
  obtain ⟨hk, e⟩ := List.getElem?_eq_some_iff.1 hx
  rw [List.take_succ_eq_append_getElem hk, e, List.mem_append, List.mem_singleton]
theorem hon_tile (l : List ByteArray) (k : Nat) (z : Int × Int) (h : (false, z) ∈ (wantsF l.length).take k) : tileOf (honS l k) z = giveF l false z.1 z.2 := by
  unfold tileOf
  show (if (false, z) ∈ (wantsF l.length).take k then some (giveF l false z.1 z.2) else none).getD [] = _
  rw [if_pos h]
  rfl
theorem hon_putT (l : List ByteArray) (k : Nat) (y : Int × Int) (hx : (wantsF l.length)[k]? = some (false, y)) :
    (⟨(putT (honS l k) y (giveF l false y.1 y.2)).size, (putT (honS l k) y (giveF l false y.1 y.2)).root, (putT (honS l k) y (giveF l false y.1 y.2)).tiles, (putT (honS l k) y (giveF l false y.1 y.2)).bund, (putT (honS l k) y (giveF l false y.1 y.2)).asked + 1⟩ : FS) = honS l (k + 1) := by
  have e1 : (putT (honS l k) y (giveF l false y.1 y.2)).tiles = (honS l (k + 1)).tiles := by
    funext z
    by_cases e : z = y
    · subst e
      rw [putT_self]
      show _ = (if (false, z) ∈ (wantsF l.length).take (k + 1) then some (giveF l false z.1 z.2) else none)
      rw [if_pos ((mem_take1 hx).2 (.inr rfl))]
    · rw [putT_ne _ _ e]
      show (if (false, z) ∈ (wantsF l.length).take k then some (giveF l false z.1 z.2) else none) = (if (false, z) ∈ (wantsF l.length).take (k + 1) then some (giveF l false z.1 z.2) else none)
      by_cases h : (false, z) ∈ (wantsF l.length).take k
      · rw [if_pos h, if_pos ((mem_take1 hx).2 (.inl h))]
      · rw [if_neg h, if_neg (fun h' => ((mem_take1 hx).1 h').elim h (fun q => e (by injection q)))]
  have e2 : (putT (honS l k) y (giveF l false y.1 y.2)).bund = (honS l (k + 1)).bund := by
    funext i
    show (if (true, ((0 : Int), i)) ∈ (wantsF l.length).take k then some (giveF l true 0 i) else none) = (if (true, ((0 : Int), i)) ∈ (wantsF l.length).take (k + 1) then some (giveF l true 0 i) else none)
    by_cases h : (true, ((0 : Int), i)) ∈ (wantsF l.length).take k
    · rw [if_pos h, if_pos ((mem_take1 hx).2 (.inl h))]
    · rw [if_neg h, if_neg (fun h' => ((mem_take1 hx).1 h').elim h (fun q => by injection q with q1 _; cases q1))]
  rw [e1, e2]
  rfl
theorem hon_putB (l : List ByteArray) (k : Nat) (i : Int) (hx : (wantsF l.length)[k]? = some (true, (0, i))) :
    (⟨(putB (honS l k) i (giveF l true 0 i)).size, (putB (honS l k) i (giveF l true 0 i)).root, (putB (honS l k) i (giveF l true 0 i)).tiles, (putB (honS l k) i (giveF l true 0 i)).bund, (putB (honS l k) i (giveF l true 0 i)).asked + 1⟩ : FS) = honS l (k + 1) := by
  have e1 : (putB (honS l k) i (giveF l true 0 i)).bund = (honS l (k + 1)).bund := by
    funext z
    by_cases e : z = i
    · subst e
      have : (putB (honS l k) z (giveF l true 0 z)).bund z = some (giveF l true 0 z) := upd_self _ _ _
      rw [this]
      show _ = (if (true, ((0 : Int), z)) ∈ (wantsF l.length).take (k + 1) then some (giveF l true 0 z) else none)
      rw [if_pos ((mem_take1 hx).2 (.inr rfl))]
    · have : (putB (honS l k) i (giveF l true 0 i)).bund z = (honS l k).bund z := upd_ne _ _ e
      rw [this]
      show (if (true, ((0 : Int), z)) ∈ (wantsF l.length).take k then some (giveF l true 0 z) else none) = (if (true, ((0 : Int), z)) ∈ (wantsF l.length).take (k + 1) then some (giveF l true 0 z) else none)
      by_cases h : (true, ((0 : Int), z)) ∈ (wantsF l.length).take k
      · rw [if_pos h, if_pos ((mem_take1 hx).2 (.inl h))]
      · rw [if_neg h, if_neg (fun h' => ((mem_take1 hx).1 h').elim h (fun q => e (by injection q with _ q2; injection q2)))]
  have e2 : (putB (honS l k) i (giveF l true 0 i)).tiles = (honS l (k + 1)).tiles := by
    funext z
    show (if (false, z) ∈ (wantsF l.length).take k then some (giveF l false z.1 z.2) else none) = (if (false, z) ∈ (wantsF l.length).take (k + 1) then some (giveF l false z.1 z.2) else none)
    by_cases h : (false, z) ∈ (wantsF l.length).take k
    · rw [if_pos h, if_pos ((mem_take1 hx).2 (.inl h))]
    · rw [if_neg h, if_neg (fun h' => ((mem_take1 hx).1 h').elim h (fun q => by injection q with q1 _; cases q1))]
  rw [e1, e2]
  rfl
theorem map_seg (l : List ByteArray) (a n : Nat) : (seg l a n).map leafF = seg (leavesF l) a n := by
  unfold seg leavesF
  rw [List.map_drop, List.map_take]
theorem hon_edge (l : List ByteArray) (hl : l.length ≤ 64) (k : Nat) (y : Int × Int) (hy : y ∈ planF l.length) : okE (putT (honS l k) y (giveF l false y.1 y.2)) = true := by
  unfold okE
  cases hh : haveE (putT (honS l k) y (giveF l false y.1 y.2)) with
  | false => rfl
  | true =>
    show (false || decide _) = true
    rw [Bool.false_or]
    refine decide_eq_true ?_
    show rootR (accF ((edgeF wdF l.length).map (tileOf (putT (honS l k) y (giveF l false y.1 y.2))))) = rootF (leavesF l)
    have hll := leavesF_len l
    have key := root_edge (leavesF l) (tileOf (putT (honS l k) y (giveF l false y.1 y.2))) (by omega) (fun x hx => by
      rw [hll] at hx
      have h1 := (haveE_iff.1 hh) x hx
      obtain ⟨a, i, ha, rfl, hp⟩ := edge_nat l.length (by omega) x hx
      have e : tileOf (putT (honS l k) y (giveF l false y.1 y.2)) ((a : Int), (i : Int)) = giveF l false a i := by
        by_cases e : ((a : Int), (i : Int)) = y
        · subst e
          unfold tileOf
          rw [putT_self]
          rfl
        · rw [putT_ne _ _ e] at h1
          rw [tileOf_ne _ _ e]
          refine hon_tile l k ((a : Int), (i : Int)) ?_
          refine Decidable.byContradiction fun hm => ?_
          have h1 : (if (false, ((a : Int), (i : Int))) ∈ (wantsF l.length).take k then some (giveF l false a i) else none).isSome = true := h1
          rw [if_neg hm] at h1
          cases h1
      rw [e, give_tileF, tileF_seg _ (by omega) a i ha]
      simp only [Int.toNat_natCast]
      have h3 := tw_in (leavesF l).length a i (by omega) ha
      rw [h3, Int.toNat_natCast])
    rw [hll] at key
    exact key
theorem hon_full (l : List ByteArray) (hl : l.length ≤ 64) (k a i : Nat) (ha : a < 4) (h4 : inTile (i : Int) (cntv l.length a) = 4) (hm : (false, ((a : Int) + 1, (i : Int) / 4)) ∈ (wantsF l.length).take k) : okF (honS l k) a i (giveF l false a i) = true := by
  have hll := leavesF_len l
  have ht : tw l.length a i = 4 := by have := tw_in l.length a i hl ha; omega
  have hfit : 4 * i + 4 ≤ (leavesF l).length / 4 ^ a := by rw [hll]; unfold tw at ht; omega
  obtain ⟨ha3, hi1, hup⟩ := up_hash (leavesF l) a i ha (by omega) hfit
  unfold okF
  refine decide_eq_true ?_
  have e4 : ((i / 4 : Nat) : Int) = (i : Int) / 4 := by omega
  rw [e4, hon_tile l k _ hm]
  show (giveF l false ((a : Int) + 1) ((i : Int) / 4))[i % 4]? = _
  rw [← e4, show (a : Int) + 1 = ((a + 1 : Nat) : Int) by omega, give_tileF, give_tileF, tileF_seg _ (by omega) (a + 1) (i / 4) (by omega), tileF_seg _ (by omega) a i ha, hll, ht]
  rw [seg_hash (leavesF l) a i 4 ha (by omega) hfit, hup]
  rw [hll] at hi1
  have htw : i % 4 < tw l.length (a + 1) (i / 4) := by unfold tw; omega
  rw [seg_hash (leavesF l) (a + 1) (i / 4) _ (by omega) (by omega) (by rw [hll]; unfold tw at htw ⊢; omega), List.getElem?_map, List.getElem?_range htw]
  show some (hashF (leavesF l) (a + 1) (4 * (i / 4) + i % 4)) = _
  rw [show 4 * (i / 4) + i % 4 = i by omega]
theorem all32_of (l : List ByteArray) (h : A32 l) : all32 l = true := List.all_eq_true.2 fun y hy => by rw [beq_iff_eq]; exact h y hy
theorem hon_take (l : List ByteArray) (hl : l.length ≤ 64) (k : Nat) (x : Want) (hx : (wantsF l.length)[k]? = some x) : takenS (honS l k) x (giveF l x.1 x.2.1 x.2.2) = (honS l (k + 1), 0) := by
  have hnx : nextF (honS l k) = some x := (hon_next l hl k).trans hx
  have hmem : x ∈ wantsF l.length := List.mem_iff_getElem?.2 ⟨k, hx⟩
  have hpl := next_plan hnx
  obtain ⟨o1, o2, o3⟩ := ord_at l.length hl k x hx
  obtain ⟨a, i, ha, e⟩ := want_nat l.length hl x hmem
  obtain ⟨b, y⟩ := x
  simp only at e
  subst e
  unfold takenS
  rw [if_pos hnx]
  cases b with
  | true =>
    have h0 := (o2 rfl).1
    have hm := (o2 rfl).2
    simp only at h0
    obtain rfl : a = 0 := by omega
    have hok : okB (honS l k) (((0 : Nat) : Int), (i : Int)) (giveF l true ((0 : Nat) : Int) i) = true := by
      unfold okB
      refine decide_eq_true ?_
      rw [hon_tile l k _ hm]
      show ((giveF l true 0 (i : Int)).map leafF).take (giveF l false ((0 : Nat) : Int) (i : Int)).length = giveF l false ((0 : Nat) : Int) (i : Int)
      rw [bund_seg l hl i, map_seg, give_tileF, tileF_seg _ (by rw [leavesF_len]; exact hl) 0 i (by omega), leavesF_len]
      exact List.take_length
    have ht : takeS (honS l k) (true, (((0 : Nat) : Int), (i : Int))) (giveF l true ((0 : Nat) : Int) i) = (putB (honS l k) i (giveF l true 0 i), 0) := by
      unfold takeS
      rw [if_neg (by rw [Decidable.not_not]; exact bund_len l hl i), if_neg (by simp), if_pos rfl]
      simp only
      rw [hok]
      rfl
    simp only
    rw [ht, if_pos rfl]
    exact congrArg (fun s => (s, (0 : Int))) (hon_putB l k i hx)
  | false =>
    have hlen : ¬ ((giveF l false (a : Int) (i : Int)).length : Int) ≠ wdF (honS l k).size (a : Int) (i : Int) := by rw [Decidable.not_not]; exact tile_len l a i
    have h32 := all32_of _ (tile_32 l hl a i ha)
    cases he : edB l.length ((a : Int), (i : Int)) with
    | true =>
      have hok := hon_edge l hl k ((a : Int), (i : Int)) hpl.1
      have ht : takeS (honS l k) (false, ((a : Int), (i : Int))) (giveF l false a i) = (putT (honS l k) ((a : Int), (i : Int)) (giveF l false a i), 0) := by
        unfold takeS
        rw [if_neg hlen, if_neg (by rw [h32]; simp), if_neg (by simp), if_pos (show edB (honS l k).size (false, ((a : Int), (i : Int))).2 = true from he), if_pos (show okE (putT (honS l k) (false, ((a : Int), (i : Int))).2 (giveF l false a i)) = true from hok), if_pos (show okE (putT (honS l k) (false, ((a : Int), (i : Int))).2 (giveF l false a i)) = true from hok)]
      simp only
      rw [ht, if_pos rfl]
      exact congrArg (fun s => (s, (0 : Int))) (hon_putT l k _ hx)
    | false =>
      obtain ⟨h4, hm⟩ := o3 rfl he
      have hok := hon_full l hl k a i ha h4 hm
      have ht : takeS (honS l k) (false, ((a : Int), (i : Int))) (giveF l false a i) = (putT (honS l k) ((a : Int), (i : Int)) (giveF l false a i), 0) := by
        unfold takeS
        rw [if_neg hlen, if_neg (by rw [h32]; simp), if_neg (by simp), if_neg (by rw [show edB (honS l k).size _ = edB l.length ((a : Int), (i : Int)) from rfl, he]; simp), if_pos (show okF (honS l k) (false, ((a : Int), (i : Int))).2.1.toNat (false, ((a : Int), (i : Int))).2.2.toNat (giveF l false a i) = true from hok), if_pos (show okF (honS l k) (false, ((a : Int), (i : Int))).2.1.toNat (false, ((a : Int), (i : Int))).2.2.toNat (giveF l false a i) = true from hok)]
      simp only
      rw [ht, if_pos rfl]
      exact congrArg (fun s => (s, (0 : Int))) (hon_putT l k _ hx)
theorem bund_in : ∀ n : Nat, n < 65 → ((List.range ((n + 3) / 4)).all fun i => (wantsF n).contains (true, ((0 : Int), (i : Int)))) = true := by decide +kernel
theorem hon_leaves (l : List ByteArray) (hl : l.length ≤ 64) : ∀ k : Nat, k ≤ nb l.length → allK (honS l (wantsF l.length).length) k = l.take (4 * k)
  | 0, _ => rfl
  | k + 1, hk => by
    have hm : (true, ((0 : Int), (k : Int))) ∈ (wantsF l.length).take (wantsF l.length).length := by
      rw [List.take_length]
      have := List.all_eq_true.1 (bund_in l.length (by omega)) k (List.mem_range.2 hk)
      simpa using this
    have hb : bundOf (honS l (wantsF l.length).length) k = seg l (4 * k) (tw l.length 0 k) := by
      unfold bundOf
      show (if (true, ((0 : Int), (k : Int))) ∈ (wantsF l.length).take (wantsF l.length).length then some (giveF l true 0 k) else none).getD [] = _
      rw [if_pos hm, bund_seg l hl k]
      rfl
    rw [allK_succ, hon_leaves l hl k (by omega), hb]
    unfold Til.seg tw
    rw [Nat.pow_zero, Nat.div_one]
    have e : l.take (4 * (k + 1)) = l.take (4 * k + min 4 (l.length - 4 * k)) := by
      rcases Nat.lt_or_ge (l.length - 4 * k) 4 with h5 | h5
      · rw [List.take_of_length_le (by omega), List.take_of_length_le (by omega)]
      · rw [show 4 * (k + 1) = 4 * k + min 4 (l.length - 4 * k) by omega]
    rw [e]
    have := List.take_append_drop (4 * k) (l.take (4 * k + min 4 (l.length - 4 * k)))
    rw [List.take_take, Nat.min_eq_left (by omega)] at this
    exact this
theorem hon_all (l : List ByteArray) (hl : l.length ≤ 64) : allK (honS l (wantsF l.length).length) (nb l.length) = l := by
  rw [hon_leaves l hl _ (Nat.le_refl _), List.take_of_length_le (by unfold nb; omega)]
end Go.Proofs.Ytondnammkcgjpaa.Ft
namespace Go.Proofs.Ytondnammkcgjpaa.Ft
open Go Go.RowKit Go.Shelf Go.Proofs.YtondnammkcgjpaaW.PrintWords Go.Proofs.YtondnammkcgjpaaW.PrintLast Go.Proofs.YtondnammkcgjpaaW.PrintMore Go.Proofs.Ytondnammkcgjpaa.Mp
open Go.Proofs.Ytondnammkcgjpaa.ShaP Go.Proofs.Ytondnammkcgjpaa.Mk Go.Proofs.Ytondnammkcgjpaa.Rg Go.Proofs.Ytondnammkcgjpaa.RgP Go.Proofs.Ytondnammkcgjpaa.Rf Go.Proofs.Ytondnammkcgjpaa.RgL Go.Proofs.Ytondnammkcgjpaa.Til Go.Proofs.Ytondnammkcgjpaa.Fg
theorem info_id : (Try.prog.info? 24).map (fun i => (i.zero, i.size, i.bytes)) = some (some (.agg #[.int .i64 0, .int .i64 0]), 2, 16) := by kernel_rfl
def tkn (e : Bool) (q : Int) : Bool := decide (0 < q) && (decide (q < 4) || !e)
def rowR (n : Int) (e : Bool) (k : Nat) : Nat → List (Int × Int)
  | 0 => []
  | m + 1 => rowR n e k m ++ (if tkn e (inTile (m : Int) (cntv n k)) then [((k : Int), (m : Int))] else [])
def topR (n : Int) (e : Bool) : Nat → List (Int × Int)
  | 0 => []
  | j + 1 => topR n e j ++ rowR n e (3 - j) 17
def planR (n : Int) (e : Bool) : List (Int × Int) := topR n e 4
theorem row_len (n : Int) (e : Bool) (k : Nat) : ∀ m : Nat, (rowR n e k m).length ≤ m
  | 0 => Nat.le_refl _
  | m + 1 => by
    have := row_len n e k m
    rw [rowR, List.length_append]
    split <;> simp <;> omega
theorem top_len (n : Int) (e : Bool) : ∀ j : Nat, (topR n e j).length ≤ 17 * j
  | 0 => Nat.le_refl _
  | j + 1 => by
    have h1 := top_len n e j
    have h2 := row_len n e (3 - j) 17
    rw [topR, List.length_append]
    omega
theorem rplan_c (n : Int) (e : Bool) (w : World) : Calls Try.prog 72 #[.int .i64 n, .bool e] w fun r w' => ∃ v, r = .returned v ∧ KI.R 24 w' w.heap.size (fun _ => True) v (planR n e) ∧ Below w.heap.size w w' := by
  have HPL := Aside0.mk (show planR n e = topR n e 4 from rfl)
  go_enter Try.func72, Try.ntmps72
  go_wp2
  go_loopw [5, 6] (fun v5 v6 wr => ∃ (j o : Nat) (A3 : Option Addr) (c3 : Nat), v6 = .int .i64 (3 - (j : Int)) ∧ v5 = .slice A3 o c3 ∧ j ≤ 4 ∧ Aside0 (o = (topR n e j).length) ∧ Aside0 (KI.R 24 wr w.heap.size (fun _ => True) (.slice A3 o c3) (topR n e j)) ∧ Aside0 (Below w.heap.size w wr)) (fun _ v6 _ => (intOf v6 + 1).toNat)
  case atStart => exact ⟨0, 0, none, 0, rfl, rfl, by omega, ⟨rfl⟩, ⟨Kd.R_nil _ _ _ _ _⟩, ⟨Below.refl _ _⟩⟩
  case round =>
    obtain ⟨j, o, A3, c3, rfl, rfl, hj, HO, HR, HB⟩ := hrel
    by_cases hj4 : j < 4
    · obtain ⟨k, hk, hk2⟩ : ∃ k : Nat, (3 - (j : Int)) = (k : Int) ∧ k = 3 - j := ⟨3 - j, by omega, rfl⟩
      rw [hk]
      have HK := Aside0.mk (And.intro hk hk2)
      have hk0 : (0 : Int) ≤ (k : Int) := by omega
      have hkw : wrap64 ((k : Int) - 1) = (k : Int) - 1 := by have : k ≤ 3 := (by omega); unfold wrap64; omega
      have HJ := Aside0.mk hj4
      clear hk hk2 hj4 hj
      go_wp2
      go_loopw [5, 7] (fun v5 v7 wr => ∃ (i o : Nat) (A3 : Option Addr) (c3 : Nat), v7 = .int .i64 (i : Int) ∧ v5 = .slice A3 o c3 ∧ i ≤ 17 ∧ Aside0 (o = (topR n e j ++ rowR n e k i).length) ∧ Aside0 (KI.R 24 wr w.heap.size (fun _ => True) (.slice A3 o c3) (topR n e j ++ rowR n e k i)) ∧ Aside0 (Below w.heap.size w wr)) (fun _ v7 _ => 17 - (intOf v7).toNat)
      case atStart => exact ⟨0, o, A3, c3, rfl, rfl, by omega, ⟨by rw [rowR, List.append_nil]; exact HO.out⟩, ⟨by rw [rowR, List.append_nil]; exact HR.out⟩, HB⟩
      case round =>
        clear HO HR HB
        obtain ⟨i, o1, A1, c1, rfl, rfl, hi, HO, HR, HB⟩ := hrel
        by_cases hi7 : i < 17
        · have hii : (i : Int) < 17 := by omega
          have HW := Aside0.mk (fun W => rwidth_c n (k : Int) (i : Int) W)
          have HRW := Aside0.mk (show rowR n e k (i + 1) = rowR n e k i ++ (if tkn e (inTile (i : Int) (cntv n k)) then [((k : Int), (i : Int))] else []) from rfl)
          have HLN := Aside0.mk (show (topR n e j ++ rowR n e k i).length ≤ 1000 by have h1 := top_len n e j; have h2 := row_len n e k i; have := HJ.out; rw [List.length_append]; omega)
          generalize inTile (i : Int) (cntv n k) = q at *
          by_cases hc : tkn e q = true
          · rw [hc, if_pos rfl] at HRW
            have hcs : (0 < q ∧ q < 4) ∨ (0 < q ∧ ¬ q < 4 ∧ e = false) := by
              unfold tkn at hc
              simp at hc
              by_cases h4 : q < 4
              · exact .inl ⟨hc.1, h4⟩
              · exact .inr ⟨hc.1, h4, hc.2.resolve_left h4⟩
            clear hc
            have HT : Aside0 (topR n e j ++ rowR n e k (i + 1) = (topR n e j ++ rowR n e k i) ++ [((k : Int), (i : Int))]) := ⟨by rw [HRW.out, List.append_assoc]⟩
            generalize topR n e j ++ rowR n e k i = ol at *
            rcases hcs with ⟨hq0, hq4⟩ | ⟨hq0, hq4, rfl⟩
            all_goals
              go_wp2_with (first
                | (go_at_call 25; (with_reducible refine (HW.out _).mono ?_); rintro r w_ ⟨rfl, rfl⟩)
                | ((with_reducible refine gate_builtin (b := .append) (xs := #[.tmp 31, .tmp 35]) rfl ?_); at_builtin; refine Kd.R_append (P := Try.prog) KI (w0 := w) (W := wr) w.heap.size rfl (.tmp 31) (.tmp 35) 88 24 (.agg #[.int .i64 0, .int .i64 0]) 16 rfl Try.underlying88 info_id rfl (by decide) (by decide) (.slice A1 o1 c1) ol ((k : Int), (i : Int)) (encI ((k : Int), (i : Int))) (fun _ => True) (fun _ => False) rfl rfl rfl (fun _ h => h.elim) (fun _ _ => trivial) HR.out HB.out HB.out.size (by have := HLN.out; omega) ?_; intro v2 w2 hr2 hb2 hg2 hat2; obtain ⟨A4, c4, e4⟩ := Kd.R_slice hr2; have e5 : (ol ++ [((k : Int), (i : Int))]).length = ol.length + 1 := List.length_append; have HR2 := Aside0.mk hr2; have HB2 := Aside0.mk hb2; have HE4 := Aside0.mk (e4.trans (by rw [e5, ← HO.out])); clear hr2 hb2 hg2 hat2 e5 e4))
              go_roundw
              case rel => exact ⟨i + 1, o1 + 1, A4, c4, by go_num, HE4.out, hi7, ⟨by rw [HT.out, HO.out, List.length_append]; rfl⟩, ⟨by rw [HT.out, ← HE4.out]; exact HR2.out⟩, HB2⟩
              case measure => simp [intOf]; omega
          · rw [if_neg hc, List.append_nil] at HRW
            have hcs : (¬ 0 < q) ∨ (0 < q ∧ ¬ q < 4 ∧ e = true) := by
              unfold tkn at hc
              simp at hc
              cases e <;> simp_all <;> omega
            clear hc
            rcases hcs with hq0 | ⟨hq0, hq4, rfl⟩
            all_goals
              go_wp2_with (first
                | (go_at_call 25; (with_reducible refine (HW.out _).mono ?_); rintro r w_ ⟨rfl, rfl⟩))
              go_roundw
              case rel => exact ⟨i + 1, o1, A1, c1, by go_num, rfl, hi7, ⟨by rw [HRW.out]; exact HO.out⟩, ⟨by rw [HRW.out]; exact HR.out⟩, HB⟩
              case measure => simp [intOf]; omega
        · have hii : ¬ (i : Int) < 17 := by omega
          obtain rfl : i = 17 := by omega
          go_wp2
          go_roundw
          case rel => exact ⟨j + 1, o1, A1, c1, by have := HK.out.1; go_num, rfl, HJ.out, ⟨by rw [topR, ← HK.out.2]; exact HO.out⟩, ⟨by rw [topR, ← HK.out.2]; exact HR.out⟩, HB⟩
          case measure => simp [intOf]; omega
    · obtain rfl : j = 4 := by omega
      go_wp2
      go_ret
      exact ⟨_, rfl, by rw [HPL.out]; exact HR.out, HB.out⟩
end Go.Proofs.Ytondnammkcgjpaa.Ft
