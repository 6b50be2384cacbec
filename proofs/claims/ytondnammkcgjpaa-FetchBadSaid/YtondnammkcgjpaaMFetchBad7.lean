/- Here is proved: what the stores into the maps of what was fetched make; what (*fetch.Fetch).takeBundle does. Conditions: what is stored is as wide as it must be. -/
import Derived.Test.YtondnammkcgjpaaMFetchBad5
import Derived.Test.YtondnammkcgjpaaMFetchBad6
set_option linter.unusedVariables false
set_option linter.unusedSimpArgs false
set_option maxRecDepth 100000
set_option maxHeartbeats 8000000
namespace Go.Proofs.Ytondnammkcgjpaa.Ft
open Go Go.RowKit Go.Shelf Go.Proofs.YtondnammkcgjpaaW.PrintWords Go.Proofs.YtondnammkcgjpaaW.PrintLast Go.Proofs.YtondnammkcgjpaaW.PrintMore Go.Proofs.Ytondnammkcgjpaa.Mp
open Go.Proofs.Ytondnammkcgjpaa.ShaP Go.Proofs.Ytondnammkcgjpaa.Mk Go.Proofs.Ytondnammkcgjpaa.Rg Go.Proofs.Ytondnammkcgjpaa.RgP Go.Proofs.Ytondnammkcgjpaa.Rf Go.Proofs.Ytondnammkcgjpaa.RgL Go.Proofs.Ytondnammkcgjpaa.Til Go.Proofs.Ytondnammkcgjpaa.Fg Go.Proofs.Ytondnammkcgjpaa.Fun Go.Proofs.Ytondnammkcgjpaa.Rng
open Go.Maps (Keyed)
variable {base g gt gb : Nat} {s : FS} {W W1 w : World}
theorem Rows.store {K : Type} {gm : Nat} {k tm : TypeId} {enc : K → Value} {F : K → Option (List ByteArray)} (h : Rows W base gm k enc F) (Kd : Keyed Try.prog k) (ht : Try.prog.underlying tm = some (.map k 22)) {key : Value} {kl : Lit} (hkey : keyOf Try.prog k key = some kl) (v : Value) :
    ∃ W1, (Instr.mapUpdate tm (.map (some gm)) key v).run Try.prog W = .ok () W1 ∧ W.mapTurned W1 gm ∧ ∀ f, IMap W Try.prog k gm f → IMap W1 Try.prog k gm (Mp.put f key v) := by
  obtain ⟨f, h1, _⟩ := h
  obtain ⟨W1, hr, _, hT⟩ := h1.store Kd ht hkey (val := v)
  refine ⟨W1, hr, hT, fun f' h' => ?_⟩
  obtain ⟨W2, hr2, hm2, _⟩ := h'.store Kd ht hkey (val := v)
  rw [hr] at hr2
  cases hr2
  exact hm2
theorem Rows.erase {K : Type} {gm : Nat} {k tm : TypeId} {enc : K → Value} {F : K → Option (List ByteArray)} (h : Rows W base gm k enc F) (Kd : Keyed Try.prog k) (ht : Try.prog.underlying tm = some (.map k 22)) {key : Value} {kl : Lit} (hkey : keyOf Try.prog k key = some kl) (ty : TypeId) :
    ∃ W1, (Builtin.delete_ #[tm, k] ty #[.map (some gm), key]).run Try.prog W = .ok (.tuple #[]) W1 ∧ W.mapTurned W1 gm ∧ ∀ f, IMap W Try.prog k gm f → IMap W1 Try.prog k gm (Mp.drop f key) := by
  obtain ⟨f, h1, _⟩ := h
  obtain ⟨W1, hr, _, hT⟩ := h1.del Kd ht hkey ty
  refine ⟨W1, hr, hT, fun f' h' => ?_⟩
  obtain ⟨W2, hr2, hm2, _⟩ := h'.del Kd ht hkey ty
  rw [hr] at hr2
  cases hr2
  exact hm2
noncomputable def putT (s : FS) (x : Int × Int) (l : List ByteArray) : FS := ⟨s.size, s.root, upd s.tiles x (some l), s.bund, s.asked⟩
noncomputable def dropT (s : FS) (x : Int × Int) : FS := ⟨s.size, s.root, upd s.tiles x none, s.bund, s.asked⟩
noncomputable def putB (s : FS) (x : Int) (l : List ByteArray) : FS := ⟨s.size, s.root, s.tiles, upd s.bund x (some l), s.asked⟩
theorem IsF.storeT (h : IsF base W g gt gb s) (x : Int × Int) (v : Value) (l : List ByteArray) (hv : SR W base v l) (h0 : 0 < l.length) (h4 : l.length ≤ 4) (w0 : wf x.1) (w1 : wf x.2) :
    ∃ W1, (Instr.mapUpdate 111 (.map (some gt)) (.agg #[.int .i64 x.1, .int .i64 x.2]) v).run Try.prog W = .ok () W1 ∧ IsF base W1 g gt gb (putT s x l) ∧ Turn (Foot g gt gb) W W1 := by
  obtain ⟨kl, hkl⟩ := key24 w0 w1
  obtain ⟨W1, hr, hT, hm⟩ := h.tl.store K24 Try.underlying111 hkl v
  exact ⟨W1, hr, h.putTile x v l hv h0 h4 hT hm, h.turned hT (.inr (.inl rfl))⟩
theorem IsF.eraseT (h : IsF base W g gt gb s) (x : Int × Int) (w0 : wf x.1) (w1 : wf x.2) (ty : TypeId) :
    ∃ W1, (Builtin.delete_ #[111, 24] ty #[.map (some gt), .agg #[.int .i64 x.1, .int .i64 x.2]]).run Try.prog W = .ok (.tuple #[]) W1 ∧ IsF base W1 g gt gb (dropT s x) ∧ Turn (Foot g gt gb) W W1 := by
  obtain ⟨kl, hkl⟩ := key24 w0 w1
  obtain ⟨W1, hr, hT, hm⟩ := h.tl.erase K24 Try.underlying111 hkl ty
  exact ⟨W1, hr, h.dropTile x hT hm, h.turned hT (.inr (.inl rfl))⟩
theorem IsF.storeB (h : IsF base W g gt gb s) (x : Int) (v : Value) (l : List ByteArray) (hv : SR W base v l) (h0 : 0 < l.length) (h4 : l.length ≤ 4) (w0 : wf x) :
    ∃ W1, (Instr.mapUpdate 112 (.map (some gb)) (.int .i64 x) v).run Try.prog W = .ok () W1 ∧ IsF base W1 g gt gb (putB s x l) ∧ Turn (Foot g gt gb) W W1 := by
  obtain ⟨kl, hkl⟩ := key3 w0
  obtain ⟨W1, hr, hT, hm⟩ := h.bn.store K3 Try.underlying112 hkl v
  exact ⟨W1, hr, h.putBund x v l hv h0 h4 hT hm, h.turned hT (.inr (.inr rfl))⟩
def okB (s : FS) (x : Int × Int) (l : List ByteArray) : Bool := decide ((l.map leafF).take (tileOf s x).length = tileOf s x)
theorem IsF.tile_at (h : IsF base w g gt gb s) (x : Int × Int) (w0 : wf x.1) (w1 : wf x.2) : ∃ A c, SR w base (.slice A (tileOf s x).length c) (tileOf s x) ∧
    ∀ W, Below w.heap.size w W → (Instr.lookup 111 (.map (some gt)) (.agg #[.int .i64 x.1, .int .i64 x.2]) false).run Try.prog W = .ok (.slice A (tileOf s x).length c) W := by
  obtain ⟨kl, hkl⟩ := key24 w0 w1
  obtain ⟨f, hm, hx⟩ := h.tl
  obtain ⟨q1, q2⟩ := hx x
  cases hq : s.tiles x with
  | none =>
    have e : tileOf s x = [] := by unfold tileOf; rw [hq]; rfl
    rw [e]
    exact ⟨none, 0, Kd.R_nil _ _ _ _ _, fun W hB => look_s (hm.below' hB) K24 Try.underlying111 hkl (by show (f (idV x)).getD _ = _; rw [q1 hq]; rfl)⟩
  | some l =>
    have e : tileOf s x = l := by unfold tileOf; rw [hq]; rfl
    obtain ⟨v, hf, hr, _⟩ := q2 l hq
    obtain ⟨A, c, rfl⟩ := Kd.R_slice hr
    rw [e]
    exact ⟨A, c, hr, fun W hB => look_s (hm.below' hB) K24 Try.underlying111 hkl (by show (f (idV x)).getD _ = _; rw [hf]; rfl)⟩
theorem takeB_c (x0 x1 : Int) (A : Option Addr) (c : Nat) (l : List ByteArray) (h : IsF base w g gt gb s) (hb : base ≤ w.heap.size) (hlen : (tileOf s (x0, x1)).length ≤ l.length) (h0 : 0 < l.length) (h4 : l.length ≤ 4) (hsz : ∀ y ∈ l, y.size ≤ 100000)
    (w0 : wf x0) (w1 : wf x1) (hr : Kd.C Kd.string w A l.length l) :
    Calls Try.prog 97 #[.pointer (some ⟨g, 0, none⟩), .agg #[.int .i64 x0, .int .i64 x1], .slice A l.length c] w fun e w' => e = .returned (.int .i64 (if okB s (x0, x1) l then 0 else 8)) ∧
      IsF base w' g gt gb (if okB s (x0, x1) l then putB s x1 l else s) ∧ Turn (Foot g gt gb) w w' := by
  have OW := Aside0.mk (Mem.Own.nil w)
  have HF := Aside0.mk h
  have HR := Aside0.mk hr
  have HB := Aside0.mk hb
  have HSZ := Aside0.mk hsz
  have HL := Aside0.mk (show 0 < l.length ∧ l.length ≤ 4 from ⟨h0, h4⟩)
  have HLE := Aside0.mk hlen
  have HW := Aside0.mk w1
  obtain ⟨At, ct, hrt, hlk⟩ := h.tile_at (x0, x1) w0 w1
  have HOK := Aside0.mk (show okB s (x0, x1) l = decide ((l.map leafF).take (tileOf s (x0, x1)).length = tileOf s (x0, x1)) from rfl)
  generalize tileOf s (x0, x1) = T at *
  have HRT := Aside0.mk hrt
  have HLK := Aside0.mk hlk
  have hli : (l.length : Int) ≤ 4 := by omega
  have hTl : T.length ≤ 4 := by omega
  obtain ⟨m, hm⟩ : ∃ m, T.length = m := ⟨_, rfl⟩
  rw [hm] at HOK HRT HLK hTl
  have HM := Aside0.mk hm
  have hmi : (m : Int) ≤ 4 := by omega
  have hml : (m : Int) ≤ (l.length : Int) := by omega
  have HCL := Aside0.mk (fun W h => clone_c A c l W (by omega) h)
  clear h hr hb hsz h0 h4 hlen w0 w1 hrt hlk hm
  obtain ⟨cd, hcd⟩ : ∃ cd : Int, (if okB s (x0, x1) l then 0 else 8) = cd := ⟨_, rfl⟩
  obtain ⟨s9, hs9⟩ : ∃ s9, (if okB s (x0, x1) l then putB s x1 l else s) = s9 := ⟨_, rfl⟩
  rw [hcd, hs9]
  have HCD := Aside0.mk hcd
  have HS9 := Aside0.mk hs9
  clear hcd hs9
  go_enter Try.func97, Try.ntmps97
  go_wp2_with (first
    | ((with_reducible refine gate_dst (N := 4) rfl ?_); refine box_event ?hg (N := 4) ?hd (cs := #[.int .i64 x0, .int .i64 x1]) (t := 24) ?hr ?_; (case hd => rfl); (case hg => rfl); (case hr => first | (go_simp; done) | (go_simp; rfl)); intro gI hg W_ hb hbb; have n_ : Aside0 (Mem.Own w W_ [(gI, #[.int .i64 x0, .int .i64 x1], 24)]) := ⟨OW.out.new hg hb hbb⟩; clear OW hb hbb hg; have OW := n_; clear n_))
  have OD := Aside0.mk OW.out.drew
  have HFD := Aside0.mk ((HF.out.below OW.out.below).drew)
  have b0 : W_.drew.cell? ⟨gI, 0, none⟩ = some (.int .i64 x0) := (OD.out.cell 0 rfl 0).trans rfl
  have b1 : W_.drew.cell? ⟨gI, 1, none⟩ = some (.int .i64 x1) := (OD.out.cell 0 rfl 1).trans rfl
  have c2 : W_.drew.cell? ⟨g, 74, none⟩ = some (.map (some gt)) := (HFD.out.cell 2).trans rfl
  clear OW
  refine start_ (n := 8) (S := fun w' => Below (W_).drew.heap.size (W_).drew w') (ds := []) #[false, false, false, false, false, false, false, false] (by kernel_rfl) rfl rfl (Below.refl _ _) (fun hHeld => ?_)
  generalize (W_).drew = W0 at *
  refine pure_ (i := 0) (N := (some 9)) (v := ?_) (a' := ?_) #[true, false, false, false, false, false, false, false] rfl rfl (by kernel_rfl) (fun _ _ _ h => h) (Or.inl ⟨by rfl, ?_⟩) ?_ ?_
  rotate_left
  · intro w'
    go_simp
    first | done | with_reducible rfl
  rotate_left
  · simp only [Act.put, List.setIfInBounds_toArray, List.set_cons_zero, List.set_cons_succ, i64_w, i32_w]
    rfl
  refine pure_ (i := 1) (N := (some 10)) (v := ?_) (a' := ?_) #[true, true, false, false, false, false, false, false] rfl rfl (by kernel_rfl) (fun _ _ _ h => h) (Or.inl ⟨by rfl, ?_⟩) ?_ ?_
  rotate_left
  · intro w'
    skip
    go_simp
    first | done | with_reducible rfl
  rotate_left
  · simp only [Act.put, List.setIfInBounds_toArray, List.set_cons_zero, List.set_cons_succ, i64_w, i32_w]
    rfl
  refine pure_ (i := 2) (N := (some 11)) (v := ?_) (a' := ?_) #[true, true, true, false, false, false, false, false] rfl rfl (by kernel_rfl) (fun _ _ _ h => h) (Or.inl ⟨by rfl, ?_⟩) ?_ ?_
  rotate_left
  · intro w'
    go_simp
    first | done | with_reducible rfl
  rotate_left
  · simp only [Act.put, List.setIfInBounds_toArray, List.set_cons_zero, List.set_cons_succ, i64_w, i32_w]
    rfl
  refine take_ (i := 3) (N := (some 12)) (v := ?_) (a' := ?_) #[true, true, true, true, false, false, false, false] rfl rfl (by kernel_rfl) (fun _ _ _ h => h) (Or.inl ⟨by rfl, ?_⟩) hHeld ?_ ?_
  rotate_left
  · intro w' hS
    have s0 := pw_cell_below hS c2
    go_simp
    first | done | with_reducible rfl
  rotate_left
  · simp only [Act.put, List.setIfInBounds_toArray, List.set_cons_zero, List.set_cons_succ, i64_w, i32_w]
    rfl
  refine take_ (i := 4) (N := (some 13)) (v := ?_) (a' := ?_) #[true, true, true, true, true, false, false, false] rfl rfl (by kernel_rfl) (fun _ _ _ h => h) (Or.inl ⟨by rfl, ?_⟩) hHeld ?_ ?_
  rotate_left
  · intro w' hS
    have s0 := pw_cell_below hS b0
    have s1 := pw_cell_below hS b1
    go_simp
    first | done | with_reducible rfl
  rotate_left
  · simp only [Act.put, List.setIfInBounds_toArray, List.set_cons_zero, List.set_cons_succ, i64_w, i32_w]
    rfl
  refine take_ (i := 5) (N := (some 14)) (v := ?_) (a' := ?_) #[true, true, true, true, true, true, false, false] rfl rfl (by kernel_rfl) (fun _ _ _ h => h) (Or.inl ⟨by rfl, ?_⟩) hHeld ?_ ?_
  rotate_left
  · intro w' hS
    have hl := HLK.out w' (below_step OD.out.below hS)
    go_simp
    first | done | with_reducible rfl
  rotate_left
  · simp only [Act.put, List.setIfInBounds_toArray, List.set_cons_zero, List.set_cons_succ, i64_w, i32_w]
    rfl
  refine pure_ (i := 6) (N := (some 15)) (v := ?_) (a' := ?_) #[true, true, true, true, true, true, true, false] rfl rfl (by kernel_rfl) (fun _ _ _ h => h) (Or.inl ⟨by rfl, ?_⟩) ?_ ?_
  rotate_left
  · intro w'
    go_simp
    first | done | with_reducible rfl
  rotate_left
  · simp only [Act.put, List.setIfInBounds_toArray, List.set_cons_zero, List.set_cons_succ, i64_w, i32_w]
    rfl
  refine pure_ (i := 7) (N := (some 16)) (v := ?_) (a' := ?_) #[true, true, true, true, true, true, true, true] rfl rfl (by kernel_rfl) (fun _ _ _ h => h) (Or.inl ⟨by rfl, ?_⟩) ?_ ?_
  rotate_left
  · intro w'
    go_simp
    first | done | with_reducible rfl
  rotate_left
  · simp only [Act.put, List.setIfInBounds_toArray, List.set_cons_zero, List.set_cons_succ, i64_w, i32_w]
    rfl
  refine done_ (by kernel_rfl) ?_
  have OE := Aside0.mk (OD.out.step hHeld)
  clear OD HFD b0 b1 c2 hHeld
  go_wp2_with fail
  go_loopw [16] (fun v16 wr => ∃ i : Nat, v16 = .int .i64 i ∧ i ≤ m ∧ Aside0 ((l.take i).map leafF = T.take i) ∧ Aside0 (Below W0.heap.size W0 wr)) (fun v16 _ => m - (intOf v16).toNat)
  case atStart => exact ⟨0, rfl, Nat.zero_le _, ⟨rfl⟩, ⟨Below.refl _ _⟩⟩
  case round =>
    obtain ⟨i, rfl, hi, HE, HBW⟩ := hrel
    by_cases h1 : i < m
    · have h1i : (i : Int) < (m : Int) := by omega
      have h1l : (i : Int) < (l.length : Int) := by omega
      have hiT : i < T.length := by rw [HM.out]; exact h1
      have hil : i < l.length := by omega
      have HI1 := Aside0.mk h1
      have hCt := (Kd.R_reads' HRT.out).2.2
      have hBall := below_step OE.out.below HBW.out
      obtain ⟨ad, ea, hx⟩ := Kd.at_string (Kd.C_below hCt hBall) (i : Int) (by omega) (by omega)
      cases ea
      rw [rdOf_at T i hiT, Int.toNat_natCast] at hx
      obtain ⟨ad2, ea2, hy⟩ := Kd.at_string (Kd.C_below HR.out hBall) (i : Int) (by omega) (by omega)
      cases ea2
      rw [rdOf_at l i hil, Int.toNat_natCast] at hy
      have hsy := HSZ.out l[i] (List.getElem_mem hil)
      have HT1 := Aside0.mk (List.take_succ_eq_append_getElem hiT)
      have HT2 := Aside0.mk (List.take_succ_eq_append_getElem hil)
      generalize T[i] = t at *
      generalize l[i] = y at *
      have HLF := Aside0.mk (fun W => mleaf_c y hsy W)
      have HBD := Aside0.mk HBW.out.drew
      have HFR := Aside0.mk ((HF.out.below hBall).drew)
      clear hCt hBall hiT hil h1 hsy
      go_wp2_with fail
      have hy2 : wr.drew.cell? (ad2.add i) = some (.string y) := hy
      clear hx hy HBW
      refine start_ (n := 11) (S := fun w' => Below (wr).drew.heap.size (wr).drew w') (ds := []) #[false, false, false, false, false, false, false, false, false, false, false] (by kernel_rfl) rfl rfl (Below.refl _ _) (fun hHeld => ?_)
      generalize (wr).drew = W1 at *
      refine pure_ (i := 0) (N := (some 21)) (v := ?_) (a' := ?_) #[true, false, false, false, false, false, false, false, false, false, false] rfl rfl (by kernel_rfl) (fun _ _ _ h => h) (Or.inl ⟨by rfl, ?_⟩) ?_ ?_
      rotate_left
      · intro w'
        go_simp
        first | done | with_reducible rfl
      rotate_left
      · simp only [Act.put, List.setIfInBounds_toArray, List.set_cons_zero, List.set_cons_succ, i64_w, i32_w]
        rfl
      refine pure_ (i := 1) (N := (some 22)) (v := ?_) (a' := ?_) #[true, true, false, false, false, false, false, false, false, false, false] rfl rfl (by kernel_rfl) (fun _ _ _ h => h) (Or.inl ⟨by rfl, ?_⟩) ?_ ?_
      rotate_left
      · intro w'
        skip
        go_simp
        first | done | with_reducible rfl
      rotate_left
      · simp only [Act.put, List.setIfInBounds_toArray, List.set_cons_zero, List.set_cons_succ, i64_w, i32_w]
        rfl
      refine pure_ (i := 2) (N := (some 23)) (v := ?_) (a' := ?_) #[true, true, true, false, false, false, false, false, false, false, false] rfl rfl (by kernel_rfl) (fun _ _ _ h => h) (Or.inl ⟨by rfl, ?_⟩) ?_ ?_
      rotate_left
      · intro w'
        go_simp
        first | done | with_reducible rfl
      rotate_left
      · simp only [Act.put, List.setIfInBounds_toArray, List.set_cons_zero, List.set_cons_succ, i64_w, i32_w]
        rfl
      refine take_ (i := 3) (N := (some 24)) (a' := ?_) #[true, true, true, true, false, false, false, false, false, false, false] rfl rfl (by kernel_rfl) (fun _ _ _ h => h) (yields_fet (by rfl) (.tmp 23) rfl g rfl (fun w' hS => HFR.out.below hS)) hHeld ?_ ?_
      rotate_left
      · simp only [Act.put, List.setIfInBounds_toArray, List.set_cons_zero, List.set_cons_succ, i64_w, i32_w]
        rfl
      refine pure_ (i := 4) (N := (some 25)) (v := ?_) (a' := ?_) #[true, true, true, true, true, false, false, false, false, false, false] rfl rfl (by kernel_rfl) (fun _ _ _ h => h) (Or.inl ⟨by rfl, ?_⟩) ?_ ?_
      rotate_left
      · intro w'
        go_simp
        first | done | with_reducible rfl
      rotate_left
      · simp only [Act.put, List.setIfInBounds_toArray, List.set_cons_zero, List.set_cons_succ, i64_w, i32_w]
        rfl
      refine pure_ (i := 5) (N := (some 26)) (v := ?_) (a' := ?_) #[true, true, true, true, true, true, false, false, false, false, false] rfl rfl (by kernel_rfl) (fun _ _ _ h => h) (Or.inl ⟨by rfl, ?_⟩) ?_ ?_
      rotate_left
      · intro w'
        go_simp
        first | done | with_reducible rfl
      rotate_left
      · simp only [Act.put, List.setIfInBounds_toArray, List.set_cons_zero, List.set_cons_succ, i64_w, i32_w]
        rfl
      refine pure_ (i := 6) (N := (some 27)) (v := ?_) (a' := ?_) #[true, true, true, true, true, true, true, false, false, false, false] rfl rfl (by kernel_rfl) (fun _ _ _ h => h) (Or.inl ⟨by rfl, ?_⟩) ?_ ?_
      rotate_left
      · intro w'
        go_simp
        first | done | with_reducible rfl
      rotate_left
      · simp only [Act.put, List.setIfInBounds_toArray, List.set_cons_zero, List.set_cons_succ, i64_w, i32_w]
        rfl
      refine take_ (i := 7) (N := (some 28)) (v := ?_) (a' := ?_) #[true, true, true, true, true, true, true, true, false, false, false] rfl rfl (by kernel_rfl) (fun _ _ _ h => h) (Or.inl ⟨by rfl, ?_⟩) hHeld ?_ ?_
      rotate_left
      · intro w' hS
        have s0 := pw_cell_below hS hy2
        go_simp
        first | done | with_reducible rfl
      rotate_left
      · simp only [Act.put, List.setIfInBounds_toArray, List.set_cons_zero, List.set_cons_succ, i64_w, i32_w]
        rfl
      refine pure_ (i := 9) (N := (some 30)) (v := ?_) (a' := ?_) #[true, true, true, true, true, true, true, true, false, true, false] rfl rfl (by kernel_rfl) (fun _ _ _ h => h) (Or.inl ⟨by rfl, ?_⟩) ?_ ?_
      rotate_left
      · intro w'
        go_simp
        first | done | with_reducible rfl
      rotate_left
      · simp only [Act.put, List.setIfInBounds_toArray, List.set_cons_zero, List.set_cons_succ, i64_w, i32_w]
        rfl
      refine one_ (i := 8) (N := (some 29)) #[true, true, true, true, true, true, true, true, true, true, false] rfl rfl (by kernel_rfl) (by decide) (fun K hK => ?_)
      refine goes_ Try.func63 (by kernel_rfl) rfl #[.agg TV, .string y] (by rfl) rfl rfl (by (try simp only [List.map_toArray, List.map_cons, List.map_nil]); first | done | rfl) ?_
      (with_reducible refine (HLF.out _).mono ?_)
      rintro e wa ⟨rfl, hB⟩
      refine ⟨_, rfl, ?_⟩
      have hS2 : Below W1.heap.size W1 wa := below_step hHeld hB
      clear hB hHeld
      refine hK.out _ _ hS2 (fun hHeld => ?_)
      clear hK K
      refine norm_ (a' := ?_) ?_ ?_
      rotate_left
      · show Act.put _ (some 29) _ = _
        simp only [Act.put, List.setIfInBounds_toArray, List.set_cons_zero, List.set_cons_succ, i64_w, i32_w]
        rfl
      refine pure_ (i := 10) (N := (some 31)) (v := ?_) (a' := ?_) #[true, true, true, true, true, true, true, true, true, true, true] rfl rfl (by kernel_rfl) (fun _ _ _ h => h) (Or.inl ⟨by rfl, ?_⟩) ?_ ?_
      rotate_left
      · intro w'
        go_simp
        first | done | with_reducible rfl
      rotate_left
      · simp only [Act.put, List.setIfInBounds_toArray, List.set_cons_zero, List.set_cons_succ, i64_w, i32_w]
        rfl
      refine done_ (by kernel_rfl) ?_
      have HBN := Aside0.mk (below_step HBD.out hHeld)
      clear hHeld hy2 HFR HBD HLF
      by_cases hq : leafF y = t
      · have hqb : ((leafF y).toList != t.toList) = false := by rw [hq]; simp
        have hqc : ((leafF y).toList == t.toList) = true := by rw [hq]; simp
        have HE2 : Aside0 ((l.take (i + 1)).map leafF = T.take (i + 1)) := ⟨by rw [HT1.out, HT2.out, List.map_append, HE.out]; simp [hq]⟩
        rw [show (!((leafF y).toList == t.toList)) = false by rw [hqc]; rfl]
        clear hq hqb hqc
        go_wp2_with fail
        go_roundw
        case rel => exact ⟨i + 1, by go_num, HI1.out, HE2, HBN⟩
        case measure => simp [intOf]; have := HI1.out; omega
      · have hqb : ((leafF y).toList != t.toList) = true := bne_iff_ne.2 (fun e => hq (toList_inj e))
        have hqc : ((leafF y).toList == t.toList) = false := beq_eq_false_iff_ne.2 (fun e => hq (toList_inj e))
        have HNO : Aside0 (okB s (x0, x1) l = false) := ⟨by
          rw [HOK.out]
          refine decide_eq_false (fun e => hq ?_)
          have e1 := congrArg (fun z => z.take (i + 1)) e
          simp only [List.take_take, Nat.min_eq_left HI1.out] at e1
          rw [← List.map_take, HT1.out, HT2.out, List.map_append, HE.out] at e1
          have e2 := List.append_cancel_left e1
          simpa using e2⟩
        rw [show (!((leafF y).toList == t.toList)) = true by rw [hqc]; rfl]
        clear hq hqb hqc
        go_wp2_with fail
        go_ret
        have e1 := HCD.out
        have e2 := HS9.out
        rw [HNO.out] at e1 e2
        rw [← e1, ← e2]
        exact ⟨rfl, HF.out.below (below_step OE.out.below HBN.out), Turn.below (below_step OE.out.below HBN.out)⟩
    · have h1i : ¬ (i : Int) < (m : Int) := by omega
      obtain rfl : i = m := by omega
      have HYES : Aside0 (okB s (x0, x1) l = true) := ⟨by
        rw [HOK.out]
        refine decide_eq_true ?_
        have e := HE.out
        rw [← List.map_take, e, ← HM.out]
        exact List.take_length⟩
      have hBall := below_step OE.out.below HBW.out
      go_wp2_with fail
      have HFR := Aside0.mk ((HF.out.below hBall).drew)
      have OR := Aside0.mk (OE.out.step HBW.out).drew
      have HRR := Aside0.mk (Kd.C_drew (Kd.C_below HR.out hBall))
      have d1 : wr.drew.cell? ⟨gI, 1, none⟩ = some (.int .i64 x1) := (OR.out.cell 0 rfl 1).trans rfl
      have c3 : wr.drew.cell? ⟨g, 75, none⟩ = some (.map (some gb)) := (HFR.out.cell 3).trans rfl
      clear HE HBW hBall
      refine start_ (n := 9) (S := fun w' => Below (wr).drew.heap.size (wr).drew w') (ds := [8]) #[false, false, false, false, false, false, false, false, false] (by kernel_rfl) rfl rfl (Below.refl _ _) (fun hHeld => ?_)
      generalize (wr).drew = W1 at *
      refine pure_ (i := 0) (N := (some 33)) (v := ?_) (a' := ?_) #[true, false, false, false, false, false, false, false, false] rfl rfl (by kernel_rfl) (fun _ _ _ h => h) (Or.inl ⟨by rfl, ?_⟩) ?_ ?_
      rotate_left
      · intro w'
        go_simp
        first | done | with_reducible rfl
      rotate_left
      · simp only [Act.put, List.setIfInBounds_toArray, List.set_cons_zero, List.set_cons_succ, i64_w, i32_w]
        rfl
      refine pure_ (i := 1) (N := (some 34)) (v := ?_) (a' := ?_) #[true, true, false, false, false, false, false, false, false] rfl rfl (by kernel_rfl) (fun _ _ _ h => h) (Or.inl ⟨by rfl, ?_⟩) ?_ ?_
      rotate_left
      · intro w'
        skip
        go_simp
        first | done | with_reducible rfl
      rotate_left
      · simp only [Act.put, List.setIfInBounds_toArray, List.set_cons_zero, List.set_cons_succ, i64_w, i32_w]
        rfl
      refine pure_ (i := 2) (N := (some 35)) (v := ?_) (a' := ?_) #[true, true, true, false, false, false, false, false, false] rfl rfl (by kernel_rfl) (fun _ _ _ h => h) (Or.inl ⟨by rfl, ?_⟩) ?_ ?_
      rotate_left
      · intro w'
        go_simp
        first | done | with_reducible rfl
      rotate_left
      · simp only [Act.put, List.setIfInBounds_toArray, List.set_cons_zero, List.set_cons_succ, i64_w, i32_w]
        rfl
      refine take_ (i := 3) (N := (some 36)) (v := ?_) (a' := ?_) #[true, true, true, true, false, false, false, false, false] rfl rfl (by kernel_rfl) (fun _ _ _ h => h) (Or.inl ⟨by rfl, ?_⟩) hHeld ?_ ?_
      rotate_left
      · intro w' hS
        have s0 := pw_cell_below hS c3
        go_simp
        first | done | with_reducible rfl
      rotate_left
      · simp only [Act.put, List.setIfInBounds_toArray, List.set_cons_zero, List.set_cons_succ, i64_w, i32_w]
        rfl
      refine pure_ (i := 4) (N := (some 37)) (v := ?_) (a' := ?_) #[true, true, true, true, true, false, false, false, false] rfl rfl (by kernel_rfl) (fun _ _ _ h => h) (Or.inl ⟨by rfl, ?_⟩) ?_ ?_
      rotate_left
      · intro w'
        go_simp
        first | done | with_reducible rfl
      rotate_left
      · simp only [Act.put, List.setIfInBounds_toArray, List.set_cons_zero, List.set_cons_succ, i64_w, i32_w]
        rfl
      refine take_ (i := 5) (N := (some 38)) (v := ?_) (a' := ?_) #[true, true, true, true, true, true, false, false, false] rfl rfl (by kernel_rfl) (fun _ _ _ h => h) (Or.inl ⟨by rfl, ?_⟩) hHeld ?_ ?_
      rotate_left
      · intro w' hS
        have s0 := pw_cell_below hS d1
        go_simp
        first | done | with_reducible rfl
      rotate_left
      · simp only [Act.put, List.setIfInBounds_toArray, List.set_cons_zero, List.set_cons_succ, i64_w, i32_w]
        rfl
      refine pure_ (i := 6) (N := (some 39)) (v := ?_) (a' := ?_) #[true, true, true, true, true, true, true, false, false] rfl rfl (by kernel_rfl) (fun _ _ _ h => h) (Or.inl ⟨by rfl, ?_⟩) ?_ ?_
      rotate_left
      · intro w'
        go_simp
        first | done | with_reducible rfl
      rotate_left
      · simp only [Act.put, List.setIfInBounds_toArray, List.set_cons_zero, List.set_cons_succ, i64_w, i32_w]
        rfl
      refine one_ (i := 7) (N := (some 40)) #[true, true, true, true, true, true, true, true, false] rfl rfl (by kernel_rfl) (by decide) (fun K hK => ?_)
      refine goes_ Try.func51 (by kernel_rfl) rfl #[.slice A l.length c] (by rfl) rfl rfl (by (try simp only [List.map_toArray, List.map_cons, List.map_nil]); first | done | rfl) ?_
      (with_reducible refine (HCL.out _ (Kd.C_below HRR.out hHeld)).mono ?_)
      rintro e wa ⟨v9, rfl, hr9, hB⟩
      refine ⟨_, rfl, ?_⟩
      have hS2 : Below W1.heap.size W1 wa := below_step hHeld hB
      have HV := Aside0.mk (Kd.R_lower hr9 (Nat.le_trans HB.out (Nat.le_trans OR.out.size hHeld.size)))
      clear hB hHeld hr9
      refine hK.out _ _ hS2 (fun hHeld => ?_)
      clear hK K
      refine norm_ (a' := ?_) ?_ ?_
      rotate_left
      · show Act.put _ (some 40) _ = _
        simp only [Act.put, List.setIfInBounds_toArray, List.set_cons_zero, List.set_cons_succ, i64_w, i32_w]
        rfl
      refine last_ (i := 8) (N := none) #[true, true, true, true, true, true, true, true, true] rfl rfl (by kernel_rfl) (by decide) (fun K hK => ?_)
      obtain ⟨wb, hrun, hI, hT⟩ := (HFR.out.below hHeld).storeB x1 v9 l HV.out HL.out.1 HL.out.2 HW.out
      have HI9 := Aside0.mk hI
      have HT9 := Aside0.mk ((Turn.below (P := Foot g gt gb) (below_step OR.out.below hHeld)).trans hT)
      clear hI hT hHeld
      refine skip_ (w1 := wb) (by rfl) rfl (by first | (go_simp; done) | (go_simp; rfl)) ?_
      refine hK.out _ _ ?_
      clear hK K
      refine done_ (by kernel_rfl) ?_
      clear hrun
      have e1 := HCD.out
      have e2 := HS9.out
      rw [HYES.out] at e1 e2
      obtain rfl : (0 : Int) = cd := e1
      obtain rfl : putB s x1 l = s9 := e2
      go_wp2_with fail
      go_ret
      exact ⟨rfl, HI9.out, HT9.out⟩
end Go.Proofs.Ytondnammkcgjpaa.Ft
namespace Go.Proofs.Ytondnammkcgjpaa.Ft
open Go Go.RowKit Go.Shelf Go.Proofs.YtondnammkcgjpaaW.PrintWords Go.Proofs.YtondnammkcgjpaaW.PrintLast Go.Proofs.YtondnammkcgjpaaW.PrintMore Go.Proofs.Ytondnammkcgjpaa.Mp
open Go.Proofs.Ytondnammkcgjpaa.ShaP Go.Proofs.Ytondnammkcgjpaa.Mk Go.Proofs.Ytondnammkcgjpaa.Rg Go.Proofs.Ytondnammkcgjpaa.RgP Go.Proofs.Ytondnammkcgjpaa.Rf Go.Proofs.Ytondnammkcgjpaa.RgL Go.Proofs.Ytondnammkcgjpaa.Til Go.Proofs.Ytondnammkcgjpaa.Fg Go.Proofs.Ytondnammkcgjpaa.Fun Go.Proofs.Ytondnammkcgjpaa.Rng
variable {base g gt gb : Nat} {s : FS} {w : World}
def okF (s : FS) (k i : Nat) (l : List ByteArray) : Bool := decide ((tileOf s ((k : Int) + 1, ((i / 4 : Nat) : Int)))[i % 4]? = some (rootF l))
theorem wi64 (a : Int) (h0 : -1000000 ≤ a) (h1 : a ≤ 1000000) : IntKind.i64.wrap a = a := by rw [IntKind.wrap_i64]; omega
theorem takeF_c (k i : Nat) (A : Option Addr) (c : Nat) (l : List ByteArray) (h : IsF base w g gt gb s) (hb : base ≤ w.heap.size) (h4 : l.length = 4) (h32 : A32 l) (hk : k ≤ 3) (hi : i ≤ 16) (hc : 4 ≤ c) (hr : Kd.C Kd.string w A 4 l) :
    Calls Try.prog 99 #[.pointer (some ⟨g, 0, none⟩), .agg #[.int .i64 (k : Int), .int .i64 (i : Int)], .slice A 4 c] w fun e w' => e = .returned (.int .i64 (if okF s k i l then 0 else 8)) ∧
      IsF base w' g gt gb (if okF s k i l then putT s (k, i) l else s) ∧ Turn (Foot g gt gb) w w' := by
  have OW := Aside0.mk (Mem.Own.nil w)
  have HF := Aside0.mk h
  have HR := Aside0.mk hr
  have HB := Aside0.mk hb
  have HL := Aside0.mk h4
  have HU := Aside0.mk (fun (W : World) (h) => up_some A c (k : Int) (i : Int) l W h32.sm h4 hc h)
  have HCL := Aside0.mk (fun W h => clone_c A c l W (by omega) h)
  rw [h4] at HCL
  obtain ⟨q4, hq4⟩ : ∃ q4, i / 4 = q4 := ⟨_, rfl⟩
  obtain ⟨r4, hr4⟩ : ∃ r4, i % 4 = r4 := ⟨_, rfl⟩
  have hwk := wf_of (a := (k : Int)) (by omega) (by omega)
  have hwi := wf_of (a := (i : Int)) (by omega) (by omega)
  obtain ⟨At, ct, hrt, hlk⟩ := h.tile_at ((k : Int) + 1, (q4 : Int)) (wf_of (by simp only; omega) (by simp only; omega)) (wf_of (by simp only; omega) (by simp only; omega))
  have HOK := Aside0.mk (show okF s k i l = decide ((tileOf s ((k : Int) + 1, (q4 : Int)))[r4]? = some (rootF l)) by unfold okF; rw [hq4, hr4])
  generalize tileOf s ((k : Int) + 1, (q4 : Int)) = T at *
  have HRT := Aside0.mk hrt
  have HLK := Aside0.mk hlk
  have HWF := Aside0.mk (show wf (k : Int) ∧ wf (i : Int) from ⟨hwk, hwi⟩)
  have e1 : q4 ≤ 1000000000 := by omega
  have e2 : r4 ≤ 1000000000 := by omega
  have e3 : k + 1 ≤ 1000000000 := by omega
  have e4 : -1000000 ≤ (k : Int) + 1 := by omega
  have e5 : (k : Int) + 1 ≤ 1000000 := by omega
  have e6 : -1000000 ≤ (q4 : Int) := by omega
  have e7 : (q4 : Int) ≤ 1000000 := by omega
  have hr4l : (r4 : Int) < 4 := by omega
  have hd4 : Int.tdiv (i : Int) 4 = (q4 : Int) := by rw [← hq4]; exact Int.ofNat_tdiv i 4
  have hm4' : Int.tmod (i : Int) 4 = (r4 : Int) := by rw [← hr4]; exact Int.ofNat_tmod i 4
  have hd5 : (i : Int) / 4 = (q4 : Int) := by rw [← hq4]; rfl
  have hm5 : (i : Int) % 4 = (r4 : Int) := by rw [← hr4]; rfl
  have hwk1 : wrap64 ((k : Int) + 1) = (k : Int) + 1 := wr_nat (k + 1) e3
  have hwq : wrap64 (q4 : Int) = (q4 : Int) := wr_nat _ e1
  have hwr : wrap64 (r4 : Int) = (r4 : Int) := wr_nat _ e2
  have hwk2 : IntKind.i64.wrap ((k : Int) + 1) = (k : Int) + 1 := wi64 _ e4 e5
  have hwq2 : IntKind.i64.wrap (q4 : Int) = (q4 : Int) := wi64 _ e6 e7
  obtain ⟨cd, hcd⟩ : ∃ cd : Int, (if okF s k i l then 0 else 8) = cd := ⟨_, rfl⟩
  obtain ⟨s9, hs9⟩ : ∃ s9, (if okF s k i l then putT s (k, i) l else s) = s9 := ⟨_, rfl⟩
  rw [hcd, hs9]
  have HCD := Aside0.mk hcd
  have HS9 := Aside0.mk hs9
  clear e1 e2 e3 e4 e5 e6 e7 h hr hb h4 h32 hk hi hc hwk hwi hq4 hr4 hrt hlk hcd hs9
  go_enter Try.func99, Try.ntmps99
  go_wp2_with (first
    | ((with_reducible refine gate_dst (N := 4) rfl ?_); refine box_event ?hg (N := 4) ?hd (cs := #[.int .i64 (k : Int), .int .i64 (i : Int)]) (t := 24) ?hr ?_; (case hd => rfl); (case hg => rfl); (case hr => first | (go_simp; done) | (go_simp; rfl)); intro gI hg W_ hb hbb; have n_ : Aside0 (Mem.Own w W_ [(gI, #[.int .i64 (k : Int), .int .i64 (i : Int)], 24)]) := ⟨OW.out.new hg hb hbb⟩; clear OW hb hbb hg; have OW := n_; clear n_))
  have OD := Aside0.mk OW.out.drew
  have HFD := Aside0.mk ((HF.out.below OW.out.below).drew)
  have HRD := Aside0.mk (Kd.C_drew (Kd.C_below HR.out OW.out.below))
  have b0 : W_.drew.cell? ⟨gI, 0, none⟩ = some (.int .i64 (k : Int)) := (OD.out.cell 0 rfl 0).trans rfl
  have b1 : W_.drew.cell? ⟨gI, 1, none⟩ = some (.int .i64 (i : Int)) := (OD.out.cell 0 rfl 1).trans rfl
  clear OW
  refine start_ (n := 13) (S := fun w' => Below (W_).drew.heap.size (W_).drew w') (ds := []) #[false, false, false, false, false, false, false, false, false, false, false, false, false] (by kernel_rfl) rfl rfl (Below.refl _ _) (fun hHeld => ?_)
  generalize (W_).drew = W1 at *
  refine pure_ (i := 0) (N := (some 12)) (v := ?_) (a' := ?_) #[true, false, false, false, false, false, false, false, false, false, false, false, false] rfl rfl (by kernel_rfl) (fun _ _ _ h => h) (Or.inl ⟨by rfl, ?_⟩) ?_ ?_
  rotate_left
  · intro w'
    go_simp
    first | done | with_reducible rfl
  rotate_left
  · simp only [Act.put, List.setIfInBounds_toArray, List.set_cons_zero, List.set_cons_succ, i64_w, i32_w]
    rfl
  refine pure_ (i := 1) (N := (some 13)) (v := ?_) (a' := ?_) #[true, true, false, false, false, false, false, false, false, false, false, false, false] rfl rfl (by kernel_rfl) (fun _ _ _ h => h) (Or.inl ⟨by rfl, ?_⟩) ?_ ?_
  rotate_left
  · intro w'
    skip
    go_simp
    first | done | with_reducible rfl
  rotate_left
  · simp only [Act.put, List.setIfInBounds_toArray, List.set_cons_zero, List.set_cons_succ, i64_w, i32_w]
    rfl
  refine pure_ (i := 2) (N := (some 14)) (v := ?_) (a' := ?_) #[true, true, true, false, false, false, false, false, false, false, false, false, false] rfl rfl (by kernel_rfl) (fun _ _ _ h => h) (Or.inl ⟨by rfl, ?_⟩) ?_ ?_
  rotate_left
  · intro w'
    go_simp
    first | done | with_reducible rfl
  rotate_left
  · simp only [Act.put, List.setIfInBounds_toArray, List.set_cons_zero, List.set_cons_succ, i64_w, i32_w]
    rfl
  refine take_ (i := 3) (N := (some 15)) (a' := ?_) #[true, true, true, true, false, false, false, false, false, false, false, false, false] rfl rfl (by kernel_rfl) (fun _ _ _ h => h) (yields_fet (by rfl) (.tmp 14) rfl g rfl (fun w' hS => HFD.out.below hS)) hHeld ?_ ?_
  rotate_left
  · simp only [Act.put, List.setIfInBounds_toArray, List.set_cons_zero, List.set_cons_succ, i64_w, i32_w]
    rfl
  refine take_ (i := 4) (N := (some 16)) (v := ?_) (a' := ?_) #[true, true, true, true, true, false, false, false, false, false, false, false, false] rfl rfl (by kernel_rfl) (fun _ _ _ h => h) (Or.inl ⟨by rfl, ?_⟩) hHeld ?_ ?_
  rotate_left
  · intro w' hS
    have s0 := pw_cell_below hS b0
    have s1 := pw_cell_below hS b1
    go_simp
    first | done | with_reducible rfl
  rotate_left
  · simp only [Act.put, List.setIfInBounds_toArray, List.set_cons_zero, List.set_cons_succ, i64_w, i32_w]
    rfl
  refine pure_ (i := 5) (N := (some 17)) (v := ?_) (a' := ?_) #[true, true, true, true, true, true, false, false, false, false, false, false, false] rfl rfl (by kernel_rfl) (fun _ _ _ h => h) (Or.inl ⟨by rfl, ?_⟩) ?_ ?_
  rotate_left
  · intro w'
    go_simp
    first | done | with_reducible rfl
  rotate_left
  · simp only [Act.put, List.setIfInBounds_toArray, List.set_cons_zero, List.set_cons_succ, i64_w, i32_w]
    rfl
  refine pure_ (i := 6) (N := (some 18)) (v := ?_) (a' := ?_) #[true, true, true, true, true, true, true, false, false, false, false, false, false] rfl rfl (by kernel_rfl) (fun _ _ _ h => h) (Or.inl ⟨by rfl, ?_⟩) ?_ ?_
  rotate_left
  · intro w'
    go_simp
    first | done | with_reducible rfl
  rotate_left
  · simp only [Act.put, List.setIfInBounds_toArray, List.set_cons_zero, List.set_cons_succ, i64_w, i32_w]
    rfl
  refine one_ (i := 7) (N := (some 19)) #[true, true, true, true, true, true, true, true, false, false, false, false, false] rfl rfl (by kernel_rfl) (by decide) (fun K hK => ?_)
  refine goes_ Try.func27 (by kernel_rfl) rfl #[.agg TV, .agg #[.int .i64 (k : Int), .int .i64 (i : Int), .slice A 4 c]] (by rfl) rfl rfl (by (try simp only [List.map_toArray, List.map_cons, List.map_nil]); first | done | rfl) ?_
  (with_reducible refine (HU.out _ (Kd.C_below HRD.out hHeld)).mono ?_)
  rintro e wa ⟨rfl, hB⟩
  refine ⟨_, rfl, ?_⟩
  have hS2 : Below W1.heap.size W1 wa := below_step hHeld hB
  clear hB hHeld
  refine hK.out _ _ hS2 (fun hHeld => ?_)
  clear hK K
  refine norm_ (a' := ?_) ?_ ?_
  rotate_left
  · show Act.put _ (some 19) _ = _
    simp only [Act.put, List.setIfInBounds_toArray, List.set_cons_zero, List.set_cons_succ, i64_w, i32_w]
    rfl
  refine pure_ (i := 8) (N := (some 11)) (v := ?_) (a' := ?_) #[true, true, true, true, true, true, true, true, true, false, false, false, false] rfl rfl (by kernel_rfl) (fun _ _ _ h => h) (Or.inl ⟨by rfl, ?_⟩) ?_ ?_
  rotate_left
  · intro w'
    go_simp
    first | done | with_reducible rfl
  rotate_left
  · simp only [Act.put, List.setIfInBounds_toArray, List.set_cons_zero, List.set_cons_succ, i64_w, i32_w]
    rfl
  refine pure_ (i := 9) (N := (some 20)) (v := ?_) (a' := ?_) #[true, true, true, true, true, true, true, true, true, true, false, false, false] rfl rfl (by kernel_rfl) (fun _ _ _ h => h) (Or.inl ⟨by rfl, ?_⟩) ?_ ?_
  rotate_left
  · intro w'
    go_simp
    first | done | with_reducible rfl
  rotate_left
  · simp only [Act.put, List.setIfInBounds_toArray, List.set_cons_zero, List.set_cons_succ, i64_w, i32_w]
    rfl
  refine pure_ (i := 10) (N := (some 21)) (v := ?_) (a' := ?_) #[true, true, true, true, true, true, true, true, true, true, true, false, false] rfl rfl (by kernel_rfl) (fun _ _ _ h => h) (Or.inl ⟨by rfl, ?_⟩) ?_ ?_
  rotate_left
  · intro w'
    go_simp
    first | done | with_reducible rfl
  rotate_left
  · simp only [Act.put, List.setIfInBounds_toArray, List.set_cons_zero, List.set_cons_succ, i64_w, i32_w]
    rfl
  refine pure_ (i := 11) (N := (some 7)) (v := ?_) (a' := ?_) #[true, true, true, true, true, true, true, true, true, true, true, true, false] rfl rfl (by kernel_rfl) (fun _ _ _ h => h) (Or.inl ⟨by rfl, ?_⟩) ?_ ?_
  rotate_left
  · intro w'
    go_simp
    first | done | with_reducible rfl
  rotate_left
  · simp only [Act.put, List.setIfInBounds_toArray, List.set_cons_zero, List.set_cons_succ, i64_w, i32_w]
    rfl
  refine pure_ (i := 12) (N := (some 8)) (v := ?_) (a' := ?_) #[true, true, true, true, true, true, true, true, true, true, true, true, true] rfl rfl (by kernel_rfl) (fun _ _ _ h => h) (Or.inl ⟨by rfl, ?_⟩) ?_ ?_
  rotate_left
  · intro w'
    go_simp
    first | done | with_reducible rfl
  rotate_left
  · simp only [Act.put, List.setIfInBounds_toArray, List.set_cons_zero, List.set_cons_succ, i64_w, i32_w]
    rfl
  refine done_ (by kernel_rfl) ?_
  have OE := Aside0.mk (OD.out.step hHeld)
  clear OD HFD HRD b0 b1 hHeld
  go_wp2_with fail
  have OD := Aside0.mk OE.out.drew
  have HFD := Aside0.mk ((HF.out.below OE.out.below).drew)
  have b0 : wa.drew.cell? ⟨gI, 0, none⟩ = some (.int .i64 (k : Int)) := (OD.out.cell 0 rfl 0).trans rfl
  have b1 : wa.drew.cell? ⟨gI, 1, none⟩ = some (.int .i64 (i : Int)) := (OD.out.cell 0 rfl 1).trans rfl
  have c2 : wa.drew.cell? ⟨g, 74, none⟩ = some (.map (some gt)) := (HFD.out.cell 2).trans rfl
  clear OE
  refine start_ (n := 13) (S := fun w' => Below (wa).drew.heap.size (wa).drew w') (ds := []) #[false, false, false, false, false, false, false, false, false, false, false, false, false] (by kernel_rfl) rfl rfl (Below.refl _ _) (fun hHeld => ?_)
  generalize (wa).drew = W2 at *
  refine pure_ (i := 0) (N := (some 22)) (v := ?_) (a' := ?_) #[true, false, false, false, false, false, false, false, false, false, false, false, false] rfl rfl (by kernel_rfl) (fun _ _ _ h => h) (Or.inl ⟨by rfl, ?_⟩) ?_ ?_
  rotate_left
  · intro w'
    go_simp
    first | done | with_reducible rfl
  rotate_left
  · simp only [Act.put, List.setIfInBounds_toArray, List.set_cons_zero, List.set_cons_succ, i64_w, i32_w]
    rfl
  refine pure_ (i := 1) (N := (some 23)) (v := ?_) (a' := ?_) #[true, true, false, false, false, false, false, false, false, false, false, false, false] rfl rfl (by kernel_rfl) (fun _ _ _ h => h) (Or.inl ⟨by rfl, ?_⟩) ?_ ?_
  rotate_left
  · intro w'
    skip
    go_simp
    first | done | with_reducible rfl
  rotate_left
  · simp only [Act.put, List.setIfInBounds_toArray, List.set_cons_zero, List.set_cons_succ, i64_w, i32_w]
    rfl
  refine pure_ (i := 2) (N := (some 24)) (v := ?_) (a' := ?_) #[true, true, true, false, false, false, false, false, false, false, false, false, false] rfl rfl (by kernel_rfl) (fun _ _ _ h => h) (Or.inl ⟨by rfl, ?_⟩) ?_ ?_
  rotate_left
  · intro w'
    go_simp
    first | done | with_reducible rfl
  rotate_left
  · simp only [Act.put, List.setIfInBounds_toArray, List.set_cons_zero, List.set_cons_succ, i64_w, i32_w]
    rfl
  refine take_ (i := 3) (N := (some 25)) (v := ?_) (a' := ?_) #[true, true, true, true, false, false, false, false, false, false, false, false, false] rfl rfl (by kernel_rfl) (fun _ _ _ h => h) (Or.inl ⟨by rfl, ?_⟩) hHeld ?_ ?_
  rotate_left
  · intro w' hS
    have s0 := pw_cell_below hS c2
    go_simp
    first | done | with_reducible rfl
  rotate_left
  · simp only [Act.put, List.setIfInBounds_toArray, List.set_cons_zero, List.set_cons_succ, i64_w, i32_w]
    rfl
  refine pure_ (i := 4) (N := (some 26)) (v := ?_) (a' := ?_) #[true, true, true, true, true, false, false, false, false, false, false, false, false] rfl rfl (by kernel_rfl) (fun _ _ _ h => h) (Or.inl ⟨by rfl, ?_⟩) ?_ ?_
  rotate_left
  · intro w'
    go_simp
    first | done | with_reducible rfl
  rotate_left
  · simp only [Act.put, List.setIfInBounds_toArray, List.set_cons_zero, List.set_cons_succ, i64_w, i32_w]
    rfl
  refine take_ (i := 5) (N := (some 27)) (v := ?_) (a' := ?_) #[true, true, true, true, true, true, false, false, false, false, false, false, false] rfl rfl (by kernel_rfl) (fun _ _ _ h => h) (Or.inl ⟨by rfl, ?_⟩) hHeld ?_ ?_
  rotate_left
  · intro w' hS
    have s0 := pw_cell_below hS b0
    go_simp
    first | done | with_reducible rfl
  rotate_left
  · simp only [Act.put, List.setIfInBounds_toArray, List.set_cons_zero, List.set_cons_succ, i64_w, i32_w]
    rfl
  refine pure_ (i := 6) (N := (some 28)) (v := ?_) (a' := ?_) #[true, true, true, true, true, true, true, false, false, false, false, false, false] rfl rfl (by kernel_rfl) (fun _ _ _ h => h) (Or.inl ⟨by rfl, ?_⟩) ?_ ?_
  rotate_left
  · intro w'
    go_simp
    first | done | with_reducible rfl
  rotate_left
  · simp only [Act.put, List.setIfInBounds_toArray, List.set_cons_zero, List.set_cons_succ, i64_w, i32_w]
    rfl
  refine pure_ (i := 7) (N := (some 29)) (v := ?_) (a' := ?_) #[true, true, true, true, true, true, true, true, false, false, false, false, false] rfl rfl (by kernel_rfl) (fun _ _ _ h => h) (Or.inl ⟨by rfl, ?_⟩) ?_ ?_
  rotate_left
  · intro w'
    go_simp
    first | done | with_reducible rfl
  rotate_left
  · simp only [Act.put, List.setIfInBounds_toArray, List.set_cons_zero, List.set_cons_succ, i64_w, i32_w]
    rfl
  refine take_ (i := 8) (N := (some 30)) (v := ?_) (a' := ?_) #[true, true, true, true, true, true, true, true, true, false, false, false, false] rfl rfl (by kernel_rfl) (fun _ _ _ h => h) (Or.inl ⟨by rfl, ?_⟩) hHeld ?_ ?_
  rotate_left
  · intro w' hS
    have s0 := pw_cell_below hS b1
    go_simp
    first | done | with_reducible rfl
  rotate_left
  · simp only [Act.put, List.setIfInBounds_toArray, List.set_cons_zero, List.set_cons_succ, i64_w, i32_w]
    rfl
  refine pure_ (i := 9) (N := (some 31)) (v := ?_) (a' := ?_) #[true, true, true, true, true, true, true, true, true, true, false, false, false] rfl rfl (by kernel_rfl) (fun _ _ _ h => h) (Or.inl ⟨by rfl, ?_⟩) ?_ ?_
  rotate_left
  · intro w'
    go_simp
    first | done | with_reducible rfl
  rotate_left
  · simp only [Act.put, List.setIfInBounds_toArray, List.set_cons_zero, List.set_cons_succ, i64_w, i32_w]
    rfl
  refine pure_ (i := 10) (N := (some 32)) (v := ?_) (a' := ?_) #[true, true, true, true, true, true, true, true, true, true, true, false, false] rfl rfl (by kernel_rfl) (fun _ _ _ h => h) (Or.inl ⟨by rfl, ?_⟩) ?_ ?_
  rotate_left
  · intro w'
    go_simp
    first | done | with_reducible rfl
  rotate_left
  · simp only [Act.put, List.setIfInBounds_toArray, List.set_cons_zero, List.set_cons_succ, i64_w, i32_w]
    rfl
  refine take_ (i := 11) (N := (some 33)) (v := ?_) (a' := ?_) #[true, true, true, true, true, true, true, true, true, true, true, true, false] rfl rfl (by kernel_rfl) (fun _ _ _ h => h) (Or.inl ⟨by rfl, ?_⟩) hHeld ?_ ?_
  rotate_left
  · intro w' hS
    have hl := HLK.out w' (below_step OD.out.below hS)
    go_simp
    first | done | with_reducible rfl
  rotate_left
  · simp only [Act.put, List.setIfInBounds_toArray, List.set_cons_zero, List.set_cons_succ, i64_w, i32_w]
    rfl
  refine pure_ (i := 12) (N := (some 9)) (v := ?_) (a' := ?_) #[true, true, true, true, true, true, true, true, true, true, true, true, true] rfl rfl (by kernel_rfl) (fun _ _ _ h => h) (Or.inl ⟨by rfl, ?_⟩) ?_ ?_
  rotate_left
  · intro w'
    go_simp
    first | done | with_reducible rfl
  rotate_left
  · simp only [Act.put, List.setIfInBounds_toArray, List.set_cons_zero, List.set_cons_succ, i64_w, i32_w]
    rfl
  refine done_ (by kernel_rfl) ?_
  have OE := Aside0.mk (OD.out.step hHeld)
  have b1 : W2.cell? ⟨gI, 1, none⟩ = some (.int .i64 (i : Int)) := (OE.out.cell 0 rfl 1).trans rfl
  clear OD HFD b0 c2 hHeld
  have hlenT := (Kd.R_reads' HRT.out).2.2
  have HTC := Aside0.mk (Kd.C_below hlenT OE.out.below)
  have HCLR := Aside0.mk (Kd.C_below HR.out OE.out.below)
  have HF2 := Aside0.mk (HF.out.below OE.out.below)
  clear hlenT HRT HLK HU
  have no : ∀ (hno : okF s k i l = false), (0 : Int) ≠ cd ∧ (8 : Int) = cd ∧ s = s9 := fun hno => by
    have e1 := HCD.out
    have e2 := HS9.out
    rw [hno] at e1 e2
    exact ⟨by rw [← e1]; decide, e1, e2⟩
  have HNO := Aside0.mk no
  clear no
  rcases Nat.lt_or_ge r4 T.length with hrl | hrl
  · have hrli : (r4 : Int) < (T.length : Int) := by omega
    obtain ⟨ad, ea, hx⟩ := Kd.at_string HTC.out (r4 : Int) (by omega) hrli
    cases ea
    rw [rdOf_at T r4 hrl, Int.toNat_natCast] at hx
    have HG := Aside0.mk (List.getElem?_eq_getElem hrl)
    generalize T[r4] = t at *
    by_cases hq : t = rootF l
    · have HYES : Aside0 (okF s k i l = true) := ⟨by rw [HOK.out]; exact decide_eq_true (by rw [HG.out, hq])⟩
      have hqb : (t.toList != (rootF l).toList) = false := by rw [hq]; simp
      have hqc : (t.toList == (rootF l).toList) = true := by rw [hq]; simp
      generalize rootF l = up at *
      clear hq hrl
      go_wp2_with fail
      have OD := Aside0.mk OE.out.drew
      have HFD := Aside0.mk HF2.out.drew
      have HRD := Aside0.mk (Kd.C_drew HCLR.out)
      have d0 : W2.drew.cell? ⟨gI, 0, none⟩ = some (.int .i64 (k : Int)) := (OD.out.cell 0 rfl 0).trans rfl
      have d1 : W2.drew.cell? ⟨gI, 1, none⟩ = some (.int .i64 (i : Int)) := (OD.out.cell 0 rfl 1).trans rfl
      have c2 : W2.drew.cell? ⟨g, 74, none⟩ = some (.map (some gt)) := (HFD.out.cell 2).trans rfl
      clear hx b1 HTC HF2 HCLR OE
      refine start_ (n := 8) (S := fun w' => Below (W2).drew.heap.size (W2).drew w') (ds := [7]) #[false, false, false, false, false, false, false, false] (by kernel_rfl) rfl rfl (Below.refl _ _) (fun hHeld => ?_)
      generalize (W2).drew = W3 at *
      refine pure_ (i := 0) (N := (some 49)) (v := ?_) (a' := ?_) #[true, false, false, false, false, false, false, false] rfl rfl (by kernel_rfl) (fun _ _ _ h => h) (Or.inl ⟨by rfl, ?_⟩) ?_ ?_
      rotate_left
      · intro w'
        go_simp
        first | done | with_reducible rfl
      rotate_left
      · simp only [Act.put, List.setIfInBounds_toArray, List.set_cons_zero, List.set_cons_succ, i64_w, i32_w]
        rfl
      refine pure_ (i := 1) (N := (some 50)) (v := ?_) (a' := ?_) #[true, true, false, false, false, false, false, false] rfl rfl (by kernel_rfl) (fun _ _ _ h => h) (Or.inl ⟨by rfl, ?_⟩) ?_ ?_
      rotate_left
      · intro w'
        skip
        go_simp
        first | done | with_reducible rfl
      rotate_left
      · simp only [Act.put, List.setIfInBounds_toArray, List.set_cons_zero, List.set_cons_succ, i64_w, i32_w]
        rfl
      refine pure_ (i := 2) (N := (some 51)) (v := ?_) (a' := ?_) #[true, true, true, false, false, false, false, false] rfl rfl (by kernel_rfl) (fun _ _ _ h => h) (Or.inl ⟨by rfl, ?_⟩) ?_ ?_
      rotate_left
      · intro w'
        go_simp
        first | done | with_reducible rfl
      rotate_left
      · simp only [Act.put, List.setIfInBounds_toArray, List.set_cons_zero, List.set_cons_succ, i64_w, i32_w]
        rfl
      refine take_ (i := 3) (N := (some 52)) (v := ?_) (a' := ?_) #[true, true, true, true, false, false, false, false] rfl rfl (by kernel_rfl) (fun _ _ _ h => h) (Or.inl ⟨by rfl, ?_⟩) hHeld ?_ ?_
      rotate_left
      · intro w' hS
        have s0 := pw_cell_below hS c2
        go_simp
        first | done | with_reducible rfl
      rotate_left
      · simp only [Act.put, List.setIfInBounds_toArray, List.set_cons_zero, List.set_cons_succ, i64_w, i32_w]
        rfl
      refine take_ (i := 4) (N := (some 53)) (v := ?_) (a' := ?_) #[true, true, true, true, true, false, false, false] rfl rfl (by kernel_rfl) (fun _ _ _ h => h) (Or.inl ⟨by rfl, ?_⟩) hHeld ?_ ?_
      rotate_left
      · intro w' hS
        have s0 := pw_cell_below hS d0
        have s1 := pw_cell_below hS d1
        go_simp
        first | done | with_reducible rfl
      rotate_left
      · simp only [Act.put, List.setIfInBounds_toArray, List.set_cons_zero, List.set_cons_succ, i64_w, i32_w]
        rfl
      refine pure_ (i := 5) (N := (some 54)) (v := ?_) (a' := ?_) #[true, true, true, true, true, true, false, false] rfl rfl (by kernel_rfl) (fun _ _ _ h => h) (Or.inl ⟨by rfl, ?_⟩) ?_ ?_
      rotate_left
      · intro w'
        go_simp
        first | done | with_reducible rfl
      rotate_left
      · simp only [Act.put, List.setIfInBounds_toArray, List.set_cons_zero, List.set_cons_succ, i64_w, i32_w]
        rfl
      refine one_ (i := 6) (N := (some 55)) #[true, true, true, true, true, true, true, false] rfl rfl (by kernel_rfl) (by decide) (fun K hK => ?_)
      refine goes_ Try.func51 (by kernel_rfl) rfl #[.slice A 4 c] (by rfl) rfl rfl (by (try simp only [List.map_toArray, List.map_cons, List.map_nil]); first | done | rfl) ?_
      (with_reducible refine (HCL.out _ (Kd.C_below HRD.out hHeld)).mono ?_)
      rintro e wc ⟨v9, rfl, hr9, hB⟩
      refine ⟨_, rfl, ?_⟩
      have hS2 : Below W3.heap.size W3 wc := below_step hHeld hB
      have HV := Aside0.mk (Kd.R_lower hr9 (Nat.le_trans HB.out (Nat.le_trans OD.out.size hHeld.size)))
      clear hB hHeld hr9
      refine hK.out _ _ hS2 (fun hHeld => ?_)
      clear hK K
      refine norm_ (a' := ?_) ?_ ?_
      rotate_left
      · show Act.put _ (some 55) _ = _
        simp only [Act.put, List.setIfInBounds_toArray, List.set_cons_zero, List.set_cons_succ, i64_w, i32_w]
        rfl
      refine last_ (i := 7) (N := none) #[true, true, true, true, true, true, true, true] rfl rfl (by kernel_rfl) (by decide) (fun K hK => ?_)
      obtain ⟨wb, hrun, hI, hT⟩ := (HFD.out.below hHeld).storeT ((k : Int), (i : Int)) v9 l HV.out (by rw [HL.out]; decide) (by rw [HL.out]; decide) HWF.out.1 HWF.out.2
      have HI9 := Aside0.mk hI
      have HT9 := Aside0.mk ((Turn.below (P := Foot g gt gb) (below_step OD.out.below hHeld)).trans hT)
      clear hI hT hHeld
      refine skip_ (w1 := wb) (by rfl) rfl (by first | (go_simp; done) | (go_simp; rfl)) ?_
      refine hK.out _ _ ?_
      clear hK K
      refine done_ (by kernel_rfl) ?_
      clear hrun
      have e1 := HCD.out
      have e2 := HS9.out
      rw [HYES.out] at e1 e2
      obtain rfl : (0 : Int) = cd := e1
      obtain rfl : putT s (k, i) l = s9 := e2
      go_wp2_with fail
      go_ret
      exact ⟨rfl, HI9.out, HT9.out⟩
    · have HN := Aside0.mk (HNO.out (by rw [HOK.out]; exact decide_eq_false (fun e => hq (by rw [HG.out] at e; exact Option.some.inj e))))
      have hqb : (t.toList != (rootF l).toList) = true := bne_iff_ne.2 (fun e => hq (toList_inj e))
      have hqc : (t.toList == (rootF l).toList) = false := beq_eq_false_iff_ne.2 (fun e => hq (toList_inj e))
      generalize rootF l = up at *
      clear hq hrl
      go_wp2_with fail
      go_ret
      obtain ⟨_, e1, e2⟩ := HN.out
      exact ⟨by rw [← e1]; rfl, by rw [← e2]; exact HF2.out, Turn.below OE.out.below⟩
  · have hrli : (T.length : Int) ≤ (r4 : Int) := by omega
    have HN := Aside0.mk (HNO.out (by rw [HOK.out]; exact decide_eq_false (fun e => by rw [List.getElem?_eq_none hrl] at e; cases e)))
    clear hrl
    go_wp2_with fail
    go_ret
    obtain ⟨_, e1, e2⟩ := HN.out
    exact ⟨by rw [← e1]; rfl, by rw [← e2]; exact HF2.out, Turn.below OE.out.below⟩
end Go.Proofs.Ytondnammkcgjpaa.Ft
namespace Go.Proofs.Ytondnammkcgjpaa.Ft
open Go Go.RowKit Go.Shelf Go.Proofs.YtondnammkcgjpaaW.PrintWords Go.Proofs.YtondnammkcgjpaaW.PrintLast Go.Proofs.YtondnammkcgjpaaW.PrintMore Go.Proofs.Ytondnammkcgjpaa.Mp
open Go.Proofs.Ytondnammkcgjpaa.ShaP Go.Proofs.Ytondnammkcgjpaa.Mk Go.Proofs.Ytondnammkcgjpaa.Rg Go.Proofs.Ytondnammkcgjpaa.RgP Go.Proofs.Ytondnammkcgjpaa.Rf Go.Proofs.Ytondnammkcgjpaa.RgL Go.Proofs.Ytondnammkcgjpaa.Til Go.Proofs.Ytondnammkcgjpaa.Fg Go.Proofs.Ytondnammkcgjpaa.Fun Go.Proofs.Ytondnammkcgjpaa.Rng
variable {base g gt gb : Nat} {s : FS} {w W W1 : World}
theorem ki_turn {B : Nat} {v : Value} {l : List (Int × Int)} (h : KI.R 24 W B (fun _ => True) v l) (hI : IsF base W g gt gb s) (hT : Turn (Foot g gt gb) W W1) : KI.R 24 W1 B (fun _ => True) v l :=
  Kd.R_mono (Kd.R_step (only_k h) (fun k ho hlt => hT.keep k hlt (fun hf => by
    have ht := tag_row h k ho
    rcases hf with rfl | rfl | rfl
    · exact ne_tag ht hI.tg (by decide) rfl
    · exact ne_tag ht hI.tl.tag (by decide) rfl
    · exact ne_tag ht hI.bn.tag (by decide) rfl))) (fun _ _ => trivial)
def okE (s : FS) : Bool := !haveE s || decide (rootE s = s.root)
noncomputable def dropE (s : FS) : FS := (edgeF wdF s.size).foldl dropT s
theorem drops_size (l : List (Int × Int)) : ∀ s : FS, (l.foldl dropT s).size = s.size := by
  induction l with
  | nil => intro s; rfl
  | cons x l ih => intro s; exact ih _
theorem inv_put {x : Int × Int} {l : List ByteArray} (h : InvF s) (h1 : (l.length : Int) = wdF s.size x.1 x.2) (h2 : A32 l) : InvF (putT s x l) := by
  refine ⟨fun y l' hy => ?_, h.bn⟩
  by_cases e : y = x
  · subst e
    have : (putT s y l).tiles y = some l := upd_self _ _ _
    rw [this] at hy
    cases hy
    exact ⟨h1, h2⟩
  · have : (putT s x l).tiles y = s.tiles y := upd_ne _ _ e
    rw [this] at hy
    exact h.tl y l' hy
theorem takeE_c (x0 x1 : Int) (A : Option Addr) (c : Nat) (l : List ByteArray) (h : IsF base w g gt gb s) (hv : InvF s) (hb : base ≤ w.heap.size) (hlw : (l.length : Int) = wdF s.size x0 x1) (h0 : 0 < l.length) (h4 : l.length ≤ 4) (h32 : A32 l) (w0 : wf x0) (w1 : wf x1) (hr : Kd.C Kd.string w A l.length l) :
    Calls Try.prog 98 #[.pointer (some ⟨g, 0, none⟩), .agg #[.int .i64 x0, .int .i64 x1], .slice A l.length c] w fun e w' => e = .returned (.int .i64 (if okE (putT s (x0, x1) l) then 0 else 8)) ∧
      IsF base w' g gt gb (if okE (putT s (x0, x1) l) then putT s (x0, x1) l else dropE (putT s (x0, x1) l)) ∧ Turn (Foot g gt gb) w w' := by
  have OW := Aside0.mk (Mem.Own.nil w)
  have HF := Aside0.mk h
  have HR := Aside0.mk hr
  have HB := Aside0.mk hb
  have HL := Aside0.mk (show 0 < l.length ∧ l.length ≤ 4 from ⟨h0, h4⟩)
  have HWF := Aside0.mk (show wf x0 ∧ wf x1 from ⟨w0, w1⟩)
  have HCL := Aside0.mk (fun W h => clone_c A c l W (by omega) h)
  have HSZ := Aside0.mk h.sz
  have HV := Aside0.mk (inv_put (x := (x0, x1)) hv hlw h32)
  have HSZ := Aside0.mk (show (putT s (x0, x1) l).size ≤ 64 from HSZ.out)
  have HOE := Aside0.mk (show okE (putT s (x0, x1) l) = (!haveE (putT s (x0, x1) l) || decide (rootE (putT s (x0, x1) l) = (putT s (x0, x1) l).root)) from rfl)
  obtain ⟨cd, hcd⟩ : ∃ cd : Int, (if okE (putT s (x0, x1) l) then 0 else 8) = cd := ⟨_, rfl⟩
  obtain ⟨s9, hs9⟩ : ∃ s9, (if okE (putT s (x0, x1) l) then putT s (x0, x1) l else dropE (putT s (x0, x1) l)) = s9 := ⟨_, rfl⟩
  rw [hcd, hs9]
  have HCD := Aside0.mk hcd
  have HS9 := Aside0.mk hs9
  clear h hr hb h0 h4 hlw h32 w0 w1 hv hcd hs9
  go_enter Try.func98, Try.ntmps98
  go_wp2_with (first
    | ((with_reducible refine gate_dst (N := 4) rfl ?_); refine box_event ?hg (N := 4) ?hd (cs := #[.int .i64 x0, .int .i64 x1]) (t := 24) ?hr ?_; (case hd => rfl); (case hg => rfl); (case hr => first | (go_simp; done) | (go_simp; rfl)); intro gI hg W_ hb hbb; have n_ : Aside0 (Mem.Own w W_ [(gI, #[.int .i64 x0, .int .i64 x1], 24)]) := ⟨OW.out.new hg hb hbb⟩; clear OW hb hbb hg; have OW := n_; clear n_))
  have OD := Aside0.mk OW.out.drew
  have HFD := Aside0.mk ((HF.out.below OW.out.below).drew)
  have HRD := Aside0.mk (Kd.C_drew (Kd.C_below HR.out OW.out.below))
  have b0 : W_.drew.cell? ⟨gI, 0, none⟩ = some (.int .i64 x0) := (OD.out.cell 0 rfl 0).trans rfl
  have b1 : W_.drew.cell? ⟨gI, 1, none⟩ = some (.int .i64 x1) := (OD.out.cell 0 rfl 1).trans rfl
  have c2 : W_.drew.cell? ⟨g, 74, none⟩ = some (.map (some gt)) := (HFD.out.cell 2).trans rfl
  clear OW
  refine start_ (n := 8) (S := fun w' => Below (W_).drew.heap.size (W_).drew w') (ds := [7]) #[false, false, false, false, false, false, false, false] (by kernel_rfl) rfl rfl (Below.refl _ _) (fun hHeld => ?_)
  generalize (W_).drew = W1 at *
  refine pure_ (i := 0) (N := (some 11)) (v := ?_) (a' := ?_) #[true, false, false, false, false, false, false, false] rfl rfl (by kernel_rfl) (fun _ _ _ h => h) (Or.inl ⟨by rfl, ?_⟩) ?_ ?_
  rotate_left
  · intro w'
    go_simp
    first | done | with_reducible rfl
  rotate_left
  · simp only [Act.put, List.setIfInBounds_toArray, List.set_cons_zero, List.set_cons_succ, i64_w, i32_w]
    rfl
  refine pure_ (i := 1) (N := (some 12)) (v := ?_) (a' := ?_) #[true, true, false, false, false, false, false, false] rfl rfl (by kernel_rfl) (fun _ _ _ h => h) (Or.inl ⟨by rfl, ?_⟩) ?_ ?_
  rotate_left
  · intro w'
    skip
    go_simp
    first | done | with_reducible rfl
  rotate_left
  · simp only [Act.put, List.setIfInBounds_toArray, List.set_cons_zero, List.set_cons_succ, i64_w, i32_w]
    rfl
  refine pure_ (i := 2) (N := (some 13)) (v := ?_) (a' := ?_) #[true, true, true, false, false, false, false, false] rfl rfl (by kernel_rfl) (fun _ _ _ h => h) (Or.inl ⟨by rfl, ?_⟩) ?_ ?_
  rotate_left
  · intro w'
    go_simp
    first | done | with_reducible rfl
  rotate_left
  · simp only [Act.put, List.setIfInBounds_toArray, List.set_cons_zero, List.set_cons_succ, i64_w, i32_w]
    rfl
  refine take_ (i := 3) (N := (some 14)) (v := ?_) (a' := ?_) #[true, true, true, true, false, false, false, false] rfl rfl (by kernel_rfl) (fun _ _ _ h => h) (Or.inl ⟨by rfl, ?_⟩) hHeld ?_ ?_
  rotate_left
  · intro w' hS
    have s0 := pw_cell_below hS c2
    go_simp
    first | done | with_reducible rfl
  rotate_left
  · simp only [Act.put, List.setIfInBounds_toArray, List.set_cons_zero, List.set_cons_succ, i64_w, i32_w]
    rfl
  refine take_ (i := 4) (N := (some 15)) (v := ?_) (a' := ?_) #[true, true, true, true, true, false, false, false] rfl rfl (by kernel_rfl) (fun _ _ _ h => h) (Or.inl ⟨by rfl, ?_⟩) hHeld ?_ ?_
  rotate_left
  · intro w' hS
    have s0 := pw_cell_below hS b0
    have s1 := pw_cell_below hS b1
    go_simp
    first | done | with_reducible rfl
  rotate_left
  · simp only [Act.put, List.setIfInBounds_toArray, List.set_cons_zero, List.set_cons_succ, i64_w, i32_w]
    rfl
  refine pure_ (i := 5) (N := (some 16)) (v := ?_) (a' := ?_) #[true, true, true, true, true, true, false, false] rfl rfl (by kernel_rfl) (fun _ _ _ h => h) (Or.inl ⟨by rfl, ?_⟩) ?_ ?_
  rotate_left
  · intro w'
    go_simp
    first | done | with_reducible rfl
  rotate_left
  · simp only [Act.put, List.setIfInBounds_toArray, List.set_cons_zero, List.set_cons_succ, i64_w, i32_w]
    rfl
  refine one_ (i := 6) (N := (some 17)) #[true, true, true, true, true, true, true, false] rfl rfl (by kernel_rfl) (by decide) (fun K hK => ?_)
  refine goes_ Try.func51 (by kernel_rfl) rfl #[.slice A l.length c] (by rfl) rfl rfl (by (try simp only [List.map_toArray, List.map_cons, List.map_nil]); first | done | rfl) ?_
  (with_reducible refine (HCL.out _ (Kd.C_below HRD.out hHeld)).mono ?_)
  rintro e wc ⟨v9, rfl, hr9, hB⟩
  refine ⟨_, rfl, ?_⟩
  have hS2 : Below W1.heap.size W1 wc := below_step hHeld hB
  have HV9 := Aside0.mk (Kd.R_lower hr9 (Nat.le_trans HB.out (Nat.le_trans OD.out.size hHeld.size)))
  clear hB hHeld hr9
  refine hK.out _ _ hS2 (fun hHeld => ?_)
  clear hK K
  refine norm_ (a' := ?_) ?_ ?_
  rotate_left
  · show Act.put _ (some 17) _ = _
    simp only [Act.put, List.setIfInBounds_toArray, List.set_cons_zero, List.set_cons_succ, i64_w, i32_w]
    rfl
  refine last_ (i := 7) (N := none) #[true, true, true, true, true, true, true, true] rfl rfl (by kernel_rfl) (by decide) (fun K hK => ?_)
  obtain ⟨wb, hrun, hI, hT⟩ := (HFD.out.below hHeld).storeT (x0, x1) v9 l HV9.out HL.out.1 HL.out.2 HWF.out.1 HWF.out.2
  have HI9 := Aside0.mk hI
  have HT9 := Aside0.mk ((Turn.below (P := Foot g gt gb) (below_step OD.out.below hHeld)).trans hT)
  clear hI hT hHeld
  refine skip_ (w1 := wb) (by rfl) rfl (by first | (go_simp; done) | (go_simp; rfl)) ?_
  refine hK.out _ _ ?_
  clear hK K
  refine done_ (by kernel_rfl) ?_
  clear hrun OD HFD HRD b0 b1 c2 HV9
  have HWH := Aside0.mk (fun W (h : IsF base W g gt gb (putT s (x0, x1) l)) => whole_c base g gt gb _ W h HV.out)
  generalize putT s (x0, x1) l = s1 at *
  by_cases hok : okE s1 = true
  · have e1 := HCD.out
    have e2 := HS9.out
    rw [hok] at e1 e2
    obtain rfl : (0 : Int) = cd := e1
    obtain rfl : s1 = s9 := e2
    cases hhe : haveE s1 with
    | false =>
      rw [hhe] at HWH
      clear hok hhe
      go_wp2_with (first
        | (go_at_call 110; (with_reducible refine (HWH.out _ HI9.out).mono ?_); rintro e wd ⟨rfl, hB⟩; have HB9 := Aside0.mk hB; clear hB))
      go_ret
      exact ⟨rfl, HI9.out.below HB9.out, HT9.out.trans (Turn.below HB9.out)⟩
    | true =>
      have hdec : decide (rootE s1 = s1.root) = true := by rw [HOE.out, hhe] at hok; simpa using hok
      rw [hhe, hdec] at HWH
      clear hok hhe hdec
      go_wp2_with (first
        | (go_at_call 110; (with_reducible refine (HWH.out _ HI9.out).mono ?_); rintro e wd ⟨rfl, hB⟩; have HB9 := Aside0.mk hB; clear hB))
      go_ret
      exact ⟨rfl, HI9.out.below HB9.out, HT9.out.trans (Turn.below HB9.out)⟩
  · have hokf : okE s1 = false := by simpa using hok
    have e1 := HCD.out
    have e2 := HS9.out
    rw [hokf] at e1 e2
    obtain rfl : (8 : Int) = cd := e1
    obtain rfl : dropE s1 = s9 := e2
    have hboth : haveE s1 = true ∧ decide (rootE s1 = s1.root) = false := by
      rw [HOE.out] at hokf
      simpa using hokf
    rw [hboth.1, hboth.2] at HWH
    clear hok hokf hboth
    have HEK := Aside0.mk (fun W => edge_k (s1.size : Int) W)
    obtain ⟨E, hE⟩ : ∃ E, edgeF wdF s1.size = E := ⟨_, rfl⟩
    obtain ⟨m, hme⟩ : ∃ m, E.length = m := ⟨_, rfl⟩
    have hmi : (m : Int) ≤ 4 := by have := edge_len s1.size (by have := HSZ.out; omega); rw [hE, hme] at this; omega
    have HEI := Aside0.mk (edge_in s1.size (by have := HSZ.out; omega))
    have HEE := Aside0.mk hE
    have HME := Aside0.mk hme
    rw [hE] at HEK HEI
    clear hE hme
    go_wp2_with (first
      | (go_at_call 110; (with_reducible refine (HWH.out _ HI9.out).mono ?_); rintro e wd ⟨rfl, hB⟩; have HI8 := Aside0.mk (HI9.out.below hB); have HT8 := Aside0.mk (HT9.out.trans (Turn.below hB)); have c1 : wd.cell? ⟨g, 72, none⟩ = some (.int .i64 s1.size) := (HI8.out.cell 0).trans rfl; clear hB)
      | (go_at_call 111; go_loud ((with_reducible refine (HEK.out _).mono ?_); rintro e we ⟨v8, rfl, hr8, hB⟩; obtain ⟨A8, c8, rfl⟩ := ki_form hr8; rw [HME.out] at hr8 ⊢; have HE := Aside0.mk (Kd.R_lower hr8 HT8.out.size); have HI7 := Aside0.mk (HI8.out.below hB); have HT7 := Aside0.mk (HT8.out.trans (Turn.below hB)); clear hr8 hB c1)))
    clear HI8 HT8 HI9 HT9 HWH HEK
    go_loopw [34] (fun v34 wr => ∃ i : Nat, v34 = .int .i64 i ∧ i ≤ m ∧ Aside0 (IsF base wr g gt gb ((E.take i).foldl dropT s1)) ∧ Aside0 (Turn (Foot g gt gb) w wr) ∧ Aside0 (KI.R 24 wr w.heap.size (fun _ => True) (.slice A8 m c8) E)) (fun v34 _ => m - (intOf v34).toNat)
    case atStart => exact ⟨0, rfl, Nat.zero_le _, HI7, HT7, HE⟩
    case round =>
      clear HI7 HT7 HE
      obtain ⟨i, rfl, hi, HI, HT, HE⟩ := hrel
      by_cases h1 : i < m
      · have h1i : (i : Int) < (m : Int) := by omega
        have hie : i < E.length := by rw [HME.out]; exact h1
        obtain ⟨ge, eb, e0, e1⟩ := ki_elem HE.out i hie
        cases eb
        have HTK : Aside0 ((E.take (i + 1)).foldl dropT s1 = dropT ((E.take i).foldl dropT s1) E[i]) := ⟨by rw [List.take_succ_eq_append_getElem hie, List.foldl_append]; rfl⟩
        have hbd := HEI.out E[i] (List.getElem_mem hie)
        have HI1 := Aside0.mk h1
        generalize E[i] = x at *
        obtain ⟨x0, x1⟩ := x
        simp only at e0 e1 hbd
        have HWX := Aside0.mk (show wf x0 ∧ wf x1 from ⟨wf_of (by omega) (by omega), wf_of (by omega) (by omega)⟩)
        clear hbd hie h1
        go_wp2_with fail
        have hal : Below wr.heap.size wr (wr.alloc (.cells #[.int .i64 x0, .int .i64 x1] 24)) := below_alloc (Below.refl _ _) _
        have hbk := blk_new wr (.cells #[.int .i64 x0, .int .i64 x1] 24)
        have HI2 := Aside0.mk (HI.out.below hal).drew
        have HT2 := Aside0.mk (HT.out.trans (Turn.below hal)).drew
        have HE2 := Aside0.mk (Kd.R_drew (Kd.R_below HE.out hal))
        obtain ⟨gJ, hgJ⟩ : ∃ gJ, wr.heap.size = gJ := ⟨_, rfl⟩
        rw [hgJ] at hbk ⊢
        generalize wr.alloc (.cells #[.int .i64 x0, .int .i64 x1] 24) = wx at *
        have d0 : wx.drew.cell? ⟨gJ, 0, none⟩ = some (.int .i64 x0) := (blk_cell hbk 0).trans rfl
        have d1 : wx.drew.cell? ⟨gJ, 1, none⟩ = some (.int .i64 x1) := (blk_cell hbk 1).trans rfl
        have c2 : wx.drew.cell? ⟨g, 74, none⟩ = some (.map (some gt)) := (HI2.out.cell 2).trans rfl
        clear hal e0 e1 HI HT HE hgJ hbk
        refine start_ (n := 6) (S := fun w' => Below (wx).drew.heap.size (wx).drew w') (ds := [5]) #[false, false, false, false, false, false] (by kernel_rfl) rfl rfl (Below.refl _ _) (fun hHeld => ?_)
        generalize (wx).drew = W2 at *
        refine pure_ (i := 0) (N := (some 38)) (v := ?_) (a' := ?_) #[true, false, false, false, false, false] rfl rfl (by kernel_rfl) (fun _ _ _ h => h) (Or.inl ⟨by rfl, ?_⟩) ?_ ?_
        rotate_left
        · intro w'
          go_simp
          first | done | with_reducible rfl
        rotate_left
        · simp only [Act.put, List.setIfInBounds_toArray, List.set_cons_zero, List.set_cons_succ, i64_w, i32_w]
          rfl
        refine pure_ (i := 1) (N := (some 39)) (v := ?_) (a' := ?_) #[true, true, false, false, false, false] rfl rfl (by kernel_rfl) (fun _ _ _ h => h) (Or.inl ⟨by rfl, ?_⟩) ?_ ?_
        rotate_left
        · intro w'
          skip
          go_simp
          first | done | with_reducible rfl
        rotate_left
        · simp only [Act.put, List.setIfInBounds_toArray, List.set_cons_zero, List.set_cons_succ, i64_w, i32_w]
          rfl
        refine pure_ (i := 2) (N := (some 40)) (v := ?_) (a' := ?_) #[true, true, true, false, false, false] rfl rfl (by kernel_rfl) (fun _ _ _ h => h) (Or.inl ⟨by rfl, ?_⟩) ?_ ?_
        rotate_left
        · intro w'
          go_simp
          first | done | with_reducible rfl
        rotate_left
        · simp only [Act.put, List.setIfInBounds_toArray, List.set_cons_zero, List.set_cons_succ, i64_w, i32_w]
          rfl
        refine take_ (i := 3) (N := (some 41)) (v := ?_) (a' := ?_) #[true, true, true, true, false, false] rfl rfl (by kernel_rfl) (fun _ _ _ h => h) (Or.inl ⟨by rfl, ?_⟩) hHeld ?_ ?_
        rotate_left
        · intro w' hS
          have s0 := pw_cell_below hS c2
          go_simp
          first | done | with_reducible rfl
        rotate_left
        · simp only [Act.put, List.setIfInBounds_toArray, List.set_cons_zero, List.set_cons_succ, i64_w, i32_w]
          rfl
        refine take_ (i := 4) (N := (some 42)) (v := ?_) (a' := ?_) #[true, true, true, true, true, false] rfl rfl (by kernel_rfl) (fun _ _ _ h => h) (Or.inl ⟨by rfl, ?_⟩) hHeld ?_ ?_
        rotate_left
        · intro w' hS
          have s0 := pw_cell_below hS d0
          have s1 := pw_cell_below hS d1
          go_simp
          first | done | with_reducible rfl
        rotate_left
        · simp only [Act.put, List.setIfInBounds_toArray, List.set_cons_zero, List.set_cons_succ, i64_w, i32_w]
          rfl
        refine last_ (i := 5) (N := none) #[true, true, true, true, true, true] rfl rfl (by kernel_rfl) (by decide) (fun K hK => ?_)
        obtain ⟨wb, hrun, hI, hT⟩ := (HI2.out.below hHeld).eraseT (x0, x1) HWX.out.1 HWX.out.2 0
        have HI9 := Aside0.mk hI
        have HE9 := Aside0.mk (ki_turn (Kd.R_below HE2.out hHeld) (HI2.out.below hHeld) hT)
        have HT9 := Aside0.mk ((HT2.out.trans (Turn.below hHeld)).trans hT)
        clear hI hT hHeld
        refine value_ (v := .tuple #[]) (w1 := wb) (by rfl) rfl (by first | (go_simp; done) | (go_simp; rfl)) ?_
        refine hK.out _ _ ?_
        clear hK K
        refine done_ (by kernel_rfl) ?_
        clear hrun d0 d1 c2 HI2 HT2 HE2
        go_wp2_with fail
        go_roundw
        case rel => exact ⟨i + 1, by go_num, HI1.out, by rw [HTK.out]; exact HI9, HT9, HE9⟩
        case measure => simp [intOf]; have := HI1.out; omega
      · have h1i : ¬ (i : Int) < (m : Int) := by omega
        obtain rfl : i = m := by omega
        have htk : E.take i = E := by rw [← HME.out]; exact List.take_length
        rw [htk] at HI
        clear htk
        go_wp2_with fail
        go_ret
        exact ⟨rfl, by unfold dropE; rw [HEE.out]; exact HI.out, HT.out⟩
end Go.Proofs.Ytondnammkcgjpaa.Ft
namespace Go.Proofs.Ytondnammkcgjpaa.Ft
open Go Go.RowKit Go.Shelf Go.Proofs.YtondnammkcgjpaaW.PrintWords Go.Proofs.YtondnammkcgjpaaW.PrintLast Go.Proofs.YtondnammkcgjpaaW.PrintMore Go.Proofs.Ytondnammkcgjpaa.Mp
open Go.Proofs.Ytondnammkcgjpaa.ShaP Go.Proofs.Ytondnammkcgjpaa.Mk Go.Proofs.Ytondnammkcgjpaa.Rg Go.Proofs.Ytondnammkcgjpaa.RgP Go.Proofs.Ytondnammkcgjpaa.Rf Go.Proofs.Ytondnammkcgjpaa.RgL Go.Proofs.Ytondnammkcgjpaa.Til Go.Proofs.Ytondnammkcgjpaa.Fg Go.Proofs.Ytondnammkcgjpaa.Fun Go.Proofs.Ytondnammkcgjpaa.Rng
variable {base g gt gb : Nat} {s : FS} {w W : World}
theorem take_width (b : Bool) (x0 x1 : Int) (A : Option Addr) (c : Nat) (l : List ByteArray) (h : IsF base w g gt gb s) (hb : base ≤ w.heap.size) (hmax : l.length ≤ maxLen) (hr : Kd.C Kd.string w A l.length l) (hw : (l.length : Int) ≠ wdF s.size x0 x1) :
    Calls Try.prog 71 #[.pointer (some ⟨g, 0, none⟩), .agg #[.bool b, .int .i64 x0, .int .i64 x1], .slice A l.length c] w fun e w' => e = .returned (.int .i64 2) ∧ IsF base w' g gt gb s ∧ Turn (Foot g gt gb) w w' := by
  have OW := Aside0.mk (Mem.Own.nil w)
  have HF := Aside0.mk h
  have HR := Aside0.mk hr
  have HB := Aside0.mk hb
  have HMX := Aside0.mk hmax
  have HWD := Aside0.mk (fun W => width_c (s.size : Int) x0 x1 W)
  have hne : ((l.length : Int) != inTile x1 (cntv s.size x0)) = true := bne_iff_ne.2 hw
  generalize inTile x1 (cntv s.size x0) = q at *
  clear h hr hb
  go_enter Try.func71, Try.ntmps71
  go_wp2_with (first
    | ((with_reducible refine gate_dst (N := 4) rfl ?_); refine box_event ?hg (N := 4) ?hd (cs := #[.bool b, .int .i64 x0, .int .i64 x1]) (t := 58) ?hr ?_; (case hd => rfl); (case hg => rfl); (case hr => first | (go_simp; done) | (go_simp; rfl)); intro gI hg W_ hb hbb; have n_ : Aside0 (Mem.Own w W_ [(gI, #[.bool b, .int .i64 x0, .int .i64 x1], 58)]) := ⟨OW.out.new hg hb hbb⟩; clear OW hb hbb hg; have OW := n_; clear n_))
  have OD := Aside0.mk OW.out.drew
  have HFD := Aside0.mk ((HF.out.below OW.out.below).drew)
  have HRD := Aside0.mk (Kd.C_drew (Kd.C_below HR.out OW.out.below))
  have b0 : W_.drew.cell? ⟨gI, 0, none⟩ = some (.bool b) := (OD.out.cell 0 rfl 0).trans rfl
  have b1 : W_.drew.cell? ⟨gI, 1, none⟩ = some (.int .i64 x0) := (OD.out.cell 0 rfl 1).trans rfl
  have b2 : W_.drew.cell? ⟨gI, 2, none⟩ = some (.int .i64 x1) := (OD.out.cell 0 rfl 2).trans rfl
  have c0 : W_.drew.cell? ⟨g, 72, none⟩ = some (.int .i64 s.size) := (HFD.out.cell 0).trans rfl
  clear OW
  go_wp2_with fail
  refine start_ (n := 20) (S := fun w' => Below (W_).drew.heap.size (W_).drew w') (ds := []) #[false, false, false, false, false, false, false, false, false, false, false, false, false, false, false, false, false, false, false, false] (by kernel_rfl) rfl rfl (Below.refl _ _) (fun hHeld => ?_)
  generalize (W_).drew = W1 at *
  refine pure_ (i := 0) (N := (some 8)) (v := ?_) (a' := ?_) #[true, false, false, false, false, false, false, false, false, false, false, false, false, false, false, false, false, false, false, false] rfl rfl (by kernel_rfl) (fun _ _ _ h => h) (Or.inl ⟨by rfl, ?_⟩) ?_ ?_
  rotate_left
  · intro w'
    go_simp
    first | done | with_reducible rfl
  rotate_left
  · simp only [Act.put, List.setIfInBounds_toArray, List.set_cons_zero, List.set_cons_succ, i64_w, i32_w]
    rfl
  refine pure_ (i := 1) (N := (some 9)) (v := ?_) (a' := ?_) #[true, true, false, false, false, false, false, false, false, false, false, false, false, false, false, false, false, false, false, false] rfl rfl (by kernel_rfl) (fun _ _ _ h => h) (Or.inl ⟨by rfl, ?_⟩) ?_ ?_
  rotate_left
  · intro w'
    go_simp
    first | done | with_reducible rfl
  rotate_left
  · simp only [Act.put, List.setIfInBounds_toArray, List.set_cons_zero, List.set_cons_succ, i64_w, i32_w]
    rfl
  refine pure_ (i := 2) (N := (some 10)) (v := ?_) (a' := ?_) #[true, true, true, false, false, false, false, false, false, false, false, false, false, false, false, false, false, false, false, false] rfl rfl (by kernel_rfl) (fun _ _ _ h => h) (Or.inl ⟨by rfl, ?_⟩) ?_ ?_
  rotate_left
  · intro w'
    go_simp
    first | done | with_reducible rfl
  rotate_left
  · simp only [Act.put, List.setIfInBounds_toArray, List.set_cons_zero, List.set_cons_succ, i64_w, i32_w]
    rfl
  refine pure_ (i := 3) (N := (some 11)) (v := ?_) (a' := ?_) #[true, true, true, true, false, false, false, false, false, false, false, false, false, false, false, false, false, false, false, false] rfl rfl (by kernel_rfl) (fun _ _ _ h => h) (Or.inl ⟨by rfl, ?_⟩) ?_ ?_
  rotate_left
  · intro w'
    skip
    go_simp
    first | done | with_reducible rfl
  rotate_left
  · simp only [Act.put, List.setIfInBounds_toArray, List.set_cons_zero, List.set_cons_succ, i64_w, i32_w]
    rfl
  refine pure_ (i := 4) (N := (some 12)) (v := ?_) (a' := ?_) #[true, true, true, true, true, false, false, false, false, false, false, false, false, false, false, false, false, false, false, false] rfl rfl (by kernel_rfl) (fun _ _ _ h => h) (Or.inl ⟨by rfl, ?_⟩) ?_ ?_
  rotate_left
  · intro w'
    go_simp
    first | done | with_reducible rfl
  rotate_left
  · simp only [Act.put, List.setIfInBounds_toArray, List.set_cons_zero, List.set_cons_succ, i64_w, i32_w]
    rfl
  refine take_ (i := 5) (N := (some 13)) (v := ?_) (a' := ?_) #[true, true, true, true, true, true, false, false, false, false, false, false, false, false, false, false, false, false, false, false] rfl rfl (by kernel_rfl) (fun _ _ _ h => h) (Or.inl ⟨by rfl, ?_⟩) hHeld ?_ ?_
  rotate_left
  · intro w' hS
    have s0 := pw_cell_below hS c0
    go_simp
    first | done | with_reducible rfl
  rotate_left
  · simp only [Act.put, List.setIfInBounds_toArray, List.set_cons_zero, List.set_cons_succ, i64_w, i32_w]
    rfl
  refine pure_ (i := 6) (N := (some 14)) (v := ?_) (a' := ?_) #[true, true, true, true, true, true, true, false, false, false, false, false, false, false, false, false, false, false, false, false] rfl rfl (by kernel_rfl) (fun _ _ _ h => h) (Or.inl ⟨by rfl, ?_⟩) ?_ ?_
  rotate_left
  · intro w'
    go_simp
    first | done | with_reducible rfl
  rotate_left
  · simp only [Act.put, List.setIfInBounds_toArray, List.set_cons_zero, List.set_cons_succ, i64_w, i32_w]
    rfl
  refine take_ (i := 7) (N := (some 15)) (v := ?_) (a' := ?_) #[true, true, true, true, true, true, true, true, false, false, false, false, false, false, false, false, false, false, false, false] rfl rfl (by kernel_rfl) (fun _ _ _ h => h) (Or.inl ⟨by rfl, ?_⟩) hHeld ?_ ?_
  rotate_left
  · intro w' hS
    have s0 := pw_cell_below hS b1
    have s1 := pw_cell_below hS b2
    go_simp
    first | done | with_reducible rfl
  rotate_left
  · simp only [Act.put, List.setIfInBounds_toArray, List.set_cons_zero, List.set_cons_succ, i64_w, i32_w]
    rfl
  refine one_ (i := 8) (N := (some 16)) #[true, true, true, true, true, true, true, true, true, false, false, false, false, false, false, false, false, false, false, false] rfl rfl (by kernel_rfl) (by decide) (fun K hK => ?_)
  refine goes_ Try.func50 (by kernel_rfl) rfl #[.int .i64 s.size, .agg #[.int .i64 x0, .int .i64 x1]] (by rfl) rfl rfl (by (try simp only [List.map_toArray, List.map_cons, List.map_nil]); first | done | rfl) ?_
  (with_reducible refine (HWD.out _).mono ?_)
  rintro e wa ⟨rfl, hB⟩
  refine ⟨_, rfl, ?_⟩
  have hS2 : Below W1.heap.size W1 wa := below_step hHeld hB
  clear hB hHeld
  refine hK.out _ _ hS2 (fun hHeld => ?_)
  clear hK K
  refine norm_ (a' := ?_) ?_ ?_
  rotate_left
  · show Act.put _ (some 16) _ = _
    simp only [Act.put, List.setIfInBounds_toArray, List.set_cons_zero, List.set_cons_succ, i64_w, i32_w]
    rfl
  refine pure_ (i := 9) (N := (some 17)) (v := ?_) (a' := ?_) #[true, true, true, true, true, true, true, true, true, true, false, false, false, false, false, false, false, false, false, false] rfl rfl (by kernel_rfl) (fun _ _ _ h => h) (Or.inl ⟨by rfl, ?_⟩) ?_ ?_
  rotate_left
  · intro w'
    go_simp
    first | done | with_reducible rfl
  rotate_left
  · simp only [Act.put, List.setIfInBounds_toArray, List.set_cons_zero, List.set_cons_succ, i64_w, i32_w]
    rfl
  refine pure_ (i := 10) (N := (some 18)) (v := ?_) (a' := ?_) #[true, true, true, true, true, true, true, true, true, true, true, false, false, false, false, false, false, false, false, false] rfl rfl (by kernel_rfl) (fun _ _ _ h => h) (Or.inl ⟨by rfl, ?_⟩) ?_ ?_
  rotate_left
  · intro w'
    go_simp
    first | done | with_reducible rfl
  rotate_left
  · simp only [Act.put, List.setIfInBounds_toArray, List.set_cons_zero, List.set_cons_succ, i64_w, i32_w]
    rfl
  refine pure_ (i := 11) (N := (some 19)) (v := undef) (a' := ?_) #[true, true, true, true, true, true, true, true, true, true, true, true, false, false, false, false, false, false, false, false] rfl rfl (by kernel_rfl) (fun _ _ _ h => h) (Or.inr ⟨by rfl, rfl⟩) ?_ ?_
  rotate_left
  · simp only [Act.put, List.setIfInBounds_toArray, List.set_cons_zero, List.set_cons_succ, i64_w, i32_w]
    rfl
  refine pure_ (i := 12) (N := (some 20)) (v := undef) (a' := ?_) #[true, true, true, true, true, true, true, true, true, true, true, true, true, false, false, false, false, false, false, false] rfl rfl (by kernel_rfl) (fun _ _ _ h => h) (Or.inr ⟨by rfl, rfl⟩) ?_ ?_
  rotate_left
  · simp only [Act.put, List.setIfInBounds_toArray, List.set_cons_zero, List.set_cons_succ, i64_w, i32_w]
    rfl
  refine pure_ (i := 13) (N := (some 21)) (v := undef) (a' := ?_) #[true, true, true, true, true, true, true, true, true, true, true, true, true, true, false, false, false, false, false, false] rfl rfl (by kernel_rfl) (fun _ _ _ h => h) (Or.inr ⟨by rfl, rfl⟩) ?_ ?_
  rotate_left
  · simp only [Act.put, List.setIfInBounds_toArray, List.set_cons_zero, List.set_cons_succ, i64_w, i32_w]
    rfl
  refine pure_ (i := 14) (N := (some 22)) (v := undef) (a' := ?_) #[true, true, true, true, true, true, true, true, true, true, true, true, true, true, true, false, false, false, false, false] rfl rfl (by kernel_rfl) (fun _ _ _ h => h) (Or.inr ⟨by rfl, rfl⟩) ?_ ?_
  rotate_left
  · simp only [Act.put, List.setIfInBounds_toArray, List.set_cons_zero, List.set_cons_succ, i64_w, i32_w]
    rfl
  refine pure_ (i := 15) (N := (some 23)) (v := undef) (a' := ?_) #[true, true, true, true, true, true, true, true, true, true, true, true, true, true, true, true, false, false, false, false] rfl rfl (by kernel_rfl) (fun _ _ _ h => h) (Or.inr ⟨by rfl, rfl⟩) ?_ ?_
  rotate_left
  · simp only [Act.put, List.setIfInBounds_toArray, List.set_cons_zero, List.set_cons_succ, i64_w, i32_w]
    rfl
  refine pure_ (i := 16) (N := (some 24)) (v := undef) (a' := ?_) #[true, true, true, true, true, true, true, true, true, true, true, true, true, true, true, true, true, false, false, false] rfl rfl (by kernel_rfl) (fun _ _ _ h => h) (Or.inr ⟨by rfl, rfl⟩) ?_ ?_
  rotate_left
  · simp only [Act.put, List.setIfInBounds_toArray, List.set_cons_zero, List.set_cons_succ, i64_w, i32_w]
    rfl
  refine pure_ (i := 17) (N := (some 25)) (v := undef) (a' := ?_) #[true, true, true, true, true, true, true, true, true, true, true, true, true, true, true, true, true, true, false, false] rfl rfl (by kernel_rfl) (fun _ _ _ h => h) (Or.inr ⟨by rfl, rfl⟩) ?_ ?_
  rotate_left
  · simp only [Act.put, List.setIfInBounds_toArray, List.set_cons_zero, List.set_cons_succ, i64_w, i32_w]
    rfl
  refine pure_ (i := 18) (N := (some 26)) (v := ?_) (a' := ?_) #[true, true, true, true, true, true, true, true, true, true, true, true, true, true, true, true, true, true, true, false] rfl rfl (by kernel_rfl) (fun _ _ _ h => h) (Or.inl ⟨by rfl, ?_⟩) ?_ ?_
  rotate_left
  · intro w'
    go_simp
    first | done | with_reducible rfl
  rotate_left
  · simp only [Act.put, List.setIfInBounds_toArray, List.set_cons_zero, List.set_cons_succ, i64_w, i32_w]
    rfl
  refine pure_ (i := 19) (N := (some 7)) (v := ?_) (a' := ?_) #[true, true, true, true, true, true, true, true, true, true, true, true, true, true, true, true, true, true, true, true] rfl rfl (by kernel_rfl) (fun _ _ _ h => h) (Or.inl ⟨by rfl, ?_⟩) ?_ ?_
  rotate_left
  · intro w'
    go_simp
    first | done | with_reducible rfl
  rotate_left
  · simp only [Act.put, List.setIfInBounds_toArray, List.set_cons_zero, List.set_cons_succ, i64_w, i32_w]
    rfl
  refine done_ (by kernel_rfl) ?_
  have HBW := Aside0.mk (below_step OD.out.below hHeld)
  clear hHeld b0 b1 b2 c0 HRD
  go_wp2_with fail
  go_ret
  exact ⟨rfl, HF.out.below HBW.out, Turn.below HBW.out⟩
theorem take_bad (x0 x1 : Int) (A : Option Addr) (c : Nat) (l : List ByteArray) (h : IsF base w g gt gb s) (hb : base ≤ w.heap.size) (hmax : l.length ≤ maxLen) (hr : Kd.C Kd.string w A l.length l) (hw : (l.length : Int) = wdF s.size x0 x1) (h32 : all32 l = false) :
    Calls Try.prog 71 #[.pointer (some ⟨g, 0, none⟩), .agg #[.bool false, .int .i64 x0, .int .i64 x1], .slice A l.length c] w fun e w' => e = .returned (.int .i64 2) ∧ IsF base w' g gt gb s ∧ Turn (Foot g gt gb) w w' := by
  have OW := Aside0.mk (Mem.Own.nil w)
  have HF := Aside0.mk h
  have HR := Aside0.mk hr
  have HB := Aside0.mk hb
  have HMX := Aside0.mk hmax
  have HWD := Aside0.mk (fun W => width_c (s.size : Int) x0 x1 W)
  rw [show inTile x1 (cntv s.size x0) = (l.length : Int) from hw.symm] at HWD
  have hne : ((l.length : Int) != (l.length : Int)) = false := by simp
  have HSH := Aside0.mk (fun W (h : Kd.C Kd.string W A l.length l) => short_c A c l W HMX.out h)
  rw [h32] at HSH
  clear h hr hb h32 hw
  go_enter Try.func71, Try.ntmps71
  go_wp2_with (first
    | ((with_reducible refine gate_dst (N := 4) rfl ?_); refine box_event ?hg (N := 4) ?hd (cs := #[.bool false, .int .i64 x0, .int .i64 x1]) (t := 58) ?hr ?_; (case hd => rfl); (case hg => rfl); (case hr => first | (go_simp; done) | (go_simp; rfl)); intro gI hg W_ hb hbb; have n_ : Aside0 (Mem.Own w W_ [(gI, #[.bool false, .int .i64 x0, .int .i64 x1], 58)]) := ⟨OW.out.new hg hb hbb⟩; clear OW hb hbb hg; have OW := n_; clear n_))
  have OD := Aside0.mk OW.out.drew
  have HFD := Aside0.mk ((HF.out.below OW.out.below).drew)
  have HRD := Aside0.mk (Kd.C_drew (Kd.C_below HR.out OW.out.below))
  have b0 : W_.drew.cell? ⟨gI, 0, none⟩ = some (.bool false) := (OD.out.cell 0 rfl 0).trans rfl
  have b1 : W_.drew.cell? ⟨gI, 1, none⟩ = some (.int .i64 x0) := (OD.out.cell 0 rfl 1).trans rfl
  have b2 : W_.drew.cell? ⟨gI, 2, none⟩ = some (.int .i64 x1) := (OD.out.cell 0 rfl 2).trans rfl
  have c0 : W_.drew.cell? ⟨g, 72, none⟩ = some (.int .i64 s.size) := (HFD.out.cell 0).trans rfl
  clear OW
  go_wp2_with fail
  refine start_ (n := 20) (S := fun w' => Below (W_).drew.heap.size (W_).drew w') (ds := []) #[false, false, false, false, false, false, false, false, false, false, false, false, false, false, false, false, false, false, false, false] (by kernel_rfl) rfl rfl (Below.refl _ _) (fun hHeld => ?_)
  generalize (W_).drew = W1 at *
  refine pure_ (i := 0) (N := (some 8)) (v := ?_) (a' := ?_) #[true, false, false, false, false, false, false, false, false, false, false, false, false, false, false, false, false, false, false, false] rfl rfl (by kernel_rfl) (fun _ _ _ h => h) (Or.inl ⟨by rfl, ?_⟩) ?_ ?_
  rotate_left
  · intro w'
    go_simp
    first | done | with_reducible rfl
  rotate_left
  · simp only [Act.put, List.setIfInBounds_toArray, List.set_cons_zero, List.set_cons_succ, i64_w, i32_w]
    rfl
  refine pure_ (i := 1) (N := (some 9)) (v := ?_) (a' := ?_) #[true, true, false, false, false, false, false, false, false, false, false, false, false, false, false, false, false, false, false, false] rfl rfl (by kernel_rfl) (fun _ _ _ h => h) (Or.inl ⟨by rfl, ?_⟩) ?_ ?_
  rotate_left
  · intro w'
    go_simp
    first | done | with_reducible rfl
  rotate_left
  · simp only [Act.put, List.setIfInBounds_toArray, List.set_cons_zero, List.set_cons_succ, i64_w, i32_w]
    rfl
  refine pure_ (i := 2) (N := (some 10)) (v := ?_) (a' := ?_) #[true, true, true, false, false, false, false, false, false, false, false, false, false, false, false, false, false, false, false, false] rfl rfl (by kernel_rfl) (fun _ _ _ h => h) (Or.inl ⟨by rfl, ?_⟩) ?_ ?_
  rotate_left
  · intro w'
    go_simp
    first | done | with_reducible rfl
  rotate_left
  · simp only [Act.put, List.setIfInBounds_toArray, List.set_cons_zero, List.set_cons_succ, i64_w, i32_w]
    rfl
  refine pure_ (i := 3) (N := (some 11)) (v := ?_) (a' := ?_) #[true, true, true, true, false, false, false, false, false, false, false, false, false, false, false, false, false, false, false, false] rfl rfl (by kernel_rfl) (fun _ _ _ h => h) (Or.inl ⟨by rfl, ?_⟩) ?_ ?_
  rotate_left
  · intro w'
    skip
    go_simp
    first | done | with_reducible rfl
  rotate_left
  · simp only [Act.put, List.setIfInBounds_toArray, List.set_cons_zero, List.set_cons_succ, i64_w, i32_w]
    rfl
  refine pure_ (i := 4) (N := (some 12)) (v := ?_) (a' := ?_) #[true, true, true, true, true, false, false, false, false, false, false, false, false, false, false, false, false, false, false, false] rfl rfl (by kernel_rfl) (fun _ _ _ h => h) (Or.inl ⟨by rfl, ?_⟩) ?_ ?_
  rotate_left
  · intro w'
    go_simp
    first | done | with_reducible rfl
  rotate_left
  · simp only [Act.put, List.setIfInBounds_toArray, List.set_cons_zero, List.set_cons_succ, i64_w, i32_w]
    rfl
  refine take_ (i := 5) (N := (some 13)) (v := ?_) (a' := ?_) #[true, true, true, true, true, true, false, false, false, false, false, false, false, false, false, false, false, false, false, false] rfl rfl (by kernel_rfl) (fun _ _ _ h => h) (Or.inl ⟨by rfl, ?_⟩) hHeld ?_ ?_
  rotate_left
  · intro w' hS
    have s0 := pw_cell_below hS c0
    go_simp
    first | done | with_reducible rfl
  rotate_left
  · simp only [Act.put, List.setIfInBounds_toArray, List.set_cons_zero, List.set_cons_succ, i64_w, i32_w]
    rfl
  refine pure_ (i := 6) (N := (some 14)) (v := ?_) (a' := ?_) #[true, true, true, true, true, true, true, false, false, false, false, false, false, false, false, false, false, false, false, false] rfl rfl (by kernel_rfl) (fun _ _ _ h => h) (Or.inl ⟨by rfl, ?_⟩) ?_ ?_
  rotate_left
  · intro w'
    go_simp
    first | done | with_reducible rfl
  rotate_left
  · simp only [Act.put, List.setIfInBounds_toArray, List.set_cons_zero, List.set_cons_succ, i64_w, i32_w]
    rfl
  refine take_ (i := 7) (N := (some 15)) (v := ?_) (a' := ?_) #[true, true, true, true, true, true, true, true, false, false, false, false, false, false, false, false, false, false, false, false] rfl rfl (by kernel_rfl) (fun _ _ _ h => h) (Or.inl ⟨by rfl, ?_⟩) hHeld ?_ ?_
  rotate_left
  · intro w' hS
    have s0 := pw_cell_below hS b1
    have s1 := pw_cell_below hS b2
    go_simp
    first | done | with_reducible rfl
  rotate_left
  · simp only [Act.put, List.setIfInBounds_toArray, List.set_cons_zero, List.set_cons_succ, i64_w, i32_w]
    rfl
  refine one_ (i := 8) (N := (some 16)) #[true, true, true, true, true, true, true, true, true, false, false, false, false, false, false, false, false, false, false, false] rfl rfl (by kernel_rfl) (by decide) (fun K hK => ?_)
  refine goes_ Try.func50 (by kernel_rfl) rfl #[.int .i64 s.size, .agg #[.int .i64 x0, .int .i64 x1]] (by rfl) rfl rfl (by (try simp only [List.map_toArray, List.map_cons, List.map_nil]); first | done | rfl) ?_
  (with_reducible refine (HWD.out _).mono ?_)
  rintro e wa ⟨rfl, hB⟩
  refine ⟨_, rfl, ?_⟩
  have hS2 : Below W1.heap.size W1 wa := below_step hHeld hB
  clear hB hHeld
  refine hK.out _ _ hS2 (fun hHeld => ?_)
  clear hK K
  refine norm_ (a' := ?_) ?_ ?_
  rotate_left
  · show Act.put _ (some 16) _ = _
    simp only [Act.put, List.setIfInBounds_toArray, List.set_cons_zero, List.set_cons_succ, i64_w, i32_w]
    rfl
  refine pure_ (i := 9) (N := (some 17)) (v := ?_) (a' := ?_) #[true, true, true, true, true, true, true, true, true, true, false, false, false, false, false, false, false, false, false, false] rfl rfl (by kernel_rfl) (fun _ _ _ h => h) (Or.inl ⟨by rfl, ?_⟩) ?_ ?_
  rotate_left
  · intro w'
    go_simp
    first | done | with_reducible rfl
  rotate_left
  · simp only [Act.put, List.setIfInBounds_toArray, List.set_cons_zero, List.set_cons_succ, i64_w, i32_w]
    rfl
  refine pure_ (i := 10) (N := (some 18)) (v := ?_) (a' := ?_) #[true, true, true, true, true, true, true, true, true, true, true, false, false, false, false, false, false, false, false, false] rfl rfl (by kernel_rfl) (fun _ _ _ h => h) (Or.inl ⟨by rfl, ?_⟩) ?_ ?_
  rotate_left
  · intro w'
    go_simp
    first | done | with_reducible rfl
  rotate_left
  · simp only [Act.put, List.setIfInBounds_toArray, List.set_cons_zero, List.set_cons_succ, i64_w, i32_w]
    rfl
  refine pure_ (i := 11) (N := (some 19)) (v := ?_) (a' := ?_) #[true, true, true, true, true, true, true, true, true, true, true, true, false, false, false, false, false, false, false, false] rfl rfl (by kernel_rfl) (fun _ _ _ h => h) (Or.inl ⟨by rfl, ?_⟩) ?_ ?_
  rotate_left
  · intro w'
    go_simp
    first | done | with_reducible rfl
  rotate_left
  · simp only [Act.put, List.setIfInBounds_toArray, List.set_cons_zero, List.set_cons_succ, i64_w, i32_w]
    rfl
  refine take_ (i := 12) (N := (some 20)) (v := ?_) (a' := ?_) #[true, true, true, true, true, true, true, true, true, true, true, true, true, false, false, false, false, false, false, false] rfl rfl (by kernel_rfl) (fun _ _ _ h => h) (Or.inl ⟨by rfl, ?_⟩) hHeld ?_ ?_
  rotate_left
  · intro w' hS
    have s0 := pw_cell_below hS b0
    go_simp
    first | done | with_reducible rfl
  rotate_left
  · simp only [Act.put, List.setIfInBounds_toArray, List.set_cons_zero, List.set_cons_succ, i64_w, i32_w]
    rfl
  refine pure_ (i := 13) (N := (some 21)) (v := ?_) (a' := ?_) #[true, true, true, true, true, true, true, true, true, true, true, true, true, true, false, false, false, false, false, false] rfl rfl (by kernel_rfl) (fun _ _ _ h => h) (Or.inl ⟨by rfl, ?_⟩) ?_ ?_
  rotate_left
  · intro w'
    go_simp
    first | done | with_reducible rfl
  rotate_left
  · simp only [Act.put, List.setIfInBounds_toArray, List.set_cons_zero, List.set_cons_succ, i64_w, i32_w]
    rfl
  refine pure_ (i := 14) (N := (some 22)) (v := ?_) (a' := ?_) #[true, true, true, true, true, true, true, true, true, true, true, true, true, true, true, false, false, false, false, false] rfl rfl (by kernel_rfl) (fun _ _ _ h => h) (Or.inl ⟨by rfl, ?_⟩) ?_ ?_
  rotate_left
  · intro w'
    go_simp
    first | done | with_reducible rfl
  rotate_left
  · simp only [Act.put, List.setIfInBounds_toArray, List.set_cons_zero, List.set_cons_succ, i64_w, i32_w]
    rfl
  refine pure_ (i := 15) (N := (some 23)) (v := ?_) (a' := ?_) #[true, true, true, true, true, true, true, true, true, true, true, true, true, true, true, true, false, false, false, false] rfl rfl (by kernel_rfl) (fun _ _ _ h => h) (Or.inl ⟨by rfl, ?_⟩) ?_ ?_
  rotate_left
  · intro w'
    go_simp
    first | done | with_reducible rfl
  rotate_left
  · simp only [Act.put, List.setIfInBounds_toArray, List.set_cons_zero, List.set_cons_succ, i64_w, i32_w]
    rfl
  refine one_ (i := 16) (N := (some 24)) #[true, true, true, true, true, true, true, true, true, true, true, true, true, true, true, true, true, false, false, false] rfl rfl (by kernel_rfl) (by decide) (fun K hK => ?_)
  refine goes_ Try.func96 (by kernel_rfl) rfl #[.slice A l.length c] (by rfl) rfl rfl (by (try simp only [List.map_toArray, List.map_cons, List.map_nil]); first | done | rfl) ?_
  (with_reducible refine (HSH.out _ (Kd.C_below HRD.out hHeld)).mono ?_)
  rintro e wb ⟨rfl, rfl⟩
  refine ⟨_, rfl, ?_⟩
  have hS2 : Below W1.heap.size W1 wb := hHeld
  clear hHeld
  refine hK.out _ _ hS2 (fun hHeld => ?_)
  clear hK K
  refine norm_ (a' := ?_) ?_ ?_
  rotate_left
  · show Act.put _ (some 24) _ = _
    simp only [Act.put, List.setIfInBounds_toArray, List.set_cons_zero, List.set_cons_succ, i64_w, i32_w]
    rfl
  refine pure_ (i := 17) (N := (some 25)) (v := ?_) (a' := ?_) #[true, true, true, true, true, true, true, true, true, true, true, true, true, true, true, true, true, true, false, false] rfl rfl (by kernel_rfl) (fun _ _ _ h => h) (Or.inl ⟨by rfl, ?_⟩) ?_ ?_
  rotate_left
  · intro w'
    go_simp
    first | done | with_reducible rfl
  rotate_left
  · simp only [Act.put, List.setIfInBounds_toArray, List.set_cons_zero, List.set_cons_succ, i64_w, i32_w]
    rfl
  refine pure_ (i := 18) (N := (some 26)) (v := ?_) (a' := ?_) #[true, true, true, true, true, true, true, true, true, true, true, true, true, true, true, true, true, true, true, false] rfl rfl (by kernel_rfl) (fun _ _ _ h => h) (Or.inl ⟨by rfl, ?_⟩) ?_ ?_
  rotate_left
  · intro w'
    go_simp
    first | done | with_reducible rfl
  rotate_left
  · simp only [Act.put, List.setIfInBounds_toArray, List.set_cons_zero, List.set_cons_succ, i64_w, i32_w]
    rfl
  refine pure_ (i := 19) (N := (some 7)) (v := ?_) (a' := ?_) #[true, true, true, true, true, true, true, true, true, true, true, true, true, true, true, true, true, true, true, true] rfl rfl (by kernel_rfl) (fun _ _ _ h => h) (Or.inl ⟨by rfl, ?_⟩) ?_ ?_
  rotate_left
  · intro w'
    go_simp
    first | done | with_reducible rfl
  rotate_left
  · simp only [Act.put, List.setIfInBounds_toArray, List.set_cons_zero, List.set_cons_succ, i64_w, i32_w]
    rfl
  refine done_ (by kernel_rfl) ?_
  have HBW := Aside0.mk (below_step OD.out.below hHeld)
  clear hHeld b0 b1 b2 c0 HRD
  go_wp2_with fail
  go_ret
  exact ⟨rfl, HF.out.below HBW.out, Turn.below HBW.out⟩
theorem take_b (x0 x1 : Int) (A : Option Addr) (c : Nat) (l : List ByteArray) (h : IsF base w g gt gb s) (hb : base ≤ w.heap.size) (hmax : l.length ≤ maxLen) (hr : Kd.C Kd.string w A l.length l) (hw : (l.length : Int) = wdF s.size x0 x1) (hlen : (tileOf s (x0, x1)).length ≤ l.length) (h0 : 0 < l.length) (h4 : l.length ≤ 4) (hsz : ∀ y ∈ l, y.size ≤ 100000) (w0 : wf x0) (w1 : wf x1) :
    Calls Try.prog 71 #[.pointer (some ⟨g, 0, none⟩), .agg #[.bool true, .int .i64 x0, .int .i64 x1], .slice A l.length c] w fun e w' => e = .returned (.int .i64 (if okB s (x0, x1) l then 0 else 8)) ∧ IsF base w' g gt gb (if okB s (x0, x1) l then putB s x1 l else s) ∧ Turn (Foot g gt gb) w w' := by
  have OW := Aside0.mk (Mem.Own.nil w)
  have HF := Aside0.mk h
  have HR := Aside0.mk hr
  have HB := Aside0.mk hb
  have HMX := Aside0.mk hmax
  have HWD := Aside0.mk (fun W => width_c (s.size : Int) x0 x1 W)
  rw [show inTile x1 (cntv s.size x0) = (l.length : Int) from hw.symm] at HWD
  have hne : ((l.length : Int) != (l.length : Int)) = false := by simp
  have HTB := Aside0.mk (fun W (h : IsF base W g gt gb s) (hb : base ≤ W.heap.size) (hr : Kd.C Kd.string W A l.length l) => takeB_c x0 x1 A c l h hb hlen h0 h4 hsz w0 w1 hr)
  generalize (if okB s (x0, x1) l then (0 : Int) else 8) = cd at *
  generalize (if okB s (x0, x1) l then putB s x1 l else s) = s9 at *
  clear h hr hb hw hlen h0 h4 hsz w0 w1
  go_enter Try.func71, Try.ntmps71
  go_wp2_with (first
    | ((with_reducible refine gate_dst (N := 4) rfl ?_); refine box_event ?hg (N := 4) ?hd (cs := #[.bool true, .int .i64 x0, .int .i64 x1]) (t := 58) ?hr ?_; (case hd => rfl); (case hg => rfl); (case hr => first | (go_simp; done) | (go_simp; rfl)); intro gI hg W_ hb hbb; have n_ : Aside0 (Mem.Own w W_ [(gI, #[.bool true, .int .i64 x0, .int .i64 x1], 58)]) := ⟨OW.out.new hg hb hbb⟩; clear OW hb hbb hg; have OW := n_; clear n_))
  have OD := Aside0.mk OW.out.drew
  have HFD := Aside0.mk ((HF.out.below OW.out.below).drew)
  have HRD := Aside0.mk (Kd.C_drew (Kd.C_below HR.out OW.out.below))
  have b0 : W_.drew.cell? ⟨gI, 0, none⟩ = some (.bool true) := (OD.out.cell 0 rfl 0).trans rfl
  have b1 : W_.drew.cell? ⟨gI, 1, none⟩ = some (.int .i64 x0) := (OD.out.cell 0 rfl 1).trans rfl
  have b2 : W_.drew.cell? ⟨gI, 2, none⟩ = some (.int .i64 x1) := (OD.out.cell 0 rfl 2).trans rfl
  have c0 : W_.drew.cell? ⟨g, 72, none⟩ = some (.int .i64 s.size) := (HFD.out.cell 0).trans rfl
  clear OW
  go_wp2_with fail
  refine start_ (n := 20) (S := fun w' => Below (W_).drew.heap.size (W_).drew w') (ds := []) #[false, false, false, false, false, false, false, false, false, false, false, false, false, false, false, false, false, false, false, false] (by kernel_rfl) rfl rfl (Below.refl _ _) (fun hHeld => ?_)
  generalize (W_).drew = W1 at *
  refine pure_ (i := 0) (N := (some 8)) (v := ?_) (a' := ?_) #[true, false, false, false, false, false, false, false, false, false, false, false, false, false, false, false, false, false, false, false] rfl rfl (by kernel_rfl) (fun _ _ _ h => h) (Or.inl ⟨by rfl, ?_⟩) ?_ ?_
  rotate_left
  · intro w'
    go_simp
    first | done | with_reducible rfl
  rotate_left
  · simp only [Act.put, List.setIfInBounds_toArray, List.set_cons_zero, List.set_cons_succ, i64_w, i32_w]
    rfl
  refine pure_ (i := 1) (N := (some 9)) (v := ?_) (a' := ?_) #[true, true, false, false, false, false, false, false, false, false, false, false, false, false, false, false, false, false, false, false] rfl rfl (by kernel_rfl) (fun _ _ _ h => h) (Or.inl ⟨by rfl, ?_⟩) ?_ ?_
  rotate_left
  · intro w'
    go_simp
    first | done | with_reducible rfl
  rotate_left
  · simp only [Act.put, List.setIfInBounds_toArray, List.set_cons_zero, List.set_cons_succ, i64_w, i32_w]
    rfl
  refine pure_ (i := 2) (N := (some 10)) (v := ?_) (a' := ?_) #[true, true, true, false, false, false, false, false, false, false, false, false, false, false, false, false, false, false, false, false] rfl rfl (by kernel_rfl) (fun _ _ _ h => h) (Or.inl ⟨by rfl, ?_⟩) ?_ ?_
  rotate_left
  · intro w'
    go_simp
    first | done | with_reducible rfl
  rotate_left
  · simp only [Act.put, List.setIfInBounds_toArray, List.set_cons_zero, List.set_cons_succ, i64_w, i32_w]
    rfl
  refine pure_ (i := 3) (N := (some 11)) (v := ?_) (a' := ?_) #[true, true, true, true, false, false, false, false, false, false, false, false, false, false, false, false, false, false, false, false] rfl rfl (by kernel_rfl) (fun _ _ _ h => h) (Or.inl ⟨by rfl, ?_⟩) ?_ ?_
  rotate_left
  · intro w'
    skip
    go_simp
    first | done | with_reducible rfl
  rotate_left
  · simp only [Act.put, List.setIfInBounds_toArray, List.set_cons_zero, List.set_cons_succ, i64_w, i32_w]
    rfl
  refine pure_ (i := 4) (N := (some 12)) (v := ?_) (a' := ?_) #[true, true, true, true, true, false, false, false, false, false, false, false, false, false, false, false, false, false, false, false] rfl rfl (by kernel_rfl) (fun _ _ _ h => h) (Or.inl ⟨by rfl, ?_⟩) ?_ ?_
  rotate_left
  · intro w'
    go_simp
    first | done | with_reducible rfl
  rotate_left
  · simp only [Act.put, List.setIfInBounds_toArray, List.set_cons_zero, List.set_cons_succ, i64_w, i32_w]
    rfl
  refine take_ (i := 5) (N := (some 13)) (v := ?_) (a' := ?_) #[true, true, true, true, true, true, false, false, false, false, false, false, false, false, false, false, false, false, false, false] rfl rfl (by kernel_rfl) (fun _ _ _ h => h) (Or.inl ⟨by rfl, ?_⟩) hHeld ?_ ?_
  rotate_left
  · intro w' hS
    have s0 := pw_cell_below hS c0
    go_simp
    first | done | with_reducible rfl
  rotate_left
  · simp only [Act.put, List.setIfInBounds_toArray, List.set_cons_zero, List.set_cons_succ, i64_w, i32_w]
    rfl
  refine pure_ (i := 6) (N := (some 14)) (v := ?_) (a' := ?_) #[true, true, true, true, true, true, true, false, false, false, false, false, false, false, false, false, false, false, false, false] rfl rfl (by kernel_rfl) (fun _ _ _ h => h) (Or.inl ⟨by rfl, ?_⟩) ?_ ?_
  rotate_left
  · intro w'
    go_simp
    first | done | with_reducible rfl
  rotate_left
  · simp only [Act.put, List.setIfInBounds_toArray, List.set_cons_zero, List.set_cons_succ, i64_w, i32_w]
    rfl
  refine take_ (i := 7) (N := (some 15)) (v := ?_) (a' := ?_) #[true, true, true, true, true, true, true, true, false, false, false, false, false, false, false, false, false, false, false, false] rfl rfl (by kernel_rfl) (fun _ _ _ h => h) (Or.inl ⟨by rfl, ?_⟩) hHeld ?_ ?_
  rotate_left
  · intro w' hS
    have s0 := pw_cell_below hS b1
    have s1 := pw_cell_below hS b2
    go_simp
    first | done | with_reducible rfl
  rotate_left
  · simp only [Act.put, List.setIfInBounds_toArray, List.set_cons_zero, List.set_cons_succ, i64_w, i32_w]
    rfl
  refine one_ (i := 8) (N := (some 16)) #[true, true, true, true, true, true, true, true, true, false, false, false, false, false, false, false, false, false, false, false] rfl rfl (by kernel_rfl) (by decide) (fun K hK => ?_)
  refine goes_ Try.func50 (by kernel_rfl) rfl #[.int .i64 s.size, .agg #[.int .i64 x0, .int .i64 x1]] (by rfl) rfl rfl (by (try simp only [List.map_toArray, List.map_cons, List.map_nil]); first | done | rfl) ?_
  (with_reducible refine (HWD.out _).mono ?_)
  rintro e wa ⟨rfl, hB⟩
  refine ⟨_, rfl, ?_⟩
  have hS2 : Below W1.heap.size W1 wa := below_step hHeld hB
  clear hB hHeld
  refine hK.out _ _ hS2 (fun hHeld => ?_)
  clear hK K
  refine norm_ (a' := ?_) ?_ ?_
  rotate_left
  · show Act.put _ (some 16) _ = _
    simp only [Act.put, List.setIfInBounds_toArray, List.set_cons_zero, List.set_cons_succ, i64_w, i32_w]
    rfl
  refine pure_ (i := 9) (N := (some 17)) (v := ?_) (a' := ?_) #[true, true, true, true, true, true, true, true, true, true, false, false, false, false, false, false, false, false, false, false] rfl rfl (by kernel_rfl) (fun _ _ _ h => h) (Or.inl ⟨by rfl, ?_⟩) ?_ ?_
  rotate_left
  · intro w'
    go_simp
    first | done | with_reducible rfl
  rotate_left
  · simp only [Act.put, List.setIfInBounds_toArray, List.set_cons_zero, List.set_cons_succ, i64_w, i32_w]
    rfl
  refine pure_ (i := 10) (N := (some 18)) (v := ?_) (a' := ?_) #[true, true, true, true, true, true, true, true, true, true, true, false, false, false, false, false, false, false, false, false] rfl rfl (by kernel_rfl) (fun _ _ _ h => h) (Or.inl ⟨by rfl, ?_⟩) ?_ ?_
  rotate_left
  · intro w'
    go_simp
    first | done | with_reducible rfl
  rotate_left
  · simp only [Act.put, List.setIfInBounds_toArray, List.set_cons_zero, List.set_cons_succ, i64_w, i32_w]
    rfl
  refine pure_ (i := 11) (N := (some 19)) (v := ?_) (a' := ?_) #[true, true, true, true, true, true, true, true, true, true, true, true, false, false, false, false, false, false, false, false] rfl rfl (by kernel_rfl) (fun _ _ _ h => h) (Or.inl ⟨by rfl, ?_⟩) ?_ ?_
  rotate_left
  · intro w'
    go_simp
    first | done | with_reducible rfl
  rotate_left
  · simp only [Act.put, List.setIfInBounds_toArray, List.set_cons_zero, List.set_cons_succ, i64_w, i32_w]
    rfl
  refine take_ (i := 12) (N := (some 20)) (v := ?_) (a' := ?_) #[true, true, true, true, true, true, true, true, true, true, true, true, true, false, false, false, false, false, false, false] rfl rfl (by kernel_rfl) (fun _ _ _ h => h) (Or.inl ⟨by rfl, ?_⟩) hHeld ?_ ?_
  rotate_left
  · intro w' hS
    have s0 := pw_cell_below hS b0
    go_simp
    first | done | with_reducible rfl
  rotate_left
  · simp only [Act.put, List.setIfInBounds_toArray, List.set_cons_zero, List.set_cons_succ, i64_w, i32_w]
    rfl
  refine pure_ (i := 13) (N := (some 21)) (v := ?_) (a' := ?_) #[true, true, true, true, true, true, true, true, true, true, true, true, true, true, false, false, false, false, false, false] rfl rfl (by kernel_rfl) (fun _ _ _ h => h) (Or.inl ⟨by rfl, ?_⟩) ?_ ?_
  rotate_left
  · intro w'
    go_simp
    first | done | with_reducible rfl
  rotate_left
  · simp only [Act.put, List.setIfInBounds_toArray, List.set_cons_zero, List.set_cons_succ, i64_w, i32_w]
    rfl
  refine pure_ (i := 14) (N := (some 22)) (v := ?_) (a' := ?_) #[true, true, true, true, true, true, true, true, true, true, true, true, true, true, true, false, false, false, false, false] rfl rfl (by kernel_rfl) (fun _ _ _ h => h) (Or.inl ⟨by rfl, ?_⟩) ?_ ?_
  rotate_left
  · intro w'
    go_simp
    first | done | with_reducible rfl
  rotate_left
  · simp only [Act.put, List.setIfInBounds_toArray, List.set_cons_zero, List.set_cons_succ, i64_w, i32_w]
    rfl
  refine pure_ (i := 15) (N := (some 23)) (v := undef) (a' := ?_) #[true, true, true, true, true, true, true, true, true, true, true, true, true, true, true, true, false, false, false, false] rfl rfl (by kernel_rfl) (fun _ _ _ h => h) (Or.inr ⟨by rfl, rfl⟩) ?_ ?_
  rotate_left
  · simp only [Act.put, List.setIfInBounds_toArray, List.set_cons_zero, List.set_cons_succ, i64_w, i32_w]
    rfl
  refine pure_ (i := 16) (N := (some 24)) (v := undef) (a' := ?_) #[true, true, true, true, true, true, true, true, true, true, true, true, true, true, true, true, true, false, false, false] rfl rfl (by kernel_rfl) (fun _ _ _ h => h) (Or.inr ⟨by rfl, rfl⟩) ?_ ?_
  rotate_left
  · simp only [Act.put, List.setIfInBounds_toArray, List.set_cons_zero, List.set_cons_succ, i64_w, i32_w]
    rfl
  refine pure_ (i := 17) (N := (some 25)) (v := ?_) (a' := ?_) #[true, true, true, true, true, true, true, true, true, true, true, true, true, true, true, true, true, true, false, false] rfl rfl (by kernel_rfl) (fun _ _ _ h => h) (Or.inl ⟨by rfl, ?_⟩) ?_ ?_
  rotate_left
  · intro w'
    go_simp
    first | done | with_reducible rfl
  rotate_left
  · simp only [Act.put, List.setIfInBounds_toArray, List.set_cons_zero, List.set_cons_succ, i64_w, i32_w]
    rfl
  refine pure_ (i := 18) (N := (some 26)) (v := ?_) (a' := ?_) #[true, true, true, true, true, true, true, true, true, true, true, true, true, true, true, true, true, true, true, false] rfl rfl (by kernel_rfl) (fun _ _ _ h => h) (Or.inl ⟨by rfl, ?_⟩) ?_ ?_
  rotate_left
  · intro w'
    go_simp
    first | done | with_reducible rfl
  rotate_left
  · simp only [Act.put, List.setIfInBounds_toArray, List.set_cons_zero, List.set_cons_succ, i64_w, i32_w]
    rfl
  refine pure_ (i := 19) (N := (some 7)) (v := ?_) (a' := ?_) #[true, true, true, true, true, true, true, true, true, true, true, true, true, true, true, true, true, true, true, true] rfl rfl (by kernel_rfl) (fun _ _ _ h => h) (Or.inl ⟨by rfl, ?_⟩) ?_ ?_
  rotate_left
  · intro w'
    go_simp
    first | done | with_reducible rfl
  rotate_left
  · simp only [Act.put, List.setIfInBounds_toArray, List.set_cons_zero, List.set_cons_succ, i64_w, i32_w]
    rfl
  refine done_ (by kernel_rfl) ?_
  have OE := Aside0.mk (OD.out.step hHeld)
  have HF1 := Aside0.mk (HFD.out.below hHeld)
  have HR1 := Aside0.mk (Kd.C_below HRD.out hHeld)
  have i0 := (OE.out.cell 0 rfl 0).trans rfl
  have i1 := (OE.out.cell 0 rfl 1).trans rfl
  have i2 := (OE.out.cell 0 rfl 2).trans rfl
  clear OD HFD HRD hHeld b0 b1 b2 c0
  go_wp2_with (first
    | (go_at_call 97; (with_reducible refine (HTB.out _ HF1.out (Nat.le_trans HB.out OE.out.size) HR1.out).mono ?_); rintro e wz ⟨rfl, hI, hT⟩; have HI := Aside0.mk hI; have HT := Aside0.mk ((Turn.below OE.out.below).trans hT); clear hI hT i0 i1 i2))
  go_ret
  exact ⟨rfl, HI.out, HT.out⟩
theorem take_e (x0 x1 : Int) (A : Option Addr) (c : Nat) (l : List ByteArray) (h : IsF base w g gt gb s) (hb : base ≤ w.heap.size) (hmax : l.length ≤ maxLen) (hr : Kd.C Kd.string w A l.length l) (hv : InvF s) (hw : (l.length : Int) = wdF s.size x0 x1) (h0 : 0 < l.length) (h4 : l.length ≤ 4) (h32 : A32 l) (he : edB s.size (x0, x1) = true) (w0 : wf x0) (w1 : wf x1) :
    Calls Try.prog 71 #[.pointer (some ⟨g, 0, none⟩), .agg #[.bool false, .int .i64 x0, .int .i64 x1], .slice A l.length c] w fun e w' => e = .returned (.int .i64 (if okE (putT s (x0, x1) l) then 0 else 8)) ∧ IsF base w' g gt gb (if okE (putT s (x0, x1) l) then putT s (x0, x1) l else dropE (putT s (x0, x1) l)) ∧ Turn (Foot g gt gb) w w' := by
  have OW := Aside0.mk (Mem.Own.nil w)
  have HF := Aside0.mk h
  have HR := Aside0.mk hr
  have HB := Aside0.mk hb
  have HMX := Aside0.mk hmax
  have HWD := Aside0.mk (fun W => width_c (s.size : Int) x0 x1 W)
  rw [show inTile x1 (cntv s.size x0) = (l.length : Int) from hw.symm] at HWD
  have hne : ((l.length : Int) != (l.length : Int)) = false := by simp
  have HSH := Aside0.mk (fun W (h : Kd.C Kd.string W A l.length l) => short_c A c l W HMX.out h)
  rw [show all32 l = true from List.all_eq_true.2 (fun y hy => by rw [h32 y hy]; rfl)] at HSH
  have HED := Aside0.mk (fun W (h : IsF base W g gt gb s) => edge1_f base g gt gb s x0 x1 W h)
  rw [he] at HED
  have HTE := Aside0.mk (fun W (h : IsF base W g gt gb s) (hb : base ≤ W.heap.size) (hr : Kd.C Kd.string W A l.length l) => takeE_c x0 x1 A c l h hv hb hw h0 h4 h32 w0 w1 hr)
  generalize (if okE (putT s (x0, x1) l) then (0 : Int) else 8) = cd at *
  generalize (if okE (putT s (x0, x1) l) then putT s (x0, x1) l else dropE (putT s (x0, x1) l)) = s9 at *
  clear h hr hb hv hw h0 h4 h32 he w0 w1
  go_enter Try.func71, Try.ntmps71
  go_wp2_with (first
    | ((with_reducible refine gate_dst (N := 4) rfl ?_); refine box_event ?hg (N := 4) ?hd (cs := #[.bool false, .int .i64 x0, .int .i64 x1]) (t := 58) ?hr ?_; (case hd => rfl); (case hg => rfl); (case hr => first | (go_simp; done) | (go_simp; rfl)); intro gI hg W_ hb hbb; have n_ : Aside0 (Mem.Own w W_ [(gI, #[.bool false, .int .i64 x0, .int .i64 x1], 58)]) := ⟨OW.out.new hg hb hbb⟩; clear OW hb hbb hg; have OW := n_; clear n_))
  have OD := Aside0.mk OW.out.drew
  have HFD := Aside0.mk ((HF.out.below OW.out.below).drew)
  have HRD := Aside0.mk (Kd.C_drew (Kd.C_below HR.out OW.out.below))
  have b0 : W_.drew.cell? ⟨gI, 0, none⟩ = some (.bool false) := (OD.out.cell 0 rfl 0).trans rfl
  have b1 : W_.drew.cell? ⟨gI, 1, none⟩ = some (.int .i64 x0) := (OD.out.cell 0 rfl 1).trans rfl
  have b2 : W_.drew.cell? ⟨gI, 2, none⟩ = some (.int .i64 x1) := (OD.out.cell 0 rfl 2).trans rfl
  have c0 : W_.drew.cell? ⟨g, 72, none⟩ = some (.int .i64 s.size) := (HFD.out.cell 0).trans rfl
  clear OW
  go_wp2_with fail
  refine start_ (n := 20) (S := fun w' => Below (W_).drew.heap.size (W_).drew w') (ds := []) #[false, false, false, false, false, false, false, false, false, false, false, false, false, false, false, false, false, false, false, false] (by kernel_rfl) rfl rfl (Below.refl _ _) (fun hHeld => ?_)
  generalize (W_).drew = W1 at *
  refine pure_ (i := 0) (N := (some 8)) (v := ?_) (a' := ?_) #[true, false, false, false, false, false, false, false, false, false, false, false, false, false, false, false, false, false, false, false] rfl rfl (by kernel_rfl) (fun _ _ _ h => h) (Or.inl ⟨by rfl, ?_⟩) ?_ ?_
  rotate_left
  · intro w'
    go_simp
    first | done | with_reducible rfl
  rotate_left
  · simp only [Act.put, List.setIfInBounds_toArray, List.set_cons_zero, List.set_cons_succ, i64_w, i32_w]
    rfl
  refine pure_ (i := 1) (N := (some 9)) (v := ?_) (a' := ?_) #[true, true, false, false, false, false, false, false, false, false, false, false, false, false, false, false, false, false, false, false] rfl rfl (by kernel_rfl) (fun _ _ _ h => h) (Or.inl ⟨by rfl, ?_⟩) ?_ ?_
  rotate_left
  · intro w'
    go_simp
    first | done | with_reducible rfl
  rotate_left
  · simp only [Act.put, List.setIfInBounds_toArray, List.set_cons_zero, List.set_cons_succ, i64_w, i32_w]
    rfl
  refine pure_ (i := 2) (N := (some 10)) (v := ?_) (a' := ?_) #[true, true, true, false, false, false, false, false, false, false, false, false, false, false, false, false, false, false, false, false] rfl rfl (by kernel_rfl) (fun _ _ _ h => h) (Or.inl ⟨by rfl, ?_⟩) ?_ ?_
  rotate_left
  · intro w'
    go_simp
    first | done | with_reducible rfl
  rotate_left
  · simp only [Act.put, List.setIfInBounds_toArray, List.set_cons_zero, List.set_cons_succ, i64_w, i32_w]
    rfl
  refine pure_ (i := 3) (N := (some 11)) (v := ?_) (a' := ?_) #[true, true, true, true, false, false, false, false, false, false, false, false, false, false, false, false, false, false, false, false] rfl rfl (by kernel_rfl) (fun _ _ _ h => h) (Or.inl ⟨by rfl, ?_⟩) ?_ ?_
  rotate_left
  · intro w'
    skip
    go_simp
    first | done | with_reducible rfl
  rotate_left
  · simp only [Act.put, List.setIfInBounds_toArray, List.set_cons_zero, List.set_cons_succ, i64_w, i32_w]
    rfl
  refine pure_ (i := 4) (N := (some 12)) (v := ?_) (a' := ?_) #[true, true, true, true, true, false, false, false, false, false, false, false, false, false, false, false, false, false, false, false] rfl rfl (by kernel_rfl) (fun _ _ _ h => h) (Or.inl ⟨by rfl, ?_⟩) ?_ ?_
  rotate_left
  · intro w'
    go_simp
    first | done | with_reducible rfl
  rotate_left
  · simp only [Act.put, List.setIfInBounds_toArray, List.set_cons_zero, List.set_cons_succ, i64_w, i32_w]
    rfl
  refine take_ (i := 5) (N := (some 13)) (v := ?_) (a' := ?_) #[true, true, true, true, true, true, false, false, false, false, false, false, false, false, false, false, false, false, false, false] rfl rfl (by kernel_rfl) (fun _ _ _ h => h) (Or.inl ⟨by rfl, ?_⟩) hHeld ?_ ?_
  rotate_left
  · intro w' hS
    have s0 := pw_cell_below hS c0
    go_simp
    first | done | with_reducible rfl
  rotate_left
  · simp only [Act.put, List.setIfInBounds_toArray, List.set_cons_zero, List.set_cons_succ, i64_w, i32_w]
    rfl
  refine pure_ (i := 6) (N := (some 14)) (v := ?_) (a' := ?_) #[true, true, true, true, true, true, true, false, false, false, false, false, false, false, false, false, false, false, false, false] rfl rfl (by kernel_rfl) (fun _ _ _ h => h) (Or.inl ⟨by rfl, ?_⟩) ?_ ?_
  rotate_left
  · intro w'
    go_simp
    first | done | with_reducible rfl
  rotate_left
  · simp only [Act.put, List.setIfInBounds_toArray, List.set_cons_zero, List.set_cons_succ, i64_w, i32_w]
    rfl
  refine take_ (i := 7) (N := (some 15)) (v := ?_) (a' := ?_) #[true, true, true, true, true, true, true, true, false, false, false, false, false, false, false, false, false, false, false, false] rfl rfl (by kernel_rfl) (fun _ _ _ h => h) (Or.inl ⟨by rfl, ?_⟩) hHeld ?_ ?_
  rotate_left
  · intro w' hS
    have s0 := pw_cell_below hS b1
    have s1 := pw_cell_below hS b2
    go_simp
    first | done | with_reducible rfl
  rotate_left
  · simp only [Act.put, List.setIfInBounds_toArray, List.set_cons_zero, List.set_cons_succ, i64_w, i32_w]
    rfl
  refine one_ (i := 8) (N := (some 16)) #[true, true, true, true, true, true, true, true, true, false, false, false, false, false, false, false, false, false, false, false] rfl rfl (by kernel_rfl) (by decide) (fun K hK => ?_)
  refine goes_ Try.func50 (by kernel_rfl) rfl #[.int .i64 s.size, .agg #[.int .i64 x0, .int .i64 x1]] (by rfl) rfl rfl (by (try simp only [List.map_toArray, List.map_cons, List.map_nil]); first | done | rfl) ?_
  (with_reducible refine (HWD.out _).mono ?_)
  rintro e wa ⟨rfl, hB⟩
  refine ⟨_, rfl, ?_⟩
  have hS2 : Below W1.heap.size W1 wa := below_step hHeld hB
  clear hB hHeld
  refine hK.out _ _ hS2 (fun hHeld => ?_)
  clear hK K
  refine norm_ (a' := ?_) ?_ ?_
  rotate_left
  · show Act.put _ (some 16) _ = _
    simp only [Act.put, List.setIfInBounds_toArray, List.set_cons_zero, List.set_cons_succ, i64_w, i32_w]
    rfl
  refine pure_ (i := 9) (N := (some 17)) (v := ?_) (a' := ?_) #[true, true, true, true, true, true, true, true, true, true, false, false, false, false, false, false, false, false, false, false] rfl rfl (by kernel_rfl) (fun _ _ _ h => h) (Or.inl ⟨by rfl, ?_⟩) ?_ ?_
  rotate_left
  · intro w'
    go_simp
    first | done | with_reducible rfl
  rotate_left
  · simp only [Act.put, List.setIfInBounds_toArray, List.set_cons_zero, List.set_cons_succ, i64_w, i32_w]
    rfl
  refine pure_ (i := 10) (N := (some 18)) (v := ?_) (a' := ?_) #[true, true, true, true, true, true, true, true, true, true, true, false, false, false, false, false, false, false, false, false] rfl rfl (by kernel_rfl) (fun _ _ _ h => h) (Or.inl ⟨by rfl, ?_⟩) ?_ ?_
  rotate_left
  · intro w'
    go_simp
    first | done | with_reducible rfl
  rotate_left
  · simp only [Act.put, List.setIfInBounds_toArray, List.set_cons_zero, List.set_cons_succ, i64_w, i32_w]
    rfl
  refine pure_ (i := 11) (N := (some 19)) (v := ?_) (a' := ?_) #[true, true, true, true, true, true, true, true, true, true, true, true, false, false, false, false, false, false, false, false] rfl rfl (by kernel_rfl) (fun _ _ _ h => h) (Or.inl ⟨by rfl, ?_⟩) ?_ ?_
  rotate_left
  · intro w'
    go_simp
    first | done | with_reducible rfl
  rotate_left
  · simp only [Act.put, List.setIfInBounds_toArray, List.set_cons_zero, List.set_cons_succ, i64_w, i32_w]
    rfl
  refine take_ (i := 12) (N := (some 20)) (v := ?_) (a' := ?_) #[true, true, true, true, true, true, true, true, true, true, true, true, true, false, false, false, false, false, false, false] rfl rfl (by kernel_rfl) (fun _ _ _ h => h) (Or.inl ⟨by rfl, ?_⟩) hHeld ?_ ?_
  rotate_left
  · intro w' hS
    have s0 := pw_cell_below hS b0
    go_simp
    first | done | with_reducible rfl
  rotate_left
  · simp only [Act.put, List.setIfInBounds_toArray, List.set_cons_zero, List.set_cons_succ, i64_w, i32_w]
    rfl
  refine pure_ (i := 13) (N := (some 21)) (v := ?_) (a' := ?_) #[true, true, true, true, true, true, true, true, true, true, true, true, true, true, false, false, false, false, false, false] rfl rfl (by kernel_rfl) (fun _ _ _ h => h) (Or.inl ⟨by rfl, ?_⟩) ?_ ?_
  rotate_left
  · intro w'
    go_simp
    first | done | with_reducible rfl
  rotate_left
  · simp only [Act.put, List.setIfInBounds_toArray, List.set_cons_zero, List.set_cons_succ, i64_w, i32_w]
    rfl
  refine pure_ (i := 14) (N := (some 22)) (v := ?_) (a' := ?_) #[true, true, true, true, true, true, true, true, true, true, true, true, true, true, true, false, false, false, false, false] rfl rfl (by kernel_rfl) (fun _ _ _ h => h) (Or.inl ⟨by rfl, ?_⟩) ?_ ?_
  rotate_left
  · intro w'
    go_simp
    first | done | with_reducible rfl
  rotate_left
  · simp only [Act.put, List.setIfInBounds_toArray, List.set_cons_zero, List.set_cons_succ, i64_w, i32_w]
    rfl
  refine pure_ (i := 15) (N := (some 23)) (v := ?_) (a' := ?_) #[true, true, true, true, true, true, true, true, true, true, true, true, true, true, true, true, false, false, false, false] rfl rfl (by kernel_rfl) (fun _ _ _ h => h) (Or.inl ⟨by rfl, ?_⟩) ?_ ?_
  rotate_left
  · intro w'
    go_simp
    first | done | with_reducible rfl
  rotate_left
  · simp only [Act.put, List.setIfInBounds_toArray, List.set_cons_zero, List.set_cons_succ, i64_w, i32_w]
    rfl
  refine one_ (i := 16) (N := (some 24)) #[true, true, true, true, true, true, true, true, true, true, true, true, true, true, true, true, true, false, false, false] rfl rfl (by kernel_rfl) (by decide) (fun K hK => ?_)
  refine goes_ Try.func96 (by kernel_rfl) rfl #[.slice A l.length c] (by rfl) rfl rfl (by (try simp only [List.map_toArray, List.map_cons, List.map_nil]); first | done | rfl) ?_
  (with_reducible refine (HSH.out _ (Kd.C_below HRD.out hHeld)).mono ?_)
  rintro e wb ⟨rfl, rfl⟩
  refine ⟨_, rfl, ?_⟩
  have hS2 : Below W1.heap.size W1 wb := hHeld
  clear hHeld
  refine hK.out _ _ hS2 (fun hHeld => ?_)
  clear hK K
  refine norm_ (a' := ?_) ?_ ?_
  rotate_left
  · show Act.put _ (some 24) _ = _
    simp only [Act.put, List.setIfInBounds_toArray, List.set_cons_zero, List.set_cons_succ, i64_w, i32_w]
    rfl
  refine pure_ (i := 17) (N := (some 25)) (v := ?_) (a' := ?_) #[true, true, true, true, true, true, true, true, true, true, true, true, true, true, true, true, true, true, false, false] rfl rfl (by kernel_rfl) (fun _ _ _ h => h) (Or.inl ⟨by rfl, ?_⟩) ?_ ?_
  rotate_left
  · intro w'
    go_simp
    first | done | with_reducible rfl
  rotate_left
  · simp only [Act.put, List.setIfInBounds_toArray, List.set_cons_zero, List.set_cons_succ, i64_w, i32_w]
    rfl
  refine pure_ (i := 18) (N := (some 26)) (v := ?_) (a' := ?_) #[true, true, true, true, true, true, true, true, true, true, true, true, true, true, true, true, true, true, true, false] rfl rfl (by kernel_rfl) (fun _ _ _ h => h) (Or.inl ⟨by rfl, ?_⟩) ?_ ?_
  rotate_left
  · intro w'
    go_simp
    first | done | with_reducible rfl
  rotate_left
  · simp only [Act.put, List.setIfInBounds_toArray, List.set_cons_zero, List.set_cons_succ, i64_w, i32_w]
    rfl
  refine pure_ (i := 19) (N := (some 7)) (v := ?_) (a' := ?_) #[true, true, true, true, true, true, true, true, true, true, true, true, true, true, true, true, true, true, true, true] rfl rfl (by kernel_rfl) (fun _ _ _ h => h) (Or.inl ⟨by rfl, ?_⟩) ?_ ?_
  rotate_left
  · intro w'
    go_simp
    first | done | with_reducible rfl
  rotate_left
  · simp only [Act.put, List.setIfInBounds_toArray, List.set_cons_zero, List.set_cons_succ, i64_w, i32_w]
    rfl
  refine done_ (by kernel_rfl) ?_
  have OE := Aside0.mk (OD.out.step hHeld)
  have HF1 := Aside0.mk (HFD.out.below hHeld)
  have HR1 := Aside0.mk (Kd.C_below HRD.out hHeld)
  have i0 := (OE.out.cell 0 rfl 0).trans rfl
  have i1 := (OE.out.cell 0 rfl 1).trans rfl
  have i2 := (OE.out.cell 0 rfl 2).trans rfl
  clear OD HFD HRD hHeld b0 b1 b2 c0
  go_wp2_with (first
    | (go_at_call 95; (with_reducible refine (HED.out _ HF1.out).mono ?_); rintro e wy ⟨rfl, hB⟩; have n1 := Aside0.mk (OE.out.step hB); have n2 := Aside0.mk (HF1.out.below hB); have n3 := Aside0.mk (Kd.C_below HR1.out hB); clear OE HF1 HR1 hB i0 i1 i2; have OE := n1; have HF1 := n2; have HR1 := n3; clear n1 n2 n3; have i1 := (OE.out.cell 0 rfl 1).trans rfl; have i2 := (OE.out.cell 0 rfl 2).trans rfl)
    | (go_at_call 98; (with_reducible refine (HTE.out _ HF1.out (Nat.le_trans HB.out OE.out.size) HR1.out).mono ?_); rintro e wz ⟨rfl, hI, hT⟩; have HI := Aside0.mk hI; have HT := Aside0.mk ((Turn.below OE.out.below).trans hT); clear hI hT i1 i2))
  go_ret
  exact ⟨rfl, HI.out, HT.out⟩
theorem take_f (k i : Nat) (A : Option Addr) (c : Nat) (l : List ByteArray) (h : IsF base w g gt gb s) (hb : base ≤ w.heap.size) (hmax : l.length ≤ maxLen) (hr : Kd.C Kd.string w A l.length l) (hk3 : k ≤ 3) (hi16 : i ≤ 16) (hw : (l.length : Int) = wdF s.size (k : Int) (i : Int)) (h4 : l.length = 4) (hc4 : 4 ≤ c) (h32 : A32 l) (he : edB s.size ((k : Int), (i : Int)) = false) :
    Calls Try.prog 71 #[.pointer (some ⟨g, 0, none⟩), .agg #[.bool false, .int .i64 (k : Int), .int .i64 (i : Int)], .slice A l.length c] w fun e w' => e = .returned (.int .i64 (if okF s k i l then 0 else 8)) ∧ IsF base w' g gt gb (if okF s k i l then putT s ((k : Int), (i : Int)) l else s) ∧ Turn (Foot g gt gb) w w' := by
  have OW := Aside0.mk (Mem.Own.nil w)
  have HF := Aside0.mk h
  have HR := Aside0.mk hr
  have HB := Aside0.mk hb
  have HMX := Aside0.mk hmax
  have HWD := Aside0.mk (fun W => width_c (s.size : Int) (k : Int) (i : Int) W)
  rw [show inTile (i : Int) (cntv s.size (k : Int)) = (l.length : Int) from hw.symm] at HWD
  have hne : ((l.length : Int) != (l.length : Int)) = false := by simp
  have HSH := Aside0.mk (fun W (h : Kd.C Kd.string W A l.length l) => short_c A c l W HMX.out h)
  rw [show all32 l = true from List.all_eq_true.2 (fun y hy => by rw [h32 y hy]; rfl)] at HSH
  have HED := Aside0.mk (fun W (h : IsF base W g gt gb s) => edge1_f base g gt gb s (k : Int) (i : Int) W h)
  rw [he] at HED
  have HTE := Aside0.mk (fun W (h : IsF base W g gt gb s) (hb : base ≤ W.heap.size) (hr : Kd.C Kd.string W A l.length l) => takeF_c k i A c l h hb h4 h32 hk3 hi16 hc4 (by rw [h4] at hr; exact hr))
  have HL4 := Aside0.mk h4
  generalize (if okF s k i l then (0 : Int) else 8) = cd at *
  generalize (if okF s k i l then putT s ((k : Int), (i : Int)) l else s) = s9 at *
  clear h hr hb hw hk3 hi16 h4 h32 he hc4
  go_enter Try.func71, Try.ntmps71
  go_wp2_with (first
    | ((with_reducible refine gate_dst (N := 4) rfl ?_); refine box_event ?hg (N := 4) ?hd (cs := #[.bool false, .int .i64 (k : Int), .int .i64 (i : Int)]) (t := 58) ?hr ?_; (case hd => rfl); (case hg => rfl); (case hr => first | (go_simp; done) | (go_simp; rfl)); intro gI hg W_ hb hbb; have n_ : Aside0 (Mem.Own w W_ [(gI, #[.bool false, .int .i64 (k : Int), .int .i64 (i : Int)], 58)]) := ⟨OW.out.new hg hb hbb⟩; clear OW hb hbb hg; have OW := n_; clear n_))
  have OD := Aside0.mk OW.out.drew
  have HFD := Aside0.mk ((HF.out.below OW.out.below).drew)
  have HRD := Aside0.mk (Kd.C_drew (Kd.C_below HR.out OW.out.below))
  have b0 : W_.drew.cell? ⟨gI, 0, none⟩ = some (.bool false) := (OD.out.cell 0 rfl 0).trans rfl
  have b1 : W_.drew.cell? ⟨gI, 1, none⟩ = some (.int .i64 (k : Int)) := (OD.out.cell 0 rfl 1).trans rfl
  have b2 : W_.drew.cell? ⟨gI, 2, none⟩ = some (.int .i64 (i : Int)) := (OD.out.cell 0 rfl 2).trans rfl
  have c0 : W_.drew.cell? ⟨g, 72, none⟩ = some (.int .i64 s.size) := (HFD.out.cell 0).trans rfl
  clear OW
  go_wp2_with fail
  refine start_ (n := 20) (S := fun w' => Below (W_).drew.heap.size (W_).drew w') (ds := []) #[false, false, false, false, false, false, false, false, false, false, false, false, false, false, false, false, false, false, false, false] (by kernel_rfl) rfl rfl (Below.refl _ _) (fun hHeld => ?_)
  generalize (W_).drew = W1 at *
  refine pure_ (i := 0) (N := (some 8)) (v := ?_) (a' := ?_) #[true, false, false, false, false, false, false, false, false, false, false, false, false, false, false, false, false, false, false, false] rfl rfl (by kernel_rfl) (fun _ _ _ h => h) (Or.inl ⟨by rfl, ?_⟩) ?_ ?_
  rotate_left
  · intro w'
    go_simp
    first | done | with_reducible rfl
  rotate_left
  · simp only [Act.put, List.setIfInBounds_toArray, List.set_cons_zero, List.set_cons_succ, i64_w, i32_w]
    rfl
  refine pure_ (i := 1) (N := (some 9)) (v := ?_) (a' := ?_) #[true, true, false, false, false, false, false, false, false, false, false, false, false, false, false, false, false, false, false, false] rfl rfl (by kernel_rfl) (fun _ _ _ h => h) (Or.inl ⟨by rfl, ?_⟩) ?_ ?_
  rotate_left
  · intro w'
    go_simp
    first | done | with_reducible rfl
  rotate_left
  · simp only [Act.put, List.setIfInBounds_toArray, List.set_cons_zero, List.set_cons_succ, i64_w, i32_w]
    rfl
  refine pure_ (i := 2) (N := (some 10)) (v := ?_) (a' := ?_) #[true, true, true, false, false, false, false, false, false, false, false, false, false, false, false, false, false, false, false, false] rfl rfl (by kernel_rfl) (fun _ _ _ h => h) (Or.inl ⟨by rfl, ?_⟩) ?_ ?_
  rotate_left
  · intro w'
    go_simp
    first | done | with_reducible rfl
  rotate_left
  · simp only [Act.put, List.setIfInBounds_toArray, List.set_cons_zero, List.set_cons_succ, i64_w, i32_w]
    rfl
  refine pure_ (i := 3) (N := (some 11)) (v := ?_) (a' := ?_) #[true, true, true, true, false, false, false, false, false, false, false, false, false, false, false, false, false, false, false, false] rfl rfl (by kernel_rfl) (fun _ _ _ h => h) (Or.inl ⟨by rfl, ?_⟩) ?_ ?_
  rotate_left
  · intro w'
    skip
    go_simp
    first | done | with_reducible rfl
  rotate_left
  · simp only [Act.put, List.setIfInBounds_toArray, List.set_cons_zero, List.set_cons_succ, i64_w, i32_w]
    rfl
  refine pure_ (i := 4) (N := (some 12)) (v := ?_) (a' := ?_) #[true, true, true, true, true, false, false, false, false, false, false, false, false, false, false, false, false, false, false, false] rfl rfl (by kernel_rfl) (fun _ _ _ h => h) (Or.inl ⟨by rfl, ?_⟩) ?_ ?_
  rotate_left
  · intro w'
    go_simp
    first | done | with_reducible rfl
  rotate_left
  · simp only [Act.put, List.setIfInBounds_toArray, List.set_cons_zero, List.set_cons_succ, i64_w, i32_w]
    rfl
  refine take_ (i := 5) (N := (some 13)) (v := ?_) (a' := ?_) #[true, true, true, true, true, true, false, false, false, false, false, false, false, false, false, false, false, false, false, false] rfl rfl (by kernel_rfl) (fun _ _ _ h => h) (Or.inl ⟨by rfl, ?_⟩) hHeld ?_ ?_
  rotate_left
  · intro w' hS
    have s0 := pw_cell_below hS c0
    go_simp
    first | done | with_reducible rfl
  rotate_left
  · simp only [Act.put, List.setIfInBounds_toArray, List.set_cons_zero, List.set_cons_succ, i64_w, i32_w]
    rfl
  refine pure_ (i := 6) (N := (some 14)) (v := ?_) (a' := ?_) #[true, true, true, true, true, true, true, false, false, false, false, false, false, false, false, false, false, false, false, false] rfl rfl (by kernel_rfl) (fun _ _ _ h => h) (Or.inl ⟨by rfl, ?_⟩) ?_ ?_
  rotate_left
  · intro w'
    go_simp
    first | done | with_reducible rfl
  rotate_left
  · simp only [Act.put, List.setIfInBounds_toArray, List.set_cons_zero, List.set_cons_succ, i64_w, i32_w]
    rfl
  refine take_ (i := 7) (N := (some 15)) (v := ?_) (a' := ?_) #[true, true, true, true, true, true, true, true, false, false, false, false, false, false, false, false, false, false, false, false] rfl rfl (by kernel_rfl) (fun _ _ _ h => h) (Or.inl ⟨by rfl, ?_⟩) hHeld ?_ ?_
  rotate_left
  · intro w' hS
    have s0 := pw_cell_below hS b1
    have s1 := pw_cell_below hS b2
    go_simp
    first | done | with_reducible rfl
  rotate_left
  · simp only [Act.put, List.setIfInBounds_toArray, List.set_cons_zero, List.set_cons_succ, i64_w, i32_w]
    rfl
  refine one_ (i := 8) (N := (some 16)) #[true, true, true, true, true, true, true, true, true, false, false, false, false, false, false, false, false, false, false, false] rfl rfl (by kernel_rfl) (by decide) (fun K hK => ?_)
  refine goes_ Try.func50 (by kernel_rfl) rfl #[.int .i64 s.size, .agg #[.int .i64 (k : Int), .int .i64 (i : Int)]] (by rfl) rfl rfl (by (try simp only [List.map_toArray, List.map_cons, List.map_nil]); first | done | rfl) ?_
  (with_reducible refine (HWD.out _).mono ?_)
  rintro e wa ⟨rfl, hB⟩
  refine ⟨_, rfl, ?_⟩
  have hS2 : Below W1.heap.size W1 wa := below_step hHeld hB
  clear hB hHeld
  refine hK.out _ _ hS2 (fun hHeld => ?_)
  clear hK K
  refine norm_ (a' := ?_) ?_ ?_
  rotate_left
  · show Act.put _ (some 16) _ = _
    simp only [Act.put, List.setIfInBounds_toArray, List.set_cons_zero, List.set_cons_succ, i64_w, i32_w]
    rfl
  refine pure_ (i := 9) (N := (some 17)) (v := ?_) (a' := ?_) #[true, true, true, true, true, true, true, true, true, true, false, false, false, false, false, false, false, false, false, false] rfl rfl (by kernel_rfl) (fun _ _ _ h => h) (Or.inl ⟨by rfl, ?_⟩) ?_ ?_
  rotate_left
  · intro w'
    go_simp
    first | done | with_reducible rfl
  rotate_left
  · simp only [Act.put, List.setIfInBounds_toArray, List.set_cons_zero, List.set_cons_succ, i64_w, i32_w]
    rfl
  refine pure_ (i := 10) (N := (some 18)) (v := ?_) (a' := ?_) #[true, true, true, true, true, true, true, true, true, true, true, false, false, false, false, false, false, false, false, false] rfl rfl (by kernel_rfl) (fun _ _ _ h => h) (Or.inl ⟨by rfl, ?_⟩) ?_ ?_
  rotate_left
  · intro w'
    go_simp
    first | done | with_reducible rfl
  rotate_left
  · simp only [Act.put, List.setIfInBounds_toArray, List.set_cons_zero, List.set_cons_succ, i64_w, i32_w]
    rfl
  refine pure_ (i := 11) (N := (some 19)) (v := ?_) (a' := ?_) #[true, true, true, true, true, true, true, true, true, true, true, true, false, false, false, false, false, false, false, false] rfl rfl (by kernel_rfl) (fun _ _ _ h => h) (Or.inl ⟨by rfl, ?_⟩) ?_ ?_
  rotate_left
  · intro w'
    go_simp
    first | done | with_reducible rfl
  rotate_left
  · simp only [Act.put, List.setIfInBounds_toArray, List.set_cons_zero, List.set_cons_succ, i64_w, i32_w]
    rfl
  refine take_ (i := 12) (N := (some 20)) (v := ?_) (a' := ?_) #[true, true, true, true, true, true, true, true, true, true, true, true, true, false, false, false, false, false, false, false] rfl rfl (by kernel_rfl) (fun _ _ _ h => h) (Or.inl ⟨by rfl, ?_⟩) hHeld ?_ ?_
  rotate_left
  · intro w' hS
    have s0 := pw_cell_below hS b0
    go_simp
    first | done | with_reducible rfl
  rotate_left
  · simp only [Act.put, List.setIfInBounds_toArray, List.set_cons_zero, List.set_cons_succ, i64_w, i32_w]
    rfl
  refine pure_ (i := 13) (N := (some 21)) (v := ?_) (a' := ?_) #[true, true, true, true, true, true, true, true, true, true, true, true, true, true, false, false, false, false, false, false] rfl rfl (by kernel_rfl) (fun _ _ _ h => h) (Or.inl ⟨by rfl, ?_⟩) ?_ ?_
  rotate_left
  · intro w'
    go_simp
    first | done | with_reducible rfl
  rotate_left
  · simp only [Act.put, List.setIfInBounds_toArray, List.set_cons_zero, List.set_cons_succ, i64_w, i32_w]
    rfl
  refine pure_ (i := 14) (N := (some 22)) (v := ?_) (a' := ?_) #[true, true, true, true, true, true, true, true, true, true, true, true, true, true, true, false, false, false, false, false] rfl rfl (by kernel_rfl) (fun _ _ _ h => h) (Or.inl ⟨by rfl, ?_⟩) ?_ ?_
  rotate_left
  · intro w'
    go_simp
    first | done | with_reducible rfl
  rotate_left
  · simp only [Act.put, List.setIfInBounds_toArray, List.set_cons_zero, List.set_cons_succ, i64_w, i32_w]
    rfl
  refine pure_ (i := 15) (N := (some 23)) (v := ?_) (a' := ?_) #[true, true, true, true, true, true, true, true, true, true, true, true, true, true, true, true, false, false, false, false] rfl rfl (by kernel_rfl) (fun _ _ _ h => h) (Or.inl ⟨by rfl, ?_⟩) ?_ ?_
  rotate_left
  · intro w'
    go_simp
    first | done | with_reducible rfl
  rotate_left
  · simp only [Act.put, List.setIfInBounds_toArray, List.set_cons_zero, List.set_cons_succ, i64_w, i32_w]
    rfl
  refine one_ (i := 16) (N := (some 24)) #[true, true, true, true, true, true, true, true, true, true, true, true, true, true, true, true, true, false, false, false] rfl rfl (by kernel_rfl) (by decide) (fun K hK => ?_)
  refine goes_ Try.func96 (by kernel_rfl) rfl #[.slice A l.length c] (by rfl) rfl rfl (by (try simp only [List.map_toArray, List.map_cons, List.map_nil]); first | done | rfl) ?_
  (with_reducible refine (HSH.out _ (Kd.C_below HRD.out hHeld)).mono ?_)
  rintro e wb ⟨rfl, rfl⟩
  refine ⟨_, rfl, ?_⟩
  have hS2 : Below W1.heap.size W1 wb := hHeld
  clear hHeld
  refine hK.out _ _ hS2 (fun hHeld => ?_)
  clear hK K
  refine norm_ (a' := ?_) ?_ ?_
  rotate_left
  · show Act.put _ (some 24) _ = _
    simp only [Act.put, List.setIfInBounds_toArray, List.set_cons_zero, List.set_cons_succ, i64_w, i32_w]
    rfl
  refine pure_ (i := 17) (N := (some 25)) (v := ?_) (a' := ?_) #[true, true, true, true, true, true, true, true, true, true, true, true, true, true, true, true, true, true, false, false] rfl rfl (by kernel_rfl) (fun _ _ _ h => h) (Or.inl ⟨by rfl, ?_⟩) ?_ ?_
  rotate_left
  · intro w'
    go_simp
    first | done | with_reducible rfl
  rotate_left
  · simp only [Act.put, List.setIfInBounds_toArray, List.set_cons_zero, List.set_cons_succ, i64_w, i32_w]
    rfl
  refine pure_ (i := 18) (N := (some 26)) (v := ?_) (a' := ?_) #[true, true, true, true, true, true, true, true, true, true, true, true, true, true, true, true, true, true, true, false] rfl rfl (by kernel_rfl) (fun _ _ _ h => h) (Or.inl ⟨by rfl, ?_⟩) ?_ ?_
  rotate_left
  · intro w'
    go_simp
    first | done | with_reducible rfl
  rotate_left
  · simp only [Act.put, List.setIfInBounds_toArray, List.set_cons_zero, List.set_cons_succ, i64_w, i32_w]
    rfl
  refine pure_ (i := 19) (N := (some 7)) (v := ?_) (a' := ?_) #[true, true, true, true, true, true, true, true, true, true, true, true, true, true, true, true, true, true, true, true] rfl rfl (by kernel_rfl) (fun _ _ _ h => h) (Or.inl ⟨by rfl, ?_⟩) ?_ ?_
  rotate_left
  · intro w'
    go_simp
    first | done | with_reducible rfl
  rotate_left
  · simp only [Act.put, List.setIfInBounds_toArray, List.set_cons_zero, List.set_cons_succ, i64_w, i32_w]
    rfl
  refine done_ (by kernel_rfl) ?_
  have OE := Aside0.mk (OD.out.step hHeld)
  have HF1 := Aside0.mk (HFD.out.below hHeld)
  have HR1 := Aside0.mk (Kd.C_below HRD.out hHeld)
  have i0 := (OE.out.cell 0 rfl 0).trans rfl
  have i1 := (OE.out.cell 0 rfl 1).trans rfl
  have i2 := (OE.out.cell 0 rfl 2).trans rfl
  clear OD HFD HRD hHeld b0 b1 b2 c0
  rw [HL4.out] at *
  go_wp2_with (first
    | (go_at_call 95; (with_reducible refine (HED.out _ HF1.out).mono ?_); rintro e wy ⟨rfl, hB⟩; have n1 := Aside0.mk (OE.out.step hB); have n2 := Aside0.mk (HF1.out.below hB); have n3 := Aside0.mk (Kd.C_below HR1.out hB); clear OE HF1 HR1 hB i0 i1 i2; have OE := n1; have HF1 := n2; have HR1 := n3; clear n1 n2 n3; have i1 := (OE.out.cell 0 rfl 1).trans rfl; have i2 := (OE.out.cell 0 rfl 2).trans rfl)
    | (go_at_call 99; (with_reducible refine (HTE.out _ HF1.out (Nat.le_trans HB.out OE.out.size) HR1.out).mono ?_); rintro e wz ⟨rfl, hI, hT⟩; have HI := Aside0.mk hI; have HT := Aside0.mk ((Turn.below OE.out.below).trans hT); clear hI hT i1 i2))
  go_ret
  exact ⟨rfl, HI.out, HT.out⟩
end Go.Proofs.Ytondnammkcgjpaa.Ft
namespace Go.Proofs.Ytondnammkcgjpaa.Ft
open Go Go.RowKit Go.Shelf Go.Proofs.YtondnammkcgjpaaW.PrintWords Go.Proofs.YtondnammkcgjpaaW.PrintLast Go.Proofs.YtondnammkcgjpaaW.PrintMore Go.Proofs.Ytondnammkcgjpaa.Mp
open Go.Proofs.Ytondnammkcgjpaa.ShaP Go.Proofs.Ytondnammkcgjpaa.Mk Go.Proofs.Ytondnammkcgjpaa.Rg Go.Proofs.Ytondnammkcgjpaa.RgP Go.Proofs.Ytondnammkcgjpaa.Rf Go.Proofs.Ytondnammkcgjpaa.RgL Go.Proofs.Ytondnammkcgjpaa.Til Go.Proofs.Ytondnammkcgjpaa.Fg Go.Proofs.Ytondnammkcgjpaa.Fun Go.Proofs.Ytondnammkcgjpaa.Rng
variable {base g gt gb : Nat} {s : FS} {w W : World}
theorem eqA24 (d : Nat) (w : World) (a b c e : Int) : (Op.equalIn (d + 2) 24 (.agg #[.int .i64 a, .int .i64 b]) (.agg #[.int .i64 c, .int .i64 e])).run Try.prog w = .ok (a == c && (b == e)) w := by
  refine eqA_of Try.underlying24 (by kernel_rfl) ?_
  refine eqf_cons (by rfl) (by go_simp; rfl) (by go_simp; rfl) (by go_simp) ?_
  exact eqf_last (by rfl) (by go_simp; rfl) (by go_simp; rfl) (by go_simp)
theorem eqA58 (d : Nat) (w : World) (p q : Bool) (a b c e : Int) : (Op.equalIn (d + 3) 58 (.agg #[.bool p, .int .i64 a, .int .i64 b]) (.agg #[.bool q, .int .i64 c, .int .i64 e])).run Try.prog w = .ok (p == q && (a == c && (b == e))) w := by
  refine eqA_of Try.underlying58 (by kernel_rfl) ?_
  refine eqf_cons (by rfl) (by first | (go_simp; done) | (go_simp; rfl)) (by first | (go_simp; done) | (go_simp; rfl)) (by go_simp) ?_
  exact eqf_last (by rfl) (by first | (go_simp; done) | (go_simp; rfl)) (by first | (go_simp; done) | (go_simp; rfl)) (eqA24 d w a b c e)
theorem neq_want (w : World) (p q : Bool) (a b c e : Int) : (binOp .neq 58 (.agg #[.bool p, .int .i64 a, .int .i64 b]) (.agg #[.bool q, .int .i64 c, .int .i64 e])).run Try.prog w = .ok (.bool (!(p == q && (a == c && (b == e))))) w := by
  simp only [binOp]
  simp [Op.equal, Op.maxDepth, eqA58 9997 w p q a b c e]
theorem want_eq (x y : Want) : (x.1 == y.1 && (x.2.1 == y.2.1 && (x.2.2 == y.2.2))) = decide (x = y) := by
  obtain ⟨p, a, b⟩ := x
  obtain ⟨q, c, e⟩ := y
  by_cases h : (p, a, b) = (q, c, e)
  · rw [decide_eq_true h]; cases h; simp
  · rw [decide_eq_false h]
    rw [Bool.eq_false_iff]
    intro h2
    apply h
    simp at h2
    rw [h2.1, h2.2.1, h2.2.2]
open Classical in
noncomputable def takeS (s : FS) (x : Want) (l : List ByteArray) : FS × Int :=
  if (l.length : Int) ≠ wdF s.size x.2.1 x.2.2 then (s, 2)
  else if x.1 = false ∧ all32 l = false then (s, 2)
  else if x.1 = true then (if okB s x.2 l then putB s x.2.2 l else s, if okB s x.2 l then 0 else 8)
  else if edB s.size x.2 = true then (if okE (putT s x.2 l) then putT s x.2 l else dropE (putT s x.2 l), if okE (putT s x.2 l) then 0 else 8)
  else (if okF s x.2.1.toNat x.2.2.toNat l then putT s x.2 l else s, if okF s x.2.1.toNat x.2.2.toNat l then 0 else 8)
theorem plan_w : ∀ n : Nat, n < 65 → ∀ x ∈ planF n, 0 < wdF n x.1 x.2 ∧ wdF n x.1 x.2 ≤ 4 := by decide +kernel
theorem wants_w (n : Nat) (hn : n ≤ 64) (x : Want) (hx : x ∈ wantsF n) : 0 < wdF n x.2.1 x.2.2 ∧ wdF n x.2.1 x.2.2 ≤ 4 := by
  have key : x.2 ∈ planF n := by
    unfold wantsF pickT pickB at hx
    simp only [List.mem_append, List.mem_map, List.mem_filter] at hx
    rcases hx with (⟨y, hy, rfl⟩ | ⟨y, hy, rfl⟩) | ⟨y, hy, rfl⟩ <;> exact hy.1
  exact plan_w n (by omega) _ key
theorem all32_A (l : List ByteArray) (h : all32 l = true) : A32 l := fun y hy => by
  have := List.all_eq_true.1 h y hy
  simpa using this
theorem take_c (x : Want) (hx : x ∈ wantsF s.size) (A : Option Addr) (c : Nat) (l : List ByteArray) (h : IsF base w g gt gb s) (hv : InvF s) (hb : base ≤ w.heap.size) (hmax : l.length ≤ maxLen) (hsz : ∀ y ∈ l, y.size ≤ 100000) (hc : l.length ≤ c) (hr : Kd.C Kd.string w A l.length l) :
    Calls Try.prog 71 #[.pointer (some ⟨g, 0, none⟩), .agg #[.bool x.1, .int .i64 x.2.1, .int .i64 x.2.2], .slice A l.length c] w fun e w' => e = .returned (.int .i64 (takeS s x l).2) ∧ IsF base w' g gt gb (takeS s x l).1 ∧ Turn (Foot g gt gb) w w' := by
  obtain ⟨b, x0, x1⟩ := x
  have hw := wants_w s.size h.sz _ hx
  have hbd := wants_b s.size h.sz _ hx
  simp only at hw hbd
  by_cases h1 : (l.length : Int) = wdF s.size x0 x1
  · have h0 : 0 < l.length := by omega
    have h4 : l.length ≤ 4 := by omega
    have w0 : wf x0 := wf_of (by omega) (by omega)
    have w1 : wf x1 := wf_of (by omega) (by omega)
    cases b with
    | true =>
      have e : takeS s (true, x0, x1) l = (if okB s (x0, x1) l then putB s x1 l else s, if okB s (x0, x1) l then 0 else 8) := by
        unfold takeS
        rw [if_neg (by simpa using h1), if_neg (by simp), if_pos rfl]
      rw [e]
      refine take_b x0 x1 A c l h hb hmax hr h1 ?_ h0 h4 hsz w0 w1
      unfold tileOf
      cases hq : s.tiles (x0, x1) with
      | none => exact Nat.zero_le _
      | some l' =>
        have := (hv.tl _ _ hq).1
        show l'.length ≤ l.length
        simp only at this
        omega
    | false =>
      cases h32 : all32 l with
      | false =>
        have e : takeS s (false, x0, x1) l = (s, 2) := by
          unfold takeS
          rw [if_neg (by simpa using h1), if_pos ⟨rfl, h32⟩]
        rw [e]
        exact take_bad x0 x1 A c l h hb hmax hr h1 h32
      | true =>
        cases he : edB s.size (x0, x1) with
        | true =>
          have e : takeS s (false, x0, x1) l = (if okE (putT s (x0, x1) l) then putT s (x0, x1) l else dropE (putT s (x0, x1) l), if okE (putT s (x0, x1) l) then 0 else 8) := by
            unfold takeS
            rw [if_neg (by simpa using h1), if_neg (by rw [h32]; simp), if_neg (by simp), if_pos he]
          rw [e]
          exact take_e x0 x1 A c l h hb hmax hr hv h1 h0 h4 (all32_A l h32) he w0 w1
        | false =>
          obtain ⟨k, rfl⟩ : ∃ k : Nat, x0 = k := ⟨x0.toNat, by omega⟩
          obtain ⟨i, rfl⟩ : ∃ i : Nat, x1 = i := ⟨x1.toNat, by omega⟩
          have e : takeS s (false, (k : Int), (i : Int)) l = (if okF s k i l then putT s ((k : Int), (i : Int)) l else s, if okF s k i l then 0 else 8) := by
            unfold takeS
            rw [if_neg (by simpa using h1), if_neg (by rw [h32]; simp), if_neg (by simp), if_neg (by rw [he]; simp)]
            rfl
          rw [e]
          have h44 : l.length = 4 := by
            unfold edB at he
            have := of_decide_eq_false he
            unfold wdF at h1
            simp only at this
            omega
          exact take_f k i A c l h hb hmax hr (by omega) (by omega) h1 h44 (by omega) (all32_A l h32) he
  · have e : takeS s (b, x0, x1) l = (s, 2) := by
      unfold takeS
      rw [if_pos h1]
    rw [e]
    exact take_width b x0 x1 A c l h hb hmax hr h1
open Classical in
noncomputable def takenS (s : FS) (x : Want) (l : List ByteArray) : FS × Int :=
  if nextF s = some x then (if (takeS s x l).2 = 0 then (⟨(takeS s x l).1.size, (takeS s x l).1.root, (takeS s x l).1.tiles, (takeS s x l).1.bund, (takeS s x l).1.asked + 1⟩, 0) else takeS s x l) else (s, 1)
theorem next_mem {x : Want} (h : nextF s = some x) : x ∈ wantsF s.size := List.mem_of_find?_eq_some h
end Go.Proofs.Ytondnammkcgjpaa.Ft
namespace Go.Proofs.Ytondnammkcgjpaa.Ft
open Go Go.RowKit Go.Shelf Go.Proofs.YtondnammkcgjpaaW.PrintWords Go.Proofs.YtondnammkcgjpaaW.PrintLast Go.Proofs.YtondnammkcgjpaaW.PrintMore Go.Proofs.Ytondnammkcgjpaa.Mp
open Go.Proofs.Ytondnammkcgjpaa.ShaP Go.Proofs.Ytondnammkcgjpaa.Mk Go.Proofs.Ytondnammkcgjpaa.Rg Go.Proofs.Ytondnammkcgjpaa.RgP Go.Proofs.Ytondnammkcgjpaa.Rf Go.Proofs.Ytondnammkcgjpaa.RgL Go.Proofs.Ytondnammkcgjpaa.Til Go.Proofs.Ytondnammkcgjpaa.Fg Go.Proofs.Ytondnammkcgjpaa.Fun Go.Proofs.Ytondnammkcgjpaa.Rng
variable {base g gt gb : Nat} {s : FS} {w W : World}
theorem Take_yes (x : Want) (A : Option Addr) (c : Nat) (l : List ByteArray) (h : IsF base w g gt gb s) (hv : InvF s) (hn : nextF s = some x) (hb : base ≤ w.heap.size) (hmax : l.length ≤ maxLen) (hsz : ∀ y ∈ l, y.size ≤ 100000) (hc : l.length ≤ c) (hr : Kd.C Kd.string w A l.length l) (has : 0 ≤ (takeS s x l).1.asked) (has2 : (takeS s x l).1.asked ≤ 1000000) :
    Calls Try.prog 40 #[.pointer (some ⟨g, 0, none⟩), .agg #[.bool x.1, .int .i64 x.2.1, .int .i64 x.2.2], .slice A l.length c] w fun e w' => e = .returned (.int .i64 (takenS s x l).2) ∧ IsF base w' g gt gb (takenS s x l).1 ∧ Turn (Foot g gt gb) w w' := by
  have OW := Aside0.mk (Mem.Own.nil w)
  have HF := Aside0.mk h
  have HR := Aside0.mk hr
  have HB := Aside0.mk hb
  have HNX := Aside0.mk (fun W (h : IsF base W g gt gb s) => next_c W h)
  have HTK := Aside0.mk (fun W (h : IsF base W g gt gb s) (hb : base ≤ W.heap.size) (hr : Kd.C Kd.string W A l.length l) => take_c x (next_mem hn) A c l h hv hb hmax hsz hc hr)
  have hT : takenS s x l = (if (takeS s x l).2 = 0 then (⟨(takeS s x l).1.size, (takeS s x l).1.root, (takeS s x l).1.tiles, (takeS s x l).1.bund, (takeS s x l).1.asked + 1⟩, 0) else takeS s x l) := if_pos hn
  have HT := Aside0.mk hT
  generalize takeS s x l = r at *
  generalize takenS s x l = r9 at *
  obtain ⟨b, x0, x1⟩ := x
  have HN := Aside0.mk hn
  clear h hn hr hb hv hsz hc hmax hT
  go_enter Try.func40, Try.ntmps40
  go_wp2_with (first
    | ((with_reducible refine gate_dst (N := 4) rfl ?_); refine box_event ?hg (N := 4) ?hd (cs := #[.bool b, .int .i64 x0, .int .i64 x1]) (t := 58) ?hr ?_; (case hd => rfl); (case hg => rfl); (case hr => first | (go_simp; done) | (go_simp; rfl)); intro gW hg W_ hb hbb; have n_ : Aside0 (Mem.Own w W_ [(gW, #[.bool b, .int .i64 x0, .int .i64 x1], 58)]) := ⟨OW.out.new hg hb hbb⟩; clear OW hb hbb hg; have OW := n_; clear n_))
  refine (HNX.out _ (HF.out.below OW.out.below)).mono ?_
  rintro e wz ⟨y, ok, rfl, hcs, hB⟩
  have n_ := Aside0.mk (OW.out.step hB)
  clear OW hB
  have OW := n_
  clear n_
  obtain ⟨b', y0, y1⟩ := y
  rcases hcs with ⟨hy, rfl⟩ | ⟨hy, _, _⟩
  · obtain ⟨rfl, rfl, rfl⟩ : b' = b ∧ y0 = x0 ∧ y1 = x1 := by
      have := HN.out.symm.trans hy
      simp at this
      exact ⟨this.1.symm, this.2.1.symm, this.2.2.symm⟩
    have hnw := fun W => neq_want W b' b' y0 y1 y0 y1
    have hne : (b' == b' && (y0 == y0 && (y1 == y1))) = true := by simp
    rw [hne] at hnw
    have hal : Below wz.heap.size wz (wz.alloc (.cells #[.bool b', .int .i64 y0, .int .i64 y1] 58)) := below_alloc (Below.refl _ _) _
    have j0 := pw_cell_below hal ((OW.out.cell 0 rfl 0).trans rfl)
    have j1 := pw_cell_below hal ((OW.out.cell 0 rfl 1).trans rfl)
    have j2 := pw_cell_below hal ((OW.out.cell 0 rfl 2).trans rfl)
    have hBl := below_step OW.out.below hal
    have HF1 := Aside0.mk (HF.out.below hBl)
    have HR1 := Aside0.mk (Kd.C_below HR.out hBl)
    have HBL := Aside0.mk hBl
    simp only [wcs]
    clear hy hne hal OW hBl
    go_wp2_with fail
    refine (HTK.out _ HF1.out (Nat.le_trans HB.out HBL.out.size) HR1.out).mono ?_
    rintro e wa ⟨rfl, hI, hTu⟩
    have HI := Aside0.mk hI
    have HTU := Aside0.mk ((Turn.below (P := Foot g gt gb) HBL.out).trans hTu)
    clear hI hTu j0 j1 j2 hnw HF1 HR1
    obtain ⟨r1, cd⟩ := r
    simp only at has has2 HI ⊢
    by_cases hz : cd = 0
    · subst hz
      have e9 := HT.out
      simp only [if_true] at e9
      have c4 : wa.cell? ⟨g, 76, none⟩ = some (.int .i64 r1.asked) := (HI.out.cell 4).trans rfl
      have y4 : wa.frozen? ⟨g, 76, none⟩ = false := blk_frozen HI.out.blk 76
      have HAS := Aside0.mk (HI.out.asks (r1.asked + 1))
      have hwr : wrap64 (r1.asked + 1) = r1.asked + 1 := by unfold wrap64; omega
      have E9 := Aside0.mk e9
      clear e9
      go_wp2_with fail
      go_ret
      rw [E9.out]
      exact ⟨rfl, HAS.out.1, HTU.out.trans HAS.out.2⟩
    · have e9 := HT.out
      simp only [if_neg hz] at e9
      have hzb : (cd == 0) = false := beq_eq_false_iff_ne.2 hz
      have E9 := Aside0.mk e9
      clear e9
      go_wp2_with fail
      go_ret
      rw [E9.out]
      exact ⟨rfl, HI.out, HTU.out⟩
  · exact absurd hy (by rw [HN.out]; simp)
theorem asked_c (h : IsF base w g gt gb s) : Calls Try.prog 41 #[.pointer (some ⟨g, 0, none⟩)] w fun e w' => e = .returned (.int .i64 s.asked) ∧ w' = w := by
  have c4 : w.cell? ⟨g, 76, none⟩ = some (.int .i64 s.asked) := (h.cell 4).trans rfl
  clear h
  go_enter Try.func41, Try.ntmps41
  go_wp2
  go_ret
  exact ⟨rfl, rfl⟩
def bundOf (s : FS) (k : Nat) : List ByteArray := (s.bund (k : Int)).getD []
def allK (s : FS) (k : Nat) : List ByteArray := (List.range k).flatMap (bundOf s)
theorem allK_succ (s : FS) (k : Nat) : allK s (k + 1) = allK s k ++ bundOf s k := by simp [allK, List.range_succ]
def nb (n : Nat) : Nat := (n + 3) / 4
theorem IsF.bund_at (h : IsF base w g gt gb s) (k : Nat) (w0 : wf (k : Int)) : (bundOf s k).length ≤ 4 ∧ ∃ A c, SR w base (.slice A (bundOf s k).length c) (bundOf s k) ∧
    ∀ W, Below w.heap.size w W → (Instr.lookup 112 (.map (some gb)) (.int .i64 (k : Int)) false).run Try.prog W = .ok (.slice A (bundOf s k).length c) W := by
  obtain ⟨kl, hkl⟩ := key3 w0
  obtain ⟨f, hm, hx⟩ := h.bn
  obtain ⟨q1, q2⟩ := hx (k : Int)
  cases hq : s.bund (k : Int) with
  | none =>
    have e : bundOf s k = [] := by unfold bundOf; rw [hq]; rfl
    rw [e]
    exact ⟨by simp, none, 0, Kd.R_nil _ _ _ _ _, fun W hB => look_s (hm.below' hB) K3 Try.underlying112 hkl (by show (f (inV k)).getD _ = _; rw [q1 hq]; rfl)⟩
  | some l =>
    have e : bundOf s k = l := by unfold bundOf; rw [hq]; rfl
    obtain ⟨v, hf, hr, _, h4⟩ := q2 l hq
    obtain ⟨A, c, rfl⟩ := Kd.R_slice hr
    rw [e]
    exact ⟨h4, A, c, hr, fun W hB => look_s (hm.below' hB) K3 Try.underlying112 hkl (by show (f (inV k)).getD _ = _; rw [hf]; rfl)⟩
theorem leaves_no (h : IsF base w g gt gb s) (hn : nextF s ≠ none) :
    Calls Try.prog 42 #[.pointer (some ⟨g, 0, none⟩)] w fun e w' => e = .returned (.tuple #[.slice none 0 0, .bool false]) ∧ Below w.heap.size w w' := by
  have HNX := Aside0.mk (next_c w h)
  have HN := Aside0.mk hn
  clear h hn
  go_enter Try.func42, Try.ntmps42
  go_wp2_with fail
  refine HNX.out.mono ?_
  rintro e wz ⟨y, ok, rfl, hcs, hB⟩
  rcases hcs with ⟨_, rfl⟩ | ⟨hy, _, _⟩
  · have HB := Aside0.mk hB
    simp only [wcs]
    clear hB
    go_wp2_with fail
    go_ret2
    exact ⟨rfl, below_alloc HB.out _⟩
  · exact absurd hy HN.out
theorem leaves_yes (h : IsF base w g gt gb s) (hn : nextF s = none) :
    Calls Try.prog 42 #[.pointer (some ⟨g, 0, none⟩)] w fun e w' => ∃ A c, e = .returned (.tuple #[.slice A (allK s (nb s.size)).length c, .bool true]) ∧ SR w' w.heap.size (.slice A (allK s (nb s.size)).length c) (allK s (nb s.size)) ∧ Below w.heap.size w w' := by
  have HF := Aside0.mk h
  have HNX := Aside0.mk (next_c w h)
  have HN := Aside0.mk hn
  have hsz := h.sz
  clear h hn
  go_enter Try.func42, Try.ntmps42
  go_wp2_with fail
  refine HNX.out.mono ?_
  rintro e wz ⟨y, ok, rfl, hcs, hB⟩
  rcases hcs with ⟨hy, _⟩ | ⟨_, rfl, rfl⟩
  · exact absurd hy (by rw [HN.out]; simp)
  · have HB := Aside0.mk (below_alloc hB (.cells #[.bool false, .int .i64 0, .int .i64 0] 58))
    simp only [wcs]
    clear hB HNX
    go_wp2_with fail
    generalize wz.alloc (.cells #[.bool false, .int .i64 0, .int .i64 0] 58) = wy at *
    have hsi : (s.size : Int) ≤ 64 := by omega
    go_loopw [6, 7] (fun v6 v7 wr => ∃ (k o : Nat) (A3 : Option Addr) (c3 : Nat), v7 = .int .i64 k ∧ v6 = .slice A3 o c3 ∧ k ≤ nb s.size ∧ o ≤ 4 * k ∧ Aside0 (SR wr w.heap.size (.slice A3 o c3) (allK s k)) ∧ Aside0 (Below w.heap.size w wr)) (fun _ v7 _ => 64 - (intOf v7).toNat)
    case atStart => exact ⟨0, 0, none, 0, rfl, rfl, Nat.zero_le _, Nat.zero_le _, ⟨Kd.R_nil _ _ _ _ _⟩, HB⟩
    case round =>
      clear HB
      obtain ⟨k, o, A3, c3, rfl, rfl, hk, ho, HO, HB⟩ := hrel
      have hk16 : k ≤ 16 := by unfold nb at hk; omega
      have hk4 : wrap64 ((k : Int) * 4) = (k : Int) * 4 := by unfold wrap64; omega
      have hk5 : IntKind.i64.wrap ((k : Int) * 4) = (k : Int) * 4 := by rw [IntKind.wrap_i64]; omega
      have c0 : wr.cell? ⟨g, 72, none⟩ = some (.int .i64 s.size) := ((HF.out.below HB.out).cell 0).trans rfl
      have c3' : wr.cell? ⟨g, 75, none⟩ = some (.map (some gb)) := ((HF.out.below HB.out).cell 3).trans rfl
      by_cases h1 : 4 * k < s.size
      · have h1i : (k : Int) * 4 < (s.size : Int) := by omega
        have hk1 : k + 1 ≤ nb s.size := by unfold nb; omega
        obtain ⟨hb4, A, c, hrb, hlk⟩ := HF.out.bund_at k (wf_of (by omega) (by omega))
        have hl := hlk wr HB.out
        have HAK := Aside0.mk (allK_succ s k)
        have HRB := Aside0.mk ((Kd.R_reads' hrb).2.2)
        have HLO := Aside0.mk ((Kd.R_reads' HO.out).1)
        generalize bundOf s k = T at *
        generalize allK s k = ol at *
        have HI1 := Aside0.mk (show k + 1 ≤ nb s.size ∧ k ≤ 16 ∧ o ≤ 4 * k ∧ T.length ≤ 4 from ⟨hk1, hk16, ho, hb4⟩)
        clear hlk hrb hk1 hk hb4 h1 ho hk16
        go_wp2_with (first
          | ((with_reducible refine gate_builtin (b := .append) (xs := #[.tmp 23, .tmp 29]) rfl ?_); at_builtin; refine Kd.R_append_row (P := Try.prog) Value.string (⟨#[]⟩ : ByteArray) (w0 := w) w.heap.size rfl (.tmp 23) (.tmp 29) 22 9 (.string ⟨#[]⟩) 16 rfl Try.underlying22 info_str rfl (by decide) (.slice A3 o c3) ol T A T.length c (fun _ => True) rfl rfl (fun _ _ => trivial) HO.out (Kd.C_below HRB.out HB.out) HB.out HB.out.size (by have := HI1.out; have := HLO.out; omega) ?_; intro v2 w2 hr2 hb2 hg2 hat2; obtain ⟨A5, c5, e5⟩ := Kd.R_slice hr2; have e6 : (ol ++ T).length = o + T.length := (by rw [List.length_append, HLO.out]); rw [e6] at e5; subst e5; have HR2 := Aside0.mk hr2; have HB2 := Aside0.mk hb2; clear hr2 hb2 hg2 hat2 e6 c0 c3' hl))
        go_roundw
        case rel => exact ⟨k + 1, o + T.length, A5, c5, by go_num, rfl, HI1.out.1, by have := HI1.out; omega, by rw [HAK.out]; exact HR2, HB2⟩
        case measure => have := HI1.out; simp [intOf]; omega
      · have h1i : ¬ (k : Int) * 4 < (s.size : Int) := by omega
        have hkn : k = nb s.size := by unfold nb at hk ⊢; omega
        have HKN := Aside0.mk hkn
        have hlo := (Kd.R_reads' HO.out).1
        have HLO := Aside0.mk hlo
        clear hlo hkn hk ho h1
        go_wp2_with fail
        go_ret2
        rw [← HKN.out]
        have hR := HO.out
        rw [HLO.out] at hR ⊢
        exact ⟨_, _, rfl, hR, HB.out⟩
end Go.Proofs.Ytondnammkcgjpaa.Ft
namespace Go.Proofs.Ytondnammkcgjpaa.Ft
open Go Go.RowKit Go.Shelf Go.Proofs.YtondnammkcgjpaaW.PrintWords
open Go.Proofs.Ytondnammkcgjpaa.ShaP Go.Proofs.Ytondnammkcgjpaa.Mk Go.Proofs.Ytondnammkcgjpaa.Rg Go.Proofs.Ytondnammkcgjpaa.RgP Go.Proofs.Ytondnammkcgjpaa.Rf Go.Proofs.Ytondnammkcgjpaa.RgL Go.Proofs.Ytondnammkcgjpaa.Til Go.Proofs.Ytondnammkcgjpaa.Fg Go.Proofs.Ytondnammkcgjpaa.Rng
theorem rootF_lev (L : List ByteArray) (hl : L.length ≤ 64) : ∀ (k m a : Nat), m + 2 * k < 8 → (a + 2 ^ m) * 4 ^ k ≤ L.length → rootF (seg (levF k L) a (2 ^ m)) = rootF (seg L (a * 4 ^ k) (2 ^ m * 4 ^ k))
  | 0, m, a, _, h => by rw [levF, Nat.pow_zero, Nat.mul_one, Nat.mul_one]
  | k + 1, m, a, hm, h => by
    have hp : 4 ^ (k + 1) = 4 * 4 ^ k := by rw [Nat.pow_succ, Nat.mul_comm]
    rw [hp] at h
    have h2 : (4 * a + 4 * 2 ^ m) * 4 ^ k ≤ L.length := by
      rw [← Nat.mul_add, Nat.mul_assoc, Nat.mul_comm 4, Nat.mul_assoc, Nat.mul_comm (4 ^ k) 4]
      exact h
    have hp0 : 0 < 4 ^ k := Nat.pow_pos (by omega)
    have hlen : 4 * a + 4 * 2 ^ m ≤ (levF k L).length := by
      rw [lev_len]
      exact (Nat.le_div_iff_mul_le hp0).2 h2
    have h64 : (levF k L).length ≤ 64 := by rw [lev_len]; exact Nat.le_trans (Nat.div_le_self _ _) hl
    have hm6 : m < 6 := by
      rcases Nat.lt_or_ge m 6 with h' | h'
      · exact h'
      · exfalso
        have : 2 ^ 6 ≤ 2 ^ m := Nat.pow_le_pow_right (by omega) h'
        omega
    rw [lev_up, rootF_up (levF k L) h64 m a hm6 hlen]
    have e2 : 4 * 2 ^ m = 2 ^ (m + 2) := by rw [Nat.pow_add]; omega
    rw [e2]
    rw [e2] at h2
    rw [rootF_lev L hl k (m + 2) (4 * a) (by omega) h2]
    congr 2
    · rw [hp, Nat.mul_comm 4 a, Nat.mul_assoc]
    · rw [hp, Nat.pow_add, Nat.mul_assoc]
def offs : Nat → List Nat → List (Nat × Nat)
  | _, [] => []
  | a, p :: r => (a, p) :: offs (a + p) r
theorem ofB_offs (l : List ByteArray) : ∀ (ps : List Nat) (a : Nat), ofB l a ps = (offs a ps).map fun x => rootF (seg l x.1 x.2)
  | [], _ => rfl
  | p :: ps, a => by rw [ofB, offs, List.map_cons, ofB_offs l ps]; rfl
def offE (n : Nat) : List (Nat × Nat) := (edgeF wdF n).flatMap fun x => (offs 0 (pn (inTile x.2 (cntv n x.1)).toNat)).map fun y => ((4 * x.2.toNat + y.1) * 4 ^ x.1.toNat, y.2 * 4 ^ x.1.toNat)
theorem off_eq : ∀ n : Nat, n < 65 → offs 0 (pn n) = offE n := by decide +kernel
theorem off_in : ∀ n : Nat, n < 65 → ∀ x ∈ edgeF wdF n, ∀ y ∈ offs 0 (pn (inTile x.2 (cntv n x.1)).toNat), (y.2 = 2 ^ 0 ∨ y.2 = 2 ^ 1) ∧ y.1 + y.2 ≤ (inTile x.2 (cntv n x.1)).toNat := by decide +kernel
theorem edge_fit : ∀ n : Nat, n < 65 → ∀ x ∈ edgeF wdF n, 0 ≤ x.1 ∧ x.1 ≤ 3 ∧ 0 ≤ x.2 ∧ 4 * x.2.toNat + (inTile x.2 (cntv n x.1)).toNat ≤ n / 4 ^ x.1.toNat := by decide +kernel
theorem seg_seg (l : List ByteArray) (a n b m : Nat) (h : b + m ≤ n) : seg (seg l a n) b m = seg l (a + b) m := by
  unfold seg
  rw [List.take_drop, List.drop_drop, List.take_take]
  congr 2
  omega
theorem flatMap_same {α β : Type} {l : List α} {f g : α → List β} (h : ∀ x ∈ l, f x = g x) : l.flatMap f = l.flatMap g := by
  induction l with
  | nil => rfl
  | cons x l ih => rw [List.flatMap_cons, List.flatMap_cons, h x (by simp), ih (fun y hy => h y (by simp [hy]))]
theorem stretch_eq (L : List ByteArray) (hl : L.length ≤ 64) (x : Int × Int) (hx : x ∈ edgeF wdF L.length) (y : Nat × Nat) (hy : y ∈ offs 0 (pn (inTile x.2 (cntv L.length x.1)).toNat)) :
    rootF (seg (seg (levF x.1.toNat L) (4 * x.2.toNat) (inTile x.2 (cntv L.length x.1)).toNat) y.1 y.2) = rootF (seg L ((4 * x.2.toNat + y.1) * 4 ^ x.1.toNat) (y.2 * 4 ^ x.1.toNat)) := by
  have hfit := edge_fit L.length (by omega) x hx
  obtain ⟨h2, h3⟩ := off_in L.length (by omega) x hx y hy
  rw [seg_seg _ _ _ _ _ h3]
  have hk : x.1.toNat ≤ 3 := by omega
  have hf := hfit.2.2.2
  clear hfit hx hy
  generalize inTile x.2 (cntv L.length x.1) = q at *
  generalize x.1.toNat = k at *
  generalize x.2.toNat = i at *
  obtain ⟨a, b⟩ := y
  simp only at h2 h3 ⊢
  have hab : 4 * i + a + b ≤ L.length / 4 ^ k := by omega
  have hle : (4 * i + a + b) * 4 ^ k ≤ L.length := Nat.le_trans (Nat.mul_le_mul_right _ hab) (Nat.div_mul_le_self _ _)
  rcases h2 with rfl | rfl
  · exact rootF_lev L hl k 0 _ (by omega) hle
  · exact rootF_lev L hl k 1 _ (by omega) hle
theorem ofF_tile (L : List ByteArray) (hl : L.length ≤ 64) (x : Int × Int) (hx : x ∈ edgeF wdF L.length) :
    ofF (seg (levF x.1.toNat L) (4 * x.2.toNat) (inTile x.2 (cntv L.length x.1)).toNat) = (offs 0 (pn (inTile x.2 (cntv L.length x.1)).toNat)).map fun y => rootF (seg L ((4 * x.2.toNat + y.1) * 4 ^ x.1.toNat) (y.2 * 4 ^ x.1.toNat)) := by
  have hfit := edge_fit L.length (by omega) x hx
  have hlen : (seg (levF x.1.toNat L) (4 * x.2.toNat) (inTile x.2 (cntv L.length x.1)).toNat).length = (inTile x.2 (cntv L.length x.1)).toNat := seg_len _ _ _ (by rw [lev_len]; exact hfit.2.2.2)
  rw [ofF_B, hlen, ofB_offs]
  exact List.map_congr_left fun y hy => stretch_eq L hl x hx y hy
theorem root_edge (L : List ByteArray) (f : Int × Int → List ByteArray) (hl : L.length ≤ 64) (hf : ∀ x ∈ edgeF wdF L.length, f x = seg (levF x.1.toNat L) (4 * x.2.toNat) (inTile x.2 (cntv L.length x.1)).toNat) :
    rootR (accF ((edgeF wdF L.length).map f)) = rootF L := by
  have h1 : accF ((edgeF wdF L.length).map f) = (edgeF wdF L.length).flatMap fun x => (offs 0 (pn (inTile x.2 (cntv L.length x.1)).toNat)).map fun y => rootF (seg L ((4 * x.2.toNat + y.1) * 4 ^ x.1.toNat) (y.2 * 4 ^ x.1.toNat)) := by
    unfold accF
    rw [List.flatMap_map]
    exact flatMap_same fun x hx => by rw [hf x hx, ofF_tile L hl x hx]
  have h2 : ofF L = (edgeF wdF L.length).flatMap fun x => (offs 0 (pn (inTile x.2 (cntv L.length x.1)).toNat)).map fun y => rootF (seg L ((4 * x.2.toNat + y.1) * 4 ^ x.1.toNat) (y.2 * 4 ^ x.1.toNat)) := by
    rw [ofF_B, ofB_offs, off_eq L.length (by omega)]
    unfold offE
    rw [List.map_flatMap]
    exact flatMap_same fun x hx => by rw [List.map_map]; rfl
  rw [h1, ← h2]
  exact root_of 200 L (by omega) (by omega)
theorem in_plan0 : ((List.range 65).all fun n => (List.range 4).all fun k => (List.range 17).all fun i => decide (inTile (i : Int) (cntv (n : Int) (k : Int)) ≤ 0) || (planF (n : Int)).contains ((k : Int), (i : Int))) = true := by decide +kernel
theorem in_plan (n : Nat) (hn : n < 65) (k : Nat) (hk : k < 4) (i : Nat) (hi : i < 17) : inTile (i : Int) (cntv n k) ≤ 0 ∨ ((k : Int), (i : Int)) ∈ planF n := by
  have h1 := List.all_eq_true.1 in_plan0 n (List.mem_range.2 hn)
  have h2 := List.all_eq_true.1 h1 k (List.mem_range.2 hk)
  have h3 := List.all_eq_true.1 h2 i (List.mem_range.2 hi)
  rcases Bool.or_eq_true_iff.1 h3 with h | h
  · exact .inl (of_decide_eq_true h)
  · exact .inr (by simpa using h)
def LV (s : FS) (k : Nat) : List ByteArray := (List.range (s.size / 4 ^ k)).map fun j => ((tileOf s ((k : Int), ((j / 4 : Nat) : Int)))[j % 4]?).getD ByteArray.empty
theorem LV_len (s : FS) (k : Nat) : (LV s k).length = s.size / 4 ^ k := by unfold LV; rw [List.length_map, List.length_range]
theorem LV_get (s : FS) (k j : Nat) (h : j < s.size / 4 ^ k) : (LV s k)[j]? = some (((tileOf s ((k : Int), ((j / 4 : Nat) : Int)))[j % 4]?).getD ByteArray.empty) := by
  unfold LV
  rw [List.getElem?_map, List.getElem?_range h]
  rfl
def tw (n k i : Nat) : Nat := min 4 (n / 4 ^ k - 4 * i)
theorem tw_in (n k i : Nat) (hn : n ≤ 64) (hk : k < 4) : inTile (i : Int) (cntv n k) = (tw n k i : Int) := by
  rw [cnt_pow n (by omega) k hk]
  unfold inTile tw
  rw [if_neg (by omega)]
  generalize n / 4 ^ k = c
  omega
structure Full (s : FS) : Prop where
  sz : s.size ≤ 64
  inv : InvF s
  all : ∀ x ∈ planF s.size, (s.tiles x).isSome = true
  up : ∀ k i : Nat, k < 4 → tw s.size k i = 4 → okF s k i (tileOf s ((k : Int), (i : Int))) = true
  bn : ∀ i : Nat, 4 * i < s.size → ∃ l, s.bund (i : Int) = some l ∧ okB s (0, (i : Int)) l = true
variable {s : FS}
theorem quo_le (n k : Nat) (hn : n ≤ 64) : n / 4 ^ k ≤ 64 := Nat.le_trans (Nat.div_le_self _ _) hn
theorem Full.len (h : Full s) (k i : Nat) (hk : k < 4) (hp : 0 < tw s.size k i) : (tileOf s ((k : Int), (i : Int))).length = tw s.size k i := by
  have hi : i < 17 := by
    have := quo_le s.size k h.sz
    unfold tw at hp
    omega
  have hm : ((k : Int), (i : Int)) ∈ planF s.size := (in_plan s.size (by have := h.sz; omega) k hk i hi).resolve_left (by rw [tw_in s.size k i h.sz hk]; omega)
  have h1 := h.all _ hm
  cases hq : s.tiles ((k : Int), (i : Int)) with
  | none => rw [hq] at h1; cases h1
  | some l =>
    have e : tileOf s ((k : Int), (i : Int)) = l := by unfold tileOf; rw [hq]; rfl
    rw [e]
    have h2 := (h.inv.tl _ _ hq).1
    unfold wdF at h2
    simp only at h2
    rw [tw_in s.size k i h.sz hk] at h2
    omega
theorem Full.seg (h : Full s) (k i : Nat) (hk : k < 4) (hp : 0 < tw s.size k i) : tileOf s ((k : Int), (i : Int)) = Til.seg (LV s k) (4 * i) (tw s.size k i) := by
  have hl := h.len k i hk hp
  have hfit : 4 * i + tw s.size k i ≤ (LV s k).length := by rw [LV_len]; unfold tw at hp ⊢; omega
  have hsl := seg_len (LV s k) (4 * i) (tw s.size k i) hfit
  have hm4 : tw s.size k i ≤ 4 := by unfold tw; omega
  refine List.ext_getElem? fun t => ?_
  by_cases ht : t < tw s.size k i
  · unfold Til.seg
    rw [List.getElem?_drop, List.getElem?_take, if_pos (by omega), LV_get s k (4 * i + t) (by rw [LV_len] at hfit; omega)]
    have e1 : (4 * i + t) / 4 = i := by omega
    have e2 : (4 * i + t) % 4 = t := by omega
    rw [e1, e2, List.getElem?_eq_getElem (by omega)]
    rfl
  · rw [List.getElem?_eq_none (by omega), List.getElem?_eq_none (by omega)]
theorem Full.lv_up (h : Full s) (k : Nat) (hk : k < 3) : LV s (k + 1) = upF (LV s k) := by
  have hq : s.size / 4 ^ (k + 1) = s.size / 4 ^ k / 4 := by rw [Nat.pow_succ, Nat.div_div_eq_div_mul]
  refine List.ext_getElem? fun j => ?_
  by_cases hj : j < s.size / 4 ^ (k + 1)
  · have h4 : 4 * j + 4 ≤ (LV s k).length := by rw [LV_len]; omega
    have ht : tw s.size k j = 4 := by rw [LV_len] at h4; unfold tw; omega
    rw [LV_get s (k + 1) j hj, upF_get (LV s k) j h4]
    have h1 := h.seg k j (by omega) (by omega)
    rw [ht] at h1
    have h2 := of_decide_eq_true (h.up k j (by omega) ht)
    rw [h1] at h2
    show some (((tileOf s (((k : Int) + 1), ((j / 4 : Nat) : Int)))[j % 4]?).getD ByteArray.empty) = _
    rw [h2]
    rfl
  · rw [List.getElem?_eq_none (by rw [LV_len]; omega), List.getElem?_eq_none (by rw [upF_length, LV_len]; omega)]
theorem Full.lv_lev (h : Full s) : ∀ k : Nat, k < 4 → LV s k = levF k (LV s 0)
  | 0, _ => rfl
  | k + 1, hk => by rw [h.lv_up k (by omega), h.lv_lev k (by omega), lev_up]
theorem LV0_len (s : FS) : (LV s 0).length = s.size := by rw [LV_len, Nat.pow_zero, Nat.div_one]
theorem edge_pos : ∀ n : Nat, n < 65 → ∀ x ∈ edgeF wdF n, 0 < inTile x.2 (cntv n x.1) := by decide +kernel
theorem edge_nat (n : Nat) (hn : n ≤ 64) (x : Int × Int) (hx : x ∈ edgeF wdF n) : ∃ k i : Nat, k < 4 ∧ x = ((k : Int), (i : Int)) ∧ 0 < tw n k i := by
  obtain ⟨a, b⟩ := x
  have h1 := edge_in n (by omega) _ hx
  have h2 := edge_pos n (by omega) _ hx
  simp only at h1 h2
  obtain ⟨k, rfl⟩ : ∃ k : Nat, a = k := ⟨a.toNat, by omega⟩
  obtain ⟨i, rfl⟩ : ∃ i : Nat, b = i := ⟨b.toNat, by omega⟩
  refine ⟨k, i, by omega, rfl, ?_⟩
  rw [tw_in n k i hn (by omega)] at h2
  omega
theorem Full.root (h : Full s) : rootE s = rootF (LV s 0) := by
  have hl := LV0_len s
  have h64 := h.sz
  have h1 := root_edge (LV s 0) (tileOf s) (by omega) (fun x hx => by
    rw [hl] at hx ⊢
    obtain ⟨k, i, hk, rfl, hp⟩ := edge_nat s.size (by omega) x hx
    simp only [Int.toNat_natCast]
    rw [tw_in s.size k i h64 hk, Int.toNat_natCast, ← h.lv_lev k hk]
    exact h.seg k i hk hp)
  rw [hl] at h1
  exact h1
theorem leavesF_app (a b : List ByteArray) : leavesF (a ++ b) = leavesF a ++ leavesF b := by unfold leavesF; rw [List.map_append]
theorem Full.bund (h : Full s) (i : Nat) (hi : 4 * i < s.size) : leavesF (bundOf s i) = Til.seg (LV s 0) (4 * i) (tw s.size 0 i) := by
  obtain ⟨l, hl, hok⟩ := h.bn i hi
  have hp : 0 < tw s.size 0 i := by unfold tw; rw [Nat.pow_zero, Nat.div_one]; omega
  have e : bundOf s i = l := by unfold bundOf; rw [hl]; rfl
  have h1 := of_decide_eq_true hok
  have h2 := h.inv.bn _ _ hl
  unfold wdF at h2
  have h3 := tw_in s.size 0 i h.sz (by omega)
  rw [show ((0 : Nat) : Int) = 0 from rfl] at h3
  rw [h3] at h2
  have h4 := h.len 0 i (by omega) hp
  rw [show ((0 : Nat) : Int) = 0 from rfl] at h4
  have h5 := h.seg 0 i (by omega) hp
  rw [show ((0 : Nat) : Int) = 0 from rfl] at h5
  rw [e, ← h5]
  rw [h4, List.take_of_length_le (by rw [List.length_map]; omega)] at h1
  exact h1
theorem Full.leaves (h : Full s) : ∀ k : Nat, k ≤ nb s.size → leavesF (allK s k) = (LV s 0).take (4 * k)
  | 0, _ => rfl
  | k + 1, hk => by
    have hlt : 4 * k < s.size := by unfold nb at hk; omega
    rw [allK_succ, leavesF_app, h.leaves k (by omega), h.bund k hlt]
    unfold Til.seg tw
    rw [Nat.pow_zero, Nat.div_one]
    have hl := LV0_len s
    generalize LV s 0 = X at *
    have e : X.take (4 * (k + 1)) = X.take (4 * k + min 4 (s.size - 4 * k)) := by
      rcases Nat.lt_or_ge (s.size - 4 * k) 4 with h5 | h5
      · rw [List.take_of_length_le (by omega), List.take_of_length_le (by omega)]
      · rw [show 4 * (k + 1) = 4 * k + min 4 (s.size - 4 * k) by omega]
    rw [e]
    have := List.take_append_drop (4 * k) (X.take (4 * k + min 4 (s.size - 4 * k)))
    rw [List.take_take, Nat.min_eq_left (by omega)] at this
    exact this
theorem Full.sound (h : Full s) : (allK s (nb s.size)).length = s.size ∧ rootF (leavesF (allK s (nb s.size))) = rootE s := by
  have h1 := h.leaves (nb s.size) (Nat.le_refl _)
  have hl := LV0_len s
  rw [List.take_of_length_le (by unfold nb; omega)] at h1
  refine ⟨?_, by rw [h1, h.root]⟩
  have := congrArg List.length h1
  unfold leavesF at this
  rw [List.length_map] at this
  omega
end Go.Proofs.Ytondnammkcgjpaa.Ft
