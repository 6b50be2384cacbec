import Derived.Test.YtolapikiflodfaaRef01a
import Derived.Test.YtolapikiflodfaaMem
namespace Go.Proofs.Ytolapikiflodfaa.Ref01
open Go.RowKit Go.Proofs.YtolapikiflodfaaW.PrintWords Go.Proofs.YtolapikiflodfaaW.PrintLast Go.Proofs.YtolapikiflodfaaW.PrintMore
def z64 : List Int := List.replicate 64 0
def z8 : List Int := List.replicate 8 0
/-- j bytes taken into word i -/
def stW (bs xs : List Int) (i : Nat) : Nat → List Int
  | 0 => xs
  | j + 1 => (stW bs xs i j).set i (IntKind.u64.wrap (IntKind.u64.wrap ((stW bs xs i j).getD i 0 * 256) + IntKind.u64.wrap (bs.getD (4 * i + j) 0)))
def extF (a b c d : Int) : Int := (IntKind.u64.wrap (IntKind.u64.wrap (IntKind.u64.wrap (a + b) + bits .xor .u64 (bits .xor .u64 (rightF c 7) (rightF c 18)) (IntKind.u64.wrap (c.tdiv 8))) + bits .xor .u64 (bits .xor .u64 (rightF d 17) (rightF d 19)) (IntKind.u64.wrap (d.tdiv 1024)))).tmod 4294967296
def extW (xs : List Int) (i : Nat) : List Int := xs.set i (extF (xs.getD (i - 16) 0) (xs.getD (i - 7) 0) (xs.getD (i - 15) 0) (xs.getD (i - 2) 0))
def sched (bs : List Int) : Nat → List Int
  | 0 => z64
  | i + 1 => if i < 16 then stW bs (sched bs i) i 4 else extW (sched bs i) i
theorem stW_len (bs xs : List Int) (i j : Nat) : (stW bs xs i j).length = xs.length := by
  induction j with
  | zero => rfl
  | succ j ih => rw [stW, List.length_set, ih]
theorem sched_len (bs : List Int) (i : Nat) : (sched bs i).length = 64 := by
  induction i with
  | zero => rfl
  | succ i ih =>
    rw [sched]
    split
    · rw [stW_len, ih]
    · rw [extW, List.length_set, ih]
/-- the words turned by one place, k of them -/
def shf (v : List Int) : Nat → List Int
  | 0 => v
  | k + 1 => (shf v k).set (7 - k) ((shf v k).getD (6 - k) 0)
theorem shf_len (v : List Int) (k : Nat) : (shf v k).length = v.length := by
  induction k with
  | zero => rfl
  | succ k ih => rw [shf, List.length_set, ih]
def chF (a b c : Int) : Int := bits .xor .u64 (bits .and .u64 a b) (bits .and .u64 (IntKind.u64.wrap (4294967295 - a)) c)
def majF (a b c : Int) : Int := bits .or .u64 (bits .or .u64 (bits .and .u64 a b) (bits .and .u64 a c)) (bits .and .u64 b c)
def t1F (v4 v5 v6 v7 k w : Int) : Int := IntKind.u64.wrap (IntKind.u64.wrap (IntKind.u64.wrap (IntKind.u64.wrap (v7 + bits .xor .u64 (bits .xor .u64 (rightF v4 6) (rightF v4 11)) (rightF v4 25)) + chF v4 v5 v6) + k) + w)
def t2F (v0 v1 v2 : Int) : Int := IntKind.u64.wrap (bits .xor .u64 (bits .xor .u64 (rightF v0 2) (rightF v0 13)) (rightF v0 22) + majF v0 v1 v2)
def rndF (v : List Int) (k w : Int) : List Int :=
  let t1 := t1F (v.getD 4 0) (v.getD 5 0) (v.getD 6 0) (v.getD 7 0) k w
  let t2 := t2F (v.getD 0 0) (v.getD 1 0) (v.getD 2 0)
  let s := shf v 7
  let s4 := s.set 4 ((IntKind.u64.wrap (s.getD 4 0 + t1)).tmod 4294967296)
  s4.set 0 ((IntKind.u64.wrap (t1 + t2)).tmod 4294967296)
theorem rnd_eq (v sv : List Int) (a0 a1 a2 a3 a4 a5 a6 a7 xk xw b4 : Int) (h0 : v.getD 0 0 = a0) (h1 : v.getD 1 0 = a1) (h2 : v.getD 2 0 = a2) (_ : v.getD 3 0 = a3) (h4 : v.getD 4 0 = a4) (h5 : v.getD 5 0 = a5) (h6 : v.getD 6 0 = a6) (h7 : v.getD 7 0 = a7) (hs : shf v 7 = sv) (hb : sv.getD 4 0 = b4) :
    rndF v xk xw = (sv.set 4 ((IntKind.u64.wrap (b4 + t1F a4 a5 a6 a7 xk xw)).tmod 4294967296)).set 0 ((IntKind.u64.wrap (t1F a4 a5 a6 a7 xk xw + t2F a0 a1 a2)).tmod 4294967296) := by
  unfold rndF
  simp only [hs, hb, h0, h1, h2, h4, h5, h6, h7]
def rnds (kx wx hx : List Int) : Nat → List Int
  | 0 => hx
  | i + 1 => rndF (rnds kx wx hx i) (kx.getD i 0) (wx.getD i 0)
theorem rnds_len (kx wx hx : List Int) (i : Nat) : (rnds kx wx hx i).length = hx.length := by
  induction i with
  | zero => rfl
  | succ i ih => rw [rnds]; unfold rndF; simp only [List.length_set, shf_len, ih]
def sumW (v hx : List Int) : Nat → List Int
  | 0 => hx
  | i + 1 => (sumW v hx i).set i ((IntKind.u64.wrap ((sumW v hx i).getD i 0 + v.getD i 0)).tmod 4294967296)
theorem sumW_len (v hx : List Int) (i : Nat) : (sumW v hx i).length = hx.length := by
  induction i with
  | zero => rfl
  | succ i ih => rw [sumW, List.length_set, ih]
def blockF (kx hx bs : List Int) : List Int := sumW (rnds kx (sched bs 64) hx 64) hx 8
set_option maxRecDepth 100000 in
set_option maxHeartbeats 8000000 in
theorem block_c (kx hx bs : List Int) (hk : kx.length = 64) (hh : hx.length = 8) (A : Addr) (c : Nat) (w : World) (hA : ∀ j : Nat, j < 64 → w.cell? (A.add j) = some (.int .u8 (bs.getD j 0))) :
    Calls Try.prog 112 #[.agg (arrV kx), .agg (arrV hx), .slice (some A) 64 c] w fun e w' => e = .returned (.agg (arrV (blockF kx hx bs))) ∧ Below w.heap.size w w' := by
  have HA := Aside0.mk hA
  clear hA
  have OW := Aside0.mk (Mem.Own.nil w)
  have sk : (arrV kx).size = 64 := (arrV_size kx).trans hk
  have sh : (arrV hx).size = 8 := (arrV_size hx).trans hh
  go_enter Try.func112, Try.ntmps112
  go_wp2_with (first
    | ((with_reducible refine gate_dst (N := 3) rfl ?_); refine box_event ?hg (N := 3) ?hd (cs := arrV kx) (t := 171) ?hr ?_; (case hd => rfl); (case hg => rfl); (case hr => first | (go_simp; done) | (go_simp; rfl)); intro gK hg W_ hb hbb; have n_ : Aside0 (Mem.Own w W_ [(gK, arrV kx, 171)]) := ⟨OW.out.new hg hb hbb⟩; clear OW hb hbb hg; have OW := n_; clear n_)
    | ((with_reducible refine gate_dst (N := 4) rfl ?_); refine box_event ?hg (N := 4) ?hd (cs := arrV hx) (t := 173) ?hr ?_; (case hd => rfl); (case hg => rfl); (case hr => first | (go_simp; done) | (go_simp; rfl)); intro gH hg W_ hb hbb; have n_ : Aside0 (Mem.Own w W_ [(gK, arrV kx, 171), (gH, arrV hx, 173)]) := ⟨OW.out.new hg hb hbb⟩; clear OW hb hbb hg; have OW := n_; clear n_)
    | ((with_reducible refine gate_dst (N := 6) rfl ?_); refine box_event ?hg (N := 6) ?hd (cs := arrV z8) (t := 173) ?hr ?_; (case hd => rfl); (case hg => rfl); (case hr => first | (go_simp; done) | (go_simp; rfl)); intro gR hg W_ hb hbb; have n_ : Aside0 (Mem.Own w W_ [(gK, arrV kx, 171), (gH, arrV hx, 173), (gR, arrV z8, 173)]) := ⟨OW.out.new hg hb hbb⟩; clear OW hb hbb hg; have OW := n_; clear n_)
    | ((with_reducible refine gate_dst (N := 7) rfl ?_); refine box_event ?hg (N := 7) ?hd (cs := arrV z64) (t := 171) ?hr ?_; (case hd => rfl); (case hg => rfl); (case hr => first | (go_simp; done) | (go_simp; rfl)); intro gW hg W_ hb hbb; have n_ : Aside0 (Mem.Own w W_ [(gK, arrV kx, 171), (gH, arrV hx, 173), (gR, arrV z8, 173), (gW, arrV z64, 171)]) := ⟨OW.out.new hg hb hbb⟩; clear OW hb hbb hg; have OW := n_; clear n_))
  go_loopw [8] (fun v8 wr => ∃ i : Nat, v8 = .int .i64 i ∧ i ≤ 64 ∧ Aside0 (Mem.Own w (wr) [(gK, arrV kx, 171), (gH, arrV hx, 173), (gR, arrV z8, 173), (gW, arrV (sched bs i), 171)])) (fun v _ => 64 - (intOf v).toNat)
  case atStart => exact ⟨0, rfl, Nat.zero_le _, OW⟩
  case round =>
    clear OW
    obtain ⟨i, rfl, hi, OW⟩ := hrel
    have hl := sched_len bs i
    by_cases hlt : i < 64
    · by_cases h16 : i < 16
      · go_wp2_with fail
        go_loopw [9] (fun v9 wr => ∃ j : Nat, v9 = .int .i64 j ∧ j ≤ 4 ∧ Aside0 (Mem.Own w (wr) [(gK, arrV kx, 171), (gH, arrV hx, 173), (gR, arrV z8, 173), (gW, arrV (stW bs (sched bs i) i j), 171)])) (fun v _ => 4 - (intOf v).toNat)
        case atStart => exact ⟨0, rfl, Nat.zero_le _, OW⟩
        case round =>
          clear OW
          obtain ⟨j, rfl, hj, OW⟩ := hrel
          have hl2 := (stW_len bs (sched bs i) i j).trans hl
          by_cases hjt : j < 4
          · obtain ⟨x, hx⟩ : ∃ x : Int, (stW bs (sched bs i) i j).getD i 0 = x := ⟨_, rfl⟩
            obtain ⟨y, hy⟩ : ∃ y : Int, bs.getD (4 * i + j) 0 = y := ⟨_, rfl⟩
            have hcz : wr.cell? ⟨gW, i, none⟩ = some (.int .u64 x) := ((OW.out.cell 3 rfl i).trans (arrV_get _ i (by omega))).trans (by rw [hx])
            have hyz : wr.cell? (A.add (4 * i + j)) = some (.int .u8 y) := OW.out.old (by have h1 := HA.out (4 * i + j) (by omega); rw [hy] at h1; exact h1)
            have hfz := OW.out.frozen 3 rfl i
            have hyi : ((4 * (i : Int) + (j : Int))).toNat = 4 * i + j := by omega
            have hyl : 4 * (i : Int) + (j : Int) < 64 := by omega
            have hy0 : 0 ≤ 4 * (i : Int) + (j : Int) := by omega
            have HX := Aside0.mk hx
            have HY := Aside0.mk hy
            clear hx hy
            go_wp2_with fail
            go_region
            all_goals go_wp2_with fail
            go_roundw
            case rel => exact ⟨j + 1, by go_num, by omega, ⟨(OW.out.put 3 rfl i _ (by rw [arrV_set, stW, HX.out, HY.out])).drew⟩⟩
            case measure => simp [intOf]; omega
          · obtain rfl : j = 4 := by omega
            have OW2 : Aside0 (Mem.Own w (wr) [(gK, arrV kx, 171), (gH, arrV hx, 173), (gR, arrV z8, 173), (gW, arrV (sched bs (i + 1)), 171)]) := by rw [sched, if_pos h16]; exact OW
            go_wp2_with fail
            exact ⟨⟨i + 1, rfl, by omega, OW2⟩, by simp [intOf]; omega⟩
      · obtain ⟨x0, hx0⟩ : ∃ x : Int, (sched bs i).getD (i - 16) 0 = x := ⟨_, rfl⟩
        obtain ⟨x1, hx1⟩ : ∃ x : Int, (sched bs i).getD (i - 7) 0 = x := ⟨_, rfl⟩
        obtain ⟨x2, hx2⟩ : ∃ x : Int, (sched bs i).getD (i - 15) 0 = x := ⟨_, rfl⟩
        obtain ⟨x3, hx3⟩ : ∃ x : Int, (sched bs i).getD (i - 2) 0 = x := ⟨_, rfl⟩
        have c0 : wr.cell? ⟨gW, i - 16, none⟩ = some (.int .u64 x0) := ((OW.out.cell 3 rfl _).trans (arrV_get _ (i - 16) (by omega))).trans (by rw [hx0])
        have c1 : wr.cell? ⟨gW, i - 7, none⟩ = some (.int .u64 x1) := ((OW.out.cell 3 rfl _).trans (arrV_get _ (i - 7) (by omega))).trans (by rw [hx1])
        have c2 : wr.cell? ⟨gW, i - 15, none⟩ = some (.int .u64 x2) := ((OW.out.cell 3 rfl _).trans (arrV_get _ (i - 15) (by omega))).trans (by rw [hx2])
        have c3 : wr.cell? ⟨gW, i - 2, none⟩ = some (.int .u64 x3) := ((OW.out.cell 3 rfl _).trans (arrV_get _ (i - 2) (by omega))).trans (by rw [hx3])
        have f0 := OW.out.frozen 3 rfl i
        have C0 : Aside0 ((arrV (sched bs i))[i - 16]? = some (.int .u64 x0)) := ⟨(arrV_get _ (i - 16) (by omega)).trans (by rw [hx0])⟩
        have C1 : Aside0 ((arrV (sched bs i))[i - 7]? = some (.int .u64 x1)) := ⟨(arrV_get _ (i - 7) (by omega)).trans (by rw [hx1])⟩
        have X0 := Aside0.mk hx0
        have X1 := Aside0.mk hx1
        have X2 := Aside0.mk hx2
        have X3 := Aside0.mk hx3
        have t15 : ((i : Int) - 15).toNat = i - 15 := by omega
        have t2 : ((i : Int) - 2).toNat = i - 2 := by omega
        have l15 : (i : Int) - 15 < 64 := by omega
        have l2 : (i : Int) - 2 < 64 := by omega
        have g15 : 0 ≤ (i : Int) - 15 := by omega
        have g2 : 0 ≤ (i : Int) - 2 := by omega
        clear hx0 hx1 hx2 hx3
        go_wp2_with fail
        go_quiet (fail)
        have t16 : ((i : Int) - 16).toNat = i - 16 := by omega
        have t7 : ((i : Int) - 7).toNat = i - 7 := by omega
        have l16 : (i : Int) - 16 < 64 := by omega
        have l7 : (i : Int) - 7 < 64 := by omega
        have g16 : 0 ≤ (i : Int) - 16 := by omega
        have g7 : 0 ≤ (i : Int) - 7 := by omega
        have w16 : IntKind.i64.wrap ((i : Int) - 16) = (i : Int) - 16 := IntWalk.i64_in _ (by omega)
        have w7 : IntKind.i64.wrap ((i : Int) - 7) = (i : Int) - 7 := IntWalk.i64_in _ (by omega)
        have e7 : (7 : Int) ≤ (i : Int) := by omega
        clear c0 c1 c2 c3 f0
        go_wp2_with fail
        refine Mem.region_still_tail 30 (by kernel_rfl) (by kernel_rfl) ?_
        intro W2 hW2
        have O2 : Aside0 (Mem.Own w (W2) [(gK, arrV kx, 171), (gH, arrV hx, 173), (gR, arrV z8, 173), (gW, arrV (sched bs i), 171)]) := ⟨by rw [← hW2]; exact (OW.out.drewN nq).drew⟩
        clear hW2 OW
        have c0 : W2.cell? ⟨gW, i - 16, none⟩ = some (.int .u64 x0) := ((O2.out.cell 3 rfl _).trans C0.out)
        have c1 : W2.cell? ⟨gW, i - 7, none⟩ = some (.int .u64 x1) := ((O2.out.cell 3 rfl _).trans C1.out)
        have f0 := O2.out.frozen 3 rfl i
        have cs0 := (O2.out.cell 3 rfl i).trans (arrV_get _ i (by rw [hl]; exact hlt))
        simp only [List.take_succ_cons, List.take_zero, List.drop_succ_cons, List.drop_zero]
        repeat (first | still_call (right_c _ _ (by decide) (by decide) _) | still_step)
        try refine wpStill_nil ?_
        have X0 := Aside0.mk (show (sched bs (i + 1)) = (sched bs i).set i (extF x0 x1 x2 x3) from by rw [sched, if_neg h16, extW, X0.out, X1.out, X2.out, X3.out])
        clear t16 t7 l16 l7 g16 g7 w16 w7 e7 t15 t2 l15 l2 g15 g2 c0 c1
        go_wp2_with fail
        go_roundw
        case rel => exact ⟨i + 1, by go_num, by omega, ⟨O2.out.put 3 rfl i _ (by rw [arrV_set, X0.out]; rfl)⟩⟩
        case measure => simp [intOf]; omega
    · obtain rfl : i = 64 := by omega
      go_wp2_with (first
        | ((with_reducible refine gate_dst (N := 83) rfl ?_); refine wpList_load_row rfl 173 (.tmp 4) rfl gH rfl 173 (arrV hx) (0, 0) _ (OW.out.blk 1 rfl) Try.underlying173 rfl (by rw [sh]; kernel_rfl) ?_)
        | ((with_reducible refine gate_dst (N := 12) rfl ?_); refine box_event ?hg (N := 12) ?hd (cs := arrV z8) (t := 173) ?hr ?_; (case hd => rfl); (case hg => rfl); (case hr => first | (go_simp; done) | (go_simp; rfl)); intro gV hg W_ hb hbb; have n_ : Aside0 (Mem.Own w W_ [(gK, arrV kx, 171), (gH, arrV hx, 173), (gR, arrV z8, 173), (gW, arrV (sched bs 64), 171), (gV, arrV z8, 173)]) := ⟨OW.out.new hg hb hbb⟩; clear OW hb hbb hg; have OW := n_; clear n_)
        | ((with_reducible refine gate_store (t := 173) (p := 12) rfl ?_); refine wpList_store_row rfl 173 (.tmp 12) (.tmp 83) rfl gV (arrV hx) rfl rfl 173 _ (OW.out.blk 4 rfl) (by rw [sh]; kernel_rfl) (by rw [sh]; rfl) (arrV_one _) ?_; have n_ : Aside0 (Mem.Own w (_) [(gK, arrV kx, 171), (gH, arrV hx, 173), (gR, arrV z8, 173), (gW, arrV (sched bs 64), 171), (gV, arrV hx, 173)]) := ⟨OW.out.row 4 rfl (arrV hx)⟩; clear OW; have OW := n_; clear n_))
      have hlw := sched_len bs 64
      obtain ⟨wx, hwx⟩ : ∃ wx, sched bs 64 = wx := ⟨_, rfl⟩
      rw [hwx] at OW hlw
      have HWX := Aside0.mk hwx
      clear hwx hl hlt hi
      go_loopw [13] (fun v13 wr => ∃ i : Nat, v13 = .int .i64 i ∧ i ≤ 64 ∧ Aside0 (Mem.Own w (wr) [(gK, arrV kx, 171), (gH, arrV hx, 173), (gR, arrV z8, 173), (gW, arrV wx, 171), (gV, arrV (rnds kx wx hx i), 173)])) (fun v _ => 64 - (intOf v).toNat)
      case atStart => exact ⟨0, rfl, Nat.zero_le _, OW⟩
      case round =>
        clear OW
        obtain ⟨i, rfl, hi, OW⟩ := hrel
        have hl := (rnds_len kx wx hx i).trans hh
        by_cases hlt : i < 64
        · have HR := Aside0.mk (show rnds kx wx hx (i + 1) = rndF (rnds kx wx hx i) (kx.getD i 0) (wx.getD i 0) from rfl)
          obtain ⟨v, hv⟩ : ∃ v, rnds kx wx hx i = v := ⟨_, rfl⟩
          rw [hv] at OW hl HR
          clear hv
          obtain ⟨a0, ha0⟩ : ∃ x : Int, v.getD 0 0 = x := ⟨_, rfl⟩
          have c0 : wr.cell? ⟨gV, 0, none⟩ = some (.int .u64 a0) := ((OW.out.cell 4 rfl _).trans (arrV_get _ 0 (by omega))).trans (by rw [ha0])
          obtain ⟨a1, ha1⟩ : ∃ x : Int, v.getD 1 0 = x := ⟨_, rfl⟩
          have c1 : wr.cell? ⟨gV, 1, none⟩ = some (.int .u64 a1) := ((OW.out.cell 4 rfl _).trans (arrV_get _ 1 (by omega))).trans (by rw [ha1])
          obtain ⟨a2, ha2⟩ : ∃ x : Int, v.getD 2 0 = x := ⟨_, rfl⟩
          have c2 : wr.cell? ⟨gV, 2, none⟩ = some (.int .u64 a2) := ((OW.out.cell 4 rfl _).trans (arrV_get _ 2 (by omega))).trans (by rw [ha2])
          obtain ⟨a3, ha3⟩ : ∃ x : Int, v.getD 3 0 = x := ⟨_, rfl⟩
          have c3 : wr.cell? ⟨gV, 3, none⟩ = some (.int .u64 a3) := ((OW.out.cell 4 rfl _).trans (arrV_get _ 3 (by omega))).trans (by rw [ha3])
          obtain ⟨a4, ha4⟩ : ∃ x : Int, v.getD 4 0 = x := ⟨_, rfl⟩
          have c4 : wr.cell? ⟨gV, 4, none⟩ = some (.int .u64 a4) := ((OW.out.cell 4 rfl _).trans (arrV_get _ 4 (by omega))).trans (by rw [ha4])
          obtain ⟨a5, ha5⟩ : ∃ x : Int, v.getD 5 0 = x := ⟨_, rfl⟩
          have c5 : wr.cell? ⟨gV, 5, none⟩ = some (.int .u64 a5) := ((OW.out.cell 4 rfl _).trans (arrV_get _ 5 (by omega))).trans (by rw [ha5])
          obtain ⟨a6, ha6⟩ : ∃ x : Int, v.getD 6 0 = x := ⟨_, rfl⟩
          have c6 : wr.cell? ⟨gV, 6, none⟩ = some (.int .u64 a6) := ((OW.out.cell 4 rfl _).trans (arrV_get _ 6 (by omega))).trans (by rw [ha6])
          obtain ⟨a7, ha7⟩ : ∃ x : Int, v.getD 7 0 = x := ⟨_, rfl⟩
          have c7 : wr.cell? ⟨gV, 7, none⟩ = some (.int .u64 a7) := ((OW.out.cell 4 rfl _).trans (arrV_get _ 7 (by omega))).trans (by rw [ha7])
          obtain ⟨xk, hxk⟩ : ∃ x : Int, kx.getD i 0 = x := ⟨_, rfl⟩
          obtain ⟨xw, hxw⟩ : ∃ x : Int, wx.getD i 0 = x := ⟨_, rfl⟩
          have ck : wr.cell? ⟨gK, i, none⟩ = some (.int .u64 xk) := ((OW.out.cell 0 rfl _).trans (arrV_get _ i (by omega))).trans (by rw [hxk])
          have cw : wr.cell? ⟨gW, i, none⟩ = some (.int .u64 xw) := ((OW.out.cell 3 rfl _).trans (arrV_get _ i (by omega))).trans (by rw [hxw])
          have C0 : Aside0 ((arrV v)[0]? = some (.int .u64 a0)) := ⟨(arrV_get _ 0 (by omega)).trans (by rw [ha0])⟩
          have HX := Aside0.mk (And.intro ha0 (And.intro ha1 (And.intro ha2 (And.intro ha3 (And.intro ha4 (And.intro ha5 (And.intro ha6 (And.intro ha7 (And.intro hxk hxw)))))))))
          clear ha0 ha1 ha2 ha3 ha4 ha5 ha6 ha7 hxk hxw
          go_wp2_with fail
          go_quiet (first | (go_at_call 131; exact Calls.quiet_of_same (right_c _ _ (by decide) (by decide) _)))
          go_wp2_with fail
          have O3 : Aside0 (Mem.Own w (wr.drewN nq) [(gK, arrV kx, 171), (gH, arrV hx, 173), (gR, arrV z8, 173), (gW, arrV wx, 171), (gV, arrV v, 173)]) := ⟨OW.out.drewN nq⟩
          generalize wr.drewN nq = W3 at O3 ⊢
          clear c0 c1 c2 c3 c4 c5 c6 c7 ck cw OW
          have c0 : W3.cell? ⟨gV, 0, none⟩ = some (.int .u64 a0) := ((O3.out.cell 4 rfl _).trans C0.out)
          go_quiet (first | (go_at_call 131; exact Calls.quiet_of_same (right_c _ _ (by decide) (by decide) _)))
          have OW : Aside0 (Mem.Own w (W3.drewN nq) [(gK, arrV kx, 171), (gH, arrV hx, 173), (gR, arrV z8, 173), (gW, arrV wx, 171), (gV, arrV v, 173)]) := ⟨O3.out.drewN nq⟩
          clear c0 O3
          go_wp2_with fail
          generalize W3.drewN nq = W4 at OW ⊢
          go_loopw [18] (fun v18 wr => ∃ k : Nat, v18 = .int .i64 (7 - (k : Int)) ∧ k ≤ 7 ∧ Aside0 (Mem.Own w (wr) [(gK, arrV kx, 171), (gH, arrV hx, 173), (gR, arrV z8, 173), (gW, arrV wx, 171), (gV, arrV (shf v k), 173)])) (fun v _ => (intOf v).toNat)
          case atStart => exact ⟨0, rfl, Nat.zero_le _, OW⟩
          case round =>
            clear OW
            obtain ⟨k, rfl, hk, OW⟩ := hrel
            have hls := (shf_len v k).trans hl
            by_cases hk7 : k < 7
            · obtain ⟨y, hy⟩ : ∃ x : Int, (shf v k).getD (6 - k) 0 = x := ⟨_, rfl⟩
              have b1 : wr.cell? ⟨gV, 6 - k, none⟩ = some (.int .u64 y) := ((OW.out.cell 4 rfl _).trans (arrV_get _ (6 - k) (by omega))).trans (by rw [hy])
              have b2 := ((OW.out.cell 4 rfl _).trans (arrV_get (shf v k) (7 - k) (by omega)))
              have f2 := OW.out.frozen 4 rfl (7 - k)
              have HY := Aside0.mk (show shf v (k + 1) = (shf v k).set (7 - k) y from by rw [shf, hy])
              have q1 : (7 - (k : Int)).toNat = 7 - k := by omega
              have q2 : (7 - (k : Int) - 1).toNat = 6 - k := by omega
              have q3 : 0 ≤ 7 - (k : Int) := by omega
              have q4 : 0 ≤ 7 - (k : Int) - 1 := by omega
              have q5 : 7 - (k : Int) - 1 < 8 := by omega
              have q6 : 7 - (k : Int) < 8 := by omega
              have q7 : 0 < 7 - (k : Int) := by omega
              clear hy
              go_wp2_with fail
              exact ⟨⟨k + 1, by rw [show (7 - (k : Int) - 1) = 7 - ((k + 1 : Nat) : Int) from by omega], by omega, ⟨OW.out.put 4 rfl (7 - k) _ (by rw [arrV_set, HY.out])⟩⟩, by simp [intOf]; omega⟩
            · obtain rfl : k = 7 := by omega
              obtain ⟨sv, hsv⟩ : ∃ s, shf v 7 = s := ⟨_, rfl⟩
              rw [hsv] at OW hls
              obtain ⟨b4, hb4⟩ : ∃ x : Int, sv.getD 4 0 = x := ⟨_, rfl⟩
              have d4 : wr.cell? ⟨gV, 4, none⟩ = some (.int .u64 b4) := ((OW.out.cell 4 rfl _).trans (arrV_get _ 4 (by omega))).trans (by rw [hb4])
              have d0 := ((OW.out.cell 4 rfl _).trans (arrV_get sv 0 (by omega)))
              have f4 := OW.out.frozen 4 rfl 4
              have f0 := OW.out.frozen 4 rfl 0
              have HS := Aside0.mk (And.intro hsv hb4)
              clear hsv hb4
              go_wp2_with fail
              exact ⟨⟨i + 1, by go_num, by omega, ⟨(OW.out.put 4 rfl 4 _ (arrV_set _ _ _)).put 4 rfl 0 _ (by rw [arrV_set, HR.out, HX.out.2.2.2.2.2.2.2.2.1, HX.out.2.2.2.2.2.2.2.2.2, rnd_eq v sv _ _ _ _ _ _ _ _ xk xw _ HX.out.1 HX.out.2.1 HX.out.2.2.1 HX.out.2.2.2.1 HX.out.2.2.2.2.1 HX.out.2.2.2.2.2.1 HX.out.2.2.2.2.2.2.1 HX.out.2.2.2.2.2.2.2.1 HS.out.1 HS.out.2]; rfl)⟩⟩, by simp [intOf]; omega⟩
        · obtain rfl : i = 64 := by omega
          obtain ⟨v, hv⟩ : ∃ v, rnds kx wx hx 64 = v := ⟨_, rfl⟩
          rw [hv] at OW hl
          have HV := Aside0.mk hv
          clear hv
          go_wp2_with fail
          go_loopw [19] (fun v19 wr => ∃ i : Nat, v19 = .int .i64 i ∧ i ≤ 8 ∧ Aside0 (Mem.Own w (wr) [(gK, arrV kx, 171), (gH, arrV (sumW v hx i), 173), (gR, arrV z8, 173), (gW, arrV wx, 171), (gV, arrV v, 173)])) (fun v _ => 8 - (intOf v).toNat)
          case atStart => exact ⟨0, rfl, Nat.zero_le _, OW⟩
          case round =>
            clear OW hlt hi
            obtain ⟨i, rfl, hi, OW⟩ := hrel
            have hls := (sumW_len v hx i).trans hh
            by_cases hlt : i < 8
            · obtain ⟨x, hx'⟩ : ∃ x : Int, (sumW v hx i).getD i 0 = x := ⟨_, rfl⟩
              obtain ⟨y, hy⟩ : ∃ x : Int, v.getD i 0 = x := ⟨_, rfl⟩
              have b1 : wr.cell? ⟨gH, i, none⟩ = some (.int .u64 x) := ((OW.out.cell 1 rfl _).trans (arrV_get _ i (by omega))).trans (by rw [hx'])
              have b2 : wr.cell? ⟨gV, i, none⟩ = some (.int .u64 y) := ((OW.out.cell 4 rfl _).trans (arrV_get _ i (by omega))).trans (by rw [hy])
              have f2 := OW.out.frozen 1 rfl i
              have HY := Aside0.mk (show sumW v hx (i + 1) = (sumW v hx i).set i ((IntKind.u64.wrap (x + y)).tmod 4294967296) from by rw [sumW, hx', hy])
              clear hx' hy
              go_wp2_with fail
              go_region
              all_goals go_wp2_with fail
              go_roundw
              case rel => exact ⟨i + 1, by go_num, by omega, ⟨(OW.out.put 1 rfl i _ (by rw [arrV_set, HY.out])).drew⟩⟩
              case measure => simp [intOf]; omega
            · obtain rfl : i = 8 := by omega
              have hsz : (arrV (sumW v hx 8)).size = 8 := (arrV_size _).trans hls
              go_wp2_with (first
                | ((with_reducible refine gate_dst (N := 189) rfl ?_); refine wpList_load_row rfl 173 (.tmp 4) rfl gH rfl 173 (arrV (sumW v hx 8)) (0, 0) _ (OW.out.blk 1 rfl) Try.underlying173 rfl (by rw [hsz]; kernel_rfl) ?_)
                | ((with_reducible refine gate_store (t := 173) (p := 6) rfl ?_); refine wpList_store_row rfl 173 (.tmp 6) (.tmp 189) rfl gR (arrV (sumW v hx 8)) rfl rfl 173 _ (OW.out.blk 2 rfl) (by rw [hsz]; kernel_rfl) (by rw [hsz]; rfl) (arrV_one _) ?_; have n_ : Aside0 (Mem.Own w (_) [(gK, arrV kx, 171), (gH, arrV (sumW v hx 8), 173), (gR, arrV (sumW v hx 8), 173), (gW, arrV wx, 171), (gV, arrV v, 173)]) := ⟨OW.out.row 2 rfl (arrV (sumW v hx 8))⟩; clear OW; have OW := n_; clear n_))
              refine bodyPost_ret (results_cell_row (p := 6) (ty := 173) rfl _ _ gR 173 _ _ _ rfl (OW.out.blk 2 rfl) Try.underlying173 rfl (by rw [hsz]; kernel_rfl)) rfl ⟨by rw [blockF, HWX.out, HV.out], OW.out.below⟩
end Go.Proofs.Ytolapikiflodfaa.Ref01
