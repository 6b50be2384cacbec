import Derived.Test.YtolapikiflodfaaQNetCodesx0
import Derived.Test.YtolapikiflodfaaQNetCodesx1
import Derived.Test.YtolapikiflodfaaQNetCodesx4
import Derived.Test.YtolapikiflodfaaQNetCodesx8
namespace Go.Proofs.Ytolapikiflodfaa.PNetCodes
open Go.RowKit Go.Proofs.YtolapikiflodfaaW.PrintWords Go.Proofs.YtolapikiflodfaaW.PrintLast Go.Proofs.YtolapikiflodfaaW.PrintMore
attribute [local go_sem] max2_int min2_int max_two min_two max_three min_three max_four min_four   -- for this text's walks alone
set_option linter.unusedVariables false
set_option linter.unusedSimpArgs false

/-! ### annalistlaw22_awake: function 27 -/
attribute [local go_sem high] eqA42
def m0 : Array Value := #[.int .i64 1, .int .i64 0, .int .i64 2, .int .i64 0, .int .i64 0, .int .i64 0, .string (⟨#[]⟩ : ByteArray)]
def b0 : ByteArray := ⟨#[77, 0, 0, 0, 1, 0, 0, 0, 0, 0, 0, 0, 2, 0, 0, 0, 0, 0, 0, 0, 0, 0, 0, 0, 0, 0, 0, 0, 0]⟩
theorem enc0 : net_Encode.f 10 1 0 2 0 0 0 (⟨#[]⟩ : ByteArray) = some b0 := by decide +kernel
theorem dec0 : net_Decode.f b0 = some (1, 0, 2, 0, 0, 0, (⟨#[]⟩ : ByteArray), 0) := by
  have h : isLetter b0 = true := by decide +kernel
  have h0 : numAt b0 0 = 1 := by decide +kernel
  have h1 : numAt b0 1 = 0 := by decide +kernel
  have h2 : numAt b0 2 = 2 := by decide +kernel
  have h3 : numAt b0 3 = 0 := by decide +kernel
  have h4 : numAt b0 4 = 0 := by decide +kernel
  have h5 : numAt b0 5 = 0 := by decide +kernel
  have h6 : b0.extract 29 b0.size = ⟨#[]⟩ := by decide +kernel
  unfold net_Decode.f
  rw [if_pos h, h0, h1, h2, h3, h4, h5, h6]
def putM (w : World) (g : Nat) : World := (((((((w.setCell ⟨g, 0, none⟩ (.int .i64 1)).setCell ⟨g, 1, none⟩ (.int .i64 0)).setCell ⟨g, 2, none⟩ (.int .i64 2)).setCell ⟨g, 3, none⟩ (.int .i64 0)).setCell ⟨g, 4, none⟩ (.int .i64 0)).setCell ⟨g, 5, none⟩ (.int .i64 0)).setCell ⟨g, 6, none⟩ (.string (⟨#[]⟩ : ByteArray)))
theorem putM_blk {w : World} {g t : Nat} (h : w.heap[g]? = some (.cells zero42 t (0, 0))) : (putM w g).heap[g]? = some (.cells m0 t (0, 0)) := (blk_put (cs := #[.int .i64 1, .int .i64 0, .int .i64 2, .int .i64 0, .int .i64 0, .int .i64 0, .string (⟨#[]⟩ : ByteArray)]) (cs' := #[.int .i64 1, .int .i64 0, .int .i64 2, .int .i64 0, .int .i64 0, .int .i64 0, .string (⟨#[]⟩ : ByteArray)]) (blk_put (cs := #[.int .i64 1, .int .i64 0, .int .i64 2, .int .i64 0, .int .i64 0, .int .i64 0, .string (⟨#[]⟩ : ByteArray)]) (cs' := #[.int .i64 1, .int .i64 0, .int .i64 2, .int .i64 0, .int .i64 0, .int .i64 0, .string (⟨#[]⟩ : ByteArray)]) (blk_put (cs := #[.int .i64 1, .int .i64 0, .int .i64 2, .int .i64 0, .int .i64 0, .int .i64 0, .string (⟨#[]⟩ : ByteArray)]) (cs' := #[.int .i64 1, .int .i64 0, .int .i64 2, .int .i64 0, .int .i64 0, .int .i64 0, .string (⟨#[]⟩ : ByteArray)]) (blk_put (cs := #[.int .i64 1, .int .i64 0, .int .i64 2, .int .i64 0, .int .i64 0, .int .i64 0, .string (⟨#[]⟩ : ByteArray)]) (cs' := #[.int .i64 1, .int .i64 0, .int .i64 2, .int .i64 0, .int .i64 0, .int .i64 0, .string (⟨#[]⟩ : ByteArray)]) (blk_put (cs := #[.int .i64 1, .int .i64 0, .int .i64 0, .int .i64 0, .int .i64 0, .int .i64 0, .string (⟨#[]⟩ : ByteArray)]) (cs' := #[.int .i64 1, .int .i64 0, .int .i64 2, .int .i64 0, .int .i64 0, .int .i64 0, .string (⟨#[]⟩ : ByteArray)]) (blk_put (cs := #[.int .i64 1, .int .i64 0, .int .i64 0, .int .i64 0, .int .i64 0, .int .i64 0, .string (⟨#[]⟩ : ByteArray)]) (cs' := #[.int .i64 1, .int .i64 0, .int .i64 0, .int .i64 0, .int .i64 0, .int .i64 0, .string (⟨#[]⟩ : ByteArray)]) (blk_put (cs := #[.int .i64 0, .int .i64 0, .int .i64 0, .int .i64 0, .int .i64 0, .int .i64 0, .string (⟨#[]⟩ : ByteArray)]) (cs' := #[.int .i64 1, .int .i64 0, .int .i64 0, .int .i64 0, .int .i64 0, .int .i64 0, .string (⟨#[]⟩ : ByteArray)]) h 0 _ rfl) 1 _ rfl) 2 _ rfl) 3 _ rfl) 4 _ rfl) 5 _ rfl) 6 _ rfl)
theorem putM_far {w : World} {g g' t : Nat} {cs : Array Value} (h : w.heap[g']? = some (.cells cs t (0, 0))) (hne : g' ≠ g) : (putM w g).heap[g']? = some (.cells cs t (0, 0)) := (blk_far (blk_far (blk_far (blk_far (blk_far (blk_far (blk_far h hne _) hne _) hne _) hne _) hne _) hne _) hne _)
theorem putM_below {w0 w : World} {g : Nat} (h : Below w0.heap.size w0 w) (hg : w0.heap.size ≤ g) : Below w0.heap.size w0 (putM w g) := (below_set (below_set (below_set (below_set (below_set (below_set (below_set h hg) hg) hg) hg) hg) hg) hg)
/-- a net before (0) and after (1) the letter -/
def Mid (w0 wr : World) (g gm k : Nat) : Prop := Below w0.heap.size w0 wr ∧ wr.heap[gm]? = some (.cells m0 42 (0, 0)) ∧
  (k = 0 → wr.heap[g]? = some (.cells #[.slice none 0 0] 160 (0, 0))) ∧ (k = 1 → ∃ A c, wr.heap[g]? = some (.cells #[.slice (some ⟨A, 0, none⟩) 1 c] 160 (0, 0)) ∧ wr.cell? ⟨A, 0, none⟩ = some (.string b0))
theorem last_cell (w : World) (g : Nat) (v : Value) (o : Obj) (s : ByteArray) (r : Array Value) (t : TypeId) (h : Nat) (hh : h = w.heap.size + 1) :
    (((w.setCell ⟨g, 0, none⟩ v).alloc o).alloc (.cells (#[.string s] ++ r) t (0, 0))).cell? ⟨h, 0, none⟩ = some (.string s) := by
  have e : h = ((w.setCell ⟨g, 0, none⟩ v).alloc o).heap.size := by rw [World.size_alloc, World.size_setCell, hh]
  subst e
  have hb := blk_new ((w.setCell ⟨g, 0, none⟩ v).alloc o) (.cells (#[.string s] ++ r) t (0, 0))
  rw [cell_of_row _ _ 0 _ t (0, 0) hb]
  exact (Array.getElem?_append_left (Nat.lt_succ_self 0)).trans rfl
set_option maxRecDepth 100000 in
set_option maxHeartbeats 1000000 in
theorem put_one (w0 : World) (g gm : Nat) (w : World) (hg : w0.heap.size ≤ g) (hne : gm ≠ g) (hM : Mid w0 w g gm 0) :
    Calls Try.prog 66 #[.pointer (some ⟨g, 0, none⟩), .slice (some ⟨gm, 0, none⟩) 1 1] w fun e w' => e = .returned (.tuple #[]) ∧ Mid w0 w' g gm 1 := by
  have hu42 := Try.underlying42
  have HG := Aside0.mk hg
  have HN := Aside0.mk hne
  have HM := Aside0.mk hM
  clear hg hne hM
  go_enter Try.func66, Try.ntmps66
  go_wp2_with fail
  go_loopw [11] (fun v wr => ∃ k : Nat, k ≤ 1 ∧ v = .int .i64 k ∧ Aside0 (Mid w0 wr g gm k)) (fun v _ => 1 - (intOf v).toNat)
  case atStart => exact ⟨0, Nat.zero_le _, rfl, HM⟩
  case round =>
    obtain ⟨k, hk, rfl, HK⟩ := hrel
    clear HM
    by_cases hlt : k < 1
    · obtain ⟨HB0, BM0, hN0, -⟩ := HK.out
      have HB := Aside0.mk HB0
      have BM := Aside0.mk BM0
      have BG := Aside0.mk (hN0 (by omega))
      have HK0 := Aside0.mk (show k = 0 by omega)
      clear HB0 BM0 hN0 HK
      have hm_0 : wr.cell? ⟨gm, k * 7, none⟩ = some (.int .i64 1) := by rw [show k * 7 = 0 by omega]; exact (blk_cell BM.out 0).trans rfl
      have hm_1 : wr.cell? ⟨gm, k * 7 + 1, none⟩ = some (.int .i64 0) := by rw [show k * 7 + 1 = 1 by omega]; exact (blk_cell BM.out 1).trans rfl
      have hm_2 : wr.cell? ⟨gm, k * 7 + 2, none⟩ = some (.int .i64 2) := by rw [show k * 7 + 2 = 2 by omega]; exact (blk_cell BM.out 2).trans rfl
      have hm_3 : wr.cell? ⟨gm, k * 7 + 3, none⟩ = some (.int .i64 0) := by rw [show k * 7 + 3 = 3 by omega]; exact (blk_cell BM.out 3).trans rfl
      have hm_4 : wr.cell? ⟨gm, k * 7 + 4, none⟩ = some (.int .i64 0) := by rw [show k * 7 + 4 = 4 by omega]; exact (blk_cell BM.out 4).trans rfl
      have hm_5 : wr.cell? ⟨gm, k * 7 + 5, none⟩ = some (.int .i64 0) := by rw [show k * 7 + 5 = 5 by omega]; exact (blk_cell BM.out 5).trans rfl
      have hm_6 : wr.cell? ⟨gm, k * 7 + 6, none⟩ = some (.string (⟨#[]⟩ : ByteArray)) := by rw [show k * 7 + 6 = 6 by omega]; exact (blk_cell BM.out 6).trans rfl
      go_upto_region 3 with (((with_reducible refine gate_dst (N := 5) rfl ?_); refine box_event ?hg (N := 5) ?hd (cs := zero42) (t := 42) ?hr ?_; (case hd => rfl); (case hg => rfl); (case hr => first | (go_simp; done) | (go_simp; rfl)); intro gx hgx w5 hbx hbb; have GX := Aside0.mk (show w0.heap.size ≤ gx by rw [hgx]; exact HB.out.size); have NXG := Aside0.mk (show g ≠ gx by rw [hgx]; exact Nat.ne_of_lt (blk_lt BG.out)); have NXM := Aside0.mk (show gm ≠ gx by rw [hgx]; exact Nat.ne_of_lt (blk_lt BM.out)); have BX := Aside0.mk hbx; have n0_ := Aside0.mk (below_step HB.out hbb); have n1_ := Aside0.mk (blk_below BM.out hbb); have n2_ := Aside0.mk (blk_below BG.out hbb); clear HB BM BG; have HB := n0_; have BM := n1_; have BG := n2_; clear n0_ n1_ n2_; clear hm_0 hm_1 hm_2 hm_3 hm_4 hm_5 hm_6 hbx hbb hgx; have hx_0 := (blk_cell BX.out 0).trans (show (zero42 : Array Value)[0]? = some (.int .i64 0) from rfl); have hx_1 := (blk_cell BX.out 1).trans (show (zero42 : Array Value)[1]? = some (.int .i64 0) from rfl); have hx_2 := (blk_cell BX.out 2).trans (show (zero42 : Array Value)[2]? = some (.int .i64 0) from rfl); have hx_3 := (blk_cell BX.out 3).trans (show (zero42 : Array Value)[3]? = some (.int .i64 0) from rfl); have hx_4 := (blk_cell BX.out 4).trans (show (zero42 : Array Value)[4]? = some (.int .i64 0) from rfl); have hx_5 := (blk_cell BX.out 5).trans (show (zero42 : Array Value)[5]? = some (.int .i64 0) from rfl); have hx_6 := (blk_cell BX.out 6).trans (show (zero42 : Array Value)[6]? = some (.string (⟨#[]⟩ : ByteArray)) from rfl); have fx_0 := blk_frozen BX.out 0; have fx_1 := blk_frozen BX.out 1; have fx_2 := blk_frozen BX.out 2; have fx_3 := blk_frozen BX.out 3; have fx_4 := blk_frozen BX.out 4; have fx_5 := blk_frozen BX.out 5; have fx_6 := blk_frozen BX.out 6))
      refine (show Code.wp _ _ _ _ (putM w5 gx) from ?_)
      have n0_ := Aside0.mk (putM_blk BX.out); have n1_ := Aside0.mk (putM_far BG.out NXG.out); have n2_ := Aside0.mk (putM_far BM.out NXM.out); have n3_ := Aside0.mk (putM_below HB.out GX.out); clear BX BG BM HB; have BX := n0_; have BG := n1_; have BM := n2_; have HB := n3_; clear n0_ n1_ n2_ n3_
      clear hx_0 fx_0 hx_1 fx_1 hx_2 fx_2 hx_3 fx_3 hx_4 fx_4 hx_5 fx_5 hx_6 fx_6
      generalize putM w5 gx = W5 at BX BG BM HB ⊢
      have hx_0 := (blk_cell BX.out 0).trans (show (m0 : Array Value)[0]? = some (.int .i64 1) from rfl)
      have hx_1 := (blk_cell BX.out 1).trans (show (m0 : Array Value)[1]? = some (.int .i64 0) from rfl)
      have hx_2 := (blk_cell BX.out 2).trans (show (m0 : Array Value)[2]? = some (.int .i64 2) from rfl)
      have hx_3 := (blk_cell BX.out 3).trans (show (m0 : Array Value)[3]? = some (.int .i64 0) from rfl)
      have hx_4 := (blk_cell BX.out 4).trans (show (m0 : Array Value)[4]? = some (.int .i64 0) from rfl)
      have hx_5 := (blk_cell BX.out 5).trans (show (m0 : Array Value)[5]? = some (.int .i64 0) from rfl)
      have hx_6 := (blk_cell BX.out 6).trans (show (m0 : Array Value)[6]? = some (.string (⟨#[]⟩ : ByteArray)) from rfl)
      go_upto_region 5 with (first
        | (go_at_call 28; refine (net_Encode.calls 10 1 0 2 0 0 0 (⟨#[]⟩ : ByteArray) b0 _ enc0).mono ?_; rintro e w6 ⟨rfl, hbb⟩; have n0_ := Aside0.mk (below_step HB.out hbb); have n1_ := Aside0.mk (blk_below BM.out hbb); have n2_ := Aside0.mk (blk_below BG.out hbb); have n3_ := Aside0.mk (blk_below BX.out hbb); clear HB BM BG BX; have HB := n0_; have BM := n1_; have BG := n2_; have BX := n3_; clear n0_ n1_ n2_ n3_; clear hbb)
        | (go_at_call 29; refine (net_Decode.calls b0 1 0 2 0 0 0 (⟨#[]⟩ : ByteArray) 0 _ dec0).mono ?_; rintro e w6 ⟨rfl, hbb⟩; have n0_ := Aside0.mk (below_step HB.out hbb); have n1_ := Aside0.mk (blk_below BM.out hbb); have n2_ := Aside0.mk (blk_below BG.out hbb); have n3_ := Aside0.mk (blk_below BX.out hbb); clear HB BM BG BX; have HB := n0_; have BM := n1_; have BG := n2_; have BX := n3_; clear n0_ n1_ n2_ n3_; clear hbb)
        | ((with_reducible refine gate_dst (N := 7) rfl ?_); refine box_event ?hg (N := 7) ?hd (cs := zero42) (t := 42) ?hr ?_; (case hd => rfl); (case hg => rfl); (case hr => first | (go_simp; done) | (go_simp; rfl)); intro gy hgx w7 hbx hbb; have GY := Aside0.mk (show w0.heap.size ≤ gy by rw [hgx]; exact HB.out.size); have NYG := Aside0.mk (show g ≠ gy by rw [hgx]; exact Nat.ne_of_lt (blk_lt BG.out)); have NYM := Aside0.mk (show gm ≠ gy by rw [hgx]; exact Nat.ne_of_lt (blk_lt BM.out)); have NYX := Aside0.mk (show gx ≠ gy by rw [hgx]; exact Nat.ne_of_lt (blk_lt BX.out)); have BY := Aside0.mk hbx; have n0_ := Aside0.mk (below_step HB.out hbb); have n1_ := Aside0.mk (blk_below BM.out hbb); have n2_ := Aside0.mk (blk_below BG.out hbb); have n3_ := Aside0.mk (blk_below BX.out hbb); clear HB BM BG BX; have HB := n0_; have BM := n1_; have BG := n2_; have BX := n3_; clear n0_ n1_ n2_ n3_; clear hbx hbb hgx; have hy_0 := (blk_cell BY.out 0).trans (show (zero42 : Array Value)[0]? = some (.int .i64 0) from rfl); have hy_1 := (blk_cell BY.out 1).trans (show (zero42 : Array Value)[1]? = some (.int .i64 0) from rfl); have hy_2 := (blk_cell BY.out 2).trans (show (zero42 : Array Value)[2]? = some (.int .i64 0) from rfl); have hy_3 := (blk_cell BY.out 3).trans (show (zero42 : Array Value)[3]? = some (.int .i64 0) from rfl); have hy_4 := (blk_cell BY.out 4).trans (show (zero42 : Array Value)[4]? = some (.int .i64 0) from rfl); have hy_5 := (blk_cell BY.out 5).trans (show (zero42 : Array Value)[5]? = some (.int .i64 0) from rfl); have hy_6 := (blk_cell BY.out 6).trans (show (zero42 : Array Value)[6]? = some (.string (⟨#[]⟩ : ByteArray)) from rfl); have fy_0 := blk_frozen BY.out 0; have fy_1 := blk_frozen BY.out 1; have fy_2 := blk_frozen BY.out 2; have fy_3 := blk_frozen BY.out 3; have fy_4 := blk_frozen BY.out 4; have fy_5 := blk_frozen BY.out 5; have fy_6 := blk_frozen BY.out 6))
      refine (show Code.wp _ _ _ _ (putM w7 gy) from ?_)
      have n0_ := Aside0.mk (putM_blk BY.out); have n1_ := Aside0.mk (putM_far BX.out NYX.out); have n2_ := Aside0.mk (putM_far BG.out NYG.out); have n3_ := Aside0.mk (putM_far BM.out NYM.out); have n4_ := Aside0.mk (putM_below HB.out GY.out); clear BY BX BG BM HB; have BY := n0_; have BX := n1_; have BG := n2_; have BM := n3_; have HB := n4_; clear n0_ n1_ n2_ n3_ n4_
      clear hy_0 fy_0 hy_1 fy_1 hy_2 fy_2 hy_3 fy_3 hy_4 fy_4 hy_5 fy_5 hy_6 fy_6
      clear hx_0 hx_1 hx_2 hx_3 hx_4 hx_5 hx_6
      generalize putM w7 gy = W7 at BY BX BG BM HB ⊢
      have hx_0 := (blk_cell BX.out 0).trans (show (m0 : Array Value)[0]? = some (.int .i64 1) from rfl)
      have hx_1 := (blk_cell BX.out 1).trans (show (m0 : Array Value)[1]? = some (.int .i64 0) from rfl)
      have hx_2 := (blk_cell BX.out 2).trans (show (m0 : Array Value)[2]? = some (.int .i64 2) from rfl)
      have hx_3 := (blk_cell BX.out 3).trans (show (m0 : Array Value)[3]? = some (.int .i64 0) from rfl)
      have hx_4 := (blk_cell BX.out 4).trans (show (m0 : Array Value)[4]? = some (.int .i64 0) from rfl)
      have hx_5 := (blk_cell BX.out 5).trans (show (m0 : Array Value)[5]? = some (.int .i64 0) from rfl)
      have hx_6 := (blk_cell BX.out 6).trans (show (m0 : Array Value)[6]? = some (.string (⟨#[]⟩ : ByteArray)) from rfl)
      have hy_0 := (blk_cell BY.out 0).trans (show (m0 : Array Value)[0]? = some (.int .i64 1) from rfl)
      have hy_1 := (blk_cell BY.out 1).trans (show (m0 : Array Value)[1]? = some (.int .i64 0) from rfl)
      have hy_2 := (blk_cell BY.out 2).trans (show (m0 : Array Value)[2]? = some (.int .i64 2) from rfl)
      have hy_3 := (blk_cell BY.out 3).trans (show (m0 : Array Value)[3]? = some (.int .i64 0) from rfl)
      have hy_4 := (blk_cell BY.out 4).trans (show (m0 : Array Value)[4]? = some (.int .i64 0) from rfl)
      have hy_5 := (blk_cell BY.out 5).trans (show (m0 : Array Value)[5]? = some (.int .i64 0) from rfl)
      have hy_6 := (blk_cell BY.out 6).trans (show (m0 : Array Value)[6]? = some (.string (⟨#[]⟩ : ByteArray)) from rfl)
      have hg0 := (blk_cell BG.out 0).trans (show (#[.slice none 0 0] : Array Value)[0]? = some (.slice none 0 0) from rfl)
      have fg0 := blk_frozen BG.out 0
      have hgl : g < W7.heap.size := blk_lt BG.out
      go_wp2_with fail
      go_roundw
      case rel =>
        refine ⟨k + 1, by omega, by go_num, ⟨⟨?_, ?_, fun h => absurd h (by omega), fun _ => ⟨W7.heap.size + 1, (Question.appendCap 1 0 9).cut (W7.tape W7.drawn (Question.appendCap 1 0 9)), ?_, ?_⟩⟩⟩⟩
        · exact (below_alloc (below_alloc (below_set HB.out HG.out) _) _).drew
        · exact blk_drew (blk_alloc (blk_alloc (blk_far BM.out HN.out _) _) _)
        · exact blk_drew (blk_alloc (blk_alloc (blk_put BG.out 0 _ rfl) _) _)
        · exact last_cell W7 g _ _ b0 _ _ _ rfl
      case measure => simp [intOf]; omega
    · have hge : 1 ≤ k := by omega
      have HK1 := Aside0.mk (show Mid w0 wr g gm 1 by have h := HK.out; rw [show k = 1 by omega] at h; exact h)
      clear hlt
      go_wp2_with fail
      go_end0
      exact ⟨rfl, HK1.out⟩
set_option maxRecDepth 100000 in
set_option maxHeartbeats 1000000 in
theorem len_one (w0 w : World) (g gm : Nat) (hM : Mid w0 w g gm 1) : Calls Try.prog 67 #[.pointer (some ⟨g, 0, none⟩)] w fun e w' => e = .returned (.int .i64 1) ∧ w' = w := by
  obtain ⟨_, _, _, h1⟩ := hM
  obtain ⟨A, c, hb, _⟩ := h1 rfl
  have hg0 := (blk_cell hb 0).trans (show (#[.slice (some ⟨A, 0, none⟩) 1 c] : Array Value)[0]? = some (.slice (some ⟨A, 0, none⟩) 1 c) from rfl)
  clear hb h1
  go_enter Try.func67, Try.ntmps67
  go_wp2_with fail
  go_ret
  exact ⟨rfl, rfl⟩
set_option maxRecDepth 100000 in
set_option maxHeartbeats 1000000 in
theorem is_one (w0 w : World) (g gm : Nat) (hM : Mid w0 w g gm 1) : Calls Try.prog 98 #[.pointer (some ⟨g, 0, none⟩), .int .i64 0] w fun e w' => e = .returned (.bool true) ∧ w' = w := by
  obtain ⟨_, _, _, h1⟩ := hM
  obtain ⟨A, c, hb, _⟩ := h1 rfl
  have hg0 := (blk_cell hb 0).trans (show (#[.slice (some ⟨A, 0, none⟩) 1 c] : Array Value)[0]? = some (.slice (some ⟨A, 0, none⟩) 1 c) from rfl)
  clear hb h1
  go_enter Try.func98, Try.ntmps98
  go_wp2_with fail
  go_ret
  exact ⟨rfl, rfl⟩
set_option maxRecDepth 100000 in
set_option maxHeartbeats 1000000 in
theorem to_one (w0 w : World) (g gm : Nat) (hM : Mid w0 w g gm 1) : Calls Try.prog 68 #[.pointer (some ⟨g, 0, none⟩), .int .i64 0] w fun e w' => e = .returned (.int .i64 2) ∧ Below w0.heap.size w0 w' := by
  have HM := Aside0.mk hM
  obtain ⟨hB, _, _, h1⟩ := hM
  have HB := Aside0.mk hB
  clear hB
  obtain ⟨A, c, hb, hA⟩ := h1 rfl
  have hg0 := (blk_cell hb 0).trans (show (#[.slice (some ⟨A, 0, none⟩) 1 c] : Array Value)[0]? = some (.slice (some ⟨A, 0, none⟩) 1 c) from rfl)
  clear hb h1
  go_enter Try.func68, Try.ntmps68
  go_wp2_with (first
    | (go_at_call 98; refine (is_one w0 _ g gm HM.out).mono ?_; rintro e w6 ⟨rfl, rfl⟩)
    | (go_at_call 29; refine (net_Decode.calls b0 1 0 2 0 0 0 (⟨#[]⟩ : ByteArray) 0 _ dec0).mono ?_; rintro e w6 ⟨rfl, hbb⟩; have n_ := Aside0.mk (below_step HB.out hbb); clear HB hbb; have HB := n_; clear n_))
  go_ret
  exact ⟨rfl, below_alloc HB.out _⟩
set_option maxRecDepth 100000 in
set_option maxHeartbeats 1000000 in
theorem new_c (w : World) : Calls Try.prog 65 #[] w fun e w' => e = .returned (.pointer (some ⟨w.heap.size, 0, none⟩)) ∧ w' = w.alloc (.cells #[.slice none 0 0] 160 (0, 0)) := by
  go_enter Try.func65, Try.ntmps65
  go_wp2_with fail
  go_ret
  exact ⟨rfl, rfl⟩
theorem mid0 (w : World) : Mid w ((w.alloc (.cells #[.slice none 0 0] 160 (0, 0))).alloc (.cells m0 42 (0, 0))) w.heap.size (w.heap.size + 1) 0 := by
  have h1 := blk_new w (.cells #[.slice none 0 0] 160 (0, 0))
  have h2 := blk_new (w.alloc (.cells #[.slice none 0 0] 160 (0, 0))) (.cells m0 42 (0, 0))
  rw [World.size_alloc] at h2
  exact ⟨below_alloc (below_alloc (Below.refl _ _) _) _, h2, fun _ => blk_alloc h1 _, fun h => absurd h (by decide)⟩
set_option maxRecDepth 100000 in
set_option maxHeartbeats 1000000 in
theorem awake22_c (w : World) : Calls Try.prog 27 #[] w fun e w' => e = .returned (.bool true) ∧ Below w.heap.size w w' := by
  have hu42 := Try.underlying42
  go_enter Try.func27, Try.ntmps27
  go_wp2_with (go_at_call 65; refine (new_c _).mono ?_; rintro e w1 ⟨rfl, rfl⟩)
  refine (put_one w w.heap.size (w.heap.size + 1) _ (Nat.le_refl _) (by omega) (mid0 w)).mono ?_
  rintro e w2 ⟨rfl, hM⟩
  have HM := Aside0.mk hM
  clear hM
  go_wp2_with (first
    | (go_at_call 67; refine (len_one w _ _ _ HM.out).mono ?_; rintro e w3 ⟨rfl, rfl⟩)
    | (go_at_call 68; refine (to_one w _ _ _ HM.out).mono ?_; rintro e w3 ⟨rfl, hb⟩; have HB := Aside0.mk hb; clear hb))
  go_ret
  exact ⟨rfl, HB.out⟩
def annalistlaw22_awake.f : Option Bool := some true
set_option maxHeartbeats 8000000 in
set_option maxRecDepth 100000 in
theorem annalistlaw22_awake.calls  (r : Bool) (w : World) (h : annalistlaw22_awake.f  = some r) :
    Calls Try.prog 27 #[] w fun e w' => e = .returned (.bool r) ∧ Below w.heap.size w w' := by
  have hu42 := Try.underlying42
  obtain rfl := Option.some.inj h
  exact awake22_c w

end Go.Proofs.Ytolapikiflodfaa.PNetCodes
