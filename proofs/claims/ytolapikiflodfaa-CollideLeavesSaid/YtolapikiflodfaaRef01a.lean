import Derived.Test.YtolapikiflodfaaMem
namespace Go.Proofs.Ytolapikiflodfaa.Ref01
open Go.RowKit Go.Proofs.YtolapikiflodfaaW.PrintWords Go.Proofs.YtolapikiflodfaaW.PrintLast Go.Proofs.YtolapikiflodfaaW.PrintMore
/-- an array of words in a block's cells -/
def arrV (xs : List Int) : Array Value := (xs.map (Value.int .u64)).toArray
theorem arrV_size (xs : List Int) : (arrV xs).size = xs.length := by simp [arrV]
theorem arrV_get (xs : List Int) (i : Nat) (h : i < xs.length) : (arrV xs)[i]? = some (.int .u64 (xs.getD i 0)) := by
  unfold arrV
  rw [List.getElem?_toArray, List.getElem?_map, List.getElem?_eq_getElem h, List.getD_eq_getElem?_getD, List.getElem?_eq_getElem h]; rfl
theorem arrV_set (xs : List Int) (i : Nat) (v : Int) : (arrV xs).setIfInBounds i (.int .u64 v) = arrV (xs.set i v) := by
  unfold arrV
  rw [List.setIfInBounds_toArray, List.map_set]
theorem arrV_one (xs : List Int) : (arrV xs).all (·.oneCell') = true := by
  rw [Array.all_eq_true_iff_forall_mem]
  intro v hv
  unfold arrV at hv
  obtain ⟨n, _, rfl⟩ := List.mem_map.1 (by simpa using hv)
  rfl
def rightF (x n : Int) : Int := (IntKind.u64.wrap (IntKind.u64.wrap (x * 4294967296) + x) / 2 ^ n.toNat).tmod 4294967296
set_option maxHeartbeats 1000000 in
theorem right_c (x n : Int) (h0 : 0 ≤ n) (hn : n ≤ 63) (w : World) : Calls Try.prog 131 #[.int .u64 x, .int .u64 n] w fun e w' => e = .returned (.int .u64 (rightF x n)) ∧ w' = w := by
  go_enter Try.func131, Try.ntmps131
  go_wp2
  go_ret
  exact ⟨rfl, rfl⟩
def hF : List Int := [1779033703, 3144134277, 1013904242, 2773480762, 1359893119, 2600822924, 528734635, 1541459225]
def kF : List Int := [1116352408, 1899447441, 3049323471, 3921009573, 961987163, 1508970993, 2453635748, 2870763221, 3624381080, 310598401, 607225278, 1426881987, 1925078388, 2162078206, 2614888103, 3248222580, 3835390401, 4022224774, 264347078, 604807628, 770255983, 1249150122, 1555081692, 1996064986, 2554220882, 2821834349, 2952996808, 3210313671, 3336571891, 3584528711, 113926993, 338241895, 666307205, 773529912, 1294757372, 1396182291, 1695183700, 1986661051, 2177026350, 2456956037, 2730485921, 2820302411, 3259730800, 3345764771, 3516065817, 3600352804, 4094571909, 275423344, 430227734, 506948616, 659060556, 883997877, 958139571, 1322822218, 1537002063, 1747873779, 1955562222, 2024104815, 2227730452, 2361852424, 2428436474, 2756734187, 3204031479, 3329325298]
set_option maxRecDepth 100000 in
set_option maxHeartbeats 4000000 in
theorem h_c (w : World) : Calls Try.prog 111 #[] w fun e w' => e = .returned (.agg (arrV hF)) ∧ Below w.heap.size w w' := by
  have HB := Aside0.mk (Below.refl w.heap.size w)
  go_enter Try.func111, Try.ntmps111
  go_wp2_with (first
    | ((with_reducible refine gate_dst (N := 0) rfl ?_); refine box_event ?hg (N := 0) ?hd (cs := arrV (List.replicate 8 0)) (t := 173) ?hr ?_; (case hd => rfl); (case hg => rfl); (case hr => first | (go_simp; done) | (go_simp; rfl)); intro gA hgA w1 hbA hbb; have GA := Aside0.mk (show w.heap.size ≤ gA by rw [hgA]; exact Nat.le_refl _); have BA := Aside0.mk hbA; have n_ := Aside0.mk (below_step HB.out hbb); clear HB; have HB := n_; clear n_ hbA hbb hgA)
    | ((with_reducible refine gate_store (t := 173) (p := 0) rfl ?_); refine wpList_store_row rfl 173 (.tmp 0) (.tmp 1) rfl gA (arrV hF) rfl rfl 173 _ BA.out (by kernel_rfl) rfl (arrV_one _) ?_; have BR := Aside0.mk (setRow_heap _ gA _ (arrV hF) _ _ BA.out); have n_ := Aside0.mk (Mem.below_row (cs := arrV hF) HB.out GA.out); clear HB; have HB := n_; clear n_ BA))
  refine bodyPost_ret (results_cell_row (p := 0) (ty := 173) rfl _ _ gA 173 _ _ _ rfl BR.out Try.underlying173 rfl (by kernel_rfl)) rfl ⟨rfl, HB.out⟩
set_option maxRecDepth 100000 in
set_option maxHeartbeats 4000000 in
theorem k_c (w : World) : Calls Try.prog 110 #[] w fun e w' => e = .returned (.agg (arrV kF)) ∧ Below w.heap.size w w' := by
  have HB := Aside0.mk (Below.refl w.heap.size w)
  go_enter Try.func110, Try.ntmps110
  go_wp2_with (first
    | ((with_reducible refine gate_dst (N := 0) rfl ?_); refine box_event ?hg (N := 0) ?hd (cs := arrV (List.replicate 64 0)) (t := 171) ?hr ?_; (case hd => rfl); (case hg => rfl); (case hr => first | (go_simp; done) | (go_simp; rfl)); intro gA hgA w1 hbA hbb; have GA := Aside0.mk (show w.heap.size ≤ gA by rw [hgA]; exact Nat.le_refl _); have BA := Aside0.mk hbA; have n_ := Aside0.mk (below_step HB.out hbb); clear HB; have HB := n_; clear n_ hbA hbb hgA)
    | ((with_reducible refine gate_store (t := 171) (p := 0) rfl ?_); refine wpList_store_row rfl 171 (.tmp 0) (.tmp 1) rfl gA (arrV kF) rfl rfl 171 _ BA.out (by kernel_rfl) rfl (arrV_one _) ?_; have BR := Aside0.mk (setRow_heap _ gA _ (arrV kF) _ _ BA.out); have n_ := Aside0.mk (Mem.below_row (cs := arrV kF) HB.out GA.out); clear HB; have HB := n_; clear n_ BA))
  refine bodyPost_ret (results_cell_row (p := 0) (ty := 171) rfl _ _ gA 171 _ _ _ rfl BR.out Try.underlying171 rfl (by kernel_rfl)) rfl ⟨rfl, HB.out⟩
end Go.Proofs.Ytolapikiflodfaa.Ref01
