/- Here is proved: what each call in the law of layer 18 does to the two proposals. Conditions: none. -/
import Derived.Test.YtpflopenjbealaaPlay5
namespace Go.Proofs.Ytpflopenjbealaa.Play
open Go Go.Proofs Go.RowKit Go.Proofs.Ytpflopenjbealaa.PPropPlays Go.Proofs.YtpflopenjbealaaW.PrintWords Go.Proofs.Ytpflopenjbealaa.SetsPropPlays Go.Proofs.YtpflopenjbealaaBits

/-- where the reference's proposal lies, and its lists -/
structure RS where
  A3 : Option Addr
  q3 : Nat
  A4 : Option Addr
  q4 : Nat
  P : List S42
  T : List S42
structure Both (w0 W : World) (gp gw : Nat) (n b : Int) (own : ByteArray) (s : PS) (r : RS) : Prop where
  p : IsS57 w0 W gp s.n s.b s.ph s.v s.best s.fd s.pr s.tk
  r : Ref w0.heap.size W gw n b own r.A3 r.q3 r.A4 r.q4 r.P r.T
  bel : Below w0.heap.size w0 W
theorem Both.drawn {w0 W : World} {gp gw : Nat} {n b : Int} {own : ByteArray} {s : PS} {r : RS} (h : Both w0 W gp gw n b own s r) (m : Nat) : Both w0 (W.drewN m) gp gw n b own s r :=
  ⟨h.p, ref_drawn h.r m, below_drawn h.bel m⟩
theorem Both.alloc {w0 W : World} {gp gw : Nat} {n b : Int} {own : ByteArray} {s : PS} {r : RS} (h : Both w0 W gp gw n b own s r) (o : Obj) : Both w0 (W.alloc o) gp gw n b own s r :=
  ⟨h.p.alloc o, ⟨alloc_heap o h.r.blk, h.r.ge, h.r.rowP.alloc o, h.r.rowT.alloc o, h.r.apart⟩, h.bel.alloc h.bel.size o⟩
theorem ref_keep {base g : Nat} {n b : Int} {own : ByteArray} {A3 : Option Addr} {q3 : Nat} {A4 : Option Addr} {q4 : Nat} {P T : List S42} {w w2 : World} (h : Ref base w g n b own A3 q3 A4 q4 P T)
    (hm : ∀ (k t : Nat) (cs : Array Value), t ≠ 57 → w.heap[k]? = some (Obj.cells cs t (0, 0)) → w2.heap[k]? = some (Obj.cells cs t (0, 0))) : Ref base w2 g n b own A3 q3 A4 q4 P T := by
  have hrow : ∀ {v : Value} {k : Nat} {xs : List Value}, w.ownsRow base 42 5 v k xs → w2.ownsRow base 42 5 v k xs := fun ho => own_move ho (fun k hk => by
    obtain ⟨cells, hc⟩ := own_typed ho k hk
    rw [hc]; exact hm k 42 cells (by decide) hc)
  exact ⟨hm g 52 _ (by decide) h.blk, h.ge, hrow h.rowP, hrow h.rowT, h.apart⟩
theorem keep_types {w0 w w2 : World} {gp : Nat} {f0 f1 f2 : Int} {f3 : ByteArray} {f4 : Int} {f5 : ByteArray} {f6 f7 : Int} (hp : IsS57 w0 w gp f0 f1 f2 f3 f4 f5 f6 f7) (hk : KeepBut w w2 gp none) :
    ∀ (k t : Nat) (cs : Array Value), t ≠ 57 → w.heap[k]? = some (Obj.cells cs t (0, 0)) → w2.heap[k]? = some (Obj.cells cs t (0, 0)) := fun k t cs ht h => by
  refine (hk.2 k (Array.getElem?_eq_some_iff.1 h).1 ?_ (by simp)).trans h
  rintro rfl
  have h2 := hp.1
  rw [h] at h2
  simp at h2
  exact ht h2.2

variable {w0 W : World} {gp gw : Nat} {n b : Int} {own : ByteArray} {s : PS} {r : RS}
/-- a vote that is told: the program's side -/
theorem accepted_b (h : Both w0 W gp gw n b own s r) (hok : s.ok) (o : S42) : Calls Try.prog 25 #[.pointer (some ⟨gp, 0, none⟩), .int .i64 o.f1, .int .i64 o.f2] W fun e w2 =>
    e = .returned (.bool (accepting s o.f1 o.f2).1) ∧ Both w0 w2 gp gw n b own (accepting s o.f1 o.f2).2 r ∧ ∀ (k : Nat) (cs : Array Value), W.heap[k]? = some (Obj.cells cs 42 (0, 0)) → w2.heap[k]? = some (Obj.cells cs 42 (0, 0)) :=
  (prop_Prop_Accepted.calls gp s.n s.b s.ph s.v s.best s.fd s.pr s.tk o.f1 o.f2 _ _ _ _ _ _ _ _ _ w0 W h.p h.bel (accepted_f s o.f1 o.f2 hok.2.2.2 hok.big)).mono
    fun _ _ ⟨he, hp, hb, hk⟩ => ⟨he, ⟨hp, ref_keep h.r (keep_types h.p hk), hb⟩, fun k cs hh => keep_types h.p hk k 42 cs (by decide) hh⟩
theorem promised_b (h : Both w0 W gp gw n b own s r) (hok : s.ok) (o : S42) : Calls Try.prog 22 #[.pointer (some ⟨gp, 0, none⟩), .int .i64 o.f1, .int .i64 o.f2, .int .i64 o.f3, .string o.f4] W fun e w2 =>
    e = .returned (.bool (promise s o.f1 o.f2 o.f3 o.f4).1) ∧ Both w0 w2 gp gw n b own (promise s o.f1 o.f2 o.f3 o.f4).2 r ∧ ∀ (k : Nat) (cs : Array Value), W.heap[k]? = some (Obj.cells cs 42 (0, 0)) → w2.heap[k]? = some (Obj.cells cs 42 (0, 0)) :=
  (prop_Prop_Promised.calls 1 gp s.n s.b s.ph s.v s.best s.fd s.pr s.tk o.f1 o.f2 o.f3 o.f4 _ _ _ _ _ _ _ _ _ w0 W h.p h.bel (promised_f 0 s o.f1 o.f2 o.f3 o.f4 hok.2.2.1 hok.big)).mono
    fun _ _ ⟨he, hp, hb, hk⟩ => ⟨he, ⟨hp, ref_keep h.r (keep_types h.p hk), hb⟩, fun k cs hh => keep_types h.p hk k 42 cs (by decide) hh⟩
/-- the reference's side -/
theorem do_b (h : Both w0 W gp gw n b own s r) (hP : r.P.length ≤ 900) (hT : r.T.length ≤ 900) (o : S42) (x : Bool) (P2 T2 : List S42) (hd : doR n b r.P r.T o = (x, P2, T2)) : Calls Try.prog 27 #[.pointer (some ⟨gw, 0, none⟩), opv o] W fun e w2 =>
    e = .returned (.bool x) ∧ ∃ r2 : RS, r2.P = P2 ∧ r2.T = T2 ∧ Both w0 w2 gp gw n b own s r2 := by
  have hc := do_c w0.heap.size gw n b own r.A3 r.q3 r.A4 r.q4 r.P r.T o W h.r h.bel.size hP hT
  rw [hd] at hc
  refine hc.mono ?_
  rintro e w2 ⟨he, ⟨A5, q5, A6, q6, hr⟩, hb, hf⟩
  exact ⟨he, ⟨A5, q5, A6, q6, P2, T2⟩, rfl, rfl, ⟨hf gp 57 _ (by decide) (by decide) h.p.1, h.p.2⟩, hr, h.bel.trans hb⟩
theorem phaseP_b (h : Both w0 W gp gw n b own s r) : Calls Try.prog 24 #[.pointer (some ⟨gp, 0, none⟩)] W fun e w2 => e = .returned (.int .i64 s.ph) ∧ Both w0 w2 gp gw n b own s r :=
  (prop_Prop_Phase.calls gp s.n s.b s.ph s.v s.best s.fd s.pr s.tk _ _ _ _ _ _ _ _ _ w0 W h.p h.bel rfl).mono fun _ _ ⟨he, hp, hb, hk⟩ => ⟨he, hp, ref_keep h.r (keep_types h.p hk), hb⟩
theorem valueP_b (h : Both w0 W gp gw n b own s r) : Calls Try.prog 23 #[.pointer (some ⟨gp, 0, none⟩)] W fun e w2 => e = .returned (.string s.v) ∧ Both w0 w2 gp gw n b own s r :=
  (prop_Prop_Value.calls gp s.n s.b s.ph s.v s.best s.fd s.pr s.tk _ _ _ _ _ _ _ _ _ w0 W h.p h.bel rfl).mono fun _ _ ⟨he, hp, hb, hk⟩ => ⟨he, hp, ref_keep h.r (keep_types h.p hk), hb⟩
theorem ballotP_b (h : Both w0 W gp gw n b own s r) : Calls Try.prog 30 #[.pointer (some ⟨gp, 0, none⟩)] W fun e w2 => e = .returned (.int .i64 s.b) ∧ Both w0 w2 gp gw n b own s r :=
  (prop_Prop_Ballot.calls gp s.n s.b s.ph s.v s.best s.fd s.pr s.tk _ _ _ _ _ _ _ _ _ w0 W h.p h.bel rfl).mono fun _ _ ⟨he, hp, hb, hk⟩ => ⟨he, hp, ref_keep h.r (keep_types h.p hk), hb⟩
theorem votersP_b (h : Both w0 W gp gw n b own s r) : Calls Try.prog 26 #[.pointer (some ⟨gp, 0, none⟩)] W fun e w2 => e = .returned (.tuple #[.int .u64 (s.pr : Int), .int .u64 (s.tk : Int)]) ∧ Both w0 w2 gp gw n b own s r :=
  (prop_Prop_Voters.calls gp s.n s.b s.ph s.v s.best s.fd s.pr s.tk _ _ _ _ _ _ _ _ _ _ w0 W h.p h.bel rfl).mono fun _ _ ⟨he, hp, hb, hk⟩ => ⟨he, hp, ref_keep h.r (keep_types h.p hk), hb⟩
theorem phaseR_b (h : Both w0 W gp gw n b own s r) (hR : Rel n b own s r.P r.T) : Calls Try.prog 28 #[.pointer (some ⟨gw, 0, none⟩)] W fun e w2 => e = .returned (.int .i64 s.ph) ∧ Both w0 w2 gp gw n b own s r := by
  have hl := rel_lens hR
  refine (phase_c gw n b own r.A3 r.A4 r.P.length r.T.length r.q3 r.q4 (by omega) (by omega) W h.r.blk).mono ?_
  rintro e w2 ⟨he, m, rfl⟩
  exact ⟨by rw [he, hR.ph], h.drawn m⟩
theorem valueR_b (h : Both w0 W gp gw n b own s r) (hR : Rel n b own s r.P r.T) : Calls Try.prog 29 #[.pointer (some ⟨gw, 0, none⟩)] W fun e w2 => e = .returned (.string s.v) ∧ Both w0 w2 gp gw n b own s r := by
  have hl := rel_lens hR
  refine (value_c w0.heap.size gw n b own r.A3 r.q3 r.A4 r.q4 r.P r.T W h.r (by omega) (by omega)).mono ?_
  rintro e w2 ⟨he, m, rfl⟩
  exact ⟨by rw [he, hR.sv], h.drawn m⟩
theorem len_b (x : Nat) (hx : x < 2 ^ 64) (c : Nat) (hc : cnt x 63 = c) (V : World) : Calls Try.prog 13 #[.int .u64 (x : Int)] V fun e w2 => e = .returned (.int .i64 (c : Int)) ∧ ∃ m, w2 = V.drewN m :=
  (vote_Set_Len.calls (x : Int) _ V (len_f x hx)).mono fun _ _ ⟨he, hd⟩ => ⟨by rw [he, hc], hd.out⟩
theorem rel_ok (hR : Rel n b own s r.P r.T) : s.ok := ⟨by rw [hR.sn]; exact hR.n1, by rw [hR.sn]; exact hR.n2, hR.lp, hR.lt⟩
theorem awake_b (V : World) : Calls Try.prog 20 #[] V fun e w2 => e = .returned (.bool true) ∧ Below V.heap.size V w2 := annalistlaw18_awake.calls 1 true V (awake18_f 0)
end Go.Proofs.Ytpflopenjbealaa.Play
