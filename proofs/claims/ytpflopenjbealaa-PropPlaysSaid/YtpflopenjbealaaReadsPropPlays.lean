/- The votes (a struct of five fields) read as the printed functions read them. -/
import Derived.Test.YtpflopenjbealaaQPropPlaysx0
import Derived.Test.YtpflopenjbealaaOpens
namespace Go.Proofs.Ytpflopenjbealaa.PPropPlays
open Go.Proofs.YtpflopenjbealaaOpens Go.Proofs.YtpflopenjbealaaW.PrintWords
def Op42 (x : S42) : Prop := (Lit.int .i64 x.f1).wf = true ∧ (Lit.int .i64 x.f2).wf = true ∧ (Lit.int .i64 x.f3).wf = true ∧ x.f4.size ≤ maxLen
theorem reads42 : Reads k42 Try.prog 42 Op42 :=
  reads_imp (reads_iso (fun x : S42 => (x.f0, x.f1, x.f2, x.f3, x.f4)) (fun p => ⟨p.1, p.2.1, p.2.2.1, p.2.2.2.1, p.2.2.2.2⟩) (fun _ => rfl)
    (reads_struct Try.underlying42 (by kernel_rfl)
      (fs_cons (reads_bool Try.underlying4) (by kernel_rfl) rfl (by decide) (fs_cons (reads_int Try.underlying3) (by kernel_rfl) rfl (by decide) (fs_cons (reads_int Try.underlying3) (by kernel_rfl) rfl (by decide)
        (fs_cons (reads_int Try.underlying3) (by kernel_rfl) rfl (by decide) (fs_last (reads_string Try.underlying9) (by kernel_rfl) rfl)))))))
    (fun _ h => ⟨h.2.1, h.2.2.1, h.2.2.2.1, h.2.2.2.2⟩)
end Go.Proofs.Ytpflopenjbealaa.PPropPlays
