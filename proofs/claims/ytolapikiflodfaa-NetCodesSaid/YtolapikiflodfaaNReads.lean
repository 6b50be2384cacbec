/- A letter (a struct of seven fields) read as the printed functions read it. -/
import Derived.Test.YtolapikiflodfaaQNetCodesx0
import Derived.Test.YtolapikiflodfaaOpens
namespace Go.Proofs.Ytolapikiflodfaa.PNetCodes
open Go.Proofs.YtolapikiflodfaaOpens Go.Proofs.YtolapikiflodfaaW.PrintWords
theorem reads42 : Reads k42 Try.prog 42 (fun _ => True) :=
  reads_imp (reads_iso (fun x : S42 => (x.f0, x.f1, x.f2, x.f3, x.f4, x.f5, x.f6)) (fun p => ⟨p.1, p.2.1, p.2.2.1, p.2.2.2.1, p.2.2.2.2.1, p.2.2.2.2.2.1, p.2.2.2.2.2.2⟩) (fun _ => rfl)
    (reads_struct Try.underlying42 (by kernel_rfl)
      (fs_cons (reads_int Try.underlying3) (by kernel_rfl) rfl (by decide) (fs_cons (reads_int Try.underlying3) (by kernel_rfl) rfl (by decide) (fs_cons (reads_int Try.underlying3) (by kernel_rfl) rfl (by decide)
        (fs_cons (reads_int Try.underlying3) (by kernel_rfl) rfl (by decide) (fs_cons (reads_int Try.underlying3) (by kernel_rfl) rfl (by decide) (fs_cons (reads_int Try.underlying3) (by kernel_rfl) rfl (by decide)
          (fs_last (reads_string Try.underlying9) (by kernel_rfl) rfl)))))))))
    (fun _ _ => trivial)
end Go.Proofs.Ytolapikiflodfaa.PNetCodes
