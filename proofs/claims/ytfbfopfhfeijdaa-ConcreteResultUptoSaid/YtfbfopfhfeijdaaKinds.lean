-- Written by a program of this session (ownprint.py, over the kit's printer). Not trusted: Lean checks it.
import Derived.Test.YtfbfopfhfeijdaaOpens
import Derived.KernelRfl
namespace Go.Proofs.Ytfbfopfhfeijdaa.Opn
open Go.RowKit Go.Proofs.Ytfbfopfhfeijdaa.Pr Go.Proofs.YtfbfopfhfeijdaaW.PrintWords Go.Proofs.YtfbfopfhfeijdaaW.PrintLast
theorem opens9 : Opens Try.prog 9 Kd.string Ms.string := Opens.string Try.underlying9 (by kernel_rfl)
def ms37 : Ms S37 := Ms.iso (Ms.pair Ms.string Ms.string) (fun x : S37 => (x.f0, x.f1))
theorem opens37 : Opens Try.prog 37 k37 ms37 := Opens.struct Try.underlying37 (by kernel_rfl) (by decide) (OpensF.cons opens9 rfl (OpensF.last opens9 rfl)) _ (fun a => ⟨a.1, a.2⟩) (fun a => rfl)
theorem opens30 : Opens Try.prog 30 (Kd.slice 37 k37) (Ms.slice ms37) := Opens.slice opens37 Try.underlying30 (by kernel_rfl)
theorem opens22 : Opens Try.prog 22 (Kd.slice 30 (Kd.slice 37 k37)) (Ms.slice (Ms.slice ms37)) := Opens.slice opens30 Try.underlying22 (by kernel_rfl)
theorem opens3 : Opens Try.prog 3 (Kd.int .i64) (Ms.int .i64) := Opens.int Try.underlying3 (by kernel_rfl)
def ms94 : Ms S94 := Ms.iso (Ms.pair (Ms.int .i64) (Ms.pair Ms.string (Ms.pair (Ms.int .i64) (Ms.pair Ms.string (Ms.slice ms37))))) (fun x : S94 => (x.f0, x.f1, x.f2, x.f3, x.f4))
theorem opens94 : Opens Try.prog 94 k94 ms94 := Opens.struct Try.underlying94 (by kernel_rfl) (by decide) (OpensF.cons opens3 rfl (OpensF.cons opens9 rfl (OpensF.cons opens3 rfl (OpensF.cons opens9 rfl (OpensF.last opens30 rfl))))) _ (fun a => ⟨a.1, a.2.1, a.2.2.1, a.2.2.2.1, a.2.2.2.2⟩) (fun a => rfl)
theorem opens86 : Opens Try.prog 86 (Kd.slice 94 k94) (Ms.slice ms94) := Opens.slice opens94 Try.underlying86 (by kernel_rfl)
def ms88 : Ms S88 := Ms.iso (Ms.pair Ms.string (Ms.slice ms94)) (fun x : S88 => (x.f0, x.f1))
theorem opens88 : Opens Try.prog 88 k88 ms88 := Opens.struct Try.underlying88 (by kernel_rfl) (by decide) (OpensF.cons opens9 rfl (OpensF.last opens86 rfl)) _ (fun a => ⟨a.1, a.2⟩) (fun a => rfl)
theorem opens31 : Opens Try.prog 31 (Kd.slice 88 k88) (Ms.slice ms88) := Opens.slice opens88 Try.underlying31 (by kernel_rfl)
theorem opens33t : Opens Try.prog 33 (Kd.pair Kd.string (Kd.pair (Kd.slice 30 (Kd.slice 37 k37)) (Kd.pair (Kd.slice 37 k37) (Kd.slice 88 k88)))) (Ms.pair Ms.string (Ms.pair (Ms.slice (Ms.slice ms37)) (Ms.pair (Ms.slice ms37) (Ms.slice ms88)))) := Opens.tuple Try.underlying33 (by kernel_rfl) (by decide) (OpensF.cons opens9 rfl (OpensF.cons opens22 rfl (OpensF.cons opens30 rfl (OpensF.last opens31 rfl))))
end Go.Proofs.Ytfbfopfhfeijdaa.Opn
