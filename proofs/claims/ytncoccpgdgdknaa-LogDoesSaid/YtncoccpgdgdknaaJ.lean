/- The document's rows of chapter 23 come out true. No condition. -/
import Derived.Test.YtncoccpgdgdknaaF13
import Derived.KernelRfl
namespace Go.Proofs.Ytncoccpgdgdknaa.F
open Go.RowKit Go.Proofs.YtncoccpgdgdknaaV.PrintWords Go.Proofs.YtncoccpgdgdknaaV.PrintLast
theorem joined_40 : watchmanlaw23_joined.f 40 = some true := by kernel_rfl
theorem joined_ev : Ev (fun k => watchmanlaw23_joined.f k) true := Ev.of watchmanlaw23_joined.mono joined_40
end Go.Proofs.Ytncoccpgdgdknaa.F
