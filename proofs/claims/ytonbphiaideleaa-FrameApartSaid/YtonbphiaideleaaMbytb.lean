/- Bytes, as a test. -/
import Derived.Test.YtonbphiaideleaaMrefsigned
namespace Go.Proofs.Ytonbphiaideleaa.M
open Go.RowKit
def bytB (l : List Int) : Bool := l.all fun x => decide (0 ≤ x) && decide (x < 256)
theorem byt_of {l : List Int} (h : bytB l = true) : Byt l := fun x hx => by
  have := List.all_eq_true.1 h x hx
  simpa using this
theorem bytB_of {l : List Int} (h : Byt l) : bytB l = true := List.all_eq_true.2 fun x hx => by
  have := h x hx
  simp
  omega
end Go.Proofs.Ytonbphiaideleaa.M
