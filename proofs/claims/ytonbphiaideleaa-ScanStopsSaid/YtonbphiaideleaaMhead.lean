/- Merged: Mbytb, Mhead. -/
import Derived.Test.YtonbphiaideleaaMrefsigned
import Derived.Test.YtonbphiaideleaaMcuts
/- Bytes, as a test. -/
namespace Go.Proofs.Ytonbphiaideleaa.M
open Go.RowKit
def bytB (l : List Int) : Bool := l.all fun x => decide (0 ≤ x) && decide (x < 256)
theorem byt_of {l : List Int} (h : bytB l = true) : Byt l := fun x hx => by
  have := List.all_eq_true.1 h x hx
  simpa using this
theorem bytB_of {l : List Int} (h : Byt l) : bytB l = true := List.all_eq_true.2 fun x hx => by
  have := h x hx
  simp
  omega
end Go.Proofs.Ytonbphiaideleaa.M
/- frame.versioned, frame.kinded; what the beginning of a frame is, as a plain function. -/
namespace Go.Proofs.Ytonbphiaideleaa.M
open Go.RowKit Go.Proofs.YtonbphiaideleaaW.PrintWords
set_option linter.unusedVariables false
set_option linter.unusedSimpArgs false

def verB (v : Int) : Bool := decide (1 ≤ v ∧ v ≤ 2)
def kinB (v : Int) : Bool := decide (1 ≤ v ∧ v ≤ 8)

set_option maxRecDepth 100000 in
theorem versioned_any (v : Int) (w : World) : Calls Try.prog 48 #[.int .u8 v] w fun e w' => e = .returned (.bool (verB v)) ∧ w = w' := by
  by_cases h1 : 1 ≤ v
  · have hd : decide (1 ≤ v) = true := decide_eq_true h1
    by_cases h2 : v ≤ 2
    · have hd2 : decide (v ≤ 2) = true := decide_eq_true h2
      have HV : Aside0 (verB v = true) := ⟨decide_eq_true ⟨h1, h2⟩⟩
      go_enter Try.func48, Try.ntmps48
      go_wp2
      go_ret
      exact ⟨by rw [HV.out]; rfl, rfl⟩
    · have hd2 : decide (v ≤ 2) = false := decide_eq_false h2
      have HV : Aside0 (verB v = false) := ⟨decide_eq_false (fun h => h2 h.2)⟩
      go_enter Try.func48, Try.ntmps48
      go_wp2
      go_ret
      exact ⟨by rw [HV.out]; rfl, rfl⟩
  · have hd : decide (1 ≤ v) = false := decide_eq_false h1
    have HV : Aside0 (verB v = false) := ⟨decide_eq_false (fun h => h1 h.1)⟩
    go_enter Try.func48, Try.ntmps48
    go_wp2
    go_ret
    exact ⟨by rw [HV.out]; rfl, rfl⟩
set_option maxRecDepth 100000 in
theorem kinded_any (v : Int) (w : World) : Calls Try.prog 49 #[.int .u8 v] w fun e w' => e = .returned (.bool (kinB v)) ∧ w = w' := by
  by_cases h1 : 1 ≤ v
  · have hd : decide (1 ≤ v) = true := decide_eq_true h1
    by_cases h2 : v ≤ 8
    · have hd2 : decide (v ≤ 8) = true := decide_eq_true h2
      have HV : Aside0 (kinB v = true) := ⟨decide_eq_true ⟨h1, h2⟩⟩
      go_enter Try.func49, Try.ntmps49
      go_wp2
      go_ret
      exact ⟨by rw [HV.out]; rfl, rfl⟩
    · have hd2 : decide (v ≤ 8) = false := decide_eq_false h2
      have HV : Aside0 (kinB v = false) := ⟨decide_eq_false (fun h => h2 h.2)⟩
      go_enter Try.func49, Try.ntmps49
      go_wp2
      go_ret
      exact ⟨by rw [HV.out]; rfl, rfl⟩
  · have hd : decide (1 ≤ v) = false := decide_eq_false h1
    have HV : Aside0 (kinB v = false) := ⟨decide_eq_false (fun h => h1 h.1)⟩
    go_enter Try.func49, Try.ntmps49
    go_wp2
    go_ret
    exact ⟨by rw [HV.out]; rfl, rfl⟩
/-- The first bytes of "Lg", as far as they are there. -/
def preB (l : List Int) : Bool := decide (l.take 2 = ([76, 103] : List Int).take l.length)
/-- What the beginning says: how many bytes the payload has, and what is wrong. -/
def headF (l : List Int) : Int × Int :=
  if preB l = false then (0, 3)
  else if 2 < l.length ∧ verB (rd l 2) = false then (0, 18)
  else if 3 < l.length ∧ kinB (rd l 3) = false then (0, 7)
  else if l.length < 6 then (0, 1)
  else if rd l 4 + 256 * rd l 5 > 4096 then (0, 2)
  else (rd l 4 + 256 * rd l 5, 0)
end Go.Proofs.Ytonbphiaideleaa.M
