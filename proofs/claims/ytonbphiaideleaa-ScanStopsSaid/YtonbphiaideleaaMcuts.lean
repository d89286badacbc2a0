/- Cuts of slices that are read, their results under names. -/
import Derived.Test.YtonbphiaideleaaMawake3
namespace Go.Proofs.Ytonbphiaideleaa.M
open Go.RowKit Go.Proofs.YtonbphiaideleaaW.PrintWords
set_option linter.unusedVariables false
set_option linter.unusedSimpArgs false

theorem info23 : (Try.prog.info? 23).map (fun i => (i.zero, i.size, i.bytes)) = some (some (.slice none 0 0), 1, 24) := by kernel_rfl

/-- x[j:] -/
theorem cutD {α : Type} {k : Kd α} (hk : k.sz = 1) {t e : TypeId} {i : TypeInfo} (ht : Try.prog.underlying t = some (.slice e)) (hi : Try.prog.info? e = some i) (hsz : i.size = 1) {A : Option Addr} {c : Nat} {w : World} {xs : List α}
    (h : k.C w A xs.length xs) (hc : xs.length ≤ c) (j : Int) (m : Nat) (hj : j = (m : Int)) (hm : m ≤ xs.length) :
    ∃ (A' : Option Addr) (ys : List α), ys = xs.drop m ∧ (∀ W : World, (Instr.slice t (.slice A xs.length c) (some (.int .i64 j)) none none).run Try.prog W = .ok (.slice A' ys.length (c - m)) W) ∧ k.C w A' ys.length ys ∧ ys.length ≤ c - m := by
  subst hj
  have h1 := cut_from (P := Try.prog) t e .i64 ht hi 1 hsz A xs.length c (m : Int) (by omega) (by omega)
  simp only [Int.toNat_natCast] at h1
  refine ⟨_, xs.drop m, rfl, fun W => by rw [h1 W, List.length_drop], ?_, by rw [List.length_drop]; omega⟩
  have h2 := Kd.C_drop h hm hc
  rw [hk] at h2
  exact h2
/-- x[:j] -/
theorem cutT {α : Type} {k : Kd α} {t e : TypeId} {i : TypeInfo} (ht : Try.prog.underlying t = some (.slice e)) (hi : Try.prog.info? e = some i) {A : Option Addr} {c : Nat} {w : World} {xs : List α}
    (h : k.C w A xs.length xs) (hc : xs.length ≤ c) (j : Int) (m : Nat) (hj : j = (m : Int)) (hm : m ≤ xs.length) :
    ∃ (ys : List α), ys = xs.take m ∧ (∀ W : World, (Instr.slice t (.slice A xs.length c) none (some (.int .i64 j)) none).run Try.prog W = .ok (.slice A ys.length c) W) ∧ k.C w A ys.length ys ∧ ys.length ≤ c := by
  subst hj
  have h1 := cut_to (P := Try.prog) t e .i64 ht hi A xs.length c (m : Int) (by omega) (by omega) hc
  simp only [Int.toNat_natCast] at h1
  refine ⟨xs.take m, rfl, fun W => by rw [h1 W, List.length_take, Nat.min_eq_left hm], Kd.C_take h hm, by rw [List.length_take]; omega⟩
end Go.Proofs.Ytonbphiaideleaa.M
