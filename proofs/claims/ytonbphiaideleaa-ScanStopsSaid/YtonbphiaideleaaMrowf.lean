/- Frames as arguments: what a reading of one gives. -/
import Derived.Test.YtonbphiaideleaaMrow
import Derived.Deep.Strs
namespace Go.Proofs.Ytonbphiaideleaa.M
open Go.ChangeShapes Go.WideShapes Go.ChangeAt Go.RowKit Go.Proofs.YtonbphiaideleaaW.PrintWords
set_option linter.unusedVariables false
set_option linter.unusedSimpArgs false
theorem cells44 : Try.prog.cellsOf 44 = 3 := by kernel_rfl
theorem cells23 : Try.prog.cellsOf 23 = 1 := by kernel_rfl
theorem cells5 : Try.prog.cellsOf 5 = 1 := by kernel_rfl
section
variable {H : Type} {enc : TypeId × Value → H} {W : World} {d : DataW H} {p : List MemPlace} {v : Value} {base : Nat}
theorem open_bytes1 {fuel : Nat} {c : Value} {z : DataW H × List MemPlace} (hf : DataW.trod enc Try.prog W 0 (fun _ => true) true fuel 23 [c] = some z) : ∃ (A : Option Addr) (cap : Nat) (l : List Int), c = .slice A l.length cap ∧ l.length ≤ cap ∧ Kd.C (Kd.int .u8) W A l.length l ∧ Byt l := by
  rcases open_ints Try.underlying23 Try.underlying5 (by kernel_rfl) hf with ⟨hcs, _⟩ | ⟨x, l, cap, zs, hcs, _, hl, hm, hz, _, hcell, hwz⟩
  · simp only [List.cons.injEq, and_true] at hcs
    exact ⟨none, 0, [], hcs, Nat.le_refl _, Kd.C_nil _ _, Byt.nil⟩
  · simp only [List.cons.injEq, and_true] at hcs
    have hz' : zs.length = cap := by simpa using hz
    have hlen : (zs.take l).length = l := by rw [List.length_take]; omega
    refine ⟨some x, cap, zs.take l, by rw [hlen]; exact hcs, by rw [hlen]; exact hl, by rw [hlen]; exact C_of_cells hl hm hz' hcell, fun y hy => wf_u8 (hwz y (List.mem_of_mem_take hy))⟩
theorem open_frame3 {fuel : Nat} {c0 c1 c2 : Value} {z : DataW H × List MemPlace} (hf : DataW.trod enc Try.prog W 0 (fun _ => true) true fuel 44 [c0, c1, c2] = some z) :
    ∃ (x y : Int) (A : Option Addr) (c : Nat) (l : List Int), c0 = .int .u8 x ∧ c1 = .int .u8 y ∧ c2 = .slice A l.length c ∧ l.length ≤ c ∧ Kd.C (Kd.int .u8) W A l.length l ∧ Byt l ∧ (0 ≤ x ∧ x < 256) ∧ (0 ≤ y ∧ y < 256) := by
  obtain ⟨y0, y1, y2, n, _, _, t0, t1, t2⟩ := Deep.trod_struct3 Try.underlying44 hf
  simp only [cells5, cells23, List.drop, List.take] at t0 t1 t2
  obtain ⟨x, e0, _, w0⟩ := DataW.trod_int Try.underlying5 t0
  obtain ⟨y, e1, _, w1⟩ := DataW.trod_int Try.underlying5 t1
  obtain ⟨A, c, l, e2, hl, hC, hB⟩ := open_bytes1 t2
  simp only [List.cons.injEq, and_true] at e0 e1
  exact ⟨x, y, A, c, l, e0, e1, e2, hl, hC, hB, wf_u8 w0, wf_u8 w1⟩
theorem open_frame (hv : Value.okWide Try.prog W .any base 44 v) (h : DataW.Trod enc Try.prog W 0 (fun _ => true) true 44 v d p) :
    ∃ (x y : Int) (A : Option Addr) (c : Nat) (l : List Int), v = .agg #[.int .u8 x, .int .u8 y, .slice A l.length c] ∧ l.length ≤ c ∧ Kd.C (Kd.int .u8) W A l.length l ∧ Byt l ∧ (0 ≤ x ∧ x < 256) ∧ (0 ≤ y ∧ y < 256) := by
  obtain ⟨cs, rfl, hs⟩ := okWide_struct Try.underlying44 hv
  rw [cells44] at hs
  obtain ⟨fuel, hf⟩ := h
  obtain ⟨cs⟩ := cs
  match cs, hs with
  | [c0, c1, c2], _ =>
    obtain ⟨x, y, A, c, l, rfl, rfl, rfl, hl, hC, hB, hx, hy⟩ := open_frame3 (show DataW.trod enc Try.prog W 0 (fun _ => true) true fuel 44 [c0, c1, c2] = some (d, p) from hf)
    exact ⟨x, y, A, c, l, rfl, hl, hC, hB, hx, hy⟩
end
end Go.Proofs.Ytonbphiaideleaa.M
