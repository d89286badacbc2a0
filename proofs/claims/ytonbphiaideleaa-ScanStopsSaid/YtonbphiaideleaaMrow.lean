/- Opening the arguments of the rows: bytes, and slices of bytes, as the walks read them. -/
import Derived.Test.YtonbphiaideleaaRows
import Derived.Test.YtonbphiaideleaaMcuts
import Derived.WalkKit
import Derived.ProofKit
import Derived.OpenShut
import Derived.ShutString
import Derived.ChangeOld
import Derived.Below
import Derived.SizedLaws
import Derived.Deep.Matrix
import Derived.Test.YtonbphiaideleaaWSized
namespace Go.Proofs.Ytonbphiaideleaa.M
open Go.ChangeShapes Go.WideShapes Go.ChangeAt Go.RowKit Go.Proofs.YtonbphiaideleaaW.PrintWords
set_option linter.unusedVariables false
theorem own : ownKnob Try.prog.godebug = none := by kernel_rfl
theorem laidOut : laidOutB Try.prog = true := by kernel_rfl


theorem wf_u8 {n : Int} (h : (Lit.int .u8 n).wf = true) : 0 ≤ n ∧ n < 256 := by
  simp [Lit.wf, IntKind.min, IntKind.max, IntKind.signed, IntKind.bits] at h
  omega
theorem wf_u16 {n : Int} (h : (Lit.int .u16 n).wf = true) : 0 ≤ n ∧ n < 65536 := by
  simp [Lit.wf, IntKind.min, IntKind.max, IntKind.signed, IntKind.bits] at h
  omega
theorem wf_u32 {n : Int} (h : (Lit.int .u32 n).wf = true) : 0 ≤ n ∧ n < 4294967296 := by
  simp [Lit.wf, IntKind.min, IntKind.max, IntKind.signed, IntKind.bits] at h
  omega
/-- Numbers that are read, out of their cells. -/
theorem C_of_cells {k : IntKind} {w : World} {x : Addr} {len cap : Nat} {zs : List Int} (hl : len ≤ cap) (hm : cap ≤ maxLen) (hz : zs.length = cap) (hcell : ∀ i, i < zs.length → w.cell? (x.add i) = some (.int k (zs.getD i 0))) :
    Kd.C (Kd.int k) w (some x) len (zs.take len) := by
  refine ⟨by rw [List.length_take]; omega, by unfold maxLen at hm; omega, fun _ => ⟨x, rfl, fun j p hj => ⟨[.int k p], rfl, rfl, fun i u hi => ?_⟩⟩⟩
  rcases i with _ | i
  · obtain rfl : Value.int k p = u := by simpa using hi
    have hjl : j < len := by
      rcases Nat.lt_or_ge j len with h | h
      · exact h
      · rw [List.getElem?_eq_none (by rw [List.length_take]; omega)] at hj; cases hj
    rw [List.getElem?_take_of_lt hjl] at hj
    have h := hcell j (by omega)
    rw [List.getD_eq_getElem?_getD, hj] at h
    simp only [Kd.int, Kd.scalar, Nat.mul_one, Nat.add_zero]
    simpa using h
  · simp at hi
section
variable {H : Type} {enc : TypeId × Value → H} {W : World} {d : DataW H} {p : List MemPlace} {a : Option Addr} {len cap : Nat}
theorem open_bytes (h : DataW.Trod enc Try.prog W 0 (fun _ => true) true 23 (.slice a len cap) d p) : ∃ l : List Int, l.length = len ∧ len ≤ cap ∧ Kd.C (Kd.int .u8) W a len l ∧ Byt l := by
  obtain ⟨fuel, hf⟩ := h
  rcases open_ints Try.underlying23 Try.underlying5 (by kernel_rfl) hf with ⟨hcs, _⟩ | ⟨x, l, c, zs, hcs, _, hl, hm, hz, _, hcell, hwz⟩
  · simp [Value.cells] at hcs
    obtain ⟨rfl, rfl, rfl⟩ := hcs
    exact ⟨[], rfl, Nat.le_refl _, Kd.C_nil _ _, Byt.nil⟩
  · simp [Value.cells] at hcs
    obtain ⟨rfl, rfl, rfl⟩ := hcs
    have hz' : zs.length = cap := by simpa using hz
    refine ⟨zs.take len, by rw [List.length_take]; omega, hl, C_of_cells hl hm hz' hcell, fun y hy => wf_u8 (hwz y (List.mem_of_mem_take hy))⟩
theorem open_byteRows (h : DataW.Trod enc Try.prog W 0 (fun _ => true) true 22 (.slice a len cap) d p) : ∃ ls : List (List Int), ls.length = len ∧ len ≤ cap ∧ Kd.C (Kd.slice 5 (Kd.int .u8)) W a len ls ∧ ∀ l ∈ ls, Byt l := by
  obtain ⟨fuel, hf⟩ := h
  rcases Deep.open_int_rows Try.underlying22 Try.underlying23 Try.underlying5 (by kernel_rfl) (by kernel_rfl) hf with ⟨hcs, _⟩ | ⟨x, l, c, A, L, C, Z, hcs, _, hl, hm, _, hrow⟩
  · simp [Value.cells] at hcs
    obtain ⟨rfl, rfl, rfl⟩ := hcs
    exact ⟨[], rfl, Nat.le_refl _, Kd.C_nil _ _, fun _ h => by cases h⟩
  · simp [Value.cells] at hcs
    obtain ⟨rfl, rfl, rfl⟩ := hcs
    refine ⟨(List.range len).map fun r => (Z r).take (L r), by simp, hl, ⟨by simp, by unfold maxLen at hm; omega, fun _ => ⟨x, rfl, fun j p hj => ?_⟩⟩, fun l hl2 => ?_⟩
    · have hjl : j < len := by
        rcases Nat.lt_or_ge j len with h | h
        · exact h
        · rw [List.getElem?_eq_none (by simpa using h)] at hj; cases hj
      simp only [List.getElem?_map, List.getElem?_range hjl, Option.map_some, Option.some.injEq] at hj
      subst hj
      obtain ⟨h1, h2, h3, h4, h5, h6, h7⟩ := hrow j (by omega)
      have hlen : ((Z j).take (L j)).length = L j := by rw [List.length_take]; omega
      refine ⟨[.slice (A j) (L j) (C j)], rfl, ⟨A j, C j, by rw [hlen], by rw [hlen]; exact h2, ?_⟩, fun i u hi => ?_⟩
      · rw [hlen]
        rcases hA : A j with _ | a'
        · have h0 : L j = 0 := by have := h6 hA; omega
          have h00 : (Z j).take (L j) = [] := by rw [h0]; rfl
          rw [h00, h0]
          exact Kd.C_nil _ _
        · exact C_of_cells h2 h3 h4 (fun i hi => (h7 a' hA).2 i (by omega))
      · rcases i with _ | i
        · obtain rfl : Value.slice (A j) (L j) (C j) = u := by simpa using hi
          simp only [Kd.slice, Nat.mul_one, Nat.add_zero]
          exact h1
        · simp at hi
    · obtain ⟨r, hr, rfl⟩ := List.mem_map.1 hl2
      rw [List.mem_range] at hr
      obtain ⟨h1, h2, h3, h4, h5, h6, h7⟩ := hrow r (by omega)
      exact fun y hy => wf_u8 (h5 y (List.mem_of_mem_take hy))
end
end Go.Proofs.Ytonbphiaideleaa.M
