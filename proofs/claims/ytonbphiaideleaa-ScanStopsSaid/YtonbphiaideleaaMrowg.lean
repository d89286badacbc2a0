/- Slices of frames, and of numbers of sixteen bits, as arguments. -/
import Derived.Test.YtonbphiaideleaaMrowf
import Derived.Test.YtonbphiaideleaaMread
import Derived.Deep.Slices
namespace Go.Proofs.Ytonbphiaideleaa.M
open Go.ChangeShapes Go.WideShapes Go.ChangeAt Go.RowKit Go.Deep Go.Proofs.YtonbphiaideleaaW.PrintWords Go.Proofs.Ytonbphiaideleaa.PC
set_option linter.unusedVariables false
set_option linter.unusedSimpArgs false
theorem listed {α : Type} (P : Nat → α → Prop) : ∀ n : Nat, (∀ i, i < n → ∃ q, P i q) → ∃ zs : List α, zs.length = n ∧ ∀ i q, zs[i]? = some q → P i q
  | 0, _ => ⟨[], rfl, fun i q h => by simp at h⟩
  | n + 1, h => by
    obtain ⟨zs, hz, hp⟩ := listed P n (fun i hi => h i (by omega))
    obtain ⟨q, hq⟩ := h n (by omega)
    refine ⟨zs ++ [q], by simp [hz], fun i p hi => ?_⟩
    rcases Nat.lt_or_ge i zs.length with hl | hl
    · rw [List.getElem?_append_left hl] at hi
      exact hp i p hi
    · have hii : i = n := by
        have := (List.getElem?_eq_some_iff.1 hi).1
        rw [List.length_append, List.length_singleton] at this
        omega
      subst hii
      rw [← hz] at hi
      obtain rfl : q = p := by simpa using hi
      exact hq
section
variable {H : Type} {enc : TypeId × Value → H} {W : World} {d : DataW H} {p : List MemPlace} {a : Option Addr} {len cap : Nat}
theorem open_frames (h : DataW.Trod enc Try.prog W 0 (fun _ => true) true 55 (.slice a len cap) d p) : ∃ ls : List S44, ls.length = len ∧ len ≤ cap ∧ Kd.C k44 W a len ls ∧ ∀ q ∈ ls, Byt q.f2 := by
  obtain ⟨fuel, hf⟩ := h
  rcases open_slice Try.underlying55 hf with ⟨hcs, _⟩ | ⟨x, l, c, m, n, D, Pl, hcs, _, hl, hm, hmm, _, hi⟩
  · simp [Value.cells] at hcs
    obtain ⟨rfl, rfl, rfl⟩ := hcs
    exact ⟨[], rfl, Nat.le_refl _, Kd.C_nil _ _, fun _ h => by cases h⟩
  · simp [Value.cells] at hcs
    obtain ⟨rfl, rfl, rfl⟩ := hcs
    have hmc : m = cap := by simpa using hmm
    subst hmc
    obtain ⟨zs, hz, hp⟩ := listed (fun i (q : S44) => (∃ c : List Value, c.length = 3 ∧ k44.K W q c ∧ ∀ j u, c[j]? = some u → W.cell? (x.add (i * 3 + j)) = some u) ∧ Byt q.f2) len (fun i hil => by
      obtain ⟨cs', hc', ht'⟩ := hi i (by omega)
      rw [cells44] at hc'
      obtain ⟨_, hcl, hat⟩ := World.cells?_some hc'
      match cs', hcl with
      | [c0, c1, c2], _ =>
        obtain ⟨fx, fy, A, c, l, rfl, rfl, rfl, hlc, hC, hB, _, _⟩ := open_frame3 ht'
        refine ⟨⟨fx, fy, l⟩, ⟨_, rfl, k44_mk W ⟨fx, fy, l⟩ hlc hC, fun j u hj => ?_⟩, hB⟩
        have hj3 : j < 3 := (List.getElem?_eq_some_iff.1 hj).1
        rw [← Go.Deep.add_add, hat j hj3, hj])
    refine ⟨zs, hz, hl, ⟨hz, by unfold maxLen at hm; omega, fun _ => ⟨x, rfl, fun j q hj => ?_⟩⟩, fun q hq => ?_⟩
    · obtain ⟨⟨c, h1, h2, h3⟩, _⟩ := hp j q hj
      exact ⟨c, h1, h2, h3⟩
    · obtain ⟨i, hi'⟩ := List.getElem?_of_mem hq
      exact (hp i q hi').2
theorem open_u16s (h : DataW.Trod enc Try.prog W 0 (fun _ => true) true 71 (.slice a len cap) d p) : ∃ l : List Int, l.length = len ∧ len ≤ cap ∧ Kd.C (Kd.int .u16) W a len l ∧ ∀ x ∈ l, 0 ≤ x ∧ x < 65536 := by
  obtain ⟨fuel, hf⟩ := h
  rcases open_ints Try.underlying71 Try.underlying31 (by kernel_rfl) hf with ⟨hcs, _⟩ | ⟨x, l, c, zs, hcs, _, hl, hm, hz, _, hcell, hwz⟩
  · simp [Value.cells] at hcs
    obtain ⟨rfl, rfl, rfl⟩ := hcs
    exact ⟨[], rfl, Nat.le_refl _, Kd.C_nil _ _, fun _ h => by cases h⟩
  · simp [Value.cells] at hcs
    obtain ⟨rfl, rfl, rfl⟩ := hcs
    have hz' : zs.length = cap := by simpa using hz
    refine ⟨zs.take len, by rw [List.length_take]; omega, hl, C_of_cells hl hm hz' hcell, fun y hy => wf_u16 (hwz y (List.mem_of_mem_take hy))⟩
end
end Go.Proofs.Ytonbphiaideleaa.M
