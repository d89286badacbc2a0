/- What chapter 3's example says. -/
import Derived.Test.YtonbphiaideleaaMrefsigned
import Derived.Lib.SlBytesConst
namespace Go.Proofs.Ytonbphiaideleaa.M
open Go.RowKit Go.Proofs.YtonbphiaideleaaW.PrintWords
set_option linter.unusedVariables false
set_option linter.unusedSimpArgs false

theorem crc_nine : crcN 0 [49, 50, 51, 52, 53, 54, 55, 56, 57] = 3808858755 := by decide +kernel
theorem nine_byt : Byt [49, 50, 51, 52, 53, 54, 55, 56, 57] := by
  intro x hx
  simp only [List.mem_cons, List.not_mem_nil, or_false] at hx
  omega
/-- A row of bytes that was just made, whatever its mark. -/
theorem new_C (w : World) (l : List Int) (fr : Nat × Nat) (hl : l.length ≤ 9223372036854775807) : Kd.C (Kd.int .u8) (w.alloc (.cells (nums .u8 l).toArray 5 fr)) (some ⟨w.heap.size, 0, none⟩) l.length l := by
  refine ⟨rfl, hl, fun _ => ⟨_, rfl, fun j p hj => ⟨[.int .u8 p], rfl, rfl, fun i u hi => ?_⟩⟩⟩
  rcases i with _ | i
  · obtain rfl : Value.int .u8 p = u := by simpa using hi
    simp only [Kd.int, Kd.scalar, Nat.mul_one, Nat.add_zero, add_plain, Nat.zero_add]
    rw [cell_of_row _ _ j _ _ _ (heap_alloc_last w _)]
    simp [nums, hj]
  · simp at hi

set_option maxHeartbeats 1000000 in
set_option maxRecDepth 100000 in
theorem awake3_any (w : World) : Calls Try.prog 19 #[] w fun e w' => e = .returned (.bool true) ∧ Below w.heap.size w w' := by
  have HB := Aside0.mk (Below.refl w.heap.size w)
  have H9 : Aside0 (andF 0 [[49, 50, 51, 52, 53, 54, 55, 56, 57]] = 3808858755) := ⟨by
    rw [show (0 : Int) = ((0 : Nat) : Int) from rfl, andF_crc (by decide) (fun l hl => by rw [List.mem_singleton.1 hl]; exact nine_byt)]
    rw [show ([[49, 50, 51, 52, 53, 54, 55, 56, 57]] : List (List Int)).flatten = [49, 50, 51, 52, 53, 54, 55, 56, 57] from rfl, crc_nine]
    rfl⟩
  have H0 : Aside0 (andF 0 [] = 0) := ⟨by decide +kernel⟩
  have kc := fun (w : World) (C : Array Value) (n c : Nat) => Lib.run_convert_bytes_const (P := Try.prog) w 23 5 C n c Try.underlying23 Try.underlying5
  have hc9 := lit1_C (new_C w [49, 50, 51, 52, 53, 54, 55, 56, 57] (9, 10) (by simp)) (Nat.le_refl _)
  have HC := Aside0.mk hc9
  clear hc9
  have HB1 := Aside0.mk (below_alloc (below_alloc (Below.refl w.heap.size w) (.cells (nums .u8 [49, 50, 51, 52, 53, 54, 55, 56, 57]).toArray 5 (9, 10))) (.cells #[.slice (some ⟨w.heap.size, 0, none⟩) [49, 50, 51, 52, 53, 54, 55, 56, 57].length 9] 23))
  have hn : nums .u8 [49, 50, 51, 52, 53, 54, 55, 56, 57] = [.int .u8 49, .int .u8 50, .int .u8 51, .int .u8 52, .int .u8 53, .int .u8 54, .int .u8 55, .int .u8 56, .int .u8 57] := rfl
  simp only [hn, World.size_alloc, List.length_cons, List.length_nil, Nat.zero_add, Nat.reduceAdd] at HC HB1
  clear hn
  go_enter Try.func19, Try.ntmps19
  go_wp2_with fail
  refine (of_any (some ⟨w.heap.size + 1, 0, none⟩) 1 [[49, 50, 51, 52, 53, 54, 55, 56, 57]] _ HC.out (Nat.le_refl _)).mono ?_
  rw [H9.out]
  rintro e w1 ⟨rfl, hb⟩
  have HB2 := Aside0.mk (below_then HB1.out HB1.out.size hb)
  clear hb
  go_wp2_with fail
  refine (of_any none 0 [] _ (Kd.C_nil _ _) (Nat.le_refl _)).mono ?_
  rw [H0.out]
  rintro e w2 ⟨rfl, hb⟩
  have HB3 := Aside0.mk (below_then HB2.out HB2.out.size hb)
  clear hb
  go_wp2
  go_ret
  exact ⟨rfl, HB3.out⟩
end Go.Proofs.Ytonbphiaideleaa.M
