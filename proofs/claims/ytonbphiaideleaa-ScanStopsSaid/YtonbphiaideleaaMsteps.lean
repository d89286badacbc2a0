/- The table of the checksum: crc.steps gives back, in memory of its own, what the register comes to by each byte. No condition. -/
import Derived.Test.YtonbphiaideleaaProg
import Derived.WalkKit
import Derived.Outline
import Derived.Below
import Derived.Laws.Rows
import Derived.Laws.Tables
import Derived.Laws.World
import Derived.Deep.WholeRow
import Derived.Deep.LoopGhost
import Derived.KernelRfl
import Derived.Test.YtonbphiaideleaaWWords
namespace Go.Proofs.Ytonbphiaideleaa.M
open Go.RowKit Go.Proofs.YtonbphiaideleaaW.PrintWords
set_option linter.unusedVariables false
set_option linter.unusedSimpArgs false

/-- One turn of the register. -/
def st1 (x : Int) : Int := if Go.bits .and .u32 x 1 = 1 then Go.bits .xor .u32 (x / 2) 2197175160 else x / 2
def stn : Nat → Int → Int
  | 0, x => x
  | n + 1, x => stn n (st1 x)
theorem stn_succ (n : Nat) : ∀ x, stn (n + 1) x = st1 (stn n x) := by
  induction n with
  | zero => intro x; rfl
  | succ n ih => intro x; show stn (n + 1) (st1 x) = _; rw [ih]; rfl
def tabCells (k : Nat) : Array Value := ((List.range 256).map fun j => Value.int .u32 (if j < k then stn 8 j else 0)).toArray
theorem tabCells_size (k : Nat) : (tabCells k).size = 256 := by simp [tabCells]
theorem tabCells_zero : Array.replicate 256 (Value.int .u32 0) = tabCells 0 := by
  unfold tabCells
  apply Array.ext
  · simp
  · intro i h1 h2
    simp
theorem tabCells_one (k : Nat) : (tabCells k).all (·.oneCell') = true := by
  simp [tabCells, Value.oneCell']
theorem tabCells_set (k : Nat) : (tabCells k).setIfInBounds k (.int .u32 (stn 8 k)) = tabCells (k + 1) := by
  apply Array.ext
  · simp [tabCells]
  · intro i h1 h2
    rw [Array.getElem_setIfInBounds (by simpa [tabCells] using h1)]
    simp only [tabCells, List.getElem_toArray, List.getElem_map, List.getElem_range]
    split
    · rename_i h; subst h; rw [if_pos (by omega)]
    · rename_i h
      by_cases hi : i < k
      · rw [if_pos hi, if_pos (by omega)]
      · rw [if_neg hi, if_neg (by omega)]
theorem tabCells_get (k j : Nat) (hj : j < 256) : (tabCells k)[j]? = some (.int .u32 (if j < k then stn 8 j else 0)) := by
  simp [tabCells, hj]
theorem info78 : (Try.prog.info? 78).map (fun i => (i.zero, i.size)) = some (some (.agg (Array.replicate 256 (.int .u32 0))), 256) := by kernel_rfl

theorem setCell_last (w : World) (c : Array Value) (t : TypeId) (k : Nat) (v : Value) : (w.alloc (.cells c t)).setCell ⟨w.heap.size, k, none⟩ v = w.alloc (.cells (c.setIfInBounds k v) t) := by
  rw [setCell_eq_setRow _ _ k c t (0, 0) v (heap_alloc_last w _), World.setRow_alloc_new]


set_option maxHeartbeats 1000000 in
set_option maxRecDepth 100000 in
theorem steps_any (w : World) : Calls Try.prog 43 #[] w fun e w' => e = .returned (.agg (tabCells 256)) ∧ w' = w.alloc (.cells (tabCells 256) 78) := by
  have hz78 := (zero_of_info info78).1
  go_enter Try.func43, Try.ntmps43
  go_wp2
  rw [tabCells_zero]
  go_loopg [4] 256 (fun g s4 wx => ∃ i : Nat, i + g = 256 ∧ s4 = .int .i64 i ∧ wx = w.alloc (.cells (tabCells i) 78))
  case atStart => exact ⟨0, by omega, rfl, rfl⟩
  case round =>
    obtain ⟨i, hig, rfl, rfl⟩ := hrel
    cases gk with
    | zero =>
      obtain rfl : i = 256 := by omega
      go_wp2_with (first
        | (refine wpList_load_row rfl 78 (.tmp 0) rfl w.heap.size rfl 78 (tabCells 256) (0, 0) _ (heap_alloc_last w _) Try.underlying78 rfl (by rw [tabCells_size]; exact (zero_of_info info78).2) ?_)
        | (refine wpList_store_row rfl 78 (.tmp 0) (.tmp 24) rfl w.heap.size (tabCells 256) rfl rfl 78 (tabCells 256) (heap_alloc_last w _) (by rw [tabCells_size]; exact (zero_of_info info78).2) rfl (tabCells_one _) ?_; rw [World.setRow_alloc_new]))
      (try simp only [Exit.inBlock, Exit.then])
      refine bodyPost_ret (v := .agg (tabCells 256)) ?_ rfl ⟨rfl, rfl⟩
      exact results_cell_row Try.results43 _ _ w.heap.size 78 (tabCells 256) (0, 0) _ rfl (heap_alloc_last w _) Try.underlying78 rfl (by rw [tabCells_size]; exact (zero_of_info info78).2)
    | succ g =>
      have hi : (i : Int) < 256 := by omega
      go_wp2
      go_loopg [2, 3, 9] 8 (fun g2 s2 s3 s9 wx => ∃ j : Nat, j + g2 = 8 ∧ s9 = .int .i64 j ∧ s2 = .int .u32 (stn j i) ∧ wx = w.alloc (.cells (tabCells i) 78))
      case atStart => exact ⟨0, by omega, rfl, rfl, rfl⟩
      case round =>
        obtain ⟨j, hjg, rfl, rfl, rfl⟩ := hrel
        have HS := Aside0.mk (stn_succ j i)
        obtain ⟨x, hx⟩ : ∃ x, x = stn j i := ⟨_, rfl⟩
        rw [← hx] at HS
        rw [← hx]
        have HX := Aside0.mk hx
        clear hx
        cases gk with
        | zero =>
          obtain rfl : j = 8 := by omega
          have hic : (tabCells i)[i]? = some (.int .u32 (if i < i then stn 8 i else 0)) := tabCells_get i i (by omega)
          have hset := setCell_last w (tabCells i) 78 i (.int .u32 x)
          clear HS
          go_wp2
          go_roundg g
          case measure => omega
          case rel => exact ⟨i + 1, by omega, by first | rfl | simp, by rw [HX.out, tabCells_set]⟩
        | succ g2 =>
          have hj : (j : Int) < 8 := by omega
          by_cases hb : (Go.bits .and .u32 x 1 == 1) = true
          · go_wp2
            go_roundg g2
            case measure => omega
            case rel => exact ⟨j + 1, by omega, by first | rfl | simp, by rw [HS.out]; unfold st1; rw [if_pos (beq_iff_eq.mp hb)], rfl⟩
          · have hb' : (Go.bits .and .u32 x 1 == 1) = false := by simpa using hb
            clear hb
            go_wp2
            go_roundg g2
            case measure => omega
            case rel => exact ⟨j + 1, by omega, by first | rfl | simp, by rw [HS.out]; unfold st1; rw [if_neg (by simpa using hb')], rfl⟩
end Go.Proofs.Ytonbphiaideleaa.M
