/- crc.Put, crc.Sign, crc.Signed by hand. -/
import Derived.Test.YtonbphiaideleaaMclone
namespace Go.Proofs.Ytonbphiaideleaa.M
open Go.RowKit Go.Proofs.YtonbphiaideleaaW.PrintWords
set_option linter.unusedVariables false
set_option linter.unusedSimpArgs false

/-- The four bytes of a sum, the lowest first. -/
def le4 (s : Int) : List Int := [s % 256, s / 256 % 256, s / 65536 % 256, s / 16777216 % 256]

/-- One row in a literal of rows. -/
theorem lit1_C {w : World} {A : Option Addr} {c : Nat} {l : List Int} (hr : Kd.C (Kd.int .u8) w A l.length l) (hc : l.length ≤ c) :
    Kd.C (Kd.slice 5 (Kd.int .u8)) (w.alloc (.cells #[.slice A l.length c] 23)) (some ⟨w.heap.size, 0, none⟩) [l].length [l] := by
  refine ⟨rfl, by simp, fun _ => ⟨_, rfl, fun j p hj => ?_⟩⟩
  rcases j with _ | j
  · obtain rfl : l = p := by simpa using hj
    refine ⟨[.slice A l.length c], rfl, ⟨A, c, rfl, hc, Kd.C_below hr (below_alloc (Below.refl _ _) _)⟩, fun i u hi => ?_⟩
    rcases i with _ | i
    · obtain rfl : Value.slice A l.length c = u := by simpa using hi
      simp only [Kd.slice, Nat.zero_mul, Nat.add_zero, add_plain]
      rw [cell_of_row _ _ 0 _ _ _ (heap_alloc_last w _)]
      rfl
    · simp at hi
  · simp at hj

set_option maxHeartbeats 1000000 in
set_option maxRecDepth 100000 in
theorem put_any (s : Int) (hs : 0 ≤ s) (hs2 : s < 4294967296) (A : Option Addr) (c : Nat) (l : List Int) (w : World) (hr : Kd.C (Kd.int .u8) w A l.length l) (hc : l.length ≤ c) (hl : l.length + 4 < 140737488355328) :
    Calls Try.prog 21 #[.int .u32 s, .slice A l.length c] w fun e w' => ∃ v : Value, e = .returned v ∧ Kd.R (Kd.int .u8) 5 w' w.heap.size (fun _ => True) v (l ++ le4 s) ∧ Below w.heap.size w w' := by
  have HR := Aside0.mk hr
  clear hr
  have HL := Aside0.mk hl
  have HL2 := Aside0.mk (show l.length < 140737488355328 by omega)
  clear hl
  have HB := Aside0.mk (Below.refl w.heap.size w)
  go_enter Try.func21, Try.ntmps21
  go_wp2_with (go_at_call 44; refine (clone_any _ _ _ _ HR.out hc HL2.out).mono ?_; rintro e w1 ⟨v, rfl, ho, hb⟩; have HO := Aside0.mk ho; have HB1 := Aside0.mk hb; clear ho hb)
  go_loopg [5, 9] 4 (fun g s5 s9 wx => ∃ j : Nat, j + g = 4 ∧ s9 = .int .i64 j ∧ Aside0 (Kd.R (Kd.int .u8) 5 wx w.heap.size (fun _ => True) s5 (l ++ (le4 s).take j)) ∧ Aside0 (Below w.heap.size w wx))
  case atStart => exact ⟨0, by omega, rfl, ⟨by simpa using HO.out⟩, HB1⟩
  case round =>
    clear HO HB1
    obtain ⟨j, hjg, rfl, HO, HB1⟩ := hrel
    cases gk with
    | zero =>
      obtain rfl : j = 4 := by omega
      go_wp2
      go_ret
      exact ⟨_, rfl, by simpa [le4] using HO.out, HB1.out⟩
    | succ g =>
      have hj : (j : Int) < 4 := by omega
      have hj0 : j < 4 := by omega
      have hlen : (l ++ (le4 s).take j).length + 1 ≤ 140737488355328 := by have := HL.out; simp only [List.length_append, List.length_take]; omega
      have HN := Aside0.mk hlen
      clear hlen
      go_wp2_with (((with_reducible refine gate_builtin (b := .append) (xs := #[.tmp 12, .tmp 18]) rfl ?_); at_builtin; refine Kd.R_append (Kd.int .u8) (w0 := w) w.heap.size rfl (.tmp 12) (.tmp 18) 23 5 (.int .u8 0) 1 rfl Try.underlying23 info5 rfl (by decide) (by omega) _ (l ++ (le4 s).take j) (s / 2 ^ (8 * j) % 256) [.int .u8 (s / 2 ^ (8 * j) % 256)] (fun _ => True) (fun _ => False) rfl rfl rfl (fun _ hk => hk.elim) (fun _ _ => trivial) HO.out HB1.out HB1.out.size (by have := HN.out; omega) ?_; intro v2 w2 ho hb hg hat; have HO2 := Aside0.mk ho; have HB2 := Aside0.mk hb; clear ho hb hg hat))
      go_roundg g
      case measure => omega
      case rel =>
        have ht : (le4 s).take (j + 1) = (le4 s).take j ++ [s / 2 ^ (8 * j) % 256] := by
          have : j = 0 ∨ j = 1 ∨ j = 2 ∨ j = 3 := by omega
          rcases this with rfl | rfl | rfl | rfl <;> simp [le4]
        exact ⟨j + 1, by omega, by first | rfl | simp, ⟨by rw [ht, ← List.append_assoc]; exact HO2.out⟩, HB2⟩

theorem bits_u32 (o : BinOp) (a b : Int) : 0 ≤ Go.bits o .u32 a b ∧ Go.bits o .u32 a b < 4294967296 := by
  unfold Go.bits
  have h : ∀ n : Int, IntKind.u32.wrap n = n % 4294967296 := IntKind.wrap_u32
  split <;> (rw [h]; omega)
/-- The sum of bytes. -/
def sumF (l : List Int) : Int := andF 0 [l]
theorem sumF_range (l : List Int) : 0 ≤ sumF l ∧ sumF l < 4294967296 := by
  unfold sumF andF inv32
  exact bits_u32 _ _ _
/-- Signed bytes. -/
def signF (l : List Int) : List Int := l ++ le4 (sumF l)
theorem signF_length (l : List Int) : (signF l).length = l.length + 4 := by simp [signF, le4]

set_option maxHeartbeats 1000000 in
set_option maxRecDepth 100000 in
theorem sign_any (A : Option Addr) (c : Nat) (l : List Int) (w : World) (hr : Kd.C (Kd.int .u8) w A l.length l) (hc : l.length ≤ c) (hl : l.length + 4 < 140737488355328) :
    Calls Try.prog 20 #[.slice A l.length c] w fun e w' => ∃ v : Value, e = .returned v ∧ Kd.R (Kd.int .u8) 5 w' w.heap.size (fun _ => True) v (signF l) ∧ Below w.heap.size w w' := by
  have HR := Aside0.mk hr
  clear hr
  have HL := Aside0.mk hl
  clear hl
  have HB := Aside0.mk (below_alloc (Below.refl w.heap.size w) (.cells #[.slice A l.length c] 23))
  go_enter Try.func20, Try.ntmps20
  go_wp2_with (first
    | (go_at_call 16; refine (of_any _ _ [l] _ (lit1_C HR.out hc) (Nat.le_refl _)).mono ?_; rintro e w1 ⟨rfl, hb⟩; have HB1 := Aside0.mk (below_then HB.out HB.out.size hb); clear hb)
    | (go_at_call 21; refine (put_any (sumF l) (sumF_range l).1 (sumF_range l).2 _ _ _ _ (Kd.C_below HR.out HB1.out) hc HL.out).mono ?_; rintro e w2 ⟨v, rfl, ho, hb⟩; have HO := Aside0.mk ho; have HB2 := Aside0.mk (below_then HB1.out HB1.out.size hb); clear ho hb))
  go_ret
  exact ⟨_, rfl, Kd.R_lower HO.out HB1.out.size, HB2.out⟩
end Go.Proofs.Ytonbphiaideleaa.M
