/- crc.Sum.And and crc.Of: the sum goes on over the parts, byte by byte. No condition but that the slices read. -/
import Derived.Test.YtonbphiaideleaaMsteps
import Derived.Test.YtonbphiaideleaaWMore
namespace Go.Proofs.Ytonbphiaideleaa.M
open Go.RowKit Go.Proofs.YtonbphiaideleaaW.PrintWords
set_option linter.unusedVariables false
set_option linter.unusedSimpArgs false

/-- One byte into the register, by the table. -/
def tb (x c : Int) : Int := Go.bits .xor .u32 (x / 256) (stn 8 (Go.bits .xor .u8 (x % 256) c))
def tbs (x : Int) (l : List Int) : Int := l.foldl tb x
def tbss (x : Int) (ls : List (List Int)) : Int := ls.foldl tbs x
def inv32 (x : Int) : Int := Go.bits .xor .u32 IntKind.u32.max x
def andF (s : Int) (ls : List (List Int)) : Int := inv32 (tbss (inv32 s) ls)

def rdL (xs : List (List Int)) (i : Int) : List Int := xs.getD i.toNat []
theorem at_L {w : World} {A : Option Addr} {n : Nat} {xs : List (List Int)} (h : Kd.C (Kd.slice 5 (Kd.int .u8)) w A n xs) (i : Int) (h0 : 0 ≤ i) (h1 : i < n) : ∃ ad A0 c0, A = some ad ∧ w.cell? (ad.add i.toNat) = some (.slice A0 (rdL xs i).length c0) ∧ (rdL xs i).length ≤ c0 ∧ (Kd.int .u8).C w A0 (rdL xs i).length (rdL xs i) := by
  obtain ⟨ad, c, e, _, hK, hc0⟩ := Kd.C_get h ([] : List Int) i h0 h1
  have hc : ∀ j u, c[j]? = some u → w.cell? (ad.add (i.toNat * 1 + j)) = some u := hc0
  obtain ⟨A0, c0, rfl, l0, g0⟩ := hK
  exact ⟨ad, A0, c0, e, by have hq := hc 0 _ rfl; rwa [Nat.mul_one, Nat.add_zero] at hq, l0, g0⟩

theorem bits_u8 (o : BinOp) (a b : Int) : 0 ≤ Go.bits o .u8 a b ∧ Go.bits o .u8 a b < 256 := by
  unfold Go.bits
  have h : ∀ n : Int, IntKind.u8.wrap n = n % 256 := IntKind.wrap_u8
  split <;> (rw [h]; omega)

theorem setRow_alloc2 (w : World) (a : Obj) (c c' : Array Value) (t : TypeId) : ((w.alloc a).alloc (.cells c t)).setRow (w.heap.size + 1) c' = (w.alloc a).alloc (.cells c' t) := by
  have h := World.setRow_alloc_new (w.alloc a) c c' t
  have e : (w.alloc a).heap.size = w.heap.size + 1 := by simp
  rwa [e] at h
theorem tbss_snoc (x : Int) (ls : List (List Int)) (k : Nat) (hk : k < ls.length) : tbss x (ls.take (k + 1)) = tbs (tbss x (ls.take k)) (rdL ls k) := by
  rw [List.take_succ_eq_append_getElem hk]
  rw [tbss, List.foldl_append]
  simp [tbss, rdL, hk]
theorem tbs_snoc (x : Int) (l : List Int) (k : Nat) (hk : k < l.length) : tbs x (l.take (k + 1)) = tb (tbs x (l.take k)) (rd l k) := by
  rw [List.take_succ_eq_append_getElem hk]
  rw [tbs, List.foldl_append]
  simp [tbs, rd, hk]

set_option maxHeartbeats 1000000 in
set_option maxRecDepth 100000 in
theorem and_any (s : Int) (A : Option Addr) (c : Nat) (ls : List (List Int)) (w : World) (hr : Kd.C (Kd.slice 5 (Kd.int .u8)) w A ls.length ls) (hc : ls.length ≤ c) :
    Calls Try.prog 17 #[.int .u32 s, .slice A ls.length c] w fun e w' => e = .returned (.int .u32 (andF s ls)) ∧ Below w.heap.size w w' := by
  have hlen : ls.length ≤ 9223372036854775807 := hr.2.1
  have hz78 := (zero_of_info info78).1
  have hsg : IntKind.u32.signed = false := rfl
  obtain ⟨W, hW⟩ : ∃ W, W = (w.alloc (.cells (tabCells 256) 78)).alloc (.cells (tabCells 256) 78) := ⟨_, rfl⟩
  have hb : Below w.heap.size w W := by rw [hW]; exact below_alloc (below_alloc (Below.refl _ _) _) _
  have hg : W.heap[w.heap.size + 1]? = some (.cells (tabCells 256) 78 (0, 0)) := by
    rw [hW]; have := heap_alloc_last (w.alloc (.cells (tabCells 256) 78)) (.cells (tabCells 256) 78); simpa using this
  have HR := Aside0.mk (Kd.C_below hr hb)
  have HB := Aside0.mk hb
  have HG := Aside0.mk hg
  have HW := Aside0.mk hW
  clear hr hb hg hW
  go_enter Try.func17, Try.ntmps17
  go_wp2_with (first
    | (go_at_call 43; refine (steps_any _).mono ?_; rintro e w1 ⟨rfl, rfl⟩)
    | (refine wpList_store_row rfl 78 (.tmp 6) (.tmp 13) rfl (w.heap.size + 1) (tabCells 256) rfl rfl 78 (Array.replicate 256 (.int .u32 0)) (by have := heap_alloc_last (w.alloc (.cells (tabCells 256) 78)) (.cells (Array.replicate 256 (.int .u32 0)) 78); simpa using this) (by rw [tabCells_size]; exact (zero_of_info info78).2) (by rw [tabCells_size]; simp) (tabCells_one _) ?_; rw [setRow_alloc2, ← HW.out]))
  go_loopg [5, 16] ls.length (fun g s5 s16 wx => ∃ i : Nat, i + g = ls.length ∧ s16 = .int .i64 i ∧ s5 = .int .u32 (tbss (inv32 s) (ls.take i)) ∧ W = wx)
  case atStart => exact ⟨0, by omega, rfl, rfl, rfl⟩
  case round =>
    obtain ⟨i, hig, rfl, rfl, rfl⟩ := hrel
    cases gk with
    | zero =>
      have hi : ¬ (i : Int) < (ls.length : Int) := by omega
      have hii : i = ls.length := by omega
      rw [show ls.take i = ls from List.take_of_length_le (by omega)]
      have HI := Aside0.mk hii
      clear hii
      have hdi : decide (i < ls.length) = false := by simp; omega
      go_wp2
      go_ret
      exact ⟨rfl, HB.out⟩
    | succ g =>
      have hlt : i < ls.length := by omega
      have hi : (i : Int) < (ls.length : Int) := by omega
      obtain ⟨ad, A0, c0, hA, hcell, hc0, hin⟩ := at_L HR.out i (by omega) (by omega)
      obtain ⟨l, hl⟩ : ∃ l, l = rdL ls i := ⟨_, rfl⟩
      rw [← hl] at hcell hc0 hin
      have hll : l.length ≤ 9223372036854775807 := hin.2.1
      obtain ⟨x0, hx0⟩ : ∃ x, x = tbss (inv32 s) (ls.take i) := ⟨_, rfl⟩
      have HS := Aside0.mk (tbss_snoc (inv32 s) ls i hlt)
      rw [← hl, ← hx0] at HS
      rw [← hx0]
      clear hl hx0
      have HN := Aside0.mk hin
      clear hin
      cases hA
      simp only [Int.toNat_natCast] at hcell
      go_wp2
      go_loopg [5, 22] l.length (fun g2 s5 s22 wx => ∃ j : Nat, j + g2 = l.length ∧ s22 = .int .i64 j ∧ s5 = .int .u32 (tbs x0 (l.take j)) ∧ W = wx)
      case atStart => exact ⟨0, by omega, rfl, rfl, rfl⟩
      case round =>
        obtain ⟨j, hjg, rfl, rfl, rfl⟩ := hrel
        cases gk with
        | zero =>
          have hj : ¬ (j : Int) < (l.length : Int) := by omega
          have hdj : decide (j < l.length) = false := by simp; omega
          rw [show l.take j = l from List.take_of_length_le (by omega)]
          go_wp2
          go_roundg g
          case measure => omega
          case rel => exact ⟨i + 1, by omega, by first | rfl | simp, by rw [HS.out], rfl⟩
        | succ g2 =>
          have hjlt : j < l.length := by omega
          have hj : (j : Int) < (l.length : Int) := by omega
          obtain ⟨ad2, hA2, hcell2⟩ := Kd.at_int HN.out j (by omega) (by omega)
          cases hA2
          simp only [Int.toNat_natCast] at hcell2
          have HT := Aside0.mk (tbs_snoc x0 l j hjlt)
          obtain ⟨x1, hx1⟩ : ∃ x, x = tbs x0 (l.take j) := ⟨_, rfl⟩
          obtain ⟨b, hb⟩ : ∃ b, b = rd l j := ⟨_, rfl⟩
          rw [← hx1, ← hb] at HT
          rw [← hx1]
          rw [← hb] at hcell2
          clear hx1 hb
          obtain ⟨y, hy⟩ : ∃ y, Go.bits .xor .u8 (x1 % 256) b = y := ⟨_, rfl⟩
          have hyr := bits_u8 .xor (x1 % 256) b
          rw [hy] at hyr
          obtain ⟨n, hn⟩ := Int.eq_ofNat_of_zero_le hyr.1
          have hn256 : n < 256 := by omega
          have hnc : W.cell? ⟨w.heap.size + 1, n, none⟩ = some (.int .u32 (stn 8 n)) := by
            rw [cell_of_row W _ n _ _ _ HG.out, tabCells_get 256 n hn256, if_pos hn256]
          have HT' : Aside0 (tbs x0 (l.take (j + 1)) = Go.bits .xor .u32 (x1 / 256) (stn 8 n)) := ⟨by rw [HT.out, tb, hy, hn]⟩
          clear HT
          rw [hn] at hy
          have hyn : (n : Int) < 256 := by omega
          clear hyr hn
          go_wp2
          go_roundg g2
          case measure => omega
          case rel => exact ⟨j + 1, by omega, by first | rfl | simp, by rw [HT'.out], rfl⟩

theorem of_any (A : Option Addr) (c : Nat) (ls : List (List Int)) (w : World) (hr : Kd.C (Kd.slice 5 (Kd.int .u8)) w A ls.length ls) (hc : ls.length ≤ c) :
    Calls Try.prog 16 #[.slice A ls.length c] w fun e w' => e = .returned (.int .u32 (andF 0 ls)) ∧ Below w.heap.size w w' := by
  have HR := Aside0.mk hr
  clear hr
  go_enter Try.func16, Try.ntmps16
  go_wp2_with (go_at_call 17; refine (and_any _ _ _ _ _ HR.out hc).mono ?_; rintro e w1 ⟨rfl, hb⟩)
  go_ret
  exact ⟨rfl, hb⟩
end Go.Proofs.Ytonbphiaideleaa.M
