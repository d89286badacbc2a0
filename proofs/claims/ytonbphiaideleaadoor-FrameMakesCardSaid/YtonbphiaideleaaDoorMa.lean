/- The walks that seat D shares with the other one. -/
import Derived.Test.YtonbphiaideleaaDoorProg
import Derived.WalkKit
import Derived.Outline
import Derived.Below
import Derived.Laws.Rows
import Derived.Laws.Tables
import Derived.Laws.World
import Derived.Deep.WholeRow
import Derived.Deep.LoopGhost
import Derived.KernelRfl
import Derived.Test.YtonbphiaideleaaDoorWWords
import Derived.Test.YtonbphiaideleaaDoorWMore
import Derived.WalkSpells
import Derived.Laws.BitsLemmas
import Derived.Test.YtonbphiaideleaaDoorWRepsOne
import Derived.Test.YtonbphiaideleaaDoorWInvWords
import Derived.Test.YtonbphiaideleaaDoorWTab
import Derived.Test.YtonbphiaideleaaDoorWFour
import Derived.BigQuiet
import Derived.Deep.QuietTactic
import Derived.Deep.RegionWith
import Derived.Lib.SlBytesConst
import Derived.ArgAppend
/- The table of the checksum: crc.steps gives back, in memory of its own, what the register comes to by each byte. No condition. -/
namespace Go.Proofs.YtonbphiaideleaaDoor.M
open Go.RowKit Go.Proofs.YtonbphiaideleaaDoorW.PrintWords
set_option linter.unusedVariables false
set_option linter.unusedSimpArgs false

/-- One turn of the register. -/
def st1 (x : Int) : Int := if Go.bits .and .u32 x 1 = 1 then Go.bits .xor .u32 (x / 2) 2197175160 else x / 2
def stn : Nat → Int → Int
  | 0, x => x
  | n + 1, x => stn n (st1 x)
theorem stn_succ (n : Nat) : ∀ x, stn (n + 1) x = st1 (stn n x) := by
  induction n with
  | zero => intro x; rfl
  | succ n ih => intro x; show stn (n + 1) (st1 x) = _; rw [ih]; rfl
def tabCells (k : Nat) : Array Value := ((List.range 256).map fun j => Value.int .u32 (if j < k then stn 8 j else 0)).toArray
theorem tabCells_size (k : Nat) : (tabCells k).size = 256 := by simp [tabCells]
theorem tabCells_zero : Array.replicate 256 (Value.int .u32 0) = tabCells 0 := by
  unfold tabCells
  apply Array.ext
  · simp
  · intro i h1 h2
    simp
theorem tabCells_one (k : Nat) : (tabCells k).all (·.oneCell') = true := by
  simp [tabCells, Value.oneCell']
theorem tabCells_set (k : Nat) : (tabCells k).setIfInBounds k (.int .u32 (stn 8 k)) = tabCells (k + 1) := by
  apply Array.ext
  · simp [tabCells]
  · intro i h1 h2
    rw [Array.getElem_setIfInBounds (by simpa [tabCells] using h1)]
    simp only [tabCells, List.getElem_toArray, List.getElem_map, List.getElem_range]
    split
    · rename_i h; subst h; rw [if_pos (by omega)]
    · rename_i h
      by_cases hi : i < k
      · rw [if_pos hi, if_pos (by omega)]
      · rw [if_neg hi, if_neg (by omega)]
theorem tabCells_get (k j : Nat) (hj : j < 256) : (tabCells k)[j]? = some (.int .u32 (if j < k then stn 8 j else 0)) := by
  simp [tabCells, hj]
theorem info78 : (Tryd.prog.info? 48).map (fun i => (i.zero, i.size)) = some (some (.agg (Array.replicate 256 (.int .u32 0))), 256) := by kernel_rfl

theorem setCell_last (w : World) (c : Array Value) (t : TypeId) (k : Nat) (v : Value) : (w.alloc (.cells c t)).setCell ⟨w.heap.size, k, none⟩ v = w.alloc (.cells (c.setIfInBounds k v) t) := by
  rw [setCell_eq_setRow _ _ k c t (0, 0) v (heap_alloc_last w _), World.setRow_alloc_new]


set_option maxHeartbeats 1000000 in
set_option maxRecDepth 100000 in
theorem steps_any (w : World) : Calls Tryd.prog 21 #[] w fun e w' => e = .returned (.agg (tabCells 256)) ∧ w' = w.alloc (.cells (tabCells 256) 48) := by
  have hz78 := (zero_of_info info78).1
  go_enter Tryd.func21, Tryd.ntmps21
  go_wp2
  rw [tabCells_zero]
  go_loopg [4] 256 (fun g s4 wx => ∃ i : Nat, i + g = 256 ∧ s4 = .int .i64 i ∧ wx = w.alloc (.cells (tabCells i) 48))
  case atStart => exact ⟨0, by omega, rfl, rfl⟩
  case round =>
    obtain ⟨i, hig, rfl, rfl⟩ := hrel
    cases gk with
    | zero =>
      obtain rfl : i = 256 := by omega
      go_wp2_with (first
        | (refine wpList_load_row rfl 48 (.tmp 0) rfl w.heap.size rfl 48 (tabCells 256) (0, 0) _ (heap_alloc_last w _) Tryd.underlying48 rfl (by rw [tabCells_size]; exact (zero_of_info info78).2) ?_)
        | (refine wpList_store_row rfl 48 (.tmp 0) (.tmp 24) rfl w.heap.size (tabCells 256) rfl rfl 48 (tabCells 256) (heap_alloc_last w _) (by rw [tabCells_size]; exact (zero_of_info info78).2) rfl (tabCells_one _) ?_; rw [World.setRow_alloc_new]))
      (try simp only [Exit.inBlock, Exit.then])
      refine bodyPost_ret (v := .agg (tabCells 256)) ?_ rfl ⟨rfl, rfl⟩
      exact results_cell_row Tryd.results21 _ _ w.heap.size 48 (tabCells 256) (0, 0) _ rfl (heap_alloc_last w _) Tryd.underlying48 rfl (by rw [tabCells_size]; exact (zero_of_info info78).2)
    | succ g =>
      have hi : (i : Int) < 256 := by omega
      go_wp2
      go_loopg [2, 3, 9] 8 (fun g2 s2 s3 s9 wx => ∃ j : Nat, j + g2 = 8 ∧ s9 = .int .i64 j ∧ s2 = .int .u32 (stn j i) ∧ wx = w.alloc (.cells (tabCells i) 48))
      case atStart => exact ⟨0, by omega, rfl, rfl, rfl⟩
      case round =>
        obtain ⟨j, hjg, rfl, rfl, rfl⟩ := hrel
        have HS := Aside0.mk (stn_succ j i)
        obtain ⟨x, hx⟩ : ∃ x, x = stn j i := ⟨_, rfl⟩
        rw [← hx] at HS
        rw [← hx]
        have HX := Aside0.mk hx
        clear hx
        cases gk with
        | zero =>
          obtain rfl : j = 8 := by omega
          have hic : (tabCells i)[i]? = some (.int .u32 (if i < i then stn 8 i else 0)) := tabCells_get i i (by omega)
          have hset := setCell_last w (tabCells i) 48 i (.int .u32 x)
          clear HS
          go_wp2
          go_roundg g
          case measure => omega
          case rel => exact ⟨i + 1, by omega, by first | rfl | simp, by rw [HX.out, tabCells_set]⟩
        | succ g2 =>
          have hj : (j : Int) < 8 := by omega
          by_cases hb : (Go.bits .and .u32 x 1 == 1) = true
          · go_wp2
            go_roundg g2
            case measure => omega
            case rel => exact ⟨j + 1, by omega, by first | rfl | simp, by rw [HS.out]; unfold st1; rw [if_pos (beq_iff_eq.mp hb)], rfl⟩
          · have hb' : (Go.bits .and .u32 x 1 == 1) = false := by simpa using hb
            clear hb
            go_wp2
            go_roundg g2
            case measure => omega
            case rel => exact ⟨j + 1, by omega, by first | rfl | simp, by rw [HS.out]; unfold st1; rw [if_neg (by simpa using hb')], rfl⟩
end Go.Proofs.YtonbphiaideleaaDoor.M

/- crc.Sum.And and crc.Of: the sum goes on over the parts, byte by byte. No condition but that the slices read. -/
namespace Go.Proofs.YtonbphiaideleaaDoor.M
open Go.RowKit Go.Proofs.YtonbphiaideleaaDoorW.PrintWords
set_option linter.unusedVariables false
set_option linter.unusedSimpArgs false

/-- One byte into the register, by the table. -/
def tb (x c : Int) : Int := Go.bits .xor .u32 (x / 256) (stn 8 (Go.bits .xor .u8 (x % 256) c))
def tbs (x : Int) (l : List Int) : Int := l.foldl tb x
def tbss (x : Int) (ls : List (List Int)) : Int := ls.foldl tbs x
def inv32 (x : Int) : Int := Go.bits .xor .u32 IntKind.u32.max x
def andF (s : Int) (ls : List (List Int)) : Int := inv32 (tbss (inv32 s) ls)

def rdL (xs : List (List Int)) (i : Int) : List Int := xs.getD i.toNat []
theorem at_L {w : World} {A : Option Addr} {n : Nat} {xs : List (List Int)} (h : Kd.C (Kd.slice 5 (Kd.int .u8)) w A n xs) (i : Int) (h0 : 0 ≤ i) (h1 : i < n) : ∃ ad A0 c0, A = some ad ∧ w.cell? (ad.add i.toNat) = some (.slice A0 (rdL xs i).length c0) ∧ (rdL xs i).length ≤ c0 ∧ (Kd.int .u8).C w A0 (rdL xs i).length (rdL xs i) := by
  obtain ⟨ad, c, e, _, hK, hc0⟩ := Kd.C_get h ([] : List Int) i h0 h1
  have hc : ∀ j u, c[j]? = some u → w.cell? (ad.add (i.toNat * 1 + j)) = some u := hc0
  obtain ⟨A0, c0, rfl, l0, g0⟩ := hK
  exact ⟨ad, A0, c0, e, by have hq := hc 0 _ rfl; rwa [Nat.mul_one, Nat.add_zero] at hq, l0, g0⟩

theorem bits_u8 (o : BinOp) (a b : Int) : 0 ≤ Go.bits o .u8 a b ∧ Go.bits o .u8 a b < 256 := by
  unfold Go.bits
  have h : ∀ n : Int, IntKind.u8.wrap n = n % 256 := IntKind.wrap_u8
  split <;> (rw [h]; omega)

theorem setRow_alloc2 (w : World) (a : Obj) (c c' : Array Value) (t : TypeId) : ((w.alloc a).alloc (.cells c t)).setRow (w.heap.size + 1) c' = (w.alloc a).alloc (.cells c' t) := by
  have h := World.setRow_alloc_new (w.alloc a) c c' t
  have e : (w.alloc a).heap.size = w.heap.size + 1 := by simp
  rwa [e] at h
theorem tbss_snoc (x : Int) (ls : List (List Int)) (k : Nat) (hk : k < ls.length) : tbss x (ls.take (k + 1)) = tbs (tbss x (ls.take k)) (rdL ls k) := by
  rw [List.take_succ_eq_append_getElem hk]
  rw [tbss, List.foldl_append]
  simp [tbss, rdL, hk]
theorem tbs_snoc (x : Int) (l : List Int) (k : Nat) (hk : k < l.length) : tbs x (l.take (k + 1)) = tb (tbs x (l.take k)) (rd l k) := by
  rw [List.take_succ_eq_append_getElem hk]
  rw [tbs, List.foldl_append]
  simp [tbs, rd, hk]

set_option maxHeartbeats 1000000 in
set_option maxRecDepth 100000 in
theorem and_any (s : Int) (A : Option Addr) (c : Nat) (ls : List (List Int)) (w : World) (hr : Kd.C (Kd.slice 5 (Kd.int .u8)) w A ls.length ls) (hc : ls.length ≤ c) :
    Calls Tryd.prog 19 #[.int .u32 s, .slice A ls.length c] w fun e w' => e = .returned (.int .u32 (andF s ls)) ∧ Below w.heap.size w w' := by
  have hlen : ls.length ≤ 9223372036854775807 := hr.2.1
  have hz78 := (zero_of_info info78).1
  have hsg : IntKind.u32.signed = false := rfl
  obtain ⟨W, hW⟩ : ∃ W, W = (w.alloc (.cells (tabCells 256) 48)).alloc (.cells (tabCells 256) 48) := ⟨_, rfl⟩
  have hb : Below w.heap.size w W := by rw [hW]; exact below_alloc (below_alloc (Below.refl _ _) _) _
  have hg : W.heap[w.heap.size + 1]? = some (.cells (tabCells 256) 48 (0, 0)) := by
    rw [hW]; have := heap_alloc_last (w.alloc (.cells (tabCells 256) 48)) (.cells (tabCells 256) 48); simpa using this
  have HR := Aside0.mk (Kd.C_below hr hb)
  have HB := Aside0.mk hb
  have HG := Aside0.mk hg
  have HW := Aside0.mk hW
  clear hr hb hg hW
  go_enter Tryd.func19, Tryd.ntmps19
  go_wp2_with (first
    | (go_at_call 21; refine (steps_any _).mono ?_; rintro e w1 ⟨rfl, rfl⟩)
    | (refine wpList_store_row rfl 48 (.tmp 6) (.tmp 13) rfl (w.heap.size + 1) (tabCells 256) rfl rfl 48 (Array.replicate 256 (.int .u32 0)) (by have := heap_alloc_last (w.alloc (.cells (tabCells 256) 48)) (.cells (Array.replicate 256 (.int .u32 0)) 48); simpa using this) (by rw [tabCells_size]; exact (zero_of_info info78).2) (by rw [tabCells_size]; simp) (tabCells_one _) ?_; rw [setRow_alloc2, ← HW.out]))
  go_loopg [5, 16] ls.length (fun g s5 s16 wx => ∃ i : Nat, i + g = ls.length ∧ s16 = .int .i64 i ∧ s5 = .int .u32 (tbss (inv32 s) (ls.take i)) ∧ W = wx)
  case atStart => exact ⟨0, by omega, rfl, rfl, rfl⟩
  case round =>
    obtain ⟨i, hig, rfl, rfl, rfl⟩ := hrel
    cases gk with
    | zero =>
      have hi : ¬ (i : Int) < (ls.length : Int) := by omega
      have hii : i = ls.length := by omega
      rw [show ls.take i = ls from List.take_of_length_le (by omega)]
      have HI := Aside0.mk hii
      clear hii
      have hdi : decide (i < ls.length) = false := by simp; omega
      go_wp2
      go_ret
      exact ⟨rfl, HB.out⟩
    | succ g =>
      have hlt : i < ls.length := by omega
      have hi : (i : Int) < (ls.length : Int) := by omega
      obtain ⟨ad, A0, c0, hA, hcell, hc0, hin⟩ := at_L HR.out i (by omega) (by omega)
      obtain ⟨l, hl⟩ : ∃ l, l = rdL ls i := ⟨_, rfl⟩
      rw [← hl] at hcell hc0 hin
      have hll : l.length ≤ 9223372036854775807 := hin.2.1
      obtain ⟨x0, hx0⟩ : ∃ x, x = tbss (inv32 s) (ls.take i) := ⟨_, rfl⟩
      have HS := Aside0.mk (tbss_snoc (inv32 s) ls i hlt)
      rw [← hl, ← hx0] at HS
      rw [← hx0]
      clear hl hx0
      have HN := Aside0.mk hin
      clear hin
      cases hA
      simp only [Int.toNat_natCast] at hcell
      go_wp2
      go_loopg [5, 22] l.length (fun g2 s5 s22 wx => ∃ j : Nat, j + g2 = l.length ∧ s22 = .int .i64 j ∧ s5 = .int .u32 (tbs x0 (l.take j)) ∧ W = wx)
      case atStart => exact ⟨0, by omega, rfl, rfl, rfl⟩
      case round =>
        obtain ⟨j, hjg, rfl, rfl, rfl⟩ := hrel
        cases gk with
        | zero =>
          have hj : ¬ (j : Int) < (l.length : Int) := by omega
          have hdj : decide (j < l.length) = false := by simp; omega
          rw [show l.take j = l from List.take_of_length_le (by omega)]
          go_wp2
          go_roundg g
          case measure => omega
          case rel => exact ⟨i + 1, by omega, by first | rfl | simp, by rw [HS.out], rfl⟩
        | succ g2 =>
          have hjlt : j < l.length := by omega
          have hj : (j : Int) < (l.length : Int) := by omega
          obtain ⟨ad2, hA2, hcell2⟩ := Kd.at_int HN.out j (by omega) (by omega)
          cases hA2
          simp only [Int.toNat_natCast] at hcell2
          have HT := Aside0.mk (tbs_snoc x0 l j hjlt)
          obtain ⟨x1, hx1⟩ : ∃ x, x = tbs x0 (l.take j) := ⟨_, rfl⟩
          obtain ⟨b, hb⟩ : ∃ b, b = rd l j := ⟨_, rfl⟩
          rw [← hx1, ← hb] at HT
          rw [← hx1]
          rw [← hb] at hcell2
          clear hx1 hb
          obtain ⟨y, hy⟩ : ∃ y, Go.bits .xor .u8 (x1 % 256) b = y := ⟨_, rfl⟩
          have hyr := bits_u8 .xor (x1 % 256) b
          rw [hy] at hyr
          obtain ⟨n, hn⟩ := Int.eq_ofNat_of_zero_le hyr.1
          have hn256 : n < 256 := by omega
          have hnc : W.cell? ⟨w.heap.size + 1, n, none⟩ = some (.int .u32 (stn 8 n)) := by
            rw [cell_of_row W _ n _ _ _ HG.out, tabCells_get 256 n hn256, if_pos hn256]
          have HT' : Aside0 (tbs x0 (l.take (j + 1)) = Go.bits .xor .u32 (x1 / 256) (stn 8 n)) := ⟨by rw [HT.out, tb, hy, hn]⟩
          clear HT
          rw [hn] at hy
          have hyn : (n : Int) < 256 := by omega
          clear hyr hn
          go_wp2
          go_roundg g2
          case measure => omega
          case rel => exact ⟨j + 1, by omega, by first | rfl | simp, by rw [HT'.out], rfl⟩

theorem of_any (A : Option Addr) (c : Nat) (ls : List (List Int)) (w : World) (hr : Kd.C (Kd.slice 5 (Kd.int .u8)) w A ls.length ls) (hc : ls.length ≤ c) :
    Calls Tryd.prog 16 #[.slice A ls.length c] w fun e w' => e = .returned (.int .u32 (andF 0 ls)) ∧ Below w.heap.size w w' := by
  have HR := Aside0.mk hr
  clear hr
  go_enter Tryd.func16, Tryd.ntmps16
  go_wp2_with (go_at_call 19; refine (and_any _ _ _ _ _ HR.out hc).mono ?_; rintro e w1 ⟨rfl, hb⟩)
  go_ret
  exact ⟨rfl, hb⟩
end Go.Proofs.YtonbphiaideleaaDoor.M

/- bytes.Clone: a slice of bytes in memory of its own that reads as the one that came in. -/
namespace Go.Proofs.YtonbphiaideleaaDoor.M
open Go.RowKit Go.Proofs.YtonbphiaideleaaDoorW.PrintWords
set_option linter.unusedVariables false
set_option linter.unusedSimpArgs false
theorem info5 : (Tryd.prog.info? 5).map (fun i => (i.zero, i.size, i.bytes)) = some (some (.int .u8 0), 1, 1) := by kernel_rfl

set_option maxHeartbeats 1000000 in
set_option maxRecDepth 100000 in
theorem clone_any (A : Option Addr) (c : Nat) (l : List Int) (w : World) (hr : Kd.C (Kd.int .u8) w A l.length l) (hc : l.length ≤ c) (hl : l.length < 140737488355328) :
    Calls Tryd.prog 20 #[.slice A l.length c] w fun e w' => ∃ v : Value, e = .returned v ∧ Kd.R (Kd.int .u8) 5 w' w.heap.size (fun _ => True) v l ∧ Below w.heap.size w w' := by
  have HR := Aside0.mk hr
  clear hr
  have HL := Aside0.mk hl
  clear hl
  have HB := Aside0.mk (Below.refl w.heap.size w)
  rcases A with _ | ad
  · have h0 : l = [] := by
      rcases l with _ | ⟨x, l⟩
      · rfl
      · obtain ⟨ad, h, _⟩ := HR.out.2.2 (by simp)
        cases h
    subst h0
    have heq := fun W : World => Lib.run_eql_slice_nil (P := Tryd.prog) W 22 5 none 0 c 0 0 Tryd.underlying22
    go_enter Tryd.func20, Tryd.ntmps20
    go_wp2
    go_ret
    exact ⟨_, rfl, Kd.R_nil _ _ _ _ _, HB.out⟩
  · have heq := fun W : World => Lib.run_eql_slice_nil (P := Tryd.prog) W 22 5 (some ad) l.length c 0 0 Tryd.underlying22
    go_enter Tryd.func20, Tryd.ntmps20
    go_wp2_with (first
      | ((with_reducible refine gate_dst (N := 5) rfl ?_); refine Kd.R_lit (Kd.int .u8) _ 5 ?hg (N := 5) ?hd (xs := ([] : List Int)) (inner := []) (ok := fun _ => True) (okp := fun _ => True) ?hr ?hp (fun _ hk => hk) trivial (Below.refl _ _) (Nat.le_refl _) (by simp) ?_; (case hd => rfl); (case hg => rfl); (case hr => first | (go_simp; done) | (go_simp; rfl)); (case hp => exact (Reps.none _ _)); intro v1 w1 ho hb hg_ hnew_; have HO := Aside0.mk ho; have HB1 := Aside0.mk hb; clear hg_ hnew_ ho hb)
      | ((with_reducible refine gate_builtin (b := .append) (xs := #[.tmp 5, .tmp 6]) rfl ?_); at_builtin; refine Kd.R_append_rows (Kd.int .u8) (w0 := w) w.heap.size rfl (.tmp 5) (.tmp 6) 22 5 (.int .u8 0) 1 rfl Tryd.underlying22 info5 rfl (by decide) (by omega) v1 [] l _ _ _ (fun _ => True) (fun _ => False) rfl rfl HO.out (Kd.C_below HR.out HB1.out) (fun _ _ h => h) (fun _ h => h.elim) (fun _ _ => trivial) HB1.out HB1.out.size (by have := HL.out; simp only [List.length_nil]; omega) ?_; intro v2 w2 ho hb hg hat; have HO2 := Aside0.mk ho; have HB2 := Aside0.mk hb; clear ho hb hg hat))
    go_ret
    exact ⟨_, rfl, by simpa using HO2.out, HB2.out⟩
end Go.Proofs.YtonbphiaideleaaDoor.M

/- crc.Put, crc.Sign, crc.Signed by hand. -/
namespace Go.Proofs.YtonbphiaideleaaDoor.M
open Go.RowKit Go.Proofs.YtonbphiaideleaaDoorW.PrintWords
set_option linter.unusedVariables false
set_option linter.unusedSimpArgs false

/-- The four bytes of a sum, the lowest first. -/
def le4 (s : Int) : List Int := [s % 256, s / 256 % 256, s / 65536 % 256, s / 16777216 % 256]

/-- One row in a literal of rows. -/
theorem lit1_C {w : World} {A : Option Addr} {c : Nat} {l : List Int} (hr : Kd.C (Kd.int .u8) w A l.length l) (hc : l.length ≤ c) :
    Kd.C (Kd.slice 5 (Kd.int .u8)) (w.alloc (.cells #[.slice A l.length c] 22)) (some ⟨w.heap.size, 0, none⟩) [l].length [l] := by
  refine ⟨rfl, by simp, fun _ => ⟨_, rfl, fun j p hj => ?_⟩⟩
  rcases j with _ | j
  · obtain rfl : l = p := by simpa using hj
    refine ⟨[.slice A l.length c], rfl, ⟨A, c, rfl, hc, Kd.C_below hr (below_alloc (Below.refl _ _) _)⟩, fun i u hi => ?_⟩
    rcases i with _ | i
    · obtain rfl : Value.slice A l.length c = u := by simpa using hi
      simp only [Kd.slice, Nat.zero_mul, Nat.add_zero, add_plain]
      rw [cell_of_row _ _ 0 _ _ _ (heap_alloc_last w _)]
      rfl
    · simp at hi
  · simp at hj

set_option maxHeartbeats 1000000 in
set_option maxRecDepth 100000 in
theorem put_any (s : Int) (hs : 0 ≤ s) (hs2 : s < 4294967296) (A : Option Addr) (c : Nat) (l : List Int) (w : World) (hr : Kd.C (Kd.int .u8) w A l.length l) (hc : l.length ≤ c) (hl : l.length + 4 < 140737488355328) :
    Calls Tryd.prog 17 #[.int .u32 s, .slice A l.length c] w fun e w' => ∃ v : Value, e = .returned v ∧ Kd.R (Kd.int .u8) 5 w' w.heap.size (fun _ => True) v (l ++ le4 s) ∧ Below w.heap.size w w' := by
  have HR := Aside0.mk hr
  clear hr
  have HL := Aside0.mk hl
  have HL2 := Aside0.mk (show l.length < 140737488355328 by omega)
  clear hl
  have HB := Aside0.mk (Below.refl w.heap.size w)
  go_enter Tryd.func17, Tryd.ntmps17
  go_wp2_with (go_at_call 20; refine (clone_any _ _ _ _ HR.out hc HL2.out).mono ?_; rintro e w1 ⟨v, rfl, ho, hb⟩; have HO := Aside0.mk ho; have HB1 := Aside0.mk hb; clear ho hb)
  go_loopg [5, 9] 4 (fun g s5 s9 wx => ∃ j : Nat, j + g = 4 ∧ s9 = .int .i64 j ∧ Aside0 (Kd.R (Kd.int .u8) 5 wx w.heap.size (fun _ => True) s5 (l ++ (le4 s).take j)) ∧ Aside0 (Below w.heap.size w wx))
  case atStart => exact ⟨0, by omega, rfl, ⟨by simpa using HO.out⟩, HB1⟩
  case round =>
    clear HO HB1
    obtain ⟨j, hjg, rfl, HO, HB1⟩ := hrel
    cases gk with
    | zero =>
      obtain rfl : j = 4 := by omega
      go_wp2
      go_ret
      exact ⟨_, rfl, by simpa [le4] using HO.out, HB1.out⟩
    | succ g =>
      have hj : (j : Int) < 4 := by omega
      have hj0 : j < 4 := by omega
      have hlen : (l ++ (le4 s).take j).length + 1 ≤ 140737488355328 := by have := HL.out; simp only [List.length_append, List.length_take]; omega
      have HN := Aside0.mk hlen
      clear hlen
      go_wp2_with (((with_reducible refine gate_builtin (b := .append) (xs := #[.tmp 12, .tmp 18]) rfl ?_); at_builtin; refine Kd.R_append (Kd.int .u8) (w0 := w) w.heap.size rfl (.tmp 12) (.tmp 18) 22 5 (.int .u8 0) 1 rfl Tryd.underlying22 info5 rfl (by decide) (by omega) _ (l ++ (le4 s).take j) (s / 2 ^ (8 * j) % 256) [.int .u8 (s / 2 ^ (8 * j) % 256)] (fun _ => True) (fun _ => False) rfl rfl rfl (fun _ hk => hk.elim) (fun _ _ => trivial) HO.out HB1.out HB1.out.size (by have := HN.out; omega) ?_; intro v2 w2 ho hb hg hat; have HO2 := Aside0.mk ho; have HB2 := Aside0.mk hb; clear ho hb hg hat))
      go_roundg g
      case measure => omega
      case rel =>
        have ht : (le4 s).take (j + 1) = (le4 s).take j ++ [s / 2 ^ (8 * j) % 256] := by
          have : j = 0 ∨ j = 1 ∨ j = 2 ∨ j = 3 := by omega
          rcases this with rfl | rfl | rfl | rfl <;> simp [le4]
        exact ⟨j + 1, by omega, by first | rfl | simp, ⟨by rw [ht, ← List.append_assoc]; exact HO2.out⟩, HB2⟩

theorem bits_u32 (o : BinOp) (a b : Int) : 0 ≤ Go.bits o .u32 a b ∧ Go.bits o .u32 a b < 4294967296 := by
  unfold Go.bits
  have h : ∀ n : Int, IntKind.u32.wrap n = n % 4294967296 := IntKind.wrap_u32
  split <;> (rw [h]; omega)
/-- The sum of bytes. -/
def sumF (l : List Int) : Int := andF 0 [l]
theorem sumF_range (l : List Int) : 0 ≤ sumF l ∧ sumF l < 4294967296 := by
  unfold sumF andF inv32
  exact bits_u32 _ _ _
/-- Signed bytes. -/
def signF (l : List Int) : List Int := l ++ le4 (sumF l)
theorem signF_length (l : List Int) : (signF l).length = l.length + 4 := by simp [signF, le4]

set_option maxHeartbeats 1000000 in
set_option maxRecDepth 100000 in
theorem sign_any (A : Option Addr) (c : Nat) (l : List Int) (w : World) (hr : Kd.C (Kd.int .u8) w A l.length l) (hc : l.length ≤ c) (hl : l.length + 4 < 140737488355328) :
    Calls Tryd.prog 12 #[.slice A l.length c] w fun e w' => ∃ v : Value, e = .returned v ∧ Kd.R (Kd.int .u8) 5 w' w.heap.size (fun _ => True) v (signF l) ∧ Below w.heap.size w w' := by
  have HR := Aside0.mk hr
  clear hr
  have HL := Aside0.mk hl
  clear hl
  have HB := Aside0.mk (below_alloc (Below.refl w.heap.size w) (.cells #[.slice A l.length c] 22))
  go_enter Tryd.func12, Tryd.ntmps12
  go_wp2_with (first
    | (go_at_call 16; refine (of_any _ _ [l] _ (lit1_C HR.out hc) (Nat.le_refl _)).mono ?_; rintro e w1 ⟨rfl, hb⟩; have HB1 := Aside0.mk (below_then HB.out HB.out.size hb); clear hb)
    | (go_at_call 17; refine (put_any (sumF l) (sumF_range l).1 (sumF_range l).2 _ _ _ _ (Kd.C_below HR.out HB1.out) hc HL.out).mono ?_; rintro e w2 ⟨v, rfl, ho, hb⟩; have HO := Aside0.mk ho; have HB2 := Aside0.mk (below_then HB1.out HB1.out.size hb); clear ho hb))
  go_ret
  exact ⟨_, rfl, Kd.R_lower HO.out HB1.out.size, HB2.out⟩
end Go.Proofs.YtonbphiaideleaaDoor.M

/- The plain law of the checksum: the register as a linear map on numbers; no Go in it. -/
namespace Go.Proofs.YtonbphiaideleaaDoor.M
open Go

/-! ### 1. The register -/
def poly : Nat := 2197175160
def T (x : Nat) : Nat := x / 2 ^^^ (if x % 2 = 1 then poly else 0)
def Tn : Nat → Nat → Nat
  | 0, x => x
  | n + 1, x => T (Tn n x)

theorem xor_div_two (a b : Nat) : (a ^^^ b) / 2 = a / 2 ^^^ b / 2 := by
  have := Nat.shiftRight_xor_distrib (a := a) (b := b) (i := 1)
  simpa [Nat.shiftRight_eq_div_pow] using this
theorem xor_div_pow (a b n : Nat) : (a ^^^ b) / 2 ^ n = a / 2 ^ n ^^^ b / 2 ^ n := by
  have := Nat.shiftRight_xor_distrib (a := a) (b := b) (i := n)
  simpa [Nat.shiftRight_eq_div_pow] using this
theorem xor_mod_two (a b : Nat) : (a ^^^ b) % 2 = (a % 2) ^^^ (b % 2) := by
  have := Nat.xor_mod_two_pow (a := a) (b := b) (n := 1)
  simpa using this
theorem T_xor (a b : Nat) : T (a ^^^ b) = T a ^^^ T b := by
  unfold T
  rw [xor_div_two, xor_mod_two]
  have h : ∀ p q r s : Nat, (p ^^^ q) ^^^ (r ^^^ s) = (p ^^^ r) ^^^ (q ^^^ s) := by
    intro p q r s
    rw [Nat.xor_assoc, Nat.xor_assoc, ← Nat.xor_assoc q r s, Nat.xor_comm q r, Nat.xor_assoc r q s]
  rcases Nat.mod_two_eq_zero_or_one a with ha | ha <;> rcases Nat.mod_two_eq_zero_or_one b with hb | hb
  · simp [ha, hb]
  · simp only [ha, hb, Nat.zero_xor, if_true]
    simp [Nat.xor_assoc]
  · simp only [ha, hb, Nat.xor_zero, if_true]
    rw [if_neg (by decide), Nat.xor_zero, Nat.xor_assoc, Nat.xor_comm (b / 2), ← Nat.xor_assoc]
  · simp only [ha, hb, Nat.xor_self, if_true]
    rw [h]
    simp
theorem T_zero : T 0 = 0 := by simp [T]
theorem Tn_zero (n : Nat) : Tn n 0 = 0 := by
  induction n with
  | zero => rfl
  | succ n ih => rw [Tn, ih, T_zero]
theorem Tn_xor (n a b : Nat) : Tn n (a ^^^ b) = Tn n a ^^^ Tn n b := by
  induction n with
  | zero => rfl
  | succ n ih => rw [Tn, ih, T_xor]; rfl
theorem Tn_add (n m x : Nat) : Tn (n + m) x = Tn n (Tn m x) := by
  induction n with
  | zero => simp [Tn]
  | succ n ih => rw [Nat.succ_add, Tn, ih]; rfl
theorem T_even {x : Nat} (h : x % 2 = 0) : T x = x / 2 := by simp [T, h]
theorem Tn_mul (n y : Nat) : Tn n (y * 2 ^ n) = y := by
  induction n generalizing y with
  | zero => simp [Tn]
  | succ n ih =>
    rw [Tn, Nat.pow_succ, ← Nat.mul_assoc, Nat.mul_right_comm, ih, T_even (by omega)]
    omega
theorem Tn_join (n m x y : Nat) : Tn n (Tn m x ^^^ y) = Tn (n + m) (x ^^^ y * 2 ^ m) := by
  rw [Tn_add, Tn_xor m, Tn_mul]
/-- Disjoint bits. -/
theorem xor_add {n a b : Nat} (h : a < 2 ^ n) : a ^^^ b * 2 ^ n = a + b * 2 ^ n := by
  have h1 : (a ^^^ b * 2 ^ n) / 2 ^ n = b := by
    rw [xor_div_pow, Nat.div_eq_of_lt h, Nat.zero_xor, Nat.mul_div_cancel _ (Nat.two_pow_pos n)]
  have h2 : (a ^^^ b * 2 ^ n) % 2 ^ n = a := by
    rw [Nat.xor_mod_two_pow, Nat.mod_eq_of_lt h, Nat.mul_mod_left, Nat.xor_zero]
  have h3 := Nat.div_add_mod (a ^^^ b * 2 ^ n) (2 ^ n)
  rw [h1, h2, Nat.mul_comm] at h3
  omega

theorem poly_lt : poly < 2 ^ 32 := by decide
theorem T_lt {x : Nat} (h : x < 2 ^ 32) : T x < 2 ^ 32 := by
  unfold T
  refine Nat.xor_lt_two_pow (by omega) ?_
  split
  · exact poly_lt
  · decide
theorem Tn_lt {n x : Nat} (h : x < 2 ^ 32) : Tn n x < 2 ^ 32 := by
  induction n with
  | zero => exact h
  | succ n ih => exact T_lt ih
theorem eq_of_xor {a b : Nat} (h : a ^^^ b = 0) : a = b := by
  have : (a ^^^ b) ^^^ b = b := by rw [h, Nat.zero_xor]
  rwa [Nat.xor_assoc, Nat.xor_self, Nat.xor_zero] at this
theorem T_inj {x : Nat} (h : x < 2 ^ 32) (h0 : T x = 0) : x = 0 := by
  unfold T at h0
  have h1 := eq_of_xor h0
  rcases Nat.mod_two_eq_zero_or_one x with hx | hx
  · rw [if_neg (by omega)] at h1; omega
  · rw [if_pos hx] at h1
    unfold poly at h1
    omega
theorem Tn_inj {n x : Nat} (h : x < 2 ^ 32) (h0 : Tn n x = 0) : x = 0 := by
  induction n with
  | zero => exact h0
  | succ n ih => exact ih (T_inj (Tn_lt h) h0)

/-! ### 2. Bytes -/
def Byt (l : List Int) : Prop := ∀ x ∈ l, 0 ≤ x ∧ x < 256
def val : List Int → Nat
  | [] => 0
  | c :: l => c.toNat + 256 * val l
def reg (x : Nat) (l : List Int) : Nat := l.foldl (fun x c => Tn 8 (x ^^^ c.toNat)) x
theorem Byt.nil : Byt [] := fun _ h => by cases h
theorem Byt.cons {c : Int} {l : List Int} (h : Byt (c :: l)) : (0 ≤ c ∧ c < 256) ∧ Byt l := ⟨h c (by simp), fun x hx => h x (by simp [hx])⟩
theorem Byt.append {l m : List Int} (h : Byt l) (h2 : Byt m) : Byt (l ++ m) := fun x hx => by
  rcases List.mem_append.1 hx with h' | h'
  · exact h x h'
  · exact h2 x h'
theorem Byt.take {l : List Int} (h : Byt l) (n : Nat) : Byt (l.take n) := fun x hx => h x (List.mem_of_mem_take hx)
theorem Byt.drop {l : List Int} (h : Byt l) (n : Nat) : Byt (l.drop n) := fun x hx => h x (List.mem_of_mem_drop hx)
theorem val_lt {l : List Int} (h : Byt l) : val l < 2 ^ (8 * l.length) := by
  induction l with
  | nil => simp [val]
  | cons c l ih =>
    obtain ⟨hc, hl⟩ := h.cons
    have := ih hl
    simp only [val, List.length_cons]
    have e : 2 ^ (8 * (l.length + 1)) = 256 * 2 ^ (8 * l.length) := by rw [Nat.mul_add, Nat.pow_add]; omega
    omega
theorem val_inj {l m : List Int} (hl : Byt l) (hm : Byt m) (hlen : l.length = m.length) (h : val l = val m) : l = m := by
  induction l generalizing m with
  | nil => cases m with
    | nil => rfl
    | cons _ _ => simp at hlen
  | cons c l ih =>
    cases m with
    | nil => simp at hlen
    | cons d m =>
      obtain ⟨hc, hl⟩ := hl.cons
      obtain ⟨hd, hm⟩ := hm.cons
      simp only [val] at h
      have h1 : c = d := by omega
      have h2 : val l = val m := by omega
      rw [h1, ih hl hm (by simpa using hlen) h2]
theorem val_append {l m : List Int} : val (l ++ m) = val l + val m * 2 ^ (8 * l.length) := by
  induction l with
  | nil => simp [val]
  | cons c l ih =>
    simp only [List.cons_append, val, ih, List.length_cons]
    have e : 2 ^ (8 * (l.length + 1)) = 256 * 2 ^ (8 * l.length) := by rw [Nat.mul_add, Nat.pow_add]; omega
    rw [e, Nat.mul_add, Nat.mul_left_comm]
    omega
theorem reg_append (x : Nat) (l m : List Int) : reg x (l ++ m) = reg (reg x l) m := by simp [reg]
theorem reg_val {x : Nat} {l : List Int} (h : Byt l) : reg x l = Tn (8 * l.length) (x ^^^ val l) := by
  induction l generalizing x with
  | nil => simp [reg, val, Tn]
  | cons c l ih =>
    obtain ⟨hc, hl⟩ := h.cons
    have e : reg x (c :: l) = reg (Tn 8 (x ^^^ c.toNat)) l := rfl
    rw [e, ih hl, Tn_join, Nat.xor_assoc, xor_add (n := 8) (by omega)]
    simp only [val, List.length_cons]
    rw [show 8 * (l.length + 1) = 8 * l.length + 8 from by omega, Nat.mul_comm 256]
theorem reg_lt {x : Nat} {l : List Int} (hx : x < 2 ^ 32) (h : Byt l) : reg x l < 2 ^ 32 := by
  induction l generalizing x with
  | nil => exact hx
  | cons c l ih =>
    obtain ⟨hc, hl⟩ := h.cons
    exact ih (Tn_lt (Nat.xor_lt_two_pow hx (by omega))) hl
end Go.Proofs.YtonbphiaideleaaDoor.M

/- What the walks compute, told by the register on numbers. -/
namespace Go.Proofs.YtonbphiaideleaaDoor.M
open Go.RowKit Go.Proofs.YtonbphiaideleaaDoorW.PrintWords
set_option linter.unusedVariables false
set_option linter.unusedSimpArgs false

def F32 : Nat := 4294967295
theorem F32_eq : F32 = 2 ^ 32 - 1 := by decide
theorem F32_lt : F32 < 2 ^ 32 := by decide
theorem bits_xor (k : IntKind) {a b : Nat} (ha : a < 2 ^ k.bits) (hb : b < 2 ^ k.bits) : Go.bits .xor k (a : Int) (b : Int) = k.wrap ((a ^^^ b : Nat) : Int) := by
  simp only [Go.bits, BitVec.ofInt_natCast, BitVec.toNat_xor, BitVec.toNat_ofNat, Nat.mod_eq_of_lt ha, Nat.mod_eq_of_lt hb]
theorem bits_xor_u32 {a b : Nat} (ha : a < 2 ^ 32) (hb : b < 2 ^ 32) : Go.bits .xor .u32 (a : Int) (b : Int) = ((a ^^^ b : Nat) : Int) := by
  have hx := Nat.xor_lt_two_pow ha hb
  rw [bits_xor .u32 ha hb, IntKind.wrap_u32]
  omega
theorem bits_xor_u8 {a b : Nat} (ha : a < 2 ^ 8) (hb : b < 2 ^ 8) : Go.bits .xor .u8 (a : Int) (b : Int) = ((a ^^^ b : Nat) : Int) := by
  have hx := Nat.xor_lt_two_pow ha hb
  rw [bits_xor .u8 ha hb, IntKind.wrap_u8]
  omega
theorem bits_and_u32 {a : Nat} (ha : a < 2 ^ 32) : Go.bits .and .u32 (a : Int) 1 = ((a % 2 : Nat) : Int) := by
  have h := (bits_nat .u32 32 (by decide) (fun n h0 h1 => by rw [IntKind.wrap_u32]; omega) a 1 ha (by decide)).1
  rw [show (1 : Int) = ((1 : Nat) : Int) from rfl, h, Nat.and_one_is_mod]
theorem st1_T {x : Nat} (h : x < 2 ^ 32) : st1 (x : Int) = ((T x : Nat) : Int) := by
  unfold st1 T
  rw [bits_and_u32 h]
  rcases Nat.mod_two_eq_zero_or_one x with hx | hx
  · rw [hx, if_neg (by decide), if_neg (by decide), Nat.xor_zero]; omega
  · rw [hx, if_pos (by decide), if_pos rfl, show (x : Int) / 2 = ((x / 2 : Nat) : Int) from by omega, show (2197175160 : Int) = ((poly : Nat) : Int) from rfl]
    exact bits_xor_u32 (by omega) poly_lt
theorem stn_T (n : Nat) {x : Nat} (h : x < 2 ^ 32) : stn n (x : Int) = ((Tn n x : Nat) : Int) := by
  induction n with
  | zero => rfl
  | succ n ih => rw [stn_succ, ih, st1_T (Tn_lt h)]; rfl
theorem tb_T {x : Nat} (h : x < 2 ^ 32) {c : Int} (h0 : 0 ≤ c) (h1 : c < 256) : tb (x : Int) c = ((Tn 8 (x ^^^ c.toNat) : Nat) : Int) := by
  obtain ⟨c, rfl⟩ := Int.eq_ofNat_of_zero_le h0
  simp only [Int.toNat_natCast]
  have hc : c < 256 := by omega
  unfold tb
  rw [show (x : Int) / 256 = ((x / 256 : Nat) : Int) from by omega, show (x : Int) % 256 = ((x % 256 : Nat) : Int) from by omega,
    bits_xor_u8 (by omega) (by omega)]
  have hy : x % 256 ^^^ c < 2 ^ 8 := Nat.xor_lt_two_pow (by omega) (by omega)
  rw [stn_T 8 (by omega), bits_xor_u32 (by omega) (Tn_lt (by omega))]
  congr 1
  have e : x = x % 256 ^^^ (x / 256) * 2 ^ 8 := by rw [xor_add (by omega)]; omega
  have e2 : x ^^^ c = (x % 256 ^^^ c) ^^^ (x / 256) * 2 ^ 8 := by
    rw [Nat.xor_assoc, Nat.xor_comm c, ← Nat.xor_assoc, ← e]
  rw [e2, Tn_xor 8 (x % 256 ^^^ c), Tn_mul, Nat.xor_comm]
theorem tbs_reg {x : Nat} (h : x < 2 ^ 32) {l : List Int} (hl : Byt l) : tbs (x : Int) l = ((reg x l : Nat) : Int) := by
  induction l generalizing x with
  | nil => rfl
  | cons c l ih =>
    obtain ⟨hc, hl⟩ := hl.cons
    have e : tbs (x : Int) (c :: l) = tbs (tb x c) l := rfl
    rw [e, tb_T h hc.1 hc.2, ih (Tn_lt (Nat.xor_lt_two_pow h (by omega))) hl]
    rfl
theorem tbss_reg {x : Nat} (h : x < 2 ^ 32) {ls : List (List Int)} (hl : ∀ l ∈ ls, Byt l) : tbss (x : Int) ls = ((reg x ls.flatten : Nat) : Int) := by
  induction ls generalizing x with
  | nil => rfl
  | cons l ls ih =>
    have e : tbss (x : Int) (l :: ls) = tbss (tbs x l) ls := rfl
    rw [e, tbs_reg h (hl l (by simp)), ih (reg_lt h (hl l (by simp))) (fun m hm => hl m (by simp [hm])), List.flatten_cons, reg_append]
theorem inv32_nat {x : Nat} (h : x < 2 ^ 32) : inv32 (x : Int) = ((F32 ^^^ x : Nat) : Int) := by
  unfold inv32
  rw [show IntKind.u32.max = ((F32 : Nat) : Int) from by decide]
  exact bits_xor_u32 F32_lt h
/-- The sum goes on from s. -/
def crcN (s : Nat) (l : List Int) : Nat := F32 ^^^ reg (F32 ^^^ s) l
theorem crcN_lt {s : Nat} (h : s < 2 ^ 32) {l : List Int} (hl : Byt l) : crcN s l < 2 ^ 32 := Nat.xor_lt_two_pow F32_lt (reg_lt (Nat.xor_lt_two_pow F32_lt h) hl)
theorem byt_flatten {ls : List (List Int)} (hl : ∀ l ∈ ls, Byt l) : Byt ls.flatten := fun x hx => by
  obtain ⟨l, h1, h2⟩ := List.mem_flatten.1 hx
  exact hl l h1 x h2
theorem andF_crc {s : Nat} (h : s < 2 ^ 32) {ls : List (List Int)} (hl : ∀ l ∈ ls, Byt l) : andF (s : Int) ls = ((crcN s ls.flatten : Nat) : Int) := by
  have hs := Nat.xor_lt_two_pow F32_lt h
  unfold andF
  rw [inv32_nat h, tbss_reg hs hl, inv32_nat (reg_lt hs (byt_flatten hl))]
  rfl
theorem xor_cancel (a b : Nat) : a ^^^ (a ^^^ b) = b := by rw [← Nat.xor_assoc, Nat.xor_self, Nat.zero_xor]
theorem crcN_append (s : Nat) (l m : List Int) : crcN (crcN s l) m = crcN s (l ++ m) := by
  unfold crcN
  rw [xor_cancel, reg_append]
theorem crcN_nil (s : Nat) : crcN s [] = s := xor_cancel _ _
theorem sumF_crc {l : List Int} (hl : Byt l) : sumF l = ((crcN 0 l : Nat) : Int) := by
  have := andF_crc (s := 0) (by decide) (ls := [l]) (fun m hm => by rw [List.mem_singleton.1 hm]; exact hl)
  simpa [sumF] using this
theorem F32_sub {x : Nat} (h : x < 2 ^ 32) : F32 - x = F32 ^^^ x := by
  apply Nat.eq_of_testBit_eq
  intro i
  rw [Nat.testBit_xor, F32_eq, Nat.testBit_two_pow_sub_one, show 2 ^ 32 - 1 - x = 2 ^ 32 - (x + 1) from by omega, Nat.testBit_two_pow_sub_succ h]
  by_cases hi : i < 32
  · simp [hi]
  · simp only [hi, decide_false, Bool.false_and, Bool.false_xor]
    exact (Nat.testBit_lt_two_pow (Nat.lt_of_lt_of_le h (Nat.pow_le_pow_right (by decide) (by omega)))).symm
/-- Bit by bit. -/
def rs (x c j : Nat) : Nat := Tn j (x ^^^ c % 2 ^ j)
theorem rs_zero (x c : Nat) : rs x c 0 = x := by simp [rs, Tn, Nat.mod_one]
theorem rs_eight {x c : Nat} (h : c < 256) : rs x c 8 = Tn 8 (x ^^^ c) := by rw [rs, Nat.mod_eq_of_lt (by omega)]
theorem T_bit (x b : Nat) (hb : b < 2) : T (x ^^^ b) = if x % 2 ≠ b then x / 2 ^^^ poly else x / 2 := by
  unfold T
  rw [xor_div_two, xor_mod_two, Nat.div_eq_of_lt hb, Nat.xor_zero, Nat.mod_eq_of_lt hb]
  have h2 : b = 0 ∨ b = 1 := by omega
  rcases Nat.mod_two_eq_zero_or_one x with hx | hx <;> rcases h2 with rfl | rfl <;> simp [hx]
theorem rs_succ (x c j : Nat) : rs x c (j + 1) = if rs x c j % 2 ≠ c / 2 ^ j % 2 then rs x c j / 2 ^^^ poly else rs x c j / 2 := by
  rw [← T_bit _ _ (Nat.mod_lt _ (by decide))]
  unfold rs
  have e : c % 2 ^ (j + 1) = c % 2 ^ j ^^^ (c / 2 ^ j % 2) * 2 ^ j := by
    rw [xor_add (Nat.mod_lt _ (Nat.two_pow_pos j)), Nat.mod_pow_succ, Nat.mul_comm]
  rw [e, ← Nat.xor_assoc, Tn, Tn_xor, Tn_mul]
theorem rs_lt {x c j : Nat} (hx : x < 2 ^ 32) (hc : c < 2 ^ 32) : rs x c j < 2 ^ 32 := Tn_lt (Nat.xor_lt_two_pow hx (Nat.lt_of_le_of_lt (Nat.mod_le _ _) hc))
end Go.Proofs.YtonbphiaideleaaDoor.M

/- The reference of the checksum, walked. -/
namespace Go.Proofs.YtonbphiaideleaaDoor.M
open Go.RowKit Go.Proofs.YtonbphiaideleaaDoorW.PrintWords
set_option linter.unusedVariables false
set_option linter.unusedSimpArgs false

theorem byt_rd {l : List Int} (h : Byt l) {i : Int} (h0 : 0 ≤ i) (h1 : i < l.length) : ∃ c : Nat, rd l i = (c : Int) ∧ c < 256 := by
  have hi : i.toNat < l.length := by omega
  have e : rd l i = l[i.toNat] := by simp [rd, hi]
  have hm := h l[i.toNat] (List.getElem_mem hi)
  exact ⟨(rd l i).toNat, by rw [e]; omega, by rw [e]; omega⟩
theorem reg_snoc (x : Nat) (l : List Int) (k : Nat) (hk : k < l.length) : reg x (l.take (k + 1)) = Tn 8 (reg x (l.take k) ^^^ (rd l k).toNat) := by
  rw [List.take_succ_eq_append_getElem hk, reg_append]
  simp [reg, rd, hk]

set_option maxHeartbeats 1000000 in
set_option maxRecDepth 100000 in
theorem refof_any (A : Option Addr) (c : Nat) (l : List Int) (w : World) (hr : Kd.C (Kd.int .u8) w A l.length l) (hc : l.length ≤ c) (hb : Byt l) :
    Calls Tryd.prog 18 #[.slice A l.length c] w fun e w' => e = .returned (.int .u32 ((crcN 0 l : Nat) : Int)) ∧ w = w' := by
  have hlen : l.length ≤ 9223372036854775807 := hr.2.1
  have HR := Aside0.mk hr
  clear hr
  have HY := Aside0.mk hb
  clear hb
  go_enter Tryd.func18, Tryd.ntmps18
  go_wp2
  go_loopg [3, 4] l.length (fun g s3 s4 wx => ∃ i : Nat, i + g = l.length ∧ s4 = .int .i64 i ∧ s3 = .int .u32 ((reg F32 (l.take i) : Nat) : Int) ∧ w = wx)
  case atStart => exact ⟨0, by omega, rfl, rfl, rfl⟩
  case round =>
    obtain ⟨i, hig, rfl, rfl, rfl⟩ := hrel
    have HX := reg_lt F32_lt (HY.out.take i)
    cases gk with
    | zero =>
      have hi : ¬ (i : Int) < (l.length : Int) := by omega
      have hdi : decide (i < l.length) = false := by simp; omega
      rw [show l.take i = l from List.take_of_length_le (by omega)] at HX ⊢
      have HC : Aside0 (crcN 0 l = F32 - reg F32 l) := ⟨by rw [F32_sub HX]; rfl⟩
      obtain ⟨x, hx⟩ : ∃ x, x = reg F32 l := ⟨_, rfl⟩
      rw [← hx] at HC HX ⊢
      have HF : Aside0 (F32 = 4294967295) := ⟨rfl⟩
      clear hx
      have hxz : (x : Int) ≤ 4294967295 := by omega
      go_wp2
      go_ret
      refine ⟨?_, rfl⟩
      show Ending.returned (.int .u32 (4294967295 - (x : Int))) = _
      rw [HC.out, HF.out, Int.ofNat_sub (by omega)]
      rfl
    | succ g =>
      have hlt : i < l.length := by omega
      have hi : (i : Int) < (l.length : Int) := by omega
      obtain ⟨ad, hA, hcell⟩ := Kd.at_int HR.out i (by omega) (by omega)
      obtain ⟨b, hb, hb2⟩ := byt_rd HY.out (i := i) (by omega) hi
      have HS := Aside0.mk (reg_snoc F32 l i hlt)
      rw [hb, Int.toNat_natCast] at HS
      rw [hb] at hcell
      clear hb
      cases hA
      simp only [Int.toNat_natCast] at hcell
      obtain ⟨cb, hcb⟩ : ∃ cb : Int, cb = (b : Int) := ⟨_, rfl⟩
      rw [← hcb] at hcell
      have hcb0 : 0 ≤ cb := by omega
      have hcb1 : cb < 256 := by omega
      have HCB := Aside0.mk hcb
      clear hcb
      obtain ⟨x, hx⟩ : ∃ x, x = reg F32 (l.take i) := ⟨_, rfl⟩
      rw [← hx] at HS HX ⊢
      clear hx
      go_wp2
      go_loopg [3, 5] 8 (fun g2 s3 s5 wx => ∃ j : Nat, j + g2 = 8 ∧ s5 = .int .i64 j ∧ s3 = .int .u32 ((rs x b j : Nat) : Int) ∧ w = wx)
      case atStart => exact ⟨0, by omega, rfl, by rw [rs_zero], rfl⟩
      case round =>
        obtain ⟨j, hjg, rfl, rfl, rfl⟩ := hrel
        have HT := Aside0.mk (rs_succ x b j)
        have hlt2 := rs_lt (j := j) HX (show b < 2 ^ 32 by omega)
        obtain ⟨y, hy⟩ : ∃ y, y = rs x b j := ⟨_, rfl⟩
        rw [← hy] at HT hlt2 ⊢
        cases gk with
        | zero =>
          obtain rfl : j = 8 := by omega
          have hj : ¬ ((8 : Nat) : Int) < 8 := by omega
          have HY8 : Aside0 (y = Tn 8 (x ^^^ b)) := ⟨by rw [hy, rs_eight hb2]⟩
          clear hy HT
          go_wp2
          go_roundg g
          case measure => omega
          case rel => exact ⟨i + 1, by omega, by first | rfl | simp, by rw [HS.out, HY8.out], rfl⟩
        | succ g2 =>
          clear hy
          have hj : (j : Int) < 8 := by omega
          obtain ⟨z, hz⟩ : ∃ z : Int, z = (y : Int) := ⟨_, rfl⟩
          rw [← hz]
          have hz0 : 0 ≤ z := by omega
          have hz1 : z < 4294967296 := by omega
          have HZ := Aside0.mk hz
          clear hz
          have HLT := Aside0.mk hlt2
          have HX' := Aside0.mk HX
          clear hlt2 HX
          have he : (z % 2 != cb / 2 ^ j % 2) = decide (y % 2 ≠ b / 2 ^ j % 2) := by
            have h1 : z % 2 = ((y % 2 : Nat) : Int) := by rw [HZ.out]; omega
            have h2 : cb / 2 ^ j % 2 = ((b / 2 ^ j % 2 : Nat) : Int) := by rw [HCB.out]; norm_cast
            rw [h1, h2]
            generalize y % 2 = p
            generalize b / 2 ^ j % 2 = q
            by_cases e : p = q
            · subst e; simp
            · have e2 : (p : Int) ≠ (q : Int) := by omega
              rw [bne_iff_ne.mpr e2, decide_eq_true e]
          by_cases hq : y % 2 ≠ b / 2 ^ j % 2
          · have hb1 : (z % 2 != cb / 2 ^ j % 2) = true := by rw [he]; exact decide_eq_true hq
            have HQ : Aside0 (rs x b (j + 1) = y / 2 ^^^ poly) := ⟨by rw [HT.out, if_pos hq]⟩
            clear he hq HT
            go_wp2
            go_roundg g2
            case measure => omega
            case rel =>
              refine ⟨j + 1, by omega, by first | rfl | simp, ?_, rfl⟩
              have hz2 : z / 2 = ((y / 2 : Nat) : Int) := by rw [HZ.out]; omega
              have := HLT.out
              rw [HQ.out, hz2, show (2197175160 : Int) = ((poly : Nat) : Int) from rfl, bits_xor_u32 (by omega) poly_lt]
          · have hb1 : (z % 2 != cb / 2 ^ j % 2) = false := by rw [he]; exact decide_eq_false hq
            have HQ : Aside0 (rs x b (j + 1) = y / 2) := ⟨by rw [HT.out, if_neg hq]⟩
            clear he hq HT
            go_wp2
            go_roundg g2
            case measure => omega
            case rel =>
              refine ⟨j + 1, by omega, by first | rfl | simp, ?_, rfl⟩
              have hz2 : z / 2 = ((y / 2 : Nat) : Int) := by rw [HZ.out]; omega
              rw [HQ.out, hz2]

theorem le4_crc (s : Nat) (hs : s < 2 ^ 32) : le4 (s : Int) = [(s : Int) % 256, (s : Int) / 256 % 256, (s : Int) / 65536 % 256, (s : Int) / 16777216] := by
  simp only [le4, List.cons.injEq, and_true, true_and]
  omega
/-- Signed bytes, by the register. -/
def sg (l : List Int) : List Int := l ++ le4 ((crcN 0 l : Nat) : Int)
theorem signF_sg {l : List Int} (h : Byt l) : signF l = sg l := by rw [signF, sumF_crc h, sg]

set_option maxHeartbeats 1000000 in
set_option maxRecDepth 100000 in
theorem refsign_any (A : Option Addr) (c : Nat) (l : List Int) (w : World) (hr : Kd.C (Kd.int .u8) w A l.length l) (hc : l.length ≤ c) (hb : Byt l) (hl : l.length + 4 < 140737488355328) :
    Calls Tryd.prog 13 #[.slice A l.length c] w fun e w' => ∃ v : Value, e = .returned v ∧ Kd.R (Kd.int .u8) 5 w' w.heap.size (fun _ => True) v (sg l) ∧ Below w.heap.size w w' := by
  have HX := crcN_lt (s := 0) (by decide) hb
  obtain ⟨x, hx⟩ : ∃ x, x = crcN 0 l := ⟨_, rfl⟩
  obtain ⟨z, hz⟩ : ∃ z : Int, z = (x : Int) := ⟨_, rfl⟩
  have hz0 : 0 ≤ z := by omega
  have hz1 : z < 4294967296 := by omega
  have HZ := Aside0.mk (show z = ((crcN 0 l : Nat) : Int) by rw [hz, hx])
  have HLE := Aside0.mk (show sg l = l ++ [z % 256, z / 256 % 256, z / 65536 % 256, z / 16777216] by rw [sg, ← hx, le4_crc x (by omega), ← hz])
  clear hx hz HX
  have HR := Aside0.mk hr
  clear hr
  have HY := Aside0.mk hb
  clear hb
  have HL := Aside0.mk hl
  clear hl
  have HB := Aside0.mk (Below.refl w.heap.size w)
  go_enter Tryd.func13, Tryd.ntmps13
  go_wp2_with (first
    | (go_at_call 18; refine (refof_any _ _ _ _ HR.out hc HY.out).mono ?_; rw [← HZ.out]; rintro e w1 ⟨rfl, rfl⟩)
    | ((with_reducible refine gate_dst (N := 6) rfl ?_); refine Kd.R_lit (Kd.int .u8) _ 5 ?hg (N := 6) ?hd (xs := ([] : List Int)) (inner := []) (ok := fun _ => True) (okp := fun _ => True) ?hr ?hp (fun _ hk => hk) trivial (Below.refl _ _) (Nat.le_refl _) (by simp) ?_; (case hd => rfl); (case hg => rfl); (case hr => first | (go_simp; done) | (go_simp; rfl)); (case hp => exact (Reps.none _ _)); intro v1 w1 ho hb hg_ hnew_; have HO := Aside0.mk ho; have HB1 := Aside0.mk hb; clear hg_ hnew_ ho hb)
    | ((with_reducible refine gate_builtin (b := .append) (xs := #[.tmp 6, .tmp 7]) rfl ?_); at_builtin; refine Kd.R_append_rows (Kd.int .u8) (w0 := w) w.heap.size rfl (.tmp 6) (.tmp 7) 22 5 (.int .u8 0) 1 rfl Tryd.underlying22 info5 rfl (by decide) (by omega) v1 [] l _ _ _ (fun _ => True) (fun _ => False) rfl rfl HO.out (Kd.C_below HR.out HB1.out) (fun _ _ h => h) (fun _ h => h.elim) (fun _ _ => trivial) HB1.out HB1.out.size (by have := HL.out; simp only [List.length_nil]; omega) ?_; intro v2 w2 ho hb hg hat; have HO2 := Aside0.mk ho; have HB2 := Aside0.mk hb; clear ho hb hg hat)
    | ((with_reducible refine gate_dst (N := 23) rfl ?_); refine Kd.R_lit (Kd.int .u8) _ 5 ?hg (N := 23) ?hd (xs := ([z % 256, z / 256 % 256, z / 65536 % 256, z / 16777216] : List Int)) (inner := [.int .u8 (z % 256), .int .u8 (z / 256 % 256), .int .u8 (z / 65536 % 256), .int .u8 (z / 16777216)]) (ok := fun _ => True) (okp := fun _ => True) ?hr ?hp (fun _ hk => hk) trivial (Below.refl _ _) (Nat.le_refl _) (by simp) ?_; (case hd => rfl); (case hg => rfl); (case hr => first | (go_simp; done) | (go_simp; rfl)); (case hp => exact (Reps.one (show Kd.M (Kd.int .u8) _ _ _ (z % 256) [.int .u8 (z % 256)] from rfl) (Reps.one (show Kd.M (Kd.int .u8) _ _ _ (z / 256 % 256) [.int .u8 (z / 256 % 256)] from rfl) (Reps.one (show Kd.M (Kd.int .u8) _ _ _ (z / 65536 % 256) [.int .u8 (z / 65536 % 256)] from rfl) (Reps.one (show Kd.M (Kd.int .u8) _ _ _ (z / 16777216) [.int .u8 (z / 16777216)] from rfl) (Reps.none _ _)))))); intro v3 w3 ho hb hg_ hnew_; have HO3 := Aside0.mk ho; have HO2' := Aside0.mk (Kd.R_below HO2.out hb); have HB3 := Aside0.mk (below_then HB2.out HB2.out.size hb); clear hg_ hnew_ ho hb; obtain ⟨Ao, co, eo⟩ := Kd.R_slice HO3.out; subst eo)
    | ((with_reducible refine gate_builtin (b := .append) (xs := #[.tmp 8, .tmp 23]) rfl ?_); at_builtin; refine Kd.R_append_rows (Kd.int .u8) (w0 := w) w.heap.size rfl (.tmp 8) (.tmp 23) 22 5 (.int .u8 0) 1 rfl Tryd.underlying22 info5 rfl (by decide) (by omega) v2 ([] ++ l) [z % 256, z / 256 % 256, z / 65536 % 256, z / 16777216] _ _ _ (fun _ => True) (fun _ => False) rfl rfl HO2'.out (Kd.R_reads' HO3.out).2.2 (fun _ _ h => h) (fun _ h => h.elim) (fun _ _ => trivial) HB3.out HB3.out.size (by have := HL.out; simp only [List.nil_append, List.length_cons, List.length_nil]; omega) ?_; intro v4 w4 ho hb hg hat; have HO4 := Aside0.mk ho; have HB4 := Aside0.mk hb; clear ho hb hg hat))
  go_ret
  exact ⟨_, rfl, by rw [HLE.out]; simpa using HO4.out, HB4.out⟩
end Go.Proofs.YtonbphiaideleaaDoor.M

/- Are bytes signed: the program's and the reference's. -/
namespace Go.Proofs.YtonbphiaideleaaDoor.M
open Go.RowKit Go.Proofs.YtonbphiaideleaaDoorW.PrintWords
set_option linter.unusedVariables false
set_option linter.unusedSimpArgs false

theorem strOfNums_inj {l m : List Int} (hl : Byt l) (hm : Byt m) (h : (strOfNums l).toList = (strOfNums m).toList) : l = m := by
  rw [ByteArray.toList_eq, ByteArray.toList_eq, strOfNums_data, strOfNums_data] at h
  have hlen : l.length = m.length := by have := congrArg List.length h; simpa using this
  refine List.ext_getElem hlen (fun i h1 h2 => ?_)
  have h3 := congrArg (fun z => z[i]?) h
  simp only [List.getElem?_map, List.getElem?_eq_getElem h1, List.getElem?_eq_getElem h2, Option.map_some, Option.some.injEq] at h3
  have ha := hl l[i] (List.getElem_mem h1)
  have hb := hm m[i] (List.getElem_mem h2)
  have h4 := congrArg UInt8.toNat h3
  simp only [UInt8.toNat_ofNat'] at h4
  omega
theorem str_eq {l m : List Int} (hl : Byt l) (hm : Byt m) : ((strOfNums l).toList == (strOfNums m).toList) = decide (l = m) := by
  by_cases h : l = m
  · subst h; simp
  · rw [decide_eq_false h, beq_eq_false_iff_ne]
    exact fun e => h (strOfNums_inj hl hm e)

theorem le4_byt (s : Int) : Byt (le4 s) := by
  intro x hx
  simp only [le4, List.mem_cons, List.not_mem_nil, or_false] at hx
  omega
theorem sg_byt {l : List Int} (h : Byt l) : Byt (sg l) := h.append (le4_byt _)
theorem sg_length (l : List Int) : (sg l).length = l.length + 4 := by simp [sg, le4]
/-- Are they signed bytes? -/
def isSg (l : List Int) : Bool := decide (4 ≤ l.length) && decide (sg (l.take (l.length - 4)) = l)

end Go.Proofs.YtonbphiaideleaaDoor.M

/- The reference's 'are they signed bytes'. -/
namespace Go.Proofs.YtonbphiaideleaaDoor.M
open Go.RowKit Go.Proofs.YtonbphiaideleaaDoorW.PrintWords Go.Proofs.YtonbphiaideleaaDoorW.PrintLast
set_option linter.unusedVariables false
set_option linter.unusedSimpArgs false
def refsigned_T1 : Bool × List (List Nat × List Nat) := (true, [([], []), ([0], [0]), ([1], [1]), ([2], [2]), ([3], [3]), ([3], [3]), ([5, 3], [3, 5]), ([6, 3], [3, 6]), ([4, 7, 3], [3, 4, 7]), ([8, 3, 3], [3, 8]), ([9, 3], [3, 9]), ([3], [3]), ([11, 3], [3, 11]), ([10, 12, 3], [3, 10, 12]), ([3, 13], [3, 13]), ([14, 9, 0, 1, 2, 3, 4, 5, 6, 7, 8, 9, 10, 11, 12, 13, 14], [14])])
def refsigned_B1 : List Nat := [0, 1, 3, 7, 15, 15, 47, 111, 255, 511, 1023, 15, 2063, 8191, 16383, 32767]
theorem refsigned_bits1 : waitsOk refsigned_T1.2 refsigned_B1 = true := by kernel_rfl

end Go.Proofs.YtonbphiaideleaaDoor.M

/- Bytes, as a test. -/
namespace Go.Proofs.YtonbphiaideleaaDoor.M
open Go.RowKit
def bytB (l : List Int) : Bool := l.all fun x => decide (0 ≤ x) && decide (x < 256)
theorem byt_of {l : List Int} (h : bytB l = true) : Byt l := fun x hx => by
  have := List.all_eq_true.1 h x hx
  simpa using this
theorem bytB_of {l : List Int} (h : Byt l) : bytB l = true := List.all_eq_true.2 fun x hx => by
  have := h x hx
  simp
  omega
end Go.Proofs.YtonbphiaideleaaDoor.M

/- What chapter 3's example says. -/
namespace Go.Proofs.YtonbphiaideleaaDoor.M
open Go.RowKit Go.Proofs.YtonbphiaideleaaDoorW.PrintWords
set_option linter.unusedVariables false
set_option linter.unusedSimpArgs false

theorem crc_nine : crcN 0 [49, 50, 51, 52, 53, 54, 55, 56, 57] = 3808858755 := by decide +kernel
theorem nine_byt : Byt [49, 50, 51, 52, 53, 54, 55, 56, 57] := by
  intro x hx
  simp only [List.mem_cons, List.not_mem_nil, or_false] at hx
  omega
/-- A row of bytes that was just made, whatever its mark. -/
theorem new_C (w : World) (l : List Int) (fr : Nat × Nat) (hl : l.length ≤ 9223372036854775807) : Kd.C (Kd.int .u8) (w.alloc (.cells (nums .u8 l).toArray 5 fr)) (some ⟨w.heap.size, 0, none⟩) l.length l := by
  refine ⟨rfl, hl, fun _ => ⟨_, rfl, fun j p hj => ⟨[.int .u8 p], rfl, rfl, fun i u hi => ?_⟩⟩⟩
  rcases i with _ | i
  · obtain rfl : Value.int .u8 p = u := by simpa using hi
    simp only [Kd.int, Kd.scalar, Nat.mul_one, Nat.add_zero, add_plain, Nat.zero_add]
    rw [cell_of_row _ _ j _ _ _ (heap_alloc_last w _)]
    simp [nums, hj]
  · simp at hi

end Go.Proofs.YtonbphiaideleaaDoor.M

/- frame.versioned, frame.kinded; what the beginning of a frame is, as a plain function. -/
namespace Go.Proofs.YtonbphiaideleaaDoor.M
open Go.RowKit Go.Proofs.YtonbphiaideleaaDoorW.PrintWords
set_option linter.unusedVariables false
set_option linter.unusedSimpArgs false

def verB (v : Int) : Bool := decide (1 ≤ v ∧ v ≤ 2)
def kinB (v : Int) : Bool := decide (1 ≤ v ∧ v ≤ 8)

set_option maxRecDepth 100000 in
theorem versioned_any (v : Int) (w : World) : Calls Tryd.prog 14 #[.int .u8 v] w fun e w' => e = .returned (.bool (verB v)) ∧ w = w' := by
  by_cases h1 : 1 ≤ v
  · have hd : decide (1 ≤ v) = true := decide_eq_true h1
    by_cases h2 : v ≤ 2
    · have hd2 : decide (v ≤ 2) = true := decide_eq_true h2
      have HV : Aside0 (verB v = true) := ⟨decide_eq_true ⟨h1, h2⟩⟩
      go_enter Tryd.func14, Tryd.ntmps14
      go_wp2
      go_ret
      exact ⟨by rw [HV.out]; rfl, rfl⟩
    · have hd2 : decide (v ≤ 2) = false := decide_eq_false h2
      have HV : Aside0 (verB v = false) := ⟨decide_eq_false (fun h => h2 h.2)⟩
      go_enter Tryd.func14, Tryd.ntmps14
      go_wp2
      go_ret
      exact ⟨by rw [HV.out]; rfl, rfl⟩
  · have hd : decide (1 ≤ v) = false := decide_eq_false h1
    have HV : Aside0 (verB v = false) := ⟨decide_eq_false (fun h => h1 h.1)⟩
    go_enter Tryd.func14, Tryd.ntmps14
    go_wp2
    go_ret
    exact ⟨by rw [HV.out]; rfl, rfl⟩
set_option maxRecDepth 100000 in
theorem kinded_any (v : Int) (w : World) : Calls Tryd.prog 15 #[.int .u8 v] w fun e w' => e = .returned (.bool (kinB v)) ∧ w = w' := by
  by_cases h1 : 1 ≤ v
  · have hd : decide (1 ≤ v) = true := decide_eq_true h1
    by_cases h2 : v ≤ 8
    · have hd2 : decide (v ≤ 8) = true := decide_eq_true h2
      have HV : Aside0 (kinB v = true) := ⟨decide_eq_true ⟨h1, h2⟩⟩
      go_enter Tryd.func15, Tryd.ntmps15
      go_wp2
      go_ret
      exact ⟨by rw [HV.out]; rfl, rfl⟩
    · have hd2 : decide (v ≤ 8) = false := decide_eq_false h2
      have HV : Aside0 (kinB v = false) := ⟨decide_eq_false (fun h => h2 h.2)⟩
      go_enter Tryd.func15, Tryd.ntmps15
      go_wp2
      go_ret
      exact ⟨by rw [HV.out]; rfl, rfl⟩
  · have hd : decide (1 ≤ v) = false := decide_eq_false h1
    have HV : Aside0 (kinB v = false) := ⟨decide_eq_false (fun h => h1 h.1)⟩
    go_enter Tryd.func15, Tryd.ntmps15
    go_wp2
    go_ret
    exact ⟨by rw [HV.out]; rfl, rfl⟩
/-- The first bytes of "Lg", as far as they are there. -/
def preB (l : List Int) : Bool := decide (l.take 2 = ([76, 103] : List Int).take l.length)
/-- What the beginning says: how many bytes the payload has, and what is wrong. -/
def headF (l : List Int) : Int × Int :=
  if preB l = false then (0, 3)
  else if 2 < l.length ∧ verB (rd l 2) = false then (0, 18)
  else if 3 < l.length ∧ kinB (rd l 3) = false then (0, 7)
  else if l.length < 6 then (0, 1)
  else if rd l 4 + 256 * rd l 5 > 4096 then (0, 2)
  else (rd l 4 + 256 * rd l 5, 0)
end Go.Proofs.YtonbphiaideleaaDoor.M

/- Merged: Mmake, Mawake4, Mbase4. -/
/- frame.Right, frame.Make. -/
namespace Go.Proofs.YtonbphiaideleaaDoor.M
open Go.RowKit Go.Proofs.YtonbphiaideleaaDoorW.PrintWords Go.Proofs.YtonbphiaideleaaDoorW.PrintLast Go.Proofs.YtonbphiaideleaaDoorW.PrintMore
set_option linter.unusedVariables false
set_option linter.unusedSimpArgs false
/-- What is wrong with a frame. -/
def rightF (x y : Int) (l : List Int) : Int := if verB x = true then (if kinB y = true then (if 4096 < l.length then 2 else 0) else 7) else 18
theorem rightF_len {x y : Int} {l : List Int} (h : rightF x y l = 0) : l.length ≤ 4096 := by
  unfold rightF at h
  split at h
  · split at h
    · split at h
      · exact absurd h (by decide)
      · omega
    · exact absurd h (by decide)
  · exact absurd h (by decide)
/-- A frame's bytes, ahead of the sum. -/
def makeB (x y : Int) (l : List Int) : List Int := [76, 103, x, y, (l.length : Int) % 256, (l.length : Int) / 256 % 256] ++ l
theorem and_255 (n : Nat) (h : n < 2 ^ 16) : Go.bits .and .i64 (n : Int) 255 = (n : Int) % 256 := by
  have h2 := (bits_nat .i64 16 (by decide) (fun n h0 h1 => by rw [IntKind.wrap_i64]; omega) n 255 h (by decide)).1
  have e : (255 : Int) = ((255 : Nat) : Int) := rfl
  rw [e, h2]
  have := Nat.and_two_pow_sub_one_eq_mod n 8
  rw [show (255 : Nat) = 2 ^ 8 - 1 from rfl, this]
  rfl
/-- An append onto a full row that came in: a new row. -/
theorem append_full {P : Program} {W : World} {ops : Array Oper} {rest : List Oper} {o : Oper} {a : Act} {Q : Exit → Act → World → Prop} (hgd : o.guard = none) (s x : Operand) (t e : TypeId) (z : Value) (bytes : Nat)
    (ho : o.op = .call { callee := .builtin .append, args := #[s, x], argTypes := #[t, t] })
    (ht : P.underlying t = some (.slice e)) (hinfo : (P.info? e).map (fun i => (i.zero, i.size, i.bytes)) = some (some z, 1, bytes)) (hz : z.cells.size = 1) (hb0 : 0 < bytes)
    (k : IntKind) (A : Option Addr) (cap : Nat) (xs ys : List Int) (B : Option Addr) (c : Nat) (hs : a.eval s = .slice A xs.length cap) (hx : a.eval x = .slice B ys.length c)
    (HA : (Kd.int k).C W A xs.length xs) (HY : (Kd.int k).C W B ys.length ys) (hy : 0 < ys.length) (hA : A = none → xs.length = 0 ∧ cap = 0) (hfull : cap < xs.length + ys.length) (hl : (xs.length + ys.length) * bytes ≤ 140737488355328)
    (h : ∀ v1 w1, (Kd.int k).R e w1 W.heap.size (fun _ => True) v1 (xs ++ ys) → Below W.heap.size W w1 → wpList P ops Q rest (a.put o.dst v1) w1) :
    wpList P ops Q (o :: rest) a W := by
  obtain ⟨i0, hi, hzz⟩ := Option.map_eq_some_iff.1 hinfo
  simp only [Prod.mk.injEq] at hzz
  obtain ⟨hz0, hz1, hz2⟩ := hzz
  obtain ⟨ad, rfl, _⟩ := HY.2.2 (by exact hy)
  obtain ⟨news, hnr, hnc⟩ := ReadsRow.inner_ HY
  have hnews : news.length = ys.length * 1 := hnr.1
  have hone : ∀ u ∈ news, u.oneCell' = true := by
    intro u hu
    obtain ⟨q, hq, rfl⟩ := List.mem_iff_getElem.1 hu
    have hql : q < ys.length := by omega
    have hc := hnr.2 q _ (List.getElem?_eq_getElem hql)
    refine (Kd.int k).K_one hc _ ?_
    rw [List.mem_iff_getElem?]
    refine ⟨0, ?_⟩
    rw [List.getElem?_take, if_pos (show 0 < (Kd.int k).sz from Nat.one_pos), List.getElem?_drop]
    show news[q * 1 + 0]? = _
    rw [Nat.mul_one, Nat.add_zero, List.getElem?_eq_getElem hq]
  obtain ⟨olds, hor, hoc⟩ : ∃ olds : List Value, Reps ((Kd.int k).K W) 1 xs olds ∧ ∀ b, A = some b → ∀ j u, olds[j]? = some u → W.cell? (b.add j) = some u := by
    rcases A with _ | b
    · have : xs = [] := List.eq_nil_of_length_eq_zero (hA rfl).1
      subst this
      exact ⟨[], Reps.none _ _, fun b hb => by cases hb⟩
    · obtain ⟨olds, h1, h2⟩ := ReadsRow.inner_ HA
      exact ⟨olds, h1, fun b' hb => by cases hb; exact h2⟩
  have hmx : xs.length + ys.length ≤ maxLen := by
    have : xs.length + ys.length ≤ (xs.length + ys.length) * bytes := Nat.le_mul_of_pos_right _ hb0
    simp only [maxLen]
    omega
  refine wpList_append_grows W hgd s x t ho e i0 z 1 bytes ht hi hz0 hz1 hz2 hz Nat.one_pos A xs.length cap olds hs hA hor.1 hoc ad ys.length c news hx hnews hnc hone hfull hmx hl ?_
  intro v1 w1 hown hg
  refine h v1 w1 ⟨fun _ _ => trivial, olds ++ news, by rw [List.length_append]; exact hown, ?_⟩ ((Below.refl _ _).grown hg (Nat.le_refl _) (fun k hk => by cases hk))
  exact Kd.reps_append (hor.imp_ (fun p c hp => hp)) (hnr.imp_ (fun p c hp => hp))
set_option maxHeartbeats 2000000 in
set_option maxRecDepth 100000 in
theorem right_A (x y : Int) (A : Option Addr) (c : Nat) (l : List Int) (w : World) (hv : verB x = false) :
    Calls Tryd.prog 8 #[.agg #[.int .u8 x, .int .u8 y, .slice A l.length c]] w fun e w' => e = .returned (.int .i64 18) ∧ Below w.heap.size w w' := by
    have hu40 := Tryd.underlying28
    have HV : Aside0 (verB x = false) := ⟨hv⟩
    clear hv
    go_enter Tryd.func8, Tryd.ntmps8
    go_wp2_with (first | ((with_reducible refine gate_dst (N := 1) rfl ?_); refine box_event ?hg (N := 1) ?hd (cs := #[.int .u8 x, .int .u8 y, .slice A l.length c]) (t := 28) ?hr ?_; (case hd => rfl); (case hg => rfl); (case hr => first | (go_simp; done) | (go_simp; rfl)); intro gb hg w1 hbox hbb; have HB := Aside0.mk hbb; have HG := Aside0.mk hbox; have HGE := Aside0.mk (show w.heap.size ≤ gb by rw [hg]; exact Nat.le_refl _); clear hbb hbox hg; have hz0 : w1.cell? ⟨gb, 0, none⟩ = some (.int .u8 x) := (blk_cell HG.out 0).trans rfl; have hz1 : w1.cell? ⟨gb, 1, none⟩ = some (.int .u8 y) := (blk_cell HG.out 1).trans rfl; have hz2 : w1.cell? ⟨gb, 2, none⟩ = some (.slice A l.length c) := (blk_cell HG.out 2).trans rfl) | (go_at_call 14; refine (versioned_any x _).mono ?_; rw [HV.out]; rintro e w2 ⟨rfl, rfl⟩))
    go_ret
    exact ⟨rfl, HB.out⟩

set_option maxHeartbeats 2000000 in
set_option maxRecDepth 100000 in
theorem right_B (x y : Int) (A : Option Addr) (c : Nat) (l : List Int) (w : World) (hv : verB x = true) (hk : kinB y = false) :
    Calls Tryd.prog 8 #[.agg #[.int .u8 x, .int .u8 y, .slice A l.length c]] w fun e w' => e = .returned (.int .i64 7) ∧ Below w.heap.size w w' := by
    have hu40 := Tryd.underlying28
    have HV : Aside0 (verB x = true) := ⟨hv⟩
    clear hv
    have HK : Aside0 (kinB y = false) := ⟨hk⟩
    clear hk
    go_enter Tryd.func8, Tryd.ntmps8
    go_wp2_with (first | ((with_reducible refine gate_dst (N := 1) rfl ?_); refine box_event ?hg (N := 1) ?hd (cs := #[.int .u8 x, .int .u8 y, .slice A l.length c]) (t := 28) ?hr ?_; (case hd => rfl); (case hg => rfl); (case hr => first | (go_simp; done) | (go_simp; rfl)); intro gb hg w1 hbox hbb; have HB := Aside0.mk hbb; have HG := Aside0.mk hbox; have HGE := Aside0.mk (show w.heap.size ≤ gb by rw [hg]; exact Nat.le_refl _); clear hbb hbox hg; have hz0 : w1.cell? ⟨gb, 0, none⟩ = some (.int .u8 x) := (blk_cell HG.out 0).trans rfl; have hz1 : w1.cell? ⟨gb, 1, none⟩ = some (.int .u8 y) := (blk_cell HG.out 1).trans rfl; have hz2 : w1.cell? ⟨gb, 2, none⟩ = some (.slice A l.length c) := (blk_cell HG.out 2).trans rfl) | (go_at_call 14; refine (versioned_any x _).mono ?_; rw [HV.out]; rintro e w2 ⟨rfl, rfl⟩) | (go_at_call 15; refine (kinded_any y _).mono ?_; rw [HK.out]; rintro e w2 ⟨rfl, rfl⟩))
    go_ret
    exact ⟨rfl, HB.out⟩

set_option maxHeartbeats 2000000 in
set_option maxRecDepth 100000 in
theorem right_C (x y : Int) (A : Option Addr) (c : Nat) (l : List Int) (w : World) (hv : verB x = true) (hk : kinB y = true) (hn : 4096 < l.length) :
    Calls Tryd.prog 8 #[.agg #[.int .u8 x, .int .u8 y, .slice A l.length c]] w fun e w' => e = .returned (.int .i64 2) ∧ Below w.heap.size w w' := by
    have hu40 := Tryd.underlying28
    have HV : Aside0 (verB x = true) := ⟨hv⟩
    clear hv
    have HK : Aside0 (kinB y = true) := ⟨hk⟩
    clear hk
    have hd1 : decide ((4096 : Int) < (l.length : Int)) = true := by simp; omega
    have hd2 : decide (4096 < l.length) = true := by simp; omega
    clear hn
    go_enter Tryd.func8, Tryd.ntmps8
    go_wp2_with (first | ((with_reducible refine gate_dst (N := 1) rfl ?_); refine box_event ?hg (N := 1) ?hd (cs := #[.int .u8 x, .int .u8 y, .slice A l.length c]) (t := 28) ?hr ?_; (case hd => rfl); (case hg => rfl); (case hr => first | (go_simp; done) | (go_simp; rfl)); intro gb hg w1 hbox hbb; have HB := Aside0.mk hbb; have HG := Aside0.mk hbox; have HGE := Aside0.mk (show w.heap.size ≤ gb by rw [hg]; exact Nat.le_refl _); clear hbb hbox hg; have hz0 : w1.cell? ⟨gb, 0, none⟩ = some (.int .u8 x) := (blk_cell HG.out 0).trans rfl; have hz1 : w1.cell? ⟨gb, 1, none⟩ = some (.int .u8 y) := (blk_cell HG.out 1).trans rfl; have hz2 : w1.cell? ⟨gb, 2, none⟩ = some (.slice A l.length c) := (blk_cell HG.out 2).trans rfl) | (go_at_call 14; refine (versioned_any x _).mono ?_; rw [HV.out]; rintro e w2 ⟨rfl, rfl⟩) | (go_at_call 15; refine (kinded_any y _).mono ?_; rw [HK.out]; rintro e w2 ⟨rfl, rfl⟩))
    go_ret
    exact ⟨rfl, HB.out⟩

set_option maxHeartbeats 2000000 in
set_option maxRecDepth 100000 in
theorem right_D (x y : Int) (A : Option Addr) (c : Nat) (l : List Int) (w : World) (hv : verB x = true) (hk : kinB y = true) (hn : l.length ≤ 4096) :
    Calls Tryd.prog 8 #[.agg #[.int .u8 x, .int .u8 y, .slice A l.length c]] w fun e w' => e = .returned (.int .i64 0) ∧ Below w.heap.size w w' := by
    have hu40 := Tryd.underlying28
    have HV : Aside0 (verB x = true) := ⟨hv⟩
    clear hv
    have HK : Aside0 (kinB y = true) := ⟨hk⟩
    clear hk
    have hd1 : decide ((4096 : Int) < (l.length : Int)) = false := by simp; omega
    have hd2 : decide (4096 < l.length) = false := by simp; omega
    clear hn
    go_enter Tryd.func8, Tryd.ntmps8
    go_wp2_with (first | ((with_reducible refine gate_dst (N := 1) rfl ?_); refine box_event ?hg (N := 1) ?hd (cs := #[.int .u8 x, .int .u8 y, .slice A l.length c]) (t := 28) ?hr ?_; (case hd => rfl); (case hg => rfl); (case hr => first | (go_simp; done) | (go_simp; rfl)); intro gb hg w1 hbox hbb; have HB := Aside0.mk hbb; have HG := Aside0.mk hbox; have HGE := Aside0.mk (show w.heap.size ≤ gb by rw [hg]; exact Nat.le_refl _); clear hbb hbox hg; have hz0 : w1.cell? ⟨gb, 0, none⟩ = some (.int .u8 x) := (blk_cell HG.out 0).trans rfl; have hz1 : w1.cell? ⟨gb, 1, none⟩ = some (.int .u8 y) := (blk_cell HG.out 1).trans rfl; have hz2 : w1.cell? ⟨gb, 2, none⟩ = some (.slice A l.length c) := (blk_cell HG.out 2).trans rfl) | (go_at_call 14; refine (versioned_any x _).mono ?_; rw [HV.out]; rintro e w2 ⟨rfl, rfl⟩) | (go_at_call 15; refine (kinded_any y _).mono ?_; rw [HK.out]; rintro e w2 ⟨rfl, rfl⟩))
    go_ret
    exact ⟨rfl, HB.out⟩

theorem right_any (x y : Int) (A : Option Addr) (c : Nat) (l : List Int) (w : World) :
    Calls Tryd.prog 8 #[.agg #[.int .u8 x, .int .u8 y, .slice A l.length c]] w fun e w' => e = .returned (.int .i64 (rightF x y l)) ∧ Below w.heap.size w w' := by
  unfold rightF
  by_cases hv : verB x = true
  · rw [if_pos hv]
    by_cases hk : kinB y = true
    · rw [if_pos hk]
      by_cases hn : 4096 < l.length
      · rw [if_pos hn]; exact right_C x y A c l w hv hk hn
      · rw [if_neg hn]; exact right_D x y A c l w hv hk (by omega)
    · rw [if_neg hk]; exact right_B x y A c l w hv (by simpa using hk)
  · rw [if_neg hv]; exact right_A x y A c l w (by simpa using hv)

set_option maxHeartbeats 2000000 in
set_option maxRecDepth 100000 in
theorem make_bad (x y r : Int) (A : Option Addr) (c : Nat) (l : List Int) (w : World) (hr : rightF x y l = r) (h0 : (r == 0) = false) :
    Calls Tryd.prog 4 #[.agg #[.int .u8 x, .int .u8 y, .slice A l.length c]] w fun e w' => e = .returned (.tuple #[.slice none 0 0, .int .i64 r]) ∧ Below w.heap.size w w' := by
    have hu40 := Tryd.underlying28
    have HE := Aside0.mk hr
    clear hr
    have h1 : (r != 0) = true := by rw [bne, h0]; rfl
    go_enter Tryd.func4, Tryd.ntmps4
    go_wp2_with (first | ((with_reducible refine gate_dst (N := 1) rfl ?_); refine box_event ?hg (N := 1) ?hd (cs := #[.int .u8 x, .int .u8 y, .slice A l.length c]) (t := 28) ?hr ?_; (case hd => rfl); (case hg => rfl); (case hr => first | (go_simp; done) | (go_simp; rfl)); intro gb hg w1 hbox hbb; have HB := Aside0.mk hbb; have HG := Aside0.mk hbox; have HGE := Aside0.mk (show w.heap.size ≤ gb by rw [hg]; exact Nat.le_refl _); clear hbb hbox hg; have hz0 : w1.cell? ⟨gb, 0, none⟩ = some (.int .u8 x) := (blk_cell HG.out 0).trans rfl; have hz1 : w1.cell? ⟨gb, 1, none⟩ = some (.int .u8 y) := (blk_cell HG.out 1).trans rfl; have hz2 : w1.cell? ⟨gb, 2, none⟩ = some (.slice A l.length c) := (blk_cell HG.out 2).trans rfl) | (go_at_call 8; go_loud (refine (right_any x y _ _ l _).mono ?_; rw [HE.out]; rintro e w2 ⟨rfl, hb⟩; have HG2 := Aside0.mk (blk_below HG.out hb); have HB2 := Aside0.mk (below_step HB.out hb); clear hb; have hy2 : w2.cell? ⟨gb, 2, none⟩ = some (.slice A l.length c) := (blk_cell HG2.out 2).trans rfl)))
    go_ret2
    exact ⟨rfl, HB2.out⟩
theorem lit2 : (nums .u8 [76, 103]).toArray = #[.int .u8 76, .int .u8 103] := rfl
set_option maxHeartbeats 4000000 in
set_option maxRecDepth 100000 in
theorem make_good (x y : Int) (A : Option Addr) (c : Nat) (l : List Int) (w : World) (hr : Kd.C (Kd.int .u8) w A l.length l) (hc : l.length ≤ c) (h0 : rightF x y l = 0) :
    Calls Tryd.prog 4 #[.agg #[.int .u8 x, .int .u8 y, .slice A l.length c]] w fun e w' => ∃ v : Value, e = .returned (.tuple #[v, .int .i64 0]) ∧ Kd.R (Kd.int .u8) 5 w' w.heap.size (fun _ => True) v (signF (makeB x y l)) ∧ Below w.heap.size w w' := by
    have hu40 := Tryd.underlying28
    have HE := Aside0.mk h0
    have HR := Aside0.mk hr
    have hl63 : l.length ≤ 9223372036854775807 := hr.2.1
    have hl := rightF_len h0
    clear hr h0
    have kc := fun (w : World) (C : Array Value) (n c : Nat) => Lib.run_convert_bytes_const (P := Tryd.prog) w 22 5 C n c Tryd.underlying22 Tryd.underlying5
    obtain ⟨m, hm⟩ : ∃ m : Int, m = (l.length : Int) % 256 := ⟨_, rfl⟩
    obtain ⟨d, hd⟩ : ∃ d : Int, d = (l.length : Int) / 256 % 256 := ⟨_, rfl⟩
    have hand : Go.bits .and .i64 (l.length : Int) 255 = m := by rw [hm]; exact and_255 _ (by omega)
    have hm2 : m % 256 = m := by omega
    have HM := Aside0.mk (show makeB x y l = ([76, 103] ++ [x, y, m, d]) ++ l by rw [hm, hd]; rfl)
    have HD := Aside0.mk hd
    have HL := Aside0.mk hl
    clear hm hl hd
    go_enter Tryd.func4, Tryd.ntmps4
    go_wp2_with (first
      | ((with_reducible refine gate_dst (N := 1) rfl ?_); refine box_event ?hg (N := 1) ?hd (cs := #[.int .u8 x, .int .u8 y, .slice A l.length c]) (t := 28) ?hr ?_; (case hd => rfl); (case hg => rfl); (case hr => first | (go_simp; done) | (go_simp; rfl)); intro gb hg w1 hbox hbb; have HB := Aside0.mk hbb; have HG := Aside0.mk hbox; have HGE := Aside0.mk (show w.heap.size ≤ gb by rw [hg]; exact Nat.le_refl _); clear hbb hbox hg; have hz0 : w1.cell? ⟨gb, 0, none⟩ = some (.int .u8 x) := (blk_cell HG.out 0).trans rfl; have hz1 : w1.cell? ⟨gb, 1, none⟩ = some (.int .u8 y) := (blk_cell HG.out 1).trans rfl; have hz2 : w1.cell? ⟨gb, 2, none⟩ = some (.slice A l.length c) := (blk_cell HG.out 2).trans rfl)
      | (go_at_call 8; go_loud (refine (right_any x y _ _ l _).mono ?_; rw [HE.out]; rintro e w2 ⟨rfl, hb⟩; have HG2 := Aside0.mk (blk_below HG.out hb); have HB2 := Aside0.mk (below_step HB.out hb); clear hb; have hy2 : w2.cell? ⟨gb, 2, none⟩ = some (.slice A l.length c) := (blk_cell HG2.out 2).trans rfl; have hg0 : (w2.alloc (.cells #[.int .u8 76, .int .u8 103] 5 (2, 3))).cell? ⟨gb, 0, none⟩ = some (.int .u8 x) := (blk_cell (blk_alloc HG2.out _) 0).trans rfl; have hg1 : (w2.alloc (.cells #[.int .u8 76, .int .u8 103] 5 (2, 3))).cell? ⟨gb, 1, none⟩ = some (.int .u8 y) := (blk_cell (blk_alloc HG2.out _) 1).trans rfl; have hg2 : (w2.alloc (.cells #[.int .u8 76, .int .u8 103] 5 (2, 3))).cell? ⟨gb, 2, none⟩ = some (.slice A l.length c) := (blk_cell (blk_alloc HG2.out _) 2).trans rfl; have hlg := new_C w2 [76, 103] (2, 3) (by decide); rw [lit2] at hlg))
      | ((with_reducible refine gate_dst (N := 27) rfl ?_); refine Kd.R_lit (Kd.int .u8) _ 5 ?hg (N := 27) ?hd (xs := ([x, y, m, d] : List Int)) (inner := [.int .u8 x, .int .u8 y, .int .u8 m, .int .u8 d]) (ok := fun _ => True) (okp := fun _ => True) ?hr ?hp (fun _ hk => hk) trivial (Below.refl _ _) (Nat.le_refl _) (by simp) ?_; (case hd => rfl); (case hg => rfl); (case hr => first | (rw [HD.out]; go_simp; done) | (rw [HD.out]; go_simp; rfl)); (case hp => exact (Reps.one (show Kd.M (Kd.int .u8) _ _ _ x [.int .u8 x] from rfl) (Reps.one (show Kd.M (Kd.int .u8) _ _ _ y [.int .u8 y] from rfl) (Reps.one (show Kd.M (Kd.int .u8) _ _ _ m [.int .u8 m] from rfl) (Reps.one (show Kd.M (Kd.int .u8) _ _ _ d [.int .u8 d] from rfl) (Reps.none _ _)))))); intro v3 w3 ho hb hg_ hnew_; have HO3 := Aside0.mk ho; have HB3 := Aside0.mk (below_step (HB2.out.alloc HB2.out.size _) hb); have HC2 := Aside0.mk (Kd.C_below hlg hb); have HG3 := Aside0.mk (blk_below (blk_alloc HG2.out _) hb); clear hg_ hnew_ ho hb hlg; obtain ⟨Ao, co, eo⟩ := Kd.R_slice HO3.out; subst eo)
      | ((with_reducible refine gate_builtin (b := .append) (xs := #[.tmp 16, .tmp 27]) rfl ?_); at_builtin; go_loud (refine append_full rfl (.tmp 16) (.tmp 27) 22 5 (.int .u8 0) 1 rfl Tryd.underlying22 info5 rfl (by decide) .u8 _ 2 [76, 103] [x, y, m, d] _ _ rfl rfl HC2.out (Kd.R_reads' HO3.out).2.2 (by simp) (fun hh => by cases hh) (by simp) (by simp) ?_; intro v4 w4 ho hb; have HO4 := Aside0.mk (Kd.R_lower ho HB3.out.size); have HB4 := Aside0.mk (below_step HB3.out hb); have HG4 := Aside0.mk (blk_below HG3.out hb); clear ho hb; have hy4 : w4.cell? ⟨gb, 2, none⟩ = some (.slice A l.length c) := (blk_cell HG4.out 2).trans rfl))
      | ((with_reducible refine gate_builtin (b := .append) (xs := #[.tmp 29, .tmp 31]) rfl ?_); at_builtin; refine Kd.R_append_rows (Kd.int .u8) (w0 := w) w.heap.size rfl (.tmp 29) (.tmp 31) 22 5 (.int .u8 0) 1 rfl Tryd.underlying22 info5 rfl (by decide) (by omega) v4 ([76, 103] ++ [x, y, m, d]) l _ _ _ (fun _ => True) (fun _ => False) rfl rfl HO4.out (Kd.C_below HR.out HB4.out) (fun _ _ h => h) (fun _ h => h.elim) (fun _ _ => trivial) HB4.out HB4.out.size (by have := HL.out; simp only [List.length_append, List.length_cons, List.length_nil]; omega) ?_; intro v5 w5 ho hb hg hat; have HO5 := Aside0.mk ho; have HB5 := Aside0.mk hb; clear ho hb hg hat; rw [← HM.out] at HO5; obtain ⟨A5, c5, e5⟩ := Kd.R_slice HO5.out; subst e5)
      | (go_at_call 12; refine (sign_any _ _ (makeB x y l) _ (Kd.R_reads' HO5.out).2.2 (Kd.R_reads' HO5.out).2.1 (by have := HL.out; rw [HM.out]; simp only [List.length_append, List.length_cons, List.length_nil]; omega)).mono ?_; rintro e w6 ⟨v6, rfl, ho, hb⟩; have HO6 := Aside0.mk (Kd.R_lower ho HB5.out.size); have HB6 := Aside0.mk (below_step HB5.out hb); clear ho hb))
    go_ret2
    exact ⟨_, rfl, HO6.out, HB6.out⟩
theorem make_any (x y : Int) (A : Option Addr) (c : Nat) (l : List Int) (w : World) (hr : Kd.C (Kd.int .u8) w A l.length l) (hc : l.length ≤ c) :
    Calls Tryd.prog 4 #[.agg #[.int .u8 x, .int .u8 y, .slice A l.length c]] w fun e w' => ∃ v : Value, e = .returned (.tuple #[v, .int .i64 (rightF x y l)]) ∧ Kd.R (Kd.int .u8) 5 w' w.heap.size (fun _ => True) v (if rightF x y l = 0 then signF (makeB x y l) else []) ∧ Below w.heap.size w w' := by
  by_cases h : rightF x y l = 0
  · rw [if_pos h, h]
    exact make_good x y A c l w hr hc h
  · rw [if_neg h]
    refine (make_bad x y _ A c l w rfl (by simpa using h)).mono ?_
    rintro e w1 ⟨rfl, hb⟩
    exact ⟨_, rfl, Kd.R_nil _ _ _ _ _, hb⟩

end Go.Proofs.YtonbphiaideleaaDoor.M
/- lacunalaw04.awake: what the chapter's example says. -/
namespace Go.Proofs.YtonbphiaideleaaDoor.M
open Go.RowKit Go.Proofs.YtonbphiaideleaaDoorW.PrintWords Go.Proofs.YtonbphiaideleaaDoorW.PrintLast Go.Proofs.YtonbphiaideleaaDoorW.PrintMore
set_option linter.unusedVariables false
set_option linter.unusedSimpArgs false
theorem byt7 : Byt [76, 103, 1, 8, 1, 0, 7] := by
  intro x hx
  simp only [List.mem_cons, List.not_mem_nil, or_false] at hx
  omega
theorem lit7 : (nums .u8 [7]).toArray = #[.int .u8 7] := rfl
def awake4_T2 : Bool × List (List Nat × List Nat) := (true, [([], []), ([0], [0]), ([1], [1]), ([2], [2]), ([3, 2], [2, 3]), ([2], [2]), ([5, 2, 2], [2, 5]), ([6, 2], [2, 6]), ([4, 7, 2], [2, 4, 7]), ([2, 8], [2, 8]), ([9, 6, 0, 1, 2, 3, 4, 5, 6, 7, 8, 9], [9])])
def awake4_B2 : List Nat := [0, 1, 3, 7, 15, 7, 39, 103, 255, 511, 1023]
theorem awake4_tab2 : rtab .any (opsOf Tryd.f11 2) = awake4_T2 := by kernel_rfl
theorem awake4_bits2 : waitsOk awake4_T2.2 awake4_B2 = true := by kernel_rfl
set_option maxHeartbeats 4000000 in
set_option maxRecDepth 100000 in
theorem awake4_any (w : World) : Calls Tryd.prog 11 #[] w fun e w' => e = .returned (.bool true) ∧ Below w.heap.size w w' := by
  have hu40 := Tryd.underlying28
  have HY7 := Aside0.mk byt7
  have hlg := new_C w [7] (0, 0) (by decide)
  rw [lit7] at hlg
  have HG := Aside0.mk hlg
  have HB0 := Aside0.mk (below_alloc (Below.refl w.heap.size w) (.cells #[.int .u8 7] 5))
  clear hlg
  have HR : Aside0 (rightF 1 8 [7] = 0) := ⟨by decide⟩
  have HM : Aside0 (signF (makeB 1 8 [7]) = sg [76, 103, 1, 8, 1, 0, 7]) := ⟨by rw [signF_sg (show Byt (makeB 1 8 [7]) from byt7)]; rfl⟩
  obtain ⟨s, hs⟩ : ∃ s, s = sg [76, 103, 1, 8, 1, 0, 7] := ⟨_, rfl⟩
  have HS := Aside0.mk hs
  clear hs
  go_enter Tryd.func11, Tryd.ntmps11
  go_wp2_with (go_at_call 4; refine (make_any 1 8 _ _ [7] _ HG.out (by decide)).mono ?_; rw [HR.out, if_pos rfl, HM.out, ← HS.out]; rintro e w2 ⟨v, rfl, ho, hb⟩; have HO := Aside0.mk ho; have HB2 := Aside0.mk (below_step HB0.out hb); clear ho hb; obtain ⟨Am, cm, em⟩ := Kd.R_slice HO.out; subst em; have HC := Aside0.mk (Kd.R_reads' HO.out).2.2)
  refine start_ (n := 11) (S := fun w' => Below w2.heap.size w2 w') (ds := []) #[false, false, false, false, false, false, false, false, false, false, false] (by kernel_rfl) rfl rfl (below_drew (Below.refl _ _)) (fun hHeld => ?_)
  refine with_tabW awake4_tab2 awake4_bits2 (fun HT_ HW_ => ?_)
  refine pure_ (i := 0) (N := some 9) (v := ?_) (a' := ?_) #[true, false, false, false, false, false, false, false, false, false, false] rfl rfl (any_of HT_.out (by kernel_rfl)) (fun _ _ _ h => h) (Or.inl ⟨by rfl, ?_⟩) ?_ ?_
  rotate_left
  · intro w'
    go_simp
    with_reducible rfl
  rotate_left
  · simp only [Act.put, List.setIfInBounds_toArray, List.set_cons_zero, List.set_cons_succ, i64_w, i32_w]
    rfl
  refine pure_ (i := 1) (N := some 10) (v := ?_) (a' := ?_) #[true, true, false, false, false, false, false, false, false, false, false] rfl rfl (any_of HT_.out (by kernel_rfl)) (fun _ _ _ h => h) (Or.inl ⟨by rfl, ?_⟩) ?_ ?_
  rotate_left
  · intro w'
    go_simp
    with_reducible rfl
  rotate_left
  · simp only [Act.put, List.setIfInBounds_toArray, List.set_cons_zero, List.set_cons_succ, i64_w, i32_w]
    rfl
  refine pure_ (i := 2) (N := some 11) (v := ?_) (a' := ?_) #[true, true, true, false, false, false, false, false, false, false, false] rfl rfl (any_of HT_.out (by kernel_rfl)) (fun _ _ _ h => h) (Or.inl ⟨by rfl, ?_⟩) ?_ ?_
  rotate_left
  · intro w'
    go_simp
    with_reducible rfl
  rotate_left
  · simp only [Act.put, List.setIfInBounds_toArray, List.set_cons_zero, List.set_cons_succ, i64_w, i32_w]
    rfl
  refine pure_ (i := 3) (N := some 12) (v := ?_) (a' := ?_) #[true, true, true, true, false, false, false, false, false, false, false] rfl rfl (any_of HT_.out (by kernel_rfl)) (fun _ _ _ h => h) (Or.inl ⟨by rfl, ?_⟩) ?_ ?_
  rotate_left
  · intro w'
    go_simp
    with_reducible rfl
  rotate_left
  · simp only [Act.put, List.setIfInBounds_toArray, List.set_cons_zero, List.set_cons_succ, i64_w, i32_w]
    rfl
  refine take_ (i := 4) (N := some 13) (v := ?_) (a' := ?_) #[true, true, true, true, true, false, false, false, false, false, false] rfl rfl (take_ofW HT_.out HW_.out (by kernel_rfl)) (fun _ _ _ h => h) (Or.inl ⟨by rfl, ?_⟩) hHeld ?_ ?_
  rotate_left
  · intro w' s0
    have hcv := Kd.C_string (P := Tryd.prog) (A := Am) (c := cm) Tryd.underlying22 Tryd.underlying5 Tryd.underlying9 (Kd.C_below HC.out s0)
    go_simp
    with_reducible rfl
  rotate_left
  · simp only [Act.put, List.setIfInBounds_toArray, List.set_cons_zero, List.set_cons_succ, i64_w, i32_w]
    rfl
  refine one_ (i := 5) (N := some 14) #[true, true, true, true, true, true, false, false, false, false, false] rfl rfl (one_of HT_.out (by kernel_rfl)) (by decide) (fun K hK => ?_)
  refine value_ (w1 := ?_) (v := ?_) (by rfl) rfl ?_ ?_
  rotate_left 2
  · go_simp
    constructor
    · rfl
    · rfl
  refine hK.out _ _ (below_alloc hHeld _) (fun hHeld => ?_)
  clear hK K
  refine norm_ (a' := ?_) ?_ ?_
  rotate_left
  · show Act.put _ (some 14) _ = _
    simp only [Act.put, List.setIfInBounds_toArray, List.set_cons_zero, List.set_cons_succ, i64_w, i32_w]
    rfl
  refine one_ (i := 6) (N := some 15) #[true, true, true, true, true, true, true, false, false, false, false] rfl rfl (one_of HT_.out (by kernel_rfl)) (by decide) (fun K hK => ?_)
  refine goes_ Tryd.func13 (by kernel_rfl) rfl #[.slice (some ⟨w2.heap.size, 0, none⟩) 7 7] (by rfl) rfl rfl (by (try simp only [List.map_toArray, List.map_cons, List.map_nil]); first | done | rfl) ?_
  refine (refsign_any _ 7 [76, 103, 1, 8, 1, 0, 7] _ (Kd.C_drew (new_C w2 [76, 103, 1, 8, 1, 0, 7] (0, 0) (by decide))) (Nat.le_refl 7) HY7.out (by decide)).mono ?_
  rintro e w3 ⟨v3, rfl, ho, hb⟩
  refine ⟨_, rfl, ?_⟩
  have HO3 := Aside0.mk ho
  have HB3 := Aside0.mk (below_then hHeld hHeld.size hb)
  clear ho hb
  obtain ⟨Ao, co, eo⟩ := Kd.R_slice HO3.out
  subst eo
  refine hK.out _ _ HB3.out (fun hHeld => ?_)
  clear hK K
  refine norm_ (a' := ?_) ?_ ?_
  rotate_left
  · show Act.put _ (some 15) _ = _
    simp only [Act.put, List.setIfInBounds_toArray, List.set_cons_zero, List.set_cons_succ, i64_w, i32_w]
    rfl
  refine one_ (i := 7) (N := some 16) #[true, true, true, true, true, true, true, true, false, false, false] rfl rfl (one_of HT_.out (by kernel_rfl)) (by decide) (fun K hK => ?_)
  have hcv := Kd.C_string (P := Tryd.prog) (A := Ao) (c := co) Tryd.underlying22 Tryd.underlying5 Tryd.underlying9 (Kd.R_reads' HO3.out).2.2
  refine value_ (w1 := ?_) (v := ?_) (by rfl) rfl ?_ ?_
  rotate_left 2
  · go_simp
    constructor
    · rfl
    · rfl
  clear hcv
  refine hK.out _ _ HB3.out (fun hHeld => ?_)
  clear hK K
  refine norm_ (a' := ?_) ?_ ?_
  rotate_left
  · show Act.put _ (some 16) _ = _
    simp only [Act.put, List.setIfInBounds_toArray, List.set_cons_zero, List.set_cons_succ, i64_w, i32_w]
    rfl
  refine pure_ (i := 8) (N := some 17) (v := ?_) (a' := ?_) #[true, true, true, true, true, true, true, true, true, false, false] rfl rfl (any_of HT_.out (by kernel_rfl)) (fun _ _ _ h => h) (Or.inl ⟨by rfl, ?_⟩) ?_ ?_
  rotate_left
  · intro w'
    go_simp
    with_reducible rfl
  rotate_left
  · simp only [Act.put, List.setIfInBounds_toArray, List.set_cons_zero, List.set_cons_succ, i64_w, i32_w]
    rfl
  refine pure_ (i := 9) (N := some 18) (v := ?_) (a' := ?_) #[true, true, true, true, true, true, true, true, true, true, false] rfl rfl (any_of HT_.out (by kernel_rfl)) (fun _ _ _ h => h) (Or.inl ⟨by rfl, ?_⟩) ?_ ?_
  rotate_left
  · intro w'
    go_simp
    with_reducible rfl
  rotate_left
  · simp only [Act.put, List.setIfInBounds_toArray, List.set_cons_zero, List.set_cons_succ, i64_w, i32_w]
    rfl
  refine pure_ (i := 10) (N := some 0) (v := ?_) (a' := ?_) #[true, true, true, true, true, true, true, true, true, true, true] rfl rfl (any_of HT_.out (by kernel_rfl)) (fun _ _ _ h => h) (Or.inl ⟨by rfl, ?_⟩) ?_ ?_
  rotate_left
  · intro w'
    go_simp
    with_reducible rfl
  rotate_left
  · simp only [Act.put, List.setIfInBounds_toArray, List.set_cons_zero, List.set_cons_succ, i64_w, i32_w]
    rfl
  refine done_ (done_of HT_.out (by kernel_rfl)) ?_
  go_wp2
  go_ret
  exact ⟨by simp [HS.out], below_step HB2.out HB3.out⟩
end Go.Proofs.YtonbphiaideleaaDoor.M
/- What the printed walks of chapters 04 and 05 stand on. -/
