/- The reference of the checksum, walked. -/
import Derived.Test.YtonbphiaideleaaMconn
import Derived.Test.YtonbphiaideleaaWRepsOne
import Derived.Test.YtonbphiaideleaaWInvWords
import Derived.Test.YtonbphiaideleaaWTab
import Derived.Test.YtonbphiaideleaaWFour
import Derived.BigQuiet
import Derived.Deep.QuietTactic
import Derived.Deep.RegionWith
namespace Go.Proofs.Ytonbphiaideleaa.M
open Go.RowKit Go.Proofs.YtonbphiaideleaaW.PrintWords
set_option linter.unusedVariables false
set_option linter.unusedSimpArgs false

theorem byt_rd {l : List Int} (h : Byt l) {i : Int} (h0 : 0 ≤ i) (h1 : i < l.length) : ∃ c : Nat, rd l i = (c : Int) ∧ c < 256 := by
  have hi : i.toNat < l.length := by omega
  have e : rd l i = l[i.toNat] := by simp [rd, hi]
  have hm := h l[i.toNat] (List.getElem_mem hi)
  exact ⟨(rd l i).toNat, by rw [e]; omega, by rw [e]; omega⟩
theorem reg_snoc (x : Nat) (l : List Int) (k : Nat) (hk : k < l.length) : reg x (l.take (k + 1)) = Tn 8 (reg x (l.take k) ^^^ (rd l k).toNat) := by
  rw [List.take_succ_eq_append_getElem hk, reg_append]
  simp [reg, rd, hk]

set_option maxHeartbeats 1000000 in
set_option maxRecDepth 100000 in
theorem refof_any (A : Option Addr) (c : Nat) (l : List Int) (w : World) (hr : Kd.C (Kd.int .u8) w A l.length l) (hc : l.length ≤ c) (hb : Byt l) :
    Calls Try.prog 18 #[.slice A l.length c] w fun e w' => e = .returned (.int .u32 ((crcN 0 l : Nat) : Int)) ∧ w = w' := by
  have hlen : l.length ≤ 9223372036854775807 := hr.2.1
  have HR := Aside0.mk hr
  clear hr
  have HY := Aside0.mk hb
  clear hb
  go_enter Try.func18, Try.ntmps18
  go_wp2
  go_loopg [3, 4] l.length (fun g s3 s4 wx => ∃ i : Nat, i + g = l.length ∧ s4 = .int .i64 i ∧ s3 = .int .u32 ((reg F32 (l.take i) : Nat) : Int) ∧ w = wx)
  case atStart => exact ⟨0, by omega, rfl, rfl, rfl⟩
  case round =>
    obtain ⟨i, hig, rfl, rfl, rfl⟩ := hrel
    have HX := reg_lt F32_lt (HY.out.take i)
    cases gk with
    | zero =>
      have hi : ¬ (i : Int) < (l.length : Int) := by omega
      have hdi : decide (i < l.length) = false := by simp; omega
      rw [show l.take i = l from List.take_of_length_le (by omega)] at HX ⊢
      have HC : Aside0 (crcN 0 l = F32 - reg F32 l) := ⟨by rw [F32_sub HX]; rfl⟩
      obtain ⟨x, hx⟩ : ∃ x, x = reg F32 l := ⟨_, rfl⟩
      rw [← hx] at HC HX ⊢
      have HF : Aside0 (F32 = 4294967295) := ⟨rfl⟩
      clear hx
      have hxz : (x : Int) ≤ 4294967295 := by omega
      go_wp2
      go_ret
      refine ⟨?_, rfl⟩
      show Ending.returned (.int .u32 (4294967295 - (x : Int))) = _
      rw [HC.out, HF.out, Int.ofNat_sub (by omega)]
      rfl
    | succ g =>
      have hlt : i < l.length := by omega
      have hi : (i : Int) < (l.length : Int) := by omega
      obtain ⟨ad, hA, hcell⟩ := Kd.at_int HR.out i (by omega) (by omega)
      obtain ⟨b, hb, hb2⟩ := byt_rd HY.out (i := i) (by omega) hi
      have HS := Aside0.mk (reg_snoc F32 l i hlt)
      rw [hb, Int.toNat_natCast] at HS
      rw [hb] at hcell
      clear hb
      cases hA
      simp only [Int.toNat_natCast] at hcell
      obtain ⟨cb, hcb⟩ : ∃ cb : Int, cb = (b : Int) := ⟨_, rfl⟩
      rw [← hcb] at hcell
      have hcb0 : 0 ≤ cb := by omega
      have hcb1 : cb < 256 := by omega
      have HCB := Aside0.mk hcb
      clear hcb
      obtain ⟨x, hx⟩ : ∃ x, x = reg F32 (l.take i) := ⟨_, rfl⟩
      rw [← hx] at HS HX ⊢
      clear hx
      go_wp2
      go_loopg [3, 5] 8 (fun g2 s3 s5 wx => ∃ j : Nat, j + g2 = 8 ∧ s5 = .int .i64 j ∧ s3 = .int .u32 ((rs x b j : Nat) : Int) ∧ w = wx)
      case atStart => exact ⟨0, by omega, rfl, by rw [rs_zero], rfl⟩
      case round =>
        obtain ⟨j, hjg, rfl, rfl, rfl⟩ := hrel
        have HT := Aside0.mk (rs_succ x b j)
        have hlt2 := rs_lt (j := j) HX (show b < 2 ^ 32 by omega)
        obtain ⟨y, hy⟩ : ∃ y, y = rs x b j := ⟨_, rfl⟩
        rw [← hy] at HT hlt2 ⊢
        cases gk with
        | zero =>
          obtain rfl : j = 8 := by omega
          have hj : ¬ ((8 : Nat) : Int) < 8 := by omega
          have HY8 : Aside0 (y = Tn 8 (x ^^^ b)) := ⟨by rw [hy, rs_eight hb2]⟩
          clear hy HT
          go_wp2
          go_roundg g
          case measure => omega
          case rel => exact ⟨i + 1, by omega, by first | rfl | simp, by rw [HS.out, HY8.out], rfl⟩
        | succ g2 =>
          clear hy
          have hj : (j : Int) < 8 := by omega
          obtain ⟨z, hz⟩ : ∃ z : Int, z = (y : Int) := ⟨_, rfl⟩
          rw [← hz]
          have hz0 : 0 ≤ z := by omega
          have hz1 : z < 4294967296 := by omega
          have HZ := Aside0.mk hz
          clear hz
          have HLT := Aside0.mk hlt2
          have HX' := Aside0.mk HX
          clear hlt2 HX
          have he : (z % 2 != cb / 2 ^ j % 2) = decide (y % 2 ≠ b / 2 ^ j % 2) := by
            have h1 : z % 2 = ((y % 2 : Nat) : Int) := by rw [HZ.out]; omega
            have h2 : cb / 2 ^ j % 2 = ((b / 2 ^ j % 2 : Nat) : Int) := by rw [HCB.out]; norm_cast
            rw [h1, h2]
            generalize y % 2 = p
            generalize b / 2 ^ j % 2 = q
            by_cases e : p = q
            · subst e; simp
            · have e2 : (p : Int) ≠ (q : Int) := by omega
              rw [bne_iff_ne.mpr e2, decide_eq_true e]
          by_cases hq : y % 2 ≠ b / 2 ^ j % 2
          · have hb1 : (z % 2 != cb / 2 ^ j % 2) = true := by rw [he]; exact decide_eq_true hq
            have HQ : Aside0 (rs x b (j + 1) = y / 2 ^^^ poly) := ⟨by rw [HT.out, if_pos hq]⟩
            clear he hq HT
            go_wp2
            go_roundg g2
            case measure => omega
            case rel =>
              refine ⟨j + 1, by omega, by first | rfl | simp, ?_, rfl⟩
              have hz2 : z / 2 = ((y / 2 : Nat) : Int) := by rw [HZ.out]; omega
              have := HLT.out
              rw [HQ.out, hz2, show (2197175160 : Int) = ((poly : Nat) : Int) from rfl, bits_xor_u32 (by omega) poly_lt]
          · have hb1 : (z % 2 != cb / 2 ^ j % 2) = false := by rw [he]; exact decide_eq_false hq
            have HQ : Aside0 (rs x b (j + 1) = y / 2) := ⟨by rw [HT.out, if_neg hq]⟩
            clear he hq HT
            go_wp2
            go_roundg g2
            case measure => omega
            case rel =>
              refine ⟨j + 1, by omega, by first | rfl | simp, ?_, rfl⟩
              have hz2 : z / 2 = ((y / 2 : Nat) : Int) := by rw [HZ.out]; omega
              rw [HQ.out, hz2]

theorem le4_crc (s : Nat) (hs : s < 2 ^ 32) : le4 (s : Int) = [(s : Int) % 256, (s : Int) / 256 % 256, (s : Int) / 65536 % 256, (s : Int) / 16777216] := by
  simp only [le4, List.cons.injEq, and_true, true_and]
  omega
/-- Signed bytes, by the register. -/
def sg (l : List Int) : List Int := l ++ le4 ((crcN 0 l : Nat) : Int)
theorem signF_sg {l : List Int} (h : Byt l) : signF l = sg l := by rw [signF, sumF_crc h, sg]

set_option maxHeartbeats 1000000 in
set_option maxRecDepth 100000 in
theorem refsign_any (A : Option Addr) (c : Nat) (l : List Int) (w : World) (hr : Kd.C (Kd.int .u8) w A l.length l) (hc : l.length ≤ c) (hb : Byt l) (hl : l.length + 4 < 140737488355328) :
    Calls Try.prog 22 #[.slice A l.length c] w fun e w' => ∃ v : Value, e = .returned v ∧ Kd.R (Kd.int .u8) 5 w' w.heap.size (fun _ => True) v (sg l) ∧ Below w.heap.size w w' := by
  have HX := crcN_lt (s := 0) (by decide) hb
  obtain ⟨x, hx⟩ : ∃ x, x = crcN 0 l := ⟨_, rfl⟩
  obtain ⟨z, hz⟩ : ∃ z : Int, z = (x : Int) := ⟨_, rfl⟩
  have hz0 : 0 ≤ z := by omega
  have hz1 : z < 4294967296 := by omega
  have HZ := Aside0.mk (show z = ((crcN 0 l : Nat) : Int) by rw [hz, hx])
  have HLE := Aside0.mk (show sg l = l ++ [z % 256, z / 256 % 256, z / 65536 % 256, z / 16777216] by rw [sg, ← hx, le4_crc x (by omega), ← hz])
  clear hx hz HX
  have HR := Aside0.mk hr
  clear hr
  have HY := Aside0.mk hb
  clear hb
  have HL := Aside0.mk hl
  clear hl
  have HB := Aside0.mk (Below.refl w.heap.size w)
  go_enter Try.func22, Try.ntmps22
  go_wp2_with (first
    | (go_at_call 18; refine (refof_any _ _ _ _ HR.out hc HY.out).mono ?_; rw [← HZ.out]; rintro e w1 ⟨rfl, rfl⟩)
    | ((with_reducible refine gate_dst (N := 6) rfl ?_); refine Kd.R_lit (Kd.int .u8) _ 5 ?hg (N := 6) ?hd (xs := ([] : List Int)) (inner := []) (ok := fun _ => True) (okp := fun _ => True) ?hr ?hp (fun _ hk => hk) trivial (Below.refl _ _) (Nat.le_refl _) (by simp) ?_; (case hd => rfl); (case hg => rfl); (case hr => first | (go_simp; done) | (go_simp; rfl)); (case hp => exact (Reps.none _ _)); intro v1 w1 ho hb hg_ hnew_; have HO := Aside0.mk ho; have HB1 := Aside0.mk hb; clear hg_ hnew_ ho hb)
    | ((with_reducible refine gate_builtin (b := .append) (xs := #[.tmp 6, .tmp 7]) rfl ?_); at_builtin; refine Kd.R_append_rows (Kd.int .u8) (w0 := w) w.heap.size rfl (.tmp 6) (.tmp 7) 23 5 (.int .u8 0) 1 rfl Try.underlying23 info5 rfl (by decide) (by omega) v1 [] l _ _ _ (fun _ => True) (fun _ => False) rfl rfl HO.out (Kd.C_below HR.out HB1.out) (fun _ _ h => h) (fun _ h => h.elim) (fun _ _ => trivial) HB1.out HB1.out.size (by have := HL.out; simp only [List.length_nil]; omega) ?_; intro v2 w2 ho hb hg hat; have HO2 := Aside0.mk ho; have HB2 := Aside0.mk hb; clear ho hb hg hat)
    | ((with_reducible refine gate_dst (N := 23) rfl ?_); refine Kd.R_lit (Kd.int .u8) _ 5 ?hg (N := 23) ?hd (xs := ([z % 256, z / 256 % 256, z / 65536 % 256, z / 16777216] : List Int)) (inner := [.int .u8 (z % 256), .int .u8 (z / 256 % 256), .int .u8 (z / 65536 % 256), .int .u8 (z / 16777216)]) (ok := fun _ => True) (okp := fun _ => True) ?hr ?hp (fun _ hk => hk) trivial (Below.refl _ _) (Nat.le_refl _) (by simp) ?_; (case hd => rfl); (case hg => rfl); (case hr => first | (go_simp; done) | (go_simp; rfl)); (case hp => exact (Reps.one (show Kd.M (Kd.int .u8) _ _ _ (z % 256) [.int .u8 (z % 256)] from rfl) (Reps.one (show Kd.M (Kd.int .u8) _ _ _ (z / 256 % 256) [.int .u8 (z / 256 % 256)] from rfl) (Reps.one (show Kd.M (Kd.int .u8) _ _ _ (z / 65536 % 256) [.int .u8 (z / 65536 % 256)] from rfl) (Reps.one (show Kd.M (Kd.int .u8) _ _ _ (z / 16777216) [.int .u8 (z / 16777216)] from rfl) (Reps.none _ _)))))); intro v3 w3 ho hb hg_ hnew_; have HO3 := Aside0.mk ho; have HO2' := Aside0.mk (Kd.R_below HO2.out hb); have HB3 := Aside0.mk (below_then HB2.out HB2.out.size hb); clear hg_ hnew_ ho hb; obtain ⟨Ao, co, eo⟩ := Kd.R_slice HO3.out; subst eo)
    | ((with_reducible refine gate_builtin (b := .append) (xs := #[.tmp 8, .tmp 23]) rfl ?_); at_builtin; refine Kd.R_append_rows (Kd.int .u8) (w0 := w) w.heap.size rfl (.tmp 8) (.tmp 23) 23 5 (.int .u8 0) 1 rfl Try.underlying23 info5 rfl (by decide) (by omega) v2 ([] ++ l) [z % 256, z / 256 % 256, z / 65536 % 256, z / 16777216] _ _ _ (fun _ => True) (fun _ => False) rfl rfl HO2'.out (Kd.R_reads' HO3.out).2.2 (fun _ _ h => h) (fun _ h => h.elim) (fun _ _ => trivial) HB3.out HB3.out.size (by have := HL.out; simp only [List.nil_append, List.length_cons, List.length_nil]; omega) ?_; intro v4 w4 ho hb hg hat; have HO4 := Aside0.mk ho; have HB4 := Aside0.mk hb; clear ho hb hg hat))
  go_ret
  exact ⟨_, rfl, by rw [HLE.out]; simpa using HO4.out, HB4.out⟩
end Go.Proofs.Ytonbphiaideleaa.M
