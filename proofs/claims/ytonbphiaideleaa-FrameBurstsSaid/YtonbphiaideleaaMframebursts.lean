/- lacunalaw04.FrameBursts: the walk. -/
import Derived.Test.YtonbphiaideleaaMframeback
namespace Go.Proofs.Ytonbphiaideleaa.M
open Go.RowKit Go.Proofs.YtonbphiaideleaaW.PrintWords Go.Proofs.YtonbphiaideleaaW.PrintLast Go.Proofs.YtonbphiaideleaaW.PrintMore
set_option linter.unusedVariables false
set_option linter.unusedSimpArgs false
theorem parF_burst {x y : Int} {l : List Int} (h : rightF x y l = 0) (hb : Byt l) (a p : Nat) (hp : p < 2 ^ 32) (ha : a ≤ 8 * (l.length + 4)) :
    parF ((frB x y l).take 6 ++ tur ((frB x y l).drop 6) a p) = if tur ((frB x y l).drop 6) a p = (frB x y l).drop 6 then (x, y, l, (l.length : Int) + 10, 0) else (0, 0, [], 0, 6) := by
  have hg := frB_burst h hb a p hp ha
  have hlen := frB_length x y l
  have hl6 := tur_length ((frB x y l).drop 6) a p
  rw [List.length_drop] at hl6
  obtain ⟨D, hD⟩ : ∃ D, D = tur ((frB x y l).drop 6) a p := ⟨_, rfl⟩
  rw [← hD] at hg hl6 ⊢
  by_cases hd : D = (frB x y l).drop 6
  · rw [if_pos hd, hd, List.take_append_drop]
    have := parF_make h hb []
    rwa [List.append_nil] at this
  · rw [if_neg hd]
    rw [decide_eq_false hd] at hg
    obtain ⟨h1, h2, h3⟩ := rightF_zero h
    have ht : ((frB x y l).take 6 ++ D).length = l.length + 10 := by rw [List.length_append, List.length_take]; omega
    have hh : headF ((frB x y l).take 6 ++ D) = ((l.length : Int), 0) := by
      obtain ⟨s, hs4, he⟩ := frB_eq x y l
      rw [he]
      simp only [List.take_succ_cons, List.take_zero, List.cons_append, List.nil_append]
      rw [headF_six h1 h2 (by rw [len_split h3]; omega), len_split h3]
    unfold parF
    rw [hh]
    simp only [Int.toNat_natCast]
    rw [if_pos trivial, if_neg (by rw [ht]; omega), List.take_of_length_le (by rw [ht]; exact Nat.le_refl _), if_neg (by rw [hg]; decide)]
set_option maxHeartbeats 8000000 in
set_option maxRecDepth 100000 in
theorem framebursts_A (x y : Int) (A : Option Addr) (c : Nat) (l : List Int) (at_ pat : Int) (w : World) (hr : Kd.C (Kd.int .u8) w A l.length l) (hc : l.length ≤ c) (hb : Byt l) (hat : 0 ≤ at_ ∧ at_ < 4294967296) (hpat : 0 ≤ pat ∧ pat < 4294967296) (r : Int) (he : rightF x y l = r) (hz : (r == 0) = false) :
    Calls Try.prog 10 #[.agg #[.int .u8 x, .int .u8 y, .slice A l.length c], .int .u32 at_, .int .u32 pat] w fun e w' => e = .returned (.bool true) ∧ Below w.heap.size w w' := by
  have hu44 := Try.underlying44
  have HR := Aside0.mk hr
  have HE := Aside0.mk he
  have hz2 : (r != 0) = true := by rw [bne, hz]; rfl
  clear hr hb hat hpat he
  go_enter Try.func10, Try.ntmps10
  go_wp2_with (first
    | ((with_reducible refine gate_dst (N := 3) rfl ?_); refine box_event ?hg (N := 3) ?hd (cs := #[.int .u8 x, .int .u8 y, .slice A l.length c]) (t := 44) ?hr ?_; (case hd => rfl); (case hg => rfl); (case hr => first | (go_simp; done) | (go_simp; rfl)); intro g hg w1 hbox hbb; have HB1 := Aside0.mk hbb; have HG1 := Aside0.mk hbox; have HGE := Aside0.mk (show w.heap.size ≤ g by rw [hg]; exact Nat.le_refl _); have hz0 : w1.cell? ⟨g, 0, none⟩ = some (.int .u8 x) := (blk_cell HG1.out 0).trans rfl; have hz1 : w1.cell? ⟨g, 1, none⟩ = some (.int .u8 y) := (blk_cell HG1.out 1).trans rfl; have hz2 : w1.cell? ⟨g, 2, none⟩ = some (.slice A l.length c) := (blk_cell HG1.out 2).trans rfl; clear hbox hbb hg)
    | (go_at_call 31; refine (refright_any x y _ _ l _ (Kd.C_below HR.out HB1.out) hc).mono ?_; rw [HE.out]; rintro e w2 ⟨rfl, hb⟩; have HB2 := Aside0.mk (below_step HB1.out hb); have HG2 := Aside0.mk (blk_below HG1.out hb); clear hb hz0 hz1 hz2; have hz0 : w2.cell? ⟨g, 0, none⟩ = some (.int .u8 x) := (blk_cell HG2.out 0).trans rfl; have hz1 : w2.cell? ⟨g, 1, none⟩ = some (.int .u8 y) := (blk_cell HG2.out 1).trans rfl; have hz2 : w2.cell? ⟨g, 2, none⟩ = some (.slice A l.length c) := (blk_cell HG2.out 2).trans rfl))
  go_ret
  exact ⟨rfl, HB2.out⟩

set_option maxHeartbeats 8000000 in
set_option maxRecDepth 100000 in
theorem framebursts_B (x y : Int) (A : Option Addr) (c : Nat) (l : List Int) (at_ pat : Int) (w : World) (hr : Kd.C (Kd.int .u8) w A l.length l) (hc : l.length ≤ c) (hb : Byt l) (hat : 0 ≤ at_ ∧ at_ < 4294967296) (hpat : 0 ≤ pat ∧ pat < 4294967296) (he : rightF x y l = 0) (hn : 300 < l.length) :
    Calls Try.prog 10 #[.agg #[.int .u8 x, .int .u8 y, .slice A l.length c], .int .u32 at_, .int .u32 pat] w fun e w' => e = .returned (.bool true) ∧ Below w.heap.size w w' := by
  have hu44 := Try.underlying44
  have HR := Aside0.mk hr
  have HE := Aside0.mk he
  have hd1 : decide ((300 : Int) < (l.length : Int)) = true := by simp; omega
  have hd2 : decide (300 < l.length) = true := by simp; omega
  clear hr hb hat hpat he hn
  go_enter Try.func10, Try.ntmps10
  go_wp2_with (first
    | ((with_reducible refine gate_dst (N := 3) rfl ?_); refine box_event ?hg (N := 3) ?hd (cs := #[.int .u8 x, .int .u8 y, .slice A l.length c]) (t := 44) ?hr ?_; (case hd => rfl); (case hg => rfl); (case hr => first | (go_simp; done) | (go_simp; rfl)); intro g hg w1 hbox hbb; have HB1 := Aside0.mk hbb; have HG1 := Aside0.mk hbox; have HGE := Aside0.mk (show w.heap.size ≤ g by rw [hg]; exact Nat.le_refl _); have hz0 : w1.cell? ⟨g, 0, none⟩ = some (.int .u8 x) := (blk_cell HG1.out 0).trans rfl; have hz1 : w1.cell? ⟨g, 1, none⟩ = some (.int .u8 y) := (blk_cell HG1.out 1).trans rfl; have hz2 : w1.cell? ⟨g, 2, none⟩ = some (.slice A l.length c) := (blk_cell HG1.out 2).trans rfl; clear hbox hbb hg)
    | (go_at_call 31; refine (refright_any x y _ _ l _ (Kd.C_below HR.out HB1.out) hc).mono ?_; rw [HE.out]; rintro e w2 ⟨rfl, hb⟩; have HB2 := Aside0.mk (below_step HB1.out hb); have HG2 := Aside0.mk (blk_below HG1.out hb); clear hb hz0 hz1 hz2; have hz0 : w2.cell? ⟨g, 0, none⟩ = some (.int .u8 x) := (blk_cell HG2.out 0).trans rfl; have hz1 : w2.cell? ⟨g, 1, none⟩ = some (.int .u8 y) := (blk_cell HG2.out 1).trans rfl; have hz2 : w2.cell? ⟨g, 2, none⟩ = some (.slice A l.length c) := (blk_cell HG2.out 2).trans rfl))
  go_ret
  exact ⟨rfl, HB2.out⟩

set_option maxHeartbeats 8000000 in
set_option maxRecDepth 100000 in
theorem framebursts_C (x y : Int) (A : Option Addr) (c : Nat) (l : List Int) (at_ pat : Int) (w : World) (hr : Kd.C (Kd.int .u8) w A l.length l) (hc : l.length ≤ c) (hb : Byt l) (hat : 0 ≤ at_ ∧ at_ < 4294967296) (hpat : 0 ≤ pat ∧ pat < 4294967296) (he : rightF x y l = 0) (hn : l.length ≤ 300) (m : Int) (hm : m = at_ % (8 * ((l.length : Int) + 4))) (hdq : tur ((frB x y l).drop 6) m.toNat pat.toNat = (frB x y l).drop 6) :
    Calls Try.prog 10 #[.agg #[.int .u8 x, .int .u8 y, .slice A l.length c], .int .u32 at_, .int .u32 pat] w fun e w' => e = .returned (.bool true) ∧ Below w.heap.size w w' := by
  have hu44 := Try.underlying44
  have hu40 := Try.underlying40
  have HR := Aside0.mk hr
  have HE := Aside0.mk he
  have HY := Aside0.mk hb
  have hd1 : decide ((300 : Int) < (l.length : Int)) = false := by simp; omega
  have hd2 : decide (300 < l.length) = false := by simp; omega
  obtain ⟨B, hB⟩ : ∃ B, B = frB x y l := ⟨_, rfl⟩
  have hBl : B.length = l.length + 10 := by rw [hB, frB_length]
  have HBs : Aside0 (signF (makeB x y l) = B) := ⟨by rw [hB, frB_sign he hb]⟩
  have HYB : Aside0 (Byt B) := ⟨by rw [hB]; exact frB_byt he hb⟩
  have hd10 : decide ((B.length : Int) < 10) = false := by simp; omega
  have hd10' : decide (B.length < 10) = false := by simp; omega
  obtain ⟨R, hR⟩ : ∃ R, R = B.drop 6 := ⟨_, rfl⟩
  have hRl : R.length = l.length + 4 := by rw [hR, List.length_drop]; omega
  obtain ⟨P6, hP6⟩ : ∃ P, P = B.take 6 := ⟨_, rfl⟩
  obtain ⟨D, hD⟩ : ∃ D, D = tur R m.toNat pat.toNat := ⟨_, rfl⟩
  have hDl : D.length = R.length := by rw [hD, tur_length]
  have HYR : Aside0 (Byt R) := ⟨by rw [hR]; exact HYB.out.drop 6⟩
  have HYD : Aside0 (Byt D) := ⟨by rw [hD]; exact tur_byt _ _ HYR.out⟩
  obtain ⟨M, hM⟩ : ∃ M, M = P6 ++ D := ⟨_, rfl⟩
  have HMe : Aside0 (P6 ++ D = M) := ⟨hM.symm⟩
  have HYM : Aside0 (Byt M) := ⟨by rw [hM, hP6]; exact fun z hz => (List.mem_append.1 hz).elim (HYB.out.take 6 z) (HYD.out z)⟩
  have hm0 : 0 ≤ m := by rw [hm]; exact Int.emod_nonneg _ (by omega)
  have hm1 : m < 8 * ((l.length : Int) + 4) := by rw [hm]; exact Int.emod_lt_of_pos _ (by omega)
  have hpar := parF_burst he hb m.toNat pat.toNat (by omega) (by omega)
  rw [if_pos hdq, ← hB, ← hR, ← hP6, ← hD, ← hM] at hpar
  have HPM : Aside0 (parF M = (x, y, l, (B.length : Int), 0)) := ⟨by rw [hpar, hBl]; congr 1⟩
  rw [← hB, ← hR, ← hD] at hdq
  have hse : ((strOfNums D).toList == (strOfNums R).toList) = true := by rw [str_eq HYD.out HYR.out, decide_eq_true hdq]
  have HLM : Aside0 (M.length < 140737488355328) := ⟨by rw [hM, hP6, List.length_append, List.length_take]; omega⟩
  have HLP : Aside0 (P6.length ≤ 140737488355328) := ⟨by rw [hP6, List.length_take]; omega⟩
  have HLPD : Aside0 (P6.length + D.length ≤ 140737488355328) := ⟨by rw [hP6, List.length_take]; omega⟩
  have HL47 : Aside0 (l.length < 140737488355328) := ⟨by omega⟩
  have HLR : Aside0 (R.length ≤ 1000000) := ⟨by omega⟩
  obtain ⟨q, hq⟩ : ∃ q : Int, q = 8 * (R.length : Int) := ⟨_, rfl⟩
  have hq8 : 8 * (R.length : Int) = q := hq.symm
  have hq64 : wrap64 q = q := by unfold wrap64; omega
  have hqm : q % 4294967296 = q := by omega
  have hq0 : (q == 0) = false := by rw [beq_eq_false_iff_ne]; omega
  have hq00 : ¬ (q = 0) := by omega
  have hqe : q = 8 * ((l.length : Int) + 4) := by omega
  have hmod : at_ % q = m := by rw [hqe, hm]
  have htm : Int.tmod at_ q = m := by rw [Int.tmod_eq_emod_of_nonneg hat.1]; exact hmod
  have hm64 : wrap64 m = m := by unfold wrap64; omega
  have hm32 : m % 4294967296 = m := by omega
  have HM : Aside0 (0 ≤ m ∧ m ≤ 8 * (R.length : Int)) := ⟨by omega⟩
  have HPAT := Aside0.mk hpat
  have HDD := Aside0.mk hD
  have HCUT := Aside0.mk hP6
  have HCUTR := Aside0.mk hR
  have HnB : Aside0 (6 ≤ B.length) := ⟨by omega⟩
  have hnBi : (6 : Int) ≤ (B.length : Int) := by omega
  obtain ⟨i05, hi05, _, hsz5, _⟩ := info_parts info5
  have HI := Aside0.mk hi05
  have Hsz := Aside0.mk hsz5
  clear hr hb hat hpat he hn hB hM hP6 hR hRl hD hDl hi05 hsz5 hBl hpar hm0 hm1 hm hqe hq hdq
  go_enter Try.func10, Try.ntmps10
  go_wp2_with (first
    | ((with_reducible refine gate_dst (N := 3) rfl ?_); refine box_event ?hg (N := 3) ?hd (cs := #[.int .u8 x, .int .u8 y, .slice A l.length c]) (t := 44) ?hr ?_; (case hd => rfl); (case hg => rfl); (case hr => first | (go_simp; done) | (go_simp; rfl)); intro g hg w1 hbox hbb; have HB1 := Aside0.mk hbb; have HG1 := Aside0.mk hbox; have HGE := Aside0.mk (show w.heap.size ≤ g by rw [hg]; exact Nat.le_refl _); have hz0 : w1.cell? ⟨g, 0, none⟩ = some (.int .u8 x) := (blk_cell HG1.out 0).trans rfl; have hz1 : w1.cell? ⟨g, 1, none⟩ = some (.int .u8 y) := (blk_cell HG1.out 1).trans rfl; have hz2 : w1.cell? ⟨g, 2, none⟩ = some (.slice A l.length c) := (blk_cell HG1.out 2).trans rfl; clear hbox hbb hg)
    | (go_at_call 31; refine (refright_any x y _ _ l _ (Kd.C_below HR.out HB1.out) hc).mono ?_; rw [HE.out]; rintro e w2 ⟨rfl, hb⟩; have HB2 := Aside0.mk (below_step HB1.out hb); have HG2 := Aside0.mk (blk_below HG1.out hb); clear hb hz0 hz1 hz2; have hz0 : w2.cell? ⟨g, 0, none⟩ = some (.int .u8 x) := (blk_cell HG2.out 0).trans rfl; have hz1 : w2.cell? ⟨g, 1, none⟩ = some (.int .u8 y) := (blk_cell HG2.out 1).trans rfl; have hz2 : w2.cell? ⟨g, 2, none⟩ = some (.slice A l.length c) := (blk_cell HG2.out 2).trans rfl)
    | (go_at_call 33; refine (own_any x y _ _ l _ (Kd.C_below HR.out HB2.out) hc HL47.out).mono ?_; rintro e w3 ⟨v3, rfl, ho, hb⟩; have HO3 := Aside0.mk ho; have HB3 := Aside0.mk (below_step HB2.out hb); have HG3 := Aside0.mk (blk_below HG2.out hb); clear hb ho hz0 hz1 hz2; obtain ⟨A3, c3, e3⟩ := Kd.R_slice HO3.out; subst e3)
    | (go_at_call 32; refine (make_any x y _ _ l _ (Kd.R_reads' HO3.out).2.2 (Kd.R_reads' HO3.out).2.1).mono ?_; rw [HE.out, if_pos rfl, HBs.out]; rintro e w4 ⟨v4, rfl, ho, hb⟩; have HO4 := Aside0.mk ho; have HB4 := Aside0.mk (below_step HB3.out hb); have HG4 := Aside0.mk (blk_below HG3.out hb); clear hb ho; obtain ⟨A4, c4, e4⟩ := Kd.R_slice HO4.out; subst e4; have HC4 := Aside0.mk (Kd.R_reads' HO4.out).2.2; have HCc := Aside0.mk (Kd.R_reads' HO4.out).2.1; have hz0 : w4.cell? ⟨g, 0, none⟩ = some (.int .u8 x) := (blk_cell HG4.out 0).trans rfl; have hz1 : w4.cell? ⟨g, 1, none⟩ = some (.int .u8 y) := (blk_cell HG4.out 1).trans rfl; have hz2 : w4.cell? ⟨g, 2, none⟩ = some (.slice A l.length c) := (blk_cell HG4.out 2).trans rfl; obtain ⟨p0, hp0, hcutp, hCp, hpc⟩ := cutT (k := Kd.int .u8) Try.underlying23 HI.out HC4.out HCc.out (6 : Int) 6 rfl HnB.out; obtain rfl : P6 = p0 := HCUT.out.trans hp0.symm; have HCp := Aside0.mk hCp; have Hpc := Aside0.mk hpc; clear hp0 hCp hpc; obtain ⟨AR, r0, hr0, hcutr, hCr, hrc⟩ := cutD (k := Kd.int .u8) rfl Try.underlying23 HI.out Hsz.out HC4.out HCc.out (6 : Int) 6 rfl HnB.out; obtain rfl : R = r0 := HCUTR.out.trans hr0.symm; obtain ⟨cR, hcR⟩ : ∃ cR, cR = c4 - 6 := ⟨_, rfl⟩; rw [← hcR] at hcutr hrc; have HCR := Aside0.mk hCr; have HcR := Aside0.mk hrc; clear hr0 hCr hrc hcR)
    | (go_at_call 25; go_loud (refine (turned_any _ _ R m pat _ (Kd.C_below HCR.out (Below.refl _ _)) HcR.out HLR.out HM.out.1 HM.out.2 HPAT.out).mono ?_; rw [← HDD.out]; rintro e w5 ⟨v5, rfl, ho, hb⟩; have HO5 := Aside0.mk ho; have HB5 := Aside0.mk hb; clear ho hb; obtain ⟨A5, c5, e5⟩ := Kd.R_slice HO5.out; subst e5; have HC5 := Aside0.mk (Kd.R_reads' HO5.out).2.2))
    | ((with_reducible refine gate_dst (N := 49) rfl ?_); refine Kd.R_lit (Kd.int .u8) _ 5 ?hg (N := 49) ?hd (xs := ([] : List Int)) (inner := []) (ok := fun _ => True) (okp := fun _ => True) ?hr ?hp (fun _ hk => hk) trivial (Below.refl _ _) (Nat.le_refl _) (by simp) ?_; (case hd => rfl); (case hg => rfl); (case hr => first | (go_simp; done) | (go_simp; rfl)); (case hp => exact (Reps.none _ _)); intro v6 w6 ho hb hg_ hnew_; have HO6 := Aside0.mk ho; have HB6 := Aside0.mk hb; clear hg_ hnew_ ho hb)
    | ((with_reducible refine gate_builtin (b := .append) (xs := #[.tmp 49, .tmp 51]) rfl ?_); at_builtin; refine Kd.R_append_rows (Kd.int .u8) (w0 := w5) w5.heap.size rfl (.tmp 49) (.tmp 51) 23 5 (.int .u8 0) 1 rfl Try.underlying23 info5 rfl (by decide) (by omega) v6 [] P6 _ _ _ (fun _ => True) (fun _ => False) rfl rfl HO6.out (Kd.C_below HCp.out (below_step HB5.out HB6.out)) (fun _ _ h => h) (fun _ h => h.elim) (fun _ _ => trivial) HB6.out HB6.out.size (by have := HLP.out; (try simp only [List.length_append, List.length_nil]); omega) ?_; intro v7 w7 ho hb hg hat; (try simp only [List.nil_append] at ho); have HO7 := Aside0.mk ho; have HB7 := Aside0.mk hb; clear ho hb hg hat)
    | ((with_reducible refine gate_builtin (b := .append) (xs := #[.tmp 52, .tmp 53]) rfl ?_); at_builtin; refine Kd.R_append_rows (Kd.int .u8) (w0 := w5) w5.heap.size rfl (.tmp 52) (.tmp 53) 23 5 (.int .u8 0) 1 rfl Try.underlying23 info5 rfl (by decide) (by omega) v7 P6 D _ _ _ (fun _ => True) (fun _ => False) rfl rfl HO7.out (Kd.C_below HC5.out HB7.out) (fun _ _ h => h) (fun _ h => h.elim) (fun _ _ => trivial) HB7.out HB7.out.size (by have := HLPD.out; (try simp only [List.length_append, List.length_nil]); omega) ?_; intro v10 w10 ho hb hg hat; (try simp only [List.nil_append] at ho); rw [HMe.out] at ho; have HO10 := Aside0.mk ho; have HB10 := Aside0.mk hb; clear ho hb hg hat; obtain ⟨A7, c7, e7⟩ := Kd.R_slice HO10.out; subst e7)
    | (go_at_call 26; go_loud (have hpar := parse_any A7 c7 M _ (Kd.R_reads' HO10.out).2.2 (Kd.R_reads' HO10.out).2.1 HYM.out HLM.out; rw [HPM.out] at hpar; dsimp only at hpar; refine hpar.mono ?_; clear hpar; rintro e w8 ⟨v8, rfl, ho, hb⟩; have HO8 := Aside0.mk ho; have HB8 := Aside0.mk (below_step HB10.out hb); clear ho hb; obtain ⟨A8, c8, e8⟩ := Kd.R_slice HO8.out; subst e8))
    | ((with_reducible refine gate_dst (N := 11) rfl ?_); refine box_event ?hg (N := 11) ?hd (cs := #[.int .u8 0, .int .u8 0, .slice none 0 0]) (t := 40) ?hr ?_; (case hd => rfl); (case hg => rfl); (case hr => first | (go_simp; done) | (go_simp; rfl)); intro g9 hg w9 hbox hbb; have HB9 := Aside0.mk (below_step HB8.out hbb); have HG9 := Aside0.mk hbox; have HGE9 := Aside0.mk (show w5.heap.size ≤ g9 by rw [hg]; exact HB8.out.size); have hy0 : w9.cell? ⟨g9, 0, none⟩ = some (.int .u8 0) := (blk_cell HG9.out 0).trans rfl; have hyf0 := blk_frozen HG9.out 0; have hy1 : w9.cell? ⟨g9, 1, none⟩ = some (.int .u8 0) := (blk_cell HG9.out 1).trans rfl; have hyf1 := blk_frozen HG9.out 1; have hy2 : w9.cell? ⟨g9, 2, none⟩ = some (.slice none 0 0) := (blk_cell HG9.out 2).trans rfl; have hyf2 := blk_frozen HG9.out 2; have HBS := Aside0.mk (HB9.out.trans ((put3 (x := .int .u8 x) (y := .int .u8 y) (z := .slice A8 (l : List Int).length c8) HG9.out).2.mono HGE9.out)); have hs1 := fun (W : World) (hW : Below w5.heap.size w5 W) => Kd.C_string (P := Try.prog) (A := A5) (c := c5) Try.underlying23 Try.underlying5 Try.underlying9 (Kd.C_below HC5.out hW); have hs2 := fun (W : World) (hW : Below w5.heap.size w5 W) => Kd.C_string (P := Try.prog) (A := AR) (c := cR) Try.underlying23 Try.underlying5 Try.underlying9 (Kd.C_below HCR.out (below_step HB5.out hW)); have hs1' := hs1 _ HBS.out; have hs2' := hs2 _ HBS.out; (try simp only [List.length_nil] at hs1' hs2'); clear hs1 hs2; clear hbox hbb hg)
    | (go_at_call 30; refine (awake4_any _).mono ?_; rintro e w14 ⟨rfl, hb⟩; have HB14 := Aside0.mk (below_step (below_step HB4.out (below_step HB5.out HBS.out)) hb); clear hb))
  go_ret
  exact ⟨rfl, HB14.out⟩

set_option maxHeartbeats 8000000 in
set_option maxRecDepth 100000 in
theorem framebursts_D (x y : Int) (A : Option Addr) (c : Nat) (l : List Int) (at_ pat : Int) (w : World) (hr : Kd.C (Kd.int .u8) w A l.length l) (hc : l.length ≤ c) (hb : Byt l) (hat : 0 ≤ at_ ∧ at_ < 4294967296) (hpat : 0 ≤ pat ∧ pat < 4294967296) (he : rightF x y l = 0) (hn : l.length ≤ 300) (m : Int) (hm : m = at_ % (8 * ((l.length : Int) + 4))) (hdq : tur ((frB x y l).drop 6) m.toNat pat.toNat ≠ (frB x y l).drop 6) :
    Calls Try.prog 10 #[.agg #[.int .u8 x, .int .u8 y, .slice A l.length c], .int .u32 at_, .int .u32 pat] w fun e w' => e = .returned (.bool true) ∧ Below w.heap.size w w' := by
  have hu44 := Try.underlying44
  have hu40 := Try.underlying40
  have HR := Aside0.mk hr
  have HE := Aside0.mk he
  have HY := Aside0.mk hb
  have hd1 : decide ((300 : Int) < (l.length : Int)) = false := by simp; omega
  have hd2 : decide (300 < l.length) = false := by simp; omega
  obtain ⟨B, hB⟩ : ∃ B, B = frB x y l := ⟨_, rfl⟩
  have hBl : B.length = l.length + 10 := by rw [hB, frB_length]
  have HBs : Aside0 (signF (makeB x y l) = B) := ⟨by rw [hB, frB_sign he hb]⟩
  have HYB : Aside0 (Byt B) := ⟨by rw [hB]; exact frB_byt he hb⟩
  have hd10 : decide ((B.length : Int) < 10) = false := by simp; omega
  have hd10' : decide (B.length < 10) = false := by simp; omega
  obtain ⟨R, hR⟩ : ∃ R, R = B.drop 6 := ⟨_, rfl⟩
  have hRl : R.length = l.length + 4 := by rw [hR, List.length_drop]; omega
  obtain ⟨P6, hP6⟩ : ∃ P, P = B.take 6 := ⟨_, rfl⟩
  obtain ⟨D, hD⟩ : ∃ D, D = tur R m.toNat pat.toNat := ⟨_, rfl⟩
  have hDl : D.length = R.length := by rw [hD, tur_length]
  have HYR : Aside0 (Byt R) := ⟨by rw [hR]; exact HYB.out.drop 6⟩
  have HYD : Aside0 (Byt D) := ⟨by rw [hD]; exact tur_byt _ _ HYR.out⟩
  obtain ⟨M, hM⟩ : ∃ M, M = P6 ++ D := ⟨_, rfl⟩
  have HMe : Aside0 (P6 ++ D = M) := ⟨hM.symm⟩
  have HYM : Aside0 (Byt M) := ⟨by rw [hM, hP6]; exact fun z hz => (List.mem_append.1 hz).elim (HYB.out.take 6 z) (HYD.out z)⟩
  have hm0 : 0 ≤ m := by rw [hm]; exact Int.emod_nonneg _ (by omega)
  have hm1 : m < 8 * ((l.length : Int) + 4) := by rw [hm]; exact Int.emod_lt_of_pos _ (by omega)
  have hpar := parF_burst he hb m.toNat pat.toNat (by omega) (by omega)
  rw [if_neg hdq, ← hB, ← hR, ← hP6, ← hD, ← hM] at hpar
  have HPM : Aside0 (parF M = (0, 0, [], 0, 6)) := ⟨by rw [hpar]⟩
  rw [← hB, ← hR, ← hD] at hdq
  have hse : ((strOfNums D).toList == (strOfNums R).toList) = false := by rw [str_eq HYD.out HYR.out, decide_eq_false hdq]
  have HLM : Aside0 (M.length < 140737488355328) := ⟨by rw [hM, hP6, List.length_append, List.length_take]; omega⟩
  have HLP : Aside0 (P6.length ≤ 140737488355328) := ⟨by rw [hP6, List.length_take]; omega⟩
  have HLPD : Aside0 (P6.length + D.length ≤ 140737488355328) := ⟨by rw [hP6, List.length_take]; omega⟩
  have HL47 : Aside0 (l.length < 140737488355328) := ⟨by omega⟩
  have HLR : Aside0 (R.length ≤ 1000000) := ⟨by omega⟩
  obtain ⟨q, hq⟩ : ∃ q : Int, q = 8 * (R.length : Int) := ⟨_, rfl⟩
  have hq8 : 8 * (R.length : Int) = q := hq.symm
  have hq64 : wrap64 q = q := by unfold wrap64; omega
  have hqm : q % 4294967296 = q := by omega
  have hq0 : (q == 0) = false := by rw [beq_eq_false_iff_ne]; omega
  have hq00 : ¬ (q = 0) := by omega
  have hqe : q = 8 * ((l.length : Int) + 4) := by omega
  have hmod : at_ % q = m := by rw [hqe, hm]
  have htm : Int.tmod at_ q = m := by rw [Int.tmod_eq_emod_of_nonneg hat.1]; exact hmod
  have hm64 : wrap64 m = m := by unfold wrap64; omega
  have hm32 : m % 4294967296 = m := by omega
  have HM : Aside0 (0 ≤ m ∧ m ≤ 8 * (R.length : Int)) := ⟨by omega⟩
  have HPAT := Aside0.mk hpat
  have HDD := Aside0.mk hD
  have HCUT := Aside0.mk hP6
  have HCUTR := Aside0.mk hR
  have HnB : Aside0 (6 ≤ B.length) := ⟨by omega⟩
  have hnBi : (6 : Int) ≤ (B.length : Int) := by omega
  obtain ⟨i05, hi05, _, hsz5, _⟩ := info_parts info5
  have HI := Aside0.mk hi05
  have Hsz := Aside0.mk hsz5
  clear hr hb hat hpat he hn hB hM hP6 hR hRl hD hDl hi05 hsz5 hBl hpar hm0 hm1 hm hqe hq hdq
  go_enter Try.func10, Try.ntmps10
  go_wp2_with (first
    | ((with_reducible refine gate_dst (N := 3) rfl ?_); refine box_event ?hg (N := 3) ?hd (cs := #[.int .u8 x, .int .u8 y, .slice A l.length c]) (t := 44) ?hr ?_; (case hd => rfl); (case hg => rfl); (case hr => first | (go_simp; done) | (go_simp; rfl)); intro g hg w1 hbox hbb; have HB1 := Aside0.mk hbb; have HG1 := Aside0.mk hbox; have HGE := Aside0.mk (show w.heap.size ≤ g by rw [hg]; exact Nat.le_refl _); have hz0 : w1.cell? ⟨g, 0, none⟩ = some (.int .u8 x) := (blk_cell HG1.out 0).trans rfl; have hz1 : w1.cell? ⟨g, 1, none⟩ = some (.int .u8 y) := (blk_cell HG1.out 1).trans rfl; have hz2 : w1.cell? ⟨g, 2, none⟩ = some (.slice A l.length c) := (blk_cell HG1.out 2).trans rfl; clear hbox hbb hg)
    | (go_at_call 31; refine (refright_any x y _ _ l _ (Kd.C_below HR.out HB1.out) hc).mono ?_; rw [HE.out]; rintro e w2 ⟨rfl, hb⟩; have HB2 := Aside0.mk (below_step HB1.out hb); have HG2 := Aside0.mk (blk_below HG1.out hb); clear hb hz0 hz1 hz2; have hz0 : w2.cell? ⟨g, 0, none⟩ = some (.int .u8 x) := (blk_cell HG2.out 0).trans rfl; have hz1 : w2.cell? ⟨g, 1, none⟩ = some (.int .u8 y) := (blk_cell HG2.out 1).trans rfl; have hz2 : w2.cell? ⟨g, 2, none⟩ = some (.slice A l.length c) := (blk_cell HG2.out 2).trans rfl)
    | (go_at_call 33; refine (own_any x y _ _ l _ (Kd.C_below HR.out HB2.out) hc HL47.out).mono ?_; rintro e w3 ⟨v3, rfl, ho, hb⟩; have HO3 := Aside0.mk ho; have HB3 := Aside0.mk (below_step HB2.out hb); have HG3 := Aside0.mk (blk_below HG2.out hb); clear hb ho hz0 hz1 hz2; obtain ⟨A3, c3, e3⟩ := Kd.R_slice HO3.out; subst e3)
    | (go_at_call 32; refine (make_any x y _ _ l _ (Kd.R_reads' HO3.out).2.2 (Kd.R_reads' HO3.out).2.1).mono ?_; rw [HE.out, if_pos rfl, HBs.out]; rintro e w4 ⟨v4, rfl, ho, hb⟩; have HO4 := Aside0.mk ho; have HB4 := Aside0.mk (below_step HB3.out hb); have HG4 := Aside0.mk (blk_below HG3.out hb); clear hb ho; obtain ⟨A4, c4, e4⟩ := Kd.R_slice HO4.out; subst e4; have HC4 := Aside0.mk (Kd.R_reads' HO4.out).2.2; have HCc := Aside0.mk (Kd.R_reads' HO4.out).2.1; have hz0 : w4.cell? ⟨g, 0, none⟩ = some (.int .u8 x) := (blk_cell HG4.out 0).trans rfl; have hz1 : w4.cell? ⟨g, 1, none⟩ = some (.int .u8 y) := (blk_cell HG4.out 1).trans rfl; have hz2 : w4.cell? ⟨g, 2, none⟩ = some (.slice A l.length c) := (blk_cell HG4.out 2).trans rfl; obtain ⟨p0, hp0, hcutp, hCp, hpc⟩ := cutT (k := Kd.int .u8) Try.underlying23 HI.out HC4.out HCc.out (6 : Int) 6 rfl HnB.out; obtain rfl : P6 = p0 := HCUT.out.trans hp0.symm; have HCp := Aside0.mk hCp; have Hpc := Aside0.mk hpc; clear hp0 hCp hpc; obtain ⟨AR, r0, hr0, hcutr, hCr, hrc⟩ := cutD (k := Kd.int .u8) rfl Try.underlying23 HI.out Hsz.out HC4.out HCc.out (6 : Int) 6 rfl HnB.out; obtain rfl : R = r0 := HCUTR.out.trans hr0.symm; obtain ⟨cR, hcR⟩ : ∃ cR, cR = c4 - 6 := ⟨_, rfl⟩; rw [← hcR] at hcutr hrc; have HCR := Aside0.mk hCr; have HcR := Aside0.mk hrc; clear hr0 hCr hrc hcR)
    | (go_at_call 25; go_loud (refine (turned_any _ _ R m pat _ (Kd.C_below HCR.out (Below.refl _ _)) HcR.out HLR.out HM.out.1 HM.out.2 HPAT.out).mono ?_; rw [← HDD.out]; rintro e w5 ⟨v5, rfl, ho, hb⟩; have HO5 := Aside0.mk ho; have HB5 := Aside0.mk hb; clear ho hb; obtain ⟨A5, c5, e5⟩ := Kd.R_slice HO5.out; subst e5; have HC5 := Aside0.mk (Kd.R_reads' HO5.out).2.2))
    | ((with_reducible refine gate_dst (N := 49) rfl ?_); refine Kd.R_lit (Kd.int .u8) _ 5 ?hg (N := 49) ?hd (xs := ([] : List Int)) (inner := []) (ok := fun _ => True) (okp := fun _ => True) ?hr ?hp (fun _ hk => hk) trivial (Below.refl _ _) (Nat.le_refl _) (by simp) ?_; (case hd => rfl); (case hg => rfl); (case hr => first | (go_simp; done) | (go_simp; rfl)); (case hp => exact (Reps.none _ _)); intro v6 w6 ho hb hg_ hnew_; have HO6 := Aside0.mk ho; have HB6 := Aside0.mk hb; clear hg_ hnew_ ho hb)
    | ((with_reducible refine gate_builtin (b := .append) (xs := #[.tmp 49, .tmp 51]) rfl ?_); at_builtin; refine Kd.R_append_rows (Kd.int .u8) (w0 := w5) w5.heap.size rfl (.tmp 49) (.tmp 51) 23 5 (.int .u8 0) 1 rfl Try.underlying23 info5 rfl (by decide) (by omega) v6 [] P6 _ _ _ (fun _ => True) (fun _ => False) rfl rfl HO6.out (Kd.C_below HCp.out (below_step HB5.out HB6.out)) (fun _ _ h => h) (fun _ h => h.elim) (fun _ _ => trivial) HB6.out HB6.out.size (by have := HLP.out; (try simp only [List.length_append, List.length_nil]); omega) ?_; intro v7 w7 ho hb hg hat; (try simp only [List.nil_append] at ho); have HO7 := Aside0.mk ho; have HB7 := Aside0.mk hb; clear ho hb hg hat)
    | ((with_reducible refine gate_builtin (b := .append) (xs := #[.tmp 52, .tmp 53]) rfl ?_); at_builtin; refine Kd.R_append_rows (Kd.int .u8) (w0 := w5) w5.heap.size rfl (.tmp 52) (.tmp 53) 23 5 (.int .u8 0) 1 rfl Try.underlying23 info5 rfl (by decide) (by omega) v7 P6 D _ _ _ (fun _ => True) (fun _ => False) rfl rfl HO7.out (Kd.C_below HC5.out HB7.out) (fun _ _ h => h) (fun _ h => h.elim) (fun _ _ => trivial) HB7.out HB7.out.size (by have := HLPD.out; (try simp only [List.length_append, List.length_nil]); omega) ?_; intro v10 w10 ho hb hg hat; (try simp only [List.nil_append] at ho); rw [HMe.out] at ho; have HO10 := Aside0.mk ho; have HB10 := Aside0.mk hb; clear ho hb hg hat; obtain ⟨A7, c7, e7⟩ := Kd.R_slice HO10.out; subst e7)
    | (go_at_call 26; go_loud (have hpar := parse_any A7 c7 M _ (Kd.R_reads' HO10.out).2.2 (Kd.R_reads' HO10.out).2.1 HYM.out HLM.out; rw [HPM.out] at hpar; dsimp only at hpar; refine hpar.mono ?_; clear hpar; rintro e w8 ⟨v8, rfl, ho, hb⟩; have HO8 := Aside0.mk ho; have HB8 := Aside0.mk (below_step HB10.out hb); clear ho hb; obtain ⟨A8, c8, e8⟩ := Kd.R_slice HO8.out; subst e8))
    | ((with_reducible refine gate_dst (N := 11) rfl ?_); refine box_event ?hg (N := 11) ?hd (cs := #[.int .u8 0, .int .u8 0, .slice none 0 0]) (t := 40) ?hr ?_; (case hd => rfl); (case hg => rfl); (case hr => first | (go_simp; done) | (go_simp; rfl)); intro g9 hg w9 hbox hbb; have HB9 := Aside0.mk (below_step HB8.out hbb); have HG9 := Aside0.mk hbox; have HGE9 := Aside0.mk (show w5.heap.size ≤ g9 by rw [hg]; exact HB8.out.size); have hy0 : w9.cell? ⟨g9, 0, none⟩ = some (.int .u8 0) := (blk_cell HG9.out 0).trans rfl; have hyf0 := blk_frozen HG9.out 0; have hy1 : w9.cell? ⟨g9, 1, none⟩ = some (.int .u8 0) := (blk_cell HG9.out 1).trans rfl; have hyf1 := blk_frozen HG9.out 1; have hy2 : w9.cell? ⟨g9, 2, none⟩ = some (.slice none 0 0) := (blk_cell HG9.out 2).trans rfl; have hyf2 := blk_frozen HG9.out 2; have HBS := Aside0.mk (HB9.out.trans ((put3 (x := .int .u8 0) (y := .int .u8 0) (z := .slice A8 ([] : List Int).length c8) HG9.out).2.mono HGE9.out)); have hs1 := fun (W : World) (hW : Below w5.heap.size w5 W) => Kd.C_string (P := Try.prog) (A := A5) (c := c5) Try.underlying23 Try.underlying5 Try.underlying9 (Kd.C_below HC5.out hW); have hs2 := fun (W : World) (hW : Below w5.heap.size w5 W) => Kd.C_string (P := Try.prog) (A := AR) (c := cR) Try.underlying23 Try.underlying5 Try.underlying9 (Kd.C_below HCR.out (below_step HB5.out hW)); have hs1' := hs1 _ HBS.out; have hs2' := hs2 _ HBS.out; (try simp only [List.length_nil] at hs1' hs2'); clear hs1 hs2; clear hbox hbb hg)
    | (go_at_call 30; refine (awake4_any _).mono ?_; rintro e w14 ⟨rfl, hb⟩; have HB14 := Aside0.mk (below_step (below_step HB4.out (below_step HB5.out HBS.out)) hb); clear hb))
  go_ret
  exact ⟨rfl, HB14.out⟩

theorem framebursts_any (x y : Int) (A : Option Addr) (c : Nat) (l : List Int) (at_ pat : Int) (w : World) (hr : Kd.C (Kd.int .u8) w A l.length l) (hc : l.length ≤ c) (hb : Byt l) (hat : 0 ≤ at_ ∧ at_ < 4294967296) (hpat : 0 ≤ pat ∧ pat < 4294967296) :
    Calls Try.prog 10 #[.agg #[.int .u8 x, .int .u8 y, .slice A l.length c], .int .u32 at_, .int .u32 pat] w fun e w' => e = .returned (.bool true) ∧ Below w.heap.size w w' := by
  by_cases he : rightF x y l = 0
  · by_cases hn : 300 < l.length
    · exact framebursts_B x y A c l at_ pat w hr hc hb hat hpat he hn
    · by_cases hd : tur ((frB x y l).drop 6) (at_ % (8 * ((l.length : Int) + 4))).toNat pat.toNat = (frB x y l).drop 6
      · exact framebursts_C x y A c l at_ pat w hr hc hb hat hpat he (by omega) _ rfl hd
      · exact framebursts_D x y A c l at_ pat w hr hc hb hat hpat he (by omega) _ rfl hd
  · exact framebursts_A x y A c l at_ pat w hr hc hb hat hpat _ rfl (by simpa using he)
end Go.Proofs.Ytonbphiaideleaa.M
