/- lacunalaw04.FrameBack: the walk. -/
import Derived.Test.YtonbphiaideleaaMframes
import Derived.Test.YtonbphiaideleaaMcuts
namespace Go.Proofs.Ytonbphiaideleaa.M
open Go.RowKit Go.Proofs.YtonbphiaideleaaW.PrintWords Go.Proofs.YtonbphiaideleaaW.PrintLast Go.Proofs.YtonbphiaideleaaW.PrintMore
set_option linter.unusedVariables false
set_option linter.unusedSimpArgs false
theorem put3 {w : World} {g : Nat} {a b d x y z : Value} {t : TypeId} (h : w.heap[g]? = some (.cells #[a, b, d] t (0, 0))) :
    (((w.setCell ⟨g, 0, none⟩ x).setCell ⟨g, 1, none⟩ y).setCell ⟨g, 2, none⟩ z).heap[g]? = some (.cells #[x, y, z] t (0, 0)) ∧ Below g w (((w.setCell ⟨g, 0, none⟩ x).setCell ⟨g, 1, none⟩ y).setCell ⟨g, 2, none⟩ z) :=
  ⟨blk_put (cs := #[x, y, d]) (blk_put (cs := #[x, b, d]) (blk_put (cs := #[a, b, d]) h 0 _ rfl) 1 _ rfl) 2 _ rfl, ((((Below.refl g w).setCell (p := ⟨g, 0, none⟩) (Nat.le_refl g) x).setCell (p := ⟨g, 1, none⟩) (Nat.le_refl g) y).setCell (p := ⟨g, 2, none⟩) (Nat.le_refl g) z)⟩
def frameback_T7 : Bool × List (List Nat × List Nat) := (true, [([], []), ([0], [0]), ([1], [1]), ([2], [2]), ([2], [2]), ([4, 2], [2, 4]), ([3, 5, 2], [2, 3, 5]), ([2, 6], [2, 6]), ([7, 2], [7]), ([8], [8]), ([9, 8, 8], [8, 9]), ([8], [8]), ([10, 11, 10, 8], [8, 10, 11]), ([12, 8], [8, 12]), ([8, 13], [8, 13])])
def frameback_B7 : List Nat := [0, 1, 3, 7, 7, 23, 63, 127, 255, 511, 1023, 511, 4095, 8191, 16383]
theorem frameback_tab7 : rtab .any (opsOf Try.f9 7) = frameback_T7 := by kernel_rfl
theorem frameback_bits7 : waitsOk frameback_T7.2 frameback_B7 = true := by kernel_rfl
set_option maxHeartbeats 8000000 in
set_option maxRecDepth 100000 in
theorem frameback_A (x y : Int) (A : Option Addr) (c : Nat) (l : List Int) (Ab : Option Addr) (cb : Nat) (lb : List Int) (cut : Int) (w : World) (hr : Kd.C (Kd.int .u8) w A l.length l) (hc : l.length ≤ c) (hb : Byt l) (hrb : Kd.C (Kd.int .u8) w Ab lb.length lb) (hcb : lb.length ≤ cb) (hbb : Byt lb) (hcut : 0 ≤ cut ∧ cut < 65536) (r : Int) (he : rightF x y l = r) (hz : (r == 0) = false) :
    Calls Try.prog 9 #[.agg #[.int .u8 x, .int .u8 y, .slice A l.length c], .slice Ab lb.length cb, .int .u16 cut] w fun e w' => e = .returned (.bool true) ∧ Below w.heap.size w w' := by
  have hu44 := Try.underlying44
  have HR := Aside0.mk hr
  have HE := Aside0.mk he
  have hz2 : (r != 0) = true := by rw [bne, hz]; rfl
  clear hr hb hrb hbb hcut he
  go_enter Try.func9, Try.ntmps9
  go_wp2_with (first
    | ((with_reducible refine gate_dst (N := 3) rfl ?_); refine box_event ?hg (N := 3) ?hd (cs := #[.int .u8 x, .int .u8 y, .slice A l.length c]) (t := 44) ?hr ?_; (case hd => rfl); (case hg => rfl); (case hr => first | (go_simp; done) | (go_simp; rfl)); intro g hg w1 hbox hbb; have HB1 := Aside0.mk hbb; have HG1 := Aside0.mk hbox; have HGE := Aside0.mk (show w.heap.size ≤ g by rw [hg]; exact Nat.le_refl _); have hz0 : w1.cell? ⟨g, 0, none⟩ = some (.int .u8 x) := (blk_cell HG1.out 0).trans rfl; have hz1 : w1.cell? ⟨g, 1, none⟩ = some (.int .u8 y) := (blk_cell HG1.out 1).trans rfl; have hz2 : w1.cell? ⟨g, 2, none⟩ = some (.slice A l.length c) := (blk_cell HG1.out 2).trans rfl; clear hbox hbb hg)
    | (go_at_call 31; refine (refright_any x y _ _ l _ (Kd.C_below HR.out HB1.out) hc).mono ?_; rw [HE.out]; rintro e w2 ⟨rfl, hb⟩; have HB2 := Aside0.mk (below_step HB1.out hb); have HG2 := Aside0.mk (blk_below HG1.out hb); clear hb hz0 hz1 hz2; have hz0 : w2.cell? ⟨g, 0, none⟩ = some (.int .u8 x) := (blk_cell HG2.out 0).trans rfl; have hz1 : w2.cell? ⟨g, 1, none⟩ = some (.int .u8 y) := (blk_cell HG2.out 1).trans rfl; have hz2 : w2.cell? ⟨g, 2, none⟩ = some (.slice A l.length c) := (blk_cell HG2.out 2).trans rfl))
  go_ret
  exact ⟨rfl, HB2.out⟩

set_option maxHeartbeats 8000000 in
set_option maxRecDepth 100000 in
theorem frameback_B (x y : Int) (A : Option Addr) (c : Nat) (l : List Int) (Ab : Option Addr) (cb : Nat) (lb : List Int) (cut : Int) (w : World) (hr : Kd.C (Kd.int .u8) w A l.length l) (hc : l.length ≤ c) (hb : Byt l) (hrb : Kd.C (Kd.int .u8) w Ab lb.length lb) (hcb : lb.length ≤ cb) (hbb : Byt lb) (hcut : 0 ≤ cut ∧ cut < 65536) (he : rightF x y l = 0) (hn : 60 < lb.length) :
    Calls Try.prog 9 #[.agg #[.int .u8 x, .int .u8 y, .slice A l.length c], .slice Ab lb.length cb, .int .u16 cut] w fun e w' => e = .returned (.bool true) ∧ Below w.heap.size w w' := by
  have hu44 := Try.underlying44
  have HR := Aside0.mk hr
  have HE := Aside0.mk he
  have hd1 : decide ((60 : Int) < (lb.length : Int)) = true := by simp; omega
  have hd2 : decide (60 < lb.length) = true := by simp; omega
  clear hr hb hrb hbb hcut he hn
  go_enter Try.func9, Try.ntmps9
  go_wp2_with (first
    | ((with_reducible refine gate_dst (N := 3) rfl ?_); refine box_event ?hg (N := 3) ?hd (cs := #[.int .u8 x, .int .u8 y, .slice A l.length c]) (t := 44) ?hr ?_; (case hd => rfl); (case hg => rfl); (case hr => first | (go_simp; done) | (go_simp; rfl)); intro g hg w1 hbox hbb; have HB1 := Aside0.mk hbb; have HG1 := Aside0.mk hbox; have HGE := Aside0.mk (show w.heap.size ≤ g by rw [hg]; exact Nat.le_refl _); have hz0 : w1.cell? ⟨g, 0, none⟩ = some (.int .u8 x) := (blk_cell HG1.out 0).trans rfl; have hz1 : w1.cell? ⟨g, 1, none⟩ = some (.int .u8 y) := (blk_cell HG1.out 1).trans rfl; have hz2 : w1.cell? ⟨g, 2, none⟩ = some (.slice A l.length c) := (blk_cell HG1.out 2).trans rfl; clear hbox hbb hg)
    | (go_at_call 31; refine (refright_any x y _ _ l _ (Kd.C_below HR.out HB1.out) hc).mono ?_; rw [HE.out]; rintro e w2 ⟨rfl, hb⟩; have HB2 := Aside0.mk (below_step HB1.out hb); have HG2 := Aside0.mk (blk_below HG1.out hb); clear hb hz0 hz1 hz2; have hz0 : w2.cell? ⟨g, 0, none⟩ = some (.int .u8 x) := (blk_cell HG2.out 0).trans rfl; have hz1 : w2.cell? ⟨g, 1, none⟩ = some (.int .u8 y) := (blk_cell HG2.out 1).trans rfl; have hz2 : w2.cell? ⟨g, 2, none⟩ = some (.slice A l.length c) := (blk_cell HG2.out 2).trans rfl))
  go_ret
  exact ⟨rfl, HB2.out⟩

set_option maxHeartbeats 8000000 in
set_option maxRecDepth 100000 in
theorem frameback_C (x y : Int) (A : Option Addr) (c : Nat) (l : List Int) (Ab : Option Addr) (cb : Nat) (lb : List Int) (cut : Int) (w : World) (hr : Kd.C (Kd.int .u8) w A l.length l) (hc : l.length ≤ c) (hb : Byt l) (hrb : Kd.C (Kd.int .u8) w Ab lb.length lb) (hcb : lb.length ≤ cb) (hbb : Byt lb) (hcut : 0 ≤ cut ∧ cut < 65536) (he : rightF x y l = 0) (hn : lb.length ≤ 60) :
    Calls Try.prog 9 #[.agg #[.int .u8 x, .int .u8 y, .slice A l.length c], .slice Ab lb.length cb, .int .u16 cut] w fun e w' => e = .returned (.bool true) ∧ Below w.heap.size w w' := by
  have hu44 := Try.underlying44
  have hu40 := Try.underlying40
  have HR := Aside0.mk hr
  have HRb := Aside0.mk hrb
  have HE := Aside0.mk he
  have HY := Aside0.mk hb
  have hd1 : decide ((60 : Int) < (lb.length : Int)) = false := by simp; omega
  have hd2 : decide (60 < lb.length) = false := by simp; omega
  have hl4 := rightF_len he
  obtain ⟨B, hB⟩ : ∃ B, B = frB x y l := ⟨_, rfl⟩
  have hBl : B.length = l.length + 10 := by rw [hB, frB_length]
  have HBs : Aside0 (signF (makeB x y l) = B) := ⟨by rw [hB, frB_sign he hb]⟩
  have HYB : Aside0 (Byt B) := ⟨by rw [hB]; exact frB_byt he hb⟩
  obtain ⟨M, hM⟩ : ∃ M, M = B ++ lb := ⟨_, rfl⟩
  have HMe : Aside0 (B ++ lb = M) := ⟨hM.symm⟩
  have HYM : Aside0 (Byt M) := ⟨by rw [hM]; exact fun z hz => (List.mem_append.1 hz).elim (HYB.out z) (hbb z)⟩
  have HPM : Aside0 (parF M = (x, y, l, (B.length : Int), 0)) := ⟨by rw [hM, hB, parF_make he hb, ← hB, hBl]; congr 1⟩
  have HLM : Aside0 (M.length < 140737488355328) := ⟨by rw [hM, List.length_append]; omega⟩
  have HLBb : Aside0 (B.length + lb.length ≤ 140737488355328) := ⟨by omega⟩
  have HLB : Aside0 (B.length ≤ 140737488355328) := ⟨by omega⟩
  have HL47 : Aside0 (l.length < 140737488355328) := ⟨by omega⟩
  have hw10 : wrap64 ((l.length : Int) + 10) = (B.length : Int) := by unfold wrap64; omega
  obtain ⟨n, hnn⟩ : ∃ n : Nat, n = cut.toNat % B.length := ⟨_, rfl⟩
  have hnB : n < B.length := by rw [hnn]; exact Nat.mod_lt _ (by omega)
  have htm : Int.tmod cut (B.length : Int) = (n : Int) := by
    obtain ⟨q, hq⟩ := Int.eq_ofNat_of_zero_le hcut.1
    rw [hnn, hq]
    exact tmod_nat q B.length
  have hB0 : ((B.length : Int) == 0) = false := by rw [beq_eq_false_iff_ne]; omega
  have hB00 : ¬ ((B.length : Int) = 0) := by omega
  have hBz : (B.length == 0) = false := by rw [beq_eq_false_iff_ne]; omega
  have hB000 : ¬ (B.length = 0) := by omega
  obtain ⟨p, hp⟩ : ∃ p, p = B.take n := ⟨_, rfl⟩
  have HPp : Aside0 (parF p = (0, 0, [], 0, 1)) := ⟨by rw [hp, hB]; exact parF_cut he n (by omega)⟩
  have HYp : Aside0 (Byt p) := ⟨by rw [hp]; exact HYB.out.take n⟩
  have HLp : Aside0 (p.length < 140737488355328) := ⟨by rw [hp, List.length_take]; omega⟩
  have HCUT := Aside0.mk hp
  have HnB : Aside0 (n ≤ B.length) := ⟨by omega⟩
  have hnBi : (n : Int) ≤ (B.length : Int) := by omega
  have hn0 : (0 : Int) ≤ (n : Int) := by omega
  have HSM : Aside0 (sameB x y l x y l = true) := ⟨by simp [sameB]⟩
  have hcw : wrap64 cut = cut := by unfold wrap64; omega
  obtain ⟨i05, hi05, _, _, _⟩ := info_parts info5
  have HI := Aside0.mk hi05
  have Hl4 := Aside0.mk hl4
  have HcB := Aside0.mk hBl
  clear hr hb hrb hbb hcut he hn hB hM hnn hp hi05 hl4 hBl
  go_enter Try.func9, Try.ntmps9
  go_wp2_with (first
    | ((with_reducible refine gate_dst (N := 3) rfl ?_); refine box_event ?hg (N := 3) ?hd (cs := #[.int .u8 x, .int .u8 y, .slice A l.length c]) (t := 44) ?hr ?_; (case hd => rfl); (case hg => rfl); (case hr => first | (go_simp; done) | (go_simp; rfl)); intro g hg w1 hbox hbb; have HB1 := Aside0.mk hbb; have HG1 := Aside0.mk hbox; have HGE := Aside0.mk (show w.heap.size ≤ g by rw [hg]; exact Nat.le_refl _); have hz0 : w1.cell? ⟨g, 0, none⟩ = some (.int .u8 x) := (blk_cell HG1.out 0).trans rfl; have hz1 : w1.cell? ⟨g, 1, none⟩ = some (.int .u8 y) := (blk_cell HG1.out 1).trans rfl; have hz2 : w1.cell? ⟨g, 2, none⟩ = some (.slice A l.length c) := (blk_cell HG1.out 2).trans rfl; clear hbox hbb hg)
    | (go_at_call 31; refine (refright_any x y _ _ l _ (Kd.C_below HR.out HB1.out) hc).mono ?_; rw [HE.out]; rintro e w2 ⟨rfl, hb⟩; have HB2 := Aside0.mk (below_step HB1.out hb); have HG2 := Aside0.mk (blk_below HG1.out hb); clear hb hz0 hz1 hz2; have hz0 : w2.cell? ⟨g, 0, none⟩ = some (.int .u8 x) := (blk_cell HG2.out 0).trans rfl; have hz1 : w2.cell? ⟨g, 1, none⟩ = some (.int .u8 y) := (blk_cell HG2.out 1).trans rfl; have hz2 : w2.cell? ⟨g, 2, none⟩ = some (.slice A l.length c) := (blk_cell HG2.out 2).trans rfl)
    | (go_at_call 33; refine (own_any x y _ _ l _ (Kd.C_below HR.out HB2.out) hc HL47.out).mono ?_; rintro e w3 ⟨v3, rfl, ho, hb⟩; have HO3 := Aside0.mk ho; have HB3 := Aside0.mk (below_step HB2.out hb); have HG3 := Aside0.mk (blk_below HG2.out hb); clear hb ho hz0 hz1 hz2; obtain ⟨A3, c3, e3⟩ := Kd.R_slice HO3.out; subst e3)
    | (go_at_call 32; refine (make_any x y _ _ l _ (Kd.R_reads' HO3.out).2.2 (Kd.R_reads' HO3.out).2.1).mono ?_; rw [HE.out, if_pos rfl, HBs.out]; rintro e w4 ⟨v4, rfl, ho, hb⟩; have HO4 := Aside0.mk ho; have HB4 := Aside0.mk (below_step HB3.out hb); have HG4 := Aside0.mk (blk_below HG3.out hb); clear hb ho; obtain ⟨A4, c4, e4⟩ := Kd.R_slice HO4.out; subst e4; have HC4 := Aside0.mk (Kd.R_reads' HO4.out).2.2; have HCc := Aside0.mk (Kd.R_reads' HO4.out).2.1; have hz0 : w4.cell? ⟨g, 0, none⟩ = some (.int .u8 x) := (blk_cell HG4.out 0).trans rfl; have hz1 : w4.cell? ⟨g, 1, none⟩ = some (.int .u8 y) := (blk_cell HG4.out 1).trans rfl; have hz2 : w4.cell? ⟨g, 2, none⟩ = some (.slice A l.length c) := (blk_cell HG4.out 2).trans rfl; obtain ⟨p0, hp0, hcutp, hCp, hpc⟩ := cutT (k := Kd.int .u8) Try.underlying23 HI.out HC4.out HCc.out (n : Int) n rfl HnB.out; obtain rfl : p = p0 := HCUT.out.trans hp0.symm; have HCp := Aside0.mk hCp; have Hpc := Aside0.mk hpc; clear hp0 hCp hpc)
    | ((with_reducible refine gate_dst (N := 38) rfl ?_); refine Kd.R_lit (Kd.int .u8) _ 5 ?hg (N := 38) ?hd (xs := ([] : List Int)) (inner := []) (ok := fun _ => True) (okp := fun _ => True) ?hr ?hp (fun _ hk => hk) trivial (Below.refl _ _) (Nat.le_refl _) (by simp) ?_; (case hd => rfl); (case hg => rfl); (case hr => first | (go_simp; done) | (go_simp; rfl)); (case hp => exact (Reps.none _ _)); intro v5 w5 ho hb hg_ hnew_; have HO5 := Aside0.mk ho; have HB5 := Aside0.mk hb; clear hg_ hnew_ ho hb)
    | ((with_reducible refine gate_builtin (b := .append) (xs := #[.tmp 38, .tmp 39]) rfl ?_); at_builtin; refine Kd.R_append_rows (Kd.int .u8) (w0 := w4) w4.heap.size rfl (.tmp 38) (.tmp 39) 23 5 (.int .u8 0) 1 rfl Try.underlying23 info5 rfl (by decide) (by omega) v5 [] B _ _ _ (fun _ => True) (fun _ => False) rfl rfl HO5.out (Kd.C_below HC4.out HB5.out) (fun _ _ h => h) (fun _ h => h.elim) (fun _ _ => trivial) HB5.out HB5.out.size (by have := HLB.out; (try simp only [List.length_append, List.length_nil]); omega) ?_; intro v6 w6 ho hb hg hat; (try simp only [List.nil_append] at ho); have HO6 := Aside0.mk ho; have HB6 := Aside0.mk hb; clear ho hb hg hat)
    | ((with_reducible refine gate_builtin (b := .append) (xs := #[.tmp 40, .tmp 41]) rfl ?_); at_builtin; refine Kd.R_append_rows (Kd.int .u8) (w0 := w4) w4.heap.size rfl (.tmp 40) (.tmp 41) 23 5 (.int .u8 0) 1 rfl Try.underlying23 info5 rfl (by decide) (by omega) v6 B lb _ _ _ (fun _ => True) (fun _ => False) rfl rfl HO6.out (Kd.C_below HRb.out (below_step HB4.out HB6.out)) (fun _ _ h => h) (fun _ h => h.elim) (fun _ _ => trivial) HB6.out HB6.out.size (by have := HLBb.out; (try simp only [List.length_append, List.length_nil]); omega) ?_; intro v7 w7 ho hb hg hat; (try simp only [List.nil_append] at ho); rw [HMe.out] at ho; have HO7 := Aside0.mk ho; have HB7 := Aside0.mk hb; clear ho hb hg hat; obtain ⟨A7, c7, e7⟩ := Kd.R_slice HO7.out; subst e7)
    | (go_at_call 26; go_loud (have hpar := parse_any A7 c7 M _ (Kd.R_reads' HO7.out).2.2 (Kd.R_reads' HO7.out).2.1 HYM.out HLM.out; rw [HPM.out] at hpar; dsimp only at hpar; refine hpar.mono ?_; clear hpar; rintro e w8 ⟨v8, rfl, ho, hb⟩; have HO8 := Aside0.mk ho; have HB8 := Aside0.mk (below_step HB7.out hb); clear ho hb; obtain ⟨A8, c8, e8⟩ := Kd.R_slice HO8.out; subst e8))
    | ((with_reducible refine gate_dst (N := 9) rfl ?_); refine box_event ?hg (N := 9) ?hd (cs := #[.int .u8 0, .int .u8 0, .slice none 0 0]) (t := 40) ?hr ?_; (case hd => rfl); (case hg => rfl); (case hr => first | (go_simp; done) | (go_simp; rfl)); intro g9 hg w9 hbox hbb; have HB9 := Aside0.mk (below_step HB8.out hbb); have HG9 := Aside0.mk hbox; have HGE9 := Aside0.mk (show w4.heap.size ≤ g9 by rw [hg]; exact HB8.out.size); have HG9e := Aside0.mk (show g9 = w8.heap.size from hg); have HB89 := Aside0.mk hbb; have hy0 : w9.cell? ⟨g9, 0, none⟩ = some (.int .u8 0) := (blk_cell HG9.out 0).trans rfl; have hyf0 := blk_frozen HG9.out 0; have hy1 : w9.cell? ⟨g9, 1, none⟩ = some (.int .u8 0) := (blk_cell HG9.out 1).trans rfl; have hyf1 := blk_frozen HG9.out 1; have hy2 : w9.cell? ⟨g9, 2, none⟩ = some (.slice none 0 0) := (blk_cell HG9.out 2).trans rfl; have hyf2 := blk_frozen HG9.out 2; clear hbox hbb hg))
  obtain ⟨W10, hW10⟩ : ∃ W, W = (((w9.setCell ⟨g9, 0, none⟩ (.int .u8 x)).setCell ⟨g9, 1, none⟩ (.int .u8 y)).setCell ⟨g9, 2, none⟩ (.slice A8 l.length c8)) := ⟨_, rfl⟩
  have hp3 := put3 (x := .int .u8 x) (y := .int .u8 y) (z := .slice A8 l.length c8) HG9.out
  have HB10 : Aside0 (Below w4.heap.size w4 W10) := ⟨by rw [hW10]; exact HB9.out.trans (hp3.2.mono HGE9.out)⟩
  have HB810 : Aside0 (Below w8.heap.size w8 W10) := ⟨by rw [hW10]; exact HB89.out.trans (hp3.2.mono (by rw [HG9e.out]; exact Nat.le_refl _))⟩
  have HG10 : Aside0 (W10.heap[g9]? = some (.cells #[.int .u8 x, .int .u8 y, .slice A8 l.length c8] 40 (0, 0))) := ⟨by rw [hW10]; exact hp3.1⟩
  have HF10 := Aside0.mk (blk_below HG4.out HB10.out)
  have HC10 := Aside0.mk (Kd.C_below (Kd.R_reads' HO8.out).2.2 HB810.out)
  have HC8c := Aside0.mk (Kd.R_reads' HO8.out).2.1
  have HR10 := Aside0.mk (Kd.C_below HR.out (below_step HB4.out HB10.out))
  rw [← hW10]
  clear hW10 hp3 hy0 hy1 hy2 hyf0 hyf1 hyf2 hz0 hz1 hz2
  refine start_ (n := 15) (S := fun w' => Below W10.heap.size W10 w') (ds := []) #[false, false, false, false, false, false, false, false, false, false, false, false, false, false, false] (by kernel_rfl) rfl rfl (below_drew (Below.refl _ _)) (fun hHeld => ?_)
  refine with_tabW frameback_tab7 frameback_bits7 (fun HT_ HW_ => ?_)
  refine pure_ (i := 0) (N := some 47) (v := ?_) (a' := ?_) #[true, false, false, false, false, false, false, false, false, false, false, false, false, false, false] rfl rfl (any_of HT_.out (by kernel_rfl)) (fun _ _ _ h => h) (Or.inl ⟨by rfl, ?_⟩) ?_ ?_
  rotate_left
  · intro w'
    go_simp
    with_reducible rfl
  rotate_left
  · simp only [Act.put, List.setIfInBounds_toArray, List.set_cons_zero, List.set_cons_succ, i64_w, i32_w]
    rfl
  refine pure_ (i := 1) (N := some 48) (v := ?_) (a' := ?_) #[true, true, false, false, false, false, false, false, false, false, false, false, false, false, false] rfl rfl (any_of HT_.out (by kernel_rfl)) (fun _ _ _ h => h) (Or.inl ⟨by rfl, ?_⟩) ?_ ?_
  rotate_left
  · intro w'
    go_simp
    with_reducible rfl
  rotate_left
  · simp only [Act.put, List.setIfInBounds_toArray, List.set_cons_zero, List.set_cons_succ, i64_w, i32_w]
    rfl
  refine pure_ (i := 2) (N := some 49) (v := ?_) (a' := ?_) #[true, true, true, false, false, false, false, false, false, false, false, false, false, false, false] rfl rfl (any_of HT_.out (by kernel_rfl)) (fun _ _ _ h => h) (Or.inl ⟨by rfl, ?_⟩) ?_ ?_
  rotate_left
  · intro w'
    go_simp
    with_reducible rfl
  rotate_left
  · simp only [Act.put, List.setIfInBounds_toArray, List.set_cons_zero, List.set_cons_succ, i64_w, i32_w]
    rfl
  refine pure_ (i := 3) (N := some 50) (v := ?_) (a' := ?_) #[true, true, true, true, false, false, false, false, false, false, false, false, false, false, false] rfl rfl (any_of HT_.out (by kernel_rfl)) (fun _ _ _ h => h) (Or.inl ⟨by rfl, ?_⟩) ?_ ?_
  rotate_left
  · intro w'
    go_simp
    with_reducible rfl
  rotate_left
  · simp only [Act.put, List.setIfInBounds_toArray, List.set_cons_zero, List.set_cons_succ, i64_w, i32_w]
    rfl
  refine pure_ (i := 4) (N := some 51) (v := ?_) (a' := ?_) #[true, true, true, true, true, false, false, false, false, false, false, false, false, false, false] rfl rfl (any_of HT_.out (by kernel_rfl)) (fun _ _ _ h => h) (Or.inl ⟨by rfl, ?_⟩) ?_ ?_
  rotate_left
  · intro w'
    go_simp
    with_reducible rfl
  rotate_left
  · simp only [Act.put, List.setIfInBounds_toArray, List.set_cons_zero, List.set_cons_succ, i64_w, i32_w]
    rfl
  refine pure_ (i := 5) (N := some 52) (v := ?_) (a' := ?_) #[true, true, true, true, true, true, false, false, false, false, false, false, false, false, false] rfl rfl (any_of HT_.out (by kernel_rfl)) (fun _ _ _ h => h) (Or.inl ⟨by rfl, ?_⟩) ?_ ?_
  rotate_left
  · intro w'
    go_simp
    with_reducible rfl
  rotate_left
  · simp only [Act.put, List.setIfInBounds_toArray, List.set_cons_zero, List.set_cons_succ, i64_w, i32_w]
    rfl
  refine pure_ (i := 6) (N := some 53) (v := ?_) (a' := ?_) #[true, true, true, true, true, true, true, false, false, false, false, false, false, false, false] rfl rfl (any_of HT_.out (by kernel_rfl)) (fun _ _ _ h => h) (Or.inl ⟨by rfl, ?_⟩) ?_ ?_
  rotate_left
  · intro w'
    go_simp
    with_reducible rfl
  rotate_left
  · simp only [Act.put, List.setIfInBounds_toArray, List.set_cons_zero, List.set_cons_succ, i64_w, i32_w]
    rfl
  refine pure_ (i := 7) (N := some 54) (v := ?_) (a' := ?_) #[true, true, true, true, true, true, true, true, false, false, false, false, false, false, false] rfl rfl (any_of HT_.out (by kernel_rfl)) (fun _ _ _ h => h) (Or.inl ⟨by rfl, ?_⟩) ?_ ?_
  rotate_left
  · intro w'
    go_simp
    with_reducible rfl
  rotate_left
  · simp only [Act.put, List.setIfInBounds_toArray, List.set_cons_zero, List.set_cons_succ, i64_w, i32_w]
    rfl
  refine pure_ (i := 8) (N := some 55) (v := ?_) (a' := ?_) #[true, true, true, true, true, true, true, true, true, false, false, false, false, false, false] rfl rfl (any_of HT_.out (by kernel_rfl)) (fun _ _ _ h => h) (Or.inl ⟨by rfl, ?_⟩) ?_ ?_
  rotate_left
  · intro w'
    go_simp
    with_reducible rfl
  rotate_left
  · simp only [Act.put, List.setIfInBounds_toArray, List.set_cons_zero, List.set_cons_succ, i64_w, i32_w]
    rfl
  refine take_ (i := 9) (N := some 56) (v := ?_) (a' := ?_) #[true, true, true, true, true, true, true, true, true, true, false, false, false, false, false] rfl rfl (take_ofW HT_.out HW_.out (by kernel_rfl)) (fun _ _ _ h => h) (Or.inl ⟨by rfl, ?_⟩) hHeld ?_ ?_
  rotate_left
  · intro w' s0
    have hz0 : w'.cell? ⟨g9, 0, none⟩ = some (.int .u8 x) := (blk_cell (Aside0.mk (blk_below HG10.out s0)).out 0).trans rfl
    have hz1 : w'.cell? ⟨g9, 1, none⟩ = some (.int .u8 y) := (blk_cell (Aside0.mk (blk_below HG10.out s0)).out 1).trans rfl
    have hz2 : w'.cell? ⟨g9, 2, none⟩ = some (.slice A8 l.length c8) := (blk_cell (Aside0.mk (blk_below HG10.out s0)).out 2).trans rfl
    go_simp
    with_reducible rfl
  rotate_left
  · simp only [Act.put, List.setIfInBounds_toArray, List.set_cons_zero, List.set_cons_succ, i64_w, i32_w]
    rfl
  refine take_ (i := 11) (N := some 58) (v := ?_) (a' := ?_) #[true, true, true, true, true, true, true, true, true, true, false, true, false, false, false] rfl rfl (take_ofW HT_.out HW_.out (by kernel_rfl)) (fun _ _ _ h => h) (Or.inl ⟨by rfl, ?_⟩) hHeld ?_ ?_
  rotate_left
  · intro w' s0
    have hz0 : w'.cell? ⟨g, 0, none⟩ = some (.int .u8 x) := (blk_cell (Aside0.mk (blk_below HF10.out s0)).out 0).trans rfl
    have hz1 : w'.cell? ⟨g, 1, none⟩ = some (.int .u8 y) := (blk_cell (Aside0.mk (blk_below HF10.out s0)).out 1).trans rfl
    have hz2 : w'.cell? ⟨g, 2, none⟩ = some (.slice A l.length c) := (blk_cell (Aside0.mk (blk_below HF10.out s0)).out 2).trans rfl
    go_simp
    with_reducible rfl
  rotate_left
  · simp only [Act.put, List.setIfInBounds_toArray, List.set_cons_zero, List.set_cons_succ, i64_w, i32_w]
    rfl
  refine one_ (i := 10) (N := some 57) #[true, true, true, true, true, true, true, true, true, true, true, true, false, false, false] rfl rfl (one_of HT_.out (by kernel_rfl)) (by decide) (fun K hK => ?_)
  refine goes_ Try.func29 (by kernel_rfl) rfl #[.agg #[.int .u8 x, .int .u8 y, .slice A8 l.length c8]] (by rfl) rfl rfl (by (try simp only [List.map_toArray, List.map_cons, List.map_nil]); first | done | rfl) ?_
  refine (back_any x y A8 l.length c8 _).mono ?_
  rintro e w11 ⟨rfl, hb⟩
  refine ⟨_, rfl, ?_⟩
  have HB11 := Aside0.mk (below_step hHeld hb)
  clear hb
  refine hK.out _ _ HB11.out (fun hHeld => ?_)
  clear hK K
  refine norm_ (a' := ?_) ?_ ?_
  rotate_left
  · show Act.put _ (some 57) _ = _
    simp only [Act.put, List.setIfInBounds_toArray, List.set_cons_zero, List.set_cons_succ, i64_w, i32_w]
    rfl
  refine one_ (i := 12) (N := some 59) #[true, true, true, true, true, true, true, true, true, true, true, true, true, false, false] rfl rfl (one_of HT_.out (by kernel_rfl)) (by decide) (fun K hK => ?_)
  refine goes_ Try.func28 (by kernel_rfl) rfl #[.agg #[.int .u8 x, .int .u8 y, .slice A8 l.length c8], .agg #[.int .u8 x, .int .u8 y, .slice A l.length c]] (by rfl) rfl rfl (by (try simp only [List.map_toArray, List.map_cons, List.map_nil]); first | done | rfl) ?_
  refine (same_any x y A8 c8 l x y A c l _ (Kd.C_below HC10.out hHeld) HC8c.out (Kd.C_below HR10.out hHeld) hc HY.out HY.out).mono ?_
  rw [HSM.out]
  rintro e w12 ⟨rfl, hb⟩
  refine ⟨_, rfl, ?_⟩
  have HB12 := Aside0.mk (below_step hHeld hb)
  clear hb
  refine hK.out _ _ HB12.out (fun hHeld => ?_)
  clear hK K
  refine norm_ (a' := ?_) ?_ ?_
  rotate_left
  · show Act.put _ (some 59) _ = _
    simp only [Act.put, List.setIfInBounds_toArray, List.set_cons_zero, List.set_cons_succ, i64_w, i32_w]
    rfl
  refine pure_ (i := 13) (N := some 60) (v := ?_) (a' := ?_) #[true, true, true, true, true, true, true, true, true, true, true, true, true, true, false] rfl rfl (any_of HT_.out (by kernel_rfl)) (fun _ _ _ h => h) (Or.inl ⟨by rfl, ?_⟩) ?_ ?_
  rotate_left
  · intro w'
    go_simp
    with_reducible rfl
  rotate_left
  · simp only [Act.put, List.setIfInBounds_toArray, List.set_cons_zero, List.set_cons_succ, i64_w, i32_w]
    rfl
  refine pure_ (i := 14) (N := some 61) (v := ?_) (a' := ?_) #[true, true, true, true, true, true, true, true, true, true, true, true, true, true, true] rfl rfl (any_of HT_.out (by kernel_rfl)) (fun _ _ _ h => h) (Or.inl ⟨by rfl, ?_⟩) ?_ ?_
  rotate_left
  · intro w'
    go_simp
    with_reducible rfl
  rotate_left
  · simp only [Act.put, List.setIfInBounds_toArray, List.set_cons_zero, List.set_cons_succ, i64_w, i32_w]
    rfl
  refine done_ (done_of HT_.out (by kernel_rfl)) ?_
  go_wp2_with (first
    | (go_at_call 26; go_loud (have hpar := parse_any A4 c4 p _ (Kd.C_below HCp.out (below_step HB10.out HB12.out)) Hpc.out HYp.out HLp.out; rw [HPp.out] at hpar; dsimp only at hpar; refine hpar.mono ?_; clear hpar; rintro e w13 ⟨v13, rfl, ho, hb⟩; have HO13 := Aside0.mk ho; have HB13 := Aside0.mk (below_step HB12.out hb); clear ho hb; obtain ⟨A13, c13, e13⟩ := Kd.R_slice HO13.out; subst e13; have HG13 := Aside0.mk (blk_below HG10.out HB13.out); have HGw := Aside0.mk (Nat.le_trans HB4.out.size HGE9.out); have hy0 : w13.cell? ⟨g9, 0, none⟩ = some (.int .u8 x) := (blk_cell HG13.out 0).trans rfl; have hyf0 := blk_frozen HG13.out 0; have hy1 : w13.cell? ⟨g9, 1, none⟩ = some (.int .u8 y) := (blk_cell HG13.out 1).trans rfl; have hyf1 := blk_frozen HG13.out 1; have hy2 : w13.cell? ⟨g9, 2, none⟩ = some (.slice A8 l.length c8) := (blk_cell HG13.out 2).trans rfl; have hyf2 := blk_frozen HG13.out 2))
    | (go_at_call 30; refine (awake4_any _).mono ?_; rintro e w14 ⟨rfl, hb⟩; have HB14 := Aside0.mk (below_step (below_set (below_set (below_set (below_step HB4.out (below_step HB10.out HB13.out)) HGw.out) HGw.out) HGw.out) hb); clear hb))
  go_ret
  exact ⟨rfl, HB14.out⟩

theorem frameback_any (x y : Int) (A : Option Addr) (c : Nat) (l : List Int) (Ab : Option Addr) (cb : Nat) (lb : List Int) (cut : Int) (w : World) (hr : Kd.C (Kd.int .u8) w A l.length l) (hc : l.length ≤ c) (hb : Byt l) (hrb : Kd.C (Kd.int .u8) w Ab lb.length lb) (hcb : lb.length ≤ cb) (hbb : Byt lb) (hcut : 0 ≤ cut ∧ cut < 65536) :
    Calls Try.prog 9 #[.agg #[.int .u8 x, .int .u8 y, .slice A l.length c], .slice Ab lb.length cb, .int .u16 cut] w fun e w' => e = .returned (.bool true) ∧ Below w.heap.size w w' := by
  by_cases he : rightF x y l = 0
  · by_cases hn : 60 < lb.length
    · exact frameback_B x y A c l Ab cb lb cut w hr hc hb hrb hcb hbb hcut he hn
    · exact frameback_C x y A c l Ab cb lb cut w hr hc hb hrb hcb hbb hcut he (by omega)
  · exact frameback_A x y A c l Ab cb lb cut w hr hc hb hrb hcb hbb hcut _ rfl (by simpa using he)
end Go.Proofs.Ytonbphiaideleaa.M
