/- lacunalaw03.CrcBursts: the walk. -/
import Derived.Test.YtonbphiaideleaaMturn
namespace Go.Proofs.Ytonbphiaideleaa.M
open Go.RowKit Go.Proofs.YtonbphiaideleaaW.PrintWords Go.Proofs.YtonbphiaideleaaW.PrintLast
set_option linter.unusedVariables false
set_option linter.unusedSimpArgs false
def crcbursts_T7 : Bool × List (List Nat × List Nat) := (true, [([], []), ([0], [0]), ([], []), ([2], [2]), ([], []), ([4], [4]), ([3, 5], [3, 5]), ([1, 6], [1, 6]), ([7, 1], [7]), ([8, 8], [8]), ([8, 9], [8, 9]), ([10, 9, 0, 1, 2, 3, 4, 5, 6, 7, 8, 9, 10], [10])])
def crcbursts_B7 : List Nat := [0, 1, 0, 4, 0, 16, 60, 127, 255, 511, 1023, 2047]
theorem crcbursts_tab7 : rtab .any (opsOf Try.f7 7) = crcbursts_T7 := by kernel_rfl
theorem crcbursts_bits7 : waitsOk crcbursts_T7.2 crcbursts_B7 = true := by kernel_rfl
theorem isSg_sg {l : List Int} : isSg (sg l) = true := by
  have h : (sg l).take ((sg l).length - 4) = l := by rw [sg_length, Nat.add_sub_cancel, sg, List.take_left]
  unfold isSg
  rw [h]
  simp [sg_length]

set_option maxHeartbeats 4000000 in
set_option maxRecDepth 100000 in
theorem crcbursts_any (A : Option Addr) (c : Nat) (l : List Int) (at_ pat : Int) (w : World) (hr : Kd.C (Kd.int .u8) w A l.length l) (hc : l.length ≤ c) (hb : Byt l) (hat : 0 ≤ at_ ∧ at_ < 65536) (hpat : 0 ≤ pat ∧ pat < 4294967296) :
    Calls Try.prog 7 #[.slice A l.length c, .int .u16 at_, .int .u32 pat] w fun e w' => e = .returned (.bool true) ∧ Below w.heap.size w w' := by
  have HB := Aside0.mk (Below.refl w.heap.size w)
  have HR := Aside0.mk hr
  have HY := Aside0.mk hb
  clear hr hb
  by_cases h1 : 300 < l.length
  · have hd : decide (300 < (l.length : Int)) = true := by simp; omega
    have hd2 : decide (300 < l.length) = true := by simp; omega
    go_enter Try.func7, Try.ntmps7
    go_wp2
    go_ret
    exact ⟨rfl, HB.out⟩
  · have hd : decide (300 < (l.length : Int)) = false := by simp; omega
    have hd2 : decide (300 < l.length) = false := by simp; omega
    obtain ⟨ha0, ha1⟩ := hat
    obtain ⟨sc, hsc⟩ : ∃ s, s = sg l := ⟨_, rfl⟩
    have hlen : sc.length = l.length + 4 := by rw [hsc, sg_length]
    have hne : ((sc.length : Int) != (l.length : Int) + 4) = false := by rw [bne_eq_false_iff_eq]; omega
    have hsl : sc.length ≤ 304 := by omega
    have hs0 : 4 ≤ sc.length := by omega
    obtain ⟨m, hm⟩ : ∃ m : Nat, (m : Int) = at_ % (8 * (sc.length : Int)) := ⟨(at_ % (8 * (sc.length : Int))).toNat, by
      have := Int.emod_nonneg at_ (show (8 * (sc.length : Int)) ≠ 0 by omega)
      omega⟩
    have hml : m ≤ 8 * sc.length := by
      have := Int.emod_lt_of_pos at_ (show 0 < (8 * (sc.length : Int)) by omega)
      omega
    have hmod : at_ % (8 * (sc.length : Int)) = (m : Int) := hm.symm
    have HYc : Aside0 (Byt sc) := ⟨by rw [hsc]; exact sg_byt HY.out⟩
    obtain ⟨d, hdd⟩ : ∃ d, d = tur sc m pat.toNat := ⟨_, rfl⟩
    have HYd : Aside0 (Byt d) := ⟨by rw [hdd]; exact tur_byt _ _ HYc.out⟩
    have hdl : d.length = sc.length := by rw [hdd, tur_length]
    obtain ⟨bd, hbd⟩ : ∃ b : Bool, b = decide (d = sc) := ⟨_, rfl⟩
    have HSD : Aside0 (isSg d = bd) := ⟨by rw [hbd, hdd]; exact tur_signed m pat.toNat HYc.out (by omega) hml hs0 (by rw [hsc]; exact isSg_sg)⟩
    have hse : ((strOfNums d).toList == (strOfNums sc).toList) = bd := by rw [str_eq HYd.out HYc.out, hbd]
    have HSC := Aside0.mk hsc
    have HDD := Aside0.mk hdd
    have HM : Aside0 (0 ≤ (m : Int) ∧ (m : Int) ≤ 8 * (sc.length : Int)) := ⟨by omega⟩
    have HPAT := Aside0.mk hpat
    have HL : Aside0 (l.length + 4 < 140737488355328) := ⟨by omega⟩
    have HLs : Aside0 (sc.length ≤ 1000000) := ⟨by omega⟩
    have HLd : Aside0 (d.length < 140737488355328) := ⟨by omega⟩
    have h8 : ¬ (8 * (sc.length : Int) = 0) := by omega
    have h8b : ((8 * (sc.length : Int)) == 0) = false := by rw [beq_eq_false_iff_ne]; exact h8
    have hl300 : l.length ≤ 300 := by omega
    clear hm hbd hdd hsc hlen hdl h1 hpat
    go_enter Try.func7, Try.ntmps7
    go_wp2_with (first
      | (go_at_call 20; refine (sign_any _ _ _ _ HR.out hc HL.out).mono ?_; rintro e w1 ⟨v, rfl, ho, hb⟩; rw [signF_sg HY.out, ← HSC.out] at ho; have HO := Aside0.mk ho; have HB1 := Aside0.mk hb; clear ho hb; obtain ⟨Ac, cc, eo⟩ := Kd.R_slice HO.out; subst eo)
      | (go_at_call 25; refine (turned_any _ _ sc (m : Int) pat _ (Kd.R_reads' HO.out).2.2 (Kd.R_reads' HO.out).2.1 HLs.out HM.out.1 HM.out.2 HPAT.out).mono ?_; rw [Int.toNat_natCast, ← HDD.out]; rintro e w2 ⟨v, rfl, ho, hb⟩; have HO2 := Aside0.mk ho; have HB2 := Aside0.mk (below_then HB1.out HB1.out.size hb); have HC := Aside0.mk (Kd.C_below (Kd.R_reads' HO.out).2.2 hb); clear ho hb; obtain ⟨Ad, cd, eo⟩ := Kd.R_slice HO2.out; subst eo; have HD := Aside0.mk (Kd.R_reads' HO2.out).2.2; have HDc := Aside0.mk (Kd.R_reads' HO2.out).2.1))
    refine start_ (n := 12) (S := fun w' => Below w2.heap.size w2 w') (ds := []) #[false, false, false, false, false, false, false, false, false, false, false, false] (by kernel_rfl) rfl rfl (below_drew (Below.refl _ _)) (fun hHeld => ?_)
    refine with_tabW crcbursts_tab7 crcbursts_bits7 (fun HT_ HW_ => ?_)
    refine pure_ (i := 0) (N := some 29) (v := ?_) (a' := ?_) #[true, false, false, false, false, false, false, false, false, false, false, false] rfl rfl (any_of HT_.out (by kernel_rfl)) (fun _ _ _ h => h) (Or.inl ⟨by rfl, ?_⟩) ?_ ?_
    rotate_left
    · intro w'
      go_simp
      with_reducible rfl
    rotate_left
    · simp only [Act.put, List.setIfInBounds_toArray, List.set_cons_zero, List.set_cons_succ, i64_w, i32_w]
      rfl
    refine pure_ (i := 2) (N := some 31) (v := ?_) (a' := ?_) #[true, false, true, false, false, false, false, false, false, false, false, false] rfl rfl (any_of HT_.out (by kernel_rfl)) (fun _ _ _ h => h) (Or.inl ⟨by rfl, ?_⟩) ?_ ?_
    rotate_left
    · intro w'
      go_simp
      with_reducible rfl
    rotate_left
    · simp only [Act.put, List.setIfInBounds_toArray, List.set_cons_zero, List.set_cons_succ, i64_w, i32_w]
      rfl
    refine take_ (i := 3) (N := some 32) (v := ?_) (a' := ?_) #[true, false, true, true, false, false, false, false, false, false, false, false] rfl rfl (take_ofW HT_.out HW_.out (by kernel_rfl)) (fun _ _ _ h => h) (Or.inl ⟨by rfl, ?_⟩) hHeld ?_ ?_
    rotate_left
    · intro w' s0
      have hcv := Kd.C_string (P := Try.prog) (A := Ad) (c := cd) Try.underlying23 Try.underlying5 Try.underlying9 (Kd.C_below HD.out s0)
      go_simp
      with_reducible rfl
    rotate_left
    · simp only [Act.put, List.setIfInBounds_toArray, List.set_cons_zero, List.set_cons_succ, i64_w, i32_w]
      rfl
    refine pure_ (i := 4) (N := some 33) (v := ?_) (a' := ?_) #[true, false, true, true, true, false, false, false, false, false, false, false] rfl rfl (any_of HT_.out (by kernel_rfl)) (fun _ _ _ h => h) (Or.inl ⟨by rfl, ?_⟩) ?_ ?_
    rotate_left
    · intro w'
      go_simp
      with_reducible rfl
    rotate_left
    · simp only [Act.put, List.setIfInBounds_toArray, List.set_cons_zero, List.set_cons_succ, i64_w, i32_w]
      rfl
    refine take_ (i := 5) (N := some 34) (v := ?_) (a' := ?_) #[true, false, true, true, true, true, false, false, false, false, false, false] rfl rfl (take_ofW HT_.out HW_.out (by kernel_rfl)) (fun _ _ _ h => h) (Or.inl ⟨by rfl, ?_⟩) hHeld ?_ ?_
    rotate_left
    · intro w' s0
      have hcv := Kd.C_string (P := Try.prog) (A := Ac) (c := cc) Try.underlying23 Try.underlying5 Try.underlying9 (Kd.C_below HC.out s0)
      go_simp
      with_reducible rfl
    rotate_left
    · simp only [Act.put, List.setIfInBounds_toArray, List.set_cons_zero, List.set_cons_succ, i64_w, i32_w]
      rfl
    refine pure_ (i := 6) (N := some 35) (v := ?_) (a' := ?_) #[true, false, true, true, true, true, true, false, false, false, false, false] rfl rfl (any_of HT_.out (by kernel_rfl)) (fun _ _ _ h => h) (Or.inl ⟨by rfl, ?_⟩) ?_ ?_
    rotate_left
    · intro w'
      go_simp
      with_reducible rfl
    rotate_left
    · simp only [Act.put, List.setIfInBounds_toArray, List.set_cons_zero, List.set_cons_succ, i64_w, i32_w]
      rfl
    refine one_ (i := 1) (N := some 30) #[true, true, true, true, true, true, true, false, false, false, false, false] rfl rfl (one_of HT_.out (by kernel_rfl)) (by decide) (fun K hK => ?_)
    refine goes_ Try.func23 (by kernel_rfl) rfl #[.slice Ad d.length cd] (by rfl) rfl rfl (by (try simp only [List.map_toArray, List.map_cons, List.map_nil]); first | done | rfl) ?_
    refine (signed_any _ _ d _ (Kd.C_below HD.out hHeld) HDc.out HYd.out HLd.out).mono ?_
    rw [HSD.out]
    rintro e w3 ⟨rfl, hb⟩
    refine ⟨_, rfl, ?_⟩
    have HB3 := Aside0.mk (below_then hHeld hHeld.size hb)
    clear hb
    refine hK.out _ _ HB3.out (fun hHeld => ?_)
    clear hK K
    refine norm_ (a' := ?_) ?_ ?_
    rotate_left
    · show Act.put _ (some 30) _ = _
      simp only [Act.put, List.setIfInBounds_toArray, List.set_cons_zero, List.set_cons_succ, i64_w, i32_w]
      rfl
    refine pure_ (i := 7) (N := some 36) (v := ?_) (a' := ?_) #[true, true, true, true, true, true, true, true, false, false, false, false] rfl rfl (any_of HT_.out (by kernel_rfl)) (fun _ _ _ h => h) (Or.inl ⟨by rfl, ?_⟩) ?_ ?_
    rotate_left
    · intro w'
      go_simp
      with_reducible rfl
    rotate_left
    · simp only [Act.put, List.setIfInBounds_toArray, List.set_cons_zero, List.set_cons_succ, i64_w, i32_w]
      rfl
    refine pure_ (i := 8) (N := some 37) (v := ?_) (a' := ?_) #[true, true, true, true, true, true, true, true, true, false, false, false] rfl rfl (any_of HT_.out (by kernel_rfl)) (fun _ _ _ h => h) (Or.inl ⟨by rfl, ?_⟩) ?_ ?_
    rotate_left
    · intro w'
      go_simp
      with_reducible rfl
    rotate_left
    · simp only [Act.put, List.setIfInBounds_toArray, List.set_cons_zero, List.set_cons_succ, i64_w, i32_w]
      rfl
    refine one_ (i := 9) (N := some 38) #[true, true, true, true, true, true, true, true, true, true, false, false] rfl rfl (one_of HT_.out (by kernel_rfl)) (by decide) (fun K hK => ?_)
    refine goes_ Try.func19 (by kernel_rfl) rfl #[] (by rfl) rfl rfl (by (try simp only [List.map_toArray, List.map_cons, List.map_nil]); first | done | rfl) ?_
    refine (awake3_any _).mono ?_
    rintro e w4 ⟨rfl, hb⟩
    refine ⟨_, rfl, ?_⟩
    have HB4 := Aside0.mk (below_then HB3.out HB3.out.size hb)
    clear hb
    refine hK.out _ _ HB4.out (fun hHeld => ?_)
    clear hK K
    refine norm_ (a' := ?_) ?_ ?_
    rotate_left
    · show Act.put _ (some 38) _ = _
      simp only [Act.put, List.setIfInBounds_toArray, List.set_cons_zero, List.set_cons_succ, i64_w, i32_w]
      rfl
    refine pure_ (i := 10) (N := some 39) (v := ?_) (a' := ?_) #[true, true, true, true, true, true, true, true, true, true, true, false] rfl rfl (any_of HT_.out (by kernel_rfl)) (fun _ _ _ h => h) (Or.inl ⟨by rfl, ?_⟩) ?_ ?_
    rotate_left
    · intro w'
      go_simp
      with_reducible rfl
    rotate_left
    · simp only [Act.put, List.setIfInBounds_toArray, List.set_cons_zero, List.set_cons_succ, i64_w, i32_w]
      rfl
    refine pure_ (i := 11) (N := some 6) (v := ?_) (a' := ?_) #[true, true, true, true, true, true, true, true, true, true, true, true] rfl rfl (any_of HT_.out (by kernel_rfl)) (fun _ _ _ h => h) (Or.inl ⟨by rfl, ?_⟩) ?_ ?_
    rotate_left
    · intro w'
      go_simp
      with_reducible rfl
    rotate_left
    · simp only [Act.put, List.setIfInBounds_toArray, List.set_cons_zero, List.set_cons_succ, i64_w, i32_w]
      rfl
    refine done_ (done_of HT_.out (by kernel_rfl)) ?_
    go_wp2
    go_ret
    exact ⟨rfl, below_then HB2.out HB2.out.size HB4.out⟩
end Go.Proofs.Ytonbphiaideleaa.M
