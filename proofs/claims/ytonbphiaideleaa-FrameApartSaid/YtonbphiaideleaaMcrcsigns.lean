/- lacunalaw03.CrcSigns: the walk. -/
import Derived.Test.YtonbphiaideleaaMcrcbursts
namespace Go.Proofs.Ytonbphiaideleaa.M
open Go.RowKit Go.Proofs.YtonbphiaideleaaW.PrintWords Go.Proofs.YtonbphiaideleaaW.PrintLast
set_option linter.unusedVariables false
set_option linter.unusedSimpArgs false
def crcsigns_T4 : Bool × List (List Nat × List Nat) := (true, [([], []), ([0], [0]), ([], []), ([2], [2]), ([3], [3]), ([1, 4], [1, 4]), ([5], [5]), ([6], [6]), ([6], [6]), ([8, 6], [6, 8]), ([7, 9, 6], [6, 7, 9]), ([10, 6], [6, 10]), ([6], [6]), ([12, 6], [6, 12]), ([11, 13, 6], [6, 11, 13]), ([6, 14], [6, 14]), ([15, 6], [15]), ([16], [16]), ([16], [16]), ([18, 16], [16, 18]), ([17, 19, 16], [16, 17, 19]), ([20, 16], [16, 20]), ([16], [16]), ([22, 16], [16, 22]), ([21, 23, 16], [16, 21, 23]), ([16, 24], [16, 24]), ([25, 16], [25]), ([26], [26]), ([26], [26]), ([28, 26], [26, 28]), ([29, 26], [26, 29]), ([27, 30, 26], [26, 27, 30]), ([31, 26], [26, 31]), ([26], [26]), ([33, 26], [26, 33]), ([34, 26], [26, 34]), ([32, 35, 26], [26, 32, 35]), ([26, 36], [26, 36]), ([37, 26], [37]), ([38], [38]), ([38], [38]), ([40, 38], [38, 40]), ([41, 38], [38, 41]), ([39, 42, 38], [38, 39, 42]), ([43, 38], [38, 43]), ([38], [38]), ([45, 38], [38, 45]), ([46, 38], [38, 46]), ([44, 47, 38], [38, 44, 47]), ([38, 48], [38, 48]), ([49, 38], [49]), ([50], [50]), ([50], [50]), ([52, 50], [50, 52]), ([53, 50], [50, 53]), ([51, 54, 50], [50, 51, 54]), ([55, 50], [50, 55]), ([50], [50]), ([57, 50], [50, 57]), ([58, 50], [50, 58]), ([56, 59, 50], [50, 56, 59]), ([50, 60], [50, 60])])
def crcsigns_B4 : List Nat := [0, 1, 0, 4, 12, 31, 63, 127, 127, 383, 1023, 2047, 127, 4223, 16383, 32767, 65535, 131071, 131071, 393215, 1048575, 2097151, 131071, 4325375, 16777215, 33554431, 67108863, 134217727, 134217727, 402653183, 939524095, 2147483647, 4294967295, 134217727, 8724152319, 25904021503, 68719476735, 137438953471, 274877906943, 549755813887, 549755813887, 1649267441663, 3848290697215, 8796093022207, 17592186044415, 549755813887, 35734127902719, 106102872080383, 281474976710655, 562949953421311, 1125899906842623, 2251799813685247, 2251799813685247, 6755399441055743, 15762598695796735, 36028797018963967, 72057594037927935, 2251799813685247, 146366987889541119, 434597364041252863, 1152921504606846975, 2305843009213693951]
theorem crcsigns_tab4 : rtab .any (opsOf Try.f6 4) = crcsigns_T4 := by kernel_rfl
theorem crcsigns_bits4 : waitsOk crcsigns_T4.2 crcsigns_B4 = true := by kernel_rfl
def crcsigns_T6 : Bool × List (List Nat × List Nat) := (true, [([], []), ([0], [0]), ([1], [1]), ([], []), ([3, 1], [3]), ([4], [4]), ([2, 5], [2, 5]), ([6, 4], [6]), ([7], [7]), ([8, 7, 7], [7, 8]), ([7], [7]), ([10, 9, 7], [7, 10]), ([9, 11, 7], [7, 9, 11]), ([7, 12], [7, 12]), ([13, 11], [13]), ([14], [14]), ([15, 14, 14], [14, 15]), ([16, 16, 14], [14, 16]), ([14, 17], [14, 17]), ([18, 17], [18]), ([19, 19], [19]), ([19, 20], [19, 20]), ([21, 20, 0, 1, 2, 3, 4, 5, 6, 7, 8, 9, 10, 11, 12, 13, 14, 15, 16, 17, 18, 19, 20, 21], [21])])
def crcsigns_B6 : List Nat := [0, 1, 3, 0, 11, 27, 63, 127, 255, 511, 255, 2047, 4095, 8191, 16383, 32767, 65535, 131071, 262143, 524287, 1048575, 2097151, 4194303]
theorem crcsigns_tab6 : rtab .any (opsOf Try.f6 6) = crcsigns_T6 := by kernel_rfl
theorem crcsigns_bits6 : waitsOk crcsigns_T6.2 crcsigns_B6 = true := by kernel_rfl

theorem add_pos (a : Addr) (n : Nat) (h : 0 < n) : a.add n = ⟨a.block, a.off + n, none⟩ := by
  unfold Addr.add
  split
  · omega
  · rfl

set_option maxHeartbeats 4000000 in
set_option maxRecDepth 100000 in
theorem crcsigns_any (A : Option Addr) (c : Nat) (l : List Int) (s : Int) (w : World) (hr : Kd.C (Kd.int .u8) w A l.length l) (hc : l.length ≤ c) (hb : Byt l) (hs : 0 ≤ s ∧ s < 4294967296) :
    Calls Try.prog 6 #[.slice A l.length c, .int .u32 s] w fun e w' => e = .returned (.bool true) ∧ Below w.heap.size w w' := by
  have HB := Aside0.mk (Below.refl w.heap.size w)
  have HR := Aside0.mk hr
  have HY := Aside0.mk hb
  have HC := Aside0.mk hc
  clear hr hb
  by_cases h1 : 400 < l.length
  · have hd : decide (400 < (l.length : Int)) = true := by simp; omega
    have hd2 : decide (400 < l.length) = true := by simp; omega
    go_enter Try.func6, Try.ntmps6
    go_wp2
    go_ret
    exact ⟨rfl, HB.out⟩
  · have hd : decide (400 < (l.length : Int)) = false := by simp; omega
    have hd2 : decide (400 < l.length) = false := by simp; omega
    have hl400 : l.length ≤ 400 := by omega
    obtain ⟨hs0, hs1⟩ := hs
    obtain ⟨pl, hpl⟩ : ∃ p, p = l ++ le4 s := ⟨_, rfl⟩
    have hplen : pl.length = l.length + 4 := by rw [hpl]; simp [le4]
    have hne : ((pl.length : Int) != (l.length : Int) + 4) = false := by rw [bne_eq_false_iff_eq]; omega
    have hrd : ∀ i : Nat, i < 4 → rd pl ((l.length + i : Nat) : Int) = (le4 s).getD i 0 := fun i hi => by
      unfold rd
      rw [Int.toNat_natCast, hpl, List.getD_eq_getElem?_getD, List.getElem?_append_right (by omega), Nat.add_sub_cancel_left, List.getD_eq_getElem?_getD]
    have htk : pl.take l.length = l := by rw [hpl, List.take_left]
    have HL : Aside0 (l.length + 4 < 140737488355328) := ⟨by omega⟩
    have HL2 : Aside0 (l.length < 140737488355328) := ⟨by omega⟩
    have HPL := Aside0.mk hpl
    have HRD := Aside0.mk hrd
    have HTK := Aside0.mk htk
    have HPN := Aside0.mk hplen
    clear hpl hrd htk
    have hpg : (l.length : Int) + 3 < (pl.length : Int) := by omega
    have hpg0 : (l.length : Int) < (pl.length : Int) := by omega
    clear hplen
    go_enter Try.func6, Try.ntmps6
    go_wp2_with (go_at_call 21; refine (put_any s hs0 hs1 _ _ _ _ HR.out hc HL.out).mono ?_; rw [← HPL.out]; rintro e w1 ⟨v, rfl, ho, hb⟩; have HO := Aside0.mk ho; have HB1 := Aside0.mk hb; clear ho hb; obtain ⟨Ap, cp, eo⟩ := Kd.R_slice HO.out; subst eo)
    obtain ⟨ad, ea, _⟩ := Kd.at_int (Kd.R_reads' HO.out).2.2 (l.length : Int) (by omega) hpg0
    cases ea
    obtain ⟨i05, hi05, _, _, _⟩ := info_parts info5
    have hcut := cut_to (P := Try.prog) 23 5 .i64 Try.underlying23 hi05 (some ad) pl.length cp (l.length : Int) (by omega) (by omega) (Kd.R_reads' HO.out).2.1
    simp only [Int.toNat_natCast] at hcut
    have ht := Kd.C_take (m := l.length) (Kd.R_reads' HO.out).2.2 (by omega)
    rw [HTK.out] at ht
    have HT := Aside0.mk ht
    have hx : ∀ i : Nat, i < 4 → w1.cell? (ad.add (l.length + i)) = some (.int .u8 ((le4 s).getD i 0)) := fun i hi => by
      obtain ⟨ad2, e2, h2⟩ := Kd.at_int (Kd.R_reads' HO.out).2.2 ((l.length + i : Nat) : Int) (by omega) (by have := HPN.out; omega)
      cases e2
      rw [HRD.out i hi, Int.toNat_natCast] at h2
      exact h2
    have HX0 : Aside0 (w1.cell? (ad.add l.length) = some (.int .u8 (s % 256))) := ⟨hx 0 (by omega)⟩
    have HX1 : Aside0 (w1.cell? ⟨ad.block, ad.off + (l.length + 1), none⟩ = some (.int .u8 (s / 256 % 256))) := ⟨by rw [← add_pos ad (l.length + 1) (by omega)]; exact hx 1 (by omega)⟩
    have HX2 : Aside0 (w1.cell? ⟨ad.block, ad.off + (l.length + 2), none⟩ = some (.int .u8 (s / 65536 % 256))) := ⟨by rw [← add_pos ad (l.length + 2) (by omega)]; exact hx 2 (by omega)⟩
    have HX3 : Aside0 (w1.cell? ⟨ad.block, ad.off + (l.length + 3), none⟩ = some (.int .u8 (s / 16777216))) := ⟨by rw [← add_pos ad (l.length + 3) (by omega), hx 3 (by omega)]; simp only [le4, List.getD_cons_succ, List.getD_cons_zero]; congr 2; omega⟩
    have HR1 := Aside0.mk (Kd.C_below HR.out HB1.out)
    have e4 : wrap64 ((l.length : Int) + 4) = (l.length : Int) + 4 := by unfold wrap64; omega
    have e1 : wrap64 ((l.length : Int) + 1) = (l.length : Int) + 1 := by unfold wrap64; omega
    have e2 : wrap64 ((l.length : Int) + 2) = (l.length : Int) + 2 := by unfold wrap64; omega
    have e3 : wrap64 ((l.length : Int) + 3) = (l.length : Int) + 3 := by unfold wrap64; omega
    have b1 : (0 : Int) ≤ (l.length : Int) + 1 := by omega
    have b2 : (0 : Int) ≤ (l.length : Int) + 2 := by omega
    have b3 : (0 : Int) ≤ (l.length : Int) + 3 := by omega
    have b4 : (l.length : Int) + 1 < (pl.length : Int) := by omega
    have b5 : (l.length : Int) + 2 < (pl.length : Int) := by omega
    have t1 : ((l.length : Int) + 1).toNat = l.length + 1 := by omega
    have t2 : ((l.length : Int) + 2).toNat = l.length + 2 := by omega
    have t3 : ((l.length : Int) + 3).toNat = l.length + 3 := by omega
    have v0 : IntKind.u8.wrap s = s % 256 := IntKind.wrap_u8 _
    have v1 : IntKind.u8.wrap (s / 256) = s / 256 % 256 := IntKind.wrap_u8 _
    have v2 : IntKind.u8.wrap (s / 65536) = s / 65536 % 256 := IntKind.wrap_u8 _
    have v3 : IntKind.u8.wrap (s / 16777216) = s / 16777216 := by rw [IntKind.wrap_u8]; omega
    have q0 : ((strOfNums l).toList != (strOfNums l).toList) = false := by simp
    have q1 : (s % 256 != s % 256) = false := by simp
    have q2 : (s / 256 % 256 != s / 256 % 256) = false := by simp
    have q3 : (s / 65536 % 256 != s / 65536 % 256) = false := by simp
    have q4 : (s / 16777216 != s / 16777216) = false := by simp
    clear hx ht hi05
    refine start_ (n := 62) (S := fun w' => Below w1.heap.size w1 w') (ds := []) #[false, false, false, false, false, false, false, false, false, false, false, false, false, false, false, false, false, false, false, false, false, false, false, false, false, false, false, false, false, false, false, false, false, false, false, false, false, false, false, false, false, false, false, false, false, false, false, false, false, false, false, false, false, false, false, false, false, false, false, false, false, false] (by kernel_rfl) rfl rfl (below_drew (Below.refl _ _)) (fun hHeld => ?_)
    refine with_tabW crcsigns_tab4 crcsigns_bits4 (fun HT_ HW_ => ?_)
    refine pure_ (i := 0) (N := some 12) (v := ?_) (a' := ?_) #[true, false, false, false, false, false, false, false, false, false, false, false, false, false, false, false, false, false, false, false, false, false, false, false, false, false, false, false, false, false, false, false, false, false, false, false, false, false, false, false, false, false, false, false, false, false, false, false, false, false, false, false, false, false, false, false, false, false, false, false, false, false] rfl rfl (any_of HT_.out (by kernel_rfl)) (fun _ _ _ h => h) (Or.inl ⟨by rfl, ?_⟩) ?_ ?_
    rotate_left
    · intro w'
      go_simp
      with_reducible rfl
    rotate_left
    · simp only [Act.put, List.setIfInBounds_toArray, List.set_cons_zero, List.set_cons_succ, i64_w, i32_w]
      rfl
    refine pure_ (i := 1) (N := some 13) (v := ?_) (a' := ?_) #[true, true, false, false, false, false, false, false, false, false, false, false, false, false, false, false, false, false, false, false, false, false, false, false, false, false, false, false, false, false, false, false, false, false, false, false, false, false, false, false, false, false, false, false, false, false, false, false, false, false, false, false, false, false, false, false, false, false, false, false, false, false] rfl rfl (any_of HT_.out (by kernel_rfl)) (fun _ _ _ h => h) (Or.inl ⟨by rfl, ?_⟩) ?_ ?_
    rotate_left
    · intro w'
      go_simp
      with_reducible rfl
    rotate_left
    · simp only [Act.put, List.setIfInBounds_toArray, List.set_cons_zero, List.set_cons_succ, i64_w, i32_w]
      rfl
    refine pure_ (i := 2) (N := some 14) (v := ?_) (a' := ?_) #[true, true, true, false, false, false, false, false, false, false, false, false, false, false, false, false, false, false, false, false, false, false, false, false, false, false, false, false, false, false, false, false, false, false, false, false, false, false, false, false, false, false, false, false, false, false, false, false, false, false, false, false, false, false, false, false, false, false, false, false, false, false] rfl rfl (any_of HT_.out (by kernel_rfl)) (fun _ _ _ h => h) (Or.inl ⟨by rfl, ?_⟩) ?_ ?_
    rotate_left
    · intro w'
      go_simp
      with_reducible rfl
    rotate_left
    · simp only [Act.put, List.setIfInBounds_toArray, List.set_cons_zero, List.set_cons_succ, i64_w, i32_w]
      rfl
    refine pure_ (i := 3) (N := some 15) (v := ?_) (a' := ?_) #[true, true, true, true, false, false, false, false, false, false, false, false, false, false, false, false, false, false, false, false, false, false, false, false, false, false, false, false, false, false, false, false, false, false, false, false, false, false, false, false, false, false, false, false, false, false, false, false, false, false, false, false, false, false, false, false, false, false, false, false, false, false] rfl rfl (any_of HT_.out (by kernel_rfl)) (fun _ _ _ h => h) (Or.inl ⟨by rfl, ?_⟩) ?_ ?_
    rotate_left
    · intro w'
      go_simp
      with_reducible rfl
    rotate_left
    · simp only [Act.put, List.setIfInBounds_toArray, List.set_cons_zero, List.set_cons_succ, i64_w, i32_w]
      rfl
    refine pure_ (i := 4) (N := some 16) (v := ?_) (a' := ?_) #[true, true, true, true, true, false, false, false, false, false, false, false, false, false, false, false, false, false, false, false, false, false, false, false, false, false, false, false, false, false, false, false, false, false, false, false, false, false, false, false, false, false, false, false, false, false, false, false, false, false, false, false, false, false, false, false, false, false, false, false, false, false] rfl rfl (any_of HT_.out (by kernel_rfl)) (fun _ _ _ h => h) (Or.inl ⟨by rfl, ?_⟩) ?_ ?_
    rotate_left
    · intro w'
      go_simp
      with_reducible rfl
    rotate_left
    · simp only [Act.put, List.setIfInBounds_toArray, List.set_cons_zero, List.set_cons_succ, i64_w, i32_w]
      rfl
    refine pure_ (i := 5) (N := some 17) (v := ?_) (a' := ?_) #[true, true, true, true, true, true, false, false, false, false, false, false, false, false, false, false, false, false, false, false, false, false, false, false, false, false, false, false, false, false, false, false, false, false, false, false, false, false, false, false, false, false, false, false, false, false, false, false, false, false, false, false, false, false, false, false, false, false, false, false, false, false] rfl rfl (any_of HT_.out (by kernel_rfl)) (fun _ _ _ h => h) (Or.inl ⟨by rfl, ?_⟩) ?_ ?_
    rotate_left
    · intro w'
      go_simp
      with_reducible rfl
    rotate_left
    · simp only [Act.put, List.setIfInBounds_toArray, List.set_cons_zero, List.set_cons_succ, i64_w, i32_w]
      rfl
    refine pure_ (i := 6) (N := some 18) (v := ?_) (a' := ?_) #[true, true, true, true, true, true, true, false, false, false, false, false, false, false, false, false, false, false, false, false, false, false, false, false, false, false, false, false, false, false, false, false, false, false, false, false, false, false, false, false, false, false, false, false, false, false, false, false, false, false, false, false, false, false, false, false, false, false, false, false, false, false] rfl rfl (any_of HT_.out (by kernel_rfl)) (fun _ _ _ h => h) (Or.inl ⟨by rfl, ?_⟩) ?_ ?_
    rotate_left
    · intro w'
      go_simp
      with_reducible rfl
    rotate_left
    · simp only [Act.put, List.setIfInBounds_toArray, List.set_cons_zero, List.set_cons_succ, i64_w, i32_w]
      rfl
    refine pure_ (i := 7) (N := some 19) (v := ?_) (a' := ?_) #[true, true, true, true, true, true, true, true, false, false, false, false, false, false, false, false, false, false, false, false, false, false, false, false, false, false, false, false, false, false, false, false, false, false, false, false, false, false, false, false, false, false, false, false, false, false, false, false, false, false, false, false, false, false, false, false, false, false, false, false, false, false] rfl rfl (any_of HT_.out (by kernel_rfl)) (fun _ _ _ h => h) (Or.inl ⟨by rfl, ?_⟩) ?_ ?_
    rotate_left
    · intro w'
      go_simp
      with_reducible rfl
    rotate_left
    · simp only [Act.put, List.setIfInBounds_toArray, List.set_cons_zero, List.set_cons_succ, i64_w, i32_w]
      rfl
    refine pure_ (i := 8) (N := some 20) (v := ?_) (a' := ?_) #[true, true, true, true, true, true, true, true, true, false, false, false, false, false, false, false, false, false, false, false, false, false, false, false, false, false, false, false, false, false, false, false, false, false, false, false, false, false, false, false, false, false, false, false, false, false, false, false, false, false, false, false, false, false, false, false, false, false, false, false, false, false] rfl rfl (any_of HT_.out (by kernel_rfl)) (fun _ _ _ h => h) (Or.inl ⟨by rfl, ?_⟩) ?_ ?_
    rotate_left
    · intro w'
      go_simp
      with_reducible rfl
    rotate_left
    · simp only [Act.put, List.setIfInBounds_toArray, List.set_cons_zero, List.set_cons_succ, i64_w, i32_w]
      rfl
    refine pure_ (i := 9) (N := some 21) (v := ?_) (a' := ?_) #[true, true, true, true, true, true, true, true, true, true, false, false, false, false, false, false, false, false, false, false, false, false, false, false, false, false, false, false, false, false, false, false, false, false, false, false, false, false, false, false, false, false, false, false, false, false, false, false, false, false, false, false, false, false, false, false, false, false, false, false, false, false] rfl rfl (any_of HT_.out (by kernel_rfl)) (fun _ _ _ h => h) (Or.inl ⟨by rfl, ?_⟩) ?_ ?_
    rotate_left
    · intro w'
      go_simp
      with_reducible rfl
    rotate_left
    · simp only [Act.put, List.setIfInBounds_toArray, List.set_cons_zero, List.set_cons_succ, i64_w, i32_w]
      rfl
    refine pure_ (i := 10) (N := some 22) (v := ?_) (a' := ?_) #[true, true, true, true, true, true, true, true, true, true, true, false, false, false, false, false, false, false, false, false, false, false, false, false, false, false, false, false, false, false, false, false, false, false, false, false, false, false, false, false, false, false, false, false, false, false, false, false, false, false, false, false, false, false, false, false, false, false, false, false, false, false] rfl rfl (any_of HT_.out (by kernel_rfl)) (fun _ _ _ h => h) (Or.inl ⟨by rfl, ?_⟩) ?_ ?_
    rotate_left
    · intro w'
      go_simp
      with_reducible rfl
    rotate_left
    · simp only [Act.put, List.setIfInBounds_toArray, List.set_cons_zero, List.set_cons_succ, i64_w, i32_w]
      rfl
    refine take_ (i := 11) (N := some 23) (v := ?_) (a' := ?_) #[true, true, true, true, true, true, true, true, true, true, true, true, false, false, false, false, false, false, false, false, false, false, false, false, false, false, false, false, false, false, false, false, false, false, false, false, false, false, false, false, false, false, false, false, false, false, false, false, false, false, false, false, false, false, false, false, false, false, false, false, false, false] rfl rfl (take_ofW HT_.out HW_.out (by kernel_rfl)) (fun _ _ _ h => h) (Or.inl ⟨by rfl, ?_⟩) hHeld ?_ ?_
    rotate_left
    · intro w' s0
      have hcv := Kd.C_string (P := Try.prog) (A := (some ad)) (c := cp) Try.underlying23 Try.underlying5 Try.underlying9 (Kd.C_below HT.out s0)
      go_simp
      with_reducible rfl
    rotate_left
    · simp only [Act.put, List.setIfInBounds_toArray, List.set_cons_zero, List.set_cons_succ, i64_w, i32_w]
      rfl
    refine pure_ (i := 12) (N := some 24) (v := ?_) (a' := ?_) #[true, true, true, true, true, true, true, true, true, true, true, true, true, false, false, false, false, false, false, false, false, false, false, false, false, false, false, false, false, false, false, false, false, false, false, false, false, false, false, false, false, false, false, false, false, false, false, false, false, false, false, false, false, false, false, false, false, false, false, false, false, false] rfl rfl (any_of HT_.out (by kernel_rfl)) (fun _ _ _ h => h) (Or.inl ⟨by rfl, ?_⟩) ?_ ?_
    rotate_left
    · intro w'
      go_simp
      with_reducible rfl
    rotate_left
    · simp only [Act.put, List.setIfInBounds_toArray, List.set_cons_zero, List.set_cons_succ, i64_w, i32_w]
      rfl
    refine take_ (i := 13) (N := some 25) (v := ?_) (a' := ?_) #[true, true, true, true, true, true, true, true, true, true, true, true, true, true, false, false, false, false, false, false, false, false, false, false, false, false, false, false, false, false, false, false, false, false, false, false, false, false, false, false, false, false, false, false, false, false, false, false, false, false, false, false, false, false, false, false, false, false, false, false, false, false] rfl rfl (take_ofW HT_.out HW_.out (by kernel_rfl)) (fun _ _ _ h => h) (Or.inl ⟨by rfl, ?_⟩) hHeld ?_ ?_
    rotate_left
    · intro w' s0
      have hcv := Kd.C_string (P := Try.prog) (A := A) (c := c) Try.underlying23 Try.underlying5 Try.underlying9 (Kd.C_below HR1.out s0)
      go_simp
      with_reducible rfl
    rotate_left
    · simp only [Act.put, List.setIfInBounds_toArray, List.set_cons_zero, List.set_cons_succ, i64_w, i32_w]
      rfl
    refine pure_ (i := 14) (N := some 26) (v := ?_) (a' := ?_) #[true, true, true, true, true, true, true, true, true, true, true, true, true, true, true, false, false, false, false, false, false, false, false, false, false, false, false, false, false, false, false, false, false, false, false, false, false, false, false, false, false, false, false, false, false, false, false, false, false, false, false, false, false, false, false, false, false, false, false, false, false, false] rfl rfl (any_of HT_.out (by kernel_rfl)) (fun _ _ _ h => h) (Or.inl ⟨by rfl, ?_⟩) ?_ ?_
    rotate_left
    · intro w'
      go_simp
      with_reducible rfl
    rotate_left
    · simp only [Act.put, List.setIfInBounds_toArray, List.set_cons_zero, List.set_cons_succ, i64_w, i32_w]
      rfl
    refine pure_ (i := 15) (N := some 27) (v := ?_) (a' := ?_) #[true, true, true, true, true, true, true, true, true, true, true, true, true, true, true, true, false, false, false, false, false, false, false, false, false, false, false, false, false, false, false, false, false, false, false, false, false, false, false, false, false, false, false, false, false, false, false, false, false, false, false, false, false, false, false, false, false, false, false, false, false, false] rfl rfl (any_of HT_.out (by kernel_rfl)) (fun _ _ _ h => h) (Or.inl ⟨by rfl, ?_⟩) ?_ ?_
    rotate_left
    · intro w'
      go_simp
      with_reducible rfl
    rotate_left
    · simp only [Act.put, List.setIfInBounds_toArray, List.set_cons_zero, List.set_cons_succ, i64_w, i32_w]
      rfl
    refine pure_ (i := 16) (N := some 28) (v := ?_) (a' := ?_) #[true, true, true, true, true, true, true, true, true, true, true, true, true, true, true, true, true, false, false, false, false, false, false, false, false, false, false, false, false, false, false, false, false, false, false, false, false, false, false, false, false, false, false, false, false, false, false, false, false, false, false, false, false, false, false, false, false, false, false, false, false, false] rfl rfl (any_of HT_.out (by kernel_rfl)) (fun _ _ _ h => h) (Or.inl ⟨by rfl, ?_⟩) ?_ ?_
    rotate_left
    · intro w'
      go_simp
      with_reducible rfl
    rotate_left
    · simp only [Act.put, List.setIfInBounds_toArray, List.set_cons_zero, List.set_cons_succ, i64_w, i32_w]
      rfl
    refine pure_ (i := 17) (N := some 29) (v := ?_) (a' := ?_) #[true, true, true, true, true, true, true, true, true, true, true, true, true, true, true, true, true, true, false, false, false, false, false, false, false, false, false, false, false, false, false, false, false, false, false, false, false, false, false, false, false, false, false, false, false, false, false, false, false, false, false, false, false, false, false, false, false, false, false, false, false, false] rfl rfl (any_of HT_.out (by kernel_rfl)) (fun _ _ _ h => h) (Or.inl ⟨by rfl, ?_⟩) ?_ ?_
    rotate_left
    · intro w'
      go_simp
      with_reducible rfl
    rotate_left
    · simp only [Act.put, List.setIfInBounds_toArray, List.set_cons_zero, List.set_cons_succ, i64_w, i32_w]
      rfl
    refine pure_ (i := 18) (N := some 30) (v := ?_) (a' := ?_) #[true, true, true, true, true, true, true, true, true, true, true, true, true, true, true, true, true, true, true, false, false, false, false, false, false, false, false, false, false, false, false, false, false, false, false, false, false, false, false, false, false, false, false, false, false, false, false, false, false, false, false, false, false, false, false, false, false, false, false, false, false, false] rfl rfl (any_of HT_.out (by kernel_rfl)) (fun _ _ _ h => h) (Or.inl ⟨by rfl, ?_⟩) ?_ ?_
    rotate_left
    · intro w'
      go_simp
      with_reducible rfl
    rotate_left
    · simp only [Act.put, List.setIfInBounds_toArray, List.set_cons_zero, List.set_cons_succ, i64_w, i32_w]
      rfl
    refine pure_ (i := 19) (N := some 31) (v := ?_) (a' := ?_) #[true, true, true, true, true, true, true, true, true, true, true, true, true, true, true, true, true, true, true, true, false, false, false, false, false, false, false, false, false, false, false, false, false, false, false, false, false, false, false, false, false, false, false, false, false, false, false, false, false, false, false, false, false, false, false, false, false, false, false, false, false, false] rfl rfl (any_of HT_.out (by kernel_rfl)) (fun _ _ _ h => h) (Or.inl ⟨by rfl, ?_⟩) ?_ ?_
    rotate_left
    · intro w'
      go_simp
      with_reducible rfl
    rotate_left
    · simp only [Act.put, List.setIfInBounds_toArray, List.set_cons_zero, List.set_cons_succ, i64_w, i32_w]
      rfl
    refine pure_ (i := 20) (N := some 32) (v := ?_) (a' := ?_) #[true, true, true, true, true, true, true, true, true, true, true, true, true, true, true, true, true, true, true, true, true, false, false, false, false, false, false, false, false, false, false, false, false, false, false, false, false, false, false, false, false, false, false, false, false, false, false, false, false, false, false, false, false, false, false, false, false, false, false, false, false, false] rfl rfl (any_of HT_.out (by kernel_rfl)) (fun _ _ _ h => h) (Or.inl ⟨by rfl, ?_⟩) ?_ ?_
    rotate_left
    · intro w'
      go_simp
      with_reducible rfl
    rotate_left
    · simp only [Act.put, List.setIfInBounds_toArray, List.set_cons_zero, List.set_cons_succ, i64_w, i32_w]
      rfl
    refine take_ (i := 21) (N := some 33) (v := ?_) (a' := ?_) #[true, true, true, true, true, true, true, true, true, true, true, true, true, true, true, true, true, true, true, true, true, true, false, false, false, false, false, false, false, false, false, false, false, false, false, false, false, false, false, false, false, false, false, false, false, false, false, false, false, false, false, false, false, false, false, false, false, false, false, false, false, false] rfl rfl (take_ofW HT_.out HW_.out (by kernel_rfl)) (fun _ _ _ h => h) (Or.inl ⟨by rfl, ?_⟩) hHeld ?_ ?_
    rotate_left
    · intro w' s0
      have hcell := pw_cell_below s0 HX0.out
      go_simp
      with_reducible rfl
    rotate_left
    · simp only [Act.put, List.setIfInBounds_toArray, List.set_cons_zero, List.set_cons_succ, i64_w, i32_w]
      rfl
    refine pure_ (i := 22) (N := some 34) (v := ?_) (a' := ?_) #[true, true, true, true, true, true, true, true, true, true, true, true, true, true, true, true, true, true, true, true, true, true, true, false, false, false, false, false, false, false, false, false, false, false, false, false, false, false, false, false, false, false, false, false, false, false, false, false, false, false, false, false, false, false, false, false, false, false, false, false, false, false] rfl rfl (any_of HT_.out (by kernel_rfl)) (fun _ _ _ h => h) (Or.inl ⟨by rfl, ?_⟩) ?_ ?_
    rotate_left
    · intro w'
      go_simp
      with_reducible rfl
    rotate_left
    · simp only [Act.put, List.setIfInBounds_toArray, List.set_cons_zero, List.set_cons_succ, i64_w, i32_w]
      rfl
    refine pure_ (i := 23) (N := some 35) (v := ?_) (a' := ?_) #[true, true, true, true, true, true, true, true, true, true, true, true, true, true, true, true, true, true, true, true, true, true, true, true, false, false, false, false, false, false, false, false, false, false, false, false, false, false, false, false, false, false, false, false, false, false, false, false, false, false, false, false, false, false, false, false, false, false, false, false, false, false] rfl rfl (any_of HT_.out (by kernel_rfl)) (fun _ _ _ h => h) (Or.inl ⟨by rfl, ?_⟩) ?_ ?_
    rotate_left
    · intro w'
      go_simp
      with_reducible rfl
    rotate_left
    · simp only [Act.put, List.setIfInBounds_toArray, List.set_cons_zero, List.set_cons_succ, i64_w, i32_w]
      rfl
    refine pure_ (i := 24) (N := some 36) (v := ?_) (a' := ?_) #[true, true, true, true, true, true, true, true, true, true, true, true, true, true, true, true, true, true, true, true, true, true, true, true, true, false, false, false, false, false, false, false, false, false, false, false, false, false, false, false, false, false, false, false, false, false, false, false, false, false, false, false, false, false, false, false, false, false, false, false, false, false] rfl rfl (any_of HT_.out (by kernel_rfl)) (fun _ _ _ h => h) (Or.inl ⟨by rfl, ?_⟩) ?_ ?_
    rotate_left
    · intro w'
      go_simp
      with_reducible rfl
    rotate_left
    · simp only [Act.put, List.setIfInBounds_toArray, List.set_cons_zero, List.set_cons_succ, i64_w, i32_w]
      rfl
    refine pure_ (i := 25) (N := some 37) (v := ?_) (a' := ?_) #[true, true, true, true, true, true, true, true, true, true, true, true, true, true, true, true, true, true, true, true, true, true, true, true, true, true, false, false, false, false, false, false, false, false, false, false, false, false, false, false, false, false, false, false, false, false, false, false, false, false, false, false, false, false, false, false, false, false, false, false, false, false] rfl rfl (any_of HT_.out (by kernel_rfl)) (fun _ _ _ h => h) (Or.inl ⟨by rfl, ?_⟩) ?_ ?_
    rotate_left
    · intro w'
      go_simp
      with_reducible rfl
    rotate_left
    · simp only [Act.put, List.setIfInBounds_toArray, List.set_cons_zero, List.set_cons_succ, i64_w, i32_w]
      rfl
    refine pure_ (i := 26) (N := some 38) (v := ?_) (a' := ?_) #[true, true, true, true, true, true, true, true, true, true, true, true, true, true, true, true, true, true, true, true, true, true, true, true, true, true, true, false, false, false, false, false, false, false, false, false, false, false, false, false, false, false, false, false, false, false, false, false, false, false, false, false, false, false, false, false, false, false, false, false, false, false] rfl rfl (any_of HT_.out (by kernel_rfl)) (fun _ _ _ h => h) (Or.inl ⟨by rfl, ?_⟩) ?_ ?_
    rotate_left
    · intro w'
      go_simp
      with_reducible rfl
    rotate_left
    · simp only [Act.put, List.setIfInBounds_toArray, List.set_cons_zero, List.set_cons_succ, i64_w, i32_w]
      rfl
    refine pure_ (i := 27) (N := some 39) (v := ?_) (a' := ?_) #[true, true, true, true, true, true, true, true, true, true, true, true, true, true, true, true, true, true, true, true, true, true, true, true, true, true, true, true, false, false, false, false, false, false, false, false, false, false, false, false, false, false, false, false, false, false, false, false, false, false, false, false, false, false, false, false, false, false, false, false, false, false] rfl rfl (any_of HT_.out (by kernel_rfl)) (fun _ _ _ h => h) (Or.inl ⟨by rfl, ?_⟩) ?_ ?_
    rotate_left
    · intro w'
      go_simp
      with_reducible rfl
    rotate_left
    · simp only [Act.put, List.setIfInBounds_toArray, List.set_cons_zero, List.set_cons_succ, i64_w, i32_w]
      rfl
    refine pure_ (i := 28) (N := some 40) (v := ?_) (a' := ?_) #[true, true, true, true, true, true, true, true, true, true, true, true, true, true, true, true, true, true, true, true, true, true, true, true, true, true, true, true, true, false, false, false, false, false, false, false, false, false, false, false, false, false, false, false, false, false, false, false, false, false, false, false, false, false, false, false, false, false, false, false, false, false] rfl rfl (any_of HT_.out (by kernel_rfl)) (fun _ _ _ h => h) (Or.inl ⟨by rfl, ?_⟩) ?_ ?_
    rotate_left
    · intro w'
      go_simp
      with_reducible rfl
    rotate_left
    · simp only [Act.put, List.setIfInBounds_toArray, List.set_cons_zero, List.set_cons_succ, i64_w, i32_w]
      rfl
    refine pure_ (i := 29) (N := some 41) (v := ?_) (a' := ?_) #[true, true, true, true, true, true, true, true, true, true, true, true, true, true, true, true, true, true, true, true, true, true, true, true, true, true, true, true, true, true, false, false, false, false, false, false, false, false, false, false, false, false, false, false, false, false, false, false, false, false, false, false, false, false, false, false, false, false, false, false, false, false] rfl rfl (any_of HT_.out (by kernel_rfl)) (fun _ _ _ h => h) (Or.inl ⟨by rfl, ?_⟩) ?_ ?_
    rotate_left
    · intro w'
      go_simp
      with_reducible rfl
    rotate_left
    · simp only [Act.put, List.setIfInBounds_toArray, List.set_cons_zero, List.set_cons_succ, i64_w, i32_w]
      rfl
    refine pure_ (i := 30) (N := some 42) (v := ?_) (a' := ?_) #[true, true, true, true, true, true, true, true, true, true, true, true, true, true, true, true, true, true, true, true, true, true, true, true, true, true, true, true, true, true, true, false, false, false, false, false, false, false, false, false, false, false, false, false, false, false, false, false, false, false, false, false, false, false, false, false, false, false, false, false, false, false] rfl rfl (any_of HT_.out (by kernel_rfl)) (fun _ _ _ h => h) (Or.inl ⟨by rfl, ?_⟩) ?_ ?_
    rotate_left
    · intro w'
      go_simp
      with_reducible rfl
    rotate_left
    · simp only [Act.put, List.setIfInBounds_toArray, List.set_cons_zero, List.set_cons_succ, i64_w, i32_w]
      rfl
    refine pure_ (i := 31) (N := some 43) (v := ?_) (a' := ?_) #[true, true, true, true, true, true, true, true, true, true, true, true, true, true, true, true, true, true, true, true, true, true, true, true, true, true, true, true, true, true, true, true, false, false, false, false, false, false, false, false, false, false, false, false, false, false, false, false, false, false, false, false, false, false, false, false, false, false, false, false, false, false] rfl rfl (any_of HT_.out (by kernel_rfl)) (fun _ _ _ h => h) (Or.inl ⟨by rfl, ?_⟩) ?_ ?_
    rotate_left
    · intro w'
      go_simp
      with_reducible rfl
    rotate_left
    · simp only [Act.put, List.setIfInBounds_toArray, List.set_cons_zero, List.set_cons_succ, i64_w, i32_w]
      rfl
    refine take_ (i := 32) (N := some 44) (v := ?_) (a' := ?_) #[true, true, true, true, true, true, true, true, true, true, true, true, true, true, true, true, true, true, true, true, true, true, true, true, true, true, true, true, true, true, true, true, true, false, false, false, false, false, false, false, false, false, false, false, false, false, false, false, false, false, false, false, false, false, false, false, false, false, false, false, false, false] rfl rfl (take_ofW HT_.out HW_.out (by kernel_rfl)) (fun _ _ _ h => h) (Or.inl ⟨by rfl, ?_⟩) hHeld ?_ ?_
    rotate_left
    · intro w' s0
      have hcell := pw_cell_below s0 HX1.out
      have hcell2 := hcell
      rw [← add_pos ad (l.length + 1) (by omega)] at hcell2
      go_simp
      with_reducible rfl
    rotate_left
    · simp only [Act.put, List.setIfInBounds_toArray, List.set_cons_zero, List.set_cons_succ, i64_w, i32_w]
      rfl
    refine pure_ (i := 33) (N := some 45) (v := ?_) (a' := ?_) #[true, true, true, true, true, true, true, true, true, true, true, true, true, true, true, true, true, true, true, true, true, true, true, true, true, true, true, true, true, true, true, true, true, true, false, false, false, false, false, false, false, false, false, false, false, false, false, false, false, false, false, false, false, false, false, false, false, false, false, false, false, false] rfl rfl (any_of HT_.out (by kernel_rfl)) (fun _ _ _ h => h) (Or.inl ⟨by rfl, ?_⟩) ?_ ?_
    rotate_left
    · intro w'
      go_simp
      with_reducible rfl
    rotate_left
    · simp only [Act.put, List.setIfInBounds_toArray, List.set_cons_zero, List.set_cons_succ, i64_w, i32_w]
      rfl
    refine pure_ (i := 34) (N := some 46) (v := ?_) (a' := ?_) #[true, true, true, true, true, true, true, true, true, true, true, true, true, true, true, true, true, true, true, true, true, true, true, true, true, true, true, true, true, true, true, true, true, true, true, false, false, false, false, false, false, false, false, false, false, false, false, false, false, false, false, false, false, false, false, false, false, false, false, false, false, false] rfl rfl (any_of HT_.out (by kernel_rfl)) (fun _ _ _ h => h) (Or.inl ⟨by rfl, ?_⟩) ?_ ?_
    rotate_left
    · intro w'
      go_simp
      with_reducible rfl
    rotate_left
    · simp only [Act.put, List.setIfInBounds_toArray, List.set_cons_zero, List.set_cons_succ, i64_w, i32_w]
      rfl
    refine pure_ (i := 35) (N := some 47) (v := ?_) (a' := ?_) #[true, true, true, true, true, true, true, true, true, true, true, true, true, true, true, true, true, true, true, true, true, true, true, true, true, true, true, true, true, true, true, true, true, true, true, true, false, false, false, false, false, false, false, false, false, false, false, false, false, false, false, false, false, false, false, false, false, false, false, false, false, false] rfl rfl (any_of HT_.out (by kernel_rfl)) (fun _ _ _ h => h) (Or.inl ⟨by rfl, ?_⟩) ?_ ?_
    rotate_left
    · intro w'
      go_simp
      with_reducible rfl
    rotate_left
    · simp only [Act.put, List.setIfInBounds_toArray, List.set_cons_zero, List.set_cons_succ, i64_w, i32_w]
      rfl
    refine pure_ (i := 36) (N := some 48) (v := ?_) (a' := ?_) #[true, true, true, true, true, true, true, true, true, true, true, true, true, true, true, true, true, true, true, true, true, true, true, true, true, true, true, true, true, true, true, true, true, true, true, true, true, false, false, false, false, false, false, false, false, false, false, false, false, false, false, false, false, false, false, false, false, false, false, false, false, false] rfl rfl (any_of HT_.out (by kernel_rfl)) (fun _ _ _ h => h) (Or.inl ⟨by rfl, ?_⟩) ?_ ?_
    rotate_left
    · intro w'
      go_simp
      with_reducible rfl
    rotate_left
    · simp only [Act.put, List.setIfInBounds_toArray, List.set_cons_zero, List.set_cons_succ, i64_w, i32_w]
      rfl
    refine pure_ (i := 37) (N := some 49) (v := ?_) (a' := ?_) #[true, true, true, true, true, true, true, true, true, true, true, true, true, true, true, true, true, true, true, true, true, true, true, true, true, true, true, true, true, true, true, true, true, true, true, true, true, true, false, false, false, false, false, false, false, false, false, false, false, false, false, false, false, false, false, false, false, false, false, false, false, false] rfl rfl (any_of HT_.out (by kernel_rfl)) (fun _ _ _ h => h) (Or.inl ⟨by rfl, ?_⟩) ?_ ?_
    rotate_left
    · intro w'
      go_simp
      with_reducible rfl
    rotate_left
    · simp only [Act.put, List.setIfInBounds_toArray, List.set_cons_zero, List.set_cons_succ, i64_w, i32_w]
      rfl
    refine pure_ (i := 38) (N := some 50) (v := ?_) (a' := ?_) #[true, true, true, true, true, true, true, true, true, true, true, true, true, true, true, true, true, true, true, true, true, true, true, true, true, true, true, true, true, true, true, true, true, true, true, true, true, true, true, false, false, false, false, false, false, false, false, false, false, false, false, false, false, false, false, false, false, false, false, false, false, false] rfl rfl (any_of HT_.out (by kernel_rfl)) (fun _ _ _ h => h) (Or.inl ⟨by rfl, ?_⟩) ?_ ?_
    rotate_left
    · intro w'
      go_simp
      with_reducible rfl
    rotate_left
    · simp only [Act.put, List.setIfInBounds_toArray, List.set_cons_zero, List.set_cons_succ, i64_w, i32_w]
      rfl
    refine pure_ (i := 39) (N := some 51) (v := ?_) (a' := ?_) #[true, true, true, true, true, true, true, true, true, true, true, true, true, true, true, true, true, true, true, true, true, true, true, true, true, true, true, true, true, true, true, true, true, true, true, true, true, true, true, true, false, false, false, false, false, false, false, false, false, false, false, false, false, false, false, false, false, false, false, false, false, false] rfl rfl (any_of HT_.out (by kernel_rfl)) (fun _ _ _ h => h) (Or.inl ⟨by rfl, ?_⟩) ?_ ?_
    rotate_left
    · intro w'
      go_simp
      with_reducible rfl
    rotate_left
    · simp only [Act.put, List.setIfInBounds_toArray, List.set_cons_zero, List.set_cons_succ, i64_w, i32_w]
      rfl
    refine pure_ (i := 40) (N := some 52) (v := ?_) (a' := ?_) #[true, true, true, true, true, true, true, true, true, true, true, true, true, true, true, true, true, true, true, true, true, true, true, true, true, true, true, true, true, true, true, true, true, true, true, true, true, true, true, true, true, false, false, false, false, false, false, false, false, false, false, false, false, false, false, false, false, false, false, false, false, false] rfl rfl (any_of HT_.out (by kernel_rfl)) (fun _ _ _ h => h) (Or.inl ⟨by rfl, ?_⟩) ?_ ?_
    rotate_left
    · intro w'
      go_simp
      with_reducible rfl
    rotate_left
    · simp only [Act.put, List.setIfInBounds_toArray, List.set_cons_zero, List.set_cons_succ, i64_w, i32_w]
      rfl
    refine pure_ (i := 41) (N := some 53) (v := ?_) (a' := ?_) #[true, true, true, true, true, true, true, true, true, true, true, true, true, true, true, true, true, true, true, true, true, true, true, true, true, true, true, true, true, true, true, true, true, true, true, true, true, true, true, true, true, true, false, false, false, false, false, false, false, false, false, false, false, false, false, false, false, false, false, false, false, false] rfl rfl (any_of HT_.out (by kernel_rfl)) (fun _ _ _ h => h) (Or.inl ⟨by rfl, ?_⟩) ?_ ?_
    rotate_left
    · intro w'
      go_simp
      with_reducible rfl
    rotate_left
    · simp only [Act.put, List.setIfInBounds_toArray, List.set_cons_zero, List.set_cons_succ, i64_w, i32_w]
      rfl
    refine pure_ (i := 42) (N := some 54) (v := ?_) (a' := ?_) #[true, true, true, true, true, true, true, true, true, true, true, true, true, true, true, true, true, true, true, true, true, true, true, true, true, true, true, true, true, true, true, true, true, true, true, true, true, true, true, true, true, true, true, false, false, false, false, false, false, false, false, false, false, false, false, false, false, false, false, false, false, false] rfl rfl (any_of HT_.out (by kernel_rfl)) (fun _ _ _ h => h) (Or.inl ⟨by rfl, ?_⟩) ?_ ?_
    rotate_left
    · intro w'
      go_simp
      with_reducible rfl
    rotate_left
    · simp only [Act.put, List.setIfInBounds_toArray, List.set_cons_zero, List.set_cons_succ, i64_w, i32_w]
      rfl
    refine pure_ (i := 43) (N := some 55) (v := ?_) (a' := ?_) #[true, true, true, true, true, true, true, true, true, true, true, true, true, true, true, true, true, true, true, true, true, true, true, true, true, true, true, true, true, true, true, true, true, true, true, true, true, true, true, true, true, true, true, true, false, false, false, false, false, false, false, false, false, false, false, false, false, false, false, false, false, false] rfl rfl (any_of HT_.out (by kernel_rfl)) (fun _ _ _ h => h) (Or.inl ⟨by rfl, ?_⟩) ?_ ?_
    rotate_left
    · intro w'
      go_simp
      with_reducible rfl
    rotate_left
    · simp only [Act.put, List.setIfInBounds_toArray, List.set_cons_zero, List.set_cons_succ, i64_w, i32_w]
      rfl
    refine take_ (i := 44) (N := some 56) (v := ?_) (a' := ?_) #[true, true, true, true, true, true, true, true, true, true, true, true, true, true, true, true, true, true, true, true, true, true, true, true, true, true, true, true, true, true, true, true, true, true, true, true, true, true, true, true, true, true, true, true, true, false, false, false, false, false, false, false, false, false, false, false, false, false, false, false, false, false] rfl rfl (take_ofW HT_.out HW_.out (by kernel_rfl)) (fun _ _ _ h => h) (Or.inl ⟨by rfl, ?_⟩) hHeld ?_ ?_
    rotate_left
    · intro w' s0
      have hcell := pw_cell_below s0 HX2.out
      have hcell2 := hcell
      rw [← add_pos ad (l.length + 2) (by omega)] at hcell2
      go_simp
      with_reducible rfl
    rotate_left
    · simp only [Act.put, List.setIfInBounds_toArray, List.set_cons_zero, List.set_cons_succ, i64_w, i32_w]
      rfl
    refine pure_ (i := 45) (N := some 57) (v := ?_) (a' := ?_) #[true, true, true, true, true, true, true, true, true, true, true, true, true, true, true, true, true, true, true, true, true, true, true, true, true, true, true, true, true, true, true, true, true, true, true, true, true, true, true, true, true, true, true, true, true, true, false, false, false, false, false, false, false, false, false, false, false, false, false, false, false, false] rfl rfl (any_of HT_.out (by kernel_rfl)) (fun _ _ _ h => h) (Or.inl ⟨by rfl, ?_⟩) ?_ ?_
    rotate_left
    · intro w'
      go_simp
      with_reducible rfl
    rotate_left
    · simp only [Act.put, List.setIfInBounds_toArray, List.set_cons_zero, List.set_cons_succ, i64_w, i32_w]
      rfl
    refine pure_ (i := 46) (N := some 58) (v := ?_) (a' := ?_) #[true, true, true, true, true, true, true, true, true, true, true, true, true, true, true, true, true, true, true, true, true, true, true, true, true, true, true, true, true, true, true, true, true, true, true, true, true, true, true, true, true, true, true, true, true, true, true, false, false, false, false, false, false, false, false, false, false, false, false, false, false, false] rfl rfl (any_of HT_.out (by kernel_rfl)) (fun _ _ _ h => h) (Or.inl ⟨by rfl, ?_⟩) ?_ ?_
    rotate_left
    · intro w'
      go_simp
      with_reducible rfl
    rotate_left
    · simp only [Act.put, List.setIfInBounds_toArray, List.set_cons_zero, List.set_cons_succ, i64_w, i32_w]
      rfl
    refine pure_ (i := 47) (N := some 59) (v := ?_) (a' := ?_) #[true, true, true, true, true, true, true, true, true, true, true, true, true, true, true, true, true, true, true, true, true, true, true, true, true, true, true, true, true, true, true, true, true, true, true, true, true, true, true, true, true, true, true, true, true, true, true, true, false, false, false, false, false, false, false, false, false, false, false, false, false, false] rfl rfl (any_of HT_.out (by kernel_rfl)) (fun _ _ _ h => h) (Or.inl ⟨by rfl, ?_⟩) ?_ ?_
    rotate_left
    · intro w'
      go_simp
      with_reducible rfl
    rotate_left
    · simp only [Act.put, List.setIfInBounds_toArray, List.set_cons_zero, List.set_cons_succ, i64_w, i32_w]
      rfl
    refine pure_ (i := 48) (N := some 60) (v := ?_) (a' := ?_) #[true, true, true, true, true, true, true, true, true, true, true, true, true, true, true, true, true, true, true, true, true, true, true, true, true, true, true, true, true, true, true, true, true, true, true, true, true, true, true, true, true, true, true, true, true, true, true, true, true, false, false, false, false, false, false, false, false, false, false, false, false, false] rfl rfl (any_of HT_.out (by kernel_rfl)) (fun _ _ _ h => h) (Or.inl ⟨by rfl, ?_⟩) ?_ ?_
    rotate_left
    · intro w'
      go_simp
      with_reducible rfl
    rotate_left
    · simp only [Act.put, List.setIfInBounds_toArray, List.set_cons_zero, List.set_cons_succ, i64_w, i32_w]
      rfl
    refine pure_ (i := 49) (N := some 61) (v := ?_) (a' := ?_) #[true, true, true, true, true, true, true, true, true, true, true, true, true, true, true, true, true, true, true, true, true, true, true, true, true, true, true, true, true, true, true, true, true, true, true, true, true, true, true, true, true, true, true, true, true, true, true, true, true, true, false, false, false, false, false, false, false, false, false, false, false, false] rfl rfl (any_of HT_.out (by kernel_rfl)) (fun _ _ _ h => h) (Or.inl ⟨by rfl, ?_⟩) ?_ ?_
    rotate_left
    · intro w'
      go_simp
      with_reducible rfl
    rotate_left
    · simp only [Act.put, List.setIfInBounds_toArray, List.set_cons_zero, List.set_cons_succ, i64_w, i32_w]
      rfl
    refine pure_ (i := 50) (N := some 62) (v := ?_) (a' := ?_) #[true, true, true, true, true, true, true, true, true, true, true, true, true, true, true, true, true, true, true, true, true, true, true, true, true, true, true, true, true, true, true, true, true, true, true, true, true, true, true, true, true, true, true, true, true, true, true, true, true, true, true, false, false, false, false, false, false, false, false, false, false, false] rfl rfl (any_of HT_.out (by kernel_rfl)) (fun _ _ _ h => h) (Or.inl ⟨by rfl, ?_⟩) ?_ ?_
    rotate_left
    · intro w'
      go_simp
      with_reducible rfl
    rotate_left
    · simp only [Act.put, List.setIfInBounds_toArray, List.set_cons_zero, List.set_cons_succ, i64_w, i32_w]
      rfl
    refine pure_ (i := 51) (N := some 63) (v := ?_) (a' := ?_) #[true, true, true, true, true, true, true, true, true, true, true, true, true, true, true, true, true, true, true, true, true, true, true, true, true, true, true, true, true, true, true, true, true, true, true, true, true, true, true, true, true, true, true, true, true, true, true, true, true, true, true, true, false, false, false, false, false, false, false, false, false, false] rfl rfl (any_of HT_.out (by kernel_rfl)) (fun _ _ _ h => h) (Or.inl ⟨by rfl, ?_⟩) ?_ ?_
    rotate_left
    · intro w'
      go_simp
      with_reducible rfl
    rotate_left
    · simp only [Act.put, List.setIfInBounds_toArray, List.set_cons_zero, List.set_cons_succ, i64_w, i32_w]
      rfl
    refine pure_ (i := 52) (N := some 64) (v := ?_) (a' := ?_) #[true, true, true, true, true, true, true, true, true, true, true, true, true, true, true, true, true, true, true, true, true, true, true, true, true, true, true, true, true, true, true, true, true, true, true, true, true, true, true, true, true, true, true, true, true, true, true, true, true, true, true, true, true, false, false, false, false, false, false, false, false, false] rfl rfl (any_of HT_.out (by kernel_rfl)) (fun _ _ _ h => h) (Or.inl ⟨by rfl, ?_⟩) ?_ ?_
    rotate_left
    · intro w'
      go_simp
      with_reducible rfl
    rotate_left
    · simp only [Act.put, List.setIfInBounds_toArray, List.set_cons_zero, List.set_cons_succ, i64_w, i32_w]
      rfl
    refine pure_ (i := 53) (N := some 65) (v := ?_) (a' := ?_) #[true, true, true, true, true, true, true, true, true, true, true, true, true, true, true, true, true, true, true, true, true, true, true, true, true, true, true, true, true, true, true, true, true, true, true, true, true, true, true, true, true, true, true, true, true, true, true, true, true, true, true, true, true, true, false, false, false, false, false, false, false, false] rfl rfl (any_of HT_.out (by kernel_rfl)) (fun _ _ _ h => h) (Or.inl ⟨by rfl, ?_⟩) ?_ ?_
    rotate_left
    · intro w'
      go_simp
      with_reducible rfl
    rotate_left
    · simp only [Act.put, List.setIfInBounds_toArray, List.set_cons_zero, List.set_cons_succ, i64_w, i32_w]
      rfl
    refine pure_ (i := 54) (N := some 66) (v := ?_) (a' := ?_) #[true, true, true, true, true, true, true, true, true, true, true, true, true, true, true, true, true, true, true, true, true, true, true, true, true, true, true, true, true, true, true, true, true, true, true, true, true, true, true, true, true, true, true, true, true, true, true, true, true, true, true, true, true, true, true, false, false, false, false, false, false, false] rfl rfl (any_of HT_.out (by kernel_rfl)) (fun _ _ _ h => h) (Or.inl ⟨by rfl, ?_⟩) ?_ ?_
    rotate_left
    · intro w'
      go_simp
      with_reducible rfl
    rotate_left
    · simp only [Act.put, List.setIfInBounds_toArray, List.set_cons_zero, List.set_cons_succ, i64_w, i32_w]
      rfl
    refine pure_ (i := 55) (N := some 67) (v := ?_) (a' := ?_) #[true, true, true, true, true, true, true, true, true, true, true, true, true, true, true, true, true, true, true, true, true, true, true, true, true, true, true, true, true, true, true, true, true, true, true, true, true, true, true, true, true, true, true, true, true, true, true, true, true, true, true, true, true, true, true, true, false, false, false, false, false, false] rfl rfl (any_of HT_.out (by kernel_rfl)) (fun _ _ _ h => h) (Or.inl ⟨by rfl, ?_⟩) ?_ ?_
    rotate_left
    · intro w'
      go_simp
      with_reducible rfl
    rotate_left
    · simp only [Act.put, List.setIfInBounds_toArray, List.set_cons_zero, List.set_cons_succ, i64_w, i32_w]
      rfl
    refine take_ (i := 56) (N := some 68) (v := ?_) (a' := ?_) #[true, true, true, true, true, true, true, true, true, true, true, true, true, true, true, true, true, true, true, true, true, true, true, true, true, true, true, true, true, true, true, true, true, true, true, true, true, true, true, true, true, true, true, true, true, true, true, true, true, true, true, true, true, true, true, true, true, false, false, false, false, false] rfl rfl (take_ofW HT_.out HW_.out (by kernel_rfl)) (fun _ _ _ h => h) (Or.inl ⟨by rfl, ?_⟩) hHeld ?_ ?_
    rotate_left
    · intro w' s0
      have hcell := pw_cell_below s0 HX3.out
      have hcell2 := hcell
      rw [← add_pos ad (l.length + 3) (by omega)] at hcell2
      go_simp
      with_reducible rfl
    rotate_left
    · simp only [Act.put, List.setIfInBounds_toArray, List.set_cons_zero, List.set_cons_succ, i64_w, i32_w]
      rfl
    refine pure_ (i := 57) (N := some 69) (v := ?_) (a' := ?_) #[true, true, true, true, true, true, true, true, true, true, true, true, true, true, true, true, true, true, true, true, true, true, true, true, true, true, true, true, true, true, true, true, true, true, true, true, true, true, true, true, true, true, true, true, true, true, true, true, true, true, true, true, true, true, true, true, true, true, false, false, false, false] rfl rfl (any_of HT_.out (by kernel_rfl)) (fun _ _ _ h => h) (Or.inl ⟨by rfl, ?_⟩) ?_ ?_
    rotate_left
    · intro w'
      go_simp
      with_reducible rfl
    rotate_left
    · simp only [Act.put, List.setIfInBounds_toArray, List.set_cons_zero, List.set_cons_succ, i64_w, i32_w]
      rfl
    refine pure_ (i := 58) (N := some 70) (v := ?_) (a' := ?_) #[true, true, true, true, true, true, true, true, true, true, true, true, true, true, true, true, true, true, true, true, true, true, true, true, true, true, true, true, true, true, true, true, true, true, true, true, true, true, true, true, true, true, true, true, true, true, true, true, true, true, true, true, true, true, true, true, true, true, true, false, false, false] rfl rfl (any_of HT_.out (by kernel_rfl)) (fun _ _ _ h => h) (Or.inl ⟨by rfl, ?_⟩) ?_ ?_
    rotate_left
    · intro w'
      go_simp
      with_reducible rfl
    rotate_left
    · simp only [Act.put, List.setIfInBounds_toArray, List.set_cons_zero, List.set_cons_succ, i64_w, i32_w]
      rfl
    refine pure_ (i := 59) (N := some 71) (v := ?_) (a' := ?_) #[true, true, true, true, true, true, true, true, true, true, true, true, true, true, true, true, true, true, true, true, true, true, true, true, true, true, true, true, true, true, true, true, true, true, true, true, true, true, true, true, true, true, true, true, true, true, true, true, true, true, true, true, true, true, true, true, true, true, true, true, false, false] rfl rfl (any_of HT_.out (by kernel_rfl)) (fun _ _ _ h => h) (Or.inl ⟨by rfl, ?_⟩) ?_ ?_
    rotate_left
    · intro w'
      go_simp
      with_reducible rfl
    rotate_left
    · simp only [Act.put, List.setIfInBounds_toArray, List.set_cons_zero, List.set_cons_succ, i64_w, i32_w]
      rfl
    refine pure_ (i := 60) (N := some 72) (v := ?_) (a' := ?_) #[true, true, true, true, true, true, true, true, true, true, true, true, true, true, true, true, true, true, true, true, true, true, true, true, true, true, true, true, true, true, true, true, true, true, true, true, true, true, true, true, true, true, true, true, true, true, true, true, true, true, true, true, true, true, true, true, true, true, true, true, true, false] rfl rfl (any_of HT_.out (by kernel_rfl)) (fun _ _ _ h => h) (Or.inl ⟨by rfl, ?_⟩) ?_ ?_
    rotate_left
    · intro w'
      go_simp
      with_reducible rfl
    rotate_left
    · simp only [Act.put, List.setIfInBounds_toArray, List.set_cons_zero, List.set_cons_succ, i64_w, i32_w]
      rfl
    refine pure_ (i := 61) (N := some 73) (v := ?_) (a' := ?_) #[true, true, true, true, true, true, true, true, true, true, true, true, true, true, true, true, true, true, true, true, true, true, true, true, true, true, true, true, true, true, true, true, true, true, true, true, true, true, true, true, true, true, true, true, true, true, true, true, true, true, true, true, true, true, true, true, true, true, true, true, true, true] rfl rfl (any_of HT_.out (by kernel_rfl)) (fun _ _ _ h => h) (Or.inl ⟨by rfl, ?_⟩) ?_ ?_
    rotate_left
    · intro w'
      go_simp
      with_reducible rfl
    rotate_left
    · simp only [Act.put, List.setIfInBounds_toArray, List.set_cons_zero, List.set_cons_succ, i64_w, i32_w]
      rfl
    refine done_ (done_of HT_.out (by kernel_rfl)) ?_
    go_wp2
    obtain ⟨sc, hsc⟩ : ∃ s, s = sg l := ⟨_, rfl⟩
    obtain ⟨bq, hb⟩ : ∃ b, b = isSg l := ⟨_, rfl⟩
    have HSC := Aside0.mk hsc
    have HSB : Aside0 (isSg l = bq) := ⟨hb.symm⟩
    have HSS : Aside0 (isSg sc = true) := ⟨by rw [hsc]; exact isSg_sg⟩
    have HYS : Aside0 (Byt sc) := ⟨by rw [hsc]; exact sg_byt HY.out⟩
    have HLS : Aside0 (sc.length < 140737488355328) := ⟨by rw [hsc, sg_length]; omega⟩
    have hss : ((strOfNums sc).toList == (strOfNums sc).toList) = true := by simp
    have hbb : (bq == bq) = true := by simp
    have HBW := Aside0.mk (below_drew (below_drew (Below.refl w1.heap.size w1)))
    clear hsc hb hHeld
    refine start_ (n := 23) (S := fun w' => True) (ds := []) #[false, false, false, false, false, false, false, false, false, false, false, false, false, false, false, false, false, false, false, false, false, false, false] (by kernel_rfl) rfl rfl trivial (fun hHeld => ?_)
    refine with_tabW crcsigns_tab6 crcsigns_bits6 (fun HT_ HW_ => ?_)
    refine pure_ (i := 0) (N := some 74) (v := ?_) (a' := ?_) #[true, false, false, false, false, false, false, false, false, false, false, false, false, false, false, false, false, false, false, false, false, false, false] rfl rfl (any_of HT_.out (by kernel_rfl)) (fun _ _ _ h => h) (Or.inl ⟨by rfl, ?_⟩) ?_ ?_
    rotate_left
    · intro w'
      go_simp
      with_reducible rfl
    rotate_left
    · simp only [Act.put, List.setIfInBounds_toArray, List.set_cons_zero, List.set_cons_succ, i64_w, i32_w]
      rfl
    refine pure_ (i := 3) (N := some 77) (v := ?_) (a' := ?_) #[true, false, false, true, false, false, false, false, false, false, false, false, false, false, false, false, false, false, false, false, false, false, false] rfl rfl (any_of HT_.out (by kernel_rfl)) (fun _ _ _ h => h) (Or.inl ⟨by rfl, ?_⟩) ?_ ?_
    rotate_left
    · intro w'
      go_simp
      with_reducible rfl
    rotate_left
    · simp only [Act.put, List.setIfInBounds_toArray, List.set_cons_zero, List.set_cons_succ, i64_w, i32_w]
      rfl
    refine inv_at [1, 2, 4, 5, 6, 7, 8, 9, 10, 11, 12, 13, 14, 15, 16, 17, 18, 19, 20, 21, 22] (fun a0_ b a w' => ∃ (As : Option Addr) (cs : Nat) (Bs : Option Addr) (bs : Nat) (Cs : Option Addr) (ds : Nat) (m1_ : Value) (m4_ : Value) (m16_ : Value), a = putSel a0_ b [(1, 75, m1_), (2, 76, .string (strOfNums sc)), (4, 78, m4_), (5, 79, .string (strOfNums sc)), (6, 80, .bool true), (7, 81, .bool true), (8, 82, .slice A l.length c), (9, 83, .bool bq), (10, 84, .slice A l.length c), (11, 85, .bool bq), (12, 86, .bool true), (13, 87, .bool true), (14, 88, .bool true), (15, 89, .slice A l.length c), (16, 90, m16_), (17, 91, .bool true), (18, 92, .bool true), (19, 93, .bool true), (20, 94, .bool true), (21, 95, .bool true), (22, 4, .bool true)] ∧ (Below w1.heap.size w1 w') ∧ (b 1 = true → Kd.C (Kd.int .u8) w' As sc.length sc) ∧ (b 1 = true → sc.length ≤ cs) ∧ (b 4 = true → Kd.C (Kd.int .u8) w' Bs sc.length sc) ∧ (b 4 = true → sc.length ≤ bs) ∧ (b 16 = true → Kd.C (Kd.int .u8) w' Cs sc.length sc) ∧ (b 16 = true → sc.length ≤ ds) ∧ (b 1 = true → (m1_ : Value) = .slice As sc.length cs) ∧ (b 4 = true → (m4_ : Value) = .slice Bs sc.length bs) ∧ (b 16 = true → (m16_ : Value) = .slice Cs sc.length ds)) HT_.out HW_.out (by kernel_rfl) (by kernel_rfl) ?_ ?_ ?_
    · exact ⟨none, 0, none, 0, none, 0, .bool false, .bool false, .bool false, by simp only [putSel, Bool.false_eq_true, if_false], HBW.out, fun h_ => absurd h_ (by decide), fun h_ => absurd h_ (by decide), fun h_ => absurd h_ (by decide), fun h_ => absurd h_ (by decide), fun h_ => absurd h_ (by decide), fun h_ => absurd h_ (by decide), fun h_ => absurd h_ (by decide), fun h_ => absurd h_ (by decide), fun h_ => absurd h_ (by decide)⟩
    · skip
      clear HBW
      refine steps_cons ?_ ?_
      · rintro b a w' ⟨As, cs, Bs, bs, Cs, ds, m1_, m4_, m16_, ha, Q_HBW, Q_F1, Q_F1c, Q_F4, Q_F4c, Q_F16, Q_F16c, Q_X1_, Q_X4_, Q_X16_⟩ hb_ hon hoff
        refine ⟨_, rfl, fun K hK => ?_⟩
        have e74 : a.tmps[74]? = some (.slice A l.length c) := by rw [ha]; exact (putSel_off rfl).trans rfl
        replace ha := Aside0.mk ha
        have HBW := Aside0.mk Q_HBW
        refine goes_ Try.func20 (by kernel_rfl) rfl #[.slice A l.length c] (by rfl) rfl rfl (by first | (simp only [List.map_toArray, List.map_cons, List.map_nil, Act.eval, Array.getD_eq_getD_getElem?, Option.getD_some, e74]; done) | (simp only [List.map_toArray, List.map_cons, List.map_nil, Act.eval, Array.getD_eq_getD_getElem?, Option.getD_some, e74]; rfl)) ?_
        refine (sign_any _ _ l _ (Kd.C_below HR1.out HBW.out) HC.out HL.out).mono ?_
        rintro e w3 ⟨v, rfl, ho, hb⟩
        refine ⟨_, rfl, ?_⟩
        rw [signF_sg HY.out, ← HSC.out] at ho
        obtain ⟨As1, cs1, eo⟩ := Kd.R_slice ho
        subst eo
        refine hK.out _ _ ⟨As1, cs1, Bs, bs, Cs, ds, (.slice As1 sc.length cs1), m4_, m16_, (by rw [ha.out]; exact putSel_upk 0 hb_ rfl rfl rfl), below_then HBW.out HBW.out.size hb, fun _ => (Kd.R_reads' ho).2.2, fun _ => (Kd.R_reads' ho).2.1, fun h0_ => absurd ((hoff 4 (by kernel_rfl)).symm.trans h0_) (by decide), fun h0_ => absurd ((hoff 4 (by kernel_rfl)).symm.trans h0_) (by decide), fun h0_ => absurd ((hoff 16 (by kernel_rfl)).symm.trans h0_) (by decide), fun h0_ => absurd ((hoff 16 (by kernel_rfl)).symm.trans h0_) (by decide), fun _ => rfl, fun h0_ => absurd ((hoff 4 (by kernel_rfl)).symm.trans h0_) (by decide), fun h0_ => absurd ((hoff 16 (by kernel_rfl)).symm.trans h0_) (by decide)⟩
      refine steps_cons ?_ ?_
      · rintro b a w' ⟨As, cs, Bs, bs, Cs, ds, m1_, m4_, m16_, ha, Q_HBW, Q_F1, Q_F1c, Q_F4, Q_F4c, Q_F16, Q_F16c, Q_X1_, Q_X4_, Q_X16_⟩ hb_ hon hoff
        refine ⟨_, rfl, fun K hK => ?_⟩
        have e75 : a.tmps[75]? = some (m1_) := by rw [ha]; exact putSel_on (e := (1, 75, m1_)) 0 rfl rfl (hon 1 (by kernel_rfl)) rfl
        rw [Q_X1_ (hon 1 (by kernel_rfl))] at e75
        replace ha := Aside0.mk ha
        have HBW := Aside0.mk Q_HBW
        have F1 := Aside0.mk (Q_F1 (hon 1 (by kernel_rfl)))
        have F1c := Aside0.mk (Q_F1c (hon 1 (by kernel_rfl)))
        have hcv := Kd.C_string (P := Try.prog) (A := As) (c := cs) Try.underlying23 Try.underlying5 Try.underlying9 F1.out
        refine value_ (w1 := w') (v := .string (strOfNums sc)) (by rfl) rfl ?_ ?_
        · go_simp
          (try simp only [i64_w])
          try rfl
        refine hK.out _ _ ⟨As, cs, Bs, bs, Cs, ds, m1_, m4_, m16_, (by rw [ha.out]; exact putSel_upk 1 hb_ rfl rfl rfl), Q_HBW, Q_F1, Q_F1c, Q_F4, Q_F4c, fun h0_ => absurd ((hoff 16 (by kernel_rfl)).symm.trans h0_) (by decide), fun h0_ => absurd ((hoff 16 (by kernel_rfl)).symm.trans h0_) (by decide), Q_X1_, Q_X4_, fun h0_ => absurd ((hoff 16 (by kernel_rfl)).symm.trans h0_) (by decide)⟩
      refine steps_cons ?_ ?_
      · rintro b a w' ⟨As, cs, Bs, bs, Cs, ds, m1_, m4_, m16_, ha, Q_HBW, Q_F1, Q_F1c, Q_F4, Q_F4c, Q_F16, Q_F16c, Q_X1_, Q_X4_, Q_X16_⟩ hb_ hon hoff
        refine ⟨_, rfl, fun K hK => ?_⟩
        have e77 : a.tmps[77]? = some (.slice A l.length c) := by rw [ha]; exact (putSel_off rfl).trans rfl
        replace ha := Aside0.mk ha
        have HBW := Aside0.mk Q_HBW
        have F1 := Aside0.mk (Q_F1 (hon 1 (by kernel_rfl)))
        have F1c := Aside0.mk (Q_F1c (hon 1 (by kernel_rfl)))
        refine goes_ Try.func22 (by kernel_rfl) rfl #[.slice A l.length c] (by rfl) rfl rfl (by first | (simp only [List.map_toArray, List.map_cons, List.map_nil, Act.eval, Array.getD_eq_getD_getElem?, Option.getD_some, e77]; done) | (simp only [List.map_toArray, List.map_cons, List.map_nil, Act.eval, Array.getD_eq_getD_getElem?, Option.getD_some, e77]; rfl)) ?_
        refine (refsign_any _ _ l _ (Kd.C_below HR1.out HBW.out) HC.out HY.out HL.out).mono ?_
        rintro e w3 ⟨v, rfl, ho, hb⟩
        refine ⟨_, rfl, ?_⟩
        rw [← HSC.out] at ho
        obtain ⟨As1, cs1, eo⟩ := Kd.R_slice ho
        subst eo
        refine hK.out _ _ ⟨As, cs, As1, cs1, Cs, ds, m1_, (.slice As1 sc.length cs1), m16_, (by rw [ha.out]; exact putSel_upk 2 hb_ rfl rfl rfl), below_then HBW.out HBW.out.size hb, fun _ => Kd.C_below F1.out hb, Q_F1c, fun _ => (Kd.R_reads' ho).2.2, fun _ => (Kd.R_reads' ho).2.1, fun h0_ => absurd ((hoff 16 (by kernel_rfl)).symm.trans h0_) (by decide), fun h0_ => absurd ((hoff 16 (by kernel_rfl)).symm.trans h0_) (by decide), Q_X1_, fun _ => rfl, fun h0_ => absurd ((hoff 16 (by kernel_rfl)).symm.trans h0_) (by decide)⟩
      refine steps_cons ?_ ?_
      · rintro b a w' ⟨As, cs, Bs, bs, Cs, ds, m1_, m4_, m16_, ha, Q_HBW, Q_F1, Q_F1c, Q_F4, Q_F4c, Q_F16, Q_F16c, Q_X1_, Q_X4_, Q_X16_⟩ hb_ hon hoff
        refine ⟨_, rfl, fun K hK => ?_⟩
        have e78 : a.tmps[78]? = some (m4_) := by rw [ha]; exact putSel_on (e := (4, 78, m4_)) 2 rfl rfl (hon 4 (by kernel_rfl)) rfl
        rw [Q_X4_ (hon 4 (by kernel_rfl))] at e78
        replace ha := Aside0.mk ha
        have HBW := Aside0.mk Q_HBW
        have F1 := Aside0.mk (Q_F1 (hon 1 (by kernel_rfl)))
        have F1c := Aside0.mk (Q_F1c (hon 1 (by kernel_rfl)))
        have F4 := Aside0.mk (Q_F4 (hon 4 (by kernel_rfl)))
        have F4c := Aside0.mk (Q_F4c (hon 4 (by kernel_rfl)))
        have hcv := Kd.C_string (P := Try.prog) (A := Bs) (c := bs) Try.underlying23 Try.underlying5 Try.underlying9 F4.out
        refine value_ (w1 := w') (v := .string (strOfNums sc)) (by rfl) rfl ?_ ?_
        · go_simp
          (try simp only [i64_w])
          try rfl
        refine hK.out _ _ ⟨As, cs, Bs, bs, Cs, ds, m1_, m4_, m16_, (by rw [ha.out]; exact putSel_upk 3 hb_ rfl rfl rfl), Q_HBW, Q_F1, Q_F1c, Q_F4, Q_F4c, fun h0_ => absurd ((hoff 16 (by kernel_rfl)).symm.trans h0_) (by decide), fun h0_ => absurd ((hoff 16 (by kernel_rfl)).symm.trans h0_) (by decide), Q_X1_, Q_X4_, fun h0_ => absurd ((hoff 16 (by kernel_rfl)).symm.trans h0_) (by decide)⟩
      refine steps_cons ?_ ?_
      · rintro b a w' ⟨As, cs, Bs, bs, Cs, ds, m1_, m4_, m16_, ha, Q_HBW, Q_F1, Q_F1c, Q_F4, Q_F4c, Q_F16, Q_F16c, Q_X1_, Q_X4_, Q_X16_⟩ hb_ hon hoff
        refine ⟨_, rfl, fun K hK => ?_⟩
        have e76 : a.tmps[76]? = some (.string (strOfNums sc)) := by rw [ha]; exact putSel_on (e := (2, 76, .string (strOfNums sc))) 1 rfl rfl (hon 2 (by kernel_rfl)) rfl
        have e79 : a.tmps[79]? = some (.string (strOfNums sc)) := by rw [ha]; exact putSel_on (e := (5, 79, .string (strOfNums sc))) 3 rfl rfl (hon 5 (by kernel_rfl)) rfl
        replace ha := Aside0.mk ha
        have HBW := Aside0.mk Q_HBW
        have F1 := Aside0.mk (Q_F1 (hon 1 (by kernel_rfl)))
        have F1c := Aside0.mk (Q_F1c (hon 1 (by kernel_rfl)))
        have F4 := Aside0.mk (Q_F4 (hon 4 (by kernel_rfl)))
        have F4c := Aside0.mk (Q_F4c (hon 4 (by kernel_rfl)))
        refine value_ (w1 := w') (v := .bool true) (by rfl) rfl ?_ ?_
        · go_simp
          (try simp only [i64_w])
          try rfl
        refine hK.out _ _ ⟨As, cs, Bs, bs, Cs, ds, m1_, m4_, m16_, (by rw [ha.out]; exact putSel_upk 4 hb_ rfl rfl rfl), Q_HBW, Q_F1, Q_F1c, Q_F4, Q_F4c, fun h0_ => absurd ((hoff 16 (by kernel_rfl)).symm.trans h0_) (by decide), fun h0_ => absurd ((hoff 16 (by kernel_rfl)).symm.trans h0_) (by decide), Q_X1_, Q_X4_, fun h0_ => absurd ((hoff 16 (by kernel_rfl)).symm.trans h0_) (by decide)⟩
      refine steps_cons ?_ ?_
      · rintro b a w' ⟨As, cs, Bs, bs, Cs, ds, m1_, m4_, m16_, ha, Q_HBW, Q_F1, Q_F1c, Q_F4, Q_F4c, Q_F16, Q_F16c, Q_X1_, Q_X4_, Q_X16_⟩ hb_ hon hoff
        refine ⟨_, rfl, fun K hK => ?_⟩
        have e80 : a.tmps[80]? = some (.bool true) := by rw [ha]; exact putSel_on (e := (6, 80, .bool true)) 4 rfl rfl (hon 6 (by kernel_rfl)) rfl
        replace ha := Aside0.mk ha
        have HBW := Aside0.mk Q_HBW
        have F1 := Aside0.mk (Q_F1 (hon 1 (by kernel_rfl)))
        have F1c := Aside0.mk (Q_F1c (hon 1 (by kernel_rfl)))
        have F4 := Aside0.mk (Q_F4 (hon 4 (by kernel_rfl)))
        have F4c := Aside0.mk (Q_F4c (hon 4 (by kernel_rfl)))
        refine value_ (w1 := w') (v := .bool true) (by rfl) rfl ?_ ?_
        · go_simp
          (try simp only [i64_w])
          try rfl
        refine hK.out _ _ ⟨As, cs, Bs, bs, Cs, ds, m1_, m4_, m16_, (by rw [ha.out]; exact putSel_upk 5 hb_ rfl rfl rfl), Q_HBW, Q_F1, Q_F1c, Q_F4, Q_F4c, fun h0_ => absurd ((hoff 16 (by kernel_rfl)).symm.trans h0_) (by decide), fun h0_ => absurd ((hoff 16 (by kernel_rfl)).symm.trans h0_) (by decide), Q_X1_, Q_X4_, fun h0_ => absurd ((hoff 16 (by kernel_rfl)).symm.trans h0_) (by decide)⟩
      refine steps_cons ?_ ?_
      · rintro b a w' ⟨As, cs, Bs, bs, Cs, ds, m1_, m4_, m16_, ha, Q_HBW, Q_F1, Q_F1c, Q_F4, Q_F4c, Q_F16, Q_F16c, Q_X1_, Q_X4_, Q_X16_⟩ hb_ hon hoff
        refine ⟨_, rfl, fun K hK => ?_⟩
        have e0 : a.tmps[0]? = some (.slice A l.length c) := by rw [ha]; exact (putSel_off rfl).trans rfl
        have e81 : a.tmps[81]? = some (.bool true) := by rw [ha]; exact putSel_on (e := (7, 81, .bool true)) 5 rfl rfl (hon 7 (by kernel_rfl)) rfl
        replace ha := Aside0.mk ha
        have HBW := Aside0.mk Q_HBW
        have F1 := Aside0.mk (Q_F1 (hon 1 (by kernel_rfl)))
        have F1c := Aside0.mk (Q_F1c (hon 1 (by kernel_rfl)))
        have F4 := Aside0.mk (Q_F4 (hon 4 (by kernel_rfl)))
        have F4c := Aside0.mk (Q_F4c (hon 4 (by kernel_rfl)))
        refine value_ (w1 := w') (v := .slice A l.length c) (wanted_on rfl rfl rfl (e81.trans (by first | rfl | (simp [*]; done)))) rfl ?_ ?_
        · go_simp
          (try simp only [i64_w])
          try rfl
        refine hK.out _ _ ⟨As, cs, Bs, bs, Cs, ds, m1_, m4_, m16_, (by rw [ha.out]; exact putSel_upk 6 hb_ rfl rfl rfl), Q_HBW, Q_F1, Q_F1c, Q_F4, Q_F4c, fun h0_ => absurd ((hoff 16 (by kernel_rfl)).symm.trans h0_) (by decide), fun h0_ => absurd ((hoff 16 (by kernel_rfl)).symm.trans h0_) (by decide), Q_X1_, Q_X4_, fun h0_ => absurd ((hoff 16 (by kernel_rfl)).symm.trans h0_) (by decide)⟩
      refine steps_cons ?_ ?_
      · rintro b a w' ⟨As, cs, Bs, bs, Cs, ds, m1_, m4_, m16_, ha, Q_HBW, Q_F1, Q_F1c, Q_F4, Q_F4c, Q_F16, Q_F16c, Q_X1_, Q_X4_, Q_X16_⟩ hb_ hon hoff
        refine ⟨_, rfl, fun K hK => ?_⟩
        have e82 : a.tmps[82]? = some (.slice A l.length c) := by rw [ha]; exact putSel_on (e := (8, 82, .slice A l.length c)) 6 rfl rfl (hon 8 (by kernel_rfl)) rfl
        have e81 : a.tmps[81]? = some (.bool true) := by rw [ha]; exact putSel_on (e := (7, 81, .bool true)) 5 rfl rfl (hon 7 (by kernel_rfl)) rfl
        replace ha := Aside0.mk ha
        have HBW := Aside0.mk Q_HBW
        have F1 := Aside0.mk (Q_F1 (hon 1 (by kernel_rfl)))
        have F1c := Aside0.mk (Q_F1c (hon 1 (by kernel_rfl)))
        have F4 := Aside0.mk (Q_F4 (hon 4 (by kernel_rfl)))
        have F4c := Aside0.mk (Q_F4c (hon 4 (by kernel_rfl)))
        refine goes_ Try.func23 (by kernel_rfl) rfl #[.slice A l.length c] (wanted_on rfl rfl rfl (e81.trans (by first | rfl | (simp [*]; done)))) rfl rfl (by first | (simp only [List.map_toArray, List.map_cons, List.map_nil, Act.eval, Array.getD_eq_getD_getElem?, Option.getD_some, e82, e81]; done) | (simp only [List.map_toArray, List.map_cons, List.map_nil, Act.eval, Array.getD_eq_getD_getElem?, Option.getD_some, e82, e81]; rfl)) ?_
        refine (signed_any _ _ l _ (Kd.C_below HR1.out HBW.out) HC.out HY.out HL2.out).mono ?_
        rw [HSB.out]
        rintro e w1 ⟨rfl, hb⟩
        refine ⟨_, rfl, ?_⟩
        refine hK.out _ _ ⟨As, cs, Bs, bs, Cs, ds, m1_, m4_, m16_, (by rw [ha.out]; exact putSel_upk 7 hb_ rfl rfl rfl), below_then HBW.out HBW.out.size hb, fun _ => Kd.C_below F1.out hb, Q_F1c, fun _ => Kd.C_below F4.out hb, Q_F4c, fun h0_ => absurd ((hoff 16 (by kernel_rfl)).symm.trans h0_) (by decide), fun h0_ => absurd ((hoff 16 (by kernel_rfl)).symm.trans h0_) (by decide), Q_X1_, Q_X4_, fun h0_ => absurd ((hoff 16 (by kernel_rfl)).symm.trans h0_) (by decide)⟩
      refine steps_cons ?_ ?_
      · rintro b a w' ⟨As, cs, Bs, bs, Cs, ds, m1_, m4_, m16_, ha, Q_HBW, Q_F1, Q_F1c, Q_F4, Q_F4c, Q_F16, Q_F16c, Q_X1_, Q_X4_, Q_X16_⟩ hb_ hon hoff
        refine ⟨_, rfl, fun K hK => ?_⟩
        have e0 : a.tmps[0]? = some (.slice A l.length c) := by rw [ha]; exact (putSel_off rfl).trans rfl
        have e81 : a.tmps[81]? = some (.bool true) := by rw [ha]; exact putSel_on (e := (7, 81, .bool true)) 5 rfl rfl (hon 7 (by kernel_rfl)) rfl
        replace ha := Aside0.mk ha
        have HBW := Aside0.mk Q_HBW
        have F1 := Aside0.mk (Q_F1 (hon 1 (by kernel_rfl)))
        have F1c := Aside0.mk (Q_F1c (hon 1 (by kernel_rfl)))
        have F4 := Aside0.mk (Q_F4 (hon 4 (by kernel_rfl)))
        have F4c := Aside0.mk (Q_F4c (hon 4 (by kernel_rfl)))
        refine value_ (w1 := w') (v := .slice A l.length c) (wanted_on rfl rfl rfl (e81.trans (by first | rfl | (simp [*]; done)))) rfl ?_ ?_
        · go_simp
          (try simp only [i64_w])
          try rfl
        refine hK.out _ _ ⟨As, cs, Bs, bs, Cs, ds, m1_, m4_, m16_, (by rw [ha.out]; exact putSel_upk 8 hb_ rfl rfl rfl), Q_HBW, Q_F1, Q_F1c, Q_F4, Q_F4c, fun h0_ => absurd ((hoff 16 (by kernel_rfl)).symm.trans h0_) (by decide), fun h0_ => absurd ((hoff 16 (by kernel_rfl)).symm.trans h0_) (by decide), Q_X1_, Q_X4_, fun h0_ => absurd ((hoff 16 (by kernel_rfl)).symm.trans h0_) (by decide)⟩
      refine steps_cons ?_ ?_
      · rintro b a w' ⟨As, cs, Bs, bs, Cs, ds, m1_, m4_, m16_, ha, Q_HBW, Q_F1, Q_F1c, Q_F4, Q_F4c, Q_F16, Q_F16c, Q_X1_, Q_X4_, Q_X16_⟩ hb_ hon hoff
        refine ⟨_, rfl, fun K hK => ?_⟩
        have e84 : a.tmps[84]? = some (.slice A l.length c) := by rw [ha]; exact putSel_on (e := (10, 84, .slice A l.length c)) 8 rfl rfl (hon 10 (by kernel_rfl)) rfl
        have e81 : a.tmps[81]? = some (.bool true) := by rw [ha]; exact putSel_on (e := (7, 81, .bool true)) 5 rfl rfl (hon 7 (by kernel_rfl)) rfl
        replace ha := Aside0.mk ha
        have HBW := Aside0.mk Q_HBW
        have F1 := Aside0.mk (Q_F1 (hon 1 (by kernel_rfl)))
        have F1c := Aside0.mk (Q_F1c (hon 1 (by kernel_rfl)))
        have F4 := Aside0.mk (Q_F4 (hon 4 (by kernel_rfl)))
        have F4c := Aside0.mk (Q_F4c (hon 4 (by kernel_rfl)))
        refine goes_ Try.func24 (by kernel_rfl) rfl #[.slice A l.length c] (wanted_on rfl rfl rfl (e81.trans (by first | rfl | (simp [*]; done)))) rfl rfl (by first | (simp only [List.map_toArray, List.map_cons, List.map_nil, Act.eval, Array.getD_eq_getD_getElem?, Option.getD_some, e84, e81]; done) | (simp only [List.map_toArray, List.map_cons, List.map_nil, Act.eval, Array.getD_eq_getD_getElem?, Option.getD_some, e84, e81]; rfl)) ?_
        refine (refsigned_any _ _ l _ (Kd.C_below HR1.out HBW.out) HC.out HY.out HL2.out).mono ?_
        rw [HSB.out]
        rintro e w1 ⟨rfl, hb⟩
        refine ⟨_, rfl, ?_⟩
        refine hK.out _ _ ⟨As, cs, Bs, bs, Cs, ds, m1_, m4_, m16_, (by rw [ha.out]; exact putSel_upk 9 hb_ rfl rfl rfl), below_then HBW.out HBW.out.size hb, fun _ => Kd.C_below F1.out hb, Q_F1c, fun _ => Kd.C_below F4.out hb, Q_F4c, fun h0_ => absurd ((hoff 16 (by kernel_rfl)).symm.trans h0_) (by decide), fun h0_ => absurd ((hoff 16 (by kernel_rfl)).symm.trans h0_) (by decide), Q_X1_, Q_X4_, fun h0_ => absurd ((hoff 16 (by kernel_rfl)).symm.trans h0_) (by decide)⟩
      refine steps_cons ?_ ?_
      · rintro b a w' ⟨As, cs, Bs, bs, Cs, ds, m1_, m4_, m16_, ha, Q_HBW, Q_F1, Q_F1c, Q_F4, Q_F4c, Q_F16, Q_F16c, Q_X1_, Q_X4_, Q_X16_⟩ hb_ hon hoff
        refine ⟨_, rfl, fun K hK => ?_⟩
        have e83 : a.tmps[83]? = some (.bool bq) := by rw [ha]; exact putSel_on (e := (9, 83, .bool bq)) 7 rfl rfl (hon 9 (by kernel_rfl)) rfl
        have e85 : a.tmps[85]? = some (.bool bq) := by rw [ha]; exact putSel_on (e := (11, 85, .bool bq)) 9 rfl rfl (hon 11 (by kernel_rfl)) rfl
        have e81 : a.tmps[81]? = some (.bool true) := by rw [ha]; exact putSel_on (e := (7, 81, .bool true)) 5 rfl rfl (hon 7 (by kernel_rfl)) rfl
        replace ha := Aside0.mk ha
        have HBW := Aside0.mk Q_HBW
        have F1 := Aside0.mk (Q_F1 (hon 1 (by kernel_rfl)))
        have F1c := Aside0.mk (Q_F1c (hon 1 (by kernel_rfl)))
        have F4 := Aside0.mk (Q_F4 (hon 4 (by kernel_rfl)))
        have F4c := Aside0.mk (Q_F4c (hon 4 (by kernel_rfl)))
        refine value_ (w1 := w') (v := .bool true) (wanted_on rfl rfl rfl (e81.trans (by first | rfl | (simp [*]; done)))) rfl ?_ ?_
        · go_simp
          (try simp only [i64_w])
          try rfl
        refine hK.out _ _ ⟨As, cs, Bs, bs, Cs, ds, m1_, m4_, m16_, (by rw [ha.out]; exact putSel_upk 10 hb_ rfl rfl rfl), Q_HBW, Q_F1, Q_F1c, Q_F4, Q_F4c, fun h0_ => absurd ((hoff 16 (by kernel_rfl)).symm.trans h0_) (by decide), fun h0_ => absurd ((hoff 16 (by kernel_rfl)).symm.trans h0_) (by decide), Q_X1_, Q_X4_, fun h0_ => absurd ((hoff 16 (by kernel_rfl)).symm.trans h0_) (by decide)⟩
      refine steps_cons ?_ ?_
      · rintro b a w' ⟨As, cs, Bs, bs, Cs, ds, m1_, m4_, m16_, ha, Q_HBW, Q_F1, Q_F1c, Q_F4, Q_F4c, Q_F16, Q_F16c, Q_X1_, Q_X4_, Q_X16_⟩ hb_ hon hoff
        refine ⟨_, rfl, fun K hK => ?_⟩
        have e81 : a.tmps[81]? = some (.bool true) := by rw [ha]; exact putSel_on (e := (7, 81, .bool true)) 5 rfl rfl (hon 7 (by kernel_rfl)) rfl
        have e86 : a.tmps[86]? = some (.bool true) := by rw [ha]; exact putSel_on (e := (12, 86, .bool true)) 10 rfl rfl (hon 12 (by kernel_rfl)) rfl
        replace ha := Aside0.mk ha
        have HBW := Aside0.mk Q_HBW
        have F1 := Aside0.mk (Q_F1 (hon 1 (by kernel_rfl)))
        have F1c := Aside0.mk (Q_F1c (hon 1 (by kernel_rfl)))
        have F4 := Aside0.mk (Q_F4 (hon 4 (by kernel_rfl)))
        have F4c := Aside0.mk (Q_F4c (hon 4 (by kernel_rfl)))
        refine value_ (w1 := w') (v := .bool true) (by rfl) rfl ?_ ?_
        · go_simp
          (try simp only [i64_w])
          try rfl
        refine hK.out _ _ ⟨As, cs, Bs, bs, Cs, ds, m1_, m4_, m16_, (by rw [ha.out]; exact putSel_upk 11 hb_ rfl rfl rfl), Q_HBW, Q_F1, Q_F1c, Q_F4, Q_F4c, fun h0_ => absurd ((hoff 16 (by kernel_rfl)).symm.trans h0_) (by decide), fun h0_ => absurd ((hoff 16 (by kernel_rfl)).symm.trans h0_) (by decide), Q_X1_, Q_X4_, fun h0_ => absurd ((hoff 16 (by kernel_rfl)).symm.trans h0_) (by decide)⟩
      refine steps_cons ?_ ?_
      · rintro b a w' ⟨As, cs, Bs, bs, Cs, ds, m1_, m4_, m16_, ha, Q_HBW, Q_F1, Q_F1c, Q_F4, Q_F4c, Q_F16, Q_F16c, Q_X1_, Q_X4_, Q_X16_⟩ hb_ hon hoff
        refine ⟨_, rfl, fun K hK => ?_⟩
        have e87 : a.tmps[87]? = some (.bool true) := by rw [ha]; exact putSel_on (e := (13, 87, .bool true)) 11 rfl rfl (hon 13 (by kernel_rfl)) rfl
        replace ha := Aside0.mk ha
        have HBW := Aside0.mk Q_HBW
        have F1 := Aside0.mk (Q_F1 (hon 1 (by kernel_rfl)))
        have F1c := Aside0.mk (Q_F1c (hon 1 (by kernel_rfl)))
        have F4 := Aside0.mk (Q_F4 (hon 4 (by kernel_rfl)))
        have F4c := Aside0.mk (Q_F4c (hon 4 (by kernel_rfl)))
        refine value_ (w1 := w') (v := .bool true) (by rfl) rfl ?_ ?_
        · go_simp
          (try simp only [i64_w])
          try rfl
        refine hK.out _ _ ⟨As, cs, Bs, bs, Cs, ds, m1_, m4_, m16_, (by rw [ha.out]; exact putSel_upk 12 hb_ rfl rfl rfl), Q_HBW, Q_F1, Q_F1c, Q_F4, Q_F4c, fun h0_ => absurd ((hoff 16 (by kernel_rfl)).symm.trans h0_) (by decide), fun h0_ => absurd ((hoff 16 (by kernel_rfl)).symm.trans h0_) (by decide), Q_X1_, Q_X4_, fun h0_ => absurd ((hoff 16 (by kernel_rfl)).symm.trans h0_) (by decide)⟩
      refine steps_cons ?_ ?_
      · rintro b a w' ⟨As, cs, Bs, bs, Cs, ds, m1_, m4_, m16_, ha, Q_HBW, Q_F1, Q_F1c, Q_F4, Q_F4c, Q_F16, Q_F16c, Q_X1_, Q_X4_, Q_X16_⟩ hb_ hon hoff
        refine ⟨_, rfl, fun K hK => ?_⟩
        have e0 : a.tmps[0]? = some (.slice A l.length c) := by rw [ha]; exact (putSel_off rfl).trans rfl
        have e88 : a.tmps[88]? = some (.bool true) := by rw [ha]; exact putSel_on (e := (14, 88, .bool true)) 12 rfl rfl (hon 14 (by kernel_rfl)) rfl
        replace ha := Aside0.mk ha
        have HBW := Aside0.mk Q_HBW
        have F1 := Aside0.mk (Q_F1 (hon 1 (by kernel_rfl)))
        have F1c := Aside0.mk (Q_F1c (hon 1 (by kernel_rfl)))
        have F4 := Aside0.mk (Q_F4 (hon 4 (by kernel_rfl)))
        have F4c := Aside0.mk (Q_F4c (hon 4 (by kernel_rfl)))
        refine value_ (w1 := w') (v := .slice A l.length c) (wanted_on rfl rfl rfl (e88.trans (by first | rfl | (simp [*]; done)))) rfl ?_ ?_
        · go_simp
          (try simp only [i64_w])
          try rfl
        refine hK.out _ _ ⟨As, cs, Bs, bs, Cs, ds, m1_, m4_, m16_, (by rw [ha.out]; exact putSel_upk 13 hb_ rfl rfl rfl), Q_HBW, Q_F1, Q_F1c, Q_F4, Q_F4c, fun h0_ => absurd ((hoff 16 (by kernel_rfl)).symm.trans h0_) (by decide), fun h0_ => absurd ((hoff 16 (by kernel_rfl)).symm.trans h0_) (by decide), Q_X1_, Q_X4_, fun h0_ => absurd ((hoff 16 (by kernel_rfl)).symm.trans h0_) (by decide)⟩
      refine steps_cons ?_ ?_
      · rintro b a w' ⟨As, cs, Bs, bs, Cs, ds, m1_, m4_, m16_, ha, Q_HBW, Q_F1, Q_F1c, Q_F4, Q_F4c, Q_F16, Q_F16c, Q_X1_, Q_X4_, Q_X16_⟩ hb_ hon hoff
        refine ⟨_, rfl, fun K hK => ?_⟩
        have e89 : a.tmps[89]? = some (.slice A l.length c) := by rw [ha]; exact putSel_on (e := (15, 89, .slice A l.length c)) 13 rfl rfl (hon 15 (by kernel_rfl)) rfl
        have e88 : a.tmps[88]? = some (.bool true) := by rw [ha]; exact putSel_on (e := (14, 88, .bool true)) 12 rfl rfl (hon 14 (by kernel_rfl)) rfl
        replace ha := Aside0.mk ha
        have HBW := Aside0.mk Q_HBW
        have F1 := Aside0.mk (Q_F1 (hon 1 (by kernel_rfl)))
        have F1c := Aside0.mk (Q_F1c (hon 1 (by kernel_rfl)))
        have F4 := Aside0.mk (Q_F4 (hon 4 (by kernel_rfl)))
        have F4c := Aside0.mk (Q_F4c (hon 4 (by kernel_rfl)))
        refine goes_ Try.func20 (by kernel_rfl) rfl #[.slice A l.length c] (wanted_on rfl rfl rfl (e88.trans (by first | rfl | (simp [*]; done)))) rfl rfl (by first | (simp only [List.map_toArray, List.map_cons, List.map_nil, Act.eval, Array.getD_eq_getD_getElem?, Option.getD_some, e89, e88]; done) | (simp only [List.map_toArray, List.map_cons, List.map_nil, Act.eval, Array.getD_eq_getD_getElem?, Option.getD_some, e89, e88]; rfl)) ?_
        refine (sign_any _ _ l _ (Kd.C_below HR1.out HBW.out) HC.out HL.out).mono ?_
        rintro e w3 ⟨v, rfl, ho, hb⟩
        refine ⟨_, rfl, ?_⟩
        rw [signF_sg HY.out, ← HSC.out] at ho
        obtain ⟨As1, cs1, eo⟩ := Kd.R_slice ho
        subst eo
        refine hK.out _ _ ⟨As, cs, Bs, bs, As1, cs1, m1_, m4_, (.slice As1 sc.length cs1), (by rw [ha.out]; exact putSel_upk 14 hb_ rfl rfl rfl), below_then HBW.out HBW.out.size hb, fun _ => Kd.C_below F1.out hb, Q_F1c, fun _ => Kd.C_below F4.out hb, Q_F4c, fun _ => (Kd.R_reads' ho).2.2, fun _ => (Kd.R_reads' ho).2.1, Q_X1_, Q_X4_, fun _ => rfl⟩
      refine steps_cons ?_ ?_
      · rintro b a w' ⟨As, cs, Bs, bs, Cs, ds, m1_, m4_, m16_, ha, Q_HBW, Q_F1, Q_F1c, Q_F4, Q_F4c, Q_F16, Q_F16c, Q_X1_, Q_X4_, Q_X16_⟩ hb_ hon hoff
        refine ⟨_, rfl, fun K hK => ?_⟩
        have e90 : a.tmps[90]? = some (m16_) := by rw [ha]; exact putSel_on (e := (16, 90, m16_)) 14 rfl rfl (hon 16 (by kernel_rfl)) rfl
        rw [Q_X16_ (hon 16 (by kernel_rfl))] at e90
        have e88 : a.tmps[88]? = some (.bool true) := by rw [ha]; exact putSel_on (e := (14, 88, .bool true)) 12 rfl rfl (hon 14 (by kernel_rfl)) rfl
        replace ha := Aside0.mk ha
        have HBW := Aside0.mk Q_HBW
        have F1 := Aside0.mk (Q_F1 (hon 1 (by kernel_rfl)))
        have F1c := Aside0.mk (Q_F1c (hon 1 (by kernel_rfl)))
        have F4 := Aside0.mk (Q_F4 (hon 4 (by kernel_rfl)))
        have F4c := Aside0.mk (Q_F4c (hon 4 (by kernel_rfl)))
        have F16 := Aside0.mk (Q_F16 (hon 16 (by kernel_rfl)))
        have F16c := Aside0.mk (Q_F16c (hon 16 (by kernel_rfl)))
        refine goes_ Try.func23 (by kernel_rfl) rfl #[.slice Cs sc.length ds] (wanted_on rfl rfl rfl (e88.trans (by first | rfl | (simp [*]; done)))) rfl rfl (by first | (simp only [List.map_toArray, List.map_cons, List.map_nil, Act.eval, Array.getD_eq_getD_getElem?, Option.getD_some, e90, e88]; done) | (simp only [List.map_toArray, List.map_cons, List.map_nil, Act.eval, Array.getD_eq_getD_getElem?, Option.getD_some, e90, e88]; rfl)) ?_
        refine (signed_any _ _ sc _ F16.out F16c.out HYS.out HLS.out).mono ?_
        rw [HSS.out]
        rintro e w1 ⟨rfl, hb⟩
        refine ⟨_, rfl, ?_⟩
        refine hK.out _ _ ⟨As, cs, Bs, bs, Cs, ds, m1_, m4_, m16_, (by rw [ha.out]; exact putSel_upk 15 hb_ rfl rfl rfl), below_then HBW.out HBW.out.size hb, fun _ => Kd.C_below F1.out hb, Q_F1c, fun _ => Kd.C_below F4.out hb, Q_F4c, fun _ => Kd.C_below F16.out hb, Q_F16c, Q_X1_, Q_X4_, Q_X16_⟩
      refine steps_cons ?_ ?_
      · rintro b a w' ⟨As, cs, Bs, bs, Cs, ds, m1_, m4_, m16_, ha, Q_HBW, Q_F1, Q_F1c, Q_F4, Q_F4c, Q_F16, Q_F16c, Q_X1_, Q_X4_, Q_X16_⟩ hb_ hon hoff
        refine ⟨_, rfl, fun K hK => ?_⟩
        have e88 : a.tmps[88]? = some (.bool true) := by rw [ha]; exact putSel_on (e := (14, 88, .bool true)) 12 rfl rfl (hon 14 (by kernel_rfl)) rfl
        have e91 : a.tmps[91]? = some (.bool true) := by rw [ha]; exact putSel_on (e := (17, 91, .bool true)) 15 rfl rfl (hon 17 (by kernel_rfl)) rfl
        replace ha := Aside0.mk ha
        have HBW := Aside0.mk Q_HBW
        have F1 := Aside0.mk (Q_F1 (hon 1 (by kernel_rfl)))
        have F1c := Aside0.mk (Q_F1c (hon 1 (by kernel_rfl)))
        have F4 := Aside0.mk (Q_F4 (hon 4 (by kernel_rfl)))
        have F4c := Aside0.mk (Q_F4c (hon 4 (by kernel_rfl)))
        have F16 := Aside0.mk (Q_F16 (hon 16 (by kernel_rfl)))
        have F16c := Aside0.mk (Q_F16c (hon 16 (by kernel_rfl)))
        refine value_ (w1 := w') (v := .bool true) (by rfl) rfl ?_ ?_
        · go_simp
          (try simp only [i64_w])
          try rfl
        refine hK.out _ _ ⟨As, cs, Bs, bs, Cs, ds, m1_, m4_, m16_, (by rw [ha.out]; exact putSel_upk 16 hb_ rfl rfl rfl), Q_HBW, Q_F1, Q_F1c, Q_F4, Q_F4c, Q_F16, Q_F16c, Q_X1_, Q_X4_, Q_X16_⟩
      refine steps_cons ?_ ?_
      · rintro b a w' ⟨As, cs, Bs, bs, Cs, ds, m1_, m4_, m16_, ha, Q_HBW, Q_F1, Q_F1c, Q_F4, Q_F4c, Q_F16, Q_F16c, Q_X1_, Q_X4_, Q_X16_⟩ hb_ hon hoff
        refine ⟨_, rfl, fun K hK => ?_⟩
        have e92 : a.tmps[92]? = some (.bool true) := by rw [ha]; exact putSel_on (e := (18, 92, .bool true)) 16 rfl rfl (hon 18 (by kernel_rfl)) rfl
        replace ha := Aside0.mk ha
        have HBW := Aside0.mk Q_HBW
        have F1 := Aside0.mk (Q_F1 (hon 1 (by kernel_rfl)))
        have F1c := Aside0.mk (Q_F1c (hon 1 (by kernel_rfl)))
        have F4 := Aside0.mk (Q_F4 (hon 4 (by kernel_rfl)))
        have F4c := Aside0.mk (Q_F4c (hon 4 (by kernel_rfl)))
        have F16 := Aside0.mk (Q_F16 (hon 16 (by kernel_rfl)))
        have F16c := Aside0.mk (Q_F16c (hon 16 (by kernel_rfl)))
        refine value_ (w1 := w') (v := .bool true) (by rfl) rfl ?_ ?_
        · go_simp
          (try simp only [i64_w])
          try rfl
        refine hK.out _ _ ⟨As, cs, Bs, bs, Cs, ds, m1_, m4_, m16_, (by rw [ha.out]; exact putSel_upk 17 hb_ rfl rfl rfl), Q_HBW, Q_F1, Q_F1c, Q_F4, Q_F4c, Q_F16, Q_F16c, Q_X1_, Q_X4_, Q_X16_⟩
      refine steps_cons ?_ ?_
      · rintro b a w' ⟨As, cs, Bs, bs, Cs, ds, m1_, m4_, m16_, ha, Q_HBW, Q_F1, Q_F1c, Q_F4, Q_F4c, Q_F16, Q_F16c, Q_X1_, Q_X4_, Q_X16_⟩ hb_ hon hoff
        refine ⟨_, rfl, fun K hK => ?_⟩
        have e93 : a.tmps[93]? = some (.bool true) := by rw [ha]; exact putSel_on (e := (19, 93, .bool true)) 17 rfl rfl (hon 19 (by kernel_rfl)) rfl
        replace ha := Aside0.mk ha
        have HBW := Aside0.mk Q_HBW
        have F1 := Aside0.mk (Q_F1 (hon 1 (by kernel_rfl)))
        have F1c := Aside0.mk (Q_F1c (hon 1 (by kernel_rfl)))
        have F4 := Aside0.mk (Q_F4 (hon 4 (by kernel_rfl)))
        have F4c := Aside0.mk (Q_F4c (hon 4 (by kernel_rfl)))
        have F16 := Aside0.mk (Q_F16 (hon 16 (by kernel_rfl)))
        have F16c := Aside0.mk (Q_F16c (hon 16 (by kernel_rfl)))
        refine goes_ Try.func19 (by kernel_rfl) rfl #[] (wanted_on rfl rfl rfl (e93.trans (by first | rfl | (simp [*]; done)))) rfl rfl (by first | (simp only [List.map_toArray, List.map_cons, List.map_nil, Act.eval, Array.getD_eq_getD_getElem?, Option.getD_some, e93]; done) | (simp only [List.map_toArray, List.map_cons, List.map_nil, Act.eval, Array.getD_eq_getD_getElem?, Option.getD_some, e93]; rfl)) ?_
        refine (awake3_any _).mono ?_
        rintro e w1 ⟨rfl, hb⟩
        refine ⟨_, rfl, ?_⟩
        refine hK.out _ _ ⟨As, cs, Bs, bs, Cs, ds, m1_, m4_, m16_, (by rw [ha.out]; exact putSel_upk 18 hb_ rfl rfl rfl), below_then HBW.out HBW.out.size hb, fun _ => Kd.C_below F1.out hb, Q_F1c, fun _ => Kd.C_below F4.out hb, Q_F4c, fun _ => Kd.C_below F16.out hb, Q_F16c, Q_X1_, Q_X4_, Q_X16_⟩
      refine steps_cons ?_ ?_
      · rintro b a w' ⟨As, cs, Bs, bs, Cs, ds, m1_, m4_, m16_, ha, Q_HBW, Q_F1, Q_F1c, Q_F4, Q_F4c, Q_F16, Q_F16c, Q_X1_, Q_X4_, Q_X16_⟩ hb_ hon hoff
        refine ⟨_, rfl, fun K hK => ?_⟩
        have e93 : a.tmps[93]? = some (.bool true) := by rw [ha]; exact putSel_on (e := (19, 93, .bool true)) 17 rfl rfl (hon 19 (by kernel_rfl)) rfl
        have e94 : a.tmps[94]? = some (.bool true) := by rw [ha]; exact putSel_on (e := (20, 94, .bool true)) 18 rfl rfl (hon 20 (by kernel_rfl)) rfl
        replace ha := Aside0.mk ha
        have HBW := Aside0.mk Q_HBW
        have F1 := Aside0.mk (Q_F1 (hon 1 (by kernel_rfl)))
        have F1c := Aside0.mk (Q_F1c (hon 1 (by kernel_rfl)))
        have F4 := Aside0.mk (Q_F4 (hon 4 (by kernel_rfl)))
        have F4c := Aside0.mk (Q_F4c (hon 4 (by kernel_rfl)))
        have F16 := Aside0.mk (Q_F16 (hon 16 (by kernel_rfl)))
        have F16c := Aside0.mk (Q_F16c (hon 16 (by kernel_rfl)))
        refine value_ (w1 := w') (v := .bool true) (by rfl) rfl ?_ ?_
        · go_simp
          (try simp only [i64_w])
          try rfl
        refine hK.out _ _ ⟨As, cs, Bs, bs, Cs, ds, m1_, m4_, m16_, (by rw [ha.out]; exact putSel_upk 19 hb_ rfl rfl rfl), Q_HBW, Q_F1, Q_F1c, Q_F4, Q_F4c, Q_F16, Q_F16c, Q_X1_, Q_X4_, Q_X16_⟩
      refine steps_cons ?_ ?_
      · rintro b a w' ⟨As, cs, Bs, bs, Cs, ds, m1_, m4_, m16_, ha, Q_HBW, Q_F1, Q_F1c, Q_F4, Q_F4c, Q_F16, Q_F16c, Q_X1_, Q_X4_, Q_X16_⟩ hb_ hon hoff
        refine ⟨_, rfl, fun K hK => ?_⟩
        have e95 : a.tmps[95]? = some (.bool true) := by rw [ha]; exact putSel_on (e := (21, 95, .bool true)) 19 rfl rfl (hon 21 (by kernel_rfl)) rfl
        replace ha := Aside0.mk ha
        have HBW := Aside0.mk Q_HBW
        have F1 := Aside0.mk (Q_F1 (hon 1 (by kernel_rfl)))
        have F1c := Aside0.mk (Q_F1c (hon 1 (by kernel_rfl)))
        have F4 := Aside0.mk (Q_F4 (hon 4 (by kernel_rfl)))
        have F4c := Aside0.mk (Q_F4c (hon 4 (by kernel_rfl)))
        have F16 := Aside0.mk (Q_F16 (hon 16 (by kernel_rfl)))
        have F16c := Aside0.mk (Q_F16c (hon 16 (by kernel_rfl)))
        refine value_ (w1 := w') (v := .bool true) (by rfl) rfl ?_ ?_
        · go_simp
          (try simp only [i64_w])
          try rfl
        refine hK.out _ _ ⟨As, cs, Bs, bs, Cs, ds, m1_, m4_, m16_, (by rw [ha.out]; exact putSel_upk 20 hb_ rfl rfl rfl), Q_HBW, Q_F1, Q_F1c, Q_F4, Q_F4c, Q_F16, Q_F16c, Q_X1_, Q_X4_, Q_X16_⟩
      exact steps_nil
    · rintro b a w' hall ⟨As, cs, Bs, bs, Cs, ds, m1_, m4_, m16_, ha, Q_HBW, Q_F1, Q_F1c, Q_F4, Q_F4c, Q_F16, Q_F16c, Q_X1_, Q_X4_, Q_X16_⟩
      clear HBW
      have hb1_ := hall 1 (by kernel_rfl)
      have hb2_ := hall 2 (by kernel_rfl)
      have hb4_ := hall 4 (by kernel_rfl)
      have hb5_ := hall 5 (by kernel_rfl)
      have hb6_ := hall 6 (by kernel_rfl)
      have hb7_ := hall 7 (by kernel_rfl)
      have hb8_ := hall 8 (by kernel_rfl)
      have hb9_ := hall 9 (by kernel_rfl)
      have hb10_ := hall 10 (by kernel_rfl)
      have hb11_ := hall 11 (by kernel_rfl)
      have hb12_ := hall 12 (by kernel_rfl)
      have hb13_ := hall 13 (by kernel_rfl)
      have hb14_ := hall 14 (by kernel_rfl)
      have hb15_ := hall 15 (by kernel_rfl)
      have hb16_ := hall 16 (by kernel_rfl)
      have hb17_ := hall 17 (by kernel_rfl)
      have hb18_ := hall 18 (by kernel_rfl)
      have hb19_ := hall 19 (by kernel_rfl)
      have hb20_ := hall 20 (by kernel_rfl)
      have hb21_ := hall 21 (by kernel_rfl)
      have hb22_ := hall 22 (by kernel_rfl)
      subst ha
      obtain rfl := Q_X1_ hb1_
      obtain rfl := Q_X4_ hb4_
      obtain rfl := Q_X16_ hb16_
      simp only [putSel, hb1_, hb2_, hb4_, hb5_, hb6_, hb7_, hb8_, hb9_, hb10_, hb11_, hb12_, hb13_, hb14_, hb15_, hb16_, hb17_, hb18_, hb19_, hb20_, hb21_, hb22_, if_true, Act.put, List.setIfInBounds_toArray, List.set_cons_zero, List.set_cons_succ]
      have HBW := Aside0.mk Q_HBW
      clear Q_HBW
      have F1 := Aside0.mk (Q_F1 hb1_)
      clear Q_F1
      have F1c := Aside0.mk (Q_F1c hb1_)
      clear Q_F1c
      have F4 := Aside0.mk (Q_F4 hb4_)
      clear Q_F4
      have F4c := Aside0.mk (Q_F4c hb4_)
      clear Q_F4c
      have F16 := Aside0.mk (Q_F16 hb16_)
      clear Q_F16
      have F16c := Aside0.mk (Q_F16c hb16_)
      clear Q_F16c
      clear hall hb1_ hb2_ hb4_ hb5_ hb6_ hb7_ hb8_ hb9_ hb10_ hb11_ hb12_ hb13_ hb14_ hb15_ hb16_ hb17_ hb18_ hb19_ hb20_ hb21_ hb22_
      go_wp2
      go_ret
      exact ⟨rfl, below_then HB1.out HB1.out.size HBW.out⟩
end Go.Proofs.Ytonbphiaideleaa.M
