/- frame.head: the walks. -/
import Derived.Test.YtonbphiaideleaaMhead
import Derived.Test.YtonbphiaideleaaMturns
namespace Go.Proofs.Ytonbphiaideleaa.M
open Go.RowKit Go.Proofs.YtonbphiaideleaaW.PrintWords Go.Proofs.YtonbphiaideleaaW.PrintLast Go.Proofs.YtonbphiaideleaaW.PrintMore
set_option linter.unusedVariables false
set_option linter.unusedSimpArgs false
theorem add_pos0 (a : Addr) (n : Nat) (h : 0 < n) : a.add n = ⟨a.block, a.off + n, none⟩ := by
  unfold Addr.add
  split
  · omega
  · rfl
def head_T2 : Bool × List (List Nat × List Nat) := (true, [([], []), ([], []), ([0, 1], [0, 1]), ([2], [2]), ([], []), ([4], [4]), ([3, 5], [3, 5]), ([6], [6])])
def head_B2 : List Nat := [0, 0, 3, 7, 0, 16, 63, 127]
theorem head_tab2 : rtab .any (opsOf Try.f46 2) = head_T2 := by kernel_rfl
theorem head_bits2 : waitsOk head_T2.2 head_B2 = true := by kernel_rfl
def head_T10 : Bool × List (List Nat × List Nat) := (true, [([], []), ([0], [0]), ([1], [1]), ([2], [2]), ([], []), ([4], [4]), ([5], [5]), ([6], [6]), ([7], [7]), ([3, 8], [3, 8]), ([9, 0, 1, 2, 3, 4, 5, 6, 7, 8, 9], [9])])
def head_B10 : List Nat := [0, 1, 3, 7, 0, 16, 48, 112, 240, 511, 1023]
theorem head_tab10 : rtab .any (opsOf Try.f46 10) = head_T10 := by kernel_rfl
theorem head_bits10 : waitsOk head_T10.2 head_B10 = true := by kernel_rfl
theorem byt_rng {l : List Int} (h : Byt l) (i : Nat) (hi : i < l.length) : 0 ≤ rd l (i : Int) ∧ rd l (i : Int) < 256 := by
  obtain ⟨c, e, h2⟩ := byt_rd h (i := (i : Int)) (by omega) (by omega)
  rw [e]
  omega
theorem or_i64 (x y : Int) (hx0 : 0 ≤ x) (hx1 : x < 256) (hy0 : 0 ≤ y) (hy1 : y < 256) : Go.bits .or .i64 x (y * 256) = x + 256 * y := by
  obtain ⟨a, rfl⟩ := Int.eq_ofNat_of_zero_le hx0
  obtain ⟨b, rfl⟩ := Int.eq_ofNat_of_zero_le hy0
  have h := (bits_nat .i64 16 (by decide) (fun n h0 h1 => by rw [IntKind.wrap_i64]; omega) a (b * 2 ^ 8) (by omega) (by omega)).2
  have e : ((b : Int) * 256) = ((b * 2 ^ 8 : Nat) : Int) := by omega
  rw [e, h]
  have h2 := Nat.two_pow_add_eq_or_of_lt (i := 8) (b := a) (by omega) b
  have h3 : a ||| b * 2 ^ 8 = a + 256 * b := by rw [Nat.or_comm, Nat.mul_comm b, ← h2]; omega
  rw [h3]
  omega
theorem pre_str (l : List Int) (n : Nat) (hn : n = min l.length 2) (hb : Byt l) : ((strOfNums (l.take n)).toList == (({ data := #[76, 103] } : ByteArray).extract 0 n).toList) = preB l := by
  have h2 : n = 0 ∨ n = 1 ∨ n = 2 := by omega
  have e : ({ data := #[76, 103] } : ByteArray).extract 0 n = strOfNums (([76, 103] : List Int).take n) := by rcases h2 with rfl | rfl | rfl <;> decide +kernel
  have hy : Byt (([76, 103] : List Int).take n) := Byt.take (fun x hx => by
    simp only [List.mem_cons, List.not_mem_nil, or_false] at hx
    omega) n
  rw [e]
  have h3 := str_eq (hb.take n) hy
  have h4 : (l.take n = ([76, 103] : List Int).take n) ↔ (l.take 2 = ([76, 103] : List Int).take l.length) := by
    rcases h2 with rfl | rfl | rfl
    · have : l = [] := List.length_eq_zero_iff.1 (by omega)
      subst this
      simp
    · have h1 : l.length = 1 := by omega
      rw [h1, List.take_of_length_le (show l.length ≤ 1 by omega), List.take_of_length_le (show l.length ≤ 2 by omega)]
    · have h1 : 2 ≤ l.length := by omega
      rw [List.take_of_length_le (l := ([76, 103] : List Int)) (i := l.length) (by simpa using h1), List.take_of_length_le (l := ([76, 103] : List Int)) (i := 2) (by simp)]
  rw [h3]
  unfold preB
  by_cases h : l.take n = ([76, 103] : List Int).take n
  · rw [decide_eq_true h, decide_eq_true (h4.1 h)]
  · rw [decide_eq_false h, decide_eq_false (fun hh => h (h4.2 hh))]
set_option maxHeartbeats 2000000 in
set_option maxRecDepth 100000 in
theorem head_A (A : Option Addr) (c : Nat) (l : List Int) (w : World) (hr : Kd.C (Kd.int .u8) w A l.length l) (hc : l.length ≤ c) (hb : Byt l) (hpr : preB l = false) :
    Calls Try.prog 46 #[.slice A l.length c] w fun e w' => e = .returned (.tuple #[.int .i64 0, .int .i64 3]) ∧ Below w.heap.size w w' := by
    have HR := Aside0.mk hr
    have HY := Aside0.mk hb
    clear hr hb
    obtain ⟨n, hn⟩ : ∃ n : Nat, n = min l.length 2 := ⟨_, rfl⟩
    have hlen63 : l.length ≤ 9223372036854775807 := HR.out.2.1
    have hmn : ∀ (ats : Array TypeId) (ty : TypeId), Builtin.min_ ats ty #[.int .i64 (l.length : Int), .int .i64 2] = (pure (.int .i64 (n : Int)) : Sem Value) := by
      intro ats ty
      have h1 : (if (2 : Int) < (l.length : Int) then (2 : Int) else (l.length : Int)) = (n : Int) := by split <;> omega
      simp only [min_two, min2_int, pure_bind, h1]
    obtain ⟨i05, hi05, _, _, _⟩ := info_parts info5
    obtain ⟨p, hp, hcutp, hCp, hpc⟩ := cutT (k := Kd.int .u8) Try.underlying23 hi05 HR.out hc (n : Int) n rfl (by omega)
    have hpre := pre_str l n hn HY.out
    rw [← hp] at hpre
    have HP := Aside0.mk hCp
    clear hp hCp hpc hi05
    rw [hpr] at hpre
    have hn2 : (n : Int) ≤ 2 := by omega
    have hnl : (n : Int) ≤ (l.length : Int) := by omega
    clear hn
    go_enter Try.func46, Try.ntmps46
    go_wp2
    refine start_ (n := 8) (S := fun w' => Below w.heap.size w w') (ds := []) #[false, false, false, false, false, false, false, false] (by kernel_rfl) rfl rfl (below_drew (Below.refl _ _)) (fun hHeld => ?_)
    refine with_tabW head_tab2 head_bits2 (fun HT_ HW_ => ?_)
    refine pure_ (i := 0) (N := some 10) (v := ?_) (a' := ?_) #[true, false, false, false, false, false, false, false] rfl rfl (any_of HT_.out (by kernel_rfl)) (fun _ _ _ h => h) (Or.inl ⟨by rfl, ?_⟩) ?_ ?_
    rotate_left
    · intro w'
      go_simp
      with_reducible rfl
    rotate_left
    · simp only [Act.put, List.setIfInBounds_toArray, List.set_cons_zero, List.set_cons_succ, i64_w, i32_w]
      rfl
    refine pure_ (i := 1) (N := some 11) (v := ?_) (a' := ?_) #[true, true, false, false, false, false, false, false] rfl rfl (any_of HT_.out (by kernel_rfl)) (fun _ _ _ h => h) (Or.inl ⟨by rfl, ?_⟩) ?_ ?_
    rotate_left
    · intro w'
      go_simp
      with_reducible rfl
    rotate_left
    · simp only [Act.put, List.setIfInBounds_toArray, List.set_cons_zero, List.set_cons_succ, i64_w, i32_w]
      rfl
    refine pure_ (i := 2) (N := some 12) (v := ?_) (a' := ?_) #[true, true, true, false, false, false, false, false] rfl rfl (any_of HT_.out (by kernel_rfl)) (fun _ _ _ h => h) (Or.inl ⟨by rfl, ?_⟩) ?_ ?_
    rotate_left
    · intro w'
      go_simp
      with_reducible rfl
    rotate_left
    · simp only [Act.put, List.setIfInBounds_toArray, List.set_cons_zero, List.set_cons_succ, i64_w, i32_w]
      rfl
    refine take_ (i := 3) (N := some 13) (v := ?_) (a' := ?_) #[true, true, true, true, false, false, false, false] rfl rfl (take_ofW HT_.out HW_.out (by kernel_rfl)) (fun _ _ _ h => h) (Or.inl ⟨by rfl, ?_⟩) hHeld ?_ ?_
    rotate_left
    · intro w' s0
      have hcv := Kd.C_string (P := Try.prog) (c := c) Try.underlying23 Try.underlying5 Try.underlying9 (Kd.C_below HP.out s0)
      go_simp
      with_reducible rfl
    rotate_left
    · simp only [Act.put, List.setIfInBounds_toArray, List.set_cons_zero, List.set_cons_succ, i64_w, i32_w]
      rfl
    refine pure_ (i := 4) (N := some 14) (v := ?_) (a' := ?_) #[true, true, true, true, true, false, false, false] rfl rfl (any_of HT_.out (by kernel_rfl)) (fun _ _ _ h => h) (Or.inl ⟨by rfl, ?_⟩) ?_ ?_
    rotate_left
    · intro w'
      go_simp
      with_reducible rfl
    rotate_left
    · simp only [Act.put, List.setIfInBounds_toArray, List.set_cons_zero, List.set_cons_succ, i64_w, i32_w]
      rfl
    refine pure_ (i := 5) (N := some 15) (v := ?_) (a' := ?_) #[true, true, true, true, true, true, false, false] rfl rfl (any_of HT_.out (by kernel_rfl)) (fun _ _ _ h => h) (Or.inl ⟨by rfl, ?_⟩) ?_ ?_
    rotate_left
    · intro w'
      go_simp
      with_reducible rfl
    rotate_left
    · simp only [Act.put, List.setIfInBounds_toArray, List.set_cons_zero, List.set_cons_succ, i64_w, i32_w]
      rfl
    refine pure_ (i := 6) (N := some 16) (v := ?_) (a' := ?_) #[true, true, true, true, true, true, true, false] rfl rfl (any_of HT_.out (by kernel_rfl)) (fun _ _ _ h => h) (Or.inl ⟨by rfl, ?_⟩) ?_ ?_
    rotate_left
    · intro w'
      go_simp
      with_reducible rfl
    rotate_left
    · simp only [Act.put, List.setIfInBounds_toArray, List.set_cons_zero, List.set_cons_succ, i64_w, i32_w]
      rfl
    refine pure_ (i := 7) (N := some 9) (v := ?_) (a' := ?_) #[true, true, true, true, true, true, true, true] rfl rfl (any_of HT_.out (by kernel_rfl)) (fun _ _ _ h => h) (Or.inl ⟨by rfl, ?_⟩) ?_ ?_
    rotate_left
    · intro w'
      go_simp
      with_reducible rfl
    rotate_left
    · simp only [Act.put, List.setIfInBounds_toArray, List.set_cons_zero, List.set_cons_succ, i64_w, i32_w]
      rfl
    refine done_ (done_of HT_.out (by kernel_rfl)) ?_
    go_wp2
    go_ret2
    exact ⟨rfl, hHeld⟩

set_option maxHeartbeats 2000000 in
set_option maxRecDepth 100000 in
theorem head_B (A : Option Addr) (c : Nat) (l : List Int) (w : World) (hr : Kd.C (Kd.int .u8) w A l.length l) (hc : l.length ≤ c) (hb : Byt l) (hpr : preB l = true) (h2 : l.length ≤ 2) :
    Calls Try.prog 46 #[.slice A l.length c] w fun e w' => e = .returned (.tuple #[.int .i64 0, .int .i64 1]) ∧ Below w.heap.size w w' := by
    have HR := Aside0.mk hr
    have HY := Aside0.mk hb
    clear hr hb
    obtain ⟨n, hn⟩ : ∃ n : Nat, n = min l.length 2 := ⟨_, rfl⟩
    have hlen63 : l.length ≤ 9223372036854775807 := HR.out.2.1
    have hmn : ∀ (ats : Array TypeId) (ty : TypeId), Builtin.min_ ats ty #[.int .i64 (l.length : Int), .int .i64 2] = (pure (.int .i64 (n : Int)) : Sem Value) := by
      intro ats ty
      have h1 : (if (2 : Int) < (l.length : Int) then (2 : Int) else (l.length : Int)) = (n : Int) := by split <;> omega
      simp only [min_two, min2_int, pure_bind, h1]
    obtain ⟨i05, hi05, _, _, _⟩ := info_parts info5
    obtain ⟨p, hp, hcutp, hCp, hpc⟩ := cutT (k := Kd.int .u8) Try.underlying23 hi05 HR.out hc (n : Int) n rfl (by omega)
    have hpre := pre_str l n hn HY.out
    rw [← hp] at hpre
    have HP := Aside0.mk hCp
    clear hp hCp hpc hi05
    rw [hpr] at hpre
    have dl2 : decide ((2 : Int) < (l.length : Int)) = false := by simp; omega
    have dm2 : decide (2 < l.length) = false := by simp; omega
    have dl3 : decide ((3 : Int) < (l.length : Int)) = false := by simp; omega
    have dm3 : decide (3 < l.length) = false := by simp; omega
    have d6 : decide ((l.length : Int) < 6) = true := by simp; omega
    have d6b : decide (l.length < 6) = true := by simp; omega
    have hn2 : (n : Int) ≤ 2 := by omega
    have hnl : (n : Int) ≤ (l.length : Int) := by omega
    clear hn
    go_enter Try.func46, Try.ntmps46
    go_wp2
    refine start_ (n := 8) (S := fun w' => Below w.heap.size w w') (ds := []) #[false, false, false, false, false, false, false, false] (by kernel_rfl) rfl rfl (below_drew (Below.refl _ _)) (fun hHeld => ?_)
    refine with_tabW head_tab2 head_bits2 (fun HT_ HW_ => ?_)
    refine pure_ (i := 0) (N := some 10) (v := ?_) (a' := ?_) #[true, false, false, false, false, false, false, false] rfl rfl (any_of HT_.out (by kernel_rfl)) (fun _ _ _ h => h) (Or.inl ⟨by rfl, ?_⟩) ?_ ?_
    rotate_left
    · intro w'
      go_simp
      with_reducible rfl
    rotate_left
    · simp only [Act.put, List.setIfInBounds_toArray, List.set_cons_zero, List.set_cons_succ, i64_w, i32_w]
      rfl
    refine pure_ (i := 1) (N := some 11) (v := ?_) (a' := ?_) #[true, true, false, false, false, false, false, false] rfl rfl (any_of HT_.out (by kernel_rfl)) (fun _ _ _ h => h) (Or.inl ⟨by rfl, ?_⟩) ?_ ?_
    rotate_left
    · intro w'
      go_simp
      with_reducible rfl
    rotate_left
    · simp only [Act.put, List.setIfInBounds_toArray, List.set_cons_zero, List.set_cons_succ, i64_w, i32_w]
      rfl
    refine pure_ (i := 2) (N := some 12) (v := ?_) (a' := ?_) #[true, true, true, false, false, false, false, false] rfl rfl (any_of HT_.out (by kernel_rfl)) (fun _ _ _ h => h) (Or.inl ⟨by rfl, ?_⟩) ?_ ?_
    rotate_left
    · intro w'
      go_simp
      with_reducible rfl
    rotate_left
    · simp only [Act.put, List.setIfInBounds_toArray, List.set_cons_zero, List.set_cons_succ, i64_w, i32_w]
      rfl
    refine take_ (i := 3) (N := some 13) (v := ?_) (a' := ?_) #[true, true, true, true, false, false, false, false] rfl rfl (take_ofW HT_.out HW_.out (by kernel_rfl)) (fun _ _ _ h => h) (Or.inl ⟨by rfl, ?_⟩) hHeld ?_ ?_
    rotate_left
    · intro w' s0
      have hcv := Kd.C_string (P := Try.prog) (c := c) Try.underlying23 Try.underlying5 Try.underlying9 (Kd.C_below HP.out s0)
      go_simp
      with_reducible rfl
    rotate_left
    · simp only [Act.put, List.setIfInBounds_toArray, List.set_cons_zero, List.set_cons_succ, i64_w, i32_w]
      rfl
    refine pure_ (i := 4) (N := some 14) (v := ?_) (a' := ?_) #[true, true, true, true, true, false, false, false] rfl rfl (any_of HT_.out (by kernel_rfl)) (fun _ _ _ h => h) (Or.inl ⟨by rfl, ?_⟩) ?_ ?_
    rotate_left
    · intro w'
      go_simp
      with_reducible rfl
    rotate_left
    · simp only [Act.put, List.setIfInBounds_toArray, List.set_cons_zero, List.set_cons_succ, i64_w, i32_w]
      rfl
    refine pure_ (i := 5) (N := some 15) (v := ?_) (a' := ?_) #[true, true, true, true, true, true, false, false] rfl rfl (any_of HT_.out (by kernel_rfl)) (fun _ _ _ h => h) (Or.inl ⟨by rfl, ?_⟩) ?_ ?_
    rotate_left
    · intro w'
      go_simp
      with_reducible rfl
    rotate_left
    · simp only [Act.put, List.setIfInBounds_toArray, List.set_cons_zero, List.set_cons_succ, i64_w, i32_w]
      rfl
    refine pure_ (i := 6) (N := some 16) (v := ?_) (a' := ?_) #[true, true, true, true, true, true, true, false] rfl rfl (any_of HT_.out (by kernel_rfl)) (fun _ _ _ h => h) (Or.inl ⟨by rfl, ?_⟩) ?_ ?_
    rotate_left
    · intro w'
      go_simp
      with_reducible rfl
    rotate_left
    · simp only [Act.put, List.setIfInBounds_toArray, List.set_cons_zero, List.set_cons_succ, i64_w, i32_w]
      rfl
    refine pure_ (i := 7) (N := some 9) (v := ?_) (a' := ?_) #[true, true, true, true, true, true, true, true] rfl rfl (any_of HT_.out (by kernel_rfl)) (fun _ _ _ h => h) (Or.inl ⟨by rfl, ?_⟩) ?_ ?_
    rotate_left
    · intro w'
      go_simp
      with_reducible rfl
    rotate_left
    · simp only [Act.put, List.setIfInBounds_toArray, List.set_cons_zero, List.set_cons_succ, i64_w, i32_w]
      rfl
    refine done_ (done_of HT_.out (by kernel_rfl)) ?_
    go_wp2
    go_ret2
    exact ⟨rfl, hHeld⟩

set_option maxHeartbeats 2000000 in
set_option maxRecDepth 100000 in
theorem head_C (A : Option Addr) (c : Nat) (l : List Int) (w : World) (hr : Kd.C (Kd.int .u8) w A l.length l) (hc : l.length ≤ c) (hb : Byt l) (hpr : preB l = true) (h2 : 2 < l.length) (hv : verB (rd l 2) = false) :
    Calls Try.prog 46 #[.slice A l.length c] w fun e w' => e = .returned (.tuple #[.int .i64 0, .int .i64 18]) ∧ Below w.heap.size w w' := by
    have HR := Aside0.mk hr
    have HY := Aside0.mk hb
    clear hr hb
    obtain ⟨n, hn⟩ : ∃ n : Nat, n = min l.length 2 := ⟨_, rfl⟩
    have hlen63 : l.length ≤ 9223372036854775807 := HR.out.2.1
    have hmn : ∀ (ats : Array TypeId) (ty : TypeId), Builtin.min_ ats ty #[.int .i64 (l.length : Int), .int .i64 2] = (pure (.int .i64 (n : Int)) : Sem Value) := by
      intro ats ty
      have h1 : (if (2 : Int) < (l.length : Int) then (2 : Int) else (l.length : Int)) = (n : Int) := by split <;> omega
      simp only [min_two, min2_int, pure_bind, h1]
    obtain ⟨i05, hi05, _, _, _⟩ := info_parts info5
    obtain ⟨p, hp, hcutp, hCp, hpc⟩ := cutT (k := Kd.int .u8) Try.underlying23 hi05 HR.out hc (n : Int) n rfl (by omega)
    have hpre := pre_str l n hn HY.out
    rw [← hp] at hpre
    have HP := Aside0.mk hCp
    clear hp hCp hpc hi05
    rw [hpr] at hpre
    obtain ⟨ad, ea, _⟩ := Kd.at_int HR.out (0 : Int) (by omega) (by omega)
    cases ea
    obtain ⟨x2, hx2⟩ : ∃ x, x = rd l 2 := ⟨_, rfl⟩
    have HX2 : Aside0 (w.cell? (ad.add 2) = some (.int .u8 x2)) := ⟨by
      obtain ⟨ad2, e2, h2⟩ := Kd.at_int HR.out (2 : Int) (by omega) (by omega)
      cases e2
      rw [← hx2] at h2
      exact h2⟩
    have hc2 := pw_cell_below (w1 := w.drew) (below_drew (Below.refl _ _)) HX2.out
    have hd2 := hc2
    rw [add_pos0 ad 2 (by omega)] at hd2
    have dl2 : decide ((2 : Int) < (l.length : Int)) = true := by simp; omega
    have dm2 : decide (2 < l.length) = true := by simp; omega
    have HV : Aside0 (verB x2 = false) := ⟨by rw [hx2]; exact hv⟩
    clear hx2 hv
    have hn2 : (n : Int) ≤ 2 := by omega
    have hnl : (n : Int) ≤ (l.length : Int) := by omega
    clear hn
    go_enter Try.func46, Try.ntmps46
    go_wp2
    refine start_ (n := 8) (S := fun w' => Below w.heap.size w w') (ds := []) #[false, false, false, false, false, false, false, false] (by kernel_rfl) rfl rfl (below_drew (Below.refl _ _)) (fun hHeld => ?_)
    refine with_tabW head_tab2 head_bits2 (fun HT_ HW_ => ?_)
    refine pure_ (i := 0) (N := some 10) (v := ?_) (a' := ?_) #[true, false, false, false, false, false, false, false] rfl rfl (any_of HT_.out (by kernel_rfl)) (fun _ _ _ h => h) (Or.inl ⟨by rfl, ?_⟩) ?_ ?_
    rotate_left
    · intro w'
      go_simp
      with_reducible rfl
    rotate_left
    · simp only [Act.put, List.setIfInBounds_toArray, List.set_cons_zero, List.set_cons_succ, i64_w, i32_w]
      rfl
    refine pure_ (i := 1) (N := some 11) (v := ?_) (a' := ?_) #[true, true, false, false, false, false, false, false] rfl rfl (any_of HT_.out (by kernel_rfl)) (fun _ _ _ h => h) (Or.inl ⟨by rfl, ?_⟩) ?_ ?_
    rotate_left
    · intro w'
      go_simp
      with_reducible rfl
    rotate_left
    · simp only [Act.put, List.setIfInBounds_toArray, List.set_cons_zero, List.set_cons_succ, i64_w, i32_w]
      rfl
    refine pure_ (i := 2) (N := some 12) (v := ?_) (a' := ?_) #[true, true, true, false, false, false, false, false] rfl rfl (any_of HT_.out (by kernel_rfl)) (fun _ _ _ h => h) (Or.inl ⟨by rfl, ?_⟩) ?_ ?_
    rotate_left
    · intro w'
      go_simp
      with_reducible rfl
    rotate_left
    · simp only [Act.put, List.setIfInBounds_toArray, List.set_cons_zero, List.set_cons_succ, i64_w, i32_w]
      rfl
    refine take_ (i := 3) (N := some 13) (v := ?_) (a' := ?_) #[true, true, true, true, false, false, false, false] rfl rfl (take_ofW HT_.out HW_.out (by kernel_rfl)) (fun _ _ _ h => h) (Or.inl ⟨by rfl, ?_⟩) hHeld ?_ ?_
    rotate_left
    · intro w' s0
      have hcv := Kd.C_string (P := Try.prog) (c := c) Try.underlying23 Try.underlying5 Try.underlying9 (Kd.C_below HP.out s0)
      go_simp
      with_reducible rfl
    rotate_left
    · simp only [Act.put, List.setIfInBounds_toArray, List.set_cons_zero, List.set_cons_succ, i64_w, i32_w]
      rfl
    refine pure_ (i := 4) (N := some 14) (v := ?_) (a' := ?_) #[true, true, true, true, true, false, false, false] rfl rfl (any_of HT_.out (by kernel_rfl)) (fun _ _ _ h => h) (Or.inl ⟨by rfl, ?_⟩) ?_ ?_
    rotate_left
    · intro w'
      go_simp
      with_reducible rfl
    rotate_left
    · simp only [Act.put, List.setIfInBounds_toArray, List.set_cons_zero, List.set_cons_succ, i64_w, i32_w]
      rfl
    refine pure_ (i := 5) (N := some 15) (v := ?_) (a' := ?_) #[true, true, true, true, true, true, false, false] rfl rfl (any_of HT_.out (by kernel_rfl)) (fun _ _ _ h => h) (Or.inl ⟨by rfl, ?_⟩) ?_ ?_
    rotate_left
    · intro w'
      go_simp
      with_reducible rfl
    rotate_left
    · simp only [Act.put, List.setIfInBounds_toArray, List.set_cons_zero, List.set_cons_succ, i64_w, i32_w]
      rfl
    refine pure_ (i := 6) (N := some 16) (v := ?_) (a' := ?_) #[true, true, true, true, true, true, true, false] rfl rfl (any_of HT_.out (by kernel_rfl)) (fun _ _ _ h => h) (Or.inl ⟨by rfl, ?_⟩) ?_ ?_
    rotate_left
    · intro w'
      go_simp
      with_reducible rfl
    rotate_left
    · simp only [Act.put, List.setIfInBounds_toArray, List.set_cons_zero, List.set_cons_succ, i64_w, i32_w]
      rfl
    refine pure_ (i := 7) (N := some 9) (v := ?_) (a' := ?_) #[true, true, true, true, true, true, true, true] rfl rfl (any_of HT_.out (by kernel_rfl)) (fun _ _ _ h => h) (Or.inl ⟨by rfl, ?_⟩) ?_ ?_
    rotate_left
    · intro w'
      go_simp
      with_reducible rfl
    rotate_left
    · simp only [Act.put, List.setIfInBounds_toArray, List.set_cons_zero, List.set_cons_succ, i64_w, i32_w]
      rfl
    refine done_ (done_of HT_.out (by kernel_rfl)) ?_
    go_wp2_with ((go_at_call 48; refine (versioned_any x2 _).mono ?_; rw [HV.out]; rintro e w1 ⟨rfl, rfl⟩))
    go_ret2
    exact ⟨rfl, hHeld⟩

set_option maxHeartbeats 2000000 in
set_option maxRecDepth 100000 in
theorem head_D (A : Option Addr) (c : Nat) (l : List Int) (w : World) (hr : Kd.C (Kd.int .u8) w A l.length l) (hc : l.length ≤ c) (hb : Byt l) (hpr : preB l = true) (h2 : 2 < l.length) (h3 : l.length < 4) (hv : verB (rd l 2) = true) :
    Calls Try.prog 46 #[.slice A l.length c] w fun e w' => e = .returned (.tuple #[.int .i64 0, .int .i64 1]) ∧ Below w.heap.size w w' := by
    have HR := Aside0.mk hr
    have HY := Aside0.mk hb
    clear hr hb
    obtain ⟨n, hn⟩ : ∃ n : Nat, n = min l.length 2 := ⟨_, rfl⟩
    have hlen63 : l.length ≤ 9223372036854775807 := HR.out.2.1
    have hmn : ∀ (ats : Array TypeId) (ty : TypeId), Builtin.min_ ats ty #[.int .i64 (l.length : Int), .int .i64 2] = (pure (.int .i64 (n : Int)) : Sem Value) := by
      intro ats ty
      have h1 : (if (2 : Int) < (l.length : Int) then (2 : Int) else (l.length : Int)) = (n : Int) := by split <;> omega
      simp only [min_two, min2_int, pure_bind, h1]
    obtain ⟨i05, hi05, _, _, _⟩ := info_parts info5
    obtain ⟨p, hp, hcutp, hCp, hpc⟩ := cutT (k := Kd.int .u8) Try.underlying23 hi05 HR.out hc (n : Int) n rfl (by omega)
    have hpre := pre_str l n hn HY.out
    rw [← hp] at hpre
    have HP := Aside0.mk hCp
    clear hp hCp hpc hi05
    rw [hpr] at hpre
    obtain ⟨ad, ea, _⟩ := Kd.at_int HR.out (0 : Int) (by omega) (by omega)
    cases ea
    obtain ⟨x2, hx2⟩ : ∃ x, x = rd l 2 := ⟨_, rfl⟩
    have HX2 : Aside0 (w.cell? (ad.add 2) = some (.int .u8 x2)) := ⟨by
      obtain ⟨ad2, e2, h2⟩ := Kd.at_int HR.out (2 : Int) (by omega) (by omega)
      cases e2
      rw [← hx2] at h2
      exact h2⟩
    have hc2 := pw_cell_below (w1 := w.drew) (below_drew (Below.refl _ _)) HX2.out
    have hd2 := hc2
    rw [add_pos0 ad 2 (by omega)] at hd2
    have dl2 : decide ((2 : Int) < (l.length : Int)) = true := by simp; omega
    have dm2 : decide (2 < l.length) = true := by simp; omega
    have dl3 : decide ((3 : Int) < (l.length : Int)) = false := by simp; omega
    have dm3 : decide (3 < l.length) = false := by simp; omega
    have d6 : decide ((l.length : Int) < 6) = true := by simp; omega
    have d6b : decide (l.length < 6) = true := by simp; omega
    have HV : Aside0 (verB x2 = true) := ⟨by rw [hx2]; exact hv⟩
    clear hx2 hv
    have hn2 : (n : Int) ≤ 2 := by omega
    have hnl : (n : Int) ≤ (l.length : Int) := by omega
    clear hn
    go_enter Try.func46, Try.ntmps46
    go_wp2
    refine start_ (n := 8) (S := fun w' => Below w.heap.size w w') (ds := []) #[false, false, false, false, false, false, false, false] (by kernel_rfl) rfl rfl (below_drew (Below.refl _ _)) (fun hHeld => ?_)
    refine with_tabW head_tab2 head_bits2 (fun HT_ HW_ => ?_)
    refine pure_ (i := 0) (N := some 10) (v := ?_) (a' := ?_) #[true, false, false, false, false, false, false, false] rfl rfl (any_of HT_.out (by kernel_rfl)) (fun _ _ _ h => h) (Or.inl ⟨by rfl, ?_⟩) ?_ ?_
    rotate_left
    · intro w'
      go_simp
      with_reducible rfl
    rotate_left
    · simp only [Act.put, List.setIfInBounds_toArray, List.set_cons_zero, List.set_cons_succ, i64_w, i32_w]
      rfl
    refine pure_ (i := 1) (N := some 11) (v := ?_) (a' := ?_) #[true, true, false, false, false, false, false, false] rfl rfl (any_of HT_.out (by kernel_rfl)) (fun _ _ _ h => h) (Or.inl ⟨by rfl, ?_⟩) ?_ ?_
    rotate_left
    · intro w'
      go_simp
      with_reducible rfl
    rotate_left
    · simp only [Act.put, List.setIfInBounds_toArray, List.set_cons_zero, List.set_cons_succ, i64_w, i32_w]
      rfl
    refine pure_ (i := 2) (N := some 12) (v := ?_) (a' := ?_) #[true, true, true, false, false, false, false, false] rfl rfl (any_of HT_.out (by kernel_rfl)) (fun _ _ _ h => h) (Or.inl ⟨by rfl, ?_⟩) ?_ ?_
    rotate_left
    · intro w'
      go_simp
      with_reducible rfl
    rotate_left
    · simp only [Act.put, List.setIfInBounds_toArray, List.set_cons_zero, List.set_cons_succ, i64_w, i32_w]
      rfl
    refine take_ (i := 3) (N := some 13) (v := ?_) (a' := ?_) #[true, true, true, true, false, false, false, false] rfl rfl (take_ofW HT_.out HW_.out (by kernel_rfl)) (fun _ _ _ h => h) (Or.inl ⟨by rfl, ?_⟩) hHeld ?_ ?_
    rotate_left
    · intro w' s0
      have hcv := Kd.C_string (P := Try.prog) (c := c) Try.underlying23 Try.underlying5 Try.underlying9 (Kd.C_below HP.out s0)
      go_simp
      with_reducible rfl
    rotate_left
    · simp only [Act.put, List.setIfInBounds_toArray, List.set_cons_zero, List.set_cons_succ, i64_w, i32_w]
      rfl
    refine pure_ (i := 4) (N := some 14) (v := ?_) (a' := ?_) #[true, true, true, true, true, false, false, false] rfl rfl (any_of HT_.out (by kernel_rfl)) (fun _ _ _ h => h) (Or.inl ⟨by rfl, ?_⟩) ?_ ?_
    rotate_left
    · intro w'
      go_simp
      with_reducible rfl
    rotate_left
    · simp only [Act.put, List.setIfInBounds_toArray, List.set_cons_zero, List.set_cons_succ, i64_w, i32_w]
      rfl
    refine pure_ (i := 5) (N := some 15) (v := ?_) (a' := ?_) #[true, true, true, true, true, true, false, false] rfl rfl (any_of HT_.out (by kernel_rfl)) (fun _ _ _ h => h) (Or.inl ⟨by rfl, ?_⟩) ?_ ?_
    rotate_left
    · intro w'
      go_simp
      with_reducible rfl
    rotate_left
    · simp only [Act.put, List.setIfInBounds_toArray, List.set_cons_zero, List.set_cons_succ, i64_w, i32_w]
      rfl
    refine pure_ (i := 6) (N := some 16) (v := ?_) (a' := ?_) #[true, true, true, true, true, true, true, false] rfl rfl (any_of HT_.out (by kernel_rfl)) (fun _ _ _ h => h) (Or.inl ⟨by rfl, ?_⟩) ?_ ?_
    rotate_left
    · intro w'
      go_simp
      with_reducible rfl
    rotate_left
    · simp only [Act.put, List.setIfInBounds_toArray, List.set_cons_zero, List.set_cons_succ, i64_w, i32_w]
      rfl
    refine pure_ (i := 7) (N := some 9) (v := ?_) (a' := ?_) #[true, true, true, true, true, true, true, true] rfl rfl (any_of HT_.out (by kernel_rfl)) (fun _ _ _ h => h) (Or.inl ⟨by rfl, ?_⟩) ?_ ?_
    rotate_left
    · intro w'
      go_simp
      with_reducible rfl
    rotate_left
    · simp only [Act.put, List.setIfInBounds_toArray, List.set_cons_zero, List.set_cons_succ, i64_w, i32_w]
      rfl
    refine done_ (done_of HT_.out (by kernel_rfl)) ?_
    go_wp2_with ((go_at_call 48; refine (versioned_any x2 _).mono ?_; rw [HV.out]; rintro e w1 ⟨rfl, rfl⟩))
    go_ret2
    exact ⟨rfl, hHeld⟩

set_option maxHeartbeats 2000000 in
set_option maxRecDepth 100000 in
theorem head_E (A : Option Addr) (c : Nat) (l : List Int) (w : World) (hr : Kd.C (Kd.int .u8) w A l.length l) (hc : l.length ≤ c) (hb : Byt l) (hpr : preB l = true) (h2 : 3 < l.length) (hv : verB (rd l 2) = true) (hk : kinB (rd l 3) = false) :
    Calls Try.prog 46 #[.slice A l.length c] w fun e w' => e = .returned (.tuple #[.int .i64 0, .int .i64 7]) ∧ Below w.heap.size w w' := by
    have HR := Aside0.mk hr
    have HY := Aside0.mk hb
    clear hr hb
    obtain ⟨n, hn⟩ : ∃ n : Nat, n = min l.length 2 := ⟨_, rfl⟩
    have hlen63 : l.length ≤ 9223372036854775807 := HR.out.2.1
    have hmn : ∀ (ats : Array TypeId) (ty : TypeId), Builtin.min_ ats ty #[.int .i64 (l.length : Int), .int .i64 2] = (pure (.int .i64 (n : Int)) : Sem Value) := by
      intro ats ty
      have h1 : (if (2 : Int) < (l.length : Int) then (2 : Int) else (l.length : Int)) = (n : Int) := by split <;> omega
      simp only [min_two, min2_int, pure_bind, h1]
    obtain ⟨i05, hi05, _, _, _⟩ := info_parts info5
    obtain ⟨p, hp, hcutp, hCp, hpc⟩ := cutT (k := Kd.int .u8) Try.underlying23 hi05 HR.out hc (n : Int) n rfl (by omega)
    have hpre := pre_str l n hn HY.out
    rw [← hp] at hpre
    have HP := Aside0.mk hCp
    clear hp hCp hpc hi05
    rw [hpr] at hpre
    obtain ⟨ad, ea, _⟩ := Kd.at_int HR.out (0 : Int) (by omega) (by omega)
    cases ea
    obtain ⟨x2, hx2⟩ : ∃ x, x = rd l 2 := ⟨_, rfl⟩
    obtain ⟨x3, hx3⟩ : ∃ x, x = rd l 3 := ⟨_, rfl⟩
    have HX2 : Aside0 (w.cell? (ad.add 2) = some (.int .u8 x2)) := ⟨by
      obtain ⟨ad2, e2, h2⟩ := Kd.at_int HR.out (2 : Int) (by omega) (by omega)
      cases e2
      rw [← hx2] at h2
      exact h2⟩
    have HX3 : Aside0 (w.cell? (ad.add 3) = some (.int .u8 x3)) := ⟨by
      obtain ⟨ad2, e2, h2⟩ := Kd.at_int HR.out (3 : Int) (by omega) (by omega)
      cases e2
      rw [← hx3] at h2
      exact h2⟩
    have hc2 := pw_cell_below (w1 := w.drew) (below_drew (Below.refl _ _)) HX2.out
    have hd2 := hc2
    rw [add_pos0 ad 2 (by omega)] at hd2
    have hc3 := pw_cell_below (w1 := w.drew) (below_drew (Below.refl _ _)) HX3.out
    have hd3 := hc3
    rw [add_pos0 ad 3 (by omega)] at hd3
    have dl2 : decide ((2 : Int) < (l.length : Int)) = true := by simp; omega
    have dm2 : decide (2 < l.length) = true := by simp; omega
    have dl3 : decide ((3 : Int) < (l.length : Int)) = true := by simp; omega
    have dm3 : decide (3 < l.length) = true := by simp; omega
    have HV : Aside0 (verB x2 = true) := ⟨by rw [hx2]; exact hv⟩
    have HK : Aside0 (kinB x3 = false) := ⟨by rw [hx3]; exact hk⟩
    clear hx2 hv hx3 hk
    have hn2 : (n : Int) ≤ 2 := by omega
    have hnl : (n : Int) ≤ (l.length : Int) := by omega
    clear hn
    go_enter Try.func46, Try.ntmps46
    go_wp2
    refine start_ (n := 8) (S := fun w' => Below w.heap.size w w') (ds := []) #[false, false, false, false, false, false, false, false] (by kernel_rfl) rfl rfl (below_drew (Below.refl _ _)) (fun hHeld => ?_)
    refine with_tabW head_tab2 head_bits2 (fun HT_ HW_ => ?_)
    refine pure_ (i := 0) (N := some 10) (v := ?_) (a' := ?_) #[true, false, false, false, false, false, false, false] rfl rfl (any_of HT_.out (by kernel_rfl)) (fun _ _ _ h => h) (Or.inl ⟨by rfl, ?_⟩) ?_ ?_
    rotate_left
    · intro w'
      go_simp
      with_reducible rfl
    rotate_left
    · simp only [Act.put, List.setIfInBounds_toArray, List.set_cons_zero, List.set_cons_succ, i64_w, i32_w]
      rfl
    refine pure_ (i := 1) (N := some 11) (v := ?_) (a' := ?_) #[true, true, false, false, false, false, false, false] rfl rfl (any_of HT_.out (by kernel_rfl)) (fun _ _ _ h => h) (Or.inl ⟨by rfl, ?_⟩) ?_ ?_
    rotate_left
    · intro w'
      go_simp
      with_reducible rfl
    rotate_left
    · simp only [Act.put, List.setIfInBounds_toArray, List.set_cons_zero, List.set_cons_succ, i64_w, i32_w]
      rfl
    refine pure_ (i := 2) (N := some 12) (v := ?_) (a' := ?_) #[true, true, true, false, false, false, false, false] rfl rfl (any_of HT_.out (by kernel_rfl)) (fun _ _ _ h => h) (Or.inl ⟨by rfl, ?_⟩) ?_ ?_
    rotate_left
    · intro w'
      go_simp
      with_reducible rfl
    rotate_left
    · simp only [Act.put, List.setIfInBounds_toArray, List.set_cons_zero, List.set_cons_succ, i64_w, i32_w]
      rfl
    refine take_ (i := 3) (N := some 13) (v := ?_) (a' := ?_) #[true, true, true, true, false, false, false, false] rfl rfl (take_ofW HT_.out HW_.out (by kernel_rfl)) (fun _ _ _ h => h) (Or.inl ⟨by rfl, ?_⟩) hHeld ?_ ?_
    rotate_left
    · intro w' s0
      have hcv := Kd.C_string (P := Try.prog) (c := c) Try.underlying23 Try.underlying5 Try.underlying9 (Kd.C_below HP.out s0)
      go_simp
      with_reducible rfl
    rotate_left
    · simp only [Act.put, List.setIfInBounds_toArray, List.set_cons_zero, List.set_cons_succ, i64_w, i32_w]
      rfl
    refine pure_ (i := 4) (N := some 14) (v := ?_) (a' := ?_) #[true, true, true, true, true, false, false, false] rfl rfl (any_of HT_.out (by kernel_rfl)) (fun _ _ _ h => h) (Or.inl ⟨by rfl, ?_⟩) ?_ ?_
    rotate_left
    · intro w'
      go_simp
      with_reducible rfl
    rotate_left
    · simp only [Act.put, List.setIfInBounds_toArray, List.set_cons_zero, List.set_cons_succ, i64_w, i32_w]
      rfl
    refine pure_ (i := 5) (N := some 15) (v := ?_) (a' := ?_) #[true, true, true, true, true, true, false, false] rfl rfl (any_of HT_.out (by kernel_rfl)) (fun _ _ _ h => h) (Or.inl ⟨by rfl, ?_⟩) ?_ ?_
    rotate_left
    · intro w'
      go_simp
      with_reducible rfl
    rotate_left
    · simp only [Act.put, List.setIfInBounds_toArray, List.set_cons_zero, List.set_cons_succ, i64_w, i32_w]
      rfl
    refine pure_ (i := 6) (N := some 16) (v := ?_) (a' := ?_) #[true, true, true, true, true, true, true, false] rfl rfl (any_of HT_.out (by kernel_rfl)) (fun _ _ _ h => h) (Or.inl ⟨by rfl, ?_⟩) ?_ ?_
    rotate_left
    · intro w'
      go_simp
      with_reducible rfl
    rotate_left
    · simp only [Act.put, List.setIfInBounds_toArray, List.set_cons_zero, List.set_cons_succ, i64_w, i32_w]
      rfl
    refine pure_ (i := 7) (N := some 9) (v := ?_) (a' := ?_) #[true, true, true, true, true, true, true, true] rfl rfl (any_of HT_.out (by kernel_rfl)) (fun _ _ _ h => h) (Or.inl ⟨by rfl, ?_⟩) ?_ ?_
    rotate_left
    · intro w'
      go_simp
      with_reducible rfl
    rotate_left
    · simp only [Act.put, List.setIfInBounds_toArray, List.set_cons_zero, List.set_cons_succ, i64_w, i32_w]
      rfl
    refine done_ (done_of HT_.out (by kernel_rfl)) ?_
    go_wp2_with (first | (go_at_call 48; refine (versioned_any x2 _).mono ?_; rw [HV.out]; rintro e w1 ⟨rfl, rfl⟩) | (go_at_call 49; refine (kinded_any x3 _).mono ?_; rw [HK.out]; rintro e w1 ⟨rfl, rfl⟩))
    go_ret2
    exact ⟨rfl, hHeld⟩

set_option maxHeartbeats 2000000 in
set_option maxRecDepth 100000 in
theorem head_F (A : Option Addr) (c : Nat) (l : List Int) (w : World) (hr : Kd.C (Kd.int .u8) w A l.length l) (hc : l.length ≤ c) (hb : Byt l) (hpr : preB l = true) (h2 : 3 < l.length) (h6 : l.length < 6) (hv : verB (rd l 2) = true) (hk : kinB (rd l 3) = true) :
    Calls Try.prog 46 #[.slice A l.length c] w fun e w' => e = .returned (.tuple #[.int .i64 0, .int .i64 1]) ∧ Below w.heap.size w w' := by
    have HR := Aside0.mk hr
    have HY := Aside0.mk hb
    clear hr hb
    obtain ⟨n, hn⟩ : ∃ n : Nat, n = min l.length 2 := ⟨_, rfl⟩
    have hlen63 : l.length ≤ 9223372036854775807 := HR.out.2.1
    have hmn : ∀ (ats : Array TypeId) (ty : TypeId), Builtin.min_ ats ty #[.int .i64 (l.length : Int), .int .i64 2] = (pure (.int .i64 (n : Int)) : Sem Value) := by
      intro ats ty
      have h1 : (if (2 : Int) < (l.length : Int) then (2 : Int) else (l.length : Int)) = (n : Int) := by split <;> omega
      simp only [min_two, min2_int, pure_bind, h1]
    obtain ⟨i05, hi05, _, _, _⟩ := info_parts info5
    obtain ⟨p, hp, hcutp, hCp, hpc⟩ := cutT (k := Kd.int .u8) Try.underlying23 hi05 HR.out hc (n : Int) n rfl (by omega)
    have hpre := pre_str l n hn HY.out
    rw [← hp] at hpre
    have HP := Aside0.mk hCp
    clear hp hCp hpc hi05
    rw [hpr] at hpre
    obtain ⟨ad, ea, _⟩ := Kd.at_int HR.out (0 : Int) (by omega) (by omega)
    cases ea
    obtain ⟨x2, hx2⟩ : ∃ x, x = rd l 2 := ⟨_, rfl⟩
    obtain ⟨x3, hx3⟩ : ∃ x, x = rd l 3 := ⟨_, rfl⟩
    have HX2 : Aside0 (w.cell? (ad.add 2) = some (.int .u8 x2)) := ⟨by
      obtain ⟨ad2, e2, h2⟩ := Kd.at_int HR.out (2 : Int) (by omega) (by omega)
      cases e2
      rw [← hx2] at h2
      exact h2⟩
    have HX3 : Aside0 (w.cell? (ad.add 3) = some (.int .u8 x3)) := ⟨by
      obtain ⟨ad2, e2, h2⟩ := Kd.at_int HR.out (3 : Int) (by omega) (by omega)
      cases e2
      rw [← hx3] at h2
      exact h2⟩
    have hc2 := pw_cell_below (w1 := w.drew) (below_drew (Below.refl _ _)) HX2.out
    have hd2 := hc2
    rw [add_pos0 ad 2 (by omega)] at hd2
    have hc3 := pw_cell_below (w1 := w.drew) (below_drew (Below.refl _ _)) HX3.out
    have hd3 := hc3
    rw [add_pos0 ad 3 (by omega)] at hd3
    have dl2 : decide ((2 : Int) < (l.length : Int)) = true := by simp; omega
    have dm2 : decide (2 < l.length) = true := by simp; omega
    have dl3 : decide ((3 : Int) < (l.length : Int)) = true := by simp; omega
    have dm3 : decide (3 < l.length) = true := by simp; omega
    have d6 : decide ((l.length : Int) < 6) = true := by simp; omega
    have d6b : decide (l.length < 6) = true := by simp; omega
    have HV : Aside0 (verB x2 = true) := ⟨by rw [hx2]; exact hv⟩
    have HK : Aside0 (kinB x3 = true) := ⟨by rw [hx3]; exact hk⟩
    clear hx2 hv hx3 hk
    have hn2 : (n : Int) ≤ 2 := by omega
    have hnl : (n : Int) ≤ (l.length : Int) := by omega
    clear hn
    go_enter Try.func46, Try.ntmps46
    go_wp2
    refine start_ (n := 8) (S := fun w' => Below w.heap.size w w') (ds := []) #[false, false, false, false, false, false, false, false] (by kernel_rfl) rfl rfl (below_drew (Below.refl _ _)) (fun hHeld => ?_)
    refine with_tabW head_tab2 head_bits2 (fun HT_ HW_ => ?_)
    refine pure_ (i := 0) (N := some 10) (v := ?_) (a' := ?_) #[true, false, false, false, false, false, false, false] rfl rfl (any_of HT_.out (by kernel_rfl)) (fun _ _ _ h => h) (Or.inl ⟨by rfl, ?_⟩) ?_ ?_
    rotate_left
    · intro w'
      go_simp
      with_reducible rfl
    rotate_left
    · simp only [Act.put, List.setIfInBounds_toArray, List.set_cons_zero, List.set_cons_succ, i64_w, i32_w]
      rfl
    refine pure_ (i := 1) (N := some 11) (v := ?_) (a' := ?_) #[true, true, false, false, false, false, false, false] rfl rfl (any_of HT_.out (by kernel_rfl)) (fun _ _ _ h => h) (Or.inl ⟨by rfl, ?_⟩) ?_ ?_
    rotate_left
    · intro w'
      go_simp
      with_reducible rfl
    rotate_left
    · simp only [Act.put, List.setIfInBounds_toArray, List.set_cons_zero, List.set_cons_succ, i64_w, i32_w]
      rfl
    refine pure_ (i := 2) (N := some 12) (v := ?_) (a' := ?_) #[true, true, true, false, false, false, false, false] rfl rfl (any_of HT_.out (by kernel_rfl)) (fun _ _ _ h => h) (Or.inl ⟨by rfl, ?_⟩) ?_ ?_
    rotate_left
    · intro w'
      go_simp
      with_reducible rfl
    rotate_left
    · simp only [Act.put, List.setIfInBounds_toArray, List.set_cons_zero, List.set_cons_succ, i64_w, i32_w]
      rfl
    refine take_ (i := 3) (N := some 13) (v := ?_) (a' := ?_) #[true, true, true, true, false, false, false, false] rfl rfl (take_ofW HT_.out HW_.out (by kernel_rfl)) (fun _ _ _ h => h) (Or.inl ⟨by rfl, ?_⟩) hHeld ?_ ?_
    rotate_left
    · intro w' s0
      have hcv := Kd.C_string (P := Try.prog) (c := c) Try.underlying23 Try.underlying5 Try.underlying9 (Kd.C_below HP.out s0)
      go_simp
      with_reducible rfl
    rotate_left
    · simp only [Act.put, List.setIfInBounds_toArray, List.set_cons_zero, List.set_cons_succ, i64_w, i32_w]
      rfl
    refine pure_ (i := 4) (N := some 14) (v := ?_) (a' := ?_) #[true, true, true, true, true, false, false, false] rfl rfl (any_of HT_.out (by kernel_rfl)) (fun _ _ _ h => h) (Or.inl ⟨by rfl, ?_⟩) ?_ ?_
    rotate_left
    · intro w'
      go_simp
      with_reducible rfl
    rotate_left
    · simp only [Act.put, List.setIfInBounds_toArray, List.set_cons_zero, List.set_cons_succ, i64_w, i32_w]
      rfl
    refine pure_ (i := 5) (N := some 15) (v := ?_) (a' := ?_) #[true, true, true, true, true, true, false, false] rfl rfl (any_of HT_.out (by kernel_rfl)) (fun _ _ _ h => h) (Or.inl ⟨by rfl, ?_⟩) ?_ ?_
    rotate_left
    · intro w'
      go_simp
      with_reducible rfl
    rotate_left
    · simp only [Act.put, List.setIfInBounds_toArray, List.set_cons_zero, List.set_cons_succ, i64_w, i32_w]
      rfl
    refine pure_ (i := 6) (N := some 16) (v := ?_) (a' := ?_) #[true, true, true, true, true, true, true, false] rfl rfl (any_of HT_.out (by kernel_rfl)) (fun _ _ _ h => h) (Or.inl ⟨by rfl, ?_⟩) ?_ ?_
    rotate_left
    · intro w'
      go_simp
      with_reducible rfl
    rotate_left
    · simp only [Act.put, List.setIfInBounds_toArray, List.set_cons_zero, List.set_cons_succ, i64_w, i32_w]
      rfl
    refine pure_ (i := 7) (N := some 9) (v := ?_) (a' := ?_) #[true, true, true, true, true, true, true, true] rfl rfl (any_of HT_.out (by kernel_rfl)) (fun _ _ _ h => h) (Or.inl ⟨by rfl, ?_⟩) ?_ ?_
    rotate_left
    · intro w'
      go_simp
      with_reducible rfl
    rotate_left
    · simp only [Act.put, List.setIfInBounds_toArray, List.set_cons_zero, List.set_cons_succ, i64_w, i32_w]
      rfl
    refine done_ (done_of HT_.out (by kernel_rfl)) ?_
    go_wp2_with (first | (go_at_call 48; refine (versioned_any x2 _).mono ?_; rw [HV.out]; rintro e w1 ⟨rfl, rfl⟩) | (go_at_call 49; refine (kinded_any x3 _).mono ?_; rw [HK.out]; rintro e w1 ⟨rfl, rfl⟩))
    go_ret2
    exact ⟨rfl, hHeld⟩

set_option maxHeartbeats 2000000 in
set_option maxRecDepth 100000 in
theorem head_G (A : Option Addr) (c : Nat) (l : List Int) (w : World) (hr : Kd.C (Kd.int .u8) w A l.length l) (hc : l.length ≤ c) (hb : Byt l) (hpr : preB l = true) (h6 : 6 ≤ l.length) (hv : verB (rd l 2) = true) (hk : kinB (rd l 3) = true) (hmm : 4096 < rd l 4 + 256 * rd l 5) :
    Calls Try.prog 46 #[.slice A l.length c] w fun e w' => e = .returned (.tuple #[.int .i64 0, .int .i64 2]) ∧ Below w.heap.size w w' := by
    have HR := Aside0.mk hr
    have HY := Aside0.mk hb
    clear hr hb
    obtain ⟨n, hn⟩ : ∃ n : Nat, n = min l.length 2 := ⟨_, rfl⟩
    have hlen63 : l.length ≤ 9223372036854775807 := HR.out.2.1
    have hmn : ∀ (ats : Array TypeId) (ty : TypeId), Builtin.min_ ats ty #[.int .i64 (l.length : Int), .int .i64 2] = (pure (.int .i64 (n : Int)) : Sem Value) := by
      intro ats ty
      have h1 : (if (2 : Int) < (l.length : Int) then (2 : Int) else (l.length : Int)) = (n : Int) := by split <;> omega
      simp only [min_two, min2_int, pure_bind, h1]
    obtain ⟨i05, hi05, _, _, _⟩ := info_parts info5
    obtain ⟨p, hp, hcutp, hCp, hpc⟩ := cutT (k := Kd.int .u8) Try.underlying23 hi05 HR.out hc (n : Int) n rfl (by omega)
    have hpre := pre_str l n hn HY.out
    rw [← hp] at hpre
    have HP := Aside0.mk hCp
    clear hp hCp hpc hi05
    rw [hpr] at hpre
    obtain ⟨ad, ea, _⟩ := Kd.at_int HR.out (0 : Int) (by omega) (by omega)
    cases ea
    obtain ⟨x2, hx2⟩ : ∃ x, x = rd l 2 := ⟨_, rfl⟩
    obtain ⟨x3, hx3⟩ : ∃ x, x = rd l 3 := ⟨_, rfl⟩
    obtain ⟨x4, hx4⟩ : ∃ x, x = rd l 4 := ⟨_, rfl⟩
    obtain ⟨x5, hx5⟩ : ∃ x, x = rd l 5 := ⟨_, rfl⟩
    have HX2 : Aside0 (w.cell? (ad.add 2) = some (.int .u8 x2)) := ⟨by
      obtain ⟨ad2, e2, h2⟩ := Kd.at_int HR.out (2 : Int) (by omega) (by omega)
      cases e2
      rw [← hx2] at h2
      exact h2⟩
    have HX3 : Aside0 (w.cell? (ad.add 3) = some (.int .u8 x3)) := ⟨by
      obtain ⟨ad2, e2, h2⟩ := Kd.at_int HR.out (3 : Int) (by omega) (by omega)
      cases e2
      rw [← hx3] at h2
      exact h2⟩
    have HX4 : Aside0 (w.cell? (ad.add 4) = some (.int .u8 x4)) := ⟨by
      obtain ⟨ad2, e2, h2⟩ := Kd.at_int HR.out (4 : Int) (by omega) (by omega)
      cases e2
      rw [← hx4] at h2
      exact h2⟩
    have HX5 : Aside0 (w.cell? (ad.add 5) = some (.int .u8 x5)) := ⟨by
      obtain ⟨ad2, e2, h2⟩ := Kd.at_int HR.out (5 : Int) (by omega) (by omega)
      cases e2
      rw [← hx5] at h2
      exact h2⟩
    have hc2 := pw_cell_below (w1 := w.drew) (below_drew (Below.refl _ _)) HX2.out
    have hd2 := hc2
    rw [add_pos0 ad 2 (by omega)] at hd2
    have hc3 := pw_cell_below (w1 := w.drew) (below_drew (Below.refl _ _)) HX3.out
    have hd3 := hc3
    rw [add_pos0 ad 3 (by omega)] at hd3
    have hc4 := pw_cell_below (w1 := w.drew) (below_drew (Below.refl _ _)) HX4.out
    have hd4 := hc4
    rw [add_pos0 ad 4 (by omega)] at hd4
    have hc5 := pw_cell_below (w1 := w.drew) (below_drew (Below.refl _ _)) HX5.out
    have hd5 := hc5
    rw [add_pos0 ad 5 (by omega)] at hd5
    have dl2 : decide ((2 : Int) < (l.length : Int)) = true := by simp; omega
    have dm2 : decide (2 < l.length) = true := by simp; omega
    have dl3 : decide ((3 : Int) < (l.length : Int)) = true := by simp; omega
    have dm3 : decide (3 < l.length) = true := by simp; omega
    have dl4 : decide ((4 : Int) < (l.length : Int)) = true := by simp; omega
    have dm4 : decide (4 < l.length) = true := by simp; omega
    have dl5 : decide ((5 : Int) < (l.length : Int)) = true := by simp; omega
    have dm5 : decide (5 < l.length) = true := by simp; omega
    have d6 : decide ((l.length : Int) < 6) = false := by simp; omega
    have d6b : decide (l.length < 6) = false := by simp; omega
    have HV : Aside0 (verB x2 = true) := ⟨by rw [hx2]; exact hv⟩
    have HK : Aside0 (kinB x3 = true) := ⟨by rw [hx3]; exact hk⟩
    have hb4 : 0 ≤ x4 ∧ x4 < 256 := by rw [hx4]; exact byt_rng HY.out 4 (by omega)
    have hb5 : 0 ≤ x5 ∧ x5 < 256 := by rw [hx5]; exact byt_rng HY.out 5 (by omega)
    obtain ⟨m, hm⟩ : ∃ m : Int, m = x4 + 256 * x5 := ⟨_, rfl⟩
    have u4 : wrap64 x4 = x4 := by unfold wrap64; omega
    have u5 : wrap64 x5 = x5 := by unfold wrap64; omega
    have u6 : wrap64 (x5 * 256) = x5 * 256 := by unfold wrap64; omega
    have hor : Go.bits .or .i64 x4 (x5 * 256) = m := by rw [or_i64 x4 x5 hb4.1 hb4.2 hb5.1 hb5.2, hm]
    have HM : Aside0 (m = rd l 4 + 256 * rd l 5) := ⟨by rw [hm, hx4, hx5]⟩
    have dmm : decide (4096 < m) = true := by rw [hm, hx4, hx5]; simp; omega
    have hl5 : (5 : Int) < (l.length : Int) := by omega
    have hl4 : (4 : Int) < (l.length : Int) := by omega
    clear hx2 hv hx3 hk hx4 hx5 hm hmm
    have hn2 : (n : Int) ≤ 2 := by omega
    have hnl : (n : Int) ≤ (l.length : Int) := by omega
    clear hn
    go_enter Try.func46, Try.ntmps46
    go_wp2
    refine start_ (n := 8) (S := fun w' => Below w.heap.size w w') (ds := []) #[false, false, false, false, false, false, false, false] (by kernel_rfl) rfl rfl (below_drew (Below.refl _ _)) (fun hHeld => ?_)
    refine with_tabW head_tab2 head_bits2 (fun HT_ HW_ => ?_)
    refine pure_ (i := 0) (N := some 10) (v := ?_) (a' := ?_) #[true, false, false, false, false, false, false, false] rfl rfl (any_of HT_.out (by kernel_rfl)) (fun _ _ _ h => h) (Or.inl ⟨by rfl, ?_⟩) ?_ ?_
    rotate_left
    · intro w'
      go_simp
      with_reducible rfl
    rotate_left
    · simp only [Act.put, List.setIfInBounds_toArray, List.set_cons_zero, List.set_cons_succ, i64_w, i32_w]
      rfl
    refine pure_ (i := 1) (N := some 11) (v := ?_) (a' := ?_) #[true, true, false, false, false, false, false, false] rfl rfl (any_of HT_.out (by kernel_rfl)) (fun _ _ _ h => h) (Or.inl ⟨by rfl, ?_⟩) ?_ ?_
    rotate_left
    · intro w'
      go_simp
      with_reducible rfl
    rotate_left
    · simp only [Act.put, List.setIfInBounds_toArray, List.set_cons_zero, List.set_cons_succ, i64_w, i32_w]
      rfl
    refine pure_ (i := 2) (N := some 12) (v := ?_) (a' := ?_) #[true, true, true, false, false, false, false, false] rfl rfl (any_of HT_.out (by kernel_rfl)) (fun _ _ _ h => h) (Or.inl ⟨by rfl, ?_⟩) ?_ ?_
    rotate_left
    · intro w'
      go_simp
      with_reducible rfl
    rotate_left
    · simp only [Act.put, List.setIfInBounds_toArray, List.set_cons_zero, List.set_cons_succ, i64_w, i32_w]
      rfl
    refine take_ (i := 3) (N := some 13) (v := ?_) (a' := ?_) #[true, true, true, true, false, false, false, false] rfl rfl (take_ofW HT_.out HW_.out (by kernel_rfl)) (fun _ _ _ h => h) (Or.inl ⟨by rfl, ?_⟩) hHeld ?_ ?_
    rotate_left
    · intro w' s0
      have hcv := Kd.C_string (P := Try.prog) (c := c) Try.underlying23 Try.underlying5 Try.underlying9 (Kd.C_below HP.out s0)
      go_simp
      with_reducible rfl
    rotate_left
    · simp only [Act.put, List.setIfInBounds_toArray, List.set_cons_zero, List.set_cons_succ, i64_w, i32_w]
      rfl
    refine pure_ (i := 4) (N := some 14) (v := ?_) (a' := ?_) #[true, true, true, true, true, false, false, false] rfl rfl (any_of HT_.out (by kernel_rfl)) (fun _ _ _ h => h) (Or.inl ⟨by rfl, ?_⟩) ?_ ?_
    rotate_left
    · intro w'
      go_simp
      with_reducible rfl
    rotate_left
    · simp only [Act.put, List.setIfInBounds_toArray, List.set_cons_zero, List.set_cons_succ, i64_w, i32_w]
      rfl
    refine pure_ (i := 5) (N := some 15) (v := ?_) (a' := ?_) #[true, true, true, true, true, true, false, false] rfl rfl (any_of HT_.out (by kernel_rfl)) (fun _ _ _ h => h) (Or.inl ⟨by rfl, ?_⟩) ?_ ?_
    rotate_left
    · intro w'
      go_simp
      with_reducible rfl
    rotate_left
    · simp only [Act.put, List.setIfInBounds_toArray, List.set_cons_zero, List.set_cons_succ, i64_w, i32_w]
      rfl
    refine pure_ (i := 6) (N := some 16) (v := ?_) (a' := ?_) #[true, true, true, true, true, true, true, false] rfl rfl (any_of HT_.out (by kernel_rfl)) (fun _ _ _ h => h) (Or.inl ⟨by rfl, ?_⟩) ?_ ?_
    rotate_left
    · intro w'
      go_simp
      with_reducible rfl
    rotate_left
    · simp only [Act.put, List.setIfInBounds_toArray, List.set_cons_zero, List.set_cons_succ, i64_w, i32_w]
      rfl
    refine pure_ (i := 7) (N := some 9) (v := ?_) (a' := ?_) #[true, true, true, true, true, true, true, true] rfl rfl (any_of HT_.out (by kernel_rfl)) (fun _ _ _ h => h) (Or.inl ⟨by rfl, ?_⟩) ?_ ?_
    rotate_left
    · intro w'
      go_simp
      with_reducible rfl
    rotate_left
    · simp only [Act.put, List.setIfInBounds_toArray, List.set_cons_zero, List.set_cons_succ, i64_w, i32_w]
      rfl
    refine done_ (done_of HT_.out (by kernel_rfl)) ?_
    go_wp2_with (first | (go_at_call 48; refine (versioned_any x2 _).mono ?_; rw [HV.out]; rintro e w1 ⟨rfl, rfl⟩) | (go_at_call 49; refine (kinded_any x3 _).mono ?_; rw [HK.out]; rintro e w1 ⟨rfl, rfl⟩))
    refine start_ (n := 11) (S := fun w' => Below w.heap.size w w') (ds := []) #[false, false, false, false, false, false, false, false, false, false, false] (by kernel_rfl) rfl rfl (below_drew (below_drew (Below.refl _ _))) (fun hHeld => ?_)
    refine with_tabW head_tab10 head_bits10 (fun HT_ HW_ => ?_)
    refine pure_ (i := 0) (N := some 43) (v := ?_) (a' := ?_) #[true, false, false, false, false, false, false, false, false, false, false] rfl rfl (any_of HT_.out (by kernel_rfl)) (fun _ _ _ h => h) (Or.inl ⟨by rfl, ?_⟩) ?_ ?_
    rotate_left
    · intro w'
      go_simp
      with_reducible rfl
    rotate_left
    · simp only [Act.put, List.setIfInBounds_toArray, List.set_cons_zero, List.set_cons_succ, i64_w, i32_w]
      rfl
    refine pure_ (i := 1) (N := some 44) (v := ?_) (a' := ?_) #[true, true, false, false, false, false, false, false, false, false, false] rfl rfl (any_of HT_.out (by kernel_rfl)) (fun _ _ _ h => h) (Or.inl ⟨by rfl, ?_⟩) ?_ ?_
    rotate_left
    · intro w'
      go_simp
      with_reducible rfl
    rotate_left
    · simp only [Act.put, List.setIfInBounds_toArray, List.set_cons_zero, List.set_cons_succ, i64_w, i32_w]
      rfl
    refine take_ (i := 2) (N := some 45) (v := ?_) (a' := ?_) #[true, true, true, false, false, false, false, false, false, false, false] rfl rfl (take_ofW HT_.out HW_.out (by kernel_rfl)) (fun _ _ _ h => h) (Or.inl ⟨by rfl, ?_⟩) hHeld ?_ ?_
    rotate_left
    · intro w' s0
      have hcell := pw_cell_below s0 HX4.out
      have hcell2 := hcell
      rw [add_pos0 ad 4 (by omega)] at hcell2
      go_simp
      with_reducible rfl
    rotate_left
    · simp only [Act.put, List.setIfInBounds_toArray, List.set_cons_zero, List.set_cons_succ, i64_w, i32_w]
      rfl
    refine pure_ (i := 3) (N := some 46) (v := ?_) (a' := ?_) #[true, true, true, true, false, false, false, false, false, false, false] rfl rfl (any_of HT_.out (by kernel_rfl)) (fun _ _ _ h => h) (Or.inl ⟨by rfl, ?_⟩) ?_ ?_
    rotate_left
    · intro w'
      go_simp
      with_reducible rfl
    rotate_left
    · simp only [Act.put, List.setIfInBounds_toArray, List.set_cons_zero, List.set_cons_succ, i64_w, i32_w]
      rfl
    refine pure_ (i := 4) (N := some 47) (v := ?_) (a' := ?_) #[true, true, true, true, true, false, false, false, false, false, false] rfl rfl (any_of HT_.out (by kernel_rfl)) (fun _ _ _ h => h) (Or.inl ⟨by rfl, ?_⟩) ?_ ?_
    rotate_left
    · intro w'
      go_simp
      with_reducible rfl
    rotate_left
    · simp only [Act.put, List.setIfInBounds_toArray, List.set_cons_zero, List.set_cons_succ, i64_w, i32_w]
      rfl
    refine pure_ (i := 5) (N := some 48) (v := ?_) (a' := ?_) #[true, true, true, true, true, true, false, false, false, false, false] rfl rfl (any_of HT_.out (by kernel_rfl)) (fun _ _ _ h => h) (Or.inl ⟨by rfl, ?_⟩) ?_ ?_
    rotate_left
    · intro w'
      go_simp
      with_reducible rfl
    rotate_left
    · simp only [Act.put, List.setIfInBounds_toArray, List.set_cons_zero, List.set_cons_succ, i64_w, i32_w]
      rfl
    refine take_ (i := 6) (N := some 49) (v := ?_) (a' := ?_) #[true, true, true, true, true, true, true, false, false, false, false] rfl rfl (take_ofW HT_.out HW_.out (by kernel_rfl)) (fun _ _ _ h => h) (Or.inl ⟨by rfl, ?_⟩) hHeld ?_ ?_
    rotate_left
    · intro w' s0
      have hcell := pw_cell_below s0 HX5.out
      have hcell2 := hcell
      rw [add_pos0 ad 5 (by omega)] at hcell2
      go_simp
      with_reducible rfl
    rotate_left
    · simp only [Act.put, List.setIfInBounds_toArray, List.set_cons_zero, List.set_cons_succ, i64_w, i32_w]
      rfl
    refine pure_ (i := 7) (N := some 50) (v := ?_) (a' := ?_) #[true, true, true, true, true, true, true, true, false, false, false] rfl rfl (any_of HT_.out (by kernel_rfl)) (fun _ _ _ h => h) (Or.inl ⟨by rfl, ?_⟩) ?_ ?_
    rotate_left
    · intro w'
      go_simp
      with_reducible rfl
    rotate_left
    · simp only [Act.put, List.setIfInBounds_toArray, List.set_cons_zero, List.set_cons_succ, i64_w, i32_w]
      rfl
    refine pure_ (i := 8) (N := some 51) (v := ?_) (a' := ?_) #[true, true, true, true, true, true, true, true, true, false, false] rfl rfl (any_of HT_.out (by kernel_rfl)) (fun _ _ _ h => h) (Or.inl ⟨by rfl, ?_⟩) ?_ ?_
    rotate_left
    · intro w'
      go_simp
      with_reducible rfl
    rotate_left
    · simp only [Act.put, List.setIfInBounds_toArray, List.set_cons_zero, List.set_cons_succ, i64_w, i32_w]
      rfl
    refine pure_ (i := 9) (N := some 52) (v := ?_) (a' := ?_) #[true, true, true, true, true, true, true, true, true, true, false] rfl rfl (any_of HT_.out (by kernel_rfl)) (fun _ _ _ h => h) (Or.inl ⟨by rfl, ?_⟩) ?_ ?_
    rotate_left
    · intro w'
      go_simp
      with_reducible rfl
    rotate_left
    · simp only [Act.put, List.setIfInBounds_toArray, List.set_cons_zero, List.set_cons_succ, i64_w, i32_w]
      rfl
    refine pure_ (i := 10) (N := some 5) (v := ?_) (a' := ?_) #[true, true, true, true, true, true, true, true, true, true, true] rfl rfl (any_of HT_.out (by kernel_rfl)) (fun _ _ _ h => h) (Or.inl ⟨by rfl, ?_⟩) ?_ ?_
    rotate_left
    · intro w'
      go_simp
      with_reducible rfl
    rotate_left
    · simp only [Act.put, List.setIfInBounds_toArray, List.set_cons_zero, List.set_cons_succ, i64_w, i32_w]
      rfl
    refine done_ (done_of HT_.out (by kernel_rfl)) ?_
    go_wp2
    go_ret2
    exact ⟨rfl, hHeld⟩

set_option maxHeartbeats 2000000 in
set_option maxRecDepth 100000 in
theorem head_H (A : Option Addr) (c : Nat) (l : List Int) (w : World) (hr : Kd.C (Kd.int .u8) w A l.length l) (hc : l.length ≤ c) (hb : Byt l) (hpr : preB l = true) (h6 : 6 ≤ l.length) (hv : verB (rd l 2) = true) (hk : kinB (rd l 3) = true) (hmm : rd l 4 + 256 * rd l 5 ≤ 4096) :
    Calls Try.prog 46 #[.slice A l.length c] w fun e w' => e = .returned (.tuple #[.int .i64 (rd l 4 + 256 * rd l 5), .int .i64 0]) ∧ Below w.heap.size w w' := by
    have HR := Aside0.mk hr
    have HY := Aside0.mk hb
    clear hr hb
    obtain ⟨n, hn⟩ : ∃ n : Nat, n = min l.length 2 := ⟨_, rfl⟩
    have hlen63 : l.length ≤ 9223372036854775807 := HR.out.2.1
    have hmn : ∀ (ats : Array TypeId) (ty : TypeId), Builtin.min_ ats ty #[.int .i64 (l.length : Int), .int .i64 2] = (pure (.int .i64 (n : Int)) : Sem Value) := by
      intro ats ty
      have h1 : (if (2 : Int) < (l.length : Int) then (2 : Int) else (l.length : Int)) = (n : Int) := by split <;> omega
      simp only [min_two, min2_int, pure_bind, h1]
    obtain ⟨i05, hi05, _, _, _⟩ := info_parts info5
    obtain ⟨p, hp, hcutp, hCp, hpc⟩ := cutT (k := Kd.int .u8) Try.underlying23 hi05 HR.out hc (n : Int) n rfl (by omega)
    have hpre := pre_str l n hn HY.out
    rw [← hp] at hpre
    have HP := Aside0.mk hCp
    clear hp hCp hpc hi05
    rw [hpr] at hpre
    obtain ⟨ad, ea, _⟩ := Kd.at_int HR.out (0 : Int) (by omega) (by omega)
    cases ea
    obtain ⟨x2, hx2⟩ : ∃ x, x = rd l 2 := ⟨_, rfl⟩
    obtain ⟨x3, hx3⟩ : ∃ x, x = rd l 3 := ⟨_, rfl⟩
    obtain ⟨x4, hx4⟩ : ∃ x, x = rd l 4 := ⟨_, rfl⟩
    obtain ⟨x5, hx5⟩ : ∃ x, x = rd l 5 := ⟨_, rfl⟩
    have HX2 : Aside0 (w.cell? (ad.add 2) = some (.int .u8 x2)) := ⟨by
      obtain ⟨ad2, e2, h2⟩ := Kd.at_int HR.out (2 : Int) (by omega) (by omega)
      cases e2
      rw [← hx2] at h2
      exact h2⟩
    have HX3 : Aside0 (w.cell? (ad.add 3) = some (.int .u8 x3)) := ⟨by
      obtain ⟨ad2, e2, h2⟩ := Kd.at_int HR.out (3 : Int) (by omega) (by omega)
      cases e2
      rw [← hx3] at h2
      exact h2⟩
    have HX4 : Aside0 (w.cell? (ad.add 4) = some (.int .u8 x4)) := ⟨by
      obtain ⟨ad2, e2, h2⟩ := Kd.at_int HR.out (4 : Int) (by omega) (by omega)
      cases e2
      rw [← hx4] at h2
      exact h2⟩
    have HX5 : Aside0 (w.cell? (ad.add 5) = some (.int .u8 x5)) := ⟨by
      obtain ⟨ad2, e2, h2⟩ := Kd.at_int HR.out (5 : Int) (by omega) (by omega)
      cases e2
      rw [← hx5] at h2
      exact h2⟩
    have hc2 := pw_cell_below (w1 := w.drew) (below_drew (Below.refl _ _)) HX2.out
    have hd2 := hc2
    rw [add_pos0 ad 2 (by omega)] at hd2
    have hc3 := pw_cell_below (w1 := w.drew) (below_drew (Below.refl _ _)) HX3.out
    have hd3 := hc3
    rw [add_pos0 ad 3 (by omega)] at hd3
    have hc4 := pw_cell_below (w1 := w.drew) (below_drew (Below.refl _ _)) HX4.out
    have hd4 := hc4
    rw [add_pos0 ad 4 (by omega)] at hd4
    have hc5 := pw_cell_below (w1 := w.drew) (below_drew (Below.refl _ _)) HX5.out
    have hd5 := hc5
    rw [add_pos0 ad 5 (by omega)] at hd5
    have dl2 : decide ((2 : Int) < (l.length : Int)) = true := by simp; omega
    have dm2 : decide (2 < l.length) = true := by simp; omega
    have dl3 : decide ((3 : Int) < (l.length : Int)) = true := by simp; omega
    have dm3 : decide (3 < l.length) = true := by simp; omega
    have dl4 : decide ((4 : Int) < (l.length : Int)) = true := by simp; omega
    have dm4 : decide (4 < l.length) = true := by simp; omega
    have dl5 : decide ((5 : Int) < (l.length : Int)) = true := by simp; omega
    have dm5 : decide (5 < l.length) = true := by simp; omega
    have d6 : decide ((l.length : Int) < 6) = false := by simp; omega
    have d6b : decide (l.length < 6) = false := by simp; omega
    have HV : Aside0 (verB x2 = true) := ⟨by rw [hx2]; exact hv⟩
    have HK : Aside0 (kinB x3 = true) := ⟨by rw [hx3]; exact hk⟩
    have hb4 : 0 ≤ x4 ∧ x4 < 256 := by rw [hx4]; exact byt_rng HY.out 4 (by omega)
    have hb5 : 0 ≤ x5 ∧ x5 < 256 := by rw [hx5]; exact byt_rng HY.out 5 (by omega)
    obtain ⟨m, hm⟩ : ∃ m : Int, m = x4 + 256 * x5 := ⟨_, rfl⟩
    have u4 : wrap64 x4 = x4 := by unfold wrap64; omega
    have u5 : wrap64 x5 = x5 := by unfold wrap64; omega
    have u6 : wrap64 (x5 * 256) = x5 * 256 := by unfold wrap64; omega
    have hor : Go.bits .or .i64 x4 (x5 * 256) = m := by rw [or_i64 x4 x5 hb4.1 hb4.2 hb5.1 hb5.2, hm]
    have HM : Aside0 (m = rd l 4 + 256 * rd l 5) := ⟨by rw [hm, hx4, hx5]⟩
    have dmm : decide (4096 < m) = false := by rw [hm, hx4, hx5]; simp; omega
    have hl5 : (5 : Int) < (l.length : Int) := by omega
    have hl4 : (4 : Int) < (l.length : Int) := by omega
    clear hx2 hv hx3 hk hx4 hx5 hm hmm
    have hn2 : (n : Int) ≤ 2 := by omega
    have hnl : (n : Int) ≤ (l.length : Int) := by omega
    clear hn
    go_enter Try.func46, Try.ntmps46
    go_wp2
    refine start_ (n := 8) (S := fun w' => Below w.heap.size w w') (ds := []) #[false, false, false, false, false, false, false, false] (by kernel_rfl) rfl rfl (below_drew (Below.refl _ _)) (fun hHeld => ?_)
    refine with_tabW head_tab2 head_bits2 (fun HT_ HW_ => ?_)
    refine pure_ (i := 0) (N := some 10) (v := ?_) (a' := ?_) #[true, false, false, false, false, false, false, false] rfl rfl (any_of HT_.out (by kernel_rfl)) (fun _ _ _ h => h) (Or.inl ⟨by rfl, ?_⟩) ?_ ?_
    rotate_left
    · intro w'
      go_simp
      with_reducible rfl
    rotate_left
    · simp only [Act.put, List.setIfInBounds_toArray, List.set_cons_zero, List.set_cons_succ, i64_w, i32_w]
      rfl
    refine pure_ (i := 1) (N := some 11) (v := ?_) (a' := ?_) #[true, true, false, false, false, false, false, false] rfl rfl (any_of HT_.out (by kernel_rfl)) (fun _ _ _ h => h) (Or.inl ⟨by rfl, ?_⟩) ?_ ?_
    rotate_left
    · intro w'
      go_simp
      with_reducible rfl
    rotate_left
    · simp only [Act.put, List.setIfInBounds_toArray, List.set_cons_zero, List.set_cons_succ, i64_w, i32_w]
      rfl
    refine pure_ (i := 2) (N := some 12) (v := ?_) (a' := ?_) #[true, true, true, false, false, false, false, false] rfl rfl (any_of HT_.out (by kernel_rfl)) (fun _ _ _ h => h) (Or.inl ⟨by rfl, ?_⟩) ?_ ?_
    rotate_left
    · intro w'
      go_simp
      with_reducible rfl
    rotate_left
    · simp only [Act.put, List.setIfInBounds_toArray, List.set_cons_zero, List.set_cons_succ, i64_w, i32_w]
      rfl
    refine take_ (i := 3) (N := some 13) (v := ?_) (a' := ?_) #[true, true, true, true, false, false, false, false] rfl rfl (take_ofW HT_.out HW_.out (by kernel_rfl)) (fun _ _ _ h => h) (Or.inl ⟨by rfl, ?_⟩) hHeld ?_ ?_
    rotate_left
    · intro w' s0
      have hcv := Kd.C_string (P := Try.prog) (c := c) Try.underlying23 Try.underlying5 Try.underlying9 (Kd.C_below HP.out s0)
      go_simp
      with_reducible rfl
    rotate_left
    · simp only [Act.put, List.setIfInBounds_toArray, List.set_cons_zero, List.set_cons_succ, i64_w, i32_w]
      rfl
    refine pure_ (i := 4) (N := some 14) (v := ?_) (a' := ?_) #[true, true, true, true, true, false, false, false] rfl rfl (any_of HT_.out (by kernel_rfl)) (fun _ _ _ h => h) (Or.inl ⟨by rfl, ?_⟩) ?_ ?_
    rotate_left
    · intro w'
      go_simp
      with_reducible rfl
    rotate_left
    · simp only [Act.put, List.setIfInBounds_toArray, List.set_cons_zero, List.set_cons_succ, i64_w, i32_w]
      rfl
    refine pure_ (i := 5) (N := some 15) (v := ?_) (a' := ?_) #[true, true, true, true, true, true, false, false] rfl rfl (any_of HT_.out (by kernel_rfl)) (fun _ _ _ h => h) (Or.inl ⟨by rfl, ?_⟩) ?_ ?_
    rotate_left
    · intro w'
      go_simp
      with_reducible rfl
    rotate_left
    · simp only [Act.put, List.setIfInBounds_toArray, List.set_cons_zero, List.set_cons_succ, i64_w, i32_w]
      rfl
    refine pure_ (i := 6) (N := some 16) (v := ?_) (a' := ?_) #[true, true, true, true, true, true, true, false] rfl rfl (any_of HT_.out (by kernel_rfl)) (fun _ _ _ h => h) (Or.inl ⟨by rfl, ?_⟩) ?_ ?_
    rotate_left
    · intro w'
      go_simp
      with_reducible rfl
    rotate_left
    · simp only [Act.put, List.setIfInBounds_toArray, List.set_cons_zero, List.set_cons_succ, i64_w, i32_w]
      rfl
    refine pure_ (i := 7) (N := some 9) (v := ?_) (a' := ?_) #[true, true, true, true, true, true, true, true] rfl rfl (any_of HT_.out (by kernel_rfl)) (fun _ _ _ h => h) (Or.inl ⟨by rfl, ?_⟩) ?_ ?_
    rotate_left
    · intro w'
      go_simp
      with_reducible rfl
    rotate_left
    · simp only [Act.put, List.setIfInBounds_toArray, List.set_cons_zero, List.set_cons_succ, i64_w, i32_w]
      rfl
    refine done_ (done_of HT_.out (by kernel_rfl)) ?_
    go_wp2_with (first | (go_at_call 48; refine (versioned_any x2 _).mono ?_; rw [HV.out]; rintro e w1 ⟨rfl, rfl⟩) | (go_at_call 49; refine (kinded_any x3 _).mono ?_; rw [HK.out]; rintro e w1 ⟨rfl, rfl⟩))
    refine start_ (n := 11) (S := fun w' => Below w.heap.size w w') (ds := []) #[false, false, false, false, false, false, false, false, false, false, false] (by kernel_rfl) rfl rfl (below_drew (below_drew (Below.refl _ _))) (fun hHeld => ?_)
    refine with_tabW head_tab10 head_bits10 (fun HT_ HW_ => ?_)
    refine pure_ (i := 0) (N := some 43) (v := ?_) (a' := ?_) #[true, false, false, false, false, false, false, false, false, false, false] rfl rfl (any_of HT_.out (by kernel_rfl)) (fun _ _ _ h => h) (Or.inl ⟨by rfl, ?_⟩) ?_ ?_
    rotate_left
    · intro w'
      go_simp
      with_reducible rfl
    rotate_left
    · simp only [Act.put, List.setIfInBounds_toArray, List.set_cons_zero, List.set_cons_succ, i64_w, i32_w]
      rfl
    refine pure_ (i := 1) (N := some 44) (v := ?_) (a' := ?_) #[true, true, false, false, false, false, false, false, false, false, false] rfl rfl (any_of HT_.out (by kernel_rfl)) (fun _ _ _ h => h) (Or.inl ⟨by rfl, ?_⟩) ?_ ?_
    rotate_left
    · intro w'
      go_simp
      with_reducible rfl
    rotate_left
    · simp only [Act.put, List.setIfInBounds_toArray, List.set_cons_zero, List.set_cons_succ, i64_w, i32_w]
      rfl
    refine take_ (i := 2) (N := some 45) (v := ?_) (a' := ?_) #[true, true, true, false, false, false, false, false, false, false, false] rfl rfl (take_ofW HT_.out HW_.out (by kernel_rfl)) (fun _ _ _ h => h) (Or.inl ⟨by rfl, ?_⟩) hHeld ?_ ?_
    rotate_left
    · intro w' s0
      have hcell := pw_cell_below s0 HX4.out
      have hcell2 := hcell
      rw [add_pos0 ad 4 (by omega)] at hcell2
      go_simp
      with_reducible rfl
    rotate_left
    · simp only [Act.put, List.setIfInBounds_toArray, List.set_cons_zero, List.set_cons_succ, i64_w, i32_w]
      rfl
    refine pure_ (i := 3) (N := some 46) (v := ?_) (a' := ?_) #[true, true, true, true, false, false, false, false, false, false, false] rfl rfl (any_of HT_.out (by kernel_rfl)) (fun _ _ _ h => h) (Or.inl ⟨by rfl, ?_⟩) ?_ ?_
    rotate_left
    · intro w'
      go_simp
      with_reducible rfl
    rotate_left
    · simp only [Act.put, List.setIfInBounds_toArray, List.set_cons_zero, List.set_cons_succ, i64_w, i32_w]
      rfl
    refine pure_ (i := 4) (N := some 47) (v := ?_) (a' := ?_) #[true, true, true, true, true, false, false, false, false, false, false] rfl rfl (any_of HT_.out (by kernel_rfl)) (fun _ _ _ h => h) (Or.inl ⟨by rfl, ?_⟩) ?_ ?_
    rotate_left
    · intro w'
      go_simp
      with_reducible rfl
    rotate_left
    · simp only [Act.put, List.setIfInBounds_toArray, List.set_cons_zero, List.set_cons_succ, i64_w, i32_w]
      rfl
    refine pure_ (i := 5) (N := some 48) (v := ?_) (a' := ?_) #[true, true, true, true, true, true, false, false, false, false, false] rfl rfl (any_of HT_.out (by kernel_rfl)) (fun _ _ _ h => h) (Or.inl ⟨by rfl, ?_⟩) ?_ ?_
    rotate_left
    · intro w'
      go_simp
      with_reducible rfl
    rotate_left
    · simp only [Act.put, List.setIfInBounds_toArray, List.set_cons_zero, List.set_cons_succ, i64_w, i32_w]
      rfl
    refine take_ (i := 6) (N := some 49) (v := ?_) (a' := ?_) #[true, true, true, true, true, true, true, false, false, false, false] rfl rfl (take_ofW HT_.out HW_.out (by kernel_rfl)) (fun _ _ _ h => h) (Or.inl ⟨by rfl, ?_⟩) hHeld ?_ ?_
    rotate_left
    · intro w' s0
      have hcell := pw_cell_below s0 HX5.out
      have hcell2 := hcell
      rw [add_pos0 ad 5 (by omega)] at hcell2
      go_simp
      with_reducible rfl
    rotate_left
    · simp only [Act.put, List.setIfInBounds_toArray, List.set_cons_zero, List.set_cons_succ, i64_w, i32_w]
      rfl
    refine pure_ (i := 7) (N := some 50) (v := ?_) (a' := ?_) #[true, true, true, true, true, true, true, true, false, false, false] rfl rfl (any_of HT_.out (by kernel_rfl)) (fun _ _ _ h => h) (Or.inl ⟨by rfl, ?_⟩) ?_ ?_
    rotate_left
    · intro w'
      go_simp
      with_reducible rfl
    rotate_left
    · simp only [Act.put, List.setIfInBounds_toArray, List.set_cons_zero, List.set_cons_succ, i64_w, i32_w]
      rfl
    refine pure_ (i := 8) (N := some 51) (v := ?_) (a' := ?_) #[true, true, true, true, true, true, true, true, true, false, false] rfl rfl (any_of HT_.out (by kernel_rfl)) (fun _ _ _ h => h) (Or.inl ⟨by rfl, ?_⟩) ?_ ?_
    rotate_left
    · intro w'
      go_simp
      with_reducible rfl
    rotate_left
    · simp only [Act.put, List.setIfInBounds_toArray, List.set_cons_zero, List.set_cons_succ, i64_w, i32_w]
      rfl
    refine pure_ (i := 9) (N := some 52) (v := ?_) (a' := ?_) #[true, true, true, true, true, true, true, true, true, true, false] rfl rfl (any_of HT_.out (by kernel_rfl)) (fun _ _ _ h => h) (Or.inl ⟨by rfl, ?_⟩) ?_ ?_
    rotate_left
    · intro w'
      go_simp
      with_reducible rfl
    rotate_left
    · simp only [Act.put, List.setIfInBounds_toArray, List.set_cons_zero, List.set_cons_succ, i64_w, i32_w]
      rfl
    refine pure_ (i := 10) (N := some 5) (v := ?_) (a' := ?_) #[true, true, true, true, true, true, true, true, true, true, true] rfl rfl (any_of HT_.out (by kernel_rfl)) (fun _ _ _ h => h) (Or.inl ⟨by rfl, ?_⟩) ?_ ?_
    rotate_left
    · intro w'
      go_simp
      with_reducible rfl
    rotate_left
    · simp only [Act.put, List.setIfInBounds_toArray, List.set_cons_zero, List.set_cons_succ, i64_w, i32_w]
      rfl
    refine done_ (done_of HT_.out (by kernel_rfl)) ?_
    go_wp2
    go_ret2
    exact ⟨by rw [← HM.out]; rfl, hHeld⟩

theorem head_any (A : Option Addr) (c : Nat) (l : List Int) (w : World) (hr : Kd.C (Kd.int .u8) w A l.length l) (hc : l.length ≤ c) (hb : Byt l) :
    Calls Try.prog 46 #[.slice A l.length c] w fun e w' => e = .returned (.tuple #[.int .i64 (headF l).1, .int .i64 (headF l).2]) ∧ Below w.heap.size w w' := by
  unfold headF
  by_cases h1 : preB l = false
  · rw [if_pos h1]; exact head_A A c l w hr hc hb h1
  · rw [if_neg h1]
    have hpr : preB l = true := by simpa using h1
    by_cases h2 : 2 < l.length
    · by_cases hv : verB (rd l 2) = false
      · rw [if_pos ⟨h2, hv⟩]; exact head_C A c l w hr hc hb hpr h2 hv
      · rw [if_neg (fun h => hv h.2)]
        have hv' : verB (rd l 2) = true := by simpa using hv
        by_cases h3 : 3 < l.length
        · by_cases hk : kinB (rd l 3) = false
          · rw [if_pos ⟨h3, hk⟩]; exact head_E A c l w hr hc hb hpr h3 hv' hk
          · rw [if_neg (fun h => hk h.2)]
            have hk' : kinB (rd l 3) = true := by simpa using hk
            by_cases h6 : l.length < 6
            · rw [if_pos h6]; exact head_F A c l w hr hc hb hpr h3 h6 hv' hk'
            · rw [if_neg h6]
              by_cases hm : rd l 4 + 256 * rd l 5 > 4096
              · rw [if_pos hm]; exact head_G A c l w hr hc hb hpr (by omega) hv' hk' hm
              · rw [if_neg hm]; exact head_H A c l w hr hc hb hpr (by omega) hv' hk' (by omega)
        · rw [if_neg (fun h => h3 h.1), if_pos (by omega)]; exact head_D A c l w hr hc hb hpr h2 (by omega) hv'
    · rw [if_neg (fun h => h2 h.1), if_neg (fun h => h2 (by omega)), if_pos (by omega)]; exact head_B A c l w hr hc hb hpr (by omega)
end Go.Proofs.Ytonbphiaideleaa.M
