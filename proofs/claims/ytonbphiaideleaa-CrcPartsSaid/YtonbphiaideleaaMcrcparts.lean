/- lacunalaw03.CrcParts: the walk. -/
import Derived.Test.YtonbphiaideleaaMcuts
import Derived.Test.YtonbphiaideleaaMresidue
namespace Go.Proofs.Ytonbphiaideleaa.M
open Go.RowKit Go.Proofs.YtonbphiaideleaaW.PrintWords Go.Proofs.YtonbphiaideleaaW.PrintLast
set_option linter.unusedVariables false
set_option linter.unusedSimpArgs false
def crcparts_T4 : Bool × List (List Nat × List Nat) := (true, [([], []), ([], []), ([0, 1], [0, 1]), ([2], [2]), ([3], [3]), ([], []), ([], []), ([5, 6], [5, 6]), ([7], [7]), ([4, 8, 4], [4, 8]), ([], []), ([10], [10]), ([11, 9], [11]), ([9, 12], [9, 12]), ([13, 12], [13]), ([14], [14]), ([15, 14], [14, 15]), ([16, 14, 14], [14, 16]), ([14], [14]), ([18, 14], [14, 18]), ([17, 19, 17, 14], [14, 17, 19]), ([14], [14]), ([14], [14]), ([21, 22, 14], [14, 21, 22]), ([23, 20, 14], [14, 23]), ([20, 24, 14], [14, 20, 24]), ([14, 25], [14, 25]), ([26, 24], [26]), ([27], [27]), ([28, 27, 27], [27, 28]), ([29, 27], [27, 29]), ([30, 29, 27], [27, 30]), ([27], [27]), ([32, 31, 27], [27, 32]), ([33, 27], [27, 33]), ([34, 33, 27], [27, 34]), ([31, 35, 27], [27, 31, 35]), ([27, 36], [27, 36]), ([37, 35], [37]), ([38, 38], [38]), ([38, 39], [38, 39]), ([40, 39, 0, 1, 2, 3, 4, 5, 6, 7, 8, 9, 10, 11, 12, 13, 14, 15, 16, 17, 18, 19, 20, 21, 22, 23, 24, 25, 26, 27, 28, 29, 30, 31, 32, 33, 34, 35, 36, 37, 38, 39, 40], [40])])
def crcparts_B4 : List Nat := [0, 0, 3, 7, 15, 0, 0, 96, 224, 511, 0, 1024, 4095, 8191, 16383, 32767, 65535, 131071, 32767, 294911, 1048575, 32767, 32767, 6324223, 16777215, 33554431, 67108863, 134217727, 268435455, 536870911, 1073741823, 2147483647, 268435455, 8589934591, 17179869183, 34359738367, 68719476735, 137438953471, 274877906943, 549755813887, 1099511627775, 2199023255551]
theorem crcparts_tab4 : rtab .any (opsOf Try.f5 4) = crcparts_T4 := by kernel_rfl
theorem crcparts_bits4 : waitsOk crcparts_T4.2 crcparts_B4 = true := by kernel_rfl
/-- Two rows in a literal of rows. -/
theorem lit2_C {w : World} {A B : Option Addr} {c d : Nat} {l m : List Int} (hr : Kd.C (Kd.int .u8) w A l.length l) (hc : l.length ≤ c) (hr2 : Kd.C (Kd.int .u8) w B m.length m) (hc2 : m.length ≤ d) :
    Kd.C (Kd.slice 5 (Kd.int .u8)) (w.alloc (.cells #[.slice A l.length c, .slice B m.length d] 23)) (some ⟨w.heap.size, 0, none⟩) [l, m].length [l, m] := by
  have hb : Below w.heap.size w (w.alloc (.cells #[.slice A l.length c, .slice B m.length d] 23)) := below_alloc (Below.refl _ _) _
  refine ⟨rfl, by simp, fun _ => ⟨_, rfl, fun j p hj => ?_⟩⟩
  rcases j with _ | _ | j
  · obtain rfl : l = p := by simpa using hj
    refine ⟨[.slice A l.length c], rfl, ⟨A, c, rfl, hc, Kd.C_below hr hb⟩, fun i u hi => ?_⟩
    rcases i with _ | i
    · obtain rfl : Value.slice A l.length c = u := by simpa using hi
      simp only [Kd.slice, Nat.zero_mul, Nat.add_zero, add_plain]
      rw [cell_of_row _ _ 0 _ _ _ (heap_alloc_last w _)]
      rfl
    · simp at hi
  · obtain rfl : m = p := by simpa using hj
    refine ⟨[.slice B m.length d], rfl, ⟨B, d, rfl, hc2, Kd.C_below hr2 hb⟩, fun i u hi => ?_⟩
    rcases i with _ | i
    · obtain rfl : Value.slice B m.length d = u := by simpa using hi
      simp only [Kd.slice, Nat.zero_add, Nat.one_mul, Nat.add_zero, add_plain]
      rw [cell_of_row _ _ 1 _ _ _ (heap_alloc_last w _)]
      rfl
    · simp at hi
  · simp at hj

set_option maxHeartbeats 4000000 in
set_option maxRecDepth 100000 in
theorem crcparts_any (Aa : Option Addr) (ca : Nat) (la : List Int) (Ab : Option Addr) (cb : Nat) (lb : List Int) (cut : Int) (w : World)
    (hra : Kd.C (Kd.int .u8) w Aa la.length la) (hca : la.length ≤ ca) (hba : Byt la) (hrb : Kd.C (Kd.int .u8) w Ab lb.length lb) (hcb : lb.length ≤ cb) (hbb : Byt lb) (hcut : 0 ≤ cut ∧ cut < 65536) :
    Calls Try.prog 5 #[.slice Aa la.length ca, .slice Ab lb.length cb, .int .u16 cut] w fun e w' => e = .returned (.bool true) ∧ Below w.heap.size w w' := by
  have HB := Aside0.mk (Below.refl w.heap.size w)
  have HRa := Aside0.mk hra
  have HRb := Aside0.mk hrb
  have HYa := Aside0.mk hba
  have HYb := Aside0.mk hbb
  have HCa := Aside0.mk hca
  have HCb := Aside0.mk hcb
  clear hra hrb hba hbb
  by_cases h1 : 300 < la.length
  · have hd : decide (300 < (la.length : Int)) = true := by simp; omega
    have hd2 : decide (300 < la.length) = true := by simp; omega
    go_enter Try.func5, Try.ntmps5
    go_wp2
    go_ret
    exact ⟨rfl, HB.out⟩
  · have hd : decide (300 < (la.length : Int)) = false := by simp; omega
    have hd2 : decide (300 < la.length) = false := by simp; omega
    by_cases h2 : 300 < lb.length
    · have he : decide (300 < (lb.length : Int)) = true := by simp; omega
      have he2 : decide (300 < lb.length) = true := by simp; omega
      go_enter Try.func5, Try.ntmps5
      go_wp2
      go_ret
      exact ⟨rfl, HB.out⟩
    · have he : decide (300 < (lb.length : Int)) = false := by simp; omega
      have he2 : decide (300 < lb.length) = false := by simp; omega
      obtain ⟨hc0, hc1⟩ := hcut
      obtain ⟨k, hk⟩ : ∃ k : Nat, (k : Int) = cut % ((la.length : Int) + 1) := ⟨(cut % ((la.length : Int) + 1)).toNat, by
        have := Int.emod_nonneg cut (show ((la.length : Int) + 1) ≠ 0 by omega)
        omega⟩
      have hkl : k ≤ la.length := by
        have := Int.emod_lt_of_pos cut (show 0 < ((la.length : Int) + 1) by omega)
        omega
      have hmod : cut % ((la.length : Int) + 1) = (k : Int) := hk.symm
      have hla : la.length ≤ 300 := by omega
      have hlb : lb.length ≤ 300 := by omega
      clear hk h1 h2
      obtain ⟨i05, hi05, _, hsz5, _⟩ := info_parts info5
      obtain ⟨p, hp, hcutp, hCp, hpc⟩ := cutT (k := Kd.int .u8) Try.underlying23 hi05 HRa.out hca (k : Int) k rfl hkl
      obtain ⟨A', q, hq, hcutq, hCq, hqc⟩ := cutD (k := Kd.int .u8) rfl Try.underlying23 hi05 hsz5 HRa.out hca (k : Int) k rfl hkl
      have hyp : Byt p := by rw [hp]; exact HYa.out.take k
      have hyq : Byt q := by rw [hq]; exact HYa.out.drop k
      have hpq : p ++ q = la := by rw [hp, hq, List.take_append_drop]
      have hsum : ∀ l : List Int, Byt l → andF 0 [l] = ((crcN 0 l : Nat) : Int) := fun l hl => sumF_crc hl
      have hand : ∀ l m : List Int, Byt l → Byt m → andF ((crcN 0 l : Nat) : Int) [m] = ((crcN 0 (l ++ m) : Nat) : Int) := fun l m hl hm => by
        rw [andF_crc (crcN_lt (by decide) hl) (fun x hx => by rw [List.mem_singleton.1 hx]; exact hm), ← crcN_append]
        simp
      obtain ⟨z4, hz4⟩ : ∃ z : Int, z = ((crcN 0 p : Nat) : Int) := ⟨_, rfl⟩
      obtain ⟨z, hz⟩ : ∃ z : Int, z = ((crcN 0 la : Nat) : Int) := ⟨_, rfl⟩
      obtain ⟨zab, hzab⟩ : ∃ z : Int, z = ((crcN 0 (la ++ lb) : Nat) : Int) := ⟨_, rfl⟩
      obtain ⟨zs, hzs⟩ : ∃ z : Int, z = ((F32 ^^^ Tn 32 F32 : Nat) : Int) := ⟨_, rfl⟩
      obtain ⟨sa, hsa⟩ : ∃ s, s = sg la := ⟨_, rfl⟩
      obtain ⟨sb, hsb⟩ : ∃ s, s = sg lb := ⟨_, rfl⟩
      have HZ4 : Aside0 (andF 0 [p] = z4) := ⟨by rw [hsum _ hyp, hz4]⟩
      have HZ9 : Aside0 (andF z4 [q] = z) := ⟨by rw [hz4, hand _ _ hyp hyq, hpq, hz]⟩
      have HZ12 : Aside0 (andF 0 [la] = z) := ⟨by rw [hsum _ HYa.out, hz]⟩
      have HZ17 := HZ12
      have HZ20 : Aside0 (andF z [lb] = zab) := ⟨by rw [hz, hand _ _ HYa.out HYb.out, hzab]⟩
      have HZ24 : Aside0 (andF 0 [la, lb] = zab) := ⟨by
        rw [show (0 : Int) = ((0 : Nat) : Int) from rfl, andF_crc (by decide) (fun x hx => by
          simp only [List.mem_cons, List.not_mem_nil, or_false] at hx
          rcases hx with rfl | rfl
          · exact HYa.out
          · exact HYb.out), hzab]
        simp⟩
      have HZ31 : Aside0 (andF 0 [sa] = zs) := ⟨by rw [hsa, hsum _ (sg_byt HYa.out), crc_sg _ HYa.out, hzs]⟩
      have HZ35 : Aside0 (andF 0 [sb] = zs) := ⟨by rw [hsb, hsum _ (sg_byt HYb.out), crc_sg _ HYb.out, hzs]⟩
      have HSA := Aside0.mk hsa
      have HSB := Aside0.mk hsb
      have HP := Aside0.mk hCp
      have HPc := Aside0.mk hpc
      have HQ := Aside0.mk hCq
      have HQc := Aside0.mk hqc
      have HLa : Aside0 (la.length + 4 < 140737488355328) := ⟨by omega⟩
      have HLb : Aside0 (lb.length + 4 < 140737488355328) := ⟨by omega⟩
      have HBW := Aside0.mk (below_drew (Below.refl w.heap.size w))
      clear hp hq hyp hyq hpq hsum hand hz4 hz hzab hzs hsa hsb hCp hpc hCq hqc hi05 hsz5
      go_enter Try.func5, Try.ntmps5
      go_wp2
      refine start_ (n := 42) (S := fun w' => True) (ds := []) #[false, false, false, false, false, false, false, false, false, false, false, false, false, false, false, false, false, false, false, false, false, false, false, false, false, false, false, false, false, false, false, false, false, false, false, false, false, false, false, false, false, false] (by kernel_rfl) rfl rfl trivial (fun hHeld => ?_)
      refine with_tabW crcparts_tab4 crcparts_bits4 (fun HT_ HW_ => ?_)
      refine pure_ (i := 0) (N := some 22) (v := ?_) (a' := ?_) #[true, false, false, false, false, false, false, false, false, false, false, false, false, false, false, false, false, false, false, false, false, false, false, false, false, false, false, false, false, false, false, false, false, false, false, false, false, false, false, false, false, false] rfl rfl (any_of HT_.out (by kernel_rfl)) (fun _ _ _ h => h) (Or.inl ⟨by rfl, ?_⟩) ?_ ?_
      rotate_left
      · intro w'
        go_simp
        with_reducible rfl
      rotate_left
      · simp only [Act.put, List.setIfInBounds_toArray, List.set_cons_zero, List.set_cons_succ, i64_w, i32_w]
        rfl
      refine pure_ (i := 1) (N := some 23) (v := ?_) (a' := ?_) #[true, true, false, false, false, false, false, false, false, false, false, false, false, false, false, false, false, false, false, false, false, false, false, false, false, false, false, false, false, false, false, false, false, false, false, false, false, false, false, false, false, false] rfl rfl (any_of HT_.out (by kernel_rfl)) (fun _ _ _ h => h) (Or.inl ⟨by rfl, ?_⟩) ?_ ?_
      rotate_left
      · intro w'
        go_simp
        with_reducible rfl
      rotate_left
      · simp only [Act.put, List.setIfInBounds_toArray, List.set_cons_zero, List.set_cons_succ, i64_w, i32_w]
        rfl
      refine pure_ (i := 2) (N := some 24) (v := ?_) (a' := ?_) #[true, true, true, false, false, false, false, false, false, false, false, false, false, false, false, false, false, false, false, false, false, false, false, false, false, false, false, false, false, false, false, false, false, false, false, false, false, false, false, false, false, false] rfl rfl (any_of HT_.out (by kernel_rfl)) (fun _ _ _ h => h) (Or.inl ⟨by rfl, ?_⟩) ?_ ?_
      rotate_left
      · intro w'
        go_simp
        with_reducible rfl
      rotate_left
      · simp only [Act.put, List.setIfInBounds_toArray, List.set_cons_zero, List.set_cons_succ, i64_w, i32_w]
        rfl
      refine pure_ (i := 5) (N := some 27) (v := ?_) (a' := ?_) #[true, true, true, false, false, true, false, false, false, false, false, false, false, false, false, false, false, false, false, false, false, false, false, false, false, false, false, false, false, false, false, false, false, false, false, false, false, false, false, false, false, false] rfl rfl (any_of HT_.out (by kernel_rfl)) (fun _ _ _ h => h) (Or.inl ⟨by rfl, ?_⟩) ?_ ?_
      rotate_left
      · intro w'
        go_simp
        with_reducible rfl
      rotate_left
      · simp only [Act.put, List.setIfInBounds_toArray, List.set_cons_zero, List.set_cons_succ, i64_w, i32_w]
        rfl
      refine pure_ (i := 6) (N := some 28) (v := ?_) (a' := ?_) #[true, true, true, false, false, true, true, false, false, false, false, false, false, false, false, false, false, false, false, false, false, false, false, false, false, false, false, false, false, false, false, false, false, false, false, false, false, false, false, false, false, false] rfl rfl (any_of HT_.out (by kernel_rfl)) (fun _ _ _ h => h) (Or.inl ⟨by rfl, ?_⟩) ?_ ?_
      rotate_left
      · intro w'
        go_simp
        with_reducible rfl
      rotate_left
      · simp only [Act.put, List.setIfInBounds_toArray, List.set_cons_zero, List.set_cons_succ, i64_w, i32_w]
        rfl
      refine pure_ (i := 7) (N := some 29) (v := ?_) (a' := ?_) #[true, true, true, false, false, true, true, true, false, false, false, false, false, false, false, false, false, false, false, false, false, false, false, false, false, false, false, false, false, false, false, false, false, false, false, false, false, false, false, false, false, false] rfl rfl (any_of HT_.out (by kernel_rfl)) (fun _ _ _ h => h) (Or.inl ⟨by rfl, ?_⟩) ?_ ?_
      rotate_left
      · intro w'
        go_simp
        with_reducible rfl
      rotate_left
      · simp only [Act.put, List.setIfInBounds_toArray, List.set_cons_zero, List.set_cons_succ, i64_w, i32_w]
        rfl
      refine pure_ (i := 10) (N := some 32) (v := ?_) (a' := ?_) #[true, true, true, false, false, true, true, true, false, false, true, false, false, false, false, false, false, false, false, false, false, false, false, false, false, false, false, false, false, false, false, false, false, false, false, false, false, false, false, false, false, false] rfl rfl (any_of HT_.out (by kernel_rfl)) (fun _ _ _ h => h) (Or.inl ⟨by rfl, ?_⟩) ?_ ?_
      rotate_left
      · intro w'
        go_simp
        with_reducible rfl
      rotate_left
      · simp only [Act.put, List.setIfInBounds_toArray, List.set_cons_zero, List.set_cons_succ, i64_w, i32_w]
        rfl
      refine inv_at [3, 4, 8, 9, 11, 12, 13, 14, 15, 16, 17, 18, 19, 20, 21, 22, 23, 24, 25, 26, 27, 28, 29, 30, 31, 32, 33, 34, 35, 36, 37, 38, 39, 40, 41] (fun a0_ b a w' => ∃ (G3 : Nat) (G8 : Nat) (G11 : Nat) (G16 : Nat) (G19 : Nat) (G23 : Nat) (G30 : Nat) (G34 : Nat) (As : Option Addr) (cs : Nat) (Bs : Option Addr) (bs : Nat) (m3_ : Value) (m8_ : Value) (m11_ : Value) (m16_ : Value) (m19_ : Value) (m23_ : Value) (m29_ : Value) (m30_ : Value) (m33_ : Value) (m34_ : Value), a = putSel a0_ b [(3, 25, m3_), (4, 26, .int .u32 z4), (8, 30, m8_), (9, 31, .int .u32 z), (11, 33, m11_), (12, 34, .int .u32 z), (13, 35, .bool true), (14, 36, .bool true), (15, 37, .slice Aa la.length ca), (16, 38, m16_), (17, 39, .int .u32 z), (18, 40, .slice Ab lb.length cb), (19, 41, m19_), (20, 42, .int .u32 zab), (21, 43, .slice Aa la.length ca), (22, 44, .slice Ab lb.length cb), (23, 45, m23_), (24, 46, .int .u32 zab), (25, 47, .bool true), (26, 48, .bool true), (27, 49, .bool true), (28, 50, .slice Aa la.length ca), (29, 51, m29_), (30, 52, m30_), (31, 53, .int .u32 zs), (32, 54, .slice Ab lb.length cb), (33, 55, m33_), (34, 56, m34_), (35, 57, .int .u32 zs), (36, 58, .bool true), (37, 59, .bool true), (38, 60, .bool true), (39, 61, .bool true), (40, 62, .bool true), (41, 6, .bool true)] ∧ (Below w.heap.size w w') ∧ (b 3 = true → Kd.C (Kd.slice 5 (Kd.int .u8)) w' (some ⟨G3, 0, none⟩) 1 [p]) ∧ (b 8 = true → Kd.C (Kd.slice 5 (Kd.int .u8)) w' (some ⟨G8, 0, none⟩) 1 [q]) ∧ (b 11 = true → Kd.C (Kd.slice 5 (Kd.int .u8)) w' (some ⟨G11, 0, none⟩) 1 [la]) ∧ (b 16 = true → Kd.C (Kd.slice 5 (Kd.int .u8)) w' (some ⟨G16, 0, none⟩) 1 [la]) ∧ (b 19 = true → Kd.C (Kd.slice 5 (Kd.int .u8)) w' (some ⟨G19, 0, none⟩) 1 [lb]) ∧ (b 30 = true → Kd.C (Kd.slice 5 (Kd.int .u8)) w' (some ⟨G30, 0, none⟩) 1 [sa]) ∧ (b 34 = true → Kd.C (Kd.slice 5 (Kd.int .u8)) w' (some ⟨G34, 0, none⟩) 1 [sb]) ∧ (b 23 = true → Kd.C (Kd.slice 5 (Kd.int .u8)) w' (some ⟨G23, 0, none⟩) 2 [la, lb]) ∧ (b 29 = true → Kd.C (Kd.int .u8) w' As sa.length sa) ∧ (b 29 = true → sa.length ≤ cs) ∧ (b 33 = true → Kd.C (Kd.int .u8) w' Bs sb.length sb) ∧ (b 33 = true → sb.length ≤ bs) ∧ (b 3 = true → (m3_ : Value) = .slice (some ⟨G3, 0, none⟩) 1 1) ∧ (b 8 = true → (m8_ : Value) = .slice (some ⟨G8, 0, none⟩) 1 1) ∧ (b 11 = true → (m11_ : Value) = .slice (some ⟨G11, 0, none⟩) 1 1) ∧ (b 16 = true → (m16_ : Value) = .slice (some ⟨G16, 0, none⟩) 1 1) ∧ (b 19 = true → (m19_ : Value) = .slice (some ⟨G19, 0, none⟩) 1 1) ∧ (b 23 = true → (m23_ : Value) = .slice (some ⟨G23, 0, none⟩) 2 2) ∧ (b 29 = true → (m29_ : Value) = .slice As sa.length cs) ∧ (b 30 = true → (m30_ : Value) = .slice (some ⟨G30, 0, none⟩) 1 1) ∧ (b 33 = true → (m33_ : Value) = .slice Bs sb.length bs) ∧ (b 34 = true → (m34_ : Value) = .slice (some ⟨G34, 0, none⟩) 1 1)) HT_.out HW_.out (by kernel_rfl) (by kernel_rfl) ?_ ?_ ?_
      · exact ⟨0, 0, 0, 0, 0, 0, 0, 0, none, 0, none, 0, .bool false, .bool false, .bool false, .bool false, .bool false, .bool false, .bool false, .bool false, .bool false, .bool false, by simp only [putSel, Bool.false_eq_true, if_false], HBW.out, fun h_ => absurd h_ (by decide), fun h_ => absurd h_ (by decide), fun h_ => absurd h_ (by decide), fun h_ => absurd h_ (by decide), fun h_ => absurd h_ (by decide), fun h_ => absurd h_ (by decide), fun h_ => absurd h_ (by decide), fun h_ => absurd h_ (by decide), fun h_ => absurd h_ (by decide), fun h_ => absurd h_ (by decide), fun h_ => absurd h_ (by decide), fun h_ => absurd h_ (by decide), fun h_ => absurd h_ (by decide), fun h_ => absurd h_ (by decide), fun h_ => absurd h_ (by decide), fun h_ => absurd h_ (by decide), fun h_ => absurd h_ (by decide), fun h_ => absurd h_ (by decide), fun h_ => absurd h_ (by decide), fun h_ => absurd h_ (by decide), fun h_ => absurd h_ (by decide), fun h_ => absurd h_ (by decide)⟩
      · skip
        clear HBW
        refine steps_cons ?_ ?_
        · rintro b a w' ⟨G3, G8, G11, G16, G19, G23, G30, G34, As, cs, Bs, bs, m3_, m8_, m11_, m16_, m19_, m23_, m29_, m30_, m33_, m34_, ha, Q_HBW, Q_F3, Q_F8, Q_F11, Q_F16, Q_F19, Q_F30, Q_F34, Q_F23, Q_F29, Q_F29c, Q_F33, Q_F33c, Q_X3_, Q_X8_, Q_X11_, Q_X16_, Q_X19_, Q_X23_, Q_X29_, Q_X30_, Q_X33_, Q_X34_⟩ hb_ hon hoff
          refine ⟨_, rfl, fun K hK => ?_⟩
          have e24 : a.tmps[24]? = some (.slice Aa p.length ca) := by rw [ha]; exact (putSel_off rfl).trans rfl
          replace ha := Aside0.mk ha
          have HBW := Aside0.mk Q_HBW
          refine value_ (w1 := w'.alloc (.cells #[.slice Aa p.length ca] 23)) (v := .slice (some ⟨w'.heap.size, 0, none⟩) 1 1) (by rfl) rfl ?_ ?_
          · go_simp
            try rfl
          refine hK.out _ _ ⟨w'.heap.size, G8, G11, G16, G19, G23, G30, G34, As, cs, Bs, bs, (.slice (some ⟨w'.heap.size, 0, none⟩) 1 1), m8_, m11_, m16_, m19_, m23_, m29_, m30_, m33_, m34_, (by rw [ha.out]; exact putSel_upk 0 hb_ rfl rfl rfl), below_alloc HBW.out _, fun _ => lit1_C (Kd.C_below HP.out HBW.out) HPc.out, fun h0_ => Kd.C_alloc (Q_F8 h0_) _, fun h0_ => Kd.C_alloc (Q_F11 h0_) _, fun h0_ => absurd ((hoff 16 (by kernel_rfl)).symm.trans h0_) (by decide), fun h0_ => absurd ((hoff 19 (by kernel_rfl)).symm.trans h0_) (by decide), fun h0_ => absurd ((hoff 30 (by kernel_rfl)).symm.trans h0_) (by decide), fun h0_ => absurd ((hoff 34 (by kernel_rfl)).symm.trans h0_) (by decide), fun h0_ => absurd ((hoff 23 (by kernel_rfl)).symm.trans h0_) (by decide), fun h0_ => absurd ((hoff 29 (by kernel_rfl)).symm.trans h0_) (by decide), fun h0_ => absurd ((hoff 29 (by kernel_rfl)).symm.trans h0_) (by decide), fun h0_ => absurd ((hoff 33 (by kernel_rfl)).symm.trans h0_) (by decide), fun h0_ => absurd ((hoff 33 (by kernel_rfl)).symm.trans h0_) (by decide), fun _ => rfl, Q_X8_, Q_X11_, fun h0_ => absurd ((hoff 16 (by kernel_rfl)).symm.trans h0_) (by decide), fun h0_ => absurd ((hoff 19 (by kernel_rfl)).symm.trans h0_) (by decide), fun h0_ => absurd ((hoff 23 (by kernel_rfl)).symm.trans h0_) (by decide), fun h0_ => absurd ((hoff 29 (by kernel_rfl)).symm.trans h0_) (by decide), fun h0_ => absurd ((hoff 30 (by kernel_rfl)).symm.trans h0_) (by decide), fun h0_ => absurd ((hoff 33 (by kernel_rfl)).symm.trans h0_) (by decide), fun h0_ => absurd ((hoff 34 (by kernel_rfl)).symm.trans h0_) (by decide)⟩
        refine steps_cons ?_ ?_
        · rintro b a w' ⟨G3, G8, G11, G16, G19, G23, G30, G34, As, cs, Bs, bs, m3_, m8_, m11_, m16_, m19_, m23_, m29_, m30_, m33_, m34_, ha, Q_HBW, Q_F3, Q_F8, Q_F11, Q_F16, Q_F19, Q_F30, Q_F34, Q_F23, Q_F29, Q_F29c, Q_F33, Q_F33c, Q_X3_, Q_X8_, Q_X11_, Q_X16_, Q_X19_, Q_X23_, Q_X29_, Q_X30_, Q_X33_, Q_X34_⟩ hb_ hon hoff
          refine ⟨_, rfl, fun K hK => ?_⟩
          have e25 : a.tmps[25]? = some (m3_) := by rw [ha]; exact putSel_on (e := (3, 25, m3_)) 0 rfl rfl (hon 3 (by kernel_rfl)) rfl
          rw [Q_X3_ (hon 3 (by kernel_rfl))] at e25
          replace ha := Aside0.mk ha
          have HBW := Aside0.mk Q_HBW
          have F3 := Aside0.mk (Q_F3 (hon 3 (by kernel_rfl)))
          refine goes_ Try.func16 (by kernel_rfl) rfl #[.slice (some ⟨G3, 0, none⟩) 1 1] (by rfl) rfl rfl (by first | (simp only [List.map_toArray, List.map_cons, List.map_nil, Act.eval, Array.getD_eq_getD_getElem?, Option.getD_some, e25]; done) | (simp only [List.map_toArray, List.map_cons, List.map_nil, Act.eval, Array.getD_eq_getD_getElem?, Option.getD_some, e25]; rfl)) ?_
          refine (of_any (some ⟨G3, 0, none⟩) 1 [p] _ F3.out (Nat.le_refl _)).mono ?_
          rw [HZ4.out]
          rintro e w1 ⟨rfl, hb⟩
          refine ⟨_, rfl, ?_⟩
          refine hK.out _ _ ⟨G3, G8, G11, G16, G19, G23, G30, G34, As, cs, Bs, bs, m3_, m8_, m11_, m16_, m19_, m23_, m29_, m30_, m33_, m34_, (by rw [ha.out]; exact putSel_upk 1 hb_ rfl rfl rfl), below_then HBW.out HBW.out.size hb, fun _ => Kd.C_below F3.out hb, fun h0_ => Kd.C_below (Q_F8 h0_) hb, fun h0_ => Kd.C_below (Q_F11 h0_) hb, fun h0_ => absurd ((hoff 16 (by kernel_rfl)).symm.trans h0_) (by decide), fun h0_ => absurd ((hoff 19 (by kernel_rfl)).symm.trans h0_) (by decide), fun h0_ => absurd ((hoff 30 (by kernel_rfl)).symm.trans h0_) (by decide), fun h0_ => absurd ((hoff 34 (by kernel_rfl)).symm.trans h0_) (by decide), fun h0_ => absurd ((hoff 23 (by kernel_rfl)).symm.trans h0_) (by decide), fun h0_ => absurd ((hoff 29 (by kernel_rfl)).symm.trans h0_) (by decide), fun h0_ => absurd ((hoff 29 (by kernel_rfl)).symm.trans h0_) (by decide), fun h0_ => absurd ((hoff 33 (by kernel_rfl)).symm.trans h0_) (by decide), fun h0_ => absurd ((hoff 33 (by kernel_rfl)).symm.trans h0_) (by decide), Q_X3_, Q_X8_, Q_X11_, fun h0_ => absurd ((hoff 16 (by kernel_rfl)).symm.trans h0_) (by decide), fun h0_ => absurd ((hoff 19 (by kernel_rfl)).symm.trans h0_) (by decide), fun h0_ => absurd ((hoff 23 (by kernel_rfl)).symm.trans h0_) (by decide), fun h0_ => absurd ((hoff 29 (by kernel_rfl)).symm.trans h0_) (by decide), fun h0_ => absurd ((hoff 30 (by kernel_rfl)).symm.trans h0_) (by decide), fun h0_ => absurd ((hoff 33 (by kernel_rfl)).symm.trans h0_) (by decide), fun h0_ => absurd ((hoff 34 (by kernel_rfl)).symm.trans h0_) (by decide)⟩
        refine steps_cons ?_ ?_
        · rintro b a w' ⟨G3, G8, G11, G16, G19, G23, G30, G34, As, cs, Bs, bs, m3_, m8_, m11_, m16_, m19_, m23_, m29_, m30_, m33_, m34_, ha, Q_HBW, Q_F3, Q_F8, Q_F11, Q_F16, Q_F19, Q_F30, Q_F34, Q_F23, Q_F29, Q_F29c, Q_F33, Q_F33c, Q_X3_, Q_X8_, Q_X11_, Q_X16_, Q_X19_, Q_X23_, Q_X29_, Q_X30_, Q_X33_, Q_X34_⟩ hb_ hon hoff
          refine ⟨_, rfl, fun K hK => ?_⟩
          have e29 : a.tmps[29]? = some (.slice A' q.length (ca - k)) := by rw [ha]; exact (putSel_off rfl).trans rfl
          replace ha := Aside0.mk ha
          have HBW := Aside0.mk Q_HBW
          refine value_ (w1 := w'.alloc (.cells #[.slice A' q.length (ca - k)] 23)) (v := .slice (some ⟨w'.heap.size, 0, none⟩) 1 1) (by rfl) rfl ?_ ?_
          · go_simp
            try rfl
          refine hK.out _ _ ⟨G3, w'.heap.size, G11, G16, G19, G23, G30, G34, As, cs, Bs, bs, m3_, (.slice (some ⟨w'.heap.size, 0, none⟩) 1 1), m11_, m16_, m19_, m23_, m29_, m30_, m33_, m34_, (by rw [ha.out]; exact putSel_upk 2 hb_ rfl rfl rfl), below_alloc HBW.out _, fun h0_ => Kd.C_alloc (Q_F3 h0_) _, fun _ => lit1_C (Kd.C_below HQ.out HBW.out) HQc.out, fun h0_ => Kd.C_alloc (Q_F11 h0_) _, fun h0_ => absurd ((hoff 16 (by kernel_rfl)).symm.trans h0_) (by decide), fun h0_ => absurd ((hoff 19 (by kernel_rfl)).symm.trans h0_) (by decide), fun h0_ => absurd ((hoff 30 (by kernel_rfl)).symm.trans h0_) (by decide), fun h0_ => absurd ((hoff 34 (by kernel_rfl)).symm.trans h0_) (by decide), fun h0_ => absurd ((hoff 23 (by kernel_rfl)).symm.trans h0_) (by decide), fun h0_ => absurd ((hoff 29 (by kernel_rfl)).symm.trans h0_) (by decide), fun h0_ => absurd ((hoff 29 (by kernel_rfl)).symm.trans h0_) (by decide), fun h0_ => absurd ((hoff 33 (by kernel_rfl)).symm.trans h0_) (by decide), fun h0_ => absurd ((hoff 33 (by kernel_rfl)).symm.trans h0_) (by decide), Q_X3_, fun _ => rfl, Q_X11_, fun h0_ => absurd ((hoff 16 (by kernel_rfl)).symm.trans h0_) (by decide), fun h0_ => absurd ((hoff 19 (by kernel_rfl)).symm.trans h0_) (by decide), fun h0_ => absurd ((hoff 23 (by kernel_rfl)).symm.trans h0_) (by decide), fun h0_ => absurd ((hoff 29 (by kernel_rfl)).symm.trans h0_) (by decide), fun h0_ => absurd ((hoff 30 (by kernel_rfl)).symm.trans h0_) (by decide), fun h0_ => absurd ((hoff 33 (by kernel_rfl)).symm.trans h0_) (by decide), fun h0_ => absurd ((hoff 34 (by kernel_rfl)).symm.trans h0_) (by decide)⟩
        refine steps_cons ?_ ?_
        · rintro b a w' ⟨G3, G8, G11, G16, G19, G23, G30, G34, As, cs, Bs, bs, m3_, m8_, m11_, m16_, m19_, m23_, m29_, m30_, m33_, m34_, ha, Q_HBW, Q_F3, Q_F8, Q_F11, Q_F16, Q_F19, Q_F30, Q_F34, Q_F23, Q_F29, Q_F29c, Q_F33, Q_F33c, Q_X3_, Q_X8_, Q_X11_, Q_X16_, Q_X19_, Q_X23_, Q_X29_, Q_X30_, Q_X33_, Q_X34_⟩ hb_ hon hoff
          refine ⟨_, rfl, fun K hK => ?_⟩
          have e26 : a.tmps[26]? = some (.int .u32 z4) := by rw [ha]; exact putSel_on (e := (4, 26, .int .u32 z4)) 1 rfl rfl (hon 4 (by kernel_rfl)) rfl
          have e30 : a.tmps[30]? = some (m8_) := by rw [ha]; exact putSel_on (e := (8, 30, m8_)) 2 rfl rfl (hon 8 (by kernel_rfl)) rfl
          rw [Q_X8_ (hon 8 (by kernel_rfl))] at e30
          replace ha := Aside0.mk ha
          have HBW := Aside0.mk Q_HBW
          have F3 := Aside0.mk (Q_F3 (hon 3 (by kernel_rfl)))
          have F8 := Aside0.mk (Q_F8 (hon 8 (by kernel_rfl)))
          refine goes_ Try.func17 (by kernel_rfl) rfl #[.int .u32 z4, .slice (some ⟨G8, 0, none⟩) 1 1] (by rfl) rfl rfl (by first | (simp only [List.map_toArray, List.map_cons, List.map_nil, Act.eval, Array.getD_eq_getD_getElem?, Option.getD_some, e26, e30]; done) | (simp only [List.map_toArray, List.map_cons, List.map_nil, Act.eval, Array.getD_eq_getD_getElem?, Option.getD_some, e26, e30]; rfl)) ?_
          refine (and_any z4 (some ⟨G8, 0, none⟩) 1 [q] _ F8.out (Nat.le_refl _)).mono ?_
          rw [HZ9.out]
          rintro e w1 ⟨rfl, hb⟩
          refine ⟨_, rfl, ?_⟩
          refine hK.out _ _ ⟨G3, G8, G11, G16, G19, G23, G30, G34, As, cs, Bs, bs, m3_, m8_, m11_, m16_, m19_, m23_, m29_, m30_, m33_, m34_, (by rw [ha.out]; exact putSel_upk 3 hb_ rfl rfl rfl), below_then HBW.out HBW.out.size hb, fun _ => Kd.C_below F3.out hb, fun _ => Kd.C_below F8.out hb, fun h0_ => Kd.C_below (Q_F11 h0_) hb, fun h0_ => absurd ((hoff 16 (by kernel_rfl)).symm.trans h0_) (by decide), fun h0_ => absurd ((hoff 19 (by kernel_rfl)).symm.trans h0_) (by decide), fun h0_ => absurd ((hoff 30 (by kernel_rfl)).symm.trans h0_) (by decide), fun h0_ => absurd ((hoff 34 (by kernel_rfl)).symm.trans h0_) (by decide), fun h0_ => absurd ((hoff 23 (by kernel_rfl)).symm.trans h0_) (by decide), fun h0_ => absurd ((hoff 29 (by kernel_rfl)).symm.trans h0_) (by decide), fun h0_ => absurd ((hoff 29 (by kernel_rfl)).symm.trans h0_) (by decide), fun h0_ => absurd ((hoff 33 (by kernel_rfl)).symm.trans h0_) (by decide), fun h0_ => absurd ((hoff 33 (by kernel_rfl)).symm.trans h0_) (by decide), Q_X3_, Q_X8_, Q_X11_, fun h0_ => absurd ((hoff 16 (by kernel_rfl)).symm.trans h0_) (by decide), fun h0_ => absurd ((hoff 19 (by kernel_rfl)).symm.trans h0_) (by decide), fun h0_ => absurd ((hoff 23 (by kernel_rfl)).symm.trans h0_) (by decide), fun h0_ => absurd ((hoff 29 (by kernel_rfl)).symm.trans h0_) (by decide), fun h0_ => absurd ((hoff 30 (by kernel_rfl)).symm.trans h0_) (by decide), fun h0_ => absurd ((hoff 33 (by kernel_rfl)).symm.trans h0_) (by decide), fun h0_ => absurd ((hoff 34 (by kernel_rfl)).symm.trans h0_) (by decide)⟩
        refine steps_cons ?_ ?_
        · rintro b a w' ⟨G3, G8, G11, G16, G19, G23, G30, G34, As, cs, Bs, bs, m3_, m8_, m11_, m16_, m19_, m23_, m29_, m30_, m33_, m34_, ha, Q_HBW, Q_F3, Q_F8, Q_F11, Q_F16, Q_F19, Q_F30, Q_F34, Q_F23, Q_F29, Q_F29c, Q_F33, Q_F33c, Q_X3_, Q_X8_, Q_X11_, Q_X16_, Q_X19_, Q_X23_, Q_X29_, Q_X30_, Q_X33_, Q_X34_⟩ hb_ hon hoff
          refine ⟨_, rfl, fun K hK => ?_⟩
          have e32 : a.tmps[32]? = some (.slice Aa la.length ca) := by rw [ha]; exact (putSel_off rfl).trans rfl
          replace ha := Aside0.mk ha
          have HBW := Aside0.mk Q_HBW
          refine value_ (w1 := w'.alloc (.cells #[.slice Aa la.length ca] 23)) (v := .slice (some ⟨w'.heap.size, 0, none⟩) 1 1) (by rfl) rfl ?_ ?_
          · go_simp
            try rfl
          refine hK.out _ _ ⟨G3, G8, w'.heap.size, G16, G19, G23, G30, G34, As, cs, Bs, bs, m3_, m8_, (.slice (some ⟨w'.heap.size, 0, none⟩) 1 1), m16_, m19_, m23_, m29_, m30_, m33_, m34_, (by rw [ha.out]; exact putSel_upk 4 hb_ rfl rfl rfl), below_alloc HBW.out _, fun h0_ => Kd.C_alloc (Q_F3 h0_) _, fun h0_ => Kd.C_alloc (Q_F8 h0_) _, fun _ => lit1_C (Kd.C_below HRa.out HBW.out) HCa.out, fun h0_ => absurd ((hoff 16 (by kernel_rfl)).symm.trans h0_) (by decide), fun h0_ => absurd ((hoff 19 (by kernel_rfl)).symm.trans h0_) (by decide), fun h0_ => absurd ((hoff 30 (by kernel_rfl)).symm.trans h0_) (by decide), fun h0_ => absurd ((hoff 34 (by kernel_rfl)).symm.trans h0_) (by decide), fun h0_ => absurd ((hoff 23 (by kernel_rfl)).symm.trans h0_) (by decide), fun h0_ => absurd ((hoff 29 (by kernel_rfl)).symm.trans h0_) (by decide), fun h0_ => absurd ((hoff 29 (by kernel_rfl)).symm.trans h0_) (by decide), fun h0_ => absurd ((hoff 33 (by kernel_rfl)).symm.trans h0_) (by decide), fun h0_ => absurd ((hoff 33 (by kernel_rfl)).symm.trans h0_) (by decide), Q_X3_, Q_X8_, fun _ => rfl, fun h0_ => absurd ((hoff 16 (by kernel_rfl)).symm.trans h0_) (by decide), fun h0_ => absurd ((hoff 19 (by kernel_rfl)).symm.trans h0_) (by decide), fun h0_ => absurd ((hoff 23 (by kernel_rfl)).symm.trans h0_) (by decide), fun h0_ => absurd ((hoff 29 (by kernel_rfl)).symm.trans h0_) (by decide), fun h0_ => absurd ((hoff 30 (by kernel_rfl)).symm.trans h0_) (by decide), fun h0_ => absurd ((hoff 33 (by kernel_rfl)).symm.trans h0_) (by decide), fun h0_ => absurd ((hoff 34 (by kernel_rfl)).symm.trans h0_) (by decide)⟩
        refine steps_cons ?_ ?_
        · rintro b a w' ⟨G3, G8, G11, G16, G19, G23, G30, G34, As, cs, Bs, bs, m3_, m8_, m11_, m16_, m19_, m23_, m29_, m30_, m33_, m34_, ha, Q_HBW, Q_F3, Q_F8, Q_F11, Q_F16, Q_F19, Q_F30, Q_F34, Q_F23, Q_F29, Q_F29c, Q_F33, Q_F33c, Q_X3_, Q_X8_, Q_X11_, Q_X16_, Q_X19_, Q_X23_, Q_X29_, Q_X30_, Q_X33_, Q_X34_⟩ hb_ hon hoff
          refine ⟨_, rfl, fun K hK => ?_⟩
          have e33 : a.tmps[33]? = some (m11_) := by rw [ha]; exact putSel_on (e := (11, 33, m11_)) 4 rfl rfl (hon 11 (by kernel_rfl)) rfl
          rw [Q_X11_ (hon 11 (by kernel_rfl))] at e33
          replace ha := Aside0.mk ha
          have HBW := Aside0.mk Q_HBW
          have F3 := Aside0.mk (Q_F3 (hon 3 (by kernel_rfl)))
          have F8 := Aside0.mk (Q_F8 (hon 8 (by kernel_rfl)))
          have F11 := Aside0.mk (Q_F11 (hon 11 (by kernel_rfl)))
          refine goes_ Try.func16 (by kernel_rfl) rfl #[.slice (some ⟨G11, 0, none⟩) 1 1] (by rfl) rfl rfl (by first | (simp only [List.map_toArray, List.map_cons, List.map_nil, Act.eval, Array.getD_eq_getD_getElem?, Option.getD_some, e33]; done) | (simp only [List.map_toArray, List.map_cons, List.map_nil, Act.eval, Array.getD_eq_getD_getElem?, Option.getD_some, e33]; rfl)) ?_
          refine (of_any (some ⟨G11, 0, none⟩) 1 [la] _ F11.out (Nat.le_refl _)).mono ?_
          rw [HZ12.out]
          rintro e w1 ⟨rfl, hb⟩
          refine ⟨_, rfl, ?_⟩
          refine hK.out _ _ ⟨G3, G8, G11, G16, G19, G23, G30, G34, As, cs, Bs, bs, m3_, m8_, m11_, m16_, m19_, m23_, m29_, m30_, m33_, m34_, (by rw [ha.out]; exact putSel_upk 5 hb_ rfl rfl rfl), below_then HBW.out HBW.out.size hb, fun _ => Kd.C_below F3.out hb, fun _ => Kd.C_below F8.out hb, fun _ => Kd.C_below F11.out hb, fun h0_ => absurd ((hoff 16 (by kernel_rfl)).symm.trans h0_) (by decide), fun h0_ => absurd ((hoff 19 (by kernel_rfl)).symm.trans h0_) (by decide), fun h0_ => absurd ((hoff 30 (by kernel_rfl)).symm.trans h0_) (by decide), fun h0_ => absurd ((hoff 34 (by kernel_rfl)).symm.trans h0_) (by decide), fun h0_ => absurd ((hoff 23 (by kernel_rfl)).symm.trans h0_) (by decide), fun h0_ => absurd ((hoff 29 (by kernel_rfl)).symm.trans h0_) (by decide), fun h0_ => absurd ((hoff 29 (by kernel_rfl)).symm.trans h0_) (by decide), fun h0_ => absurd ((hoff 33 (by kernel_rfl)).symm.trans h0_) (by decide), fun h0_ => absurd ((hoff 33 (by kernel_rfl)).symm.trans h0_) (by decide), Q_X3_, Q_X8_, Q_X11_, fun h0_ => absurd ((hoff 16 (by kernel_rfl)).symm.trans h0_) (by decide), fun h0_ => absurd ((hoff 19 (by kernel_rfl)).symm.trans h0_) (by decide), fun h0_ => absurd ((hoff 23 (by kernel_rfl)).symm.trans h0_) (by decide), fun h0_ => absurd ((hoff 29 (by kernel_rfl)).symm.trans h0_) (by decide), fun h0_ => absurd ((hoff 30 (by kernel_rfl)).symm.trans h0_) (by decide), fun h0_ => absurd ((hoff 33 (by kernel_rfl)).symm.trans h0_) (by decide), fun h0_ => absurd ((hoff 34 (by kernel_rfl)).symm.trans h0_) (by decide)⟩
        refine steps_cons ?_ ?_
        · rintro b a w' ⟨G3, G8, G11, G16, G19, G23, G30, G34, As, cs, Bs, bs, m3_, m8_, m11_, m16_, m19_, m23_, m29_, m30_, m33_, m34_, ha, Q_HBW, Q_F3, Q_F8, Q_F11, Q_F16, Q_F19, Q_F30, Q_F34, Q_F23, Q_F29, Q_F29c, Q_F33, Q_F33c, Q_X3_, Q_X8_, Q_X11_, Q_X16_, Q_X19_, Q_X23_, Q_X29_, Q_X30_, Q_X33_, Q_X34_⟩ hb_ hon hoff
          refine ⟨_, rfl, fun K hK => ?_⟩
          have e31 : a.tmps[31]? = some (.int .u32 z) := by rw [ha]; exact putSel_on (e := (9, 31, .int .u32 z)) 3 rfl rfl (hon 9 (by kernel_rfl)) rfl
          have e34 : a.tmps[34]? = some (.int .u32 z) := by rw [ha]; exact putSel_on (e := (12, 34, .int .u32 z)) 5 rfl rfl (hon 12 (by kernel_rfl)) rfl
          replace ha := Aside0.mk ha
          have HBW := Aside0.mk Q_HBW
          have F3 := Aside0.mk (Q_F3 (hon 3 (by kernel_rfl)))
          have F8 := Aside0.mk (Q_F8 (hon 8 (by kernel_rfl)))
          have F11 := Aside0.mk (Q_F11 (hon 11 (by kernel_rfl)))
          refine value_ (w1 := w') (v := .bool true) (by rfl) rfl ?_ ?_
          · go_simp
            (try simp only [i64_w])
            try rfl
          refine hK.out _ _ ⟨G3, G8, G11, G16, G19, G23, G30, G34, As, cs, Bs, bs, m3_, m8_, m11_, m16_, m19_, m23_, m29_, m30_, m33_, m34_, (by rw [ha.out]; exact putSel_upk 6 hb_ rfl rfl rfl), Q_HBW, Q_F3, Q_F8, Q_F11, fun h0_ => absurd ((hoff 16 (by kernel_rfl)).symm.trans h0_) (by decide), fun h0_ => absurd ((hoff 19 (by kernel_rfl)).symm.trans h0_) (by decide), fun h0_ => absurd ((hoff 30 (by kernel_rfl)).symm.trans h0_) (by decide), fun h0_ => absurd ((hoff 34 (by kernel_rfl)).symm.trans h0_) (by decide), fun h0_ => absurd ((hoff 23 (by kernel_rfl)).symm.trans h0_) (by decide), fun h0_ => absurd ((hoff 29 (by kernel_rfl)).symm.trans h0_) (by decide), fun h0_ => absurd ((hoff 29 (by kernel_rfl)).symm.trans h0_) (by decide), fun h0_ => absurd ((hoff 33 (by kernel_rfl)).symm.trans h0_) (by decide), fun h0_ => absurd ((hoff 33 (by kernel_rfl)).symm.trans h0_) (by decide), Q_X3_, Q_X8_, Q_X11_, fun h0_ => absurd ((hoff 16 (by kernel_rfl)).symm.trans h0_) (by decide), fun h0_ => absurd ((hoff 19 (by kernel_rfl)).symm.trans h0_) (by decide), fun h0_ => absurd ((hoff 23 (by kernel_rfl)).symm.trans h0_) (by decide), fun h0_ => absurd ((hoff 29 (by kernel_rfl)).symm.trans h0_) (by decide), fun h0_ => absurd ((hoff 30 (by kernel_rfl)).symm.trans h0_) (by decide), fun h0_ => absurd ((hoff 33 (by kernel_rfl)).symm.trans h0_) (by decide), fun h0_ => absurd ((hoff 34 (by kernel_rfl)).symm.trans h0_) (by decide)⟩
        refine steps_cons ?_ ?_
        · rintro b a w' ⟨G3, G8, G11, G16, G19, G23, G30, G34, As, cs, Bs, bs, m3_, m8_, m11_, m16_, m19_, m23_, m29_, m30_, m33_, m34_, ha, Q_HBW, Q_F3, Q_F8, Q_F11, Q_F16, Q_F19, Q_F30, Q_F34, Q_F23, Q_F29, Q_F29c, Q_F33, Q_F33c, Q_X3_, Q_X8_, Q_X11_, Q_X16_, Q_X19_, Q_X23_, Q_X29_, Q_X30_, Q_X33_, Q_X34_⟩ hb_ hon hoff
          refine ⟨_, rfl, fun K hK => ?_⟩
          have e35 : a.tmps[35]? = some (.bool true) := by rw [ha]; exact putSel_on (e := (13, 35, .bool true)) 6 rfl rfl (hon 13 (by kernel_rfl)) rfl
          replace ha := Aside0.mk ha
          have HBW := Aside0.mk Q_HBW
          have F3 := Aside0.mk (Q_F3 (hon 3 (by kernel_rfl)))
          have F8 := Aside0.mk (Q_F8 (hon 8 (by kernel_rfl)))
          have F11 := Aside0.mk (Q_F11 (hon 11 (by kernel_rfl)))
          refine value_ (w1 := w') (v := .bool true) (by rfl) rfl ?_ ?_
          · go_simp
            (try simp only [i64_w])
            try rfl
          refine hK.out _ _ ⟨G3, G8, G11, G16, G19, G23, G30, G34, As, cs, Bs, bs, m3_, m8_, m11_, m16_, m19_, m23_, m29_, m30_, m33_, m34_, (by rw [ha.out]; exact putSel_upk 7 hb_ rfl rfl rfl), Q_HBW, Q_F3, Q_F8, Q_F11, fun h0_ => absurd ((hoff 16 (by kernel_rfl)).symm.trans h0_) (by decide), fun h0_ => absurd ((hoff 19 (by kernel_rfl)).symm.trans h0_) (by decide), fun h0_ => absurd ((hoff 30 (by kernel_rfl)).symm.trans h0_) (by decide), fun h0_ => absurd ((hoff 34 (by kernel_rfl)).symm.trans h0_) (by decide), fun h0_ => absurd ((hoff 23 (by kernel_rfl)).symm.trans h0_) (by decide), fun h0_ => absurd ((hoff 29 (by kernel_rfl)).symm.trans h0_) (by decide), fun h0_ => absurd ((hoff 29 (by kernel_rfl)).symm.trans h0_) (by decide), fun h0_ => absurd ((hoff 33 (by kernel_rfl)).symm.trans h0_) (by decide), fun h0_ => absurd ((hoff 33 (by kernel_rfl)).symm.trans h0_) (by decide), Q_X3_, Q_X8_, Q_X11_, fun h0_ => absurd ((hoff 16 (by kernel_rfl)).symm.trans h0_) (by decide), fun h0_ => absurd ((hoff 19 (by kernel_rfl)).symm.trans h0_) (by decide), fun h0_ => absurd ((hoff 23 (by kernel_rfl)).symm.trans h0_) (by decide), fun h0_ => absurd ((hoff 29 (by kernel_rfl)).symm.trans h0_) (by decide), fun h0_ => absurd ((hoff 30 (by kernel_rfl)).symm.trans h0_) (by decide), fun h0_ => absurd ((hoff 33 (by kernel_rfl)).symm.trans h0_) (by decide), fun h0_ => absurd ((hoff 34 (by kernel_rfl)).symm.trans h0_) (by decide)⟩
        refine steps_cons ?_ ?_
        · rintro b a w' ⟨G3, G8, G11, G16, G19, G23, G30, G34, As, cs, Bs, bs, m3_, m8_, m11_, m16_, m19_, m23_, m29_, m30_, m33_, m34_, ha, Q_HBW, Q_F3, Q_F8, Q_F11, Q_F16, Q_F19, Q_F30, Q_F34, Q_F23, Q_F29, Q_F29c, Q_F33, Q_F33c, Q_X3_, Q_X8_, Q_X11_, Q_X16_, Q_X19_, Q_X23_, Q_X29_, Q_X30_, Q_X33_, Q_X34_⟩ hb_ hon hoff
          refine ⟨_, rfl, fun K hK => ?_⟩
          have e0 : a.tmps[0]? = some (.slice Aa la.length ca) := by rw [ha]; exact (putSel_off rfl).trans rfl
          have e36 : a.tmps[36]? = some (.bool true) := by rw [ha]; exact putSel_on (e := (14, 36, .bool true)) 7 rfl rfl (hon 14 (by kernel_rfl)) rfl
          replace ha := Aside0.mk ha
          have HBW := Aside0.mk Q_HBW
          have F3 := Aside0.mk (Q_F3 (hon 3 (by kernel_rfl)))
          have F8 := Aside0.mk (Q_F8 (hon 8 (by kernel_rfl)))
          have F11 := Aside0.mk (Q_F11 (hon 11 (by kernel_rfl)))
          refine value_ (w1 := w') (v := .slice Aa la.length ca) (wanted_on rfl rfl rfl (e36.trans (by first | rfl | (simp [*]; done)))) rfl ?_ ?_
          · go_simp
            (try simp only [i64_w])
            try rfl
          refine hK.out _ _ ⟨G3, G8, G11, G16, G19, G23, G30, G34, As, cs, Bs, bs, m3_, m8_, m11_, m16_, m19_, m23_, m29_, m30_, m33_, m34_, (by rw [ha.out]; exact putSel_upk 8 hb_ rfl rfl rfl), Q_HBW, Q_F3, Q_F8, Q_F11, fun h0_ => absurd ((hoff 16 (by kernel_rfl)).symm.trans h0_) (by decide), Q_F19, fun h0_ => absurd ((hoff 30 (by kernel_rfl)).symm.trans h0_) (by decide), fun h0_ => absurd ((hoff 34 (by kernel_rfl)).symm.trans h0_) (by decide), Q_F23, fun h0_ => absurd ((hoff 29 (by kernel_rfl)).symm.trans h0_) (by decide), fun h0_ => absurd ((hoff 29 (by kernel_rfl)).symm.trans h0_) (by decide), fun h0_ => absurd ((hoff 33 (by kernel_rfl)).symm.trans h0_) (by decide), fun h0_ => absurd ((hoff 33 (by kernel_rfl)).symm.trans h0_) (by decide), Q_X3_, Q_X8_, Q_X11_, fun h0_ => absurd ((hoff 16 (by kernel_rfl)).symm.trans h0_) (by decide), Q_X19_, Q_X23_, fun h0_ => absurd ((hoff 29 (by kernel_rfl)).symm.trans h0_) (by decide), fun h0_ => absurd ((hoff 30 (by kernel_rfl)).symm.trans h0_) (by decide), fun h0_ => absurd ((hoff 33 (by kernel_rfl)).symm.trans h0_) (by decide), fun h0_ => absurd ((hoff 34 (by kernel_rfl)).symm.trans h0_) (by decide)⟩
        refine steps_cons ?_ ?_
        · rintro b a w' ⟨G3, G8, G11, G16, G19, G23, G30, G34, As, cs, Bs, bs, m3_, m8_, m11_, m16_, m19_, m23_, m29_, m30_, m33_, m34_, ha, Q_HBW, Q_F3, Q_F8, Q_F11, Q_F16, Q_F19, Q_F30, Q_F34, Q_F23, Q_F29, Q_F29c, Q_F33, Q_F33c, Q_X3_, Q_X8_, Q_X11_, Q_X16_, Q_X19_, Q_X23_, Q_X29_, Q_X30_, Q_X33_, Q_X34_⟩ hb_ hon hoff
          refine ⟨_, rfl, fun K hK => ?_⟩
          have e37 : a.tmps[37]? = some (.slice Aa la.length ca) := by rw [ha]; exact putSel_on (e := (15, 37, .slice Aa la.length ca)) 8 rfl rfl (hon 15 (by kernel_rfl)) rfl
          have e36 : a.tmps[36]? = some (.bool true) := by rw [ha]; exact putSel_on (e := (14, 36, .bool true)) 7 rfl rfl (hon 14 (by kernel_rfl)) rfl
          replace ha := Aside0.mk ha
          have HBW := Aside0.mk Q_HBW
          have F3 := Aside0.mk (Q_F3 (hon 3 (by kernel_rfl)))
          have F8 := Aside0.mk (Q_F8 (hon 8 (by kernel_rfl)))
          have F11 := Aside0.mk (Q_F11 (hon 11 (by kernel_rfl)))
          refine value_ (w1 := w'.alloc (.cells #[.slice Aa la.length ca] 23)) (v := .slice (some ⟨w'.heap.size, 0, none⟩) 1 1) (wanted_on rfl rfl rfl (e36.trans (by first | rfl | (simp [*]; done)))) rfl ?_ ?_
          · go_simp
            try rfl
          refine hK.out _ _ ⟨G3, G8, G11, w'.heap.size, G19, G23, G30, G34, As, cs, Bs, bs, m3_, m8_, m11_, (.slice (some ⟨w'.heap.size, 0, none⟩) 1 1), m19_, m23_, m29_, m30_, m33_, m34_, (by rw [ha.out]; exact putSel_upk 9 hb_ rfl rfl rfl), below_alloc HBW.out _, fun _ => Kd.C_alloc F3.out _, fun _ => Kd.C_alloc F8.out _, fun _ => Kd.C_alloc F11.out _, fun _ => lit1_C (Kd.C_below HRa.out HBW.out) HCa.out, fun h0_ => Kd.C_alloc (Q_F19 h0_) _, fun h0_ => absurd ((hoff 30 (by kernel_rfl)).symm.trans h0_) (by decide), fun h0_ => absurd ((hoff 34 (by kernel_rfl)).symm.trans h0_) (by decide), fun h0_ => Kd.C_alloc (Q_F23 h0_) _, fun h0_ => absurd ((hoff 29 (by kernel_rfl)).symm.trans h0_) (by decide), fun h0_ => absurd ((hoff 29 (by kernel_rfl)).symm.trans h0_) (by decide), fun h0_ => absurd ((hoff 33 (by kernel_rfl)).symm.trans h0_) (by decide), fun h0_ => absurd ((hoff 33 (by kernel_rfl)).symm.trans h0_) (by decide), Q_X3_, Q_X8_, Q_X11_, fun _ => rfl, Q_X19_, Q_X23_, fun h0_ => absurd ((hoff 29 (by kernel_rfl)).symm.trans h0_) (by decide), fun h0_ => absurd ((hoff 30 (by kernel_rfl)).symm.trans h0_) (by decide), fun h0_ => absurd ((hoff 33 (by kernel_rfl)).symm.trans h0_) (by decide), fun h0_ => absurd ((hoff 34 (by kernel_rfl)).symm.trans h0_) (by decide)⟩
        refine steps_cons ?_ ?_
        · rintro b a w' ⟨G3, G8, G11, G16, G19, G23, G30, G34, As, cs, Bs, bs, m3_, m8_, m11_, m16_, m19_, m23_, m29_, m30_, m33_, m34_, ha, Q_HBW, Q_F3, Q_F8, Q_F11, Q_F16, Q_F19, Q_F30, Q_F34, Q_F23, Q_F29, Q_F29c, Q_F33, Q_F33c, Q_X3_, Q_X8_, Q_X11_, Q_X16_, Q_X19_, Q_X23_, Q_X29_, Q_X30_, Q_X33_, Q_X34_⟩ hb_ hon hoff
          refine ⟨_, rfl, fun K hK => ?_⟩
          have e38 : a.tmps[38]? = some (m16_) := by rw [ha]; exact putSel_on (e := (16, 38, m16_)) 9 rfl rfl (hon 16 (by kernel_rfl)) rfl
          rw [Q_X16_ (hon 16 (by kernel_rfl))] at e38
          have e36 : a.tmps[36]? = some (.bool true) := by rw [ha]; exact putSel_on (e := (14, 36, .bool true)) 7 rfl rfl (hon 14 (by kernel_rfl)) rfl
          replace ha := Aside0.mk ha
          have HBW := Aside0.mk Q_HBW
          have F3 := Aside0.mk (Q_F3 (hon 3 (by kernel_rfl)))
          have F8 := Aside0.mk (Q_F8 (hon 8 (by kernel_rfl)))
          have F11 := Aside0.mk (Q_F11 (hon 11 (by kernel_rfl)))
          have F16 := Aside0.mk (Q_F16 (hon 16 (by kernel_rfl)))
          refine goes_ Try.func16 (by kernel_rfl) rfl #[.slice (some ⟨G16, 0, none⟩) 1 1] (wanted_on rfl rfl rfl (e36.trans (by first | rfl | (simp [*]; done)))) rfl rfl (by first | (simp only [List.map_toArray, List.map_cons, List.map_nil, Act.eval, Array.getD_eq_getD_getElem?, Option.getD_some, e38, e36]; done) | (simp only [List.map_toArray, List.map_cons, List.map_nil, Act.eval, Array.getD_eq_getD_getElem?, Option.getD_some, e38, e36]; rfl)) ?_
          refine (of_any (some ⟨G16, 0, none⟩) 1 [la] _ F16.out (Nat.le_refl _)).mono ?_
          rw [HZ17.out]
          rintro e w1 ⟨rfl, hb⟩
          refine ⟨_, rfl, ?_⟩
          refine hK.out _ _ ⟨G3, G8, G11, G16, G19, G23, G30, G34, As, cs, Bs, bs, m3_, m8_, m11_, m16_, m19_, m23_, m29_, m30_, m33_, m34_, (by rw [ha.out]; exact putSel_upk 10 hb_ rfl rfl rfl), below_then HBW.out HBW.out.size hb, fun _ => Kd.C_below F3.out hb, fun _ => Kd.C_below F8.out hb, fun _ => Kd.C_below F11.out hb, fun _ => Kd.C_below F16.out hb, fun h0_ => Kd.C_below (Q_F19 h0_) hb, fun h0_ => absurd ((hoff 30 (by kernel_rfl)).symm.trans h0_) (by decide), fun h0_ => absurd ((hoff 34 (by kernel_rfl)).symm.trans h0_) (by decide), fun h0_ => Kd.C_below (Q_F23 h0_) hb, fun h0_ => absurd ((hoff 29 (by kernel_rfl)).symm.trans h0_) (by decide), fun h0_ => absurd ((hoff 29 (by kernel_rfl)).symm.trans h0_) (by decide), fun h0_ => absurd ((hoff 33 (by kernel_rfl)).symm.trans h0_) (by decide), fun h0_ => absurd ((hoff 33 (by kernel_rfl)).symm.trans h0_) (by decide), Q_X3_, Q_X8_, Q_X11_, Q_X16_, Q_X19_, Q_X23_, fun h0_ => absurd ((hoff 29 (by kernel_rfl)).symm.trans h0_) (by decide), fun h0_ => absurd ((hoff 30 (by kernel_rfl)).symm.trans h0_) (by decide), fun h0_ => absurd ((hoff 33 (by kernel_rfl)).symm.trans h0_) (by decide), fun h0_ => absurd ((hoff 34 (by kernel_rfl)).symm.trans h0_) (by decide)⟩
        refine steps_cons ?_ ?_
        · rintro b a w' ⟨G3, G8, G11, G16, G19, G23, G30, G34, As, cs, Bs, bs, m3_, m8_, m11_, m16_, m19_, m23_, m29_, m30_, m33_, m34_, ha, Q_HBW, Q_F3, Q_F8, Q_F11, Q_F16, Q_F19, Q_F30, Q_F34, Q_F23, Q_F29, Q_F29c, Q_F33, Q_F33c, Q_X3_, Q_X8_, Q_X11_, Q_X16_, Q_X19_, Q_X23_, Q_X29_, Q_X30_, Q_X33_, Q_X34_⟩ hb_ hon hoff
          refine ⟨_, rfl, fun K hK => ?_⟩
          have e1 : a.tmps[1]? = some (.slice Ab lb.length cb) := by rw [ha]; exact (putSel_off rfl).trans rfl
          have e36 : a.tmps[36]? = some (.bool true) := by rw [ha]; exact putSel_on (e := (14, 36, .bool true)) 7 rfl rfl (hon 14 (by kernel_rfl)) rfl
          replace ha := Aside0.mk ha
          have HBW := Aside0.mk Q_HBW
          have F3 := Aside0.mk (Q_F3 (hon 3 (by kernel_rfl)))
          have F8 := Aside0.mk (Q_F8 (hon 8 (by kernel_rfl)))
          have F11 := Aside0.mk (Q_F11 (hon 11 (by kernel_rfl)))
          refine value_ (w1 := w') (v := .slice Ab lb.length cb) (wanted_on rfl rfl rfl (e36.trans (by first | rfl | (simp [*]; done)))) rfl ?_ ?_
          · go_simp
            (try simp only [i64_w])
            try rfl
          refine hK.out _ _ ⟨G3, G8, G11, G16, G19, G23, G30, G34, As, cs, Bs, bs, m3_, m8_, m11_, m16_, m19_, m23_, m29_, m30_, m33_, m34_, (by rw [ha.out]; exact putSel_upk 11 hb_ rfl rfl rfl), Q_HBW, Q_F3, Q_F8, Q_F11, Q_F16, fun h0_ => absurd ((hoff 19 (by kernel_rfl)).symm.trans h0_) (by decide), fun h0_ => absurd ((hoff 30 (by kernel_rfl)).symm.trans h0_) (by decide), fun h0_ => absurd ((hoff 34 (by kernel_rfl)).symm.trans h0_) (by decide), Q_F23, fun h0_ => absurd ((hoff 29 (by kernel_rfl)).symm.trans h0_) (by decide), fun h0_ => absurd ((hoff 29 (by kernel_rfl)).symm.trans h0_) (by decide), fun h0_ => absurd ((hoff 33 (by kernel_rfl)).symm.trans h0_) (by decide), fun h0_ => absurd ((hoff 33 (by kernel_rfl)).symm.trans h0_) (by decide), Q_X3_, Q_X8_, Q_X11_, Q_X16_, fun h0_ => absurd ((hoff 19 (by kernel_rfl)).symm.trans h0_) (by decide), Q_X23_, fun h0_ => absurd ((hoff 29 (by kernel_rfl)).symm.trans h0_) (by decide), fun h0_ => absurd ((hoff 30 (by kernel_rfl)).symm.trans h0_) (by decide), fun h0_ => absurd ((hoff 33 (by kernel_rfl)).symm.trans h0_) (by decide), fun h0_ => absurd ((hoff 34 (by kernel_rfl)).symm.trans h0_) (by decide)⟩
        refine steps_cons ?_ ?_
        · rintro b a w' ⟨G3, G8, G11, G16, G19, G23, G30, G34, As, cs, Bs, bs, m3_, m8_, m11_, m16_, m19_, m23_, m29_, m30_, m33_, m34_, ha, Q_HBW, Q_F3, Q_F8, Q_F11, Q_F16, Q_F19, Q_F30, Q_F34, Q_F23, Q_F29, Q_F29c, Q_F33, Q_F33c, Q_X3_, Q_X8_, Q_X11_, Q_X16_, Q_X19_, Q_X23_, Q_X29_, Q_X30_, Q_X33_, Q_X34_⟩ hb_ hon hoff
          refine ⟨_, rfl, fun K hK => ?_⟩
          have e40 : a.tmps[40]? = some (.slice Ab lb.length cb) := by rw [ha]; exact putSel_on (e := (18, 40, .slice Ab lb.length cb)) 11 rfl rfl (hon 18 (by kernel_rfl)) rfl
          have e36 : a.tmps[36]? = some (.bool true) := by rw [ha]; exact putSel_on (e := (14, 36, .bool true)) 7 rfl rfl (hon 14 (by kernel_rfl)) rfl
          replace ha := Aside0.mk ha
          have HBW := Aside0.mk Q_HBW
          have F3 := Aside0.mk (Q_F3 (hon 3 (by kernel_rfl)))
          have F8 := Aside0.mk (Q_F8 (hon 8 (by kernel_rfl)))
          have F11 := Aside0.mk (Q_F11 (hon 11 (by kernel_rfl)))
          refine value_ (w1 := w'.alloc (.cells #[.slice Ab lb.length cb] 23)) (v := .slice (some ⟨w'.heap.size, 0, none⟩) 1 1) (wanted_on rfl rfl rfl (e36.trans (by first | rfl | (simp [*]; done)))) rfl ?_ ?_
          · go_simp
            try rfl
          refine hK.out _ _ ⟨G3, G8, G11, G16, w'.heap.size, G23, G30, G34, As, cs, Bs, bs, m3_, m8_, m11_, m16_, (.slice (some ⟨w'.heap.size, 0, none⟩) 1 1), m23_, m29_, m30_, m33_, m34_, (by rw [ha.out]; exact putSel_upk 12 hb_ rfl rfl rfl), below_alloc HBW.out _, fun _ => Kd.C_alloc F3.out _, fun _ => Kd.C_alloc F8.out _, fun _ => Kd.C_alloc F11.out _, fun h0_ => Kd.C_alloc (Q_F16 h0_) _, fun _ => lit1_C (Kd.C_below HRb.out HBW.out) HCb.out, fun h0_ => absurd ((hoff 30 (by kernel_rfl)).symm.trans h0_) (by decide), fun h0_ => absurd ((hoff 34 (by kernel_rfl)).symm.trans h0_) (by decide), fun h0_ => Kd.C_alloc (Q_F23 h0_) _, fun h0_ => absurd ((hoff 29 (by kernel_rfl)).symm.trans h0_) (by decide), fun h0_ => absurd ((hoff 29 (by kernel_rfl)).symm.trans h0_) (by decide), fun h0_ => absurd ((hoff 33 (by kernel_rfl)).symm.trans h0_) (by decide), fun h0_ => absurd ((hoff 33 (by kernel_rfl)).symm.trans h0_) (by decide), Q_X3_, Q_X8_, Q_X11_, Q_X16_, fun _ => rfl, Q_X23_, fun h0_ => absurd ((hoff 29 (by kernel_rfl)).symm.trans h0_) (by decide), fun h0_ => absurd ((hoff 30 (by kernel_rfl)).symm.trans h0_) (by decide), fun h0_ => absurd ((hoff 33 (by kernel_rfl)).symm.trans h0_) (by decide), fun h0_ => absurd ((hoff 34 (by kernel_rfl)).symm.trans h0_) (by decide)⟩
        refine steps_cons ?_ ?_
        · rintro b a w' ⟨G3, G8, G11, G16, G19, G23, G30, G34, As, cs, Bs, bs, m3_, m8_, m11_, m16_, m19_, m23_, m29_, m30_, m33_, m34_, ha, Q_HBW, Q_F3, Q_F8, Q_F11, Q_F16, Q_F19, Q_F30, Q_F34, Q_F23, Q_F29, Q_F29c, Q_F33, Q_F33c, Q_X3_, Q_X8_, Q_X11_, Q_X16_, Q_X19_, Q_X23_, Q_X29_, Q_X30_, Q_X33_, Q_X34_⟩ hb_ hon hoff
          refine ⟨_, rfl, fun K hK => ?_⟩
          have e39 : a.tmps[39]? = some (.int .u32 z) := by rw [ha]; exact putSel_on (e := (17, 39, .int .u32 z)) 10 rfl rfl (hon 17 (by kernel_rfl)) rfl
          have e41 : a.tmps[41]? = some (m19_) := by rw [ha]; exact putSel_on (e := (19, 41, m19_)) 12 rfl rfl (hon 19 (by kernel_rfl)) rfl
          rw [Q_X19_ (hon 19 (by kernel_rfl))] at e41
          have e36 : a.tmps[36]? = some (.bool true) := by rw [ha]; exact putSel_on (e := (14, 36, .bool true)) 7 rfl rfl (hon 14 (by kernel_rfl)) rfl
          replace ha := Aside0.mk ha
          have HBW := Aside0.mk Q_HBW
          have F3 := Aside0.mk (Q_F3 (hon 3 (by kernel_rfl)))
          have F8 := Aside0.mk (Q_F8 (hon 8 (by kernel_rfl)))
          have F11 := Aside0.mk (Q_F11 (hon 11 (by kernel_rfl)))
          have F16 := Aside0.mk (Q_F16 (hon 16 (by kernel_rfl)))
          have F19 := Aside0.mk (Q_F19 (hon 19 (by kernel_rfl)))
          refine goes_ Try.func17 (by kernel_rfl) rfl #[.int .u32 z, .slice (some ⟨G19, 0, none⟩) 1 1] (wanted_on rfl rfl rfl (e36.trans (by first | rfl | (simp [*]; done)))) rfl rfl (by first | (simp only [List.map_toArray, List.map_cons, List.map_nil, Act.eval, Array.getD_eq_getD_getElem?, Option.getD_some, e39, e41, e36]; done) | (simp only [List.map_toArray, List.map_cons, List.map_nil, Act.eval, Array.getD_eq_getD_getElem?, Option.getD_some, e39, e41, e36]; rfl)) ?_
          refine (and_any z (some ⟨G19, 0, none⟩) 1 [lb] _ F19.out (Nat.le_refl _)).mono ?_
          rw [HZ20.out]
          rintro e w1 ⟨rfl, hb⟩
          refine ⟨_, rfl, ?_⟩
          refine hK.out _ _ ⟨G3, G8, G11, G16, G19, G23, G30, G34, As, cs, Bs, bs, m3_, m8_, m11_, m16_, m19_, m23_, m29_, m30_, m33_, m34_, (by rw [ha.out]; exact putSel_upk 13 hb_ rfl rfl rfl), below_then HBW.out HBW.out.size hb, fun _ => Kd.C_below F3.out hb, fun _ => Kd.C_below F8.out hb, fun _ => Kd.C_below F11.out hb, fun _ => Kd.C_below F16.out hb, fun _ => Kd.C_below F19.out hb, fun h0_ => absurd ((hoff 30 (by kernel_rfl)).symm.trans h0_) (by decide), fun h0_ => absurd ((hoff 34 (by kernel_rfl)).symm.trans h0_) (by decide), fun h0_ => Kd.C_below (Q_F23 h0_) hb, fun h0_ => absurd ((hoff 29 (by kernel_rfl)).symm.trans h0_) (by decide), fun h0_ => absurd ((hoff 29 (by kernel_rfl)).symm.trans h0_) (by decide), fun h0_ => absurd ((hoff 33 (by kernel_rfl)).symm.trans h0_) (by decide), fun h0_ => absurd ((hoff 33 (by kernel_rfl)).symm.trans h0_) (by decide), Q_X3_, Q_X8_, Q_X11_, Q_X16_, Q_X19_, Q_X23_, fun h0_ => absurd ((hoff 29 (by kernel_rfl)).symm.trans h0_) (by decide), fun h0_ => absurd ((hoff 30 (by kernel_rfl)).symm.trans h0_) (by decide), fun h0_ => absurd ((hoff 33 (by kernel_rfl)).symm.trans h0_) (by decide), fun h0_ => absurd ((hoff 34 (by kernel_rfl)).symm.trans h0_) (by decide)⟩
        refine steps_cons ?_ ?_
        · rintro b a w' ⟨G3, G8, G11, G16, G19, G23, G30, G34, As, cs, Bs, bs, m3_, m8_, m11_, m16_, m19_, m23_, m29_, m30_, m33_, m34_, ha, Q_HBW, Q_F3, Q_F8, Q_F11, Q_F16, Q_F19, Q_F30, Q_F34, Q_F23, Q_F29, Q_F29c, Q_F33, Q_F33c, Q_X3_, Q_X8_, Q_X11_, Q_X16_, Q_X19_, Q_X23_, Q_X29_, Q_X30_, Q_X33_, Q_X34_⟩ hb_ hon hoff
          refine ⟨_, rfl, fun K hK => ?_⟩
          have e0 : a.tmps[0]? = some (.slice Aa la.length ca) := by rw [ha]; exact (putSel_off rfl).trans rfl
          have e36 : a.tmps[36]? = some (.bool true) := by rw [ha]; exact putSel_on (e := (14, 36, .bool true)) 7 rfl rfl (hon 14 (by kernel_rfl)) rfl
          replace ha := Aside0.mk ha
          have HBW := Aside0.mk Q_HBW
          have F3 := Aside0.mk (Q_F3 (hon 3 (by kernel_rfl)))
          have F8 := Aside0.mk (Q_F8 (hon 8 (by kernel_rfl)))
          have F11 := Aside0.mk (Q_F11 (hon 11 (by kernel_rfl)))
          refine value_ (w1 := w') (v := .slice Aa la.length ca) (wanted_on rfl rfl rfl (e36.trans (by first | rfl | (simp [*]; done)))) rfl ?_ ?_
          · go_simp
            (try simp only [i64_w])
            try rfl
          refine hK.out _ _ ⟨G3, G8, G11, G16, G19, G23, G30, G34, As, cs, Bs, bs, m3_, m8_, m11_, m16_, m19_, m23_, m29_, m30_, m33_, m34_, (by rw [ha.out]; exact putSel_upk 14 hb_ rfl rfl rfl), Q_HBW, Q_F3, Q_F8, Q_F11, Q_F16, Q_F19, fun h0_ => absurd ((hoff 30 (by kernel_rfl)).symm.trans h0_) (by decide), fun h0_ => absurd ((hoff 34 (by kernel_rfl)).symm.trans h0_) (by decide), fun h0_ => absurd ((hoff 23 (by kernel_rfl)).symm.trans h0_) (by decide), fun h0_ => absurd ((hoff 29 (by kernel_rfl)).symm.trans h0_) (by decide), fun h0_ => absurd ((hoff 29 (by kernel_rfl)).symm.trans h0_) (by decide), fun h0_ => absurd ((hoff 33 (by kernel_rfl)).symm.trans h0_) (by decide), fun h0_ => absurd ((hoff 33 (by kernel_rfl)).symm.trans h0_) (by decide), Q_X3_, Q_X8_, Q_X11_, Q_X16_, Q_X19_, fun h0_ => absurd ((hoff 23 (by kernel_rfl)).symm.trans h0_) (by decide), fun h0_ => absurd ((hoff 29 (by kernel_rfl)).symm.trans h0_) (by decide), fun h0_ => absurd ((hoff 30 (by kernel_rfl)).symm.trans h0_) (by decide), fun h0_ => absurd ((hoff 33 (by kernel_rfl)).symm.trans h0_) (by decide), fun h0_ => absurd ((hoff 34 (by kernel_rfl)).symm.trans h0_) (by decide)⟩
        refine steps_cons ?_ ?_
        · rintro b a w' ⟨G3, G8, G11, G16, G19, G23, G30, G34, As, cs, Bs, bs, m3_, m8_, m11_, m16_, m19_, m23_, m29_, m30_, m33_, m34_, ha, Q_HBW, Q_F3, Q_F8, Q_F11, Q_F16, Q_F19, Q_F30, Q_F34, Q_F23, Q_F29, Q_F29c, Q_F33, Q_F33c, Q_X3_, Q_X8_, Q_X11_, Q_X16_, Q_X19_, Q_X23_, Q_X29_, Q_X30_, Q_X33_, Q_X34_⟩ hb_ hon hoff
          refine ⟨_, rfl, fun K hK => ?_⟩
          have e1 : a.tmps[1]? = some (.slice Ab lb.length cb) := by rw [ha]; exact (putSel_off rfl).trans rfl
          have e36 : a.tmps[36]? = some (.bool true) := by rw [ha]; exact putSel_on (e := (14, 36, .bool true)) 7 rfl rfl (hon 14 (by kernel_rfl)) rfl
          replace ha := Aside0.mk ha
          have HBW := Aside0.mk Q_HBW
          have F3 := Aside0.mk (Q_F3 (hon 3 (by kernel_rfl)))
          have F8 := Aside0.mk (Q_F8 (hon 8 (by kernel_rfl)))
          have F11 := Aside0.mk (Q_F11 (hon 11 (by kernel_rfl)))
          refine value_ (w1 := w') (v := .slice Ab lb.length cb) (wanted_on rfl rfl rfl (e36.trans (by first | rfl | (simp [*]; done)))) rfl ?_ ?_
          · go_simp
            (try simp only [i64_w])
            try rfl
          refine hK.out _ _ ⟨G3, G8, G11, G16, G19, G23, G30, G34, As, cs, Bs, bs, m3_, m8_, m11_, m16_, m19_, m23_, m29_, m30_, m33_, m34_, (by rw [ha.out]; exact putSel_upk 15 hb_ rfl rfl rfl), Q_HBW, Q_F3, Q_F8, Q_F11, Q_F16, Q_F19, fun h0_ => absurd ((hoff 30 (by kernel_rfl)).symm.trans h0_) (by decide), fun h0_ => absurd ((hoff 34 (by kernel_rfl)).symm.trans h0_) (by decide), fun h0_ => absurd ((hoff 23 (by kernel_rfl)).symm.trans h0_) (by decide), fun h0_ => absurd ((hoff 29 (by kernel_rfl)).symm.trans h0_) (by decide), fun h0_ => absurd ((hoff 29 (by kernel_rfl)).symm.trans h0_) (by decide), fun h0_ => absurd ((hoff 33 (by kernel_rfl)).symm.trans h0_) (by decide), fun h0_ => absurd ((hoff 33 (by kernel_rfl)).symm.trans h0_) (by decide), Q_X3_, Q_X8_, Q_X11_, Q_X16_, Q_X19_, fun h0_ => absurd ((hoff 23 (by kernel_rfl)).symm.trans h0_) (by decide), fun h0_ => absurd ((hoff 29 (by kernel_rfl)).symm.trans h0_) (by decide), fun h0_ => absurd ((hoff 30 (by kernel_rfl)).symm.trans h0_) (by decide), fun h0_ => absurd ((hoff 33 (by kernel_rfl)).symm.trans h0_) (by decide), fun h0_ => absurd ((hoff 34 (by kernel_rfl)).symm.trans h0_) (by decide)⟩
        refine steps_cons ?_ ?_
        · rintro b a w' ⟨G3, G8, G11, G16, G19, G23, G30, G34, As, cs, Bs, bs, m3_, m8_, m11_, m16_, m19_, m23_, m29_, m30_, m33_, m34_, ha, Q_HBW, Q_F3, Q_F8, Q_F11, Q_F16, Q_F19, Q_F30, Q_F34, Q_F23, Q_F29, Q_F29c, Q_F33, Q_F33c, Q_X3_, Q_X8_, Q_X11_, Q_X16_, Q_X19_, Q_X23_, Q_X29_, Q_X30_, Q_X33_, Q_X34_⟩ hb_ hon hoff
          refine ⟨_, rfl, fun K hK => ?_⟩
          have e43 : a.tmps[43]? = some (.slice Aa la.length ca) := by rw [ha]; exact putSel_on (e := (21, 43, .slice Aa la.length ca)) 14 rfl rfl (hon 21 (by kernel_rfl)) rfl
          have e44 : a.tmps[44]? = some (.slice Ab lb.length cb) := by rw [ha]; exact putSel_on (e := (22, 44, .slice Ab lb.length cb)) 15 rfl rfl (hon 22 (by kernel_rfl)) rfl
          have e36 : a.tmps[36]? = some (.bool true) := by rw [ha]; exact putSel_on (e := (14, 36, .bool true)) 7 rfl rfl (hon 14 (by kernel_rfl)) rfl
          replace ha := Aside0.mk ha
          have HBW := Aside0.mk Q_HBW
          have F3 := Aside0.mk (Q_F3 (hon 3 (by kernel_rfl)))
          have F8 := Aside0.mk (Q_F8 (hon 8 (by kernel_rfl)))
          have F11 := Aside0.mk (Q_F11 (hon 11 (by kernel_rfl)))
          refine value_ (w1 := w'.alloc (.cells #[.slice Aa la.length ca, .slice Ab lb.length cb] 23)) (v := .slice (some ⟨w'.heap.size, 0, none⟩) 2 2) (wanted_on rfl rfl rfl (e36.trans (by first | rfl | (simp [*]; done)))) rfl ?_ ?_
          · go_simp
            try rfl
          refine hK.out _ _ ⟨G3, G8, G11, G16, G19, w'.heap.size, G30, G34, As, cs, Bs, bs, m3_, m8_, m11_, m16_, m19_, (.slice (some ⟨w'.heap.size, 0, none⟩) 2 2), m29_, m30_, m33_, m34_, (by rw [ha.out]; exact putSel_upk 16 hb_ rfl rfl rfl), below_alloc HBW.out _, fun _ => Kd.C_alloc F3.out _, fun _ => Kd.C_alloc F8.out _, fun _ => Kd.C_alloc F11.out _, fun h0_ => Kd.C_alloc (Q_F16 h0_) _, fun h0_ => Kd.C_alloc (Q_F19 h0_) _, fun h0_ => absurd ((hoff 30 (by kernel_rfl)).symm.trans h0_) (by decide), fun h0_ => absurd ((hoff 34 (by kernel_rfl)).symm.trans h0_) (by decide), fun _ => lit2_C (Kd.C_below HRa.out HBW.out) HCa.out (Kd.C_below HRb.out HBW.out) HCb.out, fun h0_ => absurd ((hoff 29 (by kernel_rfl)).symm.trans h0_) (by decide), fun h0_ => absurd ((hoff 29 (by kernel_rfl)).symm.trans h0_) (by decide), fun h0_ => absurd ((hoff 33 (by kernel_rfl)).symm.trans h0_) (by decide), fun h0_ => absurd ((hoff 33 (by kernel_rfl)).symm.trans h0_) (by decide), Q_X3_, Q_X8_, Q_X11_, Q_X16_, Q_X19_, fun _ => rfl, fun h0_ => absurd ((hoff 29 (by kernel_rfl)).symm.trans h0_) (by decide), fun h0_ => absurd ((hoff 30 (by kernel_rfl)).symm.trans h0_) (by decide), fun h0_ => absurd ((hoff 33 (by kernel_rfl)).symm.trans h0_) (by decide), fun h0_ => absurd ((hoff 34 (by kernel_rfl)).symm.trans h0_) (by decide)⟩
        refine steps_cons ?_ ?_
        · rintro b a w' ⟨G3, G8, G11, G16, G19, G23, G30, G34, As, cs, Bs, bs, m3_, m8_, m11_, m16_, m19_, m23_, m29_, m30_, m33_, m34_, ha, Q_HBW, Q_F3, Q_F8, Q_F11, Q_F16, Q_F19, Q_F30, Q_F34, Q_F23, Q_F29, Q_F29c, Q_F33, Q_F33c, Q_X3_, Q_X8_, Q_X11_, Q_X16_, Q_X19_, Q_X23_, Q_X29_, Q_X30_, Q_X33_, Q_X34_⟩ hb_ hon hoff
          refine ⟨_, rfl, fun K hK => ?_⟩
          have e45 : a.tmps[45]? = some (m23_) := by rw [ha]; exact putSel_on (e := (23, 45, m23_)) 16 rfl rfl (hon 23 (by kernel_rfl)) rfl
          rw [Q_X23_ (hon 23 (by kernel_rfl))] at e45
          have e36 : a.tmps[36]? = some (.bool true) := by rw [ha]; exact putSel_on (e := (14, 36, .bool true)) 7 rfl rfl (hon 14 (by kernel_rfl)) rfl
          replace ha := Aside0.mk ha
          have HBW := Aside0.mk Q_HBW
          have F3 := Aside0.mk (Q_F3 (hon 3 (by kernel_rfl)))
          have F8 := Aside0.mk (Q_F8 (hon 8 (by kernel_rfl)))
          have F11 := Aside0.mk (Q_F11 (hon 11 (by kernel_rfl)))
          have F16 := Aside0.mk (Q_F16 (hon 16 (by kernel_rfl)))
          have F19 := Aside0.mk (Q_F19 (hon 19 (by kernel_rfl)))
          have F23 := Aside0.mk (Q_F23 (hon 23 (by kernel_rfl)))
          refine goes_ Try.func16 (by kernel_rfl) rfl #[.slice (some ⟨G23, 0, none⟩) 2 2] (wanted_on rfl rfl rfl (e36.trans (by first | rfl | (simp [*]; done)))) rfl rfl (by first | (simp only [List.map_toArray, List.map_cons, List.map_nil, Act.eval, Array.getD_eq_getD_getElem?, Option.getD_some, e45, e36]; done) | (simp only [List.map_toArray, List.map_cons, List.map_nil, Act.eval, Array.getD_eq_getD_getElem?, Option.getD_some, e45, e36]; rfl)) ?_
          refine (of_any (some ⟨G23, 0, none⟩) 2 [la, lb] _ F23.out (Nat.le_refl _)).mono ?_
          rw [HZ24.out]
          rintro e w1 ⟨rfl, hb⟩
          refine ⟨_, rfl, ?_⟩
          refine hK.out _ _ ⟨G3, G8, G11, G16, G19, G23, G30, G34, As, cs, Bs, bs, m3_, m8_, m11_, m16_, m19_, m23_, m29_, m30_, m33_, m34_, (by rw [ha.out]; exact putSel_upk 17 hb_ rfl rfl rfl), below_then HBW.out HBW.out.size hb, fun _ => Kd.C_below F3.out hb, fun _ => Kd.C_below F8.out hb, fun _ => Kd.C_below F11.out hb, fun _ => Kd.C_below F16.out hb, fun _ => Kd.C_below F19.out hb, fun h0_ => absurd ((hoff 30 (by kernel_rfl)).symm.trans h0_) (by decide), fun h0_ => absurd ((hoff 34 (by kernel_rfl)).symm.trans h0_) (by decide), fun _ => Kd.C_below F23.out hb, fun h0_ => absurd ((hoff 29 (by kernel_rfl)).symm.trans h0_) (by decide), fun h0_ => absurd ((hoff 29 (by kernel_rfl)).symm.trans h0_) (by decide), fun h0_ => absurd ((hoff 33 (by kernel_rfl)).symm.trans h0_) (by decide), fun h0_ => absurd ((hoff 33 (by kernel_rfl)).symm.trans h0_) (by decide), Q_X3_, Q_X8_, Q_X11_, Q_X16_, Q_X19_, Q_X23_, fun h0_ => absurd ((hoff 29 (by kernel_rfl)).symm.trans h0_) (by decide), fun h0_ => absurd ((hoff 30 (by kernel_rfl)).symm.trans h0_) (by decide), fun h0_ => absurd ((hoff 33 (by kernel_rfl)).symm.trans h0_) (by decide), fun h0_ => absurd ((hoff 34 (by kernel_rfl)).symm.trans h0_) (by decide)⟩
        refine steps_cons ?_ ?_
        · rintro b a w' ⟨G3, G8, G11, G16, G19, G23, G30, G34, As, cs, Bs, bs, m3_, m8_, m11_, m16_, m19_, m23_, m29_, m30_, m33_, m34_, ha, Q_HBW, Q_F3, Q_F8, Q_F11, Q_F16, Q_F19, Q_F30, Q_F34, Q_F23, Q_F29, Q_F29c, Q_F33, Q_F33c, Q_X3_, Q_X8_, Q_X11_, Q_X16_, Q_X19_, Q_X23_, Q_X29_, Q_X30_, Q_X33_, Q_X34_⟩ hb_ hon hoff
          refine ⟨_, rfl, fun K hK => ?_⟩
          have e42 : a.tmps[42]? = some (.int .u32 zab) := by rw [ha]; exact putSel_on (e := (20, 42, .int .u32 zab)) 13 rfl rfl (hon 20 (by kernel_rfl)) rfl
          have e46 : a.tmps[46]? = some (.int .u32 zab) := by rw [ha]; exact putSel_on (e := (24, 46, .int .u32 zab)) 17 rfl rfl (hon 24 (by kernel_rfl)) rfl
          have e36 : a.tmps[36]? = some (.bool true) := by rw [ha]; exact putSel_on (e := (14, 36, .bool true)) 7 rfl rfl (hon 14 (by kernel_rfl)) rfl
          replace ha := Aside0.mk ha
          have HBW := Aside0.mk Q_HBW
          have F3 := Aside0.mk (Q_F3 (hon 3 (by kernel_rfl)))
          have F8 := Aside0.mk (Q_F8 (hon 8 (by kernel_rfl)))
          have F11 := Aside0.mk (Q_F11 (hon 11 (by kernel_rfl)))
          have F16 := Aside0.mk (Q_F16 (hon 16 (by kernel_rfl)))
          have F19 := Aside0.mk (Q_F19 (hon 19 (by kernel_rfl)))
          have F23 := Aside0.mk (Q_F23 (hon 23 (by kernel_rfl)))
          refine value_ (w1 := w') (v := .bool true) (wanted_on rfl rfl rfl (e36.trans (by first | rfl | (simp [*]; done)))) rfl ?_ ?_
          · go_simp
            (try simp only [i64_w])
            try rfl
          refine hK.out _ _ ⟨G3, G8, G11, G16, G19, G23, G30, G34, As, cs, Bs, bs, m3_, m8_, m11_, m16_, m19_, m23_, m29_, m30_, m33_, m34_, (by rw [ha.out]; exact putSel_upk 18 hb_ rfl rfl rfl), Q_HBW, Q_F3, Q_F8, Q_F11, Q_F16, Q_F19, fun h0_ => absurd ((hoff 30 (by kernel_rfl)).symm.trans h0_) (by decide), fun h0_ => absurd ((hoff 34 (by kernel_rfl)).symm.trans h0_) (by decide), Q_F23, fun h0_ => absurd ((hoff 29 (by kernel_rfl)).symm.trans h0_) (by decide), fun h0_ => absurd ((hoff 29 (by kernel_rfl)).symm.trans h0_) (by decide), fun h0_ => absurd ((hoff 33 (by kernel_rfl)).symm.trans h0_) (by decide), fun h0_ => absurd ((hoff 33 (by kernel_rfl)).symm.trans h0_) (by decide), Q_X3_, Q_X8_, Q_X11_, Q_X16_, Q_X19_, Q_X23_, fun h0_ => absurd ((hoff 29 (by kernel_rfl)).symm.trans h0_) (by decide), fun h0_ => absurd ((hoff 30 (by kernel_rfl)).symm.trans h0_) (by decide), fun h0_ => absurd ((hoff 33 (by kernel_rfl)).symm.trans h0_) (by decide), fun h0_ => absurd ((hoff 34 (by kernel_rfl)).symm.trans h0_) (by decide)⟩
        refine steps_cons ?_ ?_
        · rintro b a w' ⟨G3, G8, G11, G16, G19, G23, G30, G34, As, cs, Bs, bs, m3_, m8_, m11_, m16_, m19_, m23_, m29_, m30_, m33_, m34_, ha, Q_HBW, Q_F3, Q_F8, Q_F11, Q_F16, Q_F19, Q_F30, Q_F34, Q_F23, Q_F29, Q_F29c, Q_F33, Q_F33c, Q_X3_, Q_X8_, Q_X11_, Q_X16_, Q_X19_, Q_X23_, Q_X29_, Q_X30_, Q_X33_, Q_X34_⟩ hb_ hon hoff
          refine ⟨_, rfl, fun K hK => ?_⟩
          have e36 : a.tmps[36]? = some (.bool true) := by rw [ha]; exact putSel_on (e := (14, 36, .bool true)) 7 rfl rfl (hon 14 (by kernel_rfl)) rfl
          have e47 : a.tmps[47]? = some (.bool true) := by rw [ha]; exact putSel_on (e := (25, 47, .bool true)) 18 rfl rfl (hon 25 (by kernel_rfl)) rfl
          replace ha := Aside0.mk ha
          have HBW := Aside0.mk Q_HBW
          have F3 := Aside0.mk (Q_F3 (hon 3 (by kernel_rfl)))
          have F8 := Aside0.mk (Q_F8 (hon 8 (by kernel_rfl)))
          have F11 := Aside0.mk (Q_F11 (hon 11 (by kernel_rfl)))
          have F16 := Aside0.mk (Q_F16 (hon 16 (by kernel_rfl)))
          have F19 := Aside0.mk (Q_F19 (hon 19 (by kernel_rfl)))
          have F23 := Aside0.mk (Q_F23 (hon 23 (by kernel_rfl)))
          refine value_ (w1 := w') (v := .bool true) (by rfl) rfl ?_ ?_
          · go_simp
            (try simp only [i64_w])
            try rfl
          refine hK.out _ _ ⟨G3, G8, G11, G16, G19, G23, G30, G34, As, cs, Bs, bs, m3_, m8_, m11_, m16_, m19_, m23_, m29_, m30_, m33_, m34_, (by rw [ha.out]; exact putSel_upk 19 hb_ rfl rfl rfl), Q_HBW, Q_F3, Q_F8, Q_F11, Q_F16, Q_F19, fun h0_ => absurd ((hoff 30 (by kernel_rfl)).symm.trans h0_) (by decide), fun h0_ => absurd ((hoff 34 (by kernel_rfl)).symm.trans h0_) (by decide), Q_F23, fun h0_ => absurd ((hoff 29 (by kernel_rfl)).symm.trans h0_) (by decide), fun h0_ => absurd ((hoff 29 (by kernel_rfl)).symm.trans h0_) (by decide), fun h0_ => absurd ((hoff 33 (by kernel_rfl)).symm.trans h0_) (by decide), fun h0_ => absurd ((hoff 33 (by kernel_rfl)).symm.trans h0_) (by decide), Q_X3_, Q_X8_, Q_X11_, Q_X16_, Q_X19_, Q_X23_, fun h0_ => absurd ((hoff 29 (by kernel_rfl)).symm.trans h0_) (by decide), fun h0_ => absurd ((hoff 30 (by kernel_rfl)).symm.trans h0_) (by decide), fun h0_ => absurd ((hoff 33 (by kernel_rfl)).symm.trans h0_) (by decide), fun h0_ => absurd ((hoff 34 (by kernel_rfl)).symm.trans h0_) (by decide)⟩
        refine steps_cons ?_ ?_
        · rintro b a w' ⟨G3, G8, G11, G16, G19, G23, G30, G34, As, cs, Bs, bs, m3_, m8_, m11_, m16_, m19_, m23_, m29_, m30_, m33_, m34_, ha, Q_HBW, Q_F3, Q_F8, Q_F11, Q_F16, Q_F19, Q_F30, Q_F34, Q_F23, Q_F29, Q_F29c, Q_F33, Q_F33c, Q_X3_, Q_X8_, Q_X11_, Q_X16_, Q_X19_, Q_X23_, Q_X29_, Q_X30_, Q_X33_, Q_X34_⟩ hb_ hon hoff
          refine ⟨_, rfl, fun K hK => ?_⟩
          have e48 : a.tmps[48]? = some (.bool true) := by rw [ha]; exact putSel_on (e := (26, 48, .bool true)) 19 rfl rfl (hon 26 (by kernel_rfl)) rfl
          replace ha := Aside0.mk ha
          have HBW := Aside0.mk Q_HBW
          have F3 := Aside0.mk (Q_F3 (hon 3 (by kernel_rfl)))
          have F8 := Aside0.mk (Q_F8 (hon 8 (by kernel_rfl)))
          have F11 := Aside0.mk (Q_F11 (hon 11 (by kernel_rfl)))
          have F16 := Aside0.mk (Q_F16 (hon 16 (by kernel_rfl)))
          have F19 := Aside0.mk (Q_F19 (hon 19 (by kernel_rfl)))
          have F23 := Aside0.mk (Q_F23 (hon 23 (by kernel_rfl)))
          refine value_ (w1 := w') (v := .bool true) (by rfl) rfl ?_ ?_
          · go_simp
            (try simp only [i64_w])
            try rfl
          refine hK.out _ _ ⟨G3, G8, G11, G16, G19, G23, G30, G34, As, cs, Bs, bs, m3_, m8_, m11_, m16_, m19_, m23_, m29_, m30_, m33_, m34_, (by rw [ha.out]; exact putSel_upk 20 hb_ rfl rfl rfl), Q_HBW, Q_F3, Q_F8, Q_F11, Q_F16, Q_F19, fun h0_ => absurd ((hoff 30 (by kernel_rfl)).symm.trans h0_) (by decide), fun h0_ => absurd ((hoff 34 (by kernel_rfl)).symm.trans h0_) (by decide), Q_F23, fun h0_ => absurd ((hoff 29 (by kernel_rfl)).symm.trans h0_) (by decide), fun h0_ => absurd ((hoff 29 (by kernel_rfl)).symm.trans h0_) (by decide), fun h0_ => absurd ((hoff 33 (by kernel_rfl)).symm.trans h0_) (by decide), fun h0_ => absurd ((hoff 33 (by kernel_rfl)).symm.trans h0_) (by decide), Q_X3_, Q_X8_, Q_X11_, Q_X16_, Q_X19_, Q_X23_, fun h0_ => absurd ((hoff 29 (by kernel_rfl)).symm.trans h0_) (by decide), fun h0_ => absurd ((hoff 30 (by kernel_rfl)).symm.trans h0_) (by decide), fun h0_ => absurd ((hoff 33 (by kernel_rfl)).symm.trans h0_) (by decide), fun h0_ => absurd ((hoff 34 (by kernel_rfl)).symm.trans h0_) (by decide)⟩
        refine steps_cons ?_ ?_
        · rintro b a w' ⟨G3, G8, G11, G16, G19, G23, G30, G34, As, cs, Bs, bs, m3_, m8_, m11_, m16_, m19_, m23_, m29_, m30_, m33_, m34_, ha, Q_HBW, Q_F3, Q_F8, Q_F11, Q_F16, Q_F19, Q_F30, Q_F34, Q_F23, Q_F29, Q_F29c, Q_F33, Q_F33c, Q_X3_, Q_X8_, Q_X11_, Q_X16_, Q_X19_, Q_X23_, Q_X29_, Q_X30_, Q_X33_, Q_X34_⟩ hb_ hon hoff
          refine ⟨_, rfl, fun K hK => ?_⟩
          have e0 : a.tmps[0]? = some (.slice Aa la.length ca) := by rw [ha]; exact (putSel_off rfl).trans rfl
          have e49 : a.tmps[49]? = some (.bool true) := by rw [ha]; exact putSel_on (e := (27, 49, .bool true)) 20 rfl rfl (hon 27 (by kernel_rfl)) rfl
          replace ha := Aside0.mk ha
          have HBW := Aside0.mk Q_HBW
          have F3 := Aside0.mk (Q_F3 (hon 3 (by kernel_rfl)))
          have F8 := Aside0.mk (Q_F8 (hon 8 (by kernel_rfl)))
          have F11 := Aside0.mk (Q_F11 (hon 11 (by kernel_rfl)))
          have F16 := Aside0.mk (Q_F16 (hon 16 (by kernel_rfl)))
          have F19 := Aside0.mk (Q_F19 (hon 19 (by kernel_rfl)))
          have F23 := Aside0.mk (Q_F23 (hon 23 (by kernel_rfl)))
          refine value_ (w1 := w') (v := .slice Aa la.length ca) (wanted_on rfl rfl rfl (e49.trans (by first | rfl | (simp [*]; done)))) rfl ?_ ?_
          · go_simp
            (try simp only [i64_w])
            try rfl
          refine hK.out _ _ ⟨G3, G8, G11, G16, G19, G23, G30, G34, As, cs, Bs, bs, m3_, m8_, m11_, m16_, m19_, m23_, m29_, m30_, m33_, m34_, (by rw [ha.out]; exact putSel_upk 21 hb_ rfl rfl rfl), Q_HBW, Q_F3, Q_F8, Q_F11, Q_F16, Q_F19, fun h0_ => absurd ((hoff 30 (by kernel_rfl)).symm.trans h0_) (by decide), fun h0_ => absurd ((hoff 34 (by kernel_rfl)).symm.trans h0_) (by decide), Q_F23, fun h0_ => absurd ((hoff 29 (by kernel_rfl)).symm.trans h0_) (by decide), fun h0_ => absurd ((hoff 29 (by kernel_rfl)).symm.trans h0_) (by decide), fun h0_ => absurd ((hoff 33 (by kernel_rfl)).symm.trans h0_) (by decide), fun h0_ => absurd ((hoff 33 (by kernel_rfl)).symm.trans h0_) (by decide), Q_X3_, Q_X8_, Q_X11_, Q_X16_, Q_X19_, Q_X23_, fun h0_ => absurd ((hoff 29 (by kernel_rfl)).symm.trans h0_) (by decide), fun h0_ => absurd ((hoff 30 (by kernel_rfl)).symm.trans h0_) (by decide), fun h0_ => absurd ((hoff 33 (by kernel_rfl)).symm.trans h0_) (by decide), fun h0_ => absurd ((hoff 34 (by kernel_rfl)).symm.trans h0_) (by decide)⟩
        refine steps_cons ?_ ?_
        · rintro b a w' ⟨G3, G8, G11, G16, G19, G23, G30, G34, As, cs, Bs, bs, m3_, m8_, m11_, m16_, m19_, m23_, m29_, m30_, m33_, m34_, ha, Q_HBW, Q_F3, Q_F8, Q_F11, Q_F16, Q_F19, Q_F30, Q_F34, Q_F23, Q_F29, Q_F29c, Q_F33, Q_F33c, Q_X3_, Q_X8_, Q_X11_, Q_X16_, Q_X19_, Q_X23_, Q_X29_, Q_X30_, Q_X33_, Q_X34_⟩ hb_ hon hoff
          refine ⟨_, rfl, fun K hK => ?_⟩
          have e50 : a.tmps[50]? = some (.slice Aa la.length ca) := by rw [ha]; exact putSel_on (e := (28, 50, .slice Aa la.length ca)) 21 rfl rfl (hon 28 (by kernel_rfl)) rfl
          have e49 : a.tmps[49]? = some (.bool true) := by rw [ha]; exact putSel_on (e := (27, 49, .bool true)) 20 rfl rfl (hon 27 (by kernel_rfl)) rfl
          replace ha := Aside0.mk ha
          have HBW := Aside0.mk Q_HBW
          have F3 := Aside0.mk (Q_F3 (hon 3 (by kernel_rfl)))
          have F8 := Aside0.mk (Q_F8 (hon 8 (by kernel_rfl)))
          have F11 := Aside0.mk (Q_F11 (hon 11 (by kernel_rfl)))
          have F16 := Aside0.mk (Q_F16 (hon 16 (by kernel_rfl)))
          have F19 := Aside0.mk (Q_F19 (hon 19 (by kernel_rfl)))
          have F23 := Aside0.mk (Q_F23 (hon 23 (by kernel_rfl)))
          refine goes_ Try.func20 (by kernel_rfl) rfl #[.slice Aa la.length ca] (wanted_on rfl rfl rfl (e49.trans (by first | rfl | (simp [*]; done)))) rfl rfl (by first | (simp only [List.map_toArray, List.map_cons, List.map_nil, Act.eval, Array.getD_eq_getD_getElem?, Option.getD_some, e50, e49]; done) | (simp only [List.map_toArray, List.map_cons, List.map_nil, Act.eval, Array.getD_eq_getD_getElem?, Option.getD_some, e50, e49]; rfl)) ?_
          refine (sign_any _ _ la _ (Kd.C_below HRa.out HBW.out) HCa.out HLa.out).mono ?_
          rintro e w1 ⟨v, rfl, ho, hb⟩
          refine ⟨_, rfl, ?_⟩
          rw [signF_sg HYa.out, ← HSA.out] at ho
          obtain ⟨As1, cs1, eo⟩ := Kd.R_slice ho
          subst eo
          refine hK.out _ _ ⟨G3, G8, G11, G16, G19, G23, G30, G34, As1, cs1, Bs, bs, m3_, m8_, m11_, m16_, m19_, m23_, (.slice As1 sa.length cs1), m30_, m33_, m34_, (by rw [ha.out]; exact putSel_upk 22 hb_ rfl rfl rfl), below_then HBW.out HBW.out.size hb, fun _ => Kd.C_below F3.out hb, fun _ => Kd.C_below F8.out hb, fun _ => Kd.C_below F11.out hb, fun _ => Kd.C_below F16.out hb, fun _ => Kd.C_below F19.out hb, fun h0_ => absurd ((hoff 30 (by kernel_rfl)).symm.trans h0_) (by decide), fun h0_ => absurd ((hoff 34 (by kernel_rfl)).symm.trans h0_) (by decide), fun _ => Kd.C_below F23.out hb, fun _ => (Kd.R_reads' ho).2.2, fun _ => (Kd.R_reads' ho).2.1, fun h0_ => absurd ((hoff 33 (by kernel_rfl)).symm.trans h0_) (by decide), fun h0_ => absurd ((hoff 33 (by kernel_rfl)).symm.trans h0_) (by decide), Q_X3_, Q_X8_, Q_X11_, Q_X16_, Q_X19_, Q_X23_, fun _ => rfl, fun h0_ => absurd ((hoff 30 (by kernel_rfl)).symm.trans h0_) (by decide), fun h0_ => absurd ((hoff 33 (by kernel_rfl)).symm.trans h0_) (by decide), fun h0_ => absurd ((hoff 34 (by kernel_rfl)).symm.trans h0_) (by decide)⟩
        refine steps_cons ?_ ?_
        · rintro b a w' ⟨G3, G8, G11, G16, G19, G23, G30, G34, As, cs, Bs, bs, m3_, m8_, m11_, m16_, m19_, m23_, m29_, m30_, m33_, m34_, ha, Q_HBW, Q_F3, Q_F8, Q_F11, Q_F16, Q_F19, Q_F30, Q_F34, Q_F23, Q_F29, Q_F29c, Q_F33, Q_F33c, Q_X3_, Q_X8_, Q_X11_, Q_X16_, Q_X19_, Q_X23_, Q_X29_, Q_X30_, Q_X33_, Q_X34_⟩ hb_ hon hoff
          refine ⟨_, rfl, fun K hK => ?_⟩
          have e51 : a.tmps[51]? = some (m29_) := by rw [ha]; exact putSel_on (e := (29, 51, m29_)) 22 rfl rfl (hon 29 (by kernel_rfl)) rfl
          rw [Q_X29_ (hon 29 (by kernel_rfl))] at e51
          have e49 : a.tmps[49]? = some (.bool true) := by rw [ha]; exact putSel_on (e := (27, 49, .bool true)) 20 rfl rfl (hon 27 (by kernel_rfl)) rfl
          replace ha := Aside0.mk ha
          have HBW := Aside0.mk Q_HBW
          have F3 := Aside0.mk (Q_F3 (hon 3 (by kernel_rfl)))
          have F8 := Aside0.mk (Q_F8 (hon 8 (by kernel_rfl)))
          have F11 := Aside0.mk (Q_F11 (hon 11 (by kernel_rfl)))
          have F16 := Aside0.mk (Q_F16 (hon 16 (by kernel_rfl)))
          have F19 := Aside0.mk (Q_F19 (hon 19 (by kernel_rfl)))
          have F23 := Aside0.mk (Q_F23 (hon 23 (by kernel_rfl)))
          have F29 := Aside0.mk (Q_F29 (hon 29 (by kernel_rfl)))
          have F29c := Aside0.mk (Q_F29c (hon 29 (by kernel_rfl)))
          refine value_ (w1 := w'.alloc (.cells #[.slice As sa.length cs] 23)) (v := .slice (some ⟨w'.heap.size, 0, none⟩) 1 1) (wanted_on rfl rfl rfl (e49.trans (by first | rfl | (simp [*]; done)))) rfl ?_ ?_
          · go_simp
            try rfl
          refine hK.out _ _ ⟨G3, G8, G11, G16, G19, G23, w'.heap.size, G34, As, cs, Bs, bs, m3_, m8_, m11_, m16_, m19_, m23_, m29_, (.slice (some ⟨w'.heap.size, 0, none⟩) 1 1), m33_, m34_, (by rw [ha.out]; exact putSel_upk 23 hb_ rfl rfl rfl), below_alloc HBW.out _, fun _ => Kd.C_alloc F3.out _, fun _ => Kd.C_alloc F8.out _, fun _ => Kd.C_alloc F11.out _, fun _ => Kd.C_alloc F16.out _, fun _ => Kd.C_alloc F19.out _, fun _ => lit1_C F29.out F29c.out, fun h0_ => absurd ((hoff 34 (by kernel_rfl)).symm.trans h0_) (by decide), fun _ => Kd.C_alloc F23.out _, fun _ => Kd.C_alloc F29.out _, Q_F29c, fun h0_ => absurd ((hoff 33 (by kernel_rfl)).symm.trans h0_) (by decide), fun h0_ => absurd ((hoff 33 (by kernel_rfl)).symm.trans h0_) (by decide), Q_X3_, Q_X8_, Q_X11_, Q_X16_, Q_X19_, Q_X23_, Q_X29_, fun _ => rfl, fun h0_ => absurd ((hoff 33 (by kernel_rfl)).symm.trans h0_) (by decide), fun h0_ => absurd ((hoff 34 (by kernel_rfl)).symm.trans h0_) (by decide)⟩
        refine steps_cons ?_ ?_
        · rintro b a w' ⟨G3, G8, G11, G16, G19, G23, G30, G34, As, cs, Bs, bs, m3_, m8_, m11_, m16_, m19_, m23_, m29_, m30_, m33_, m34_, ha, Q_HBW, Q_F3, Q_F8, Q_F11, Q_F16, Q_F19, Q_F30, Q_F34, Q_F23, Q_F29, Q_F29c, Q_F33, Q_F33c, Q_X3_, Q_X8_, Q_X11_, Q_X16_, Q_X19_, Q_X23_, Q_X29_, Q_X30_, Q_X33_, Q_X34_⟩ hb_ hon hoff
          refine ⟨_, rfl, fun K hK => ?_⟩
          have e52 : a.tmps[52]? = some (m30_) := by rw [ha]; exact putSel_on (e := (30, 52, m30_)) 23 rfl rfl (hon 30 (by kernel_rfl)) rfl
          rw [Q_X30_ (hon 30 (by kernel_rfl))] at e52
          have e49 : a.tmps[49]? = some (.bool true) := by rw [ha]; exact putSel_on (e := (27, 49, .bool true)) 20 rfl rfl (hon 27 (by kernel_rfl)) rfl
          replace ha := Aside0.mk ha
          have HBW := Aside0.mk Q_HBW
          have F3 := Aside0.mk (Q_F3 (hon 3 (by kernel_rfl)))
          have F8 := Aside0.mk (Q_F8 (hon 8 (by kernel_rfl)))
          have F11 := Aside0.mk (Q_F11 (hon 11 (by kernel_rfl)))
          have F16 := Aside0.mk (Q_F16 (hon 16 (by kernel_rfl)))
          have F19 := Aside0.mk (Q_F19 (hon 19 (by kernel_rfl)))
          have F30 := Aside0.mk (Q_F30 (hon 30 (by kernel_rfl)))
          have F23 := Aside0.mk (Q_F23 (hon 23 (by kernel_rfl)))
          have F29 := Aside0.mk (Q_F29 (hon 29 (by kernel_rfl)))
          have F29c := Aside0.mk (Q_F29c (hon 29 (by kernel_rfl)))
          refine goes_ Try.func16 (by kernel_rfl) rfl #[.slice (some ⟨G30, 0, none⟩) 1 1] (wanted_on rfl rfl rfl (e49.trans (by first | rfl | (simp [*]; done)))) rfl rfl (by first | (simp only [List.map_toArray, List.map_cons, List.map_nil, Act.eval, Array.getD_eq_getD_getElem?, Option.getD_some, e52, e49]; done) | (simp only [List.map_toArray, List.map_cons, List.map_nil, Act.eval, Array.getD_eq_getD_getElem?, Option.getD_some, e52, e49]; rfl)) ?_
          refine (of_any (some ⟨G30, 0, none⟩) 1 [sa] _ F30.out (Nat.le_refl _)).mono ?_
          rw [HZ31.out]
          rintro e w1 ⟨rfl, hb⟩
          refine ⟨_, rfl, ?_⟩
          refine hK.out _ _ ⟨G3, G8, G11, G16, G19, G23, G30, G34, As, cs, Bs, bs, m3_, m8_, m11_, m16_, m19_, m23_, m29_, m30_, m33_, m34_, (by rw [ha.out]; exact putSel_upk 24 hb_ rfl rfl rfl), below_then HBW.out HBW.out.size hb, fun _ => Kd.C_below F3.out hb, fun _ => Kd.C_below F8.out hb, fun _ => Kd.C_below F11.out hb, fun _ => Kd.C_below F16.out hb, fun _ => Kd.C_below F19.out hb, fun _ => Kd.C_below F30.out hb, fun h0_ => absurd ((hoff 34 (by kernel_rfl)).symm.trans h0_) (by decide), fun _ => Kd.C_below F23.out hb, fun _ => Kd.C_below F29.out hb, Q_F29c, fun h0_ => absurd ((hoff 33 (by kernel_rfl)).symm.trans h0_) (by decide), fun h0_ => absurd ((hoff 33 (by kernel_rfl)).symm.trans h0_) (by decide), Q_X3_, Q_X8_, Q_X11_, Q_X16_, Q_X19_, Q_X23_, Q_X29_, Q_X30_, fun h0_ => absurd ((hoff 33 (by kernel_rfl)).symm.trans h0_) (by decide), fun h0_ => absurd ((hoff 34 (by kernel_rfl)).symm.trans h0_) (by decide)⟩
        refine steps_cons ?_ ?_
        · rintro b a w' ⟨G3, G8, G11, G16, G19, G23, G30, G34, As, cs, Bs, bs, m3_, m8_, m11_, m16_, m19_, m23_, m29_, m30_, m33_, m34_, ha, Q_HBW, Q_F3, Q_F8, Q_F11, Q_F16, Q_F19, Q_F30, Q_F34, Q_F23, Q_F29, Q_F29c, Q_F33, Q_F33c, Q_X3_, Q_X8_, Q_X11_, Q_X16_, Q_X19_, Q_X23_, Q_X29_, Q_X30_, Q_X33_, Q_X34_⟩ hb_ hon hoff
          refine ⟨_, rfl, fun K hK => ?_⟩
          have e1 : a.tmps[1]? = some (.slice Ab lb.length cb) := by rw [ha]; exact (putSel_off rfl).trans rfl
          have e49 : a.tmps[49]? = some (.bool true) := by rw [ha]; exact putSel_on (e := (27, 49, .bool true)) 20 rfl rfl (hon 27 (by kernel_rfl)) rfl
          replace ha := Aside0.mk ha
          have HBW := Aside0.mk Q_HBW
          have F3 := Aside0.mk (Q_F3 (hon 3 (by kernel_rfl)))
          have F8 := Aside0.mk (Q_F8 (hon 8 (by kernel_rfl)))
          have F11 := Aside0.mk (Q_F11 (hon 11 (by kernel_rfl)))
          have F16 := Aside0.mk (Q_F16 (hon 16 (by kernel_rfl)))
          have F19 := Aside0.mk (Q_F19 (hon 19 (by kernel_rfl)))
          have F23 := Aside0.mk (Q_F23 (hon 23 (by kernel_rfl)))
          refine value_ (w1 := w') (v := .slice Ab lb.length cb) (wanted_on rfl rfl rfl (e49.trans (by first | rfl | (simp [*]; done)))) rfl ?_ ?_
          · go_simp
            (try simp only [i64_w])
            try rfl
          refine hK.out _ _ ⟨G3, G8, G11, G16, G19, G23, G30, G34, As, cs, Bs, bs, m3_, m8_, m11_, m16_, m19_, m23_, m29_, m30_, m33_, m34_, (by rw [ha.out]; exact putSel_upk 25 hb_ rfl rfl rfl), Q_HBW, Q_F3, Q_F8, Q_F11, Q_F16, Q_F19, Q_F30, fun h0_ => absurd ((hoff 34 (by kernel_rfl)).symm.trans h0_) (by decide), Q_F23, Q_F29, Q_F29c, fun h0_ => absurd ((hoff 33 (by kernel_rfl)).symm.trans h0_) (by decide), fun h0_ => absurd ((hoff 33 (by kernel_rfl)).symm.trans h0_) (by decide), Q_X3_, Q_X8_, Q_X11_, Q_X16_, Q_X19_, Q_X23_, Q_X29_, Q_X30_, fun h0_ => absurd ((hoff 33 (by kernel_rfl)).symm.trans h0_) (by decide), fun h0_ => absurd ((hoff 34 (by kernel_rfl)).symm.trans h0_) (by decide)⟩
        refine steps_cons ?_ ?_
        · rintro b a w' ⟨G3, G8, G11, G16, G19, G23, G30, G34, As, cs, Bs, bs, m3_, m8_, m11_, m16_, m19_, m23_, m29_, m30_, m33_, m34_, ha, Q_HBW, Q_F3, Q_F8, Q_F11, Q_F16, Q_F19, Q_F30, Q_F34, Q_F23, Q_F29, Q_F29c, Q_F33, Q_F33c, Q_X3_, Q_X8_, Q_X11_, Q_X16_, Q_X19_, Q_X23_, Q_X29_, Q_X30_, Q_X33_, Q_X34_⟩ hb_ hon hoff
          refine ⟨_, rfl, fun K hK => ?_⟩
          have e54 : a.tmps[54]? = some (.slice Ab lb.length cb) := by rw [ha]; exact putSel_on (e := (32, 54, .slice Ab lb.length cb)) 25 rfl rfl (hon 32 (by kernel_rfl)) rfl
          have e49 : a.tmps[49]? = some (.bool true) := by rw [ha]; exact putSel_on (e := (27, 49, .bool true)) 20 rfl rfl (hon 27 (by kernel_rfl)) rfl
          replace ha := Aside0.mk ha
          have HBW := Aside0.mk Q_HBW
          have F3 := Aside0.mk (Q_F3 (hon 3 (by kernel_rfl)))
          have F8 := Aside0.mk (Q_F8 (hon 8 (by kernel_rfl)))
          have F11 := Aside0.mk (Q_F11 (hon 11 (by kernel_rfl)))
          have F16 := Aside0.mk (Q_F16 (hon 16 (by kernel_rfl)))
          have F19 := Aside0.mk (Q_F19 (hon 19 (by kernel_rfl)))
          have F30 := Aside0.mk (Q_F30 (hon 30 (by kernel_rfl)))
          have F23 := Aside0.mk (Q_F23 (hon 23 (by kernel_rfl)))
          have F29 := Aside0.mk (Q_F29 (hon 29 (by kernel_rfl)))
          have F29c := Aside0.mk (Q_F29c (hon 29 (by kernel_rfl)))
          refine goes_ Try.func20 (by kernel_rfl) rfl #[.slice Ab lb.length cb] (wanted_on rfl rfl rfl (e49.trans (by first | rfl | (simp [*]; done)))) rfl rfl (by first | (simp only [List.map_toArray, List.map_cons, List.map_nil, Act.eval, Array.getD_eq_getD_getElem?, Option.getD_some, e54, e49]; done) | (simp only [List.map_toArray, List.map_cons, List.map_nil, Act.eval, Array.getD_eq_getD_getElem?, Option.getD_some, e54, e49]; rfl)) ?_
          refine (sign_any _ _ lb _ (Kd.C_below HRb.out HBW.out) HCb.out HLb.out).mono ?_
          rintro e w1 ⟨v, rfl, ho, hb⟩
          refine ⟨_, rfl, ?_⟩
          rw [signF_sg HYb.out, ← HSB.out] at ho
          obtain ⟨As1, cs1, eo⟩ := Kd.R_slice ho
          subst eo
          refine hK.out _ _ ⟨G3, G8, G11, G16, G19, G23, G30, G34, As, cs, As1, cs1, m3_, m8_, m11_, m16_, m19_, m23_, m29_, m30_, (.slice As1 sb.length cs1), m34_, (by rw [ha.out]; exact putSel_upk 26 hb_ rfl rfl rfl), below_then HBW.out HBW.out.size hb, fun _ => Kd.C_below F3.out hb, fun _ => Kd.C_below F8.out hb, fun _ => Kd.C_below F11.out hb, fun _ => Kd.C_below F16.out hb, fun _ => Kd.C_below F19.out hb, fun _ => Kd.C_below F30.out hb, fun h0_ => absurd ((hoff 34 (by kernel_rfl)).symm.trans h0_) (by decide), fun _ => Kd.C_below F23.out hb, fun _ => Kd.C_below F29.out hb, Q_F29c, fun _ => (Kd.R_reads' ho).2.2, fun _ => (Kd.R_reads' ho).2.1, Q_X3_, Q_X8_, Q_X11_, Q_X16_, Q_X19_, Q_X23_, Q_X29_, Q_X30_, fun _ => rfl, fun h0_ => absurd ((hoff 34 (by kernel_rfl)).symm.trans h0_) (by decide)⟩
        refine steps_cons ?_ ?_
        · rintro b a w' ⟨G3, G8, G11, G16, G19, G23, G30, G34, As, cs, Bs, bs, m3_, m8_, m11_, m16_, m19_, m23_, m29_, m30_, m33_, m34_, ha, Q_HBW, Q_F3, Q_F8, Q_F11, Q_F16, Q_F19, Q_F30, Q_F34, Q_F23, Q_F29, Q_F29c, Q_F33, Q_F33c, Q_X3_, Q_X8_, Q_X11_, Q_X16_, Q_X19_, Q_X23_, Q_X29_, Q_X30_, Q_X33_, Q_X34_⟩ hb_ hon hoff
          refine ⟨_, rfl, fun K hK => ?_⟩
          have e55 : a.tmps[55]? = some (m33_) := by rw [ha]; exact putSel_on (e := (33, 55, m33_)) 26 rfl rfl (hon 33 (by kernel_rfl)) rfl
          rw [Q_X33_ (hon 33 (by kernel_rfl))] at e55
          have e49 : a.tmps[49]? = some (.bool true) := by rw [ha]; exact putSel_on (e := (27, 49, .bool true)) 20 rfl rfl (hon 27 (by kernel_rfl)) rfl
          replace ha := Aside0.mk ha
          have HBW := Aside0.mk Q_HBW
          have F3 := Aside0.mk (Q_F3 (hon 3 (by kernel_rfl)))
          have F8 := Aside0.mk (Q_F8 (hon 8 (by kernel_rfl)))
          have F11 := Aside0.mk (Q_F11 (hon 11 (by kernel_rfl)))
          have F16 := Aside0.mk (Q_F16 (hon 16 (by kernel_rfl)))
          have F19 := Aside0.mk (Q_F19 (hon 19 (by kernel_rfl)))
          have F30 := Aside0.mk (Q_F30 (hon 30 (by kernel_rfl)))
          have F23 := Aside0.mk (Q_F23 (hon 23 (by kernel_rfl)))
          have F29 := Aside0.mk (Q_F29 (hon 29 (by kernel_rfl)))
          have F29c := Aside0.mk (Q_F29c (hon 29 (by kernel_rfl)))
          have F33 := Aside0.mk (Q_F33 (hon 33 (by kernel_rfl)))
          have F33c := Aside0.mk (Q_F33c (hon 33 (by kernel_rfl)))
          refine value_ (w1 := w'.alloc (.cells #[.slice Bs sb.length bs] 23)) (v := .slice (some ⟨w'.heap.size, 0, none⟩) 1 1) (wanted_on rfl rfl rfl (e49.trans (by first | rfl | (simp [*]; done)))) rfl ?_ ?_
          · go_simp
            try rfl
          refine hK.out _ _ ⟨G3, G8, G11, G16, G19, G23, G30, w'.heap.size, As, cs, Bs, bs, m3_, m8_, m11_, m16_, m19_, m23_, m29_, m30_, m33_, (.slice (some ⟨w'.heap.size, 0, none⟩) 1 1), (by rw [ha.out]; exact putSel_upk 27 hb_ rfl rfl rfl), below_alloc HBW.out _, fun _ => Kd.C_alloc F3.out _, fun _ => Kd.C_alloc F8.out _, fun _ => Kd.C_alloc F11.out _, fun _ => Kd.C_alloc F16.out _, fun _ => Kd.C_alloc F19.out _, fun _ => Kd.C_alloc F30.out _, fun _ => lit1_C F33.out F33c.out, fun _ => Kd.C_alloc F23.out _, fun _ => Kd.C_alloc F29.out _, Q_F29c, fun _ => Kd.C_alloc F33.out _, Q_F33c, Q_X3_, Q_X8_, Q_X11_, Q_X16_, Q_X19_, Q_X23_, Q_X29_, Q_X30_, Q_X33_, fun _ => rfl⟩
        refine steps_cons ?_ ?_
        · rintro b a w' ⟨G3, G8, G11, G16, G19, G23, G30, G34, As, cs, Bs, bs, m3_, m8_, m11_, m16_, m19_, m23_, m29_, m30_, m33_, m34_, ha, Q_HBW, Q_F3, Q_F8, Q_F11, Q_F16, Q_F19, Q_F30, Q_F34, Q_F23, Q_F29, Q_F29c, Q_F33, Q_F33c, Q_X3_, Q_X8_, Q_X11_, Q_X16_, Q_X19_, Q_X23_, Q_X29_, Q_X30_, Q_X33_, Q_X34_⟩ hb_ hon hoff
          refine ⟨_, rfl, fun K hK => ?_⟩
          have e56 : a.tmps[56]? = some (m34_) := by rw [ha]; exact putSel_on (e := (34, 56, m34_)) 27 rfl rfl (hon 34 (by kernel_rfl)) rfl
          rw [Q_X34_ (hon 34 (by kernel_rfl))] at e56
          have e49 : a.tmps[49]? = some (.bool true) := by rw [ha]; exact putSel_on (e := (27, 49, .bool true)) 20 rfl rfl (hon 27 (by kernel_rfl)) rfl
          replace ha := Aside0.mk ha
          have HBW := Aside0.mk Q_HBW
          have F3 := Aside0.mk (Q_F3 (hon 3 (by kernel_rfl)))
          have F8 := Aside0.mk (Q_F8 (hon 8 (by kernel_rfl)))
          have F11 := Aside0.mk (Q_F11 (hon 11 (by kernel_rfl)))
          have F16 := Aside0.mk (Q_F16 (hon 16 (by kernel_rfl)))
          have F19 := Aside0.mk (Q_F19 (hon 19 (by kernel_rfl)))
          have F30 := Aside0.mk (Q_F30 (hon 30 (by kernel_rfl)))
          have F34 := Aside0.mk (Q_F34 (hon 34 (by kernel_rfl)))
          have F23 := Aside0.mk (Q_F23 (hon 23 (by kernel_rfl)))
          have F29 := Aside0.mk (Q_F29 (hon 29 (by kernel_rfl)))
          have F29c := Aside0.mk (Q_F29c (hon 29 (by kernel_rfl)))
          have F33 := Aside0.mk (Q_F33 (hon 33 (by kernel_rfl)))
          have F33c := Aside0.mk (Q_F33c (hon 33 (by kernel_rfl)))
          refine goes_ Try.func16 (by kernel_rfl) rfl #[.slice (some ⟨G34, 0, none⟩) 1 1] (wanted_on rfl rfl rfl (e49.trans (by first | rfl | (simp [*]; done)))) rfl rfl (by first | (simp only [List.map_toArray, List.map_cons, List.map_nil, Act.eval, Array.getD_eq_getD_getElem?, Option.getD_some, e56, e49]; done) | (simp only [List.map_toArray, List.map_cons, List.map_nil, Act.eval, Array.getD_eq_getD_getElem?, Option.getD_some, e56, e49]; rfl)) ?_
          refine (of_any (some ⟨G34, 0, none⟩) 1 [sb] _ F34.out (Nat.le_refl _)).mono ?_
          rw [HZ35.out]
          rintro e w1 ⟨rfl, hb⟩
          refine ⟨_, rfl, ?_⟩
          refine hK.out _ _ ⟨G3, G8, G11, G16, G19, G23, G30, G34, As, cs, Bs, bs, m3_, m8_, m11_, m16_, m19_, m23_, m29_, m30_, m33_, m34_, (by rw [ha.out]; exact putSel_upk 28 hb_ rfl rfl rfl), below_then HBW.out HBW.out.size hb, fun _ => Kd.C_below F3.out hb, fun _ => Kd.C_below F8.out hb, fun _ => Kd.C_below F11.out hb, fun _ => Kd.C_below F16.out hb, fun _ => Kd.C_below F19.out hb, fun _ => Kd.C_below F30.out hb, fun _ => Kd.C_below F34.out hb, fun _ => Kd.C_below F23.out hb, fun _ => Kd.C_below F29.out hb, Q_F29c, fun _ => Kd.C_below F33.out hb, Q_F33c, Q_X3_, Q_X8_, Q_X11_, Q_X16_, Q_X19_, Q_X23_, Q_X29_, Q_X30_, Q_X33_, Q_X34_⟩
        refine steps_cons ?_ ?_
        · rintro b a w' ⟨G3, G8, G11, G16, G19, G23, G30, G34, As, cs, Bs, bs, m3_, m8_, m11_, m16_, m19_, m23_, m29_, m30_, m33_, m34_, ha, Q_HBW, Q_F3, Q_F8, Q_F11, Q_F16, Q_F19, Q_F30, Q_F34, Q_F23, Q_F29, Q_F29c, Q_F33, Q_F33c, Q_X3_, Q_X8_, Q_X11_, Q_X16_, Q_X19_, Q_X23_, Q_X29_, Q_X30_, Q_X33_, Q_X34_⟩ hb_ hon hoff
          refine ⟨_, rfl, fun K hK => ?_⟩
          have e53 : a.tmps[53]? = some (.int .u32 zs) := by rw [ha]; exact putSel_on (e := (31, 53, .int .u32 zs)) 24 rfl rfl (hon 31 (by kernel_rfl)) rfl
          have e57 : a.tmps[57]? = some (.int .u32 zs) := by rw [ha]; exact putSel_on (e := (35, 57, .int .u32 zs)) 28 rfl rfl (hon 35 (by kernel_rfl)) rfl
          have e49 : a.tmps[49]? = some (.bool true) := by rw [ha]; exact putSel_on (e := (27, 49, .bool true)) 20 rfl rfl (hon 27 (by kernel_rfl)) rfl
          replace ha := Aside0.mk ha
          have HBW := Aside0.mk Q_HBW
          have F3 := Aside0.mk (Q_F3 (hon 3 (by kernel_rfl)))
          have F8 := Aside0.mk (Q_F8 (hon 8 (by kernel_rfl)))
          have F11 := Aside0.mk (Q_F11 (hon 11 (by kernel_rfl)))
          have F16 := Aside0.mk (Q_F16 (hon 16 (by kernel_rfl)))
          have F19 := Aside0.mk (Q_F19 (hon 19 (by kernel_rfl)))
          have F30 := Aside0.mk (Q_F30 (hon 30 (by kernel_rfl)))
          have F34 := Aside0.mk (Q_F34 (hon 34 (by kernel_rfl)))
          have F23 := Aside0.mk (Q_F23 (hon 23 (by kernel_rfl)))
          have F29 := Aside0.mk (Q_F29 (hon 29 (by kernel_rfl)))
          have F29c := Aside0.mk (Q_F29c (hon 29 (by kernel_rfl)))
          have F33 := Aside0.mk (Q_F33 (hon 33 (by kernel_rfl)))
          have F33c := Aside0.mk (Q_F33c (hon 33 (by kernel_rfl)))
          refine value_ (w1 := w') (v := .bool true) (wanted_on rfl rfl rfl (e49.trans (by first | rfl | (simp [*]; done)))) rfl ?_ ?_
          · go_simp
            (try simp only [i64_w])
            try rfl
          refine hK.out _ _ ⟨G3, G8, G11, G16, G19, G23, G30, G34, As, cs, Bs, bs, m3_, m8_, m11_, m16_, m19_, m23_, m29_, m30_, m33_, m34_, (by rw [ha.out]; exact putSel_upk 29 hb_ rfl rfl rfl), Q_HBW, Q_F3, Q_F8, Q_F11, Q_F16, Q_F19, Q_F30, Q_F34, Q_F23, Q_F29, Q_F29c, Q_F33, Q_F33c, Q_X3_, Q_X8_, Q_X11_, Q_X16_, Q_X19_, Q_X23_, Q_X29_, Q_X30_, Q_X33_, Q_X34_⟩
        refine steps_cons ?_ ?_
        · rintro b a w' ⟨G3, G8, G11, G16, G19, G23, G30, G34, As, cs, Bs, bs, m3_, m8_, m11_, m16_, m19_, m23_, m29_, m30_, m33_, m34_, ha, Q_HBW, Q_F3, Q_F8, Q_F11, Q_F16, Q_F19, Q_F30, Q_F34, Q_F23, Q_F29, Q_F29c, Q_F33, Q_F33c, Q_X3_, Q_X8_, Q_X11_, Q_X16_, Q_X19_, Q_X23_, Q_X29_, Q_X30_, Q_X33_, Q_X34_⟩ hb_ hon hoff
          refine ⟨_, rfl, fun K hK => ?_⟩
          have e49 : a.tmps[49]? = some (.bool true) := by rw [ha]; exact putSel_on (e := (27, 49, .bool true)) 20 rfl rfl (hon 27 (by kernel_rfl)) rfl
          have e58 : a.tmps[58]? = some (.bool true) := by rw [ha]; exact putSel_on (e := (36, 58, .bool true)) 29 rfl rfl (hon 36 (by kernel_rfl)) rfl
          replace ha := Aside0.mk ha
          have HBW := Aside0.mk Q_HBW
          have F3 := Aside0.mk (Q_F3 (hon 3 (by kernel_rfl)))
          have F8 := Aside0.mk (Q_F8 (hon 8 (by kernel_rfl)))
          have F11 := Aside0.mk (Q_F11 (hon 11 (by kernel_rfl)))
          have F16 := Aside0.mk (Q_F16 (hon 16 (by kernel_rfl)))
          have F19 := Aside0.mk (Q_F19 (hon 19 (by kernel_rfl)))
          have F30 := Aside0.mk (Q_F30 (hon 30 (by kernel_rfl)))
          have F34 := Aside0.mk (Q_F34 (hon 34 (by kernel_rfl)))
          have F23 := Aside0.mk (Q_F23 (hon 23 (by kernel_rfl)))
          have F29 := Aside0.mk (Q_F29 (hon 29 (by kernel_rfl)))
          have F29c := Aside0.mk (Q_F29c (hon 29 (by kernel_rfl)))
          have F33 := Aside0.mk (Q_F33 (hon 33 (by kernel_rfl)))
          have F33c := Aside0.mk (Q_F33c (hon 33 (by kernel_rfl)))
          refine value_ (w1 := w') (v := .bool true) (by rfl) rfl ?_ ?_
          · go_simp
            (try simp only [i64_w])
            try rfl
          refine hK.out _ _ ⟨G3, G8, G11, G16, G19, G23, G30, G34, As, cs, Bs, bs, m3_, m8_, m11_, m16_, m19_, m23_, m29_, m30_, m33_, m34_, (by rw [ha.out]; exact putSel_upk 30 hb_ rfl rfl rfl), Q_HBW, Q_F3, Q_F8, Q_F11, Q_F16, Q_F19, Q_F30, Q_F34, Q_F23, Q_F29, Q_F29c, Q_F33, Q_F33c, Q_X3_, Q_X8_, Q_X11_, Q_X16_, Q_X19_, Q_X23_, Q_X29_, Q_X30_, Q_X33_, Q_X34_⟩
        refine steps_cons ?_ ?_
        · rintro b a w' ⟨G3, G8, G11, G16, G19, G23, G30, G34, As, cs, Bs, bs, m3_, m8_, m11_, m16_, m19_, m23_, m29_, m30_, m33_, m34_, ha, Q_HBW, Q_F3, Q_F8, Q_F11, Q_F16, Q_F19, Q_F30, Q_F34, Q_F23, Q_F29, Q_F29c, Q_F33, Q_F33c, Q_X3_, Q_X8_, Q_X11_, Q_X16_, Q_X19_, Q_X23_, Q_X29_, Q_X30_, Q_X33_, Q_X34_⟩ hb_ hon hoff
          refine ⟨_, rfl, fun K hK => ?_⟩
          have e59 : a.tmps[59]? = some (.bool true) := by rw [ha]; exact putSel_on (e := (37, 59, .bool true)) 30 rfl rfl (hon 37 (by kernel_rfl)) rfl
          replace ha := Aside0.mk ha
          have HBW := Aside0.mk Q_HBW
          have F3 := Aside0.mk (Q_F3 (hon 3 (by kernel_rfl)))
          have F8 := Aside0.mk (Q_F8 (hon 8 (by kernel_rfl)))
          have F11 := Aside0.mk (Q_F11 (hon 11 (by kernel_rfl)))
          have F16 := Aside0.mk (Q_F16 (hon 16 (by kernel_rfl)))
          have F19 := Aside0.mk (Q_F19 (hon 19 (by kernel_rfl)))
          have F30 := Aside0.mk (Q_F30 (hon 30 (by kernel_rfl)))
          have F34 := Aside0.mk (Q_F34 (hon 34 (by kernel_rfl)))
          have F23 := Aside0.mk (Q_F23 (hon 23 (by kernel_rfl)))
          have F29 := Aside0.mk (Q_F29 (hon 29 (by kernel_rfl)))
          have F29c := Aside0.mk (Q_F29c (hon 29 (by kernel_rfl)))
          have F33 := Aside0.mk (Q_F33 (hon 33 (by kernel_rfl)))
          have F33c := Aside0.mk (Q_F33c (hon 33 (by kernel_rfl)))
          refine value_ (w1 := w') (v := .bool true) (by rfl) rfl ?_ ?_
          · go_simp
            (try simp only [i64_w])
            try rfl
          refine hK.out _ _ ⟨G3, G8, G11, G16, G19, G23, G30, G34, As, cs, Bs, bs, m3_, m8_, m11_, m16_, m19_, m23_, m29_, m30_, m33_, m34_, (by rw [ha.out]; exact putSel_upk 31 hb_ rfl rfl rfl), Q_HBW, Q_F3, Q_F8, Q_F11, Q_F16, Q_F19, Q_F30, Q_F34, Q_F23, Q_F29, Q_F29c, Q_F33, Q_F33c, Q_X3_, Q_X8_, Q_X11_, Q_X16_, Q_X19_, Q_X23_, Q_X29_, Q_X30_, Q_X33_, Q_X34_⟩
        refine steps_cons ?_ ?_
        · rintro b a w' ⟨G3, G8, G11, G16, G19, G23, G30, G34, As, cs, Bs, bs, m3_, m8_, m11_, m16_, m19_, m23_, m29_, m30_, m33_, m34_, ha, Q_HBW, Q_F3, Q_F8, Q_F11, Q_F16, Q_F19, Q_F30, Q_F34, Q_F23, Q_F29, Q_F29c, Q_F33, Q_F33c, Q_X3_, Q_X8_, Q_X11_, Q_X16_, Q_X19_, Q_X23_, Q_X29_, Q_X30_, Q_X33_, Q_X34_⟩ hb_ hon hoff
          refine ⟨_, rfl, fun K hK => ?_⟩
          have e60 : a.tmps[60]? = some (.bool true) := by rw [ha]; exact putSel_on (e := (38, 60, .bool true)) 31 rfl rfl (hon 38 (by kernel_rfl)) rfl
          replace ha := Aside0.mk ha
          have HBW := Aside0.mk Q_HBW
          have F3 := Aside0.mk (Q_F3 (hon 3 (by kernel_rfl)))
          have F8 := Aside0.mk (Q_F8 (hon 8 (by kernel_rfl)))
          have F11 := Aside0.mk (Q_F11 (hon 11 (by kernel_rfl)))
          have F16 := Aside0.mk (Q_F16 (hon 16 (by kernel_rfl)))
          have F19 := Aside0.mk (Q_F19 (hon 19 (by kernel_rfl)))
          have F30 := Aside0.mk (Q_F30 (hon 30 (by kernel_rfl)))
          have F34 := Aside0.mk (Q_F34 (hon 34 (by kernel_rfl)))
          have F23 := Aside0.mk (Q_F23 (hon 23 (by kernel_rfl)))
          have F29 := Aside0.mk (Q_F29 (hon 29 (by kernel_rfl)))
          have F29c := Aside0.mk (Q_F29c (hon 29 (by kernel_rfl)))
          have F33 := Aside0.mk (Q_F33 (hon 33 (by kernel_rfl)))
          have F33c := Aside0.mk (Q_F33c (hon 33 (by kernel_rfl)))
          refine goes_ Try.func19 (by kernel_rfl) rfl #[] (wanted_on rfl rfl rfl (e60.trans (by first | rfl | (simp [*]; done)))) rfl rfl (by first | (simp only [List.map_toArray, List.map_cons, List.map_nil, Act.eval, Array.getD_eq_getD_getElem?, Option.getD_some, e60]; done) | (simp only [List.map_toArray, List.map_cons, List.map_nil, Act.eval, Array.getD_eq_getD_getElem?, Option.getD_some, e60]; rfl)) ?_
          refine (awake3_any _).mono ?_
          rintro e w1 ⟨rfl, hb⟩
          refine ⟨_, rfl, ?_⟩
          refine hK.out _ _ ⟨G3, G8, G11, G16, G19, G23, G30, G34, As, cs, Bs, bs, m3_, m8_, m11_, m16_, m19_, m23_, m29_, m30_, m33_, m34_, (by rw [ha.out]; exact putSel_upk 32 hb_ rfl rfl rfl), below_then HBW.out HBW.out.size hb, fun _ => Kd.C_below F3.out hb, fun _ => Kd.C_below F8.out hb, fun _ => Kd.C_below F11.out hb, fun _ => Kd.C_below F16.out hb, fun _ => Kd.C_below F19.out hb, fun _ => Kd.C_below F30.out hb, fun _ => Kd.C_below F34.out hb, fun _ => Kd.C_below F23.out hb, fun _ => Kd.C_below F29.out hb, Q_F29c, fun _ => Kd.C_below F33.out hb, Q_F33c, Q_X3_, Q_X8_, Q_X11_, Q_X16_, Q_X19_, Q_X23_, Q_X29_, Q_X30_, Q_X33_, Q_X34_⟩
        refine steps_cons ?_ ?_
        · rintro b a w' ⟨G3, G8, G11, G16, G19, G23, G30, G34, As, cs, Bs, bs, m3_, m8_, m11_, m16_, m19_, m23_, m29_, m30_, m33_, m34_, ha, Q_HBW, Q_F3, Q_F8, Q_F11, Q_F16, Q_F19, Q_F30, Q_F34, Q_F23, Q_F29, Q_F29c, Q_F33, Q_F33c, Q_X3_, Q_X8_, Q_X11_, Q_X16_, Q_X19_, Q_X23_, Q_X29_, Q_X30_, Q_X33_, Q_X34_⟩ hb_ hon hoff
          refine ⟨_, rfl, fun K hK => ?_⟩
          have e60 : a.tmps[60]? = some (.bool true) := by rw [ha]; exact putSel_on (e := (38, 60, .bool true)) 31 rfl rfl (hon 38 (by kernel_rfl)) rfl
          have e61 : a.tmps[61]? = some (.bool true) := by rw [ha]; exact putSel_on (e := (39, 61, .bool true)) 32 rfl rfl (hon 39 (by kernel_rfl)) rfl
          replace ha := Aside0.mk ha
          have HBW := Aside0.mk Q_HBW
          have F3 := Aside0.mk (Q_F3 (hon 3 (by kernel_rfl)))
          have F8 := Aside0.mk (Q_F8 (hon 8 (by kernel_rfl)))
          have F11 := Aside0.mk (Q_F11 (hon 11 (by kernel_rfl)))
          have F16 := Aside0.mk (Q_F16 (hon 16 (by kernel_rfl)))
          have F19 := Aside0.mk (Q_F19 (hon 19 (by kernel_rfl)))
          have F30 := Aside0.mk (Q_F30 (hon 30 (by kernel_rfl)))
          have F34 := Aside0.mk (Q_F34 (hon 34 (by kernel_rfl)))
          have F23 := Aside0.mk (Q_F23 (hon 23 (by kernel_rfl)))
          have F29 := Aside0.mk (Q_F29 (hon 29 (by kernel_rfl)))
          have F29c := Aside0.mk (Q_F29c (hon 29 (by kernel_rfl)))
          have F33 := Aside0.mk (Q_F33 (hon 33 (by kernel_rfl)))
          have F33c := Aside0.mk (Q_F33c (hon 33 (by kernel_rfl)))
          refine value_ (w1 := w') (v := .bool true) (by rfl) rfl ?_ ?_
          · go_simp
            (try simp only [i64_w])
            try rfl
          refine hK.out _ _ ⟨G3, G8, G11, G16, G19, G23, G30, G34, As, cs, Bs, bs, m3_, m8_, m11_, m16_, m19_, m23_, m29_, m30_, m33_, m34_, (by rw [ha.out]; exact putSel_upk 33 hb_ rfl rfl rfl), Q_HBW, Q_F3, Q_F8, Q_F11, Q_F16, Q_F19, Q_F30, Q_F34, Q_F23, Q_F29, Q_F29c, Q_F33, Q_F33c, Q_X3_, Q_X8_, Q_X11_, Q_X16_, Q_X19_, Q_X23_, Q_X29_, Q_X30_, Q_X33_, Q_X34_⟩
        refine steps_cons ?_ ?_
        · rintro b a w' ⟨G3, G8, G11, G16, G19, G23, G30, G34, As, cs, Bs, bs, m3_, m8_, m11_, m16_, m19_, m23_, m29_, m30_, m33_, m34_, ha, Q_HBW, Q_F3, Q_F8, Q_F11, Q_F16, Q_F19, Q_F30, Q_F34, Q_F23, Q_F29, Q_F29c, Q_F33, Q_F33c, Q_X3_, Q_X8_, Q_X11_, Q_X16_, Q_X19_, Q_X23_, Q_X29_, Q_X30_, Q_X33_, Q_X34_⟩ hb_ hon hoff
          refine ⟨_, rfl, fun K hK => ?_⟩
          have e62 : a.tmps[62]? = some (.bool true) := by rw [ha]; exact putSel_on (e := (40, 62, .bool true)) 33 rfl rfl (hon 40 (by kernel_rfl)) rfl
          replace ha := Aside0.mk ha
          have HBW := Aside0.mk Q_HBW
          have F3 := Aside0.mk (Q_F3 (hon 3 (by kernel_rfl)))
          have F8 := Aside0.mk (Q_F8 (hon 8 (by kernel_rfl)))
          have F11 := Aside0.mk (Q_F11 (hon 11 (by kernel_rfl)))
          have F16 := Aside0.mk (Q_F16 (hon 16 (by kernel_rfl)))
          have F19 := Aside0.mk (Q_F19 (hon 19 (by kernel_rfl)))
          have F30 := Aside0.mk (Q_F30 (hon 30 (by kernel_rfl)))
          have F34 := Aside0.mk (Q_F34 (hon 34 (by kernel_rfl)))
          have F23 := Aside0.mk (Q_F23 (hon 23 (by kernel_rfl)))
          have F29 := Aside0.mk (Q_F29 (hon 29 (by kernel_rfl)))
          have F29c := Aside0.mk (Q_F29c (hon 29 (by kernel_rfl)))
          have F33 := Aside0.mk (Q_F33 (hon 33 (by kernel_rfl)))
          have F33c := Aside0.mk (Q_F33c (hon 33 (by kernel_rfl)))
          refine value_ (w1 := w') (v := .bool true) (by rfl) rfl ?_ ?_
          · go_simp
            (try simp only [i64_w])
            try rfl
          refine hK.out _ _ ⟨G3, G8, G11, G16, G19, G23, G30, G34, As, cs, Bs, bs, m3_, m8_, m11_, m16_, m19_, m23_, m29_, m30_, m33_, m34_, (by rw [ha.out]; exact putSel_upk 34 hb_ rfl rfl rfl), Q_HBW, Q_F3, Q_F8, Q_F11, Q_F16, Q_F19, Q_F30, Q_F34, Q_F23, Q_F29, Q_F29c, Q_F33, Q_F33c, Q_X3_, Q_X8_, Q_X11_, Q_X16_, Q_X19_, Q_X23_, Q_X29_, Q_X30_, Q_X33_, Q_X34_⟩
        exact steps_nil
      · rintro b a w' hall ⟨G3, G8, G11, G16, G19, G23, G30, G34, As, cs, Bs, bs, m3_, m8_, m11_, m16_, m19_, m23_, m29_, m30_, m33_, m34_, ha, Q_HBW, Q_F3, Q_F8, Q_F11, Q_F16, Q_F19, Q_F30, Q_F34, Q_F23, Q_F29, Q_F29c, Q_F33, Q_F33c, Q_X3_, Q_X8_, Q_X11_, Q_X16_, Q_X19_, Q_X23_, Q_X29_, Q_X30_, Q_X33_, Q_X34_⟩
        clear HBW
        have hb3_ := hall 3 (by kernel_rfl)
        have hb4_ := hall 4 (by kernel_rfl)
        have hb8_ := hall 8 (by kernel_rfl)
        have hb9_ := hall 9 (by kernel_rfl)
        have hb11_ := hall 11 (by kernel_rfl)
        have hb12_ := hall 12 (by kernel_rfl)
        have hb13_ := hall 13 (by kernel_rfl)
        have hb14_ := hall 14 (by kernel_rfl)
        have hb15_ := hall 15 (by kernel_rfl)
        have hb16_ := hall 16 (by kernel_rfl)
        have hb17_ := hall 17 (by kernel_rfl)
        have hb18_ := hall 18 (by kernel_rfl)
        have hb19_ := hall 19 (by kernel_rfl)
        have hb20_ := hall 20 (by kernel_rfl)
        have hb21_ := hall 21 (by kernel_rfl)
        have hb22_ := hall 22 (by kernel_rfl)
        have hb23_ := hall 23 (by kernel_rfl)
        have hb24_ := hall 24 (by kernel_rfl)
        have hb25_ := hall 25 (by kernel_rfl)
        have hb26_ := hall 26 (by kernel_rfl)
        have hb27_ := hall 27 (by kernel_rfl)
        have hb28_ := hall 28 (by kernel_rfl)
        have hb29_ := hall 29 (by kernel_rfl)
        have hb30_ := hall 30 (by kernel_rfl)
        have hb31_ := hall 31 (by kernel_rfl)
        have hb32_ := hall 32 (by kernel_rfl)
        have hb33_ := hall 33 (by kernel_rfl)
        have hb34_ := hall 34 (by kernel_rfl)
        have hb35_ := hall 35 (by kernel_rfl)
        have hb36_ := hall 36 (by kernel_rfl)
        have hb37_ := hall 37 (by kernel_rfl)
        have hb38_ := hall 38 (by kernel_rfl)
        have hb39_ := hall 39 (by kernel_rfl)
        have hb40_ := hall 40 (by kernel_rfl)
        have hb41_ := hall 41 (by kernel_rfl)
        subst ha
        obtain rfl := Q_X3_ hb3_
        obtain rfl := Q_X8_ hb8_
        obtain rfl := Q_X11_ hb11_
        obtain rfl := Q_X16_ hb16_
        obtain rfl := Q_X19_ hb19_
        obtain rfl := Q_X23_ hb23_
        obtain rfl := Q_X29_ hb29_
        obtain rfl := Q_X30_ hb30_
        obtain rfl := Q_X33_ hb33_
        obtain rfl := Q_X34_ hb34_
        simp only [putSel, hb3_, hb4_, hb8_, hb9_, hb11_, hb12_, hb13_, hb14_, hb15_, hb16_, hb17_, hb18_, hb19_, hb20_, hb21_, hb22_, hb23_, hb24_, hb25_, hb26_, hb27_, hb28_, hb29_, hb30_, hb31_, hb32_, hb33_, hb34_, hb35_, hb36_, hb37_, hb38_, hb39_, hb40_, hb41_, if_true, Act.put, List.setIfInBounds_toArray, List.set_cons_zero, List.set_cons_succ]
        have HBW := Aside0.mk Q_HBW
        clear Q_HBW
        have F3 := Aside0.mk (Q_F3 hb3_)
        clear Q_F3
        have F8 := Aside0.mk (Q_F8 hb8_)
        clear Q_F8
        have F11 := Aside0.mk (Q_F11 hb11_)
        clear Q_F11
        have F16 := Aside0.mk (Q_F16 hb16_)
        clear Q_F16
        have F19 := Aside0.mk (Q_F19 hb19_)
        clear Q_F19
        have F30 := Aside0.mk (Q_F30 hb30_)
        clear Q_F30
        have F34 := Aside0.mk (Q_F34 hb34_)
        clear Q_F34
        have F23 := Aside0.mk (Q_F23 hb23_)
        clear Q_F23
        have F29 := Aside0.mk (Q_F29 hb29_)
        clear Q_F29
        have F29c := Aside0.mk (Q_F29c hb29_)
        clear Q_F29c
        have F33 := Aside0.mk (Q_F33 hb33_)
        clear Q_F33
        have F33c := Aside0.mk (Q_F33c hb33_)
        clear Q_F33c
        clear hall hb3_ hb4_ hb8_ hb9_ hb11_ hb12_ hb13_ hb14_ hb15_ hb16_ hb17_ hb18_ hb19_ hb20_ hb21_ hb22_ hb23_ hb24_ hb25_ hb26_ hb27_ hb28_ hb29_ hb30_ hb31_ hb32_ hb33_ hb34_ hb35_ hb36_ hb37_ hb38_ hb39_ hb40_ hb41_
        go_wp2
        go_ret
        exact ⟨rfl, HBW.out⟩
end Go.Proofs.Ytonbphiaideleaa.M
