/- lacunalaw03.CrcTogether: the walk. -/
import Derived.Test.YtonbphiaideleaaMcuts
import Derived.Test.YtonbphiaideleaaMxor
namespace Go.Proofs.Ytonbphiaideleaa.M
open Go.RowKit Go.Proofs.YtonbphiaideleaaW.PrintWords Go.Proofs.YtonbphiaideleaaW.PrintLast Go.Proofs.YtonbphiaideleaaW.PrintMore
set_option linter.unusedVariables false
set_option linter.unusedSimpArgs false
def crctogether_T8 : Bool × List (List Nat × List Nat) := (true, [([], []), ([], []), ([], []), ([1, 2], [1, 2]), ([3], [3]), ([], []), ([], []), ([5, 6], [5, 6]), ([7], [7]), ([4, 8], [4, 8]), ([], []), ([], []), ([10, 11], [10, 11]), ([12], [12]), ([9, 13], [9, 13]), ([14], [14]), ([0, 15], [0, 15]), ([16, 16, 0, 1, 2, 3, 4, 5, 6, 7, 8, 9, 10, 11, 12, 13, 14, 15, 16], [0, 16])])
def crctogether_B8 : List Nat := [0, 0, 0, 6, 14, 0, 0, 96, 224, 510, 0, 0, 3072, 7168, 16382, 32766, 65535, 131071]
theorem crctogether_tab8 : rtab .any (opsOf Try.f4 8) = crctogether_T8 := by kernel_rfl
theorem crctogether_bits8 : waitsOk crctogether_T8.2 crctogether_B8 = true := by kernel_rfl
def crctogether_T9 : Bool × List (List Nat × List Nat) := (true, [([], []), ([0], [0]), ([1], [1]), ([], []), ([], []), ([3, 4], [3, 4]), ([5], [5]), ([6, 2], [6]), ([], []), ([], []), ([8, 9], [8, 9]), ([10], [10]), ([11, 7], [11]), ([7, 12], [7, 12]), ([], []), ([], []), ([14, 15], [14, 15]), ([16], [16]), ([17, 12], [17]), ([13, 18], [13, 18]), ([2, 19], [2, 19]), ([20, 18], [20]), ([21, 21], [21]), ([21, 22], [21, 22]), ([23, 22, 0, 1, 2, 3, 4, 5, 6, 7, 8, 9, 10, 11, 12, 13, 14, 15, 16, 17, 18, 19, 20, 21, 22, 23], [23])])
def crctogether_B9 : List Nat := [0, 1, 3, 0, 0, 24, 56, 127, 0, 0, 768, 1792, 4095, 8191, 0, 0, 49152, 114688, 253951, 524287, 1048575, 2097151, 4194303, 8388607, 16777215]
theorem crctogether_tab9 : rtab .any (opsOf Try.f4 9) = crctogether_T9 := by kernel_rfl
theorem crctogether_bits9 : waitsOk crctogether_T9.2 crctogether_B9 = true := by kernel_rfl

set_option maxHeartbeats 4000000 in
set_option maxRecDepth 100000 in
theorem crctogether_any (Aa : Option Addr) (ca : Nat) (la : List Int) (Ab : Option Addr) (cb : Nat) (lb : List Int) (Ac : Option Addr) (cc : Nat) (lc : List Int) (w : World)
    (hra : Kd.C (Kd.int .u8) w Aa la.length la) (hca : la.length ≤ ca) (hba : Byt la) (hrb : Kd.C (Kd.int .u8) w Ab lb.length lb) (hcb : lb.length ≤ cb) (hbb : Byt lb) (hrc : Kd.C (Kd.int .u8) w Ac lc.length lc) (hcc : lc.length ≤ cc) (hbc : Byt lc) :
    Calls Try.prog 4 #[.slice Aa la.length ca, .slice Ab lb.length cb, .slice Ac lc.length cc] w fun e w' => e = .returned (.bool true) ∧ Below w.heap.size w w' := by
  have HB := Aside0.mk (Below.refl w.heap.size w)
  obtain ⟨n, hn⟩ : ∃ n : Nat, n = min (min la.length lb.length) lc.length := ⟨_, rfl⟩
  have hmn : ∀ (ats : Array TypeId) (ty : TypeId), Builtin.min_ ats ty #[.int .i64 (la.length : Int), .int .i64 (lb.length : Int), .int .i64 (lc.length : Int)] = (pure (.int .i64 (n : Int)) : Sem Value) := by
    intro ats ty
    have h1 : (if (lb.length : Int) < (la.length : Int) then (lb.length : Int) else (la.length : Int)) = ((min la.length lb.length : Nat) : Int) := by split <;> omega
    have h2 : (if (lc.length : Int) < ((min la.length lb.length : Nat) : Int) then (lc.length : Int) else ((min la.length lb.length : Nat) : Int)) = (n : Int) := by split <;> omega
    simp only [min_three, min2_int, pure_bind, h1, h2]
  have hna : n ≤ la.length := by omega
  have hnb : n ≤ lb.length := by omega
  have hnc : n ≤ lc.length := by omega
  clear hn
  have HRa := Aside0.mk hra
  have HRb := Aside0.mk hrb
  have HRc := Aside0.mk hrc
  have HYa := Aside0.mk hba
  have HYb := Aside0.mk hbb
  have HYc := Aside0.mk hbc
  clear hra hrb hrc hba hbb hbc
  by_cases h200 : 200 < n
  · have hd : decide (200 < (n : Int)) = true := by simp; omega
    have hd2 : decide (200 < n) = true := by simp; omega
    go_enter Try.func4, Try.ntmps4
    go_wp2
    go_ret
    exact ⟨rfl, HB.out⟩
  · have hd : decide (200 < (n : Int)) = false := by simp; omega
    have hd2 : decide (200 < n) = false := by simp; omega
    have hn200 : n ≤ 200 := by omega
    clear h200
    go_enter Try.func4, Try.ntmps4
    go_wp2
    go_loopg [8, 9] n (fun g s8 s9 wx => ∃ (i : Nat) (all : List Int), i + g = n ∧ s9 = .int .i64 i ∧ Aside0 (all = xor3 la lb lc i) ∧ Aside0 (Kd.R (Kd.int .u8) 5 wx w.heap.size (fun _ => True) s8 all) ∧ Aside0 (Below w.heap.size w wx))
    case atStart => exact ⟨0, [], by omega, rfl, ⟨rfl⟩, ⟨Kd.R_nil _ _ _ _ _⟩, HB⟩
    case round =>
      obtain ⟨i, all, hig, rfl, HALL, HO, HB1⟩ := hrel
      cases gk with
      | zero =>
        obtain rfl : i = n := by omega
        have hi : decide ((i : Int) < (i : Int)) = false := by simp
        obtain ⟨i05, hi05, _, _, _⟩ := info_parts info5
        obtain ⟨pa, hpa, hcuta, hCa, hpca⟩ := cutT (k := Kd.int .u8) Try.underlying23 hi05 HRa.out hca (i : Int) i rfl hna
        obtain ⟨pb, hpb, hcutb, hCb, hpcb⟩ := cutT (k := Kd.int .u8) Try.underlying23 hi05 HRb.out hcb (i : Int) i rfl hnb
        obtain ⟨pc, hpc, hcutc, hCc, hpcc⟩ := cutT (k := Kd.int .u8) Try.underlying23 hi05 HRc.out hcc (i : Int) i rfl hnc
        have hya : Byt pa := by rw [hpa]; exact HYa.out.take i
        have hyb : Byt pb := by rw [hpb]; exact HYb.out.take i
        have hyc : Byt pc := by rw [hpc]; exact HYc.out.take i
        have hall : all = xor2 (xor2 pa pb) pc := by rw [HALL.out, xor3_eq la lb lc i hna hnb hnc, hpa, hpb, hpc]
        have hlab : pa.length = pb.length := by rw [hpa, hpb, List.length_take, List.length_take]; omega
        have hlbc : pb.length = pc.length := by rw [hpb, hpc, List.length_take, List.length_take]; omega
        have hyall : Byt all := by rw [hall]; exact xor2_byt _ _ (xor2_byt _ _ hya hyb) hyc
        have hsum : ∀ l : List Int, Byt l → andF 0 [l] = ((crcN 0 l : Nat) : Int) := fun l hl => sumF_crc hl
        obtain ⟨z, hz⟩ : ∃ z : Int, z = ((crcN 0 all : Nat) : Int) := ⟨_, rfl⟩
        obtain ⟨za, hza⟩ : ∃ z : Int, z = ((crcN 0 pa : Nat) : Int) := ⟨_, rfl⟩
        obtain ⟨zb, hzb⟩ : ∃ z : Int, z = ((crcN 0 pb : Nat) : Int) := ⟨_, rfl⟩
        obtain ⟨zc, hzc⟩ : ∃ z : Int, z = ((crcN 0 pc : Nat) : Int) := ⟨_, rfl⟩
        have HZ2 : Aside0 (andF 0 [all] = z) := ⟨by rw [hsum _ hyall, hz]⟩
        have HZ7 : Aside0 (andF 0 [pa] = za) := ⟨by rw [hsum _ hya, hza]⟩
        have HZ12 : Aside0 (andF 0 [pb] = zb) := ⟨by rw [hsum _ hyb, hzb]⟩
        have HZ18 : Aside0 (andF 0 [pc] = zc) := ⟨by rw [hsum _ hyc, hzc]⟩
        have l1 := crcN_lt (s := 0) (by decide) hya
        have l2 := crcN_lt (s := 0) (by decide) hyb
        have l3 := crcN_lt (s := 0) (by decide) hyc
        have hzz : (z == Go.bits .xor .u32 (Go.bits .xor .u32 za zb) zc) = true := by
          rw [beq_iff_eq, hz, hza, hzb, hzc, bits_xor_u32 l1 l2, bits_xor_u32 (Nat.xor_lt_two_pow l1 l2) l3, hall, crc_together hya hyb hyc hlab hlbc]
        have HPa := Aside0.mk hCa
        have HPb := Aside0.mk hCb
        have HPc := Aside0.mk hCc
        have HPac := Aside0.mk hpca
        have HPbc := Aside0.mk hpcb
        have HPcc := Aside0.mk hpcc
        obtain ⟨Ao, co, eo⟩ := Kd.R_slice HO.out
        subst eo
        have FA := Aside0.mk (Kd.C_drew (Kd.R_reads' HO.out).2.2)
        have FAc := Aside0.mk (Kd.R_reads' HO.out).2.1
        have HBW := Aside0.mk (below_drew HB1.out)
        clear hpa hpb hpc hCa hCb hCc hpca hpcb hpcc hz hza hzb hzc hall hyall hlab hlbc hsum l1 l2 l3 hya hyb hyc hi05
        go_wp2
        refine start_ (n := 25) (S := fun w' => True) (ds := []) #[false, false, false, false, false, false, false, false, false, false, false, false, false, false, false, false, false, false, false, false, false, false, false, false, false] (by kernel_rfl) rfl rfl trivial (fun hHeld => ?_)
        refine with_tabW crctogether_tab9 crctogether_bits9 (fun HT_ HW_ => ?_)
        refine pure_ (i := 0) (N := some 41) (v := ?_) (a' := ?_) #[true, false, false, false, false, false, false, false, false, false, false, false, false, false, false, false, false, false, false, false, false, false, false, false, false] rfl rfl (any_of HT_.out (by kernel_rfl)) (fun _ _ _ h => h) (Or.inl ⟨by rfl, ?_⟩) ?_ ?_
        rotate_left
        · intro w'
          go_simp
          with_reducible rfl
        rotate_left
        · simp only [Act.put, List.setIfInBounds_toArray, List.set_cons_zero, List.set_cons_succ, i64_w, i32_w]
          rfl
        refine pure_ (i := 3) (N := some 44) (v := ?_) (a' := ?_) #[true, false, false, true, false, false, false, false, false, false, false, false, false, false, false, false, false, false, false, false, false, false, false, false, false] rfl rfl (any_of HT_.out (by kernel_rfl)) (fun _ _ _ h => h) (Or.inl ⟨by rfl, ?_⟩) ?_ ?_
        rotate_left
        · intro w'
          go_simp
          with_reducible rfl
        rotate_left
        · simp only [Act.put, List.setIfInBounds_toArray, List.set_cons_zero, List.set_cons_succ, i64_w, i32_w]
          rfl
        refine pure_ (i := 4) (N := some 45) (v := ?_) (a' := ?_) #[true, false, false, true, true, false, false, false, false, false, false, false, false, false, false, false, false, false, false, false, false, false, false, false, false] rfl rfl (any_of HT_.out (by kernel_rfl)) (fun _ _ _ h => h) (Or.inl ⟨by rfl, ?_⟩) ?_ ?_
        rotate_left
        · intro w'
          go_simp
          with_reducible rfl
        rotate_left
        · simp only [Act.put, List.setIfInBounds_toArray, List.set_cons_zero, List.set_cons_succ, i64_w, i32_w]
          rfl
        refine pure_ (i := 5) (N := some 46) (v := ?_) (a' := ?_) #[true, false, false, true, true, true, false, false, false, false, false, false, false, false, false, false, false, false, false, false, false, false, false, false, false] rfl rfl (any_of HT_.out (by kernel_rfl)) (fun _ _ _ h => h) (Or.inl ⟨by rfl, ?_⟩) ?_ ?_
        rotate_left
        · intro w'
          go_simp
          with_reducible rfl
        rotate_left
        · simp only [Act.put, List.setIfInBounds_toArray, List.set_cons_zero, List.set_cons_succ, i64_w, i32_w]
          rfl
        refine pure_ (i := 8) (N := some 49) (v := ?_) (a' := ?_) #[true, false, false, true, true, true, false, false, true, false, false, false, false, false, false, false, false, false, false, false, false, false, false, false, false] rfl rfl (any_of HT_.out (by kernel_rfl)) (fun _ _ _ h => h) (Or.inl ⟨by rfl, ?_⟩) ?_ ?_
        rotate_left
        · intro w'
          go_simp
          with_reducible rfl
        rotate_left
        · simp only [Act.put, List.setIfInBounds_toArray, List.set_cons_zero, List.set_cons_succ, i64_w, i32_w]
          rfl
        refine pure_ (i := 9) (N := some 50) (v := ?_) (a' := ?_) #[true, false, false, true, true, true, false, false, true, true, false, false, false, false, false, false, false, false, false, false, false, false, false, false, false] rfl rfl (any_of HT_.out (by kernel_rfl)) (fun _ _ _ h => h) (Or.inl ⟨by rfl, ?_⟩) ?_ ?_
        rotate_left
        · intro w'
          go_simp
          with_reducible rfl
        rotate_left
        · simp only [Act.put, List.setIfInBounds_toArray, List.set_cons_zero, List.set_cons_succ, i64_w, i32_w]
          rfl
        refine pure_ (i := 10) (N := some 51) (v := ?_) (a' := ?_) #[true, false, false, true, true, true, false, false, true, true, true, false, false, false, false, false, false, false, false, false, false, false, false, false, false] rfl rfl (any_of HT_.out (by kernel_rfl)) (fun _ _ _ h => h) (Or.inl ⟨by rfl, ?_⟩) ?_ ?_
        rotate_left
        · intro w'
          go_simp
          with_reducible rfl
        rotate_left
        · simp only [Act.put, List.setIfInBounds_toArray, List.set_cons_zero, List.set_cons_succ, i64_w, i32_w]
          rfl
        refine pure_ (i := 14) (N := some 55) (v := ?_) (a' := ?_) #[true, false, false, true, true, true, false, false, true, true, true, false, false, false, true, false, false, false, false, false, false, false, false, false, false] rfl rfl (any_of HT_.out (by kernel_rfl)) (fun _ _ _ h => h) (Or.inl ⟨by rfl, ?_⟩) ?_ ?_
        rotate_left
        · intro w'
          go_simp
          with_reducible rfl
        rotate_left
        · simp only [Act.put, List.setIfInBounds_toArray, List.set_cons_zero, List.set_cons_succ, i64_w, i32_w]
          rfl
        refine pure_ (i := 15) (N := some 56) (v := ?_) (a' := ?_) #[true, false, false, true, true, true, false, false, true, true, true, false, false, false, true, true, false, false, false, false, false, false, false, false, false] rfl rfl (any_of HT_.out (by kernel_rfl)) (fun _ _ _ h => h) (Or.inl ⟨by rfl, ?_⟩) ?_ ?_
        rotate_left
        · intro w'
          go_simp
          with_reducible rfl
        rotate_left
        · simp only [Act.put, List.setIfInBounds_toArray, List.set_cons_zero, List.set_cons_succ, i64_w, i32_w]
          rfl
        refine pure_ (i := 16) (N := some 57) (v := ?_) (a' := ?_) #[true, false, false, true, true, true, false, false, true, true, true, false, false, false, true, true, true, false, false, false, false, false, false, false, false] rfl rfl (any_of HT_.out (by kernel_rfl)) (fun _ _ _ h => h) (Or.inl ⟨by rfl, ?_⟩) ?_ ?_
        rotate_left
        · intro w'
          go_simp
          with_reducible rfl
        rotate_left
        · simp only [Act.put, List.setIfInBounds_toArray, List.set_cons_zero, List.set_cons_succ, i64_w, i32_w]
          rfl
        refine inv_at [1, 2, 6, 7, 11, 12, 13, 17, 18, 19, 20, 21, 22, 23, 24] (fun a0_ b a w' => ∃ (G1 : Nat) (G6 : Nat) (G11 : Nat) (G17 : Nat) (m1_ : Value) (m6_ : Value) (m11_ : Value) (m17_ : Value), a = putSel a0_ b [(1, 42, m1_), (2, 43, .int .u32 z), (6, 47, m6_), (7, 48, .int .u32 za), (11, 52, m11_), (12, 53, .int .u32 zb), (13, 54, .int .u32 (Go.bits .xor .u32 za zb)), (17, 58, m17_), (18, 59, .int .u32 zc), (19, 60, .int .u32 (Go.bits .xor .u32 (Go.bits .xor .u32 za zb) zc)), (20, 61, .bool true), (21, 62, .bool true), (22, 63, .bool true), (23, 64, .bool true), (24, 6, .bool true)] ∧ (Below w.heap.size w w') ∧ (Kd.C (Kd.int .u8) w' Ao all.length all) ∧ (b 1 = true → Kd.C (Kd.slice 5 (Kd.int .u8)) w' (some ⟨G1, 0, none⟩) 1 [all]) ∧ (b 6 = true → Kd.C (Kd.slice 5 (Kd.int .u8)) w' (some ⟨G6, 0, none⟩) 1 [pa]) ∧ (b 11 = true → Kd.C (Kd.slice 5 (Kd.int .u8)) w' (some ⟨G11, 0, none⟩) 1 [pb]) ∧ (b 17 = true → Kd.C (Kd.slice 5 (Kd.int .u8)) w' (some ⟨G17, 0, none⟩) 1 [pc]) ∧ (b 1 = true → (m1_ : Value) = .slice (some ⟨G1, 0, none⟩) 1 1) ∧ (b 6 = true → (m6_ : Value) = .slice (some ⟨G6, 0, none⟩) 1 1) ∧ (b 11 = true → (m11_ : Value) = .slice (some ⟨G11, 0, none⟩) 1 1) ∧ (b 17 = true → (m17_ : Value) = .slice (some ⟨G17, 0, none⟩) 1 1)) HT_.out HW_.out (by kernel_rfl) (by kernel_rfl) ?_ ?_ ?_
        · exact ⟨0, 0, 0, 0, .bool false, .bool false, .bool false, .bool false, by simp only [putSel, Bool.false_eq_true, if_false], HBW.out, FA.out, fun h_ => absurd h_ (by decide), fun h_ => absurd h_ (by decide), fun h_ => absurd h_ (by decide), fun h_ => absurd h_ (by decide), fun h_ => absurd h_ (by decide), fun h_ => absurd h_ (by decide), fun h_ => absurd h_ (by decide), fun h_ => absurd h_ (by decide)⟩
        · skip
          clear FA HBW
          refine steps_cons ?_ ?_
          · rintro b a w' ⟨G1, G6, G11, G17, m1_, m6_, m11_, m17_, ha, Q_HBW, Q_FA, Q_F1, Q_F6, Q_F11, Q_F17, Q_X1_, Q_X6_, Q_X11_, Q_X17_⟩ hb_ hon hoff
            refine ⟨_, rfl, fun K hK => ?_⟩
            have e41 : a.tmps[41]? = some (.slice Ao all.length co) := by rw [ha]; exact (putSel_off rfl).trans rfl
            replace ha := Aside0.mk ha
            have HBW := Aside0.mk Q_HBW
            have FA := Aside0.mk Q_FA
            refine value_ (w1 := w'.alloc (.cells #[.slice Ao all.length co] 23)) (v := .slice (some ⟨w'.heap.size, 0, none⟩) 1 1) (by rfl) rfl ?_ ?_
            · go_simp
              try rfl
            refine hK.out _ _ ⟨w'.heap.size, G6, G11, G17, (.slice (some ⟨w'.heap.size, 0, none⟩) 1 1), m6_, m11_, m17_, (by rw [ha.out]; exact putSel_upk 0 hb_ rfl rfl rfl), below_alloc HBW.out _, Kd.C_alloc FA.out _, fun _ => lit1_C FA.out FAc.out, fun h0_ => Kd.C_alloc (Q_F6 h0_) _, fun h0_ => Kd.C_alloc (Q_F11 h0_) _, fun h0_ => Kd.C_alloc (Q_F17 h0_) _, fun _ => rfl, Q_X6_, Q_X11_, Q_X17_⟩
          refine steps_cons ?_ ?_
          · rintro b a w' ⟨G1, G6, G11, G17, m1_, m6_, m11_, m17_, ha, Q_HBW, Q_FA, Q_F1, Q_F6, Q_F11, Q_F17, Q_X1_, Q_X6_, Q_X11_, Q_X17_⟩ hb_ hon hoff
            refine ⟨_, rfl, fun K hK => ?_⟩
            have e42 : a.tmps[42]? = some (m1_) := by rw [ha]; exact putSel_on (e := (1, 42, m1_)) 0 rfl rfl (hon 1 (by kernel_rfl)) rfl
            rw [Q_X1_ (hon 1 (by kernel_rfl))] at e42
            replace ha := Aside0.mk ha
            have HBW := Aside0.mk Q_HBW
            have FA := Aside0.mk Q_FA
            have F1 := Aside0.mk (Q_F1 (hon 1 (by kernel_rfl)))
            refine goes_ Try.func16 (by kernel_rfl) rfl #[.slice (some ⟨G1, 0, none⟩) 1 1] (by rfl) rfl rfl (by first | (simp only [List.map_toArray, List.map_cons, List.map_nil, Act.eval, Array.getD_eq_getD_getElem?, Option.getD_some, e42]; done) | (simp only [List.map_toArray, List.map_cons, List.map_nil, Act.eval, Array.getD_eq_getD_getElem?, Option.getD_some, e42]; rfl)) ?_
            refine (of_any (some ⟨G1, 0, none⟩) 1 [all] _ F1.out (Nat.le_refl _)).mono ?_
            rw [HZ2.out]
            rintro e w1 ⟨rfl, hb⟩
            refine ⟨_, rfl, ?_⟩
            refine hK.out _ _ ⟨G1, G6, G11, G17, m1_, m6_, m11_, m17_, (by rw [ha.out]; exact putSel_upk 1 hb_ rfl rfl rfl), below_then HBW.out HBW.out.size hb, Kd.C_below FA.out hb, fun _ => Kd.C_below F1.out hb, fun h0_ => Kd.C_below (Q_F6 h0_) hb, fun h0_ => Kd.C_below (Q_F11 h0_) hb, fun h0_ => Kd.C_below (Q_F17 h0_) hb, Q_X1_, Q_X6_, Q_X11_, Q_X17_⟩
          refine steps_cons ?_ ?_
          · rintro b a w' ⟨G1, G6, G11, G17, m1_, m6_, m11_, m17_, ha, Q_HBW, Q_FA, Q_F1, Q_F6, Q_F11, Q_F17, Q_X1_, Q_X6_, Q_X11_, Q_X17_⟩ hb_ hon hoff
            refine ⟨_, rfl, fun K hK => ?_⟩
            have e46 : a.tmps[46]? = some (.slice Aa pa.length ca) := by rw [ha]; exact (putSel_off rfl).trans rfl
            replace ha := Aside0.mk ha
            have HBW := Aside0.mk Q_HBW
            have FA := Aside0.mk Q_FA
            refine value_ (w1 := w'.alloc (.cells #[.slice Aa pa.length ca] 23)) (v := .slice (some ⟨w'.heap.size, 0, none⟩) 1 1) (by rfl) rfl ?_ ?_
            · go_simp
              try rfl
            refine hK.out _ _ ⟨G1, w'.heap.size, G11, G17, m1_, (.slice (some ⟨w'.heap.size, 0, none⟩) 1 1), m11_, m17_, (by rw [ha.out]; exact putSel_upk 2 hb_ rfl rfl rfl), below_alloc HBW.out _, Kd.C_alloc FA.out _, fun h0_ => Kd.C_alloc (Q_F1 h0_) _, fun _ => lit1_C (Kd.C_below HPa.out HBW.out) HPac.out, fun h0_ => Kd.C_alloc (Q_F11 h0_) _, fun h0_ => Kd.C_alloc (Q_F17 h0_) _, Q_X1_, fun _ => rfl, Q_X11_, Q_X17_⟩
          refine steps_cons ?_ ?_
          · rintro b a w' ⟨G1, G6, G11, G17, m1_, m6_, m11_, m17_, ha, Q_HBW, Q_FA, Q_F1, Q_F6, Q_F11, Q_F17, Q_X1_, Q_X6_, Q_X11_, Q_X17_⟩ hb_ hon hoff
            refine ⟨_, rfl, fun K hK => ?_⟩
            have e47 : a.tmps[47]? = some (m6_) := by rw [ha]; exact putSel_on (e := (6, 47, m6_)) 2 rfl rfl (hon 6 (by kernel_rfl)) rfl
            rw [Q_X6_ (hon 6 (by kernel_rfl))] at e47
            replace ha := Aside0.mk ha
            have HBW := Aside0.mk Q_HBW
            have FA := Aside0.mk Q_FA
            have F1 := Aside0.mk (Q_F1 (hon 1 (by kernel_rfl)))
            have F6 := Aside0.mk (Q_F6 (hon 6 (by kernel_rfl)))
            refine goes_ Try.func16 (by kernel_rfl) rfl #[.slice (some ⟨G6, 0, none⟩) 1 1] (by rfl) rfl rfl (by first | (simp only [List.map_toArray, List.map_cons, List.map_nil, Act.eval, Array.getD_eq_getD_getElem?, Option.getD_some, e47]; done) | (simp only [List.map_toArray, List.map_cons, List.map_nil, Act.eval, Array.getD_eq_getD_getElem?, Option.getD_some, e47]; rfl)) ?_
            refine (of_any (some ⟨G6, 0, none⟩) 1 [pa] _ F6.out (Nat.le_refl _)).mono ?_
            rw [HZ7.out]
            rintro e w1 ⟨rfl, hb⟩
            refine ⟨_, rfl, ?_⟩
            refine hK.out _ _ ⟨G1, G6, G11, G17, m1_, m6_, m11_, m17_, (by rw [ha.out]; exact putSel_upk 3 hb_ rfl rfl rfl), below_then HBW.out HBW.out.size hb, Kd.C_below FA.out hb, fun _ => Kd.C_below F1.out hb, fun _ => Kd.C_below F6.out hb, fun h0_ => Kd.C_below (Q_F11 h0_) hb, fun h0_ => Kd.C_below (Q_F17 h0_) hb, Q_X1_, Q_X6_, Q_X11_, Q_X17_⟩
          refine steps_cons ?_ ?_
          · rintro b a w' ⟨G1, G6, G11, G17, m1_, m6_, m11_, m17_, ha, Q_HBW, Q_FA, Q_F1, Q_F6, Q_F11, Q_F17, Q_X1_, Q_X6_, Q_X11_, Q_X17_⟩ hb_ hon hoff
            refine ⟨_, rfl, fun K hK => ?_⟩
            have e51 : a.tmps[51]? = some (.slice Ab pb.length cb) := by rw [ha]; exact (putSel_off rfl).trans rfl
            replace ha := Aside0.mk ha
            have HBW := Aside0.mk Q_HBW
            have FA := Aside0.mk Q_FA
            refine value_ (w1 := w'.alloc (.cells #[.slice Ab pb.length cb] 23)) (v := .slice (some ⟨w'.heap.size, 0, none⟩) 1 1) (by rfl) rfl ?_ ?_
            · go_simp
              try rfl
            refine hK.out _ _ ⟨G1, G6, w'.heap.size, G17, m1_, m6_, (.slice (some ⟨w'.heap.size, 0, none⟩) 1 1), m17_, (by rw [ha.out]; exact putSel_upk 4 hb_ rfl rfl rfl), below_alloc HBW.out _, Kd.C_alloc FA.out _, fun h0_ => Kd.C_alloc (Q_F1 h0_) _, fun h0_ => Kd.C_alloc (Q_F6 h0_) _, fun _ => lit1_C (Kd.C_below HPb.out HBW.out) HPbc.out, fun h0_ => Kd.C_alloc (Q_F17 h0_) _, Q_X1_, Q_X6_, fun _ => rfl, Q_X17_⟩
          refine steps_cons ?_ ?_
          · rintro b a w' ⟨G1, G6, G11, G17, m1_, m6_, m11_, m17_, ha, Q_HBW, Q_FA, Q_F1, Q_F6, Q_F11, Q_F17, Q_X1_, Q_X6_, Q_X11_, Q_X17_⟩ hb_ hon hoff
            refine ⟨_, rfl, fun K hK => ?_⟩
            have e52 : a.tmps[52]? = some (m11_) := by rw [ha]; exact putSel_on (e := (11, 52, m11_)) 4 rfl rfl (hon 11 (by kernel_rfl)) rfl
            rw [Q_X11_ (hon 11 (by kernel_rfl))] at e52
            replace ha := Aside0.mk ha
            have HBW := Aside0.mk Q_HBW
            have FA := Aside0.mk Q_FA
            have F1 := Aside0.mk (Q_F1 (hon 1 (by kernel_rfl)))
            have F6 := Aside0.mk (Q_F6 (hon 6 (by kernel_rfl)))
            have F11 := Aside0.mk (Q_F11 (hon 11 (by kernel_rfl)))
            refine goes_ Try.func16 (by kernel_rfl) rfl #[.slice (some ⟨G11, 0, none⟩) 1 1] (by rfl) rfl rfl (by first | (simp only [List.map_toArray, List.map_cons, List.map_nil, Act.eval, Array.getD_eq_getD_getElem?, Option.getD_some, e52]; done) | (simp only [List.map_toArray, List.map_cons, List.map_nil, Act.eval, Array.getD_eq_getD_getElem?, Option.getD_some, e52]; rfl)) ?_
            refine (of_any (some ⟨G11, 0, none⟩) 1 [pb] _ F11.out (Nat.le_refl _)).mono ?_
            rw [HZ12.out]
            rintro e w1 ⟨rfl, hb⟩
            refine ⟨_, rfl, ?_⟩
            refine hK.out _ _ ⟨G1, G6, G11, G17, m1_, m6_, m11_, m17_, (by rw [ha.out]; exact putSel_upk 5 hb_ rfl rfl rfl), below_then HBW.out HBW.out.size hb, Kd.C_below FA.out hb, fun _ => Kd.C_below F1.out hb, fun _ => Kd.C_below F6.out hb, fun _ => Kd.C_below F11.out hb, fun h0_ => Kd.C_below (Q_F17 h0_) hb, Q_X1_, Q_X6_, Q_X11_, Q_X17_⟩
          refine steps_cons ?_ ?_
          · rintro b a w' ⟨G1, G6, G11, G17, m1_, m6_, m11_, m17_, ha, Q_HBW, Q_FA, Q_F1, Q_F6, Q_F11, Q_F17, Q_X1_, Q_X6_, Q_X11_, Q_X17_⟩ hb_ hon hoff
            refine ⟨_, rfl, fun K hK => ?_⟩
            have e48 : a.tmps[48]? = some (.int .u32 za) := by rw [ha]; exact putSel_on (e := (7, 48, .int .u32 za)) 3 rfl rfl (hon 7 (by kernel_rfl)) rfl
            have e53 : a.tmps[53]? = some (.int .u32 zb) := by rw [ha]; exact putSel_on (e := (12, 53, .int .u32 zb)) 5 rfl rfl (hon 12 (by kernel_rfl)) rfl
            replace ha := Aside0.mk ha
            have HBW := Aside0.mk Q_HBW
            have FA := Aside0.mk Q_FA
            have F1 := Aside0.mk (Q_F1 (hon 1 (by kernel_rfl)))
            have F6 := Aside0.mk (Q_F6 (hon 6 (by kernel_rfl)))
            have F11 := Aside0.mk (Q_F11 (hon 11 (by kernel_rfl)))
            refine value_ (w1 := w') (v := .int .u32 (Go.bits .xor .u32 za zb)) (by rfl) rfl ?_ ?_
            · go_simp
              (try simp only [i64_w])
              try rfl
            refine hK.out _ _ ⟨G1, G6, G11, G17, m1_, m6_, m11_, m17_, (by rw [ha.out]; exact putSel_upk 6 hb_ rfl rfl rfl), Q_HBW, Q_FA, Q_F1, Q_F6, Q_F11, Q_F17, Q_X1_, Q_X6_, Q_X11_, Q_X17_⟩
          refine steps_cons ?_ ?_
          · rintro b a w' ⟨G1, G6, G11, G17, m1_, m6_, m11_, m17_, ha, Q_HBW, Q_FA, Q_F1, Q_F6, Q_F11, Q_F17, Q_X1_, Q_X6_, Q_X11_, Q_X17_⟩ hb_ hon hoff
            refine ⟨_, rfl, fun K hK => ?_⟩
            have e57 : a.tmps[57]? = some (.slice Ac pc.length cc) := by rw [ha]; exact (putSel_off rfl).trans rfl
            replace ha := Aside0.mk ha
            have HBW := Aside0.mk Q_HBW
            have FA := Aside0.mk Q_FA
            refine value_ (w1 := w'.alloc (.cells #[.slice Ac pc.length cc] 23)) (v := .slice (some ⟨w'.heap.size, 0, none⟩) 1 1) (by rfl) rfl ?_ ?_
            · go_simp
              try rfl
            refine hK.out _ _ ⟨G1, G6, G11, w'.heap.size, m1_, m6_, m11_, (.slice (some ⟨w'.heap.size, 0, none⟩) 1 1), (by rw [ha.out]; exact putSel_upk 7 hb_ rfl rfl rfl), below_alloc HBW.out _, Kd.C_alloc FA.out _, fun h0_ => Kd.C_alloc (Q_F1 h0_) _, fun h0_ => Kd.C_alloc (Q_F6 h0_) _, fun h0_ => Kd.C_alloc (Q_F11 h0_) _, fun _ => lit1_C (Kd.C_below HPc.out HBW.out) HPcc.out, Q_X1_, Q_X6_, Q_X11_, fun _ => rfl⟩
          refine steps_cons ?_ ?_
          · rintro b a w' ⟨G1, G6, G11, G17, m1_, m6_, m11_, m17_, ha, Q_HBW, Q_FA, Q_F1, Q_F6, Q_F11, Q_F17, Q_X1_, Q_X6_, Q_X11_, Q_X17_⟩ hb_ hon hoff
            refine ⟨_, rfl, fun K hK => ?_⟩
            have e58 : a.tmps[58]? = some (m17_) := by rw [ha]; exact putSel_on (e := (17, 58, m17_)) 7 rfl rfl (hon 17 (by kernel_rfl)) rfl
            rw [Q_X17_ (hon 17 (by kernel_rfl))] at e58
            replace ha := Aside0.mk ha
            have HBW := Aside0.mk Q_HBW
            have FA := Aside0.mk Q_FA
            have F1 := Aside0.mk (Q_F1 (hon 1 (by kernel_rfl)))
            have F6 := Aside0.mk (Q_F6 (hon 6 (by kernel_rfl)))
            have F11 := Aside0.mk (Q_F11 (hon 11 (by kernel_rfl)))
            have F17 := Aside0.mk (Q_F17 (hon 17 (by kernel_rfl)))
            refine goes_ Try.func16 (by kernel_rfl) rfl #[.slice (some ⟨G17, 0, none⟩) 1 1] (by rfl) rfl rfl (by first | (simp only [List.map_toArray, List.map_cons, List.map_nil, Act.eval, Array.getD_eq_getD_getElem?, Option.getD_some, e58]; done) | (simp only [List.map_toArray, List.map_cons, List.map_nil, Act.eval, Array.getD_eq_getD_getElem?, Option.getD_some, e58]; rfl)) ?_
            refine (of_any (some ⟨G17, 0, none⟩) 1 [pc] _ F17.out (Nat.le_refl _)).mono ?_
            rw [HZ18.out]
            rintro e w1 ⟨rfl, hb⟩
            refine ⟨_, rfl, ?_⟩
            refine hK.out _ _ ⟨G1, G6, G11, G17, m1_, m6_, m11_, m17_, (by rw [ha.out]; exact putSel_upk 8 hb_ rfl rfl rfl), below_then HBW.out HBW.out.size hb, Kd.C_below FA.out hb, fun _ => Kd.C_below F1.out hb, fun _ => Kd.C_below F6.out hb, fun _ => Kd.C_below F11.out hb, fun _ => Kd.C_below F17.out hb, Q_X1_, Q_X6_, Q_X11_, Q_X17_⟩
          refine steps_cons ?_ ?_
          · rintro b a w' ⟨G1, G6, G11, G17, m1_, m6_, m11_, m17_, ha, Q_HBW, Q_FA, Q_F1, Q_F6, Q_F11, Q_F17, Q_X1_, Q_X6_, Q_X11_, Q_X17_⟩ hb_ hon hoff
            refine ⟨_, rfl, fun K hK => ?_⟩
            have e54 : a.tmps[54]? = some (.int .u32 (Go.bits .xor .u32 za zb)) := by rw [ha]; exact putSel_on (e := (13, 54, .int .u32 (Go.bits .xor .u32 za zb))) 6 rfl rfl (hon 13 (by kernel_rfl)) rfl
            have e59 : a.tmps[59]? = some (.int .u32 zc) := by rw [ha]; exact putSel_on (e := (18, 59, .int .u32 zc)) 8 rfl rfl (hon 18 (by kernel_rfl)) rfl
            replace ha := Aside0.mk ha
            have HBW := Aside0.mk Q_HBW
            have FA := Aside0.mk Q_FA
            have F1 := Aside0.mk (Q_F1 (hon 1 (by kernel_rfl)))
            have F6 := Aside0.mk (Q_F6 (hon 6 (by kernel_rfl)))
            have F11 := Aside0.mk (Q_F11 (hon 11 (by kernel_rfl)))
            have F17 := Aside0.mk (Q_F17 (hon 17 (by kernel_rfl)))
            refine value_ (w1 := w') (v := .int .u32 (Go.bits .xor .u32 (Go.bits .xor .u32 za zb) zc)) (by rfl) rfl ?_ ?_
            · go_simp
              (try simp only [i64_w])
              try rfl
            refine hK.out _ _ ⟨G1, G6, G11, G17, m1_, m6_, m11_, m17_, (by rw [ha.out]; exact putSel_upk 9 hb_ rfl rfl rfl), Q_HBW, Q_FA, Q_F1, Q_F6, Q_F11, Q_F17, Q_X1_, Q_X6_, Q_X11_, Q_X17_⟩
          refine steps_cons ?_ ?_
          · rintro b a w' ⟨G1, G6, G11, G17, m1_, m6_, m11_, m17_, ha, Q_HBW, Q_FA, Q_F1, Q_F6, Q_F11, Q_F17, Q_X1_, Q_X6_, Q_X11_, Q_X17_⟩ hb_ hon hoff
            refine ⟨_, rfl, fun K hK => ?_⟩
            have e43 : a.tmps[43]? = some (.int .u32 z) := by rw [ha]; exact putSel_on (e := (2, 43, .int .u32 z)) 1 rfl rfl (hon 2 (by kernel_rfl)) rfl
            have e60 : a.tmps[60]? = some (.int .u32 (Go.bits .xor .u32 (Go.bits .xor .u32 za zb) zc)) := by rw [ha]; exact putSel_on (e := (19, 60, .int .u32 (Go.bits .xor .u32 (Go.bits .xor .u32 za zb) zc))) 9 rfl rfl (hon 19 (by kernel_rfl)) rfl
            replace ha := Aside0.mk ha
            have HBW := Aside0.mk Q_HBW
            have FA := Aside0.mk Q_FA
            have F1 := Aside0.mk (Q_F1 (hon 1 (by kernel_rfl)))
            have F6 := Aside0.mk (Q_F6 (hon 6 (by kernel_rfl)))
            have F11 := Aside0.mk (Q_F11 (hon 11 (by kernel_rfl)))
            have F17 := Aside0.mk (Q_F17 (hon 17 (by kernel_rfl)))
            refine value_ (w1 := w') (v := .bool true) (by rfl) rfl ?_ ?_
            · go_simp
              (try simp only [i64_w])
              try rfl
            refine hK.out _ _ ⟨G1, G6, G11, G17, m1_, m6_, m11_, m17_, (by rw [ha.out]; exact putSel_upk 10 hb_ rfl rfl rfl), Q_HBW, Q_FA, Q_F1, Q_F6, Q_F11, Q_F17, Q_X1_, Q_X6_, Q_X11_, Q_X17_⟩
          refine steps_cons ?_ ?_
          · rintro b a w' ⟨G1, G6, G11, G17, m1_, m6_, m11_, m17_, ha, Q_HBW, Q_FA, Q_F1, Q_F6, Q_F11, Q_F17, Q_X1_, Q_X6_, Q_X11_, Q_X17_⟩ hb_ hon hoff
            refine ⟨_, rfl, fun K hK => ?_⟩
            have e61 : a.tmps[61]? = some (.bool true) := by rw [ha]; exact putSel_on (e := (20, 61, .bool true)) 10 rfl rfl (hon 20 (by kernel_rfl)) rfl
            replace ha := Aside0.mk ha
            have HBW := Aside0.mk Q_HBW
            have FA := Aside0.mk Q_FA
            have F1 := Aside0.mk (Q_F1 (hon 1 (by kernel_rfl)))
            have F6 := Aside0.mk (Q_F6 (hon 6 (by kernel_rfl)))
            have F11 := Aside0.mk (Q_F11 (hon 11 (by kernel_rfl)))
            have F17 := Aside0.mk (Q_F17 (hon 17 (by kernel_rfl)))
            refine value_ (w1 := w') (v := .bool true) (by rfl) rfl ?_ ?_
            · go_simp
              (try simp only [i64_w])
              try rfl
            refine hK.out _ _ ⟨G1, G6, G11, G17, m1_, m6_, m11_, m17_, (by rw [ha.out]; exact putSel_upk 11 hb_ rfl rfl rfl), Q_HBW, Q_FA, Q_F1, Q_F6, Q_F11, Q_F17, Q_X1_, Q_X6_, Q_X11_, Q_X17_⟩
          refine steps_cons ?_ ?_
          · rintro b a w' ⟨G1, G6, G11, G17, m1_, m6_, m11_, m17_, ha, Q_HBW, Q_FA, Q_F1, Q_F6, Q_F11, Q_F17, Q_X1_, Q_X6_, Q_X11_, Q_X17_⟩ hb_ hon hoff
            refine ⟨_, rfl, fun K hK => ?_⟩
            have e62 : a.tmps[62]? = some (.bool true) := by rw [ha]; exact putSel_on (e := (21, 62, .bool true)) 11 rfl rfl (hon 21 (by kernel_rfl)) rfl
            replace ha := Aside0.mk ha
            have HBW := Aside0.mk Q_HBW
            have FA := Aside0.mk Q_FA
            have F1 := Aside0.mk (Q_F1 (hon 1 (by kernel_rfl)))
            have F6 := Aside0.mk (Q_F6 (hon 6 (by kernel_rfl)))
            have F11 := Aside0.mk (Q_F11 (hon 11 (by kernel_rfl)))
            have F17 := Aside0.mk (Q_F17 (hon 17 (by kernel_rfl)))
            refine goes_ Try.func19 (by kernel_rfl) rfl #[] (wanted_on rfl rfl rfl (e62.trans (by first | rfl | (simp [*]; done)))) rfl rfl (by first | (simp only [List.map_toArray, List.map_cons, List.map_nil, Act.eval, Array.getD_eq_getD_getElem?, Option.getD_some, e62]; done) | (simp only [List.map_toArray, List.map_cons, List.map_nil, Act.eval, Array.getD_eq_getD_getElem?, Option.getD_some, e62]; rfl)) ?_
            refine (awake3_any _).mono ?_
            rintro e w1 ⟨rfl, hb⟩
            refine ⟨_, rfl, ?_⟩
            refine hK.out _ _ ⟨G1, G6, G11, G17, m1_, m6_, m11_, m17_, (by rw [ha.out]; exact putSel_upk 12 hb_ rfl rfl rfl), below_then HBW.out HBW.out.size hb, Kd.C_below FA.out hb, fun _ => Kd.C_below F1.out hb, fun _ => Kd.C_below F6.out hb, fun _ => Kd.C_below F11.out hb, fun _ => Kd.C_below F17.out hb, Q_X1_, Q_X6_, Q_X11_, Q_X17_⟩
          refine steps_cons ?_ ?_
          · rintro b a w' ⟨G1, G6, G11, G17, m1_, m6_, m11_, m17_, ha, Q_HBW, Q_FA, Q_F1, Q_F6, Q_F11, Q_F17, Q_X1_, Q_X6_, Q_X11_, Q_X17_⟩ hb_ hon hoff
            refine ⟨_, rfl, fun K hK => ?_⟩
            have e62 : a.tmps[62]? = some (.bool true) := by rw [ha]; exact putSel_on (e := (21, 62, .bool true)) 11 rfl rfl (hon 21 (by kernel_rfl)) rfl
            have e63 : a.tmps[63]? = some (.bool true) := by rw [ha]; exact putSel_on (e := (22, 63, .bool true)) 12 rfl rfl (hon 22 (by kernel_rfl)) rfl
            replace ha := Aside0.mk ha
            have HBW := Aside0.mk Q_HBW
            have FA := Aside0.mk Q_FA
            have F1 := Aside0.mk (Q_F1 (hon 1 (by kernel_rfl)))
            have F6 := Aside0.mk (Q_F6 (hon 6 (by kernel_rfl)))
            have F11 := Aside0.mk (Q_F11 (hon 11 (by kernel_rfl)))
            have F17 := Aside0.mk (Q_F17 (hon 17 (by kernel_rfl)))
            refine value_ (w1 := w') (v := .bool true) (by rfl) rfl ?_ ?_
            · go_simp
              (try simp only [i64_w])
              try rfl
            refine hK.out _ _ ⟨G1, G6, G11, G17, m1_, m6_, m11_, m17_, (by rw [ha.out]; exact putSel_upk 13 hb_ rfl rfl rfl), Q_HBW, Q_FA, Q_F1, Q_F6, Q_F11, Q_F17, Q_X1_, Q_X6_, Q_X11_, Q_X17_⟩
          refine steps_cons ?_ ?_
          · rintro b a w' ⟨G1, G6, G11, G17, m1_, m6_, m11_, m17_, ha, Q_HBW, Q_FA, Q_F1, Q_F6, Q_F11, Q_F17, Q_X1_, Q_X6_, Q_X11_, Q_X17_⟩ hb_ hon hoff
            refine ⟨_, rfl, fun K hK => ?_⟩
            have e64 : a.tmps[64]? = some (.bool true) := by rw [ha]; exact putSel_on (e := (23, 64, .bool true)) 13 rfl rfl (hon 23 (by kernel_rfl)) rfl
            replace ha := Aside0.mk ha
            have HBW := Aside0.mk Q_HBW
            have FA := Aside0.mk Q_FA
            have F1 := Aside0.mk (Q_F1 (hon 1 (by kernel_rfl)))
            have F6 := Aside0.mk (Q_F6 (hon 6 (by kernel_rfl)))
            have F11 := Aside0.mk (Q_F11 (hon 11 (by kernel_rfl)))
            have F17 := Aside0.mk (Q_F17 (hon 17 (by kernel_rfl)))
            refine value_ (w1 := w') (v := .bool true) (by rfl) rfl ?_ ?_
            · go_simp
              (try simp only [i64_w])
              try rfl
            refine hK.out _ _ ⟨G1, G6, G11, G17, m1_, m6_, m11_, m17_, (by rw [ha.out]; exact putSel_upk 14 hb_ rfl rfl rfl), Q_HBW, Q_FA, Q_F1, Q_F6, Q_F11, Q_F17, Q_X1_, Q_X6_, Q_X11_, Q_X17_⟩
          exact steps_nil
        · rintro b a w' hall ⟨G1, G6, G11, G17, m1_, m6_, m11_, m17_, ha, Q_HBW, Q_FA, Q_F1, Q_F6, Q_F11, Q_F17, Q_X1_, Q_X6_, Q_X11_, Q_X17_⟩
          clear FA HBW
          have hb1_ := hall 1 (by kernel_rfl)
          have hb2_ := hall 2 (by kernel_rfl)
          have hb6_ := hall 6 (by kernel_rfl)
          have hb7_ := hall 7 (by kernel_rfl)
          have hb11_ := hall 11 (by kernel_rfl)
          have hb12_ := hall 12 (by kernel_rfl)
          have hb13_ := hall 13 (by kernel_rfl)
          have hb17_ := hall 17 (by kernel_rfl)
          have hb18_ := hall 18 (by kernel_rfl)
          have hb19_ := hall 19 (by kernel_rfl)
          have hb20_ := hall 20 (by kernel_rfl)
          have hb21_ := hall 21 (by kernel_rfl)
          have hb22_ := hall 22 (by kernel_rfl)
          have hb23_ := hall 23 (by kernel_rfl)
          have hb24_ := hall 24 (by kernel_rfl)
          subst ha
          obtain rfl := Q_X1_ hb1_
          obtain rfl := Q_X6_ hb6_
          obtain rfl := Q_X11_ hb11_
          obtain rfl := Q_X17_ hb17_
          simp only [putSel, hb1_, hb2_, hb6_, hb7_, hb11_, hb12_, hb13_, hb17_, hb18_, hb19_, hb20_, hb21_, hb22_, hb23_, hb24_, if_true, Act.put, List.setIfInBounds_toArray, List.set_cons_zero, List.set_cons_succ]
          have HBW := Aside0.mk Q_HBW
          clear Q_HBW
          have FA := Aside0.mk Q_FA
          clear Q_FA
          have F1 := Aside0.mk (Q_F1 hb1_)
          clear Q_F1
          have F6 := Aside0.mk (Q_F6 hb6_)
          clear Q_F6
          have F11 := Aside0.mk (Q_F11 hb11_)
          clear Q_F11
          have F17 := Aside0.mk (Q_F17 hb17_)
          clear Q_F17
          clear hall hb1_ hb2_ hb6_ hb7_ hb11_ hb12_ hb13_ hb17_ hb18_ hb19_ hb20_ hb21_ hb22_ hb23_ hb24_
          go_wp2
          go_ret
          exact ⟨rfl, HBW.out⟩
      | succ g =>
        have hlt : i < n := by omega
        have hi : decide ((i : Int) < (n : Int)) = true := by simp; omega
        have hi2 : decide (i < n) = true := by simp; omega
        obtain ⟨ada, ea, hca2⟩ := Kd.at_int HRa.out i (by omega) (by omega)
        obtain ⟨adb, eb, hcb2⟩ := Kd.at_int HRb.out i (by omega) (by omega)
        obtain ⟨adc, ec, hcc2⟩ := Kd.at_int HRc.out i (by omega) (by omega)
        cases ea
        cases eb
        cases ec
        simp only [Int.toNat_natCast] at hca2 hcb2 hcc2
        have hsn := xor3_succ la lb lc i
        obtain ⟨ya, hya⟩ : ∃ y, y = rd la i := ⟨_, rfl⟩
        obtain ⟨yb, hyb⟩ : ∃ y, y = rd lb i := ⟨_, rfl⟩
        obtain ⟨yc, hyc⟩ : ∃ y, y = rd lc i := ⟨_, rfl⟩
        rw [← hya, ← hyb, ← hyc] at hsn
        rw [← hya] at hca2
        rw [← hyb] at hcb2
        rw [← hyc] at hcc2
        clear hya hyb hyc
        have HXa := Aside0.mk hca2
        have HXb := Aside0.mk hcb2
        have HXc := Aside0.mk hcc2
        have HSN := Aside0.mk hsn
        have hia : (i : Int) < (la.length : Int) := by omega
        have hib : (i : Int) < (lb.length : Int) := by omega
        have hic : (i : Int) < (lc.length : Int) := by omega
        clear hca2 hcb2 hcc2 hsn
        have HLIM : Aside0 ((all.length + 1) * 1 ≤ 140737488355328) := ⟨by rw [HALL.out]; simp [xor3]; omega⟩
        go_wp2
        refine start_ (n := 18) (S := fun w' => Below w.heap.size w w') (ds := []) #[false, false, false, false, false, false, false, false, false, false, false, false, false, false, false, false, false, false] (by kernel_rfl) rfl rfl (below_drew HB1.out) (fun hHeld => ?_)
        refine with_tabW crctogether_tab8 crctogether_bits8 (fun HT_ HW_ => ?_)
        refine pure_ (i := 0) (N := some 24) (v := ?_) (a' := ?_) #[true, false, false, false, false, false, false, false, false, false, false, false, false, false, false, false, false, false] rfl rfl (any_of HT_.out (by kernel_rfl)) (fun _ _ _ h => h) (Or.inl ⟨by rfl, ?_⟩) ?_ ?_
        rotate_left
        · intro w'
          go_simp
          with_reducible rfl
        rotate_left
        · simp only [Act.put, List.setIfInBounds_toArray, List.set_cons_zero, List.set_cons_succ, i64_w, i32_w]
          rfl
        refine pure_ (i := 1) (N := some 25) (v := ?_) (a' := ?_) #[true, true, false, false, false, false, false, false, false, false, false, false, false, false, false, false, false, false] rfl rfl (any_of HT_.out (by kernel_rfl)) (fun _ _ _ h => h) (Or.inl ⟨by rfl, ?_⟩) ?_ ?_
        rotate_left
        · intro w'
          go_simp
          with_reducible rfl
        rotate_left
        · simp only [Act.put, List.setIfInBounds_toArray, List.set_cons_zero, List.set_cons_succ, i64_w, i32_w]
          rfl
        refine pure_ (i := 2) (N := some 26) (v := ?_) (a' := ?_) #[true, true, true, false, false, false, false, false, false, false, false, false, false, false, false, false, false, false] rfl rfl (any_of HT_.out (by kernel_rfl)) (fun _ _ _ h => h) (Or.inl ⟨by rfl, ?_⟩) ?_ ?_
        rotate_left
        · intro w'
          go_simp
          with_reducible rfl
        rotate_left
        · simp only [Act.put, List.setIfInBounds_toArray, List.set_cons_zero, List.set_cons_succ, i64_w, i32_w]
          rfl
        refine pure_ (i := 3) (N := some 27) (v := ?_) (a' := ?_) #[true, true, true, true, false, false, false, false, false, false, false, false, false, false, false, false, false, false] rfl rfl (any_of HT_.out (by kernel_rfl)) (fun _ _ _ h => h) (Or.inl ⟨by rfl, ?_⟩) ?_ ?_
        rotate_left
        · intro w'
          go_simp
          with_reducible rfl
        rotate_left
        · simp only [Act.put, List.setIfInBounds_toArray, List.set_cons_zero, List.set_cons_succ, i64_w, i32_w]
          rfl
        refine take_ (i := 4) (N := some 28) (v := ?_) (a' := ?_) #[true, true, true, true, true, false, false, false, false, false, false, false, false, false, false, false, false, false] rfl rfl (take_ofW HT_.out HW_.out (by kernel_rfl)) (fun _ _ _ h => h) (Or.inl ⟨by rfl, ?_⟩) hHeld ?_ ?_
        rotate_left
        · intro w' s0
          have hca := pw_cell_below s0 HXa.out
          go_simp
          with_reducible rfl
        rotate_left
        · simp only [Act.put, List.setIfInBounds_toArray, List.set_cons_zero, List.set_cons_succ, i64_w, i32_w]
          rfl
        refine pure_ (i := 5) (N := some 29) (v := ?_) (a' := ?_) #[true, true, true, true, true, true, false, false, false, false, false, false, false, false, false, false, false, false] rfl rfl (any_of HT_.out (by kernel_rfl)) (fun _ _ _ h => h) (Or.inl ⟨by rfl, ?_⟩) ?_ ?_
        rotate_left
        · intro w'
          go_simp
          with_reducible rfl
        rotate_left
        · simp only [Act.put, List.setIfInBounds_toArray, List.set_cons_zero, List.set_cons_succ, i64_w, i32_w]
          rfl
        refine pure_ (i := 6) (N := some 30) (v := ?_) (a' := ?_) #[true, true, true, true, true, true, true, false, false, false, false, false, false, false, false, false, false, false] rfl rfl (any_of HT_.out (by kernel_rfl)) (fun _ _ _ h => h) (Or.inl ⟨by rfl, ?_⟩) ?_ ?_
        rotate_left
        · intro w'
          go_simp
          with_reducible rfl
        rotate_left
        · simp only [Act.put, List.setIfInBounds_toArray, List.set_cons_zero, List.set_cons_succ, i64_w, i32_w]
          rfl
        refine pure_ (i := 7) (N := some 31) (v := ?_) (a' := ?_) #[true, true, true, true, true, true, true, true, false, false, false, false, false, false, false, false, false, false] rfl rfl (any_of HT_.out (by kernel_rfl)) (fun _ _ _ h => h) (Or.inl ⟨by rfl, ?_⟩) ?_ ?_
        rotate_left
        · intro w'
          go_simp
          with_reducible rfl
        rotate_left
        · simp only [Act.put, List.setIfInBounds_toArray, List.set_cons_zero, List.set_cons_succ, i64_w, i32_w]
          rfl
        refine take_ (i := 8) (N := some 32) (v := ?_) (a' := ?_) #[true, true, true, true, true, true, true, true, true, false, false, false, false, false, false, false, false, false] rfl rfl (take_ofW HT_.out HW_.out (by kernel_rfl)) (fun _ _ _ h => h) (Or.inl ⟨by rfl, ?_⟩) hHeld ?_ ?_
        rotate_left
        · intro w' s0
          have hcb := pw_cell_below s0 HXb.out
          go_simp
          with_reducible rfl
        rotate_left
        · simp only [Act.put, List.setIfInBounds_toArray, List.set_cons_zero, List.set_cons_succ, i64_w, i32_w]
          rfl
        refine pure_ (i := 9) (N := some 33) (v := ?_) (a' := ?_) #[true, true, true, true, true, true, true, true, true, true, false, false, false, false, false, false, false, false] rfl rfl (any_of HT_.out (by kernel_rfl)) (fun _ _ _ h => h) (Or.inl ⟨by rfl, ?_⟩) ?_ ?_
        rotate_left
        · intro w'
          go_simp
          with_reducible rfl
        rotate_left
        · simp only [Act.put, List.setIfInBounds_toArray, List.set_cons_zero, List.set_cons_succ, i64_w, i32_w]
          rfl
        refine pure_ (i := 10) (N := some 34) (v := ?_) (a' := ?_) #[true, true, true, true, true, true, true, true, true, true, true, false, false, false, false, false, false, false] rfl rfl (any_of HT_.out (by kernel_rfl)) (fun _ _ _ h => h) (Or.inl ⟨by rfl, ?_⟩) ?_ ?_
        rotate_left
        · intro w'
          go_simp
          with_reducible rfl
        rotate_left
        · simp only [Act.put, List.setIfInBounds_toArray, List.set_cons_zero, List.set_cons_succ, i64_w, i32_w]
          rfl
        refine pure_ (i := 11) (N := some 35) (v := ?_) (a' := ?_) #[true, true, true, true, true, true, true, true, true, true, true, true, false, false, false, false, false, false] rfl rfl (any_of HT_.out (by kernel_rfl)) (fun _ _ _ h => h) (Or.inl ⟨by rfl, ?_⟩) ?_ ?_
        rotate_left
        · intro w'
          go_simp
          with_reducible rfl
        rotate_left
        · simp only [Act.put, List.setIfInBounds_toArray, List.set_cons_zero, List.set_cons_succ, i64_w, i32_w]
          rfl
        refine pure_ (i := 12) (N := some 36) (v := ?_) (a' := ?_) #[true, true, true, true, true, true, true, true, true, true, true, true, true, false, false, false, false, false] rfl rfl (any_of HT_.out (by kernel_rfl)) (fun _ _ _ h => h) (Or.inl ⟨by rfl, ?_⟩) ?_ ?_
        rotate_left
        · intro w'
          go_simp
          with_reducible rfl
        rotate_left
        · simp only [Act.put, List.setIfInBounds_toArray, List.set_cons_zero, List.set_cons_succ, i64_w, i32_w]
          rfl
        refine take_ (i := 13) (N := some 37) (v := ?_) (a' := ?_) #[true, true, true, true, true, true, true, true, true, true, true, true, true, true, false, false, false, false] rfl rfl (take_ofW HT_.out HW_.out (by kernel_rfl)) (fun _ _ _ h => h) (Or.inl ⟨by rfl, ?_⟩) hHeld ?_ ?_
        rotate_left
        · intro w' s0
          have hcc := pw_cell_below s0 HXc.out
          go_simp
          with_reducible rfl
        rotate_left
        · simp only [Act.put, List.setIfInBounds_toArray, List.set_cons_zero, List.set_cons_succ, i64_w, i32_w]
          rfl
        refine pure_ (i := 14) (N := some 38) (v := ?_) (a' := ?_) #[true, true, true, true, true, true, true, true, true, true, true, true, true, true, true, false, false, false] rfl rfl (any_of HT_.out (by kernel_rfl)) (fun _ _ _ h => h) (Or.inl ⟨by rfl, ?_⟩) ?_ ?_
        rotate_left
        · intro w'
          go_simp
          with_reducible rfl
        rotate_left
        · simp only [Act.put, List.setIfInBounds_toArray, List.set_cons_zero, List.set_cons_succ, i64_w, i32_w]
          rfl
        refine one_ (i := 15) (N := some 39) #[true, true, true, true, true, true, true, true, true, true, true, true, true, true, true, true, false, false] rfl rfl (one_of HT_.out (by kernel_rfl)) (by decide) (fun K hK => ?_)
        refine value_ (w1 := (wr.drew.alloc (.cells #[.int .u8 (Go.bits .xor .u8 (Go.bits .xor .u8 ya yb) yc)] 5))) (v := .slice (some ⟨wr.drew.heap.size, 0, none⟩) 1 1) (by rfl) rfl ?_ ?_
        · go_simp
          try rfl
        refine hK.out _ _ (below_alloc (below_drew HB1.out) _) (fun hHeld => ?_)
        clear hK K
        refine norm_ (a' := ?_) ?_ ?_
        rotate_left
        · show Act.put _ (some 39) _ = _
          simp only [Act.put, List.setIfInBounds_toArray, List.set_cons_zero, List.set_cons_succ, i64_w, i32_w]
          rfl
        refine one_ (i := 16) (N := some 40) #[true, true, true, true, true, true, true, true, true, true, true, true, true, true, true, true, true, false] rfl rfl (one_of HT_.out (by kernel_rfl)) (by decide) (fun K hK => ?_)
        refine Kd.R_append_step (Kd.int .u8) (w0 := w) w.heap.size (by rfl) (.tmp 24) (.tmp 39) 23 5 (.int .u8 0) 1 rfl Try.underlying23 info5 rfl (by decide) (by omega) _ all (Go.bits .xor .u8 (Go.bits .xor .u8 ya yb) yc) [.int .u8 (Go.bits .xor .u8 (Go.bits .xor .u8 ya yb) yc)] (fun _ => True) (fun _ => False) rfl rfl rfl (fun _ hk => hk.elim) (fun _ _ => trivial) (Kd.R_drew HO.out) (below_drew HB1.out) (below_drew HB1.out).size HLIM.out ?_
        intro v2 w2 ho hb hg hat
        have HO2 := Aside0.mk ho
        have HB2 := Aside0.mk hb
        clear ho hb hg hat
        refine hK.out _ _ HB2.out (fun hHeld => ?_)
        clear hK K
        refine norm_ (a' := ?_) ?_ ?_
        rotate_left
        · show Act.put _ (some 40) _ = _
          simp only [Act.put, List.setIfInBounds_toArray, List.set_cons_zero, List.set_cons_succ, i64_w, i32_w]
          rfl
        refine pure_ (i := 17) (N := some 8) (v := ?_) (a' := ?_) #[true, true, true, true, true, true, true, true, true, true, true, true, true, true, true, true, true, true] rfl rfl (any_of HT_.out (by kernel_rfl)) (fun _ _ _ h => h) (Or.inl ⟨by rfl, ?_⟩) ?_ ?_
        rotate_left
        · intro w'
          go_simp
          with_reducible rfl
        rotate_left
        · simp only [Act.put, List.setIfInBounds_toArray, List.set_cons_zero, List.set_cons_succ, i64_w, i32_w]
          rfl
        refine done_ (done_of HT_.out (by kernel_rfl)) ?_
        go_wp2
        go_roundg g
        case measure => omega
        case rel => exact ⟨i + 1, _, by omega, by first | rfl | simp, ⟨by rw [HSN.out, ← HALL.out]⟩, HO2, HB2⟩
end Go.Proofs.Ytonbphiaideleaa.M
