/- lacunalaw03.CrcSums: the walk. -/
import Derived.Test.YtonbphiaideleaaMcuts
namespace Go.Proofs.Ytonbphiaideleaa.M
open Go.RowKit Go.Proofs.YtonbphiaideleaaW.PrintWords Go.Proofs.YtonbphiaideleaaW.PrintLast
set_option linter.unusedVariables false
set_option linter.unusedSimpArgs false
def crcsums_T17 : Bool × List (List Nat × List Nat) := (true, [([], []), ([], []), ([0, 1], [0, 1]), ([2], [2]), ([], []), ([], []), ([4, 5], [4, 5]), ([3, 6, 3], [3, 6]), ([], []), ([7, 8], [7, 8])])
def crcsums_B17 : List Nat := [0, 0, 3, 7, 0, 0, 48, 127, 0, 511]
theorem crcsums_tab17 : rtab .any (opsOf Try.f3 17) = crcsums_T17 := by kernel_rfl
theorem crcsums_bits17 : waitsOk crcsums_T17.2 crcsums_B17 = true := by kernel_rfl
theorem flat_snoc (ls : List (List Int)) (k : Nat) (hk : k < ls.length) : (ls.take (k + 1)).flatten = (ls.take k).flatten ++ rdL ls k := by
  rw [List.take_succ_eq_append_getElem hk, List.flatten_append]
  simp [rdL, hk]
theorem byt_rdL {ls : List (List Int)} (hl : ∀ l ∈ ls, Byt l) (i : Int) : Byt (rdL ls i) := by
  unfold rdL
  rw [List.getD_eq_getElem?_getD]
  rcases h : ls[i.toNat]? with _ | l
  · simpa using Byt.nil
  · exact hl l (List.mem_of_getElem? h)
theorem byt_takes {ls : List (List Int)} (hl : ∀ l ∈ ls, Byt l) (k : Nat) : ∀ l ∈ ls.take k, Byt l := fun l h => hl l (List.mem_of_mem_take h)
theorem byt_drops {ls : List (List Int)} (hl : ∀ l ∈ ls, Byt l) (k : Nat) : ∀ l ∈ ls.drop k, Byt l := fun l h => hl l (List.mem_of_mem_drop h)

set_option maxHeartbeats 4000000 in
set_option maxRecDepth 100000 in
theorem crcsums_any (A : Option Addr) (c : Nat) (ls : List (List Int)) (w : World) (hr : Kd.C (Kd.slice 5 (Kd.int .u8)) w A ls.length ls) (hc : ls.length ≤ c) (hb : ∀ l ∈ ls, Byt l) :
    Calls Try.prog 3 #[.slice A ls.length c] w fun e w' => e = .returned (.bool true) ∧ Below w.heap.size w w' := by
  have HB := Aside0.mk (Below.refl w.heap.size w)
  have HR := Aside0.mk hr
  clear hr
  have HY := Aside0.mk hb
  clear hb
  by_cases h12 : 12 < ls.length
  · have hd : decide (12 < (ls.length : Int)) = true := by simp; omega
    have hd2 : decide (12 < ls.length) = true := by simp; omega
    go_enter Try.func3, Try.ntmps3
    go_wp2_with fail
    go_ret
    exact ⟨rfl, HB.out⟩
  · have hd : decide (12 < (ls.length : Int)) = false := by simp; omega
    have hd2 : decide (12 < ls.length) = false := by simp; omega
    have hlen : ls.length ≤ 12 := by omega
    clear h12
    have H0 : Aside0 (andF 0 [] = 0) := ⟨by decide +kernel⟩
    go_enter Try.func3, Try.ntmps3
    go_wp2_with (go_at_call 16; refine (of_any none 0 [] _ (Kd.C_nil _ _) (Nat.le_refl _)).mono ?_; rw [H0.out]; rintro e w1 ⟨rfl, hb⟩; have HB1 := Aside0.mk hb; clear hb)
    go_loopg [3, 4, 5] ls.length (fun g s3 s4 s5 wx => ∃ (i : Nat) (z : Int) (all : List Int), i + g = ls.length ∧ s5 = .int .i64 i ∧ s4 = .int .u32 z ∧ Aside0 (z = ((crcN 0 all : Nat) : Int)) ∧ Aside0 (all = (ls.take i).flatten) ∧ Aside0 (all.length ≤ 300 * i) ∧ Aside0 (Kd.R (Kd.int .u8) 5 wx w.heap.size (fun _ => True) s3 all) ∧ Aside0 (Below w.heap.size w wx))
    case atStart => exact ⟨0, 0, [], by omega, rfl, rfl, ⟨by rw [crcN_nil]; rfl⟩, ⟨rfl⟩, ⟨by simp⟩, ⟨Kd.R_nil _ _ _ _ _⟩, HB1⟩
    case round =>
      clear HB1
      obtain ⟨i, z, all, hig, rfl, rfl, HZ, HALL, HLEN, HO, HB1⟩ := hrel
      cases gk with
      | zero =>
        have hii : i = ls.length := by omega
        have HALL2 : Aside0 (all = ls.flatten) := ⟨by rw [HALL.out, List.take_of_length_le (by omega)]⟩
        have hi : ¬ (i : Int) < (ls.length : Int) := by omega
        have hdi : decide (i < ls.length) = false := by simp; omega
        clear HALL
        clear hi hdi
        go_wp2
        go_loopg [6] (ls.length + 1) (fun g2 s6 wx => ∃ m : Nat, m + g2 = ls.length + 1 ∧ s6 = .int .i64 m ∧ Aside0 (Kd.R (Kd.int .u8) 5 wx w.heap.size (fun _ => True) u3 all) ∧ Aside0 (Below w.heap.size w wx))
        case atStart => exact ⟨0, by omega, rfl, HO, HB1⟩
        case round =>
          clear HO HB1
          obtain ⟨m, hmg, rfl, HO2, HB2⟩ := hrel
          cases gk with
          | zero =>
            have hm : decide ((m : Int) ≤ (ls.length : Int)) = false := by simp; omega
            have hm2 : decide (m ≤ ls.length) = false := by simp; omega
            have HW1 : Aside0 (andF 0 ls = z) := ⟨by rw [show (0 : Int) = ((0 : Nat) : Int) from rfl, andF_crc (by decide) HY.out, HZ.out, HALL2.out]⟩
            have HYA : Aside0 (Byt all) := ⟨by rw [HALL2.out]; exact byt_flatten HY.out⟩
            obtain ⟨Ao, co, eo⟩ := Kd.R_slice HO2.out
            cases eo
            go_wp2_with (first
              | (go_at_call 16; refine (of_any _ _ ls _ (Kd.C_below HR.out HB2.out) hc).mono ?_; rw [HW1.out]; rintro e w3 ⟨rfl, hb⟩; have HB3 := Aside0.mk (below_then HB2.out HB2.out.size hb); have HO3 := Aside0.mk (Kd.R_below HO2.out hb); clear hb)
              | (go_at_call 18; refine (refof_any _ _ all _ (Kd.R_reads' HO3.out).2.2 (Kd.R_reads' HO3.out).2.1 HYA.out).mono ?_; rw [← HZ.out]; rintro e w4 ⟨rfl, rfl⟩)
              | (go_at_call 19; refine (awake3_any _).mono ?_; rintro e w5 ⟨rfl, hb⟩; have HB5 := Aside0.mk (below_then HB3.out HB3.out.size hb); clear hb))
            go_ret
            exact ⟨rfl, HB5.out⟩
          | succ g2 =>
            have hml : m ≤ ls.length := by omega
            have hm : decide ((m : Int) ≤ (ls.length : Int)) = true := by simp; omega
            have hm2 : decide (m ≤ ls.length) = true := by simp; omega
            obtain ⟨i023, hi023, _, hsz23, _⟩ := info_parts info23
            obtain ⟨p, hp, hcutp, hCp, hpc⟩ := cutT (k := Kd.slice 5 (Kd.int .u8)) Try.underlying22 hi023 HR.out hc (m : Int) m rfl hml
            obtain ⟨A', q, hq, hcutq, hCq, hqc⟩ := cutD (k := Kd.slice 5 (Kd.int .u8)) rfl Try.underlying22 hi023 hsz23 HR.out hc (m : Int) m rfl hml
            have HPQ : Aside0 (andF (andF 0 p) q = z) := ⟨by
              have hyp : ∀ l ∈ p, Byt l := by rw [hp]; exact byt_takes HY.out m
              have hyq : ∀ l ∈ q, Byt l := by rw [hq]; exact byt_drops HY.out m
              rw [show (0 : Int) = ((0 : Nat) : Int) from rfl, andF_crc (by decide) hyp, andF_crc (crcN_lt (by decide) (byt_flatten hyp)) hyq, crcN_append, HZ.out, HALL2.out, ← List.flatten_append, hp, hq, List.take_append_drop]⟩
            have HP := Aside0.mk hCp
            have HPc := Aside0.mk hpc
            have HQ := Aside0.mk hCq
            have HQc := Aside0.mk hqc
            clear hp hq hCp hCq hi023 hsz23 hpc hqc
            go_wp2
            refine start_ (n := 10) (S := fun w' => Below w.heap.size w w') (ds := []) #[false, false, false, false, false, false, false, false, false, false] (by kernel_rfl) rfl rfl (below_drew HB2.out) (fun hHeld => ?_)
            refine with_tabW crcsums_tab17 crcsums_bits17 (fun HT_ HW_ => ?_)
            refine pure_ (i := 0) (N := some 46) (v := ?_) (a' := ?_) #[true, false, false, false, false, false, false, false, false, false] rfl rfl (any_of HT_.out (by kernel_rfl)) (fun _ _ _ h => h) (Or.inl ⟨by rfl, ?_⟩) ?_ ?_
            rotate_left
            · intro w'
              go_simp
              with_reducible rfl
            rotate_left
            · simp only [Act.put, List.setIfInBounds_toArray, List.set_cons_zero, List.set_cons_succ, i64_w, i32_w]
              rfl
            refine pure_ (i := 1) (N := some 47) (v := ?_) (a' := ?_) #[true, true, false, false, false, false, false, false, false, false] rfl rfl (any_of HT_.out (by kernel_rfl)) (fun _ _ _ h => h) (Or.inl ⟨by rfl, ?_⟩) ?_ ?_
            rotate_left
            · intro w'
              go_simp
              with_reducible rfl
            rotate_left
            · simp only [Act.put, List.setIfInBounds_toArray, List.set_cons_zero, List.set_cons_succ, i64_w, i32_w]
              rfl
            refine pure_ (i := 2) (N := some 48) (v := ?_) (a' := ?_) #[true, true, true, false, false, false, false, false, false, false] rfl rfl (any_of HT_.out (by kernel_rfl)) (fun _ _ _ h => h) (Or.inl ⟨by rfl, ?_⟩) ?_ ?_
            rotate_left
            · intro w'
              go_simp
              with_reducible rfl
            rotate_left
            · simp only [Act.put, List.setIfInBounds_toArray, List.set_cons_zero, List.set_cons_succ, i64_w, i32_w]
              rfl
            refine pure_ (i := 4) (N := some 50) (v := ?_) (a' := ?_) #[true, true, true, false, true, false, false, false, false, false] rfl rfl (any_of HT_.out (by kernel_rfl)) (fun _ _ _ h => h) (Or.inl ⟨by rfl, ?_⟩) ?_ ?_
            rotate_left
            · intro w'
              go_simp
              with_reducible rfl
            rotate_left
            · simp only [Act.put, List.setIfInBounds_toArray, List.set_cons_zero, List.set_cons_succ, i64_w, i32_w]
              rfl
            refine pure_ (i := 5) (N := some 51) (v := ?_) (a' := ?_) #[true, true, true, false, true, true, false, false, false, false] rfl rfl (any_of HT_.out (by kernel_rfl)) (fun _ _ _ h => h) (Or.inl ⟨by rfl, ?_⟩) ?_ ?_
            rotate_left
            · intro w'
              go_simp
              with_reducible rfl
            rotate_left
            · simp only [Act.put, List.setIfInBounds_toArray, List.set_cons_zero, List.set_cons_succ, i64_w, i32_w]
              rfl
            refine pure_ (i := 6) (N := some 52) (v := ?_) (a' := ?_) #[true, true, true, false, true, true, true, false, false, false] rfl rfl (any_of HT_.out (by kernel_rfl)) (fun _ _ _ h => h) (Or.inl ⟨by rfl, ?_⟩) ?_ ?_
            rotate_left
            · intro w'
              go_simp
              with_reducible rfl
            rotate_left
            · simp only [Act.put, List.setIfInBounds_toArray, List.set_cons_zero, List.set_cons_succ, i64_w, i32_w]
              rfl
            refine pure_ (i := 8) (N := some 54) (v := ?_) (a' := ?_) #[true, true, true, false, true, true, true, false, true, false] rfl rfl (any_of HT_.out (by kernel_rfl)) (fun _ _ _ h => h) (Or.inl ⟨by rfl, ?_⟩) ?_ ?_
            rotate_left
            · intro w'
              go_simp
              with_reducible rfl
            rotate_left
            · simp only [Act.put, List.setIfInBounds_toArray, List.set_cons_zero, List.set_cons_succ, i64_w, i32_w]
              rfl
            refine one_ (i := 3) (N := some 49) #[true, true, true, true, true, true, true, false, true, false] rfl rfl (one_of HT_.out (by kernel_rfl)) (by decide) (fun K hK => ?_)
            refine goes_ Try.func16 (by kernel_rfl) rfl #[.slice A p.length c] (by rfl) rfl rfl (by (try simp only [List.map_toArray, List.map_cons, List.map_nil]); first | done | rfl) ?_
            refine (of_any _ _ p _ (Kd.C_below HP.out hHeld) HPc.out).mono ?_
            rintro e w1 ⟨rfl, hb⟩
            refine ⟨_, rfl, ?_⟩
            have HB3 := Aside0.mk (below_then hHeld hHeld.size hb)
            have HO3 := Aside0.mk (Kd.R_below (Kd.R_drew HO2.out) hb)
            clear hb
            refine hK.out _ _ HB3.out (fun hHeld => ?_)
            clear hK K
            refine norm_ (a' := ?_) ?_ ?_
            rotate_left
            · show Act.put _ (some 49) _ = _
              simp only [Act.put, List.setIfInBounds_toArray, List.set_cons_zero, List.set_cons_succ, i64_w, i32_w]
              rfl
            refine one_ (i := 7) (N := some 53) #[true, true, true, true, true, true, true, true, true, false] rfl rfl (one_of HT_.out (by kernel_rfl)) (by decide) (fun K hK => ?_)
            refine goes_ Try.func17 (by kernel_rfl) rfl #[.int .u32 (andF 0 p), .slice A' q.length (c - m)] (by rfl) rfl rfl (by (try simp only [List.map_toArray, List.map_cons, List.map_nil]); first | done | rfl) ?_
            refine (and_any _ _ _ q _ (Kd.C_below HQ.out HB3.out) HQc.out).mono ?_
            rw [HPQ.out]
            rintro e w2 ⟨rfl, hb⟩
            refine ⟨_, rfl, ?_⟩
            have HB4 := Aside0.mk (below_then HB3.out HB3.out.size hb)
            have HO4 := Aside0.mk (Kd.R_below HO3.out hb)
            clear hb
            refine hK.out _ _ HB4.out (fun hHeld => ?_)
            clear hK K
            refine norm_ (a' := ?_) ?_ ?_
            rotate_left
            · show Act.put _ (some 53) _ = _
              simp only [Act.put, List.setIfInBounds_toArray, List.set_cons_zero, List.set_cons_succ, i64_w, i32_w]
              rfl
            refine pure_ (i := 9) (N := some 55) (v := ?_) (a' := ?_) #[true, true, true, true, true, true, true, true, true, true] rfl rfl (any_of HT_.out (by kernel_rfl)) (fun _ _ _ h => h) (Or.inl ⟨by rfl, ?_⟩) ?_ ?_
            rotate_left
            · intro w'
              go_simp
              with_reducible rfl
            rotate_left
            · simp only [Act.put, List.setIfInBounds_toArray, List.set_cons_zero, List.set_cons_succ, i64_w, i32_w]
              rfl
            refine done_ (done_of HT_.out (by kernel_rfl)) ?_
            go_wp2
            go_roundg g2
            case measure => omega
            case rel => exact ⟨m + 1, by omega, by first | rfl | simp, HO4, HB4⟩
      | succ g =>
        have hlt : i < ls.length := by omega
        have hi : (i : Int) < (ls.length : Int) := by omega
        obtain ⟨ad, A0, c0, hA, hcell, hc0, hin⟩ := at_L HR.out i (by omega) (by omega)
        have hsn := flat_snoc ls i hlt
        have hyl := byt_rdL HY.out i
        obtain ⟨l, hl⟩ : ∃ l, l = rdL ls i := ⟨_, rfl⟩
        rw [← hl] at hcell hc0 hin hsn hyl
        clear hl
        cases hA
        simp only [Int.toNat_natCast] at hcell
        have HN := Aside0.mk hin
        have HYL := Aside0.mk hyl
        have HSN := Aside0.mk hsn
        clear hin hyl hsn
        have HCELL := Aside0.mk hcell
        have hcell1 := pw_cell_below HB1.out hcell
        clear hcell
        by_cases h300 : 300 < l.length
        · have hd3 : decide (300 < (l.length : Int)) = true := by simp; omega
          have hd4 : decide (300 < l.length) = true := by simp; omega
          go_wp2
          go_ret
          exact ⟨rfl, HB1.out⟩
        · have hd3 : decide (300 < (l.length : Int)) = false := by simp; omega
          have hd4 : decide (300 < l.length) = false := by simp; omega
          have HL3 := Aside0.mk (show l.length ≤ 300 by omega)
          obtain ⟨all2, hall2⟩ : ∃ a, a = all ++ l := ⟨_, rfl⟩
          have hz2 : andF z [l] = ((crcN 0 all2 : Nat) : Int) := by
            have hya : Byt all := by rw [HALL.out]; exact byt_flatten (byt_takes HY.out i)
            rw [HZ.out, andF_crc (crcN_lt (by decide) hya) (fun m hm => by rw [List.mem_singleton.1 hm]; exact HYL.out), hall2, ← crcN_append]
            simp
          obtain ⟨z2, hz3⟩ : ∃ z : Int, z = ((crcN 0 all2 : Nat) : Int) := ⟨_, rfl⟩
          rw [← hz3] at hz2
          have HZ2 := Aside0.mk hz2
          have HZ3 := Aside0.mk hz3
          have HA2 := Aside0.mk hall2
          have HA3 : Aside0 (all2 = (ls.take (i + 1)).flatten) := ⟨by rw [hall2, HSN.out, ← HALL.out]⟩
          have HA4 : Aside0 (all2.length ≤ 300 * (i + 1)) := ⟨by rw [hall2, List.length_append]; have := HLEN.out; have := HL3.out; omega⟩
          have HY2 : Aside0 (Byt all2) := ⟨by rw [HA3.out]; exact byt_flatten (byt_takes HY.out _)⟩
          clear hz2 hz3 hall2
          have HLIM : Aside0 ((all.length + l.length) * 1 ≤ 140737488355328) := ⟨by have := HLEN.out; have := HL3.out; omega⟩
          go_wp2_with (first
            | ((with_reducible refine gate_builtin (b := .append) (xs := #[.tmp 23, .tmp 27]) rfl ?_); at_builtin; refine Kd.R_append_rows (Kd.int .u8) (w0 := w) w.heap.size rfl (.tmp 23) (.tmp 27) 23 5 (.int .u8 0) 1 rfl Try.underlying23 info5 rfl (by decide) (by omega) _ all l _ _ _ (fun _ => True) (fun _ => False) rfl rfl HO.out (Kd.C_below HN.out HB1.out) (fun _ _ h => h) (fun _ h => h.elim) (fun _ _ => trivial) HB1.out HB1.out.size HLIM.out ?_; intro v2 w2 ho hb hg hat; rw [← HA2.out] at ho; have HO2 := Aside0.mk ho; have HB2 := Aside0.mk hb; clear ho hb hg hat; have hcell2 := pw_cell_below HB2.out HCELL.out; obtain ⟨Ao, co, eo⟩ := Kd.R_slice HO2.out; subst eo)
            | (go_at_call 17; refine (and_any _ _ _ [l] _ (lit1_C (Kd.C_below HN.out HB2.out) hc0) (Nat.le_refl _)).mono ?_; rw [HZ2.out]; rintro e w3 ⟨rfl, hb⟩; have HB3 := Aside0.mk (below_then (below_alloc HB2.out _) (below_alloc HB2.out _).size hb); have HO3 := Aside0.mk (Kd.R_below (Kd.R_alloc HO2.out _) hb); clear hb)
            | (go_at_call 18; refine (refof_any _ _ _ _ (Kd.R_reads' HO3.out).2.2 (Kd.R_reads' HO3.out).2.1 HY2.out).mono ?_; rw [← HZ3.out]; rintro e w4 ⟨rfl, rfl⟩))
          go_roundg g
          case measure => omega
          case rel => exact ⟨i + 1, z2, all2, by omega, by first | rfl | simp, rfl, HZ3, HA3, HA4, HO3, HB3⟩
end Go.Proofs.Ytonbphiaideleaa.M
