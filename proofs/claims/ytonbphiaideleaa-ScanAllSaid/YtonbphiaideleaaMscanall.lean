/- lacunalaw05.ScanAll: the walk. -/
import Derived.Test.YtonbphiaideleaaMscanf
namespace Go.Proofs.Ytonbphiaideleaa.M
open Go.RowKit Go.Proofs.YtonbphiaideleaaW.PrintWords Go.Proofs.YtonbphiaideleaaW.PrintLast Go.Proofs.YtonbphiaideleaaW.PrintMore Go.Proofs.Ytonbphiaideleaa.PC
set_option linter.unusedVariables false
set_option linter.unusedSimpArgs false
theorem elI {w : World} {A : Option Addr} {m : Nat} {xs : List Int} (h : Kd.C (Kd.int .i64) w A m xs) (hm : xs.length = m) (k : Nat) (hk : k < m) (q : Int) (hq : xs[k]? = some q) : ∃ ad : Addr, A = some ad ∧ w.cell? (ad.add k) = some (.int .i64 q) := by
  obtain ⟨ad, c, e, _, hK, hc0⟩ := Kd.C_get h 0 (k : Int) (by omega) (by omega)
  have e1 : xs.getD (k : Int).toNat 0 = q := by rw [Int.toNat_natCast, List.getD_eq_getElem?_getD, hq]; rfl
  refine ⟨ad, e, ?_⟩
  rw [e1] at hK
  obtain rfl : c = [.int .i64 q] := hK
  have h2 := hc0 0 _ rfl
  rw [Int.toNat_natCast] at h2
  simpa [Kd.int, Kd.scalar] using h2
set_option maxHeartbeats 8000000 in
set_option maxRecDepth 100000 in
theorem scanall_any (A : Option Addr) (c : Nat) (ls : List S44) (w : World) (hC : Kd.C k44 w A ls.length ls) (hc : ls.length ≤ c) (hy : ∀ q ∈ ls, Byt q.f2) :
    Calls Try.prog 12 #[.slice A ls.length c] w fun e w' => e = .returned (.bool true) ∧ Below w.heap.size w w' := by
  have hu44 := Try.underlying44
  have hu55 := Try.underlying55
  have hu61 := Try.underlying61
  have hu68 := Try.underlying68
  have hu40 := Try.underlying40
  have hu56 := Try.underlying56
  have HC := Aside0.mk hC
  have HY := Aside0.mk hy
  have HB := Aside0.mk (Below.refl w.heap.size w)
  clear hC hy
  by_cases h12 : 12 < ls.length
  · have hd : decide (12 < (ls.length : Int)) = true := by simp; omega
    have hd2 : decide (12 < ls.length) = true := by simp; omega
    go_enter Try.func12, Try.ntmps12
    go_wp2_with fail
    go_ret
    exact ⟨rfl, HB.out⟩
  · have hd : decide (12 < (ls.length : Int)) = false := by simp; omega
    have hd2 : decide (12 < ls.length) = false := by simp; omega
    have HLS : Aside0 (ls.length ≤ 12) := ⟨by omega⟩
    clear h12
    go_enter Try.func12, Try.ntmps12
    go_wp2
    go_loopg [3, 4, 5] ls.length (fun g s3 s4 s5 wx => ∃ (k : Nat) (B E : List Int), k + g = ls.length ∧ s5 = .int .i64 k ∧ Aside0 (B = catF (ls.take k)) ∧ Aside0 (E = endsF ls k) ∧ Aside0 (∀ q ∈ ls.take k, okF q) ∧ Aside0 (B.length ≤ 310 * k) ∧ Aside0 (Kd.R (Kd.int .u8) 5 wx w.heap.size (fun _ => True) s3 B) ∧ Aside0 (Kd.R (Kd.int .i64) 3 wx w.heap.size (fun _ => True) s4 E) ∧ Aside0 (Below w.heap.size w wx))
    case atStart => exact ⟨0, [], [], by omega, rfl, ⟨rfl⟩, ⟨rfl⟩, ⟨fun _ h => by simp at h⟩, ⟨by simp⟩, ⟨Kd.R_nil _ _ _ _ _⟩, ⟨Kd.R_nil _ _ _ _ _⟩, HB⟩
    case round =>
      clear HB
      obtain ⟨k, B, E, hkg, rfl, HBE, HEE, HOK, HBL, HO, HE, HB⟩ := hrel
      cases gk with
      | zero =>
        have hkk : k = ls.length := by omega
        subst hkk
        have hd : decide ((ls.length : Int) < (ls.length : Int)) = false := by simp
        have hd2 : decide (ls.length < ls.length) = false := by simp
        have HOKl : Aside0 (∀ q ∈ ls, okF q) := ⟨fun q hq => HOK.out q (by rw [List.take_length]; exact hq)⟩
        have HBc : Aside0 (B = catF ls) := ⟨by rw [HBE.out, List.take_length]⟩
        obtain ⟨M, hM⟩ : ∃ M, M = madeF ls 0 := ⟨_, rfl⟩
        have HM := Aside0.mk hM
        have HML : Aside0 (M.length = ls.length) := ⟨by rw [hM, madeF_length]⟩
        have HS : Aside0 (scanF ([] ++ B) 0 = (M, [], (B.length : Int), 1)) := ⟨by
          have h := scan_cat ls [] 0 HOKl.out (fun _ h => by cases h)
          rw [List.append_nil, scan_nil, ← HBc.out, ← hM] at h
          rw [List.nil_append, h]
          simp⟩
        have HYB : Aside0 (Byt B) := ⟨by rw [HBc.out]; exact catF_byt HOKl.out⟩
        obtain ⟨A3, c3, e3⟩ := Kd.R_slice HO.out
        obtain ⟨A4, c4, e4⟩ := Kd.R_slice HE.out
        have HEl : Aside0 (E.length = ls.length) := ⟨by rw [HEE.out]; simp [endsF]⟩
        rw [HEl.out] at e4
        cases e3
        cases e4
        have HBL2 : Aside0 (B.length ≤ 3720) := ⟨by have h1 := HBL.out; have h2 := HLS.out; omega⟩
        have hbl : (B.length : Int) ≤ 3720 := by have h1 := HBL2.out; omega
        have hbu : IntKind.u64.wrap (B.length : Int) = (B.length : Int) := by simp [IntKind.wrap, IntKind.signed, IntKind.bits]; omega
        have hz0 : ((0 : Int) != 0) = false := rfl
        have hz1 : ((B.length : Int) != (B.length : Int)) = false := by simp
        have hz2 : ((ls.length : Int) != (ls.length : Int)) = false := by simp
        clear HBE HOK HBL hM
        go_wp2_with (first
          | (go_at_call 37; refine (at_any g5 A7 _ c7 _ 0 _ HR7.out.G).mono ?_; rintro e w8 ⟨rfl, rfl⟩)
          | (go_at_call 38; refine (kept_any g5 A7 _ c7 _ 0 _ HR7.out.G).mono ?_; rintro e w8 ⟨rfl, rfl⟩)
          | (go_at_call 36; refine (feed_any g5 none 0 [] 0 A3 c3 B _ w.heap.size M [] (B.length : Int) 1 HS.out [] rfl 0 rfl HG5.out (Kd.R_nil _ _ _ _ _) (Kd.C_below (Kd.R_reads' HO.out).2.2 HB45.out) (Kd.R_reads' HO.out).2.1 HB5.out.size (by rw [HGE.out]; exact HB.out.size) (by have := HBL2.out; simp only [List.length_nil]; omega) (fun _ h => by cases h) HYB.out (by decide)).mono ?_; rintro e w7 ⟨v7, A7, c7, rfl, hR7⟩; have HR7 := Aside0.mk hR7; have HB7 : Aside0 (Below w.heap.size w w7) := ⟨HB5.out.trans hR7.bel⟩; clear hR7; obtain ⟨Am, cm, em⟩ := Kd.R_slice HR7.out.O; rw [HML.out] at em; subst em)
          | (go_at_call 35; refine (new_any _).mono ?_; rintro e w5 ⟨g5, hg, rfl, hG5, hb⟩; have HGE := Aside0.mk hg; have HG5 := Aside0.mk hG5; have HB45 := Aside0.mk hb; have HB5 := Aside0.mk (below_step HB.out hb); have HE5 := Aside0.mk (Kd.R_below HE.out hb); clear hg hG5 hb))
        clear hd hd2 hz0 hz1 hz2 hbu
        have HE7 : Aside0 (Kd.C (Kd.int .i64) w7 A4 ls.length E) := ⟨by
          have h := (Kd.R_reads' (Kd.R_step (Kd.R_below (Kd.R_mono (Kd.R_bound HE.out) (ok' := fun k => k < g5) (fun k hk => by rw [HGE.out]; exact hk.2.2.1)) HB45.out) (fun k hk hlt => HR7.out.keep k hlt (Nat.ne_of_lt hk) (by simp [Value.ownBlock])))).2.2
          rw [HEl.out] at h
          exact h⟩
        have HO7 : Aside0 (Kd.C k68 w7 Am ls.length M) := ⟨by
          have h := (Kd.R_reads' HR7.out.O).2.2
          rw [HML.out] at h
          exact h⟩
        go_loopg [11] ls.length (fun g s11 wx => ∃ i : Nat, i + g = ls.length ∧ s11 = .int .i64 i ∧ Aside0 (Below w7.heap.size w7 wx))
        case atStart => exact ⟨0, by omega, rfl, ⟨Below.refl _ _⟩⟩
        case round =>
          obtain ⟨i, hig, rfl, HB8⟩ := hrel
          cases gk with
          | zero =>
            have hd : decide ((i : Int) < (ls.length : Int)) = false := by simp; omega
            have hd2 : decide (i < ls.length) = false := by simp; omega
            go_wp2_with (go_at_call 39; refine (awake5_any _).mono ?_; rintro e w9 ⟨rfl, hb⟩; have HB9 := Aside0.mk (below_step (below_step HB7.out HB8.out) hb); clear hb)
            go_ret
            exact ⟨rfl, HB9.out⟩
          | succ g =>
            have hlt : i < ls.length := by omega
            have hd : decide ((i : Int) < (ls.length : Int)) = true := by simp; omega
            have hd2 : decide (i < ls.length) = true := by simp; omega
            obtain ⟨q, hq⟩ : ∃ q, ls[i]? = some q := ⟨ls[i]'hlt, List.getElem?_eq_getElem _⟩
            obtain ⟨ai, hai⟩ : ∃ a : Int, a = ((catF (ls.take i)).length : Int) := ⟨_, rfl⟩
            obtain ⟨sz, hsz⟩ : ∃ a : Int, a = (q.f2.length : Int) + 10 := ⟨_, rfl⟩
            have hMi : M[i]? = some ⟨q, ai, sz⟩ := by rw [HM.out, madeF_get ls 0 i q hq, hai, hsz]; simp
            have hEi : E[i]? = some (ai + sz) := by rw [HEE.out, endsF_get ls hlt, catF_take hq, List.length_append, frB_length, hai, hsz]; congr 1
            have hle : ai + sz ≤ 3720 := by
              have h1 := HBL2.out
              rw [HBc.out] at h1
              have h2 : (catF (ls.take (i + 1))).length ≤ (catF ls).length := by
                conv => rhs; rw [← List.take_append_drop (i + 1) ls, catF_append, List.length_append]
                omega
              rw [catF_take hq, List.length_append, frB_length] at h2
              omega
            have ha0 : 0 ≤ ai := by omega
            have hs0 : 0 ≤ sz := by omega
            clear hai hsz
            obtain ⟨ad, A2, c2, rfl, a0, a1, a2, hl2, hc2⟩ := el44 HC.out rfl i hlt q hq
            obtain ⟨ad', A3', c3', rfl, d0, d1, d2, d3, d4, hl3, hc3⟩ := el68 HO7.out HML.out i hlt _ hMi
            obtain ⟨ae, rfl, z0⟩ := elI HE7.out HEl.out i hlt _ hEi
            obtain ⟨x, y, l⟩ := q
            dsimp only at *
            have a0 := cell_bel (cell_bel a0 HB7.out) HB8.out
            have a1 := cell_bel (cell_bel a1 HB7.out) HB8.out
            have a2 := cell_bel (cell_bel a2 HB7.out) HB8.out
            have d0 := cell_bel d0 HB8.out
            have d1 := cell_bel d1 HB8.out
            have d2 := cell_bel d2 HB8.out
            have d3 := cell_bel d3 HB8.out
            have d4 := cell_bel d4 HB8.out
            have z0 := cell_bel z0 HB8.out
            have hcv1 := fun n => Kd.C_string (P := Try.prog) (A := A2) (c := c2) Try.underlying23 Try.underlying5 Try.underlying9 (Kd.C_below (Kd.C_below (Kd.C_below hc2 HB7.out) HB8.out) (pw_below_drewN (Below.refl _ _) n))
            have hcv2 := fun n => Kd.C_string (P := Try.prog) (A := A3') (c := c3') Try.underlying23 Try.underlying5 Try.underlying9 (Kd.C_below (Kd.C_below hc3 HB8.out) (pw_below_drewN (Below.refl _ _) n))
            have hi0 : (0 : Int) ≤ (i : Int) := by omega
            have hi1 : (i : Int) < (ls.length : Int) := by omega
            have hit : (i : Int).toNat = i := by omega
            have hi12 : (i : Int) ≤ 12 := by have := HLS.out; omega
            have hwa : IntKind.i64.wrap ai = ai := by simp [IntKind.wrap, IntKind.signed, IntKind.bits]; omega
            have hws : IntKind.i64.wrap (ai + sz) = ai + sz := by simp [IntKind.wrap, IntKind.signed, IntKind.bits]; omega
            have hn1 : (x != x) = false := by simp
            have hn2 : (y != y) = false := by simp
            have hn3 : ((ai + sz) != (ai + sz)) = false := by simp
            have hn4 : ((strOfNums l).toList == (strOfNums l).toList) = true := by simp
            clear hq hMi hEi hl2 hc2 hl3 hc3
            go_wp2
            go_quiet (fail)
            rename_i K hK
            refine hK _ _ ?_
            clear hK K
            go_wp2
            go_roundg g
            case measure => omega
            case rel => exact ⟨i + 1, by omega, by first | rfl | simp, ⟨pw_below_drewN HB8.out _⟩⟩
      | succ g =>
        have hlt : k < ls.length := by omega
        have hd : decide ((k : Int) < (ls.length : Int)) = true := by simp; omega
        have hd2 : decide (k < ls.length) = true := by simp; omega
        obtain ⟨q, hq⟩ : ∃ q, ls[k]? = some q := ⟨ls[k]'hlt, List.getElem?_eq_getElem _⟩
        have HQ := Aside0.mk hq
        have HQY := Aside0.mk (HY.out q (List.mem_of_getElem? hq))
        obtain ⟨ad, A2, c2, rfl, a0, a1, a2, hl2, hc2⟩ := el44 HC.out rfl k hlt q hq
        obtain ⟨x, y, l⟩ := q
        dsimp only at *
        have HCa0 := Aside0.mk a0
        have HCa1 := Aside0.mk a1
        have HCa2 := Aside0.mk a2
        have HL2 := Aside0.mk hc2
        have HL2c := Aside0.mk hl2
        have hk0 : (0 : Int) ≤ (k : Int) := by omega
        have hk1 : (k : Int) < (ls.length : Int) := by omega
        have hkt : (k : Int).toNat = k := by omega
        have hk12 : (k : Int) ≤ 12 := by have := HLS.out; omega
        clear a0 a1 a2 hl2 hc2 hq
        have b0 := cell_bel HCa0.out HB.out
        have b1 := cell_bel HCa1.out HB.out
        have b2 := cell_bel HCa2.out HB.out
        by_cases h300 : 300 < l.length
        · have hd3 : decide ((300 : Int) < (l.length : Int)) = true := by simp; omega
          have hd4 : decide (300 < l.length) = true := by simp; omega
          clear h300
          go_wp2_with fail
          go_ret
          exact ⟨rfl, HB.out⟩
        · have hd3 : decide ((300 : Int) < (l.length : Int)) = false := by simp; omega
          have hd4 : decide (300 < l.length) = false := by simp; omega
          have HL300 : Aside0 (l.length ≤ 300) := ⟨by omega⟩
          clear h300
          by_cases hr : rightF x y l = 0
          · have HR := Aside0.mk hr
            have hne : ((0 : Int) != 0) = false := rfl
            obtain ⟨B2, hB2⟩ : ∃ B2, B2 = B ++ frB x y l := ⟨_, rfl⟩
            have HBe := Aside0.mk hB2
            clear hB2
            clear hr
            go_wp2_with (first
              | ((with_reducible refine gate_builtin (b := .append) (xs := #[.tmp 47, .tmp 50]) rfl ?_); at_builtin; refine Kd.R_append (Kd.int .i64) (w0 := w) w.heap.size rfl (.tmp 47) (.tmp 50) 56 3 (.int .i64 0) 8 rfl Try.underlying56 info3 rfl (by decide) (by omega) u4 E (B2.length : Int) [.int .i64 (B2.length : Int)] (fun _ => True) (fun _ => False) rfl rfl rfl (fun _ h => h.elim) (fun _ _ => trivial) HE4.out HB4.out HB4.out.size (by have := congrArg List.length HEE.out; rw [this]; simp [endsF]; have := HLS.out; omega) ?_; intro v5 w5 ho hb hg hat; have HE5 := Aside0.mk ho; have HB5 := Aside0.mk hb; have HO5 := Aside0.mk (R_two HE4.out HO4.out (by decide) hg); clear ho hb hg hat)
              | ((with_reducible refine gate_builtin (b := .append) (xs := #[.tmp 44, .tmp 45]) rfl ?_); at_builtin; refine Kd.R_append_rows (Kd.int .u8) (w0 := w) w.heap.size rfl (.tmp 44) (.tmp 45) 23 5 (.int .u8 0) 1 rfl Try.underlying23 info5 rfl (by decide) (by omega) u3 B (frB x y l) _ _ _ (fun _ => True) (fun _ => False) rfl rfl HOB3.out (Kd.R_reads' HO3.out).2.2 (fun _ _ h => h) (fun _ h => h.elim) (fun _ _ => trivial) HB3.out HB3.out.size (by have h1 := HBL.out; have h2 := HLS.out; have h3 := HL300.out; rw [frB_length]; omega) ?_; intro v4 w4 ho hb hg hat; rw [← HBe.out] at ho; have HO4 := Aside0.mk ho; have HB4 := Aside0.mk hb; have HE4 := Aside0.mk (R_two HOB3.out HE3.out (by decide) hg); clear ho hb hg hat; obtain ⟨A4, c4, e4⟩ := Kd.R_slice HO4.out; subst e4)
              | (go_at_call 34; refine (refmake_any x y A2 c2 l _ (Kd.C_below HL2.out HB2.out) HL2c.out HR.out HQY.out).mono ?_; rintro e w3 ⟨v3, rfl, ho, hb⟩; have HO3 := Aside0.mk ho; have HB3 := Aside0.mk (below_step HB2.out hb); have HOB3 := Aside0.mk (Kd.R_below HO2.out hb); have HE3 := Aside0.mk (Kd.R_below HE2.out hb); clear ho hb b0 b1 b2; obtain ⟨A3, c3, e3⟩ := Kd.R_slice HO3.out; subst e3)
              | (go_at_call 31; refine (refright_any x y A2 c2 l _ (Kd.C_below HL2.out HB.out) HL2c.out).mono ?_; rw [HR.out]; rintro e w2 ⟨rfl, hb⟩; have HB2 := Aside0.mk (below_step HB.out hb); have HO2 := Aside0.mk (Kd.R_below HO.out hb); have HE2 := Aside0.mk (Kd.R_below HE.out hb); clear hb b0 b1 b2; have b0 := cell_bel HCa0.out HB2.out; have b1 := cell_bel HCa1.out HB2.out; have b2 := cell_bel HCa2.out HB2.out))
            go_roundg g
            case measure => omega
            case rel => exact ⟨k + 1, B2, E ++ [(B2.length : Int)], by omega, by first | rfl | simp, ⟨by rw [HBe.out, catF_take HQ.out, HBE.out]⟩, ⟨by rw [endsF_succ, HEE.out, catF_take HQ.out, HBe.out, HBE.out]⟩, ⟨fun q hq => by
                rw [List.take_add_one, HQ.out] at hq
                rcases List.mem_append.1 hq with h | h
                · exact HOK.out q h
                · obtain rfl : q = ⟨x, y, l⟩ := by simpa using h
                  exact ⟨HR.out, HQY.out⟩⟩, ⟨by have h1 := HBL.out; have h2 := HL300.out; rw [HBe.out, List.length_append, frB_length]; omega⟩, HO5, HE5, HB5⟩
          · obtain ⟨r, hrr⟩ : ∃ r, r = rightF x y l := ⟨_, rfl⟩
            have HR : Aside0 (rightF x y l = r) := ⟨hrr.symm⟩
            have hz : (r == 0) = false := by rw [hrr]; simpa using hr
            have hz2 : (r != 0) = true := by rw [bne, hz]; rfl
            clear hr hrr
            go_wp2_with (first
              | (go_at_call 31; refine (refright_any x y A2 c2 l _ (Kd.C_below HL2.out HB.out) HL2c.out).mono ?_; rw [HR.out]; rintro e w2 ⟨rfl, hb⟩; have HB2 := Aside0.mk (below_step HB.out hb); have HO2 := Aside0.mk (Kd.R_below HO.out hb); have HE2 := Aside0.mk (Kd.R_below HE.out hb); clear hb b0 b1 b2; have b0 := cell_bel HCa0.out HB2.out; have b1 := cell_bel HCa1.out HB2.out; have b2 := cell_bel HCa2.out HB2.out))
            go_ret
            exact ⟨rfl, HB2.out⟩
end Go.Proofs.Ytonbphiaideleaa.M
