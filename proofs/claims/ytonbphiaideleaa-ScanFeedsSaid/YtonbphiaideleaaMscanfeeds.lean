/- lacunalaw05.ScanFeeds: the walk. -/
import Derived.Test.YtonbphiaideleaaMfeeds
namespace Go.Proofs.Ytonbphiaideleaa.M
open Go.RowKit Go.Proofs.YtonbphiaideleaaW.PrintWords Go.Proofs.YtonbphiaideleaaW.PrintLast Go.Proofs.YtonbphiaideleaaW.PrintMore Go.Proofs.Ytonbphiaideleaa.PC
set_option linter.unusedVariables false
set_option linter.unusedSimpArgs false
set_option maxHeartbeats 8000000 in
set_option maxRecDepth 100000 in
theorem scanfeeds_any (A : Option Addr) (c : Nat) (b : List Int) (Ap : Option Addr) (cp : Nat) (ps : List Int) (w : World) (hr : Kd.C (Kd.int .u8) w A b.length b) (hc : b.length ≤ c) (hyb : Byt b) (hp : Kd.C (Kd.int .u16) w Ap ps.length ps) (hcp : ps.length ≤ cp) (hpu : ∀ x ∈ ps, 0 ≤ x ∧ x < 65536) :
    Calls Try.prog 14 #[.slice A b.length c, .slice Ap ps.length cp] w fun e w' => e = .returned (.bool true) ∧ Below w.heap.size w w' := by
  have hu71 := Try.underlying71
  have hu61 := Try.underlying61
  have hu73 := Try.underlying73
  have HR := Aside0.mk hr
  have HYB := Aside0.mk hyb
  have HP := Aside0.mk hp
  have HPU := Aside0.mk hpu
  have HB := Aside0.mk (Below.refl w.heap.size w)
  clear hr hyb hp hpu
  by_cases h9 : 9000 < b.length
  · have hd : decide (9000 < (b.length : Int)) = true := by simp; omega
    have hd2 : decide (9000 < b.length) = true := by simp; omega
    go_enter Try.func14, Try.ntmps14
    go_wp2_with fail
    go_ret
    exact ⟨rfl, HB.out⟩
  have hd : decide (9000 < (b.length : Int)) = false := by simp; omega
  have hd2 : decide (9000 < b.length) = false := by simp; omega
  by_cases h4 : 40 < ps.length
  · have hd3 : decide (40 < (ps.length : Int)) = true := by simp; omega
    have hd4 : decide (40 < ps.length) = true := by simp; omega
    go_enter Try.func14, Try.ntmps14
    go_wp2_with fail
    go_ret
    exact ⟨rfl, HB.out⟩
  have hd3 : decide (40 < (ps.length : Int)) = false := by simp; omega
  have hd4 : decide (40 < ps.length) = false := by simp; omega
  have HBL : Aside0 (b.length ≤ 9000) := ⟨by omega⟩
  have HPL : Aside0 (ps.length ≤ 40) := ⟨by omega⟩
  clear h9 h4 HB
  obtain ⟨i05, hi05, _, hsz5, _⟩ := info_parts info5
  have HI := Aside0.mk hi05
  have HSZ := Aside0.mk hsz5
  obtain ⟨i87, hi87, _, hsz87, _⟩ := info_parts info87
  have HI87 := Aside0.mk hi87
  have HSZ87 : Aside0 (i87.size = k87.sz) := ⟨hsz87⟩
  clear hi05 hsz5 hi87 hsz87
  go_enter Try.func14, Try.ntmps14
  go_wp2_with (first
    | (go_at_call 35; refine (new_any _).mono ?_; rintro e w5 ⟨g0, hg, rfl, hG5, hb⟩; have HGE := Aside0.mk (show w.heap.size ≤ g0 by rw [hg]; exact Nat.le_refl _); have HG5 := Aside0.mk hG5; have HB5 := Aside0.mk hb; clear hg hG5 hb))
  go_loopg [6, 7, 8, 9] ps.length (fun g s6 s7 s8 s9 wx => ∃ (i at_ : Nat) (out : List S68) (rest : List Int) (en code wv : Int) (kept : List Int) (Ak : Option Addr) (ck : Nat), i + g = ps.length ∧ s9 = .int .i64 i ∧ s6 = .int .i64 at_ ∧ s7 = .int .i64 out.length ∧ s8 = .int .i64 wv ∧ Aside0 (at_ ≤ b.length) ∧ Aside0 (scanF (b.take at_) 0 = (out, rest, en, code)) ∧ Aside0 (kept = if code = 1 then rest else []) ∧ Aside0 (wv = if code = 1 then 0 else code) ∧ Aside0 (wx.heap[g0]? = some (.cells #[.slice Ak kept.length ck, .int .u64 en, .int .i64 wv] 85 (0, 0))) ∧ Aside0 (Kd.R (Kd.int .u8) 5 wx w.heap.size (fun _ => True) (.slice Ak kept.length ck) kept) ∧ Aside0 (Below w.heap.size w wx))
  case atStart => exact ⟨0, 0, [], [], 0, 1, 0, [], none, 0, by omega, rfl, rfl, rfl, rfl, ⟨Nat.zero_le _⟩, ⟨by rw [List.take_zero, scan_nil]⟩, ⟨rfl⟩, ⟨rfl⟩, HG5, ⟨Kd.R_nil _ _ _ _ _⟩, HB5⟩
  case round =>
    clear HG5 HB5
    obtain ⟨i, at_, out, rest, en, code, wv, kept, Ak, ck, hig, rfl, rfl, rfl, rfl, HAT, HS, HKE, HWE, HG, HK, HB⟩ := hrel
    cases gk with
    | zero =>
      have hd5 : decide ((i : Int) < (ps.length : Int)) = false := by simp; omega
      have hd6 : decide (i < ps.length) = false := by simp; omega
      go_wp2_with (go_at_call 39; refine (awake5_any _).mono ?_; rintro e w9 ⟨rfl, hb⟩; have HB9 := Aside0.mk (below_step HB.out hb); clear hb)
      go_ret
      exact ⟨rfl, HB9.out⟩
    | succ g =>
      have hlt : i < ps.length := by omega
      have hd5 : decide ((i : Int) < (ps.length : Int)) = true := by simp; omega
      have hd6 : decide (i < ps.length) = true := by simp; omega
      obtain ⟨x, hx⟩ : ∃ x, ps[i]? = some x := ⟨ps[i]'hlt, List.getElem?_eq_getElem _⟩
      obtain ⟨hx0, hx1⟩ := HPU.out x (List.mem_of_getElem? hx)
      obtain ⟨ap, rfl, z0⟩ := elK HP.out rfl i hlt x hx
      have z0 := cell_bel z0 HB.out
      obtain ⟨tn, hto⟩ : ∃ tn : Nat, tn = min b.length (at_ + x.toNat) := ⟨_, rfl⟩
      have HTO : Aside0 (at_ ≤ tn ∧ tn ≤ b.length) := ⟨by have := HAT.out; omega⟩
      have hat9 : (at_ : Int) ≤ 9000 := by have h1 := HAT.out; have h2 := HBL.out; omega
      have hmn : ∀ (ats : Array TypeId) (ty : TypeId), Builtin.min_ ats ty #[.int .i64 (b.length : Int), .int .i64 ((at_ : Int) + x)] = (pure (.int .i64 (tn : Int)) : Sem Value) := by
        intro ats ty
        have h1 : (if ((at_ : Int) + x) < (b.length : Int) then ((at_ : Int) + x) else (b.length : Int)) = (tn : Int) := by split <;> omega
        simp only [min_two, min2_int, pure_bind, h1]
      have hxw : IntKind.i64.wrap x = x := by simp [IntKind.wrap, IntKind.signed, IntKind.bits]; omega
      have hi0 : (0 : Int) ≤ (i : Int) := by omega
      have hi1 : (i : Int) < (ps.length : Int) := by omega
      have hi40 : (i : Int) ≤ 40 := by have := HPL.out; omega
      have hit : (i : Int).toNat = i := by omega
      clear hto hx
      obtain ⟨A', q, hq, hcutq, hCq, hqc⟩ := cutM2 (k := Kd.int .u8) rfl Try.underlying23 HI.out HSZ.out (A := A) (c := c) (xs := b) hc (at_ : Int) (tn : Int) at_ tn rfl rfl HTO.out.1 HTO.out.2
      have HCq := Aside0.mk hCq
      have Hqc := Aside0.mk hqc
      have HQ := Aside0.mk hq
      have HP2 : Aside0 (b.take at_ ++ q = b.take tn) := ⟨by rw [hq]; exact drop_take b HTO.out.1⟩
      have HYQ : Aside0 (Byt q) := ⟨by rw [hq]; exact (HYB.out.take _).drop _⟩
      have HYP : Aside0 (Byt (b.take at_)) := ⟨HYB.out.take _⟩
      have HQL : Aside0 (q.length ≤ 9000) := ⟨by have h2 := HBL.out; rw [hq, List.length_drop, List.length_take]; omega⟩
      clear hq hCq hqc
      obtain ⟨m, hm1, hm2, hm3, hm4, hm5⟩ := rest_at HS.out HYP.out
      by_cases hc1 : code = 1
      · subst hc1
        have HKE2 := HKE.out
        have HWE2 := HWE.out
        rw [if_pos rfl] at HKE2 HWE2
        have HKE3 := Aside0.mk HKE2
        subst HWE2
        have HEN : Aside0 (0 ≤ en ∧ en < 1000000000000) := ⟨by have h2 := HBL.out; rw [List.length_take] at hm1; omega⟩
        have HYK : Aside0 (Byt kept) := ⟨by rw [HKE2, hm2]; exact HYP.out.drop m⟩
        have HKL : Aside0 (kept.length ≤ 9000) := ⟨by have h2 := HBL.out; rw [HKE2, hm2, List.length_drop, List.length_take]; omega⟩
        clear HKE2 HKE HWE
        obtain ⟨new, rest2, en2, code2, hs2⟩ : ∃ (a : List S68) (b : List Int) (c d : Int), scanF (kept ++ q) en = (a, b, c, d) := ⟨_, _, _, _, rfl⟩
        have HS2 := Aside0.mk hs2
        have HSN : Aside0 (scanF (b.take tn) 0 = (out ++ new, rest2, en2, code2)) := ⟨by
          have h := next_feed HS.out HYP.out HYQ.out
          rw [← HKE3.out, hs2, HP2.out] at h
          exact h⟩
        obtain ⟨p2, hp2, hcutp, hCp2, hp2c⟩ := cutT2 (k := Kd.int .u8) Try.underlying23 HI.out (A := A) (c := c) (xs := b) hc (tn : Int) tn rfl HTO.out.2
        have HCp2 := Aside0.mk hCp2
        have HP2c := Aside0.mk hp2c
        have HYP2 : Aside0 (Byt p2) := ⟨by rw [hp2]; exact HYB.out.take _⟩
        have HPL2 : Aside0 (p2.length ≤ 9000) := ⟨by have h2 := HBL.out; rw [hp2, List.length_take]; omega⟩
        obtain ⟨hok, hnl⟩ := scan_oks ((kept ++ q).length + 1) (kept ++ q) en (by omega) (fun z hz => (List.mem_append.1 hz).elim (HYK.out z) (HYQ.out z))
        rw [hs2] at hok hnl
        dsimp only at hok hnl
        rw [List.length_append] at hnl hok
        have HNL : Aside0 (new.length ≤ 18000) := ⟨by have h1 := HKL.out; have h2 := HQL.out; omega⟩
        have HOKn : Aside0 (∀ q ∈ new, Ok68 q) := ⟨fun q' hq' => by obtain ⟨a, b', c'⟩ := hok q' hq'; have h1 := HKL.out; have h2 := HQL.out; have h3 := HEN.out; exact ⟨a, by omega, by omega⟩⟩
        obtain ⟨m2, hn1, hn2, hn3, hn4, hn5⟩ := rest_at HSN.out (HYB.out.take _)
        obtain ⟨WL, hWL⟩ : ∃ x, x = (out ++ new).map of68 := ⟨_, rfl⟩
        have HWL := Aside0.mk hWL
        have HOW : Aside0 (out.length ≤ WL.length) := ⟨by rw [hWL]; simp⟩
        have HWS : Aside0 (WL.drop out.length = new.map of68) := ⟨by rw [hWL, List.map_append]; have := List.drop_left (l₁ := out.map of68) (l₂ := new.map of68); rwa [List.length_map] at this⟩
        have hWLl : WL.length = out.length + new.length := by rw [hWL]; simp
        have hOL : out.length ≤ 9000 := by
          have h := (scan_oks ((b.take at_).length + 1) (b.take at_) 0 (by omega) HYP.out).2
          rw [HS.out, List.length_take] at h
          have h2 := HBL.out
          dsimp only at h
          omega
        have hdw : decide ((WL.length : Int) < (out.length : Int)) = false := by simp; omega
        have hdw2 : decide (WL.length < out.length) = false := by simp; omega
        have hto9 : (tn : Int) ≤ 9000 := by have h1 := HTO.out.2; have h2 := HBL.out; omega
        have hen0 : 0 ≤ en2 := by omega
        have hen9 : en2 ≤ 9000 := by rw [List.length_take] at hn1; omega
        have hsub : 0 ≤ (tn : Int) - en2 := by rw [List.length_take] at hn1; have h1 := HTO.out.2; omega
        have heu : IntKind.u64.wrap en2 = en2 := by simp [IntKind.wrap, IntKind.signed, IntKind.bits]; omega
        have hee : (en2 != en2) = false := by simp
        by_cases hc2 : code2 = 1
        · subst hc2
          obtain ⟨kept2, hk2⟩ : ∃ k, k = if (1 : Int) = 1 then rest2 else [] := ⟨_, rfl⟩
          obtain ⟨wr2, hw2⟩ : ∃ k, k = if (1 : Int) = 1 then (0 : Int) else 1 := ⟨_, rfl⟩
          have HK2 := Aside0.mk hk2
          have HW2 := Aside0.mk hw2
          have hkl : (kept2.length : Int) = (tn : Int) - en2 := by
            rw [hk2, if_pos rfl, hn2, List.length_drop, List.length_take, hn3]
            have h1 := HTO.out.2
            rw [List.length_take] at hn1
            omega
          have hk41 : kept2.length ≤ 4105 := by
            rw [hk2, if_pos rfl]
            exact parF_short (by rw [hn2]; exact (HYB.out.take _).drop _) hn4
          have HRD : Aside0 (∃ k, lacunaref05_Read.f k p2 = some (WL, en2, wr2)) := ⟨by
            have h := read_f HYP2.out (by have := HPL2.out; omega)
            rw [hp2, HSN.out] at h
            rw [hWL, hw2, hp2]
            exact h⟩
          obtain ⟨kr, hkr⟩ := HRD.out
          have HKR := Aside0.mk hkr
          rw [if_pos rfl] at hw2
          subst hw2
          have hdk : decide ((4105 : Int) < (kept2.length : Int)) = false := by simp; omega
          have hdk2 : decide (4105 < kept2.length) = false := by simp; omega
          have hkk : ((kept2.length : Int) != (tn : Int) - en2) = false := by rw [hkl]; simp
          have HWLl := Aside0.mk hWLl
          clear hs2 hok hnl hn1 hn2 hn3 hn4 hn5 hWL hWLl hk2 hkr hk41 hkl hp2 hm1 hm2 hm3 hm4 hm5 hCp2 hp2c HRD
          go_wp2_with (first
            | (go_at_call 37; refine (at_any g0 A8 _ c8 _ _ _ HG9.out).mono ?_; rintro e w10 ⟨rfl, rfl⟩)
            | (go_at_call 38; refine (kept_any g0 A8 _ c8 _ _ _ HG9.out).mono ?_; rintro e w10 ⟨rfl, rfl⟩)
            | (go_at_call 40; refine (err_any g0 A8 _ c8 _ _ _ HG9.out).mono ?_; rintro e w10 ⟨rfl, rfl⟩)
            | (go_at_call 42; refine (same5_any A7 c7 new.length new Aw (c9 - out.length) _ (Kd.C_below (Kd.R_reads' HR7.out.O).2.2 HB78.out) rfl (by have h := HCw8.out; rw [List.length_map] at h; exact h) HOKn.out (by have h := HNL.out; omega)).mono ?_; rintro e w9 ⟨rfl, hb⟩; have HB9 := Aside0.mk (below_step HB8.out hb); have HG9 := Aside0.mk (blk_below HG8.out hb); have HB79 := Aside0.mk (below_step HB78.out hb); clear hb)
            | (go_at_call 41; refine (lacunaref05_Read.calls kr A c p2 _ _ _ _ (HCp2.out _ (Kd.C_below HR.out HB7.out)) HP2c.out HKR.out).mono ?_; rintro e w8 ⟨v8, rfl, ho, hb⟩; have HO8 := Aside0.mk ho; have HB78 := Aside0.mk hb; have HB8 := Aside0.mk (below_step HB7.out hb); have HG8 := Aside0.mk (blk_below HR7.out.G hb); clear ho hb; obtain ⟨A9, c9, e9⟩ := Kd.S_slice HO8.out; subst e9; have H9c := Aside0.mk (Kd.S_reads' HO8.out).2.1; obtain ⟨Aw, ws, hws, hcutw, hCw, hwc⟩ := cutDs (k := k87) Try.underlying73 HI87.out HSZ87.out (A := A9) (c := c9) (xs := WL) H9c.out (out.length : Int) out.length rfl HOW.out; obtain rfl : ws = new.map of68 := hws.trans HWS.out; have HCw := Aside0.mk hCw; have HCw8 := Aside0.mk (hCw _ (Kd.S_reads' HO8.out).2.2); rw [List.length_map] at hcutw; clear hws hCw hwc)
            | (go_at_call 36; refine (feed_any g0 Ak ck kept en A' (c - at_) q _ w.heap.size _ _ _ _ HS2.out _ HK2.out _ HW2.out HG.out HK.out (HCq.out _ (Kd.C_below HR.out HB.out)) Hqc.out HB.out.size HGE.out (by have h1 := HKL.out; have h2 := HQL.out; omega) HYK.out HYQ.out HEN.out).mono ?_; rintro e w7 ⟨v7, A8, c8, rfl, hR7⟩; have HR7 := Aside0.mk hR7; have HB7 : Aside0 (Below w.heap.size w w7) := ⟨HB.out.trans hR7.bel⟩; clear hR7; obtain ⟨A7, c7, e7⟩ := Kd.R_slice HR7.out.O; subst e7))
          go_roundg g
          case measure => omega
          case rel => exact ⟨i + 1, tn, out ++ new, rest2, en2, 1, 0, kept2, A8, c8, by omega, by first | rfl | simp, rfl, by rw [HWLl.out, List.length_append], rfl, ⟨HTO.out.2⟩, HSN, HK2, HW2, HG9, ⟨Kd.R_lower (Kd.R_below HR7.out.K HB79.out) HB.out.size⟩, HB9⟩
        · obtain ⟨kept2, hk2⟩ : ∃ k, k = if code2 = 1 then rest2 else [] := ⟨_, rfl⟩
          obtain ⟨wv2, hw2⟩ : ∃ k, k = if code2 = 1 then (0 : Int) else code2 := ⟨_, rfl⟩
          have HK2 := Aside0.mk hk2
          have HW2 := Aside0.mk hw2
          have HRD : Aside0 (∃ k, lacunaref05_Read.f k p2 = some (WL, en2, wv2)) := ⟨by
            have h := read_f HYP2.out (by have := HPL2.out; omega)
            rw [hp2, HSN.out] at h
            rw [hWL, hw2, hp2]
            exact h⟩
          obtain ⟨kr, hkr⟩ := HRD.out
          have HKR := Aside0.mk hkr
          rw [if_neg hc2] at hw2 hk2
          subst hk2
          have hwn : (wv2 == 0) = false := by rw [hw2]; simpa using hn5
          have hwn2 : (wv2 != 0) = true := by rw [bne, hwn]; rfl
          have hwn3 : (wv2 != wv2) = false := by simp
          have HWLl := Aside0.mk hWLl
          clear hs2 hok hnl hn1 hn2 hn3 hn4 hn5 hWL hWLl hw2 hkr hp2 hm1 hm2 hm3 hm4 hm5 hCp2 hp2c HRD hc2
          go_wp2_with (first
            | (go_at_call 37; refine (at_any g0 A8 _ c8 _ _ _ HG9.out).mono ?_; rintro e w10 ⟨rfl, rfl⟩)
            | (go_at_call 38; refine (kept_any g0 A8 _ c8 _ _ _ HG9.out).mono ?_; rintro e w10 ⟨rfl, rfl⟩)
            | (go_at_call 40; refine (err_any g0 A8 _ c8 _ _ _ HG9.out).mono ?_; rintro e w10 ⟨rfl, rfl⟩)
            | (go_at_call 42; refine (same5_any A7 c7 new.length new Aw (c9 - out.length) _ (Kd.C_below (Kd.R_reads' HR7.out.O).2.2 HB78.out) rfl (by have h := HCw8.out; rw [List.length_map] at h; exact h) HOKn.out (by have h := HNL.out; omega)).mono ?_; rintro e w9 ⟨rfl, hb⟩; have HB9 := Aside0.mk (below_step HB8.out hb); have HG9 := Aside0.mk (blk_below HG8.out hb); have HB79 := Aside0.mk (below_step HB78.out hb); clear hb)
            | (go_at_call 41; refine (lacunaref05_Read.calls kr A c p2 _ _ _ _ (HCp2.out _ (Kd.C_below HR.out HB7.out)) HP2c.out HKR.out).mono ?_; rintro e w8 ⟨v8, rfl, ho, hb⟩; have HO8 := Aside0.mk ho; have HB78 := Aside0.mk hb; have HB8 := Aside0.mk (below_step HB7.out hb); have HG8 := Aside0.mk (blk_below HR7.out.G hb); clear ho hb; obtain ⟨A9, c9, e9⟩ := Kd.S_slice HO8.out; subst e9; have H9c := Aside0.mk (Kd.S_reads' HO8.out).2.1; obtain ⟨Aw, ws, hws, hcutw, hCw, hwc⟩ := cutDs (k := k87) Try.underlying73 HI87.out HSZ87.out (A := A9) (c := c9) (xs := WL) H9c.out (out.length : Int) out.length rfl HOW.out; obtain rfl : ws = new.map of68 := hws.trans HWS.out; have HCw := Aside0.mk hCw; have HCw8 := Aside0.mk (hCw _ (Kd.S_reads' HO8.out).2.2); rw [List.length_map] at hcutw; clear hws hCw hwc)
            | (go_at_call 36; refine (feed_any g0 Ak ck kept en A' (c - at_) q _ w.heap.size _ _ _ _ HS2.out _ HK2.out _ HW2.out HG.out HK.out (HCq.out _ (Kd.C_below HR.out HB.out)) Hqc.out HB.out.size HGE.out (by have h1 := HKL.out; have h2 := HQL.out; omega) HYK.out HYQ.out HEN.out).mono ?_; rintro e w7 ⟨v7, A8, c8, rfl, hR7⟩; have HR7 := Aside0.mk hR7; have HB7 : Aside0 (Below w.heap.size w w7) := ⟨HB.out.trans hR7.bel⟩; clear hR7; obtain ⟨A7, c7, e7⟩ := Kd.R_slice HR7.out.O; subst e7))
          go_roundg g
          case measure => omega
          case rel => exact ⟨i + 1, tn, out ++ new, rest2, en2, code2, wv2, [], A8, c8, by omega, by first | rfl | simp, rfl, by rw [HWLl.out, List.length_append], rfl, ⟨HTO.out.2⟩, HSN, HK2, HW2, HG9, ⟨Kd.R_lower (Kd.R_below HR7.out.K HB79.out) HB.out.size⟩, HB9⟩
      · have hkn : kept = [] := by rw [HKE.out, if_neg hc1]
        have hwn : wv = code := by rw [HWE.out, if_neg hc1]
        subst hkn
        have HW0 : Aside0 (wv ≠ 0) := ⟨by rw [hwn]; exact hm5⟩
        have hw1 : (wv == 0) = false := by simpa using HW0.out
        have hw2 : (wv != 0) = true := by rw [bne, hw1]; rfl
        have hw3 : (wv != wv) = false := by simp
        have HSN : Aside0 (scanF (b.take tn) 0 = (out, rest ++ q, en, code)) := ⟨by
          have h := next_bad HS.out HYP.out HYQ.out hc1
          rw [HP2.out] at h
          exact h⟩
        have HKE2 : Aside0 (([] : List Int) = if code = 1 then rest ++ q else []) := ⟨by rw [if_neg hc1]⟩
        clear hwn hm1 hm2 hm3 hm4 hm5 hc1
        go_wp2_with (first
          | (go_at_call 40; refine (err_any g0 Ak _ ck _ _ _ HG7.out).mono ?_; rintro e w8 ⟨rfl, rfl⟩)
          | (go_at_call 38; refine (kept_any g0 Ak _ ck _ _ _ HG7.out).mono ?_; rintro e w8 ⟨rfl, rfl⟩)
          | (go_at_call 36; refine (feed_stopped g0 Ak ([] : List Int).length ck en wv A' q.length (c - at_) _ HG.out HW0.out).mono ?_; rintro e w7 ⟨rfl, nq, hq7⟩; have HQ7 := Aside0.mk hq7; clear hq7; have HB7 : Aside0 (Below w.heap.size w w7) := ⟨by rw [HQ7.out]; exact pw_below_drewN HB.out nq⟩; have HG7 : Aside0 (w7.heap[g0]? = some (.cells #[.slice Ak ([] : List Int).length ck, .int .u64 en, .int .i64 wv] 85 (0, 0))) := ⟨by rw [HQ7.out]; exact HG.out⟩; have HK7 : Aside0 (Kd.R (Kd.int .u8) 5 w7 w.heap.size (fun _ => True) (.slice Ak ([] : List Int).length ck) []) := ⟨by rw [HQ7.out]; exact Kd.R_step HK.out (fun _ _ _ => rfl)⟩))
        go_roundg g
        case measure => omega
        case rel => exact ⟨i + 1, tn, out, rest ++ q, en, code, wv, [], Ak, ck, by omega, by first | rfl | simp, rfl, rfl, rfl, ⟨HTO.out.2⟩, HSN, HKE2, HWE, HG7, HK7, HB7⟩
end Go.Proofs.Ytonbphiaideleaa.M
