/- lacunalaw05.ScanParts: the walk. -/
import Derived.Test.YtonbphiaideleaaMfeeds
namespace Go.Proofs.Ytonbphiaideleaa.M
open Go.RowKit Go.Proofs.YtonbphiaideleaaW.PrintWords Go.Proofs.YtonbphiaideleaaW.PrintLast Go.Proofs.YtonbphiaideleaaW.PrintMore Go.Proofs.Ytonbphiaideleaa.PC
set_option linter.unusedVariables false
set_option linter.unusedSimpArgs false
theorem R_two2 {α β : Type} {d1 : Kd α} {d2 : Kd β} {e1 e2 b1 b2 : Nat} {ok1 ok2 : Nat → Prop} {w w' : World} {v1 v2 : Value} {xs1 : List α} {xs2 : List β} (h1 : Kd.R d1 e1 w b1 ok1 v1 xs1) (h2 : Kd.R d2 e2 w b2 ok2 v2 xs2) (hE : d2.E = []) (hne : e2 ≠ e1) (hg : w.grownBy w' v1.ownBlock) : Kd.R d2 e2 w' b2 ok2 v2 xs2 :=
  Kd.R_grown2 h2 hE hg (fun k hk => by
    obtain ⟨cells, hc⟩ := Kd.R_typed h1 k hk
    exact Kd.R_ne h2 hc hne)
theorem OwnRow.reads' {α : Type} {R : α → List Value → Prop} {e : TypeId} {size : Nat} {w : World} {base n c : Nat} {A : Option Addr} {ps : List α} (h : OwnRow R e size w base (.slice A n c) ps) : ReadsRow R size w A n ps := by
  obtain ⟨A2, c2, he, hl, hr⟩ := OwnRow.reads h
  injection he with h1 h2 h3
  rw [h1, h2]
  exact hr
theorem reads_nil {α : Type} (R : α → List Value → Prop) (size : Nat) (w : World) : ReadsRow R size w none 0 [] := ⟨rfl, by omega, fun h => absurd h (by omega)⟩
set_option maxHeartbeats 8000000 in
set_option maxRecDepth 100000 in
theorem scanparts_any (A : Option Addr) (c : Nat) (b : List Int) (Ap : Option Addr) (cp : Nat) (ps : List Int) (w : World) (hr : Kd.C (Kd.int .u8) w A b.length b) (hc : b.length ≤ c) (hyb : Byt b) (hp : Kd.C (Kd.int .u16) w Ap ps.length ps) (hcp : ps.length ≤ cp) (hpu : ∀ x ∈ ps, 0 ≤ x ∧ x < 65536) :
    Calls Try.prog 15 #[.slice A b.length c, .slice Ap ps.length cp] w fun e w' => e = .returned (.bool true) ∧ Below w.heap.size w w' := by
  have hu71 := Try.underlying71
  have hu61 := Try.underlying61
  have hu73 := Try.underlying73
  have HR := Aside0.mk hr
  have HYB := Aside0.mk hyb
  have HP := Aside0.mk hp
  have HPU := Aside0.mk hpu
  have HB := Aside0.mk (Below.refl w.heap.size w)
  clear hr hyb hp hpu
  by_cases h9 : 9000 < b.length
  · have hd : decide (9000 < (b.length : Int)) = true := by simp; omega
    have hd2 : decide (9000 < b.length) = true := by simp; omega
    go_enter Try.func15, Try.ntmps15
    go_wp2_with fail
    go_ret
    exact ⟨rfl, HB.out⟩
  have hd : decide (9000 < (b.length : Int)) = false := by simp; omega
  have hd2 : decide (9000 < b.length) = false := by simp; omega
  by_cases h4 : 40 < ps.length
  · have hd3 : decide (40 < (ps.length : Int)) = true := by simp; omega
    have hd4 : decide (40 < ps.length) = true := by simp; omega
    go_enter Try.func15, Try.ntmps15
    go_wp2_with fail
    go_ret
    exact ⟨rfl, HB.out⟩
  have hd3 : decide (40 < (ps.length : Int)) = false := by simp; omega
  have hd4 : decide (40 < ps.length) = false := by simp; omega
  have HBL : Aside0 (b.length ≤ 9000) := ⟨by omega⟩
  have HPL : Aside0 (ps.length ≤ 40) := ⟨by omega⟩
  clear h9 h4 HB
  obtain ⟨i05, hi05, _, hsz5, _⟩ := info_parts info5
  have HI := Aside0.mk hi05
  have HSZ := Aside0.mk hsz5
  clear hi05 hsz5
  go_enter Try.func15, Try.ntmps15
  go_wp2_with (first
    | (go_at_call 35; have hgs5 := blk_lt HG5.out; refine (new_any _).mono ?_; rintro e w6 ⟨gt, hg, rfl, hG6, hb⟩; have HGS6 := Aside0.mk (blk_below HG5.out hb); have HTE := Aside0.mk (show w.heap.size ≤ gt by rw [hg]; exact HB5.out.size); have HNE := Aside0.mk (show gs ≠ gt by rw [hg]; exact Nat.ne_of_lt hgs5); have HG6 := Aside0.mk hG6; have HB6 := Aside0.mk (below_step HB5.out hb); clear hg hG6 hb hgs5)
    | (go_at_call 35; refine (new_any _).mono ?_; rintro e w5 ⟨gs, hg, rfl, hG5, hb⟩; have HGE := Aside0.mk (show w.heap.size ≤ gs by rw [hg]; exact Nat.le_refl _); have HG5 := Aside0.mk hG5; have HB5 := Aside0.mk hb; clear hg hG5 hb))
  clear hd hd2 hd3 hd4
  go_loopg [7, 8, 9] (ps.length + 1) (fun g s7 s8 s9 wx => ∃ (i at_ : Nat) (out : List S68) (rest : List Int) (en code wv : Int) (kept : List Int) (Ak : Option Addr) (ck : Nat), i + g = ps.length + 1 ∧ s9 = .int .i64 i ∧ s8 = .int .i64 at_ ∧ Aside0 (at_ ≤ b.length) ∧ Aside0 (i = ps.length + 1 → at_ = b.length) ∧ Aside0 (scanF (b.take at_) 0 = (out, rest, en, code)) ∧ Aside0 (kept = if code = 1 then rest else []) ∧ Aside0 (wv = if code = 1 then 0 else code) ∧ Aside0 (wx.heap[gs]? = some (.cells #[.slice Ak kept.length ck, .int .u64 en, .int .i64 wv] 85 (0, 0))) ∧ Aside0 (wx.heap[gt]? = some (.cells #[.slice none 0 0, .int .u64 0, .int .i64 0] 85 (0, 0))) ∧ Aside0 (Kd.R (Kd.int .u8) 5 wx w.heap.size (fun _ => True) (.slice Ak kept.length ck) kept) ∧ Aside0 (Kd.R k68 68 wx w.heap.size (fun k => k ≠ gs ∧ k ≠ gt ∧ some k ≠ (Value.slice Ak kept.length ck).ownBlock) s7 out) ∧ Aside0 (Below w.heap.size w wx))
  case atStart => exact ⟨0, 0, [], [], 0, 1, 0, [], none, 0, by omega, rfl, rfl, ⟨Nat.zero_le _⟩, ⟨fun h => by omega⟩, ⟨by rw [List.take_zero, scan_nil]⟩, ⟨rfl⟩, ⟨rfl⟩, HGS6, HG6, ⟨Kd.R_nil _ _ _ _ _⟩, ⟨Kd.R_nil _ _ _ _ _⟩, HB6⟩
  case round =>
    clear HG5 HB5 HGS6 HG6 HB6
    obtain ⟨i, at_, out, rest, en, code, wv, kept, Ak, ck, hig, rfl, rfl, HAT, HEND, HS, HKE, HWE, HG, HT, HK, HO, HB⟩ := hrel
    have HOL : Aside0 (out.length ≤ 9000) := ⟨by
      have h := (scan_oks ((b.take at_).length + 1) (b.take at_) 0 (by omega) (HYB.out.take _)).2
      rw [HS.out, List.length_take] at h
      have h2 := HBL.out
      dsimp only at h
      omega⟩
    cases gk with
    | zero =>
      have hii : i = ps.length + 1 := by omega
      have hle : decide ((i : Int) ≤ (ps.length : Int)) = false := by simp; omega
      have hle2 : decide (i ≤ ps.length) = false := by simp; omega
      have HSb : Aside0 (scanF ([] ++ b) 0 = (out, rest, en, code)) := ⟨by
        have h := HS.out
        rw [HEND.out hii, List.take_length] at h
        exact h⟩
      have hok := (scan_oks (b.length + 1) b 0 (by omega) HYB.out).1
      have hsb : scanF b 0 = (out, rest, en, code) := HSb.out
      rw [hsb] at hok
      have HOKn : Aside0 (∀ q ∈ out, Ok68 q) := ⟨fun q hq => by obtain ⟨a, b', c'⟩ := hok q hq; have h1 := HBL.out; exact ⟨a, by omega, by omega⟩⟩
      have HRD : Aside0 (∃ k, lacunaref05_Read.f k b = some (out.map of68, en, wv)) := ⟨by
        have h := read_f HYB.out (by have := HBL.out; omega)
        rw [hsb] at h
        rw [HWE.out]
        exact h⟩
      obtain ⟨kr, hkr⟩ := HRD.out
      have HKR := Aside0.mk hkr
      obtain ⟨Al, cl, el⟩ := Kd.R_slice HO.out
      cases el
      have hww : (wv == wv) = true := by simp
      have hee : (en == en) = true := by simp
      have hkk : ((kept.length : Int) == (kept.length : Int)) = true := by simp
      have HWB := Aside0.mk HB.out.size
      clear hii hok hsb hkr HS HAT HRD hig
      go_wp2_with (first
        | (go_at_call 39; refine (awake5_any _).mono ?_; rintro e w11 ⟨rfl, hb⟩; have HB11 := Aside0.mk (below_step HB10.out hb); clear hb)
        | (go_at_call 38; (with_reducible refine (kept_any gs Ak _ ck _ _ _ HG10.out).mono ?_); rintro e w11 ⟨rfl, rfl⟩)
        | (go_at_call 38; (with_reducible refine (kept_any gt A8 _ c8 _ _ _ HT10.out).mono ?_); rintro e w11 ⟨rfl, rfl⟩)
        | (go_at_call 37; (with_reducible refine (at_any gs Ak _ ck _ _ _ HG10.out).mono ?_); rintro e w11 ⟨rfl, rfl⟩)
        | (go_at_call 37; (with_reducible refine (at_any gt A8 _ c8 _ _ _ HT10.out).mono ?_); rintro e w11 ⟨rfl, rfl⟩)
        | (go_at_call 40; (with_reducible refine (err_any gs Ak _ ck _ _ _ HG10.out).mono ?_); rintro e w11 ⟨rfl, rfl⟩)
        | (go_at_call 40; (with_reducible refine (err_any gt A8 _ c8 _ _ _ HT10.out).mono ?_); rintro e w11 ⟨rfl, rfl⟩)
        | (go_at_call 42; refine (same5_any A7 c7 out.length out A9 c9 _ (Kd.C_below (Kd.R_reads' HR7.out.O).2.2 HB79.out) rfl (Kd.C_below HW8.out HB89.out) HOKn.out (by have h := HOL.out; omega)).mono ?_; rintro e w10 ⟨rfl, hb⟩; have HB10 := Aside0.mk (below_step HB9.out hb); have HG10 := Aside0.mk (blk_below HG9.out hb); have HT10 := Aside0.mk (blk_below HT9.out hb); clear hb)
        | (go_at_call 42; refine (same5_any Al cl out.length out A9 c9 _ (Kd.C_below (Kd.R_reads' HO7.out).2.2 HB78.out) rfl HW8.out HOKn.out (by have h := HOL.out; omega)).mono ?_; rintro e w9 ⟨rfl, hb⟩; have HB9 := Aside0.mk (below_step HB8.out hb); have HG9 := Aside0.mk (blk_below HG8.out hb); have HT9 := Aside0.mk (blk_below HT8.out hb); have HB89 := Aside0.mk hb; have HB79 := Aside0.mk (below_step HB78.out hb); clear hb)
        | (go_at_call 41; refine (lacunaref05_Read.calls kr A c b _ _ _ _ (Kd.C_below HR.out HB7.out) hc HKR.out).mono ?_; rintro e w8 ⟨v8, rfl, ho, hb⟩; have HB78 := Aside0.mk hb; have HB8 := Aside0.mk (below_step HB7.out hb); have HG8 := Aside0.mk (blk_below HG7.out hb); have HT8 := Aside0.mk (blk_below HR7.out.G hb); obtain ⟨A9, c9, e9⟩ := Kd.S_slice ho; subst e9; have HW8 := Aside0.mk (Kd.S_reads' ho).2.2; rw [List.length_map] at HW8; clear ho hb)
        | (go_at_call 36; refine (feed_any gt none 0 [] 0 A c b _ w.heap.size _ _ _ _ HSb.out kept HKE.out wv HWE.out HT.out (Kd.R_nil _ _ _ _ _) (Kd.C_below HR.out HB.out) hc HWB.out HTE.out (by have h1 := HBL.out; simp only [List.length_nil]; omega) (fun _ h => by cases h) HYB.out (by decide)).mono ?_; rintro e w7 ⟨v7, A8, c8, rfl, hR7⟩; have HR7 := Aside0.mk hR7; have HB7 : Aside0 (Below w.heap.size w w7) := ⟨HB.out.trans hR7.bel⟩; have HG7 : Aside0 (w7.heap[gs]? = some (.cells #[.slice Ak kept.length ck, .int .u64 en, .int .i64 wv] 85 (0, 0))) := ⟨(hR7.keep gs (blk_lt HG.out) HNE.out (by simp [Value.ownBlock])).trans HG.out⟩; have HO7 := Aside0.mk (Kd.R_step HO.out (fun k hk hlt => hR7.keep k hlt hk.2.1 (by simp [Value.ownBlock]))); clear hR7; obtain ⟨A7, c7, e7⟩ := Kd.R_slice HR7.out.O; subst e7))
      go_ret
      exact ⟨rfl, HB11.out⟩
    | succ g =>
      have hle : decide ((i : Int) ≤ (ps.length : Int)) = true := by simp; omega
      have hle2 : decide (i ≤ ps.length) = true := by simp; omega
      obtain ⟨tn, HTO, HTE2, hway⟩ : ∃ tn : Nat, Aside0 (at_ ≤ tn ∧ tn ≤ b.length) ∧ Aside0 (i + 1 = ps.length + 1 → tn = b.length) ∧ ((i < ps.length ∧ ∃ x : Int, 0 ≤ x ∧ x < 65536 ∧ ps[i]? = some x ∧ tn = min b.length (at_ + x.toNat)) ∨ (i = ps.length ∧ tn = b.length)) := by
        by_cases hlt : i < ps.length
        · have hx : ps[i]? = some (ps[i]'hlt) := List.getElem?_eq_getElem _
          obtain ⟨hx0, hx1⟩ := HPU.out _ (List.mem_of_getElem? hx)
          have hat := HAT.out
          exact ⟨min b.length (at_ + (ps[i]'hlt).toNat), ⟨by omega⟩, ⟨fun h => by omega⟩, Or.inl ⟨hlt, _, hx0, hx1, hx, rfl⟩⟩
        · exact ⟨b.length, ⟨HAT.out, Nat.le_refl _⟩, ⟨fun _ => rfl⟩, Or.inr ⟨by omega, rfl⟩⟩
      have HWAY := Aside0.mk hway
      clear hway
      have hat9 : (at_ : Int) ≤ 9000 := by have h1 := HAT.out; have h2 := HBL.out; omega
      have hi0 : (0 : Int) ≤ (i : Int) := by omega
      have hi40 : (i : Int) ≤ 40 := by have := HPL.out; omega
      have hit : (i : Int).toNat = i := by omega
      obtain ⟨A', q, hq, hcutq, hCq, hqc⟩ := cutM2 (k := Kd.int .u8) rfl Try.underlying23 HI.out HSZ.out (A := A) (c := c) (xs := b) hc (at_ : Int) (tn : Int) at_ tn rfl rfl HTO.out.1 HTO.out.2
      have HCq := Aside0.mk hCq
      have Hqc := Aside0.mk hqc
      have HQ := Aside0.mk hq
      have HP2 : Aside0 (b.take at_ ++ q = b.take tn) := ⟨by rw [hq]; exact drop_take b HTO.out.1⟩
      have HYQ : Aside0 (Byt q) := ⟨by rw [hq]; exact (HYB.out.take _).drop _⟩
      have HYP : Aside0 (Byt (b.take at_)) := ⟨HYB.out.take _⟩
      have HQL : Aside0 (q.length ≤ 9000) := ⟨by have h2 := HBL.out; rw [hq, List.length_drop, List.length_take]; omega⟩
      clear hq hCq hqc
      obtain ⟨m, hm1, hm2, hm3, hm4, hm5⟩ := rest_at HS.out HYP.out
      by_cases hc1 : code = 1
      · subst hc1
        have HKE2 := HKE.out
        have HWE2 := HWE.out
        rw [if_pos rfl] at HKE2 HWE2
        have HKE3 := Aside0.mk HKE2
        subst HWE2
        have HEN : Aside0 (0 ≤ en ∧ en < 1000000000000) := ⟨by have h2 := HBL.out; rw [List.length_take] at hm1; omega⟩
        have HYK : Aside0 (Byt kept) := ⟨by rw [HKE2, hm2]; exact HYP.out.drop m⟩
        have HKL : Aside0 (kept.length ≤ 9000) := ⟨by have h2 := HBL.out; rw [HKE2, hm2, List.length_drop, List.length_take]; omega⟩
        clear HKE2 HKE HWE
        obtain ⟨new, rest2, en2, code2, hs2⟩ : ∃ (a : List S68) (b : List Int) (c d : Int), scanF (kept ++ q) en = (a, b, c, d) := ⟨_, _, _, _, rfl⟩
        have HS2 := Aside0.mk hs2
        have HSN : Aside0 (scanF (b.take tn) 0 = (out ++ new, rest2, en2, code2)) := ⟨by
          have h := next_feed HS.out HYP.out HYQ.out
          rw [← HKE3.out, hs2, HP2.out] at h
          exact h⟩
        have hnl := (scan_oks ((kept ++ q).length + 1) (kept ++ q) en (by omega) (fun z hz => (List.mem_append.1 hz).elim (HYK.out z) (HYQ.out z))).2
        rw [hs2, List.length_append] at hnl
        dsimp only at hnl
        have HNL : Aside0 (new.length ≤ 18000) := ⟨by have h1 := HKL.out; have h2 := HQL.out; omega⟩
        obtain ⟨kept2, hk2⟩ : ∃ k, k = if code2 = 1 then rest2 else [] := ⟨_, rfl⟩
        obtain ⟨wv2, hw2⟩ : ∃ k, k = if code2 = 1 then (0 : Int) else code2 := ⟨_, rfl⟩
        have HK2 := Aside0.mk hk2
        have HW2 := Aside0.mk hw2
        clear hs2 hnl hk2 hw2 hm1 hm2 hm3 hm4 hm5
        rcases HWAY.out with ⟨hlt, x, hx0, hx1, hx, htn⟩ | ⟨hlt, htn⟩
        · have hd5 : decide ((i : Int) < (ps.length : Int)) = true := by simp; omega
          have hd6 : decide (i < ps.length) = true := by simp; omega
          have hi1 : (i : Int) < (ps.length : Int) := by omega
          obtain ⟨ap, rfl, z0⟩ := elK HP.out rfl i hlt x hx
          have z0 := cell_bel z0 HB.out
          have hmn : ∀ (ats : Array TypeId) (ty : TypeId), Builtin.min_ ats ty #[.int .i64 (b.length : Int), .int .i64 ((at_ : Int) + x)] = (pure (.int .i64 (tn : Int)) : Sem Value) := by
            intro ats ty
            have h1 : (if ((at_ : Int) + x) < (b.length : Int) then ((at_ : Int) + x) else (b.length : Int)) = (tn : Int) := by split <;> omega
            simp only [min_two, min2_int, pure_bind, h1]
          have hxw : IntKind.i64.wrap x = x := by simp [IntKind.wrap, IntKind.signed, IntKind.bits]; omega
          clear hx htn
          go_wp2_with (first
            | ((with_reducible refine gate_builtin (b := .append) (xs := #[.tmp 65, .tmp 66]) rfl ?_); at_builtin; refine Kd.R_append_rows k68 (w0 := w) w.heap.size rfl (.tmp 65) (.tmp 66) 61 68 (.agg #[(.int .u8 0), (.int .u8 0), (.slice none 0 0), (.int .u64 0), (.int .i64 0)]) 48 rfl Try.underlying61 info68 rfl (by decide) (by omega) u7 out new A7 _ _ (fun k => k ≠ gs ∧ k ≠ gt ∧ some k ≠ (Value.slice A8 kept2.length c8).ownBlock) _ rfl rfl HO7.out (OwnRow.reads' HR7.out.O.2) (fun x cs h => k68.M_lower HB.out.size h) (fun k hk => by obtain ⟨⟨h1, h2⟩, h3⟩ := hk; have h4 := HGTL.out; have h5 := blk_lt HG.out; exact ⟨⟨by omega, by omega, h2⟩, fun e => by have h6 := HLT7.out k e.symm; omega⟩) (fun k hk => by have h4 := HGTL.out; have h5 := blk_lt HG.out; have h6 := HB7s.out; exact ⟨by omega, by omega, fun e => by have h7 := HSZ7.out k e.symm; omega⟩) HB7.out HB7.out.size (by have h1 := HOL.out; have h2 := HNL.out; (try simp only [List.length_nil]); omega) ?_; intro v8 w8 ho hb hg hat; have HO8 := Aside0.mk ho; have HB8 := Aside0.mk hb; have HGR := Aside0.mk hg; have HAT8 := Aside0.mk hat; clear ho hb hg hat; have HGx := Aside0.mk (blk_grown HR7.out.G HGR.out (Kd.R_ne HO7.out HR7.out.G (by decide))); have HTx := Aside0.mk (blk_grown HT7.out HGR.out (Kd.R_ne HO7.out HT7.out (by decide))); have HKx := Aside0.mk (R_two2 HO7.out (Kd.R_lower HR7.out.K HB.out.size) rfl (by decide) HGR.out))
            | (go_at_call 36; refine (feed_any gs Ak ck kept en A' (c - at_) q _ w.heap.size _ _ _ _ HS2.out _ HK2.out _ HW2.out HG.out HK.out (HCq.out _ (Kd.C_below HR.out HB.out)) Hqc.out HB.out.size HGE.out (by have h1 := HKL.out; have h2 := HQL.out; omega) HYK.out HYQ.out HEN.out).mono ?_; rintro e w7 ⟨v7, A8, c8, rfl, hR7⟩; have HR7 := Aside0.mk hR7; have HB7 : Aside0 (Below w.heap.size w w7) := ⟨HB.out.trans hR7.bel⟩; have hgsl := blk_lt HG.out; have hgtl := blk_lt HT.out; have HGTL := Aside0.mk hgtl; have HT7 : Aside0 (w7.heap[gt]? = some (.cells #[.slice none 0 0, .int .u64 0, .int .i64 0] 85 (0, 0))) := ⟨(hR7.keep gt hgtl (Ne.symm HNE.out) (Kd.R_ne HK.out HT.out (by decide))).trans HT.out⟩; have HGS7 := Aside0.mk (blk_lt hR7.G); have HLT7 := Aside0.mk (fun k hk => Kd.R_lt HO.out k hk); have HO7 : Aside0 (Kd.R k68 68 w7 w.heap.size (fun k => k ≠ gs ∧ k ≠ gt ∧ some k ≠ (Value.slice A8 kept2.length c8).ownBlock) u7 out) := ⟨Kd.R_mono (Kd.R_step (Kd.R_bound HO.out) (fun k hk hlt => hR7.keep k hlt hk.1.1 hk.1.2.2)) (fun k hk => ⟨hk.1.1, hk.1.2.1, fun e => by have h1 := Kd.R_base hR7.K k e.symm; have h2 := hk.2.2.1; omega⟩)⟩; have HSZ7 : Aside0 (∀ k, (Value.slice A8 kept2.length c8).ownBlock = some k → k < w7.heap.size) := ⟨Kd.R_lt hR7.K⟩; have HB7s := Aside0.mk (show wr.heap.size ≤ w7.heap.size from hR7.bel.size); clear hR7 hgsl hgtl; obtain ⟨A7, c7, e7⟩ := Kd.R_slice HR7.out.O; subst e7))
          go_roundg g
          case measure => omega
          case rel => exact ⟨i + 1, _, out ++ new, rest2, en2, code2, wv2, kept2, A8, c8, by omega, by first | rfl | simp, rfl, ⟨HTO.out.2⟩, ⟨fun h => by first | rfl | exact HTE2.out h⟩, HSN, HK2, HW2, HGx, HTx, HKx, HO8, HB8⟩
        · have hd5 : decide ((i : Int) < (ps.length : Int)) = false := by simp; omega
          have hd6 : decide (i < ps.length) = false := by simp; omega
          have HLT := Aside0.mk hlt
          clear hlt
          subst htn
          go_wp2_with (first
            | ((with_reducible refine gate_builtin (b := .append) (xs := #[.tmp 65, .tmp 66]) rfl ?_); at_builtin; refine Kd.R_append_rows k68 (w0 := w) w.heap.size rfl (.tmp 65) (.tmp 66) 61 68 (.agg #[(.int .u8 0), (.int .u8 0), (.slice none 0 0), (.int .u64 0), (.int .i64 0)]) 48 rfl Try.underlying61 info68 rfl (by decide) (by omega) u7 out new A7 _ _ (fun k => k ≠ gs ∧ k ≠ gt ∧ some k ≠ (Value.slice A8 kept2.length c8).ownBlock) _ rfl rfl HO7.out (OwnRow.reads' HR7.out.O.2) (fun x cs h => k68.M_lower HB.out.size h) (fun k hk => by obtain ⟨⟨h1, h2⟩, h3⟩ := hk; have h4 := HGTL.out; have h5 := blk_lt HG.out; exact ⟨⟨by omega, by omega, h2⟩, fun e => by have h6 := HLT7.out k e.symm; omega⟩) (fun k hk => by have h4 := HGTL.out; have h5 := blk_lt HG.out; have h6 := HB7s.out; exact ⟨by omega, by omega, fun e => by have h7 := HSZ7.out k e.symm; omega⟩) HB7.out HB7.out.size (by have h1 := HOL.out; have h2 := HNL.out; (try simp only [List.length_nil]); omega) ?_; intro v8 w8 ho hb hg hat; have HO8 := Aside0.mk ho; have HB8 := Aside0.mk hb; have HGR := Aside0.mk hg; have HAT8 := Aside0.mk hat; clear ho hb hg hat; have HGx := Aside0.mk (blk_grown HR7.out.G HGR.out (Kd.R_ne HO7.out HR7.out.G (by decide))); have HTx := Aside0.mk (blk_grown HT7.out HGR.out (Kd.R_ne HO7.out HT7.out (by decide))); have HKx := Aside0.mk (R_two2 HO7.out (Kd.R_lower HR7.out.K HB.out.size) rfl (by decide) HGR.out))
            | (go_at_call 36; refine (feed_any gs Ak ck kept en A' (c - at_) q _ w.heap.size _ _ _ _ HS2.out _ HK2.out _ HW2.out HG.out HK.out (HCq.out _ (Kd.C_below HR.out HB.out)) Hqc.out HB.out.size HGE.out (by have h1 := HKL.out; have h2 := HQL.out; omega) HYK.out HYQ.out HEN.out).mono ?_; rintro e w7 ⟨v7, A8, c8, rfl, hR7⟩; have HR7 := Aside0.mk hR7; have HB7 : Aside0 (Below w.heap.size w w7) := ⟨HB.out.trans hR7.bel⟩; have hgsl := blk_lt HG.out; have hgtl := blk_lt HT.out; have HGTL := Aside0.mk hgtl; have HT7 : Aside0 (w7.heap[gt]? = some (.cells #[.slice none 0 0, .int .u64 0, .int .i64 0] 85 (0, 0))) := ⟨(hR7.keep gt hgtl (Ne.symm HNE.out) (Kd.R_ne HK.out HT.out (by decide))).trans HT.out⟩; have HGS7 := Aside0.mk (blk_lt hR7.G); have HLT7 := Aside0.mk (fun k hk => Kd.R_lt HO.out k hk); have HO7 : Aside0 (Kd.R k68 68 w7 w.heap.size (fun k => k ≠ gs ∧ k ≠ gt ∧ some k ≠ (Value.slice A8 kept2.length c8).ownBlock) u7 out) := ⟨Kd.R_mono (Kd.R_step (Kd.R_bound HO.out) (fun k hk hlt => hR7.keep k hlt hk.1.1 hk.1.2.2)) (fun k hk => ⟨hk.1.1, hk.1.2.1, fun e => by have h1 := Kd.R_base hR7.K k e.symm; have h2 := hk.2.2.1; omega⟩)⟩; have HSZ7 : Aside0 (∀ k, (Value.slice A8 kept2.length c8).ownBlock = some k → k < w7.heap.size) := ⟨Kd.R_lt hR7.K⟩; have HB7s := Aside0.mk (show wr.heap.size ≤ w7.heap.size from hR7.bel.size); clear hR7 hgsl hgtl; obtain ⟨A7, c7, e7⟩ := Kd.R_slice HR7.out.O; subst e7))
          go_roundg g
          case measure => omega
          case rel => exact ⟨i + 1, _, out ++ new, rest2, en2, code2, wv2, kept2, A8, c8, by omega, by first | rfl | simp, rfl, ⟨HTO.out.2⟩, ⟨fun h => by first | rfl | exact HTE2.out h⟩, HSN, HK2, HW2, HGx, HTx, HKx, HO8, HB8⟩
      · have hkn : kept = [] := by rw [HKE.out, if_neg hc1]
        have hwn : wv = code := by rw [HWE.out, if_neg hc1]
        subst hkn
        have HW0 : Aside0 (wv ≠ 0) := ⟨by rw [hwn]; exact hm5⟩
        have HNL : Aside0 (0 ≤ 18000) := ⟨by omega⟩
        have HSN : Aside0 (scanF (b.take tn) 0 = (out ++ [], rest ++ q, en, code)) := ⟨by
          have h := next_bad HS.out HYP.out HYQ.out hc1
          rw [HP2.out] at h
          rw [List.append_nil]
          exact h⟩
        have HKE2 : Aside0 (([] : List Int) = if code = 1 then rest ++ q else []) := ⟨by rw [if_neg hc1]⟩
        clear hwn hm1 hm2 hm3 hm4 hm5 hc1
        rcases HWAY.out with ⟨hlt, x, hx0, hx1, hx, htn⟩ | ⟨hlt, htn⟩
        · have hd5 : decide ((i : Int) < (ps.length : Int)) = true := by simp; omega
          have hd6 : decide (i < ps.length) = true := by simp; omega
          have hi1 : (i : Int) < (ps.length : Int) := by omega
          obtain ⟨ap, rfl, z0⟩ := elK HP.out rfl i hlt x hx
          have z0 := cell_bel z0 HB.out
          have hmn : ∀ (ats : Array TypeId) (ty : TypeId), Builtin.min_ ats ty #[.int .i64 (b.length : Int), .int .i64 ((at_ : Int) + x)] = (pure (.int .i64 (tn : Int)) : Sem Value) := by
            intro ats ty
            have h1 : (if ((at_ : Int) + x) < (b.length : Int) then ((at_ : Int) + x) else (b.length : Int)) = (tn : Int) := by split <;> omega
            simp only [min_two, min2_int, pure_bind, h1]
          have hxw : IntKind.i64.wrap x = x := by simp [IntKind.wrap, IntKind.signed, IntKind.bits]; omega
          clear hx htn
          go_wp2_with (first
            | ((with_reducible refine gate_builtin (b := .append) (xs := #[.tmp 65, .tmp 66]) rfl ?_); at_builtin; refine Kd.R_append_rows k68 (w0 := w) w.heap.size rfl (.tmp 65) (.tmp 66) 61 68 (.agg #[(.int .u8 0), (.int .u8 0), (.slice none 0 0), (.int .u64 0), (.int .i64 0)]) 48 rfl Try.underlying61 info68 rfl (by decide) (by omega) u7 out [] none _ _ (fun k => k ≠ gs ∧ k ≠ gt ∧ some k ≠ (Value.slice Ak ([] : List Int).length ck).ownBlock) _ rfl rfl HO7.out (reads_nil (k68.M w7 w.heap.size (fun _ => False)) 5 w7) (fun x cs h => h) (fun _ h => h.elim) (fun k hk => by have h4 := blk_lt HT7.out; have h5 := blk_lt HG7.out; exact ⟨by omega, by omega, fun e => by have h7 := Kd.R_lt HK7.out k e.symm; omega⟩) HB7.out HB7.out.size (by have h1 := HOL.out; have h2 := HNL.out; (try simp only [List.length_nil]); omega) ?_; intro v8 w8 ho hb hg hat; have HO8 := Aside0.mk ho; have HB8 := Aside0.mk hb; have HGR := Aside0.mk hg; have HAT8 := Aside0.mk hat; clear ho hb hg hat; have HGx := Aside0.mk (blk_grown HG7.out HGR.out (Kd.R_ne HO7.out HG7.out (by decide))); have HTx := Aside0.mk (blk_grown HT7.out HGR.out (Kd.R_ne HO7.out HT7.out (by decide))); have HKx := Aside0.mk (R_two2 HO7.out HK7.out rfl (by decide) HGR.out))
            | (go_at_call 36; refine (feed_stopped gs Ak ([] : List Int).length ck en wv A' q.length (c - at_) _ HG.out HW0.out).mono ?_; rintro e w7 ⟨rfl, nq, hq7⟩; have HQ7 := Aside0.mk hq7; clear hq7; have HB7 : Aside0 (Below w.heap.size w w7) := ⟨by rw [HQ7.out]; exact pw_below_drewN HB.out nq⟩; have HG7 : Aside0 (w7.heap[gs]? = some (.cells #[.slice Ak ([] : List Int).length ck, .int .u64 en, .int .i64 wv] 85 (0, 0))) := ⟨by rw [HQ7.out]; exact HG.out⟩; have HT7 : Aside0 (w7.heap[gt]? = some (.cells #[.slice none 0 0, .int .u64 0, .int .i64 0] 85 (0, 0))) := ⟨by rw [HQ7.out]; exact HT.out⟩; have HK7 : Aside0 (Kd.R (Kd.int .u8) 5 w7 w.heap.size (fun _ => True) (.slice Ak ([] : List Int).length ck) []) := ⟨by rw [HQ7.out]; exact Kd.R_step HK.out (fun _ _ _ => rfl)⟩; have HO7 : Aside0 (Kd.R k68 68 w7 w.heap.size (fun k => k ≠ gs ∧ k ≠ gt ∧ some k ≠ (Value.slice Ak ([] : List Int).length ck).ownBlock) u7 out) := ⟨by rw [HQ7.out]; exact Kd.R_step HO.out (fun _ _ _ => rfl)⟩))
          go_roundg g
          case measure => omega
          case rel => exact ⟨i + 1, _, out ++ [], rest ++ q, en, code, wv, [], Ak, ck, by omega, by first | rfl | simp, rfl, ⟨HTO.out.2⟩, ⟨fun h => by first | rfl | exact HTE2.out h⟩, HSN, HKE2, HWE, HGx, HTx, HKx, HO8, HB8⟩
        · have hd5 : decide ((i : Int) < (ps.length : Int)) = false := by simp; omega
          have hd6 : decide (i < ps.length) = false := by simp; omega
          have HLT := Aside0.mk hlt
          clear hlt
          subst htn
          go_wp2_with (first
            | ((with_reducible refine gate_builtin (b := .append) (xs := #[.tmp 65, .tmp 66]) rfl ?_); at_builtin; refine Kd.R_append_rows k68 (w0 := w) w.heap.size rfl (.tmp 65) (.tmp 66) 61 68 (.agg #[(.int .u8 0), (.int .u8 0), (.slice none 0 0), (.int .u64 0), (.int .i64 0)]) 48 rfl Try.underlying61 info68 rfl (by decide) (by omega) u7 out [] none _ _ (fun k => k ≠ gs ∧ k ≠ gt ∧ some k ≠ (Value.slice Ak ([] : List Int).length ck).ownBlock) _ rfl rfl HO7.out (reads_nil (k68.M w7 w.heap.size (fun _ => False)) 5 w7) (fun x cs h => h) (fun _ h => h.elim) (fun k hk => by have h4 := blk_lt HT7.out; have h5 := blk_lt HG7.out; exact ⟨by omega, by omega, fun e => by have h7 := Kd.R_lt HK7.out k e.symm; omega⟩) HB7.out HB7.out.size (by have h1 := HOL.out; have h2 := HNL.out; (try simp only [List.length_nil]); omega) ?_; intro v8 w8 ho hb hg hat; have HO8 := Aside0.mk ho; have HB8 := Aside0.mk hb; have HGR := Aside0.mk hg; have HAT8 := Aside0.mk hat; clear ho hb hg hat; have HGx := Aside0.mk (blk_grown HG7.out HGR.out (Kd.R_ne HO7.out HG7.out (by decide))); have HTx := Aside0.mk (blk_grown HT7.out HGR.out (Kd.R_ne HO7.out HT7.out (by decide))); have HKx := Aside0.mk (R_two2 HO7.out HK7.out rfl (by decide) HGR.out))
            | (go_at_call 36; refine (feed_stopped gs Ak ([] : List Int).length ck en wv A' q.length (c - at_) _ HG.out HW0.out).mono ?_; rintro e w7 ⟨rfl, nq, hq7⟩; have HQ7 := Aside0.mk hq7; clear hq7; have HB7 : Aside0 (Below w.heap.size w w7) := ⟨by rw [HQ7.out]; exact pw_below_drewN HB.out nq⟩; have HG7 : Aside0 (w7.heap[gs]? = some (.cells #[.slice Ak ([] : List Int).length ck, .int .u64 en, .int .i64 wv] 85 (0, 0))) := ⟨by rw [HQ7.out]; exact HG.out⟩; have HT7 : Aside0 (w7.heap[gt]? = some (.cells #[.slice none 0 0, .int .u64 0, .int .i64 0] 85 (0, 0))) := ⟨by rw [HQ7.out]; exact HT.out⟩; have HK7 : Aside0 (Kd.R (Kd.int .u8) 5 w7 w.heap.size (fun _ => True) (.slice Ak ([] : List Int).length ck) []) := ⟨by rw [HQ7.out]; exact Kd.R_step HK.out (fun _ _ _ => rfl)⟩; have HO7 : Aside0 (Kd.R k68 68 w7 w.heap.size (fun k => k ≠ gs ∧ k ≠ gt ∧ some k ≠ (Value.slice Ak ([] : List Int).length ck).ownBlock) u7 out) := ⟨by rw [HQ7.out]; exact Kd.R_step HO.out (fun _ _ _ => rfl)⟩))
          go_roundg g
          case measure => omega
          case rel => exact ⟨i + 1, _, out ++ [], rest ++ q, en, code, wv, [], Ak, ck, by omega, by first | rfl | simp, rfl, ⟨HTO.out.2⟩, ⟨fun h => by first | rfl | exact HTE2.out h⟩, HSN, HKE2, HWE, HGx, HTx, HKx, HO8, HB8⟩
end Go.Proofs.Ytonbphiaideleaa.M
