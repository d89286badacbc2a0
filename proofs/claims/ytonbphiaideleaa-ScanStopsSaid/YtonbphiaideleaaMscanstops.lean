/- lacunalaw05.ScanStops: the walk. -/
import Derived.Test.YtonbphiaideleaaMfeeds
namespace Go.Proofs.Ytonbphiaideleaa.M
open Go.RowKit Go.Proofs.YtonbphiaideleaaW.PrintWords Go.Proofs.YtonbphiaideleaaW.PrintLast Go.Proofs.YtonbphiaideleaaW.PrintMore Go.Proofs.Ytonbphiaideleaa.PC
set_option linter.unusedVariables false
set_option linter.unusedSimpArgs false
theorem parF_77 (t : List Int) : parF (77 :: t) = (0, 0, [], 0, 3) := by
  refine parF_bad ?_ (by decide)
  have h : preB (77 :: t) = false := by
    unfold preB
    rw [decide_eq_false_iff_not]
    intro h
    have h0 := congrArg (fun z => z[0]?) h
    simp only [List.length_cons] at h0
    simp at h0
  unfold headF
  rw [if_pos h]
theorem frB_cons (x y : Int) (l : List Int) : ∃ t : List Int, frB x y l = 76 :: t ∧ t.length = l.length + 9 := by
  obtain ⟨s, hs, h⟩ := frB_eq x y l
  refine ⟨_, h, ?_⟩
  have h2 := frB_length x y l
  rw [h] at h2
  simp only [List.length_cons] at h2 ⊢
  omega
theorem reads_any {k : IntKind} {e : Nat} {w : World} {base : Nat} {ok : Nat → Prop} {A : Option Addr} {n c : Nat} {xs : List Int} (h : Kd.R (Kd.int k) e w base ok (.slice A n c) xs) : Kd.C (Kd.int k) w A n xs := by
  have h2 := Kd.R_reads' h
  rw [h2.1]
  exact h2.2.2
/-- What stands behind i frames, the k-th of which begins with another byte. -/
def Stops (ls : List S44) (k i : Nat) (B : List Int) (fr : Nat) : Prop :=
  (i ≤ k ∧ B = catF (ls.take i)) ∨ (k < i ∧ fr = (catF (ls.take k)).length ∧ ∃ t, Byt t ∧ B = catF (ls.take k) ++ 77 :: t)
set_option maxHeartbeats 8000000 in
set_option maxRecDepth 100000 in
theorem scanstops_any (A : Option Addr) (c : Nat) (ls : List S44) (pl : Int) (Ab : Option Addr) (nb cb : Nat) (w : World) (hC : Kd.C k44 w A ls.length ls) (hc : ls.length ≤ c) (hy : ∀ q ∈ ls, Byt q.f2) (hpl : 0 ≤ pl ∧ pl < 256) :
    Calls Try.prog 13 #[.slice A ls.length c, .int .u8 pl, .slice Ab nb cb] w fun e w' => e = .returned (.bool true) ∧ Below w.heap.size w w' := by
  have hu44 := Try.underlying44
  have hu55 := Try.underlying55
  have hu23 := Try.underlying23
  have HC := Aside0.mk hC
  have HY := Aside0.mk hy
  have HB := Aside0.mk (Below.refl w.heap.size w)
  obtain ⟨hp0, hp1⟩ := hpl
  clear hC hy
  by_cases h12 : 12 < ls.length
  · have hd : decide (12 < (ls.length : Int)) = true := by simp; omega
    have hd2 : decide (12 < ls.length) = true := by simp; omega
    go_enter Try.func13, Try.ntmps13
    go_wp2_with fail
    go_ret
    exact ⟨rfl, HB.out⟩
  have hd : decide (12 < (ls.length : Int)) = false := by simp; omega
  have hd2 : decide (12 < ls.length) = false := by simp; omega
  have HLS : Aside0 (ls.length ≤ 12) := ⟨by omega⟩
  clear h12
  by_cases h0 : ls.length = 0
  · have hz : ((ls.length : Int) == 0) = true := by rw [h0]; rfl
    have hz2 : (ls.length == 0) = true := by rw [h0]; rfl
    clear h0
    go_enter Try.func13, Try.ntmps13
    go_wp2_with fail
    go_ret
    exact ⟨rfl, HB.out⟩
  have hz : ((ls.length : Int) == 0) = false := by rw [beq_eq_false_iff_ne]; omega
  have hz0 : ¬ ((ls.length : Int) = 0) := by omega
  have hz2 : (ls.length == 0) = false := by rw [beq_eq_false_iff_ne]; omega
  have hz3 : ¬ (ls.length = 0) := h0
  clear h0
  by_cases h60 : 60 < nb
  · have hd3 : decide (60 < (nb : Int)) = true := by simp; omega
    have hd4 : decide (60 < nb) = true := by simp; omega
    go_enter Try.func13, Try.ntmps13
    go_wp2_with fail
    go_ret
    exact ⟨rfl, HB.out⟩
  have hd3 : decide (60 < (nb : Int)) = false := by simp; omega
  have hd4 : decide (60 < nb) = false := by simp; omega
  clear h60
  obtain ⟨k, hk⟩ : ∃ k : Nat, k = pl.toNat % ls.length := ⟨_, rfl⟩
  have HKL : Aside0 (k < ls.length) := ⟨by rw [hk]; exact Nat.mod_lt _ (by omega)⟩
  have htm : Int.tmod pl (ls.length : Int) = (k : Int) := by
    obtain ⟨q, hq⟩ := Int.eq_ofNat_of_zero_le hp0
    rw [hk, hq]
    exact tmod_nat q ls.length
  have hcw : IntKind.i64.wrap pl = pl := by simp [IntKind.wrap, IntKind.signed, IntKind.bits]; omega
  have hcw2 : wrap64 pl = pl := by unfold wrap64; omega
  clear hk
  go_enter Try.func13, Try.ntmps13
  go_wp2
  clear hd hd2 hd3 hd4 hz hz0 hz2 hz3 htm hcw hcw2 hp0 hp1
  go_loopg [8, 9, 10] ls.length (fun g s8 s9 s10 wx => ∃ (i : Nat) (B : List Int) (fr : Nat), i + g = ls.length ∧ s10 = .int .i64 i ∧ s9 = .int .i64 fr ∧ Aside0 (Stops ls k i B fr) ∧ Aside0 (∀ q ∈ ls.take i, okF q) ∧ Aside0 (B.length ≤ 310 * i) ∧ Aside0 (Kd.R (Kd.int .u8) 5 wx w.heap.size (fun _ => True) s8 B) ∧ Aside0 (Below w.heap.size w wx))
  case atStart => exact ⟨0, [], 0, by omega, rfl, rfl, ⟨Or.inl ⟨Nat.zero_le _, rfl⟩⟩, ⟨fun _ h => by simp at h⟩, ⟨by simp⟩, ⟨Kd.R_nil _ _ _ _ _⟩, HB⟩
  case round =>
    clear HB
    obtain ⟨i, B, fr, hig, rfl, rfl, HW, HOK, HBL, HO, HB⟩ := hrel
    cases gk with
    | zero =>
      have hii : i = ls.length := by omega
      subst hii
      have hd : decide ((ls.length : Int) < (ls.length : Int)) = false := by simp
      have hd2 : decide (ls.length < ls.length) = false := by simp
      have hw : fr = (catF (ls.take k)).length ∧ ∃ t, Byt t ∧ B = catF (ls.take k) ++ 77 :: t := by
        rcases HW.out with ⟨h1, _⟩ | ⟨_, h2⟩
        · have h3 := HKL.out; omega
        · exact h2
      obtain ⟨hfr, t, hyt, hBt⟩ := hw
      have hokk : ∀ q ∈ ls.take k, okF q := fun q hq => HOK.out q (by rw [List.take_length]; exact List.mem_of_mem_take hq)
      obtain ⟨M, hM⟩ : ∃ M, M = madeF (ls.take k) 0 := ⟨_, rfl⟩
      have HML : Aside0 (M.length = k) := ⟨by rw [hM, madeF_length, List.length_take]; have := HKL.out; omega⟩
      have HYB : Aside0 (Byt B) := ⟨by
        rw [hBt]
        refine fun z hz => (List.mem_append.1 hz).elim (catF_byt hokk z) (fun h => ?_)
        rcases List.mem_cons.1 h with rfl | h
        · exact ⟨by decide, by decide⟩
        · exact hyt z h⟩
      have HS : Aside0 (scanF ([] ++ B) 0 = (M, 77 :: t, (fr : Int), 3)) := ⟨by
        have hy7 : Byt (77 :: t) := fun z hz => by
          rcases List.mem_cons.1 hz with rfl | h
          · exact ⟨by decide, by decide⟩
          · exact hyt z h
        rw [List.nil_append, hBt, scan_cat _ _ _ hokk hy7, scan_stop (by rw [parF_77]; decide), parF_77, hM, hfr]
        simp⟩
      have HBL2 : Aside0 (B.length ≤ 3720) := ⟨by have h1 := HBL.out; have h2 := HLS.out; omega⟩
      have hfl : (fr : Int) ≤ 3720 := by have h1 := HBL2.out; rw [hBt, List.length_append] at h1; omega
      have hfu : IntKind.u64.wrap (fr : Int) = (fr : Int) := by simp [IntKind.wrap, IntKind.signed, IntKind.bits]; omega
      have hff : ((fr : Int) == (fr : Int)) = true := by simp
      have hkk : ((k : Int) == (k : Int)) = true := by simp
      obtain ⟨A3, c3, e3⟩ := Kd.R_slice HO.out
      cases e3
      have HWB := Aside0.mk HB.out.size
      clear HW HOK HBL hfr hyt hBt hokk hM
      go_wp2_with (first
        | (go_at_call 39; refine (awake5_any _).mono ?_; rintro e w11 ⟨rfl, hb⟩; have HB11 := Aside0.mk (below_step HB8.out hb); clear hb)
        | (go_at_call 38; refine (kept_any g5 A8 _ c8 _ _ _ HG8.out).mono ?_; rintro e w9 ⟨rfl, rfl⟩)
        | (go_at_call 37; refine (at_any g5 A8 _ c8 _ _ _ HG8.out).mono ?_; rintro e w9 ⟨rfl, rfl⟩)
        | (go_at_call 36; refine (feed_stopped g5 A8 ([] : List Int).length c8 (fr : Int) 3 Ab nb cb _ HR7.out.G (by decide)).mono ?_; rintro e w8 ⟨rfl, nq, hq8⟩; have HQ8 := Aside0.mk hq8; clear hq8; have HB8 : Aside0 (Below w.heap.size w w8) := ⟨by rw [HQ8.out]; exact pw_below_drewN HB7.out nq⟩; have HG8 : Aside0 (w8.heap[g5]? = some (.cells #[.slice A8 ([] : List Int).length c8, .int .u64 (fr : Int), .int .i64 3] 85 (0, 0))) := ⟨by rw [HQ8.out]; exact HR7.out.G⟩)
        | (go_at_call 36; refine (feed_any g5 none 0 [] 0 A3 c3 B _ w.heap.size M (77 :: t) (fr : Int) 3 HS.out [] rfl 3 rfl HG5.out (Kd.R_nil _ _ _ _ _) (Kd.C_below (Kd.R_reads' HO.out).2.2 HB45.out) (Kd.R_reads' HO.out).2.1 HB5.out.size (by rw [HGE.out]; exact HWB.out) (by have := HBL2.out; simp only [List.length_nil]; omega) (fun _ h => by cases h) HYB.out (by decide)).mono ?_; rintro e w7 ⟨v7, A8, c8, rfl, hR7⟩; have HR7 := Aside0.mk hR7; have HB7 : Aside0 (Below w.heap.size w w7) := ⟨HB5.out.trans hR7.bel⟩; clear hR7; obtain ⟨Am, cm, em⟩ := Kd.R_slice HR7.out.O; rw [HML.out] at em; subst em)
        | (go_at_call 35; refine (new_any _).mono ?_; rintro e w5 ⟨g5, hg, rfl, hG5, hb⟩; have HGE := Aside0.mk hg; have HG5 := Aside0.mk hG5; have HB45 := Aside0.mk hb; have HB5 := Aside0.mk (below_step HB.out hb); clear hg hG5 hb))
      go_ret
      exact ⟨rfl, HB11.out⟩
    | succ g =>
      have hlt : i < ls.length := by omega
      have hd : decide ((i : Int) < (ls.length : Int)) = true := by simp; omega
      have hd2 : decide (i < ls.length) = true := by simp; omega
      obtain ⟨q, hq⟩ : ∃ q, ls[i]? = some q := ⟨ls[i]'hlt, List.getElem?_eq_getElem _⟩
      have HQ := Aside0.mk hq
      have HQY := Aside0.mk (HY.out q (List.mem_of_getElem? hq))
      obtain ⟨ad, A2, c2, rfl, a0, a1, a2, hl2, hc2⟩ := el44 HC.out rfl i hlt q hq
      obtain ⟨x, y, l⟩ := q
      dsimp only at *
      have HCa0 := Aside0.mk a0
      have HCa1 := Aside0.mk a1
      have HCa2 := Aside0.mk a2
      have HL2 := Aside0.mk hc2
      have HL2c := Aside0.mk hl2
      have hk0 : (0 : Int) ≤ (i : Int) := by omega
      have hk1 : (i : Int) < (ls.length : Int) := by omega
      have hkt : (i : Int).toNat = i := by omega
      have hk12 : (i : Int) ≤ 12 := by have := HLS.out; omega
      clear a0 a1 a2 hl2 hc2 hq
      have b0 := cell_bel HCa0.out HB.out
      have b1 := cell_bel HCa1.out HB.out
      have b2 := cell_bel HCa2.out HB.out
      by_cases h300 : 300 < l.length
      · have hd3 : decide ((300 : Int) < (l.length : Int)) = true := by simp; omega
        have hd4 : decide (300 < l.length) = true := by simp; omega
        clear h300
        go_wp2_with fail
        go_ret
        exact ⟨rfl, HB.out⟩
      · have hd3 : decide ((300 : Int) < (l.length : Int)) = false := by simp; omega
        have hd4 : decide (300 < l.length) = false := by simp; omega
        have HL300 : Aside0 (l.length ≤ 300) := ⟨by omega⟩
        clear h300
        by_cases hr : rightF x y l = 0
        · have HR := Aside0.mk hr
          have hne : ((0 : Int) != 0) = false := rfl
          obtain ⟨f3, hf3, hfl⟩ := frB_cons x y l
          have HF3 := Aside0.mk hf3
          have HFL : Aside0 (f3.length ≤ 309) := ⟨by have := HL300.out; omega⟩
          have HYF : Aside0 (Byt f3) := ⟨fun z hz => frB_byt hr HQY.out z (by rw [hf3]; exact List.mem_cons_of_mem _ hz)⟩
          have HYFr : Aside0 (Byt (76 :: f3)) := ⟨by rw [← hf3]; exact frB_byt hr HQY.out⟩
          have HOKn : Aside0 (∀ q ∈ ls.take (i + 1), okF q) := ⟨fun q hq => by
            rw [List.take_add_one, HQ.out] at hq
            rcases List.mem_append.1 hq with h | h
            · exact HOK.out q h
            · obtain rfl : q = ⟨x, y, l⟩ := by simpa using h
              exact ⟨hr, HQY.out⟩⟩
          clear hr hf3 hfl
          obtain ⟨A8, c8, e8⟩ := Kd.R_slice HO.out
          cases e8
          by_cases hik : i = k
          · subst hik
            have HBc : Aside0 (B = catF (ls.take i)) := ⟨by
              rcases HW.out with ⟨_, h⟩ | ⟨h, _⟩
              · exact h
              · omega⟩
            have hkk : ((i : Int) == (i : Int)) = true := by simp
            go_wp2_with (first
              | ((with_reducible refine gate_builtin (b := .append) (xs := #[.tmp 75, .tmp 76]) rfl ?_); at_builtin; (refine Kd.R_append_rows (Kd.int .u8) (w0 := w) w.heap.size rfl (.tmp 75) (.tmp 76) 23 5 (.int .u8 0) 1 rfl Try.underlying23 info5 rfl (by decide) (by omega) (.slice A8 B.length c8) B (77 :: f3) _ _ _ (fun _ => True) (fun _ => False) rfl rfl HOB4.out (reads_any HO4.out) (fun _ _ h => h) (fun _ h => h.elim) (fun _ _ => trivial) HB4.out HB4.out.size (by have h1 := HBL.out; have h2 := HLS.out; have h3 := HFL.out; (try simp only [List.length_cons]); omega) ?_); intro v5 w5 ho hb hg hat; have HO5 := Aside0.mk ho; have HB5 := Aside0.mk hb; clear ho hb hg hat)
              | ((with_reducible refine gate_store (t := 5) (p := 74) rfl ?_); refine store_event (t := 5) (p := 74) (v := ?vo_w4) (w1 := w3.setCell ⟨g3, 0, none⟩ (.int .u8 77)) ?hg ?ho ?hn ?hr ?_; (case ho => rfl); (case hg => rfl); (case hn => rfl); (case hr => first | (go_simp; done) | (go_simp; rfl)); intro w4 hw4; have HO4 : Aside0 (Kd.R (Kd.int .u8) 5 w4 w2.heap.size (fun _ => True) (.slice (some ⟨g3, 0, none⟩) (76 :: f3).length c3) (77 :: f3)) := ⟨by rw [hw4]; exact Kd.R_putn HO3.out 0 77⟩; have HOB4 : Aside0 (Kd.R (Kd.int .u8) 5 w4 w.heap.size (fun _ => True) (.slice A8 B.length c8) B) := ⟨by rw [hw4]; exact Kd.R_mono (Kd.R_far (Kd.R_below (Kd.R_mono (Kd.R_bound HO2.out) (ok' := fun k => k < w2.heap.size) (fun _ hk => hk.2.2.1)) HB23.out) (p := ⟨g3, 0, none⟩) (fun k hk => by have h1 : k < w2.heap.size := hk; have h2 := HG3w.out; show k ≠ g3; omega) _) (fun _ _ => trivial)⟩; have HB4 : Aside0 (Below w.heap.size w w4) := ⟨by rw [hw4]; exact below_set HB3.out HG3.out⟩; clear hw4 hc3 hf3)
              | (go_at_call 34; refine (refmake_any x y A2 c2 l _ (Kd.C_below HL2.out HB2.out) HL2c.out HR.out HQY.out).mono ?_; rw [HF3.out]; rintro e w3 ⟨v3, rfl, ho, hb⟩; have HO3 := Aside0.mk ho; have HB23 := Aside0.mk hb; have HB3 := Aside0.mk (below_step HB2.out hb); have HOB3 := Aside0.mk (Kd.R_below HO2.out hb); clear ho hb b0 b1 b2; obtain ⟨g3, c3, e3, hg3, hl3, cc3, hcc3⟩ := Kd.R_form HO3.out (by simp); subst e3; have HG3 := Aside0.mk (Nat.le_trans HB2.out.size hg3); have HG3w := Aside0.mk hg3; obtain ⟨ad3, had3, z3⟩ := elK (Kd.R_reads' HO3.out).2.2 rfl 0 (by simp) 76 rfl; obtain rfl := Option.some.inj had3; have hc3 : w3.cell? ⟨g3, 0, none⟩ = some (.int .u8 76) := z3; have hf3 := blk_frozen hcc3 0; clear had3 z3 hg3 hl3 hcc3)
              | (go_at_call 31; refine (refright_any x y A2 c2 l _ (Kd.C_below HL2.out HB.out) HL2c.out).mono ?_; rw [HR.out]; rintro e w2 ⟨rfl, hb⟩; have HB2 := Aside0.mk (below_step HB.out hb); have HO2 := Aside0.mk (Kd.R_below HO.out hb); clear hb b0 b1 b2; have b0 := cell_bel HCa0.out HB2.out; have b1 := cell_bel HCa1.out HB2.out; have b2 := cell_bel HCa2.out HB2.out))
            go_roundg g
            case measure => omega
            case rel => exact ⟨i + 1, B ++ 77 :: f3, B.length, by omega, by first | rfl | simp, by first | rfl | simp, ⟨Or.inr ⟨by omega, by rw [HBc.out], f3, HYF.out, by rw [HBc.out]⟩⟩, HOKn, ⟨by have h1 := HBL.out; have h2 := HFL.out; simp only [List.length_append, List.length_cons]; omega⟩, HO5, HB5⟩
          · have hkk : ((i : Int) == (k : Int)) = false := by simp; omega
            have hkk2 : (i == k) = false := by simpa using hik
            have HIK := Aside0.mk hik
            clear hik
            go_wp2_with (first
              | ((with_reducible refine gate_builtin (b := .append) (xs := #[.tmp 75, .tmp 76]) rfl ?_); at_builtin; (refine Kd.R_append_rows (Kd.int .u8) (w0 := w) w.heap.size rfl (.tmp 75) (.tmp 76) 23 5 (.int .u8 0) 1 rfl Try.underlying23 info5 rfl (by decide) (by omega) (.slice A8 B.length c8) B (76 :: f3) _ _ _ (fun _ => True) (fun _ => False) rfl rfl HOB3.out (Kd.R_reads' HO3.out).2.2 (fun _ _ h => h) (fun _ h => h.elim) (fun _ _ => trivial) HB3.out HB3.out.size (by have h1 := HBL.out; have h2 := HLS.out; have h3 := HFL.out; (try simp only [List.length_cons]); omega) ?_); intro v5 w5 ho hb hg hat; have HO5 := Aside0.mk ho; have HB5 := Aside0.mk hb; clear ho hb hg hat)
              | (go_at_call 34; refine (refmake_any x y A2 c2 l _ (Kd.C_below HL2.out HB2.out) HL2c.out HR.out HQY.out).mono ?_; rw [HF3.out]; rintro e w3 ⟨v3, rfl, ho, hb⟩; have HO3 := Aside0.mk ho; have HB23 := Aside0.mk hb; have HB3 := Aside0.mk (below_step HB2.out hb); have HOB3 := Aside0.mk (Kd.R_below HO2.out hb); clear ho hb b0 b1 b2; obtain ⟨g3, c3, e3, hg3, hl3, cc3, hcc3⟩ := Kd.R_form HO3.out (by simp); subst e3; have HG3 := Aside0.mk (Nat.le_trans HB2.out.size hg3); have HG3w := Aside0.mk hg3; obtain ⟨ad3, had3, z3⟩ := elK (Kd.R_reads' HO3.out).2.2 rfl 0 (by simp) 76 rfl; obtain rfl := Option.some.inj had3; have hc3 : w3.cell? ⟨g3, 0, none⟩ = some (.int .u8 76) := z3; have hf3 := blk_frozen hcc3 0; clear had3 z3 hg3 hl3 hcc3)
              | (go_at_call 31; refine (refright_any x y A2 c2 l _ (Kd.C_below HL2.out HB.out) HL2c.out).mono ?_; rw [HR.out]; rintro e w2 ⟨rfl, hb⟩; have HB2 := Aside0.mk (below_step HB.out hb); have HO2 := Aside0.mk (Kd.R_below HO.out hb); clear hb b0 b1 b2; have b0 := cell_bel HCa0.out HB2.out; have b1 := cell_bel HCa1.out HB2.out; have b2 := cell_bel HCa2.out HB2.out))
            go_roundg g
            case measure => omega
            case rel => exact ⟨i + 1, B ++ 76 :: f3, fr, by omega, by first | rfl | simp, rfl, ⟨by
                rcases HW.out with ⟨h1, h2⟩ | ⟨h1, h2, t, h3, h4⟩
                · exact Or.inl ⟨by have := HIK.out; omega, by rw [catF_take HQ.out, h2, HF3.out]⟩
                · exact Or.inr ⟨by omega, h2, t ++ 76 :: f3, fun z hz => (List.mem_append.1 hz).elim (h3 z) (HYFr.out z), by rw [h4, List.append_assoc, List.cons_append]⟩⟩, HOKn, ⟨by have h1 := HBL.out; have h2 := HFL.out; simp only [List.length_append, List.length_cons]; omega⟩, HO5, HB5⟩
        · obtain ⟨r, hrr⟩ : ∃ r, r = rightF x y l := ⟨_, rfl⟩
          have HR : Aside0 (rightF x y l = r) := ⟨hrr.symm⟩
          have hz : (r == 0) = false := by rw [hrr]; simpa using hr
          have hz2 : (r != 0) = true := by rw [bne, hz]; rfl
          clear hr hrr
          go_wp2_with (first
            | (go_at_call 31; refine (refright_any x y A2 c2 l _ (Kd.C_below HL2.out HB.out) HL2c.out).mono ?_; rw [HR.out]; rintro e w2 ⟨rfl, hb⟩; have HB2 := Aside0.mk (below_step HB.out hb); have HO2 := Aside0.mk (Kd.R_below HO.out hb); clear hb b0 b1 b2; have b0 := cell_bel HCa0.out HB2.out; have b1 := cell_bel HCa1.out HB2.out; have b2 := cell_bel HCa2.out HB2.out))
          go_ret
          exact ⟨rfl, HB2.out⟩
end Go.Proofs.Ytonbphiaideleaa.M
