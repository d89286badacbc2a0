/- Merged: Msame5, PCx6, Mscanmade, Mawake5. -/
import Derived.Test.YtonbphiaideleaaMfeed
import Derived.Test.YtonbphiaideleaaPCx5
import Derived.Test.YtonbphiaideleaaPCx1
/- scan.New, At, Kept, Err; lacunalaw05.same of frames that are alike. -/
namespace Go.Proofs.Ytonbphiaideleaa.M
open Go.RowKit Go.Proofs.YtonbphiaideleaaW.PrintWords Go.Proofs.YtonbphiaideleaaW.PrintLast Go.Proofs.YtonbphiaideleaaW.PrintMore Go.Proofs.Ytonbphiaideleaa.PC
set_option linter.unusedVariables false
set_option linter.unusedSimpArgs false
set_option maxHeartbeats 1000000 in
theorem new_any (w : World) : Calls Try.prog 35 #[] w fun e w' => ∃ g : Nat, g = w.heap.size ∧ e = .returned (.pointer (some ⟨g, 0, none⟩)) ∧ w'.heap[g]? = some (.cells #[.slice none 0 0, .int .u64 0, .int .i64 0] 85 (0, 0)) ∧ Below w.heap.size w w' := by
  have hu85 := Try.underlying85
  go_enter Try.func35, Try.ntmps35
  go_wp2_with (first
    | ((with_reducible refine gate_dst (N := 2) rfl ?_); refine box_event ?hg (N := 2) ?hd (cs := #[.slice none 0 0, .int .u64 0, .int .i64 0]) (t := 85) ?hr ?_; (case hd => rfl); (case hg => rfl); (case hr => first | (go_simp; done) | (go_simp; rfl)); intro g1 hg w1 hbox hb; have HB1 := Aside0.mk hb; have HG1 := Aside0.mk hbox; have HE1 := Aside0.mk (show g1 = w.heap.size from hg); clear hbox hb hg))
  go_ret
  exact ⟨g1, HE1.out, rfl, HG1.out, HB1.out⟩
set_option maxHeartbeats 1000000 in
theorem at_any (g : Nat) (A : Option Addr) (n c : Nat) (at_ wr : Int) (w : World) (hG : w.heap[g]? = some (.cells #[.slice A n c, .int .u64 at_, .int .i64 wr] 85 (0, 0))) :
    Calls Try.prog 37 #[.pointer (some ⟨g, 0, none⟩)] w fun e w' => e = .returned (.int .u64 at_) ∧ w = w' := by
  have hu85 := Try.underlying85
  have hs0 : w.cell? ⟨g, 0, none⟩ = some (.slice A n c) := (blk_cell hG 0).trans rfl
  have hs1 : w.cell? ⟨g, 1, none⟩ = some (.int .u64 at_) := (blk_cell hG 1).trans rfl
  have hs2 : w.cell? ⟨g, 2, none⟩ = some (.int .i64 wr) := (blk_cell hG 2).trans rfl
  clear hG
  go_enter Try.func37, Try.ntmps37
  go_wp2
  go_ret
  exact ⟨rfl, rfl⟩
set_option maxHeartbeats 1000000 in
theorem kept_any (g : Nat) (A : Option Addr) (n c : Nat) (at_ wr : Int) (w : World) (hG : w.heap[g]? = some (.cells #[.slice A n c, .int .u64 at_, .int .i64 wr] 85 (0, 0))) :
    Calls Try.prog 38 #[.pointer (some ⟨g, 0, none⟩)] w fun e w' => e = .returned (.int .i64 n) ∧ w = w' := by
  have hu85 := Try.underlying85
  have hs0 : w.cell? ⟨g, 0, none⟩ = some (.slice A n c) := (blk_cell hG 0).trans rfl
  have hs1 : w.cell? ⟨g, 1, none⟩ = some (.int .u64 at_) := (blk_cell hG 1).trans rfl
  have hs2 : w.cell? ⟨g, 2, none⟩ = some (.int .i64 wr) := (blk_cell hG 2).trans rfl
  clear hG
  go_enter Try.func38, Try.ntmps38
  go_wp2
  go_ret
  exact ⟨rfl, rfl⟩
set_option maxHeartbeats 1000000 in
theorem err_any (g : Nat) (A : Option Addr) (n c : Nat) (at_ wr : Int) (w : World) (hG : w.heap[g]? = some (.cells #[.slice A n c, .int .u64 at_, .int .i64 wr] 85 (0, 0))) :
    Calls Try.prog 40 #[.pointer (some ⟨g, 0, none⟩)] w fun e w' => e = .returned (.int .i64 wr) ∧ w = w' := by
  have hu85 := Try.underlying85
  have hs0 : w.cell? ⟨g, 0, none⟩ = some (.slice A n c) := (blk_cell hG 0).trans rfl
  have hs1 : w.cell? ⟨g, 1, none⟩ = some (.int .u64 at_) := (blk_cell hG 1).trans rfl
  have hs2 : w.cell? ⟨g, 2, none⟩ = some (.int .i64 wr) := (blk_cell hG 2).trans rfl
  clear hG
  go_enter Try.func40, Try.ntmps40
  go_wp2
  go_ret
  exact ⟨rfl, rfl⟩

theorem cell_bel {W w' : World} {p : Addr} {v : Value} (h : W.cell? p = some v) (hb : Below W.heap.size W w') : w'.cell? p = some v := (hb.cell (World.block_lt_of_cell? W p h)).trans h
theorem el68 {w : World} {A : Option Addr} {m : Nat} {xs : List S68} (h : Kd.C k68 w A m xs) (hm : xs.length = m) (k : Nat) (hk : k < m) (q : S68) (hq : xs[k]? = some q) :
    ∃ (ad : Addr) (A2 : Option Addr) (c2 : Nat), A = some ad ∧ w.cell? (ad.add (k * 5)) = some (.int .u8 q.f0.f0) ∧ w.cell? ⟨(ad.add (k * 5)).block, (ad.add (k * 5)).off + 1, none⟩ = some (.int .u8 q.f0.f1) ∧ w.cell? ⟨(ad.add (k * 5)).block, (ad.add (k * 5)).off + 2, none⟩ = some (.slice A2 q.f0.f2.length c2) ∧ w.cell? ⟨(ad.add (k * 5)).block, (ad.add (k * 5)).off + 3, none⟩ = some (.int .u64 q.f1) ∧ w.cell? ⟨(ad.add (k * 5)).block, (ad.add (k * 5)).off + 4, none⟩ = some (.int .i64 q.f2) ∧ q.f0.f2.length ≤ c2 ∧ Kd.C (Kd.int .u8) w A2 q.f0.f2.length q.f0.f2 := by
  obtain ⟨ad, A2, c2, h0, h1, h2, h3, h4, h5, h6, h7⟩ := at_T68 h (k : Int) (by omega) (by omega)
  have e : rd_T68 xs (k : Int) = q := by unfold rd_T68; rw [Int.toNat_natCast, List.getD_eq_getElem?_getD, hq]; rfl
  rw [e, Int.toNat_natCast] at h1 h2 h3 h4 h5
  rw [e] at h6 h7
  exact ⟨ad, A2, c2, h0, h1, h2, h3, h4, h5, h6, h7⟩
theorem el87 {w : World} {A : Option Addr} {m : Nat} {xs : List S87} (h : Kd.C k87 w A m xs) (hm : xs.length = m) (k : Nat) (hk : k < m) (q : S87) (hq : xs[k]? = some q) :
    ∃ (ad : Addr) (A2 : Option Addr) (c2 : Nat), A = some ad ∧ w.cell? (ad.add (k * 5)) = some (.int .u8 q.f0.f0) ∧ w.cell? ⟨(ad.add (k * 5)).block, (ad.add (k * 5)).off + 1, none⟩ = some (.int .u8 q.f0.f1) ∧ w.cell? ⟨(ad.add (k * 5)).block, (ad.add (k * 5)).off + 2, none⟩ = some (.slice A2 q.f0.f2.length c2) ∧ w.cell? ⟨(ad.add (k * 5)).block, (ad.add (k * 5)).off + 3, none⟩ = some (.int .i64 q.f1) ∧ w.cell? ⟨(ad.add (k * 5)).block, (ad.add (k * 5)).off + 4, none⟩ = some (.int .i64 q.f2) ∧ q.f0.f2.length ≤ c2 ∧ Kd.C (Kd.int .u8) w A2 q.f0.f2.length q.f0.f2 := by
  obtain ⟨ad, A2, c2, h0, h1, h2, h3, h4, h5, h6, h7⟩ := at_T87 h (k : Int) (by omega) (by omega)
  have e : rd_T87 xs (k : Int) = q := by unfold rd_T87; rw [Int.toNat_natCast, List.getD_eq_getElem?_getD, hq]; rfl
  rw [e, Int.toNat_natCast] at h1 h2 h3 h4 h5
  rw [e] at h6 h7
  exact ⟨ad, A2, c2, h0, h1, h2, h3, h4, h5, h6, h7⟩
/-- Bytes, and a place that may be. -/
def Ok68 (q : S68) : Prop := Byt q.f0.f2 ∧ 0 ≤ q.f1 ∧ q.f1 < 9223372036854775808
def same5_T6 : Bool × List (List Nat × List Nat) := (true, [([], []), ([], []), ([0, 1], [0, 1]), ([2], [2]), ([3], [3]), ([4], [4]), ([], []), ([], []), ([6, 7], [6, 7]), ([8], [8]), ([9], [9]), ([5, 10, 5], [5, 10]), ([11], [11]), ([12, 11], [12]), ([13], [13]), ([13], [13]), ([14, 15, 13], [13, 14, 15]), ([16, 13], [13, 16]), ([17, 13], [13, 17]), ([13], [13]), ([13], [13]), ([19, 20, 13], [13, 19, 20]), ([21, 13], [13, 21]), ([22, 13], [13, 22]), ([23, 13], [13, 23]), ([18, 24, 13], [13, 18, 24]), ([13, 25], [13, 25]), ([26, 13], [26]), ([27], [27]), ([27], [27]), ([28, 29, 27], [27, 28, 29]), ([30, 27], [27, 30]), ([31, 27], [27, 31]), ([27], [27]), ([27], [27]), ([33, 34, 27], [27, 33, 34]), ([35, 27], [27, 35]), ([36, 27], [27, 36]), ([32, 37, 27], [27, 32, 37]), ([27, 38], [27, 38])])
def same5_B6 : List Nat := [0, 0, 3, 7, 15, 31, 0, 0, 192, 448, 960, 2047, 4095, 8191, 16383, 16383, 65535, 131071, 262143, 16383, 16383, 1589247, 3686399, 7880703, 16269311, 33554431, 67108863, 134217727, 268435455, 268435455, 1073741823, 2147483647, 4294967295, 268435455, 268435455, 26038239231, 60397977599, 129117454335, 274877906943, 549755813887]
theorem same5_tab6 : rtab .any (opsOf Try.f42 6) = same5_T6 := by kernel_rfl
theorem same5_bits6 : waitsOk same5_T6.2 same5_B6 = true := by kernel_rfl
set_option maxHeartbeats 8000000 in
set_option maxRecDepth 100000 in
theorem same5_any (A : Option Addr) (c m : Nat) (xs : List S68) (A' : Option Addr) (c' : Nat) (w : World) (hC : Kd.C k68 w A m xs) (hm : xs.length = m) (hC' : Kd.C k87 w A' m (xs.map of68)) (hok : ∀ q ∈ xs, Ok68 q) (hml : m < 1000000000000) :
    Calls Try.prog 42 #[.slice A m c, .slice A' m c'] w fun e w' => e = .returned (.bool true) ∧ Below w.heap.size w w' := by
  have hu61 := Try.underlying61
  have hu73 := Try.underlying73
  have hu68 := Try.underlying68
  have hu87 := Try.underlying87
  have hu40 := Try.underlying40
  have hu44 := Try.underlying44
  have HC := Aside0.mk hC
  have HC' := Aside0.mk hC'
  have HM := Aside0.mk hm
  have HOK := Aside0.mk hok
  have HB := Aside0.mk (Below.refl w.heap.size w)
  clear hC hC' hm hok
  have hne : ((m : Int) != (m : Int)) = false := by simp
  go_enter Try.func42, Try.ntmps42
  go_wp2
  clear hne
  go_loopg [5] m (fun g s5 W => ∃ k : Nat, k + g = m ∧ s5 = .int .i64 k ∧ Aside0 (Below w.heap.size w W))
  case atStart => exact ⟨0, by omega, rfl, HB⟩
  case round =>
    clear HB
    obtain ⟨k, hkg, rfl, HB⟩ := hrel
    cases gk with
    | zero =>
      have hd : decide ((k : Int) < (m : Int)) = false := by simp; omega
      have hd2 : decide (k < m) = false := by simp; omega
      go_wp2
      go_ret
      exact ⟨rfl, HB.out⟩
    | succ g =>
      have hlt : k < m := by omega
      have hd : decide ((k : Int) < (m : Int)) = true := by simp; omega
      have hd2 : decide (k < m) = true := by simp; omega
      obtain ⟨q, hq⟩ : ∃ q, xs[k]? = some q := ⟨xs[k]'(by rw [HM.out]; exact hlt), List.getElem?_eq_getElem _⟩
      obtain ⟨hqy, hq0, hq1⟩ := HOK.out q (List.mem_of_getElem? hq)
      obtain ⟨ad, A2, c2, rfl, a0, a1, a2, a3, a4, hl2, hc2⟩ := el68 HC.out HM.out k hlt q hq
      obtain ⟨ad', A3, c3, rfl, b0, b1, b2, b3, b4, hl3, hc3⟩ := el87 HC'.out (by rw [List.length_map]; exact HM.out) k hlt (of68 q) (by rw [List.getElem?_map, hq]; rfl)
      obtain ⟨⟨x, y, l⟩, at_, n⟩ := q
      dsimp only [of68] at *
      have HCa0 := Aside0.mk a0
      have HCa1 := Aside0.mk a1
      have HCa2 := Aside0.mk a2
      have HCa3 := Aside0.mk a3
      have HCa4 := Aside0.mk a4
      have HCb0 := Aside0.mk b0
      have HCb1 := Aside0.mk b1
      have HCb2 := Aside0.mk b2
      have HCb3 := Aside0.mk b3
      have HCb4 := Aside0.mk b4
      have HL2 := Aside0.mk hc2
      have HL2c := Aside0.mk hl2
      have HL3 := Aside0.mk hc3
      have HL3c := Aside0.mk hl3
      have HYL := Aside0.mk hqy
      have HSM : Aside0 (sameB x y l x y l = true) := ⟨by simp [sameB]⟩
      have hmod : IntKind.u64.wrap at_ = at_ := by simp [IntKind.wrap, IntKind.signed, IntKind.bits]; omega
      have hn1 : (at_ != at_) = false := by simp
      have hn2 : (n != n) = false := by simp
      have hk0 : (0 : Int) ≤ (k : Int) := by omega
      have hk1 : (k : Int) < (m : Int) := by omega
      have hkt : (k : Int).toNat = k := by omega
      have HQ := Aside0.mk hq
      clear a0 a1 a2 a3 a4 b0 b1 b2 b3 b4 hc2 hl2 hc3 hl3 hqy hq
      go_wp2
      refine start_ (n := 40) (S := fun w' => Below w.heap.size w w') (ds := []) #[false, false, false, false, false, false, false, false, false, false, false, false, false, false, false, false, false, false, false, false, false, false, false, false, false, false, false, false, false, false, false, false, false, false, false, false, false, false, false, false] (by kernel_rfl) rfl rfl (below_drew HB.out) (fun hHeld => ?_)
      refine with_tabW same5_tab6 same5_bits6 (fun HT_ HW_ => ?_)
      refine pure_ (i := 0) (N := some 17) (v := ?_) (a' := ?_) #[true, false, false, false, false, false, false, false, false, false, false, false, false, false, false, false, false, false, false, false, false, false, false, false, false, false, false, false, false, false, false, false, false, false, false, false, false, false, false, false] rfl rfl (any_of HT_.out (by kernel_rfl)) (fun _ _ _ h => h) (Or.inl ⟨by rfl, ?_⟩) ?_ ?_
      rotate_left
      · intro w'
        go_simp
        with_reducible rfl
      rotate_left
      · simp only [Act.put, List.setIfInBounds_toArray, List.set_cons_zero, List.set_cons_succ, i64_w, i32_w]
        rfl
      refine pure_ (i := 1) (N := some 18) (v := ?_) (a' := ?_) #[true, true, false, false, false, false, false, false, false, false, false, false, false, false, false, false, false, false, false, false, false, false, false, false, false, false, false, false, false, false, false, false, false, false, false, false, false, false, false, false] rfl rfl (any_of HT_.out (by kernel_rfl)) (fun _ _ _ h => h) (Or.inl ⟨by rfl, ?_⟩) ?_ ?_
      rotate_left
      · intro w'
        go_simp
        with_reducible rfl
      rotate_left
      · simp only [Act.put, List.setIfInBounds_toArray, List.set_cons_zero, List.set_cons_succ, i64_w, i32_w]
        rfl
      refine pure_ (i := 2) (N := some 19) (v := ?_) (a' := ?_) #[true, true, true, false, false, false, false, false, false, false, false, false, false, false, false, false, false, false, false, false, false, false, false, false, false, false, false, false, false, false, false, false, false, false, false, false, false, false, false, false] rfl rfl (any_of HT_.out (by kernel_rfl)) (fun _ _ _ h => h) (Or.inl ⟨by rfl, ?_⟩) ?_ ?_
      rotate_left
      · intro w'
        go_simp
        with_reducible rfl
      rotate_left
      · simp only [Act.put, List.setIfInBounds_toArray, List.set_cons_zero, List.set_cons_succ, i64_w, i32_w]
        rfl
      refine pure_ (i := 3) (N := some 20) (v := ?_) (a' := ?_) #[true, true, true, true, false, false, false, false, false, false, false, false, false, false, false, false, false, false, false, false, false, false, false, false, false, false, false, false, false, false, false, false, false, false, false, false, false, false, false, false] rfl rfl (any_of HT_.out (by kernel_rfl)) (fun _ _ _ h => h) (Or.inl ⟨by rfl, ?_⟩) ?_ ?_
      rotate_left
      · intro w'
        go_simp
        with_reducible rfl
      rotate_left
      · simp only [Act.put, List.setIfInBounds_toArray, List.set_cons_zero, List.set_cons_succ, i64_w, i32_w]
        rfl
      refine take_ (i := 4) (N := some 21) (v := ?_) (a' := ?_) #[true, true, true, true, true, false, false, false, false, false, false, false, false, false, false, false, false, false, false, false, false, false, false, false, false, false, false, false, false, false, false, false, false, false, false, false, false, false, false, false] rfl rfl (take_ofW HT_.out HW_.out (by kernel_rfl)) (fun _ _ _ h => h) (Or.inl ⟨by rfl, ?_⟩) hHeld ?_ ?_
      rotate_left
      · intro w' s0
        have qa0 := cell_bel HCa0.out s0
        have qa1 := cell_bel HCa1.out s0
        have qa2 := cell_bel HCa2.out s0
        go_simp
        with_reducible rfl
      rotate_left
      · simp only [Act.put, List.setIfInBounds_toArray, List.set_cons_zero, List.set_cons_succ, i64_w, i32_w]
        rfl
      refine pure_ (i := 6) (N := some 23) (v := ?_) (a' := ?_) #[true, true, true, true, true, false, true, false, false, false, false, false, false, false, false, false, false, false, false, false, false, false, false, false, false, false, false, false, false, false, false, false, false, false, false, false, false, false, false, false] rfl rfl (any_of HT_.out (by kernel_rfl)) (fun _ _ _ h => h) (Or.inl ⟨by rfl, ?_⟩) ?_ ?_
      rotate_left
      · intro w'
        go_simp
        with_reducible rfl
      rotate_left
      · simp only [Act.put, List.setIfInBounds_toArray, List.set_cons_zero, List.set_cons_succ, i64_w, i32_w]
        rfl
      refine pure_ (i := 7) (N := some 24) (v := ?_) (a' := ?_) #[true, true, true, true, true, false, true, true, false, false, false, false, false, false, false, false, false, false, false, false, false, false, false, false, false, false, false, false, false, false, false, false, false, false, false, false, false, false, false, false] rfl rfl (any_of HT_.out (by kernel_rfl)) (fun _ _ _ h => h) (Or.inl ⟨by rfl, ?_⟩) ?_ ?_
      rotate_left
      · intro w'
        go_simp
        with_reducible rfl
      rotate_left
      · simp only [Act.put, List.setIfInBounds_toArray, List.set_cons_zero, List.set_cons_succ, i64_w, i32_w]
        rfl
      refine pure_ (i := 8) (N := some 25) (v := ?_) (a' := ?_) #[true, true, true, true, true, false, true, true, true, false, false, false, false, false, false, false, false, false, false, false, false, false, false, false, false, false, false, false, false, false, false, false, false, false, false, false, false, false, false, false] rfl rfl (any_of HT_.out (by kernel_rfl)) (fun _ _ _ h => h) (Or.inl ⟨by rfl, ?_⟩) ?_ ?_
      rotate_left
      · intro w'
        go_simp
        with_reducible rfl
      rotate_left
      · simp only [Act.put, List.setIfInBounds_toArray, List.set_cons_zero, List.set_cons_succ, i64_w, i32_w]
        rfl
      refine pure_ (i := 9) (N := some 26) (v := ?_) (a' := ?_) #[true, true, true, true, true, false, true, true, true, true, false, false, false, false, false, false, false, false, false, false, false, false, false, false, false, false, false, false, false, false, false, false, false, false, false, false, false, false, false, false] rfl rfl (any_of HT_.out (by kernel_rfl)) (fun _ _ _ h => h) (Or.inl ⟨by rfl, ?_⟩) ?_ ?_
      rotate_left
      · intro w'
        go_simp
        with_reducible rfl
      rotate_left
      · simp only [Act.put, List.setIfInBounds_toArray, List.set_cons_zero, List.set_cons_succ, i64_w, i32_w]
        rfl
      refine take_ (i := 10) (N := some 27) (v := ?_) (a' := ?_) #[true, true, true, true, true, false, true, true, true, true, true, false, false, false, false, false, false, false, false, false, false, false, false, false, false, false, false, false, false, false, false, false, false, false, false, false, false, false, false, false] rfl rfl (take_ofW HT_.out HW_.out (by kernel_rfl)) (fun _ _ _ h => h) (Or.inl ⟨by rfl, ?_⟩) hHeld ?_ ?_
      rotate_left
      · intro w' s0
        have qb0 := cell_bel HCb0.out s0
        have qb1 := cell_bel HCb1.out s0
        have qb2 := cell_bel HCb2.out s0
        go_simp
        with_reducible rfl
      rotate_left
      · simp only [Act.put, List.setIfInBounds_toArray, List.set_cons_zero, List.set_cons_succ, i64_w, i32_w]
        rfl
      refine one_ (i := 5) (N := some 22) #[true, true, true, true, true, true, true, true, true, true, true, false, false, false, false, false, false, false, false, false, false, false, false, false, false, false, false, false, false, false, false, false, false, false, false, false, false, false, false, false] rfl rfl (one_of HT_.out (by kernel_rfl)) (by decide) (fun K hK => ?_)
      refine goes_ Try.func29 (by kernel_rfl) rfl #[.agg #[.int .u8 x, .int .u8 y, .slice A2 l.length c2]] (by rfl) rfl rfl (by (try simp only [List.map_toArray, List.map_cons, List.map_nil]); first | done | rfl) ?_
      refine (back_any x y A2 l.length c2 _).mono ?_
      rintro e w11 ⟨rfl, hb⟩
      refine ⟨_, rfl, ?_⟩
      have HB11 := Aside0.mk (below_step hHeld hb)
      clear hb
      refine hK.out _ _ HB11.out (fun hHeld => ?_)
      clear hK K
      refine norm_ (a' := ?_) ?_ ?_
      rotate_left
      · show Act.put _ (some 22) _ = _
        simp only [Act.put, List.setIfInBounds_toArray, List.set_cons_zero, List.set_cons_succ, i64_w, i32_w]
        rfl
      refine one_ (i := 11) (N := some 28) #[true, true, true, true, true, true, true, true, true, true, true, true, false, false, false, false, false, false, false, false, false, false, false, false, false, false, false, false, false, false, false, false, false, false, false, false, false, false, false, false] rfl rfl (one_of HT_.out (by kernel_rfl)) (by decide) (fun K hK => ?_)
      refine goes_ Try.func28 (by kernel_rfl) rfl #[.agg #[.int .u8 x, .int .u8 y, .slice A2 l.length c2], .agg #[.int .u8 x, .int .u8 y, .slice A3 l.length c3]] (by rfl) rfl rfl (by (try simp only [List.map_toArray, List.map_cons, List.map_nil]); first | done | rfl) ?_
      refine (same_any x y A2 c2 l x y A3 c3 l _ (Kd.C_below HL2.out hHeld) HL2c.out (Kd.C_below HL3.out hHeld) HL3c.out HYL.out HYL.out).mono ?_
      rw [HSM.out]
      rintro e w12 ⟨rfl, hb⟩
      refine ⟨_, rfl, ?_⟩
      have HB12 := Aside0.mk (below_step hHeld hb)
      clear hb
      refine hK.out _ _ HB12.out (fun hHeld => ?_)
      clear hK K
      refine norm_ (a' := ?_) ?_ ?_
      rotate_left
      · show Act.put _ (some 28) _ = _
        simp only [Act.put, List.setIfInBounds_toArray, List.set_cons_zero, List.set_cons_succ, i64_w, i32_w]
        rfl
      refine pure_ (i := 12) (N := some 29) (v := ?_) (a' := ?_) #[true, true, true, true, true, true, true, true, true, true, true, true, true, false, false, false, false, false, false, false, false, false, false, false, false, false, false, false, false, false, false, false, false, false, false, false, false, false, false, false] rfl rfl (any_of HT_.out (by kernel_rfl)) (fun _ _ _ h => h) (Or.inl ⟨by rfl, ?_⟩) ?_ ?_
      rotate_left
      · intro w'
        go_simp
        with_reducible rfl
      rotate_left
      · simp only [Act.put, List.setIfInBounds_toArray, List.set_cons_zero, List.set_cons_succ, i64_w, i32_w]
        rfl
      refine pure_ (i := 13) (N := some 30) (v := ?_) (a' := ?_) #[true, true, true, true, true, true, true, true, true, true, true, true, true, true, false, false, false, false, false, false, false, false, false, false, false, false, false, false, false, false, false, false, false, false, false, false, false, false, false, false] rfl rfl (any_of HT_.out (by kernel_rfl)) (fun _ _ _ h => h) (Or.inl ⟨by rfl, ?_⟩) ?_ ?_
      rotate_left
      · intro w'
        go_simp
        with_reducible rfl
      rotate_left
      · simp only [Act.put, List.setIfInBounds_toArray, List.set_cons_zero, List.set_cons_succ, i64_w, i32_w]
        rfl
      refine pure_ (i := 14) (N := some 31) (v := ?_) (a' := ?_) #[true, true, true, true, true, true, true, true, true, true, true, true, true, true, true, false, false, false, false, false, false, false, false, false, false, false, false, false, false, false, false, false, false, false, false, false, false, false, false, false] rfl rfl (any_of HT_.out (by kernel_rfl)) (fun _ _ _ h => h) (Or.inl ⟨by rfl, ?_⟩) ?_ ?_
      rotate_left
      · intro w'
        go_simp
        with_reducible rfl
      rotate_left
      · simp only [Act.put, List.setIfInBounds_toArray, List.set_cons_zero, List.set_cons_succ, i64_w, i32_w]
        rfl
      refine pure_ (i := 15) (N := some 32) (v := ?_) (a' := ?_) #[true, true, true, true, true, true, true, true, true, true, true, true, true, true, true, true, false, false, false, false, false, false, false, false, false, false, false, false, false, false, false, false, false, false, false, false, false, false, false, false] rfl rfl (any_of HT_.out (by kernel_rfl)) (fun _ _ _ h => h) (Or.inl ⟨by rfl, ?_⟩) ?_ ?_
      rotate_left
      · intro w'
        go_simp
        with_reducible rfl
      rotate_left
      · simp only [Act.put, List.setIfInBounds_toArray, List.set_cons_zero, List.set_cons_succ, i64_w, i32_w]
        rfl
      refine pure_ (i := 16) (N := some 33) (v := ?_) (a' := ?_) #[true, true, true, true, true, true, true, true, true, true, true, true, true, true, true, true, true, false, false, false, false, false, false, false, false, false, false, false, false, false, false, false, false, false, false, false, false, false, false, false] rfl rfl (any_of HT_.out (by kernel_rfl)) (fun _ _ _ h => h) (Or.inl ⟨by rfl, ?_⟩) ?_ ?_
      rotate_left
      · intro w'
        go_simp
        with_reducible rfl
      rotate_left
      · simp only [Act.put, List.setIfInBounds_toArray, List.set_cons_zero, List.set_cons_succ, i64_w, i32_w]
        rfl
      refine pure_ (i := 17) (N := some 34) (v := ?_) (a' := ?_) #[true, true, true, true, true, true, true, true, true, true, true, true, true, true, true, true, true, true, false, false, false, false, false, false, false, false, false, false, false, false, false, false, false, false, false, false, false, false, false, false] rfl rfl (any_of HT_.out (by kernel_rfl)) (fun _ _ _ h => h) (Or.inl ⟨by rfl, ?_⟩) ?_ ?_
      rotate_left
      · intro w'
        go_simp
        with_reducible rfl
      rotate_left
      · simp only [Act.put, List.setIfInBounds_toArray, List.set_cons_zero, List.set_cons_succ, i64_w, i32_w]
        rfl
      refine take_ (i := 18) (N := some 35) (v := ?_) (a' := ?_) #[true, true, true, true, true, true, true, true, true, true, true, true, true, true, true, true, true, true, true, false, false, false, false, false, false, false, false, false, false, false, false, false, false, false, false, false, false, false, false, false] rfl rfl (take_ofW HT_.out HW_.out (by kernel_rfl)) (fun _ _ _ h => h) (Or.inl ⟨by rfl, ?_⟩) hHeld ?_ ?_
      rotate_left
      · intro w' s0
        have qa3 := cell_bel HCa3.out s0
        go_simp
        with_reducible rfl
      rotate_left
      · simp only [Act.put, List.setIfInBounds_toArray, List.set_cons_zero, List.set_cons_succ, i64_w, i32_w]
        rfl
      refine pure_ (i := 19) (N := some 36) (v := ?_) (a' := ?_) #[true, true, true, true, true, true, true, true, true, true, true, true, true, true, true, true, true, true, true, true, false, false, false, false, false, false, false, false, false, false, false, false, false, false, false, false, false, false, false, false] rfl rfl (any_of HT_.out (by kernel_rfl)) (fun _ _ _ h => h) (Or.inl ⟨by rfl, ?_⟩) ?_ ?_
      rotate_left
      · intro w'
        go_simp
        with_reducible rfl
      rotate_left
      · simp only [Act.put, List.setIfInBounds_toArray, List.set_cons_zero, List.set_cons_succ, i64_w, i32_w]
        rfl
      refine pure_ (i := 20) (N := some 37) (v := ?_) (a' := ?_) #[true, true, true, true, true, true, true, true, true, true, true, true, true, true, true, true, true, true, true, true, true, false, false, false, false, false, false, false, false, false, false, false, false, false, false, false, false, false, false, false] rfl rfl (any_of HT_.out (by kernel_rfl)) (fun _ _ _ h => h) (Or.inl ⟨by rfl, ?_⟩) ?_ ?_
      rotate_left
      · intro w'
        go_simp
        with_reducible rfl
      rotate_left
      · simp only [Act.put, List.setIfInBounds_toArray, List.set_cons_zero, List.set_cons_succ, i64_w, i32_w]
        rfl
      refine pure_ (i := 21) (N := some 38) (v := ?_) (a' := ?_) #[true, true, true, true, true, true, true, true, true, true, true, true, true, true, true, true, true, true, true, true, true, true, false, false, false, false, false, false, false, false, false, false, false, false, false, false, false, false, false, false] rfl rfl (any_of HT_.out (by kernel_rfl)) (fun _ _ _ h => h) (Or.inl ⟨by rfl, ?_⟩) ?_ ?_
      rotate_left
      · intro w'
        go_simp
        with_reducible rfl
      rotate_left
      · simp only [Act.put, List.setIfInBounds_toArray, List.set_cons_zero, List.set_cons_succ, i64_w, i32_w]
        rfl
      refine pure_ (i := 22) (N := some 39) (v := ?_) (a' := ?_) #[true, true, true, true, true, true, true, true, true, true, true, true, true, true, true, true, true, true, true, true, true, true, true, false, false, false, false, false, false, false, false, false, false, false, false, false, false, false, false, false] rfl rfl (any_of HT_.out (by kernel_rfl)) (fun _ _ _ h => h) (Or.inl ⟨by rfl, ?_⟩) ?_ ?_
      rotate_left
      · intro w'
        go_simp
        with_reducible rfl
      rotate_left
      · simp only [Act.put, List.setIfInBounds_toArray, List.set_cons_zero, List.set_cons_succ, i64_w, i32_w]
        rfl
      refine take_ (i := 23) (N := some 40) (v := ?_) (a' := ?_) #[true, true, true, true, true, true, true, true, true, true, true, true, true, true, true, true, true, true, true, true, true, true, true, true, false, false, false, false, false, false, false, false, false, false, false, false, false, false, false, false] rfl rfl (take_ofW HT_.out HW_.out (by kernel_rfl)) (fun _ _ _ h => h) (Or.inl ⟨by rfl, ?_⟩) hHeld ?_ ?_
      rotate_left
      · intro w' s0
        have qb3 := cell_bel HCb3.out s0
        go_simp
        with_reducible rfl
      rotate_left
      · simp only [Act.put, List.setIfInBounds_toArray, List.set_cons_zero, List.set_cons_succ, i64_w, i32_w]
        rfl
      refine pure_ (i := 24) (N := some 41) (v := ?_) (a' := ?_) #[true, true, true, true, true, true, true, true, true, true, true, true, true, true, true, true, true, true, true, true, true, true, true, true, true, false, false, false, false, false, false, false, false, false, false, false, false, false, false, false] rfl rfl (any_of HT_.out (by kernel_rfl)) (fun _ _ _ h => h) (Or.inl ⟨by rfl, ?_⟩) ?_ ?_
      rotate_left
      · intro w'
        go_simp
        with_reducible rfl
      rotate_left
      · simp only [Act.put, List.setIfInBounds_toArray, List.set_cons_zero, List.set_cons_succ, i64_w, i32_w]
        rfl
      refine pure_ (i := 25) (N := some 42) (v := ?_) (a' := ?_) #[true, true, true, true, true, true, true, true, true, true, true, true, true, true, true, true, true, true, true, true, true, true, true, true, true, true, false, false, false, false, false, false, false, false, false, false, false, false, false, false] rfl rfl (any_of HT_.out (by kernel_rfl)) (fun _ _ _ h => h) (Or.inl ⟨by rfl, ?_⟩) ?_ ?_
      rotate_left
      · intro w'
        go_simp
        with_reducible rfl
      rotate_left
      · simp only [Act.put, List.setIfInBounds_toArray, List.set_cons_zero, List.set_cons_succ, i64_w, i32_w]
        rfl
      refine pure_ (i := 26) (N := some 43) (v := ?_) (a' := ?_) #[true, true, true, true, true, true, true, true, true, true, true, true, true, true, true, true, true, true, true, true, true, true, true, true, true, true, true, false, false, false, false, false, false, false, false, false, false, false, false, false] rfl rfl (any_of HT_.out (by kernel_rfl)) (fun _ _ _ h => h) (Or.inl ⟨by rfl, ?_⟩) ?_ ?_
      rotate_left
      · intro w'
        go_simp
        with_reducible rfl
      rotate_left
      · simp only [Act.put, List.setIfInBounds_toArray, List.set_cons_zero, List.set_cons_succ, i64_w, i32_w]
        rfl
      refine pure_ (i := 27) (N := some 44) (v := ?_) (a' := ?_) #[true, true, true, true, true, true, true, true, true, true, true, true, true, true, true, true, true, true, true, true, true, true, true, true, true, true, true, true, false, false, false, false, false, false, false, false, false, false, false, false] rfl rfl (any_of HT_.out (by kernel_rfl)) (fun _ _ _ h => h) (Or.inl ⟨by rfl, ?_⟩) ?_ ?_
      rotate_left
      · intro w'
        go_simp
        with_reducible rfl
      rotate_left
      · simp only [Act.put, List.setIfInBounds_toArray, List.set_cons_zero, List.set_cons_succ, i64_w, i32_w]
        rfl
      refine pure_ (i := 28) (N := some 45) (v := ?_) (a' := ?_) #[true, true, true, true, true, true, true, true, true, true, true, true, true, true, true, true, true, true, true, true, true, true, true, true, true, true, true, true, true, false, false, false, false, false, false, false, false, false, false, false] rfl rfl (any_of HT_.out (by kernel_rfl)) (fun _ _ _ h => h) (Or.inl ⟨by rfl, ?_⟩) ?_ ?_
      rotate_left
      · intro w'
        go_simp
        with_reducible rfl
      rotate_left
      · simp only [Act.put, List.setIfInBounds_toArray, List.set_cons_zero, List.set_cons_succ, i64_w, i32_w]
        rfl
      refine pure_ (i := 29) (N := some 46) (v := ?_) (a' := ?_) #[true, true, true, true, true, true, true, true, true, true, true, true, true, true, true, true, true, true, true, true, true, true, true, true, true, true, true, true, true, true, false, false, false, false, false, false, false, false, false, false] rfl rfl (any_of HT_.out (by kernel_rfl)) (fun _ _ _ h => h) (Or.inl ⟨by rfl, ?_⟩) ?_ ?_
      rotate_left
      · intro w'
        go_simp
        with_reducible rfl
      rotate_left
      · simp only [Act.put, List.setIfInBounds_toArray, List.set_cons_zero, List.set_cons_succ, i64_w, i32_w]
        rfl
      refine pure_ (i := 30) (N := some 47) (v := ?_) (a' := ?_) #[true, true, true, true, true, true, true, true, true, true, true, true, true, true, true, true, true, true, true, true, true, true, true, true, true, true, true, true, true, true, true, false, false, false, false, false, false, false, false, false] rfl rfl (any_of HT_.out (by kernel_rfl)) (fun _ _ _ h => h) (Or.inl ⟨by rfl, ?_⟩) ?_ ?_
      rotate_left
      · intro w'
        go_simp
        with_reducible rfl
      rotate_left
      · simp only [Act.put, List.setIfInBounds_toArray, List.set_cons_zero, List.set_cons_succ, i64_w, i32_w]
        rfl
      refine pure_ (i := 31) (N := some 48) (v := ?_) (a' := ?_) #[true, true, true, true, true, true, true, true, true, true, true, true, true, true, true, true, true, true, true, true, true, true, true, true, true, true, true, true, true, true, true, true, false, false, false, false, false, false, false, false] rfl rfl (any_of HT_.out (by kernel_rfl)) (fun _ _ _ h => h) (Or.inl ⟨by rfl, ?_⟩) ?_ ?_
      rotate_left
      · intro w'
        go_simp
        with_reducible rfl
      rotate_left
      · simp only [Act.put, List.setIfInBounds_toArray, List.set_cons_zero, List.set_cons_succ, i64_w, i32_w]
        rfl
      refine take_ (i := 32) (N := some 49) (v := ?_) (a' := ?_) #[true, true, true, true, true, true, true, true, true, true, true, true, true, true, true, true, true, true, true, true, true, true, true, true, true, true, true, true, true, true, true, true, true, false, false, false, false, false, false, false] rfl rfl (take_ofW HT_.out HW_.out (by kernel_rfl)) (fun _ _ _ h => h) (Or.inl ⟨by rfl, ?_⟩) hHeld ?_ ?_
      rotate_left
      · intro w' s0
        have qa4 := cell_bel HCa4.out s0
        go_simp
        with_reducible rfl
      rotate_left
      · simp only [Act.put, List.setIfInBounds_toArray, List.set_cons_zero, List.set_cons_succ, i64_w, i32_w]
        rfl
      refine pure_ (i := 33) (N := some 50) (v := ?_) (a' := ?_) #[true, true, true, true, true, true, true, true, true, true, true, true, true, true, true, true, true, true, true, true, true, true, true, true, true, true, true, true, true, true, true, true, true, true, false, false, false, false, false, false] rfl rfl (any_of HT_.out (by kernel_rfl)) (fun _ _ _ h => h) (Or.inl ⟨by rfl, ?_⟩) ?_ ?_
      rotate_left
      · intro w'
        go_simp
        with_reducible rfl
      rotate_left
      · simp only [Act.put, List.setIfInBounds_toArray, List.set_cons_zero, List.set_cons_succ, i64_w, i32_w]
        rfl
      refine pure_ (i := 34) (N := some 51) (v := ?_) (a' := ?_) #[true, true, true, true, true, true, true, true, true, true, true, true, true, true, true, true, true, true, true, true, true, true, true, true, true, true, true, true, true, true, true, true, true, true, true, false, false, false, false, false] rfl rfl (any_of HT_.out (by kernel_rfl)) (fun _ _ _ h => h) (Or.inl ⟨by rfl, ?_⟩) ?_ ?_
      rotate_left
      · intro w'
        go_simp
        with_reducible rfl
      rotate_left
      · simp only [Act.put, List.setIfInBounds_toArray, List.set_cons_zero, List.set_cons_succ, i64_w, i32_w]
        rfl
      refine pure_ (i := 35) (N := some 52) (v := ?_) (a' := ?_) #[true, true, true, true, true, true, true, true, true, true, true, true, true, true, true, true, true, true, true, true, true, true, true, true, true, true, true, true, true, true, true, true, true, true, true, true, false, false, false, false] rfl rfl (any_of HT_.out (by kernel_rfl)) (fun _ _ _ h => h) (Or.inl ⟨by rfl, ?_⟩) ?_ ?_
      rotate_left
      · intro w'
        go_simp
        with_reducible rfl
      rotate_left
      · simp only [Act.put, List.setIfInBounds_toArray, List.set_cons_zero, List.set_cons_succ, i64_w, i32_w]
        rfl
      refine pure_ (i := 36) (N := some 53) (v := ?_) (a' := ?_) #[true, true, true, true, true, true, true, true, true, true, true, true, true, true, true, true, true, true, true, true, true, true, true, true, true, true, true, true, true, true, true, true, true, true, true, true, true, false, false, false] rfl rfl (any_of HT_.out (by kernel_rfl)) (fun _ _ _ h => h) (Or.inl ⟨by rfl, ?_⟩) ?_ ?_
      rotate_left
      · intro w'
        go_simp
        with_reducible rfl
      rotate_left
      · simp only [Act.put, List.setIfInBounds_toArray, List.set_cons_zero, List.set_cons_succ, i64_w, i32_w]
        rfl
      refine take_ (i := 37) (N := some 54) (v := ?_) (a' := ?_) #[true, true, true, true, true, true, true, true, true, true, true, true, true, true, true, true, true, true, true, true, true, true, true, true, true, true, true, true, true, true, true, true, true, true, true, true, true, true, false, false] rfl rfl (take_ofW HT_.out HW_.out (by kernel_rfl)) (fun _ _ _ h => h) (Or.inl ⟨by rfl, ?_⟩) hHeld ?_ ?_
      rotate_left
      · intro w' s0
        have qb4 := cell_bel HCb4.out s0
        go_simp
        with_reducible rfl
      rotate_left
      · simp only [Act.put, List.setIfInBounds_toArray, List.set_cons_zero, List.set_cons_succ, i64_w, i32_w]
        rfl
      refine pure_ (i := 38) (N := some 55) (v := ?_) (a' := ?_) #[true, true, true, true, true, true, true, true, true, true, true, true, true, true, true, true, true, true, true, true, true, true, true, true, true, true, true, true, true, true, true, true, true, true, true, true, true, true, true, false] rfl rfl (any_of HT_.out (by kernel_rfl)) (fun _ _ _ h => h) (Or.inl ⟨by rfl, ?_⟩) ?_ ?_
      rotate_left
      · intro w'
        go_simp
        with_reducible rfl
      rotate_left
      · simp only [Act.put, List.setIfInBounds_toArray, List.set_cons_zero, List.set_cons_succ, i64_w, i32_w]
        rfl
      refine pure_ (i := 39) (N := some 56) (v := ?_) (a' := ?_) #[true, true, true, true, true, true, true, true, true, true, true, true, true, true, true, true, true, true, true, true, true, true, true, true, true, true, true, true, true, true, true, true, true, true, true, true, true, true, true, true] rfl rfl (any_of HT_.out (by kernel_rfl)) (fun _ _ _ h => h) (Or.inl ⟨by rfl, ?_⟩) ?_ ?_
      rotate_left
      · intro w'
        go_simp
        with_reducible rfl
      rotate_left
      · simp only [Act.put, List.setIfInBounds_toArray, List.set_cons_zero, List.set_cons_succ, i64_w, i32_w]
        rfl
      refine done_ (done_of HT_.out (by kernel_rfl)) ?_
      go_wp2
      go_roundg g
      case measure => omega
      case rel => exact ⟨k + 1, by omega, by first | rfl | simp, HB12⟩
end Go.Proofs.Ytonbphiaideleaa.M
-- Text of this seat, by a program, out of the translation (print): lacunaref04.Make.
namespace Go.Proofs.Ytonbphiaideleaa.PC
open Go.RowKit Go.Proofs.YtonbphiaideleaaW.PrintWords Go.Proofs.YtonbphiaideleaaW.PrintLast Go.Proofs.YtonbphiaideleaaW.PrintMore
attribute [local go_sem] max2_int min2_int max_two min_two max_three min_three max_four min_four   -- for this text's walks alone
set_option linter.unusedVariables false
set_option linter.unusedSimpArgs false

/-! ### lacunaref04_Make: function 34 -/
def lacunaref04_Make.f (k : Nat) (a0_0 : Int) (a0_1 : Int) (l0_2 : List Int) : Option (List Int × Int) := (lacunaref04_Right.f k a0_0 a0_1 l0_2).bind fun t104 => (if t104 = 0 then ((some (([76, 103, a0_0, a0_1, (l0_2.length : Int) % 256, (wrap64 ((l0_2.length : Int) / 256)) % 256] : List Int) : List Int)).bind fun y105 => (if y105.length + l0_2.length < 140737488355328 then ((lacunaref03_Sign.f (y105 ++ l0_2)).bind fun t111 => (some (t111, 0))) else (none))) else (some (([] : List Int), t104)))
theorem lacunaref04_Make.mono : ∀ a0 a1 a2 k, LeO (lacunaref04_Make.f k a0 a1 a2) (lacunaref04_Make.f (k + 1) a0 a1 a2) := by
  intro a0 a1 a2 k
  unfold lacunaref04_Make.f
  repeat' first
      | (with_reducible exact lacunaref04_Right.mono _ _ _ _)
      | (with_reducible exact LeO.refl _)
      | (with_reducible exact LeO.none _)
      | (with_reducible refine LeO.ite ?_ ?_)
      | (with_reducible refine LeO.bind ?_ (fun _ => ?_))
      | exact lacunaref04_Right.mono _ _ _ _
      | exact LeO.none _
      | refine LeO.ite ?_ ?_
      | refine LeO.bind ?_ (fun _ => ?_)
set_option maxHeartbeats 8000000 in
set_option maxRecDepth 100000 in
theorem lacunaref04_Make.calls (k : Nat) (a0_0 : Int) (a0_1 : Int) (A0_2 : Option Addr) (c0_2 : Nat) (l0_2 : List Int) (r1 : List Int) (r2 : Int) (w : World) (hr0_2 : Kd.C (Kd.int .u8) w A0_2 l0_2.length l0_2) (hc0_2 : l0_2.length ≤ c0_2) (h : lacunaref04_Make.f k a0_0 a0_1 l0_2 = some (r1, r2)) :
    Calls Try.prog 34 #[.agg #[.int .u8 a0_0, .int .u8 a0_1, .slice A0_2 l0_2.length c0_2]] w fun e w' => ∃ v0_ : Value, e = .returned (.tuple #[v0_, .int .i64 r2]) ∧ Kd.R (Kd.int .u8) 5 w' w.heap.size (fun _ => True) v0_ r1 ∧ Below w.heap.size w w' := by
  have hu44 := Try.underlying44
  have HR0_2 := Aside0.mk hr0_2
  have HC0_2 := Aside0.mk hc0_2
  clear hr0_2 hc0_2
  have HB := Aside0.mk (Below.refl w.heap.size w)
  have H : ((lacunaref04_Right.f k a0_0 a0_1 l0_2).bind fun t104 => (if t104 = 0 then ((some (([76, 103, a0_0, a0_1, (l0_2.length : Int) % 256, (wrap64 ((l0_2.length : Int) / 256)) % 256] : List Int) : List Int)).bind fun y105 => (if y105.length + l0_2.length < 140737488355328 then ((lacunaref03_Sign.f (y105 ++ l0_2)).bind fun t111 => (some (t111, 0))) else (none))) else (some (([] : List Int), t104)))) = some (r1, r2) := h
  clear h
  replace H := Option.bind_eq_some_iff.mp H
  obtain ⟨t104, A20, H⟩ := H
  replace H : (if t104 = 0 then ((some (([76, 103, a0_0, a0_1, (l0_2.length : Int) % 256, (wrap64 ((l0_2.length : Int) / 256)) % 256] : List Int) : List Int)).bind fun y105 => (if y105.length + l0_2.length < 140737488355328 then ((lacunaref03_Sign.f (y105 ++ l0_2)).bind fun t111 => (some (t111, 0))) else (none))) else (some (([] : List Int), t104))) = some (r1, r2) := H
  have A2 := Aside0.mk A20
  clear A20
  by_cases c3 : t104 = 0
  · rw [if_pos c3] at H
    have c3b0 : (t104 == 0) = true := beq_iff_eq.mpr c3
    have c3b1 : (t104 != 0) = false := bne_eq_false_iff_eq.mpr c3
    clear c3
    obtain ⟨y105, hy105⟩ : ∃ y_ : List Int, y_ = (([76, 103, a0_0, a0_1, (l0_2.length : Int) % 256, (wrap64 ((l0_2.length : Int) / 256)) % 256] : List Int)) := ⟨_, rfl⟩
    replace H : (if y105.length + l0_2.length < 140737488355328 then ((lacunaref03_Sign.f (y105 ++ l0_2)).bind fun t111 => (some (t111, 0))) else (none)) = some (r1, r2) := by first | (rw [hy105]; with_reducible exact H) | (have H2_ := (Option.bind_some _ _).symm.trans H; rw [hy105]; with_reducible exact H2_) | (have H2_ := (Option.bind_some _ _).symm.trans H; with_reducible exact H2_) | with_reducible exact H | (rw [hy105]; exact H) | exact H
    have Ny105 := Aside0.mk hy105
    clear hy105
    by_cases c4 : y105.length + l0_2.length < 140737488355328
    · rw [if_pos c4] at H
      have LMc4 := Aside0.mk c4
      clear c4
      obtain ⟨y108, hy108⟩ : ∃ y_ : List Int, y_ = (y105 ++ l0_2) := ⟨_, rfl⟩
      replace H : ((lacunaref03_Sign.f y108).bind fun t111 => (some (t111, 0))) = some (r1, r2) := by first | (rw [hy108]; with_reducible exact H) | (have H2_ := (Option.bind_some _ _).symm.trans H; rw [hy108]; with_reducible exact H2_) | (have H2_ := (Option.bind_some _ _).symm.trans H; with_reducible exact H2_) | with_reducible exact H | (rw [hy108]; exact H) | exact H
      have Ny108 := Aside0.mk hy108
      clear hy108
      replace H := Option.bind_eq_some_iff.mp H
      obtain ⟨t111, A50, H⟩ := H
      replace H : (some (t111, 0)) = some (r1, r2) := H
      have A5 := Aside0.mk A50
      clear A50
      simp only [Option.some.injEq, Prod.mk.injEq] at H
      obtain ⟨rfl, rfl⟩ := H
      go_enter Try.func34, Try.ntmps34
      go_wp2_with (first | ((with_reducible refine gate_dst (N := 1) rfl ?_); refine box_event ?hg (N := 1) ?hd (cs := #[.int .u8 a0_0, .int .u8 a0_1, .slice A0_2 l0_2.length c0_2]) (t := 44) ?hr ?_; (case hd => rfl); (case hg => rfl); (case hr => first | (go_simp; done) | (go_simp; rfl)); intro gb103 hg w6 hbox hb; have n0_ := Aside0.mk (below_step (by repeat (first | (with_reducible first | exact HB.out | apply below_alloc | apply pw_below_drewN | apply below_drew1) | exact HB.out)) hb); have n1_ := Aside0.mk (hbox); have n2_ := Aside0.mk ((by rw [hg]; exact (below_size (by repeat (first | (with_reducible first | exact HB.out | apply below_alloc | apply pw_below_drewN | apply below_drew1) | exact HB.out))) : w.heap.size ≤ gb103)); have n3_ := Aside0.mk ((by rw [hg]; exact (below_size (by repeat (first | (with_reducible first | exact HB.out | apply below_alloc | apply pw_below_drewN | apply below_drew1) | exact HB.out))) : w.heap.size ≤ gb103)); clear HB; have HB := n0_; have BK103 := n1_; have GW103 := n2_; have GE103 := n3_; clear n0_ n1_ n2_ n3_; clear hb hbox hg; have hcz7_0 : w6.cell? ⟨gb103, 0, none⟩ = some (.int .u8 a0_0) := (blk_cell BK103.out 0).trans rfl; have hcz7_1 : w6.cell? ⟨gb103, 1, none⟩ = some (.int .u8 a0_1) := (blk_cell BK103.out 1).trans rfl; have hcz7_2 : w6.cell? ⟨gb103, 2, none⟩ = some (.slice A0_2 l0_2.length c0_2) := (blk_cell BK103.out 2).trans rfl; have hfz7_0 := blk_frozen BK103.out 0; have hfz7_1 := blk_frozen BK103.out 1; have hfz7_2 := blk_frozen BK103.out 2) | ((with_reducible refine gate_callee (f := 31) rfl ?_); refine goesL_ (some 8) rfl rfl Try.func31 (by kernel_rfl) rfl #[.agg #[.int .u8 a0_0, .int .u8 a0_1, .slice A0_2 l0_2.length c0_2]] rfl (by (try simp only [List.map_toArray, List.map_cons, List.map_nil]); first | done | rfl | (simp only [List.length_drop, List.length_take]; rfl)) ?_; (with_reducible refine (lacunaref04_Right.calls k a0_0 a0_1 _ _ l0_2 t104 _ ?side1 ?side2 A2.out).mono ?_); (case side1 => repeat (first | exact (Kd.C_below HR0_2.out HB.out) | (with_reducible refine Kd.C_alloc ?_ _) | (with_reducible refine Kd.C_drewN ?_ _) | (with_reducible refine Kd.C_drew ?_))); (case side2 => exact HC0_2.out); rintro e w8 ⟨rfl, hb⟩; refine ⟨_, rfl, ?_⟩; have n0_ := Aside0.mk (blk_below (g := gb103) (o := .cells #[.int .u8 a0_0, .int .u8 a0_1, .slice A0_2 l0_2.length c0_2] 44 (0, 0)) (by (with_reducible repeat (first | refine blk_drewN ?_ _ | refine blk_drew ?_ | refine blk_alloc ?_ _)); exact BK103.out) hb); have n1_ := Aside0.mk (below_step (by repeat (first | (with_reducible first | exact HB.out | apply below_alloc | apply pw_below_drewN | apply below_drew1 | refine below_set ?_ GE103.out) | exact HB.out)) hb); clear BK103; clear HB; have BK103 := n0_; have HB := n1_; clear n0_ n1_; (try clear hb); (try clear hb2); (try clear hk); (try clear hi); have hcz9_0 : w8.cell? ⟨gb103, 0, none⟩ = some (.int .u8 a0_0) := (blk_cell BK103.out 0).trans rfl; have hcz9_1 : w8.cell? ⟨gb103, 1, none⟩ = some (.int .u8 a0_1) := (blk_cell BK103.out 1).trans rfl; have hcz9_2 : w8.cell? ⟨gb103, 2, none⟩ = some (.slice A0_2 l0_2.length c0_2) := (blk_cell BK103.out 2).trans rfl; have hfz9_0 := blk_frozen BK103.out 0; have hfz9_1 := blk_frozen BK103.out 1; have hfz9_2 := blk_frozen BK103.out 2) | ((with_reducible refine gate_dst (N := 25) rfl ?_); refine Kd.R_lit (Kd.int .u8) _ 5 ?hg (N := 25) ?hd (xs := ([76, 103, a0_0, a0_1, (l0_2.length : Int) % 256, (wrap64 ((l0_2.length : Int) / 256)) % 256] : List Int)) (inner := [.int .u8 76, .int .u8 103, .int .u8 a0_0, .int .u8 a0_1, .int .u8 ((l0_2.length : Int) % 256), .int .u8 ((wrap64 ((l0_2.length : Int) / 256)) % 256)]) (ok := fun _ => True) (okp := fun _ => True) ?hr ?hp (fun _ hk => hk) trivial (Below.refl _ _) (Nat.le_refl _) (by simp) ?_; (case hd => rfl); (case hg => rfl); (case hr => first | (go_simp; done) | (go_simp; rfl)); (case hp => exact (Reps.one (show Kd.M (Kd.int .u8) _ _ _ 76 [.int .u8 76] from rfl) (Reps.one (show Kd.M (Kd.int .u8) _ _ _ 103 [.int .u8 103] from rfl) (Reps.one (show Kd.M (Kd.int .u8) _ _ _ a0_0 [.int .u8 a0_0] from rfl) (Reps.one (show Kd.M (Kd.int .u8) _ _ _ a0_1 [.int .u8 a0_1] from rfl) (Reps.one (show Kd.M (Kd.int .u8) _ _ _ ((l0_2.length : Int) % 256) [.int .u8 ((l0_2.length : Int) % 256)] from rfl) (Reps.one (show Kd.M (Kd.int .u8) _ _ _ ((wrap64 ((l0_2.length : Int) / 256)) % 256) [.int .u8 ((wrap64 ((l0_2.length : Int) / 256)) % 256)] from rfl) (Reps.none _ _)))))))); intro v106 w10 ho11 hb hg_ hnew_; clear hg_ hnew_; (first | rw [← Ny105.out] at ho11 | (simp only [Int.reduceToNat] at ho11; rw [← Ny105.out] at ho11)); have n0_ := Aside0.mk (Kd.R_lower ho11 (below_size (by repeat (first | (with_reducible first | exact HB.out | apply below_alloc | apply pw_below_drewN | apply below_drew1 | refine below_set ?_ GE103.out) | exact HB.out)))); have n1_ := Aside0.mk (blk_below (g := gb103) (o := .cells #[.int .u8 a0_0, .int .u8 a0_1, .slice A0_2 l0_2.length c0_2] 44 (0, 0)) (by (with_reducible repeat (first | refine blk_drewN ?_ _ | refine blk_drew ?_ | refine blk_alloc ?_ _)); exact BK103.out) hb); have n2_ := Aside0.mk (below_step (by repeat (first | (with_reducible first | exact HB.out | apply below_alloc | apply pw_below_drewN | apply below_drew1 | refine below_set ?_ GE103.out) | exact HB.out)) hb); clear BK103; clear HB; have HO107 := n0_; have BK103 := n1_; have HB := n2_; clear n0_ n1_ n2_; clear hb ho11; have hcz12_0 : w10.cell? ⟨gb103, 0, none⟩ = some (.int .u8 a0_0) := (blk_cell BK103.out 0).trans rfl; have hcz12_1 : w10.cell? ⟨gb103, 1, none⟩ = some (.int .u8 a0_1) := (blk_cell BK103.out 1).trans rfl; have hcz12_2 : w10.cell? ⟨gb103, 2, none⟩ = some (.slice A0_2 l0_2.length c0_2) := (blk_cell BK103.out 2).trans rfl; have hfz12_0 := blk_frozen BK103.out 0; have hfz12_1 := blk_frozen BK103.out 1; have hfz12_2 := blk_frozen BK103.out 2) | ((with_reducible refine gate_builtin (b := .append) (xs := #[.tmp 26, .tmp 28]) rfl ?_); at_builtin; refine Kd.R_append_rows (Kd.int .u8) (w0 := w) w.heap.size rfl (.tmp 26) (.tmp 28) 23 5 (.int .u8 0) 1 rfl Try.underlying23 info5 rfl (by decide) (by omega) v106 y105 l0_2 _ _ _ (fun _ => True) (fun _ => False) rfl rfl ?aO ?aR (fun _ _ h => h) (fun _ h => h.elim) ?aF ?aB ?aS ?aL ?_; (case aR => repeat (first | exact (Kd.C_below HR0_2.out HB.out) | (with_reducible refine Kd.C_alloc ?_ _) | (with_reducible refine Kd.C_drewN ?_ _) | (with_reducible refine Kd.C_drew ?_))); (case aB => exact (by repeat (first | (with_reducible first | exact HB.out | apply below_alloc | apply pw_below_drewN | apply below_drew1 | refine below_set ?_ GE103.out) | exact HB.out))); (case aF => exact (fun _ _ => trivial)); (case aO => exact (by (with_reducible repeat (first | apply Kd.R_alloc | apply Kd.R_drewN | apply Kd.R_drew)); exact HO107.out)); (case aS => exact (below_size (by repeat (first | (with_reducible first | exact HB.out | apply below_alloc | apply pw_below_drewN | apply below_drew1 | refine below_set ?_ GE103.out) | exact HB.out)))); (case aL => have := LMc4.out; omega); intro v109 w13 ho hb hg hat; rw [← Ny108.out] at ho; have n0_ := Aside0.mk (blk_grown (g := gb103) (o := .cells #[.int .u8 a0_0, .int .u8 a0_1, .slice A0_2 l0_2.length c0_2] 44 (0, 0)) (by (with_reducible repeat (first | refine blk_drewN ?_ _ | refine blk_drew ?_ | refine blk_alloc ?_ _)); exact BK103.out) hg (Kd.R_ne HO107.out BK103.out (by decide))); have n1_ := Aside0.mk (hb); have n2_ := Aside0.mk (ho); clear BK103; clear HB; clear HO107; have BK103 := n0_; have HB := n1_; have HO110 := n2_; clear n0_ n1_ n2_; clear ho hb hg hat; obtain ⟨Ao14, co14, eo14⟩ := Kd.R_slice HO110.out; subst eo14) | ((with_reducible refine gate_callee (f := 22) rfl ?_); refine goesL_ (some 30) rfl rfl Try.func22 (by kernel_rfl) rfl #[.slice Ao14 y108.length co14] rfl (by (try simp only [List.map_toArray, List.map_cons, List.map_nil]); first | done | rfl | (simp only [List.length_drop, List.length_take]; rfl)) ?_; (with_reducible refine (lacunaref03_Sign.calls _ _ y108 t111 _ ?side1 ?side2 A5.out).mono ?_); (case side1 => repeat (first | exact (Kd.R_reads' HO110.out).2.2 | (with_reducible refine Kd.C_alloc ?_ _) | (with_reducible refine Kd.C_drewN ?_ _) | (with_reducible refine Kd.C_drew ?_))); (case side2 => exact (Kd.R_reads' HO110.out).2.1); rintro e w15 ⟨v112, rfl, ho0, hb⟩; refine ⟨_, rfl, ?_⟩; have n0_ := Aside0.mk (Kd.R_elder' (by (with_reducible repeat (first | apply Kd.R_alloc | apply Kd.R_drewN | apply Kd.R_drew)); exact HO110.out) (Kd.R_base ho0) hb); have n1_ := Aside0.mk (Kd.R_lower (Kd.R_new' ho0 (Kd.R_lt (by (with_reducible repeat (first | apply Kd.R_alloc | apply Kd.R_drewN | apply Kd.R_drew)); exact HO110.out))) (below_size (by repeat (first | (with_reducible first | exact HB.out | apply below_alloc | apply pw_below_drewN | apply below_drew1 | refine below_set ?_ GE103.out) | exact HB.out)))); have n2_ := Aside0.mk (blk_below (g := gb103) (o := .cells #[.int .u8 a0_0, .int .u8 a0_1, .slice A0_2 l0_2.length c0_2] 44 (0, 0)) (by (with_reducible repeat (first | refine blk_drewN ?_ _ | refine blk_drew ?_ | refine blk_alloc ?_ _)); exact BK103.out) hb); have n3_ := Aside0.mk (below_step (by repeat (first | (with_reducible first | exact HB.out | apply below_alloc | apply pw_below_drewN | apply below_drew1 | refine below_set ?_ GE103.out) | exact HB.out)) hb); clear HO110; clear BK103; clear HB; have HO110 := n0_; have HO113 := n1_; have BK103 := n2_; have HB := n3_; clear n0_ n1_ n2_ n3_; (try clear hb); (try clear hb2); (try clear hk); (try clear hi); (try clear ho0)))
      go_ret2
      exact ⟨_, by first | rfl | (simp [errW_none, errW_some] <;> rfl) | (simp [*, errW_none, errW_some] <;> rfl), by (with_reducible repeat (first | apply Kd.R_alloc | apply Kd.R_drewN | apply Kd.R_drew)); exact Kd.R_mono HO113.out (fun _ hk => trivial), by repeat (first | (with_reducible first | exact HB.out | apply below_alloc | apply pw_below_drewN | apply below_drew1 | refine below_set ?_ GE103.out) | exact HB.out)⟩
    · rw [if_neg c4] at H
      exact absurd H (by simp)
  · rw [if_neg c3] at H
    have c3b0 : (t104 == 0) = false := beq_eq_false_iff_ne.mpr c3
    have c3b1 : (t104 != 0) = true := bne_iff_ne.mpr c3
    simp only [Option.some.injEq, Prod.mk.injEq] at H
    obtain ⟨rfl, rfl⟩ := H
    go_enter Try.func34, Try.ntmps34
    go_wp2_with (first | ((with_reducible refine gate_dst (N := 1) rfl ?_); refine box_event ?hg (N := 1) ?hd (cs := #[.int .u8 a0_0, .int .u8 a0_1, .slice A0_2 l0_2.length c0_2]) (t := 44) ?hr ?_; (case hd => rfl); (case hg => rfl); (case hr => first | (go_simp; done) | (go_simp; rfl)); intro gb103 hg w16 hbox hb; have n0_ := Aside0.mk (below_step (by repeat (first | (with_reducible first | exact HB.out | apply below_alloc | apply pw_below_drewN | apply below_drew1) | exact HB.out)) hb); have n1_ := Aside0.mk (hbox); have n2_ := Aside0.mk ((by rw [hg]; exact (below_size (by repeat (first | (with_reducible first | exact HB.out | apply below_alloc | apply pw_below_drewN | apply below_drew1) | exact HB.out))) : w.heap.size ≤ gb103)); have n3_ := Aside0.mk ((by rw [hg]; exact (below_size (by repeat (first | (with_reducible first | exact HB.out | apply below_alloc | apply pw_below_drewN | apply below_drew1) | exact HB.out))) : w.heap.size ≤ gb103)); clear HB; have HB := n0_; have BK103 := n1_; have GW103 := n2_; have GE103 := n3_; clear n0_ n1_ n2_ n3_; clear hb hbox hg; have hcz17_0 : w16.cell? ⟨gb103, 0, none⟩ = some (.int .u8 a0_0) := (blk_cell BK103.out 0).trans rfl; have hcz17_1 : w16.cell? ⟨gb103, 1, none⟩ = some (.int .u8 a0_1) := (blk_cell BK103.out 1).trans rfl; have hcz17_2 : w16.cell? ⟨gb103, 2, none⟩ = some (.slice A0_2 l0_2.length c0_2) := (blk_cell BK103.out 2).trans rfl; have hfz17_0 := blk_frozen BK103.out 0; have hfz17_1 := blk_frozen BK103.out 1; have hfz17_2 := blk_frozen BK103.out 2) | ((with_reducible refine gate_callee (f := 31) rfl ?_); refine goesL_ (some 8) rfl rfl Try.func31 (by kernel_rfl) rfl #[.agg #[.int .u8 a0_0, .int .u8 a0_1, .slice A0_2 l0_2.length c0_2]] rfl (by (try simp only [List.map_toArray, List.map_cons, List.map_nil]); first | done | rfl | (simp only [List.length_drop, List.length_take]; rfl)) ?_; (with_reducible refine (lacunaref04_Right.calls k a0_0 a0_1 _ _ l0_2 t104 _ ?side1 ?side2 A2.out).mono ?_); (case side1 => repeat (first | exact (Kd.C_below HR0_2.out HB.out) | (with_reducible refine Kd.C_alloc ?_ _) | (with_reducible refine Kd.C_drewN ?_ _) | (with_reducible refine Kd.C_drew ?_))); (case side2 => exact HC0_2.out); rintro e w18 ⟨rfl, hb⟩; refine ⟨_, rfl, ?_⟩; have n0_ := Aside0.mk (blk_below (g := gb103) (o := .cells #[.int .u8 a0_0, .int .u8 a0_1, .slice A0_2 l0_2.length c0_2] 44 (0, 0)) (by (with_reducible repeat (first | refine blk_drewN ?_ _ | refine blk_drew ?_ | refine blk_alloc ?_ _)); exact BK103.out) hb); have n1_ := Aside0.mk (below_step (by repeat (first | (with_reducible first | exact HB.out | apply below_alloc | apply pw_below_drewN | apply below_drew1 | refine below_set ?_ GE103.out) | exact HB.out)) hb); clear BK103; clear HB; have BK103 := n0_; have HB := n1_; clear n0_ n1_; (try clear hb); (try clear hb2); (try clear hk); (try clear hi)))
    go_ret2
    exact ⟨_, by first | rfl | (simp [errW_none, errW_some] <;> rfl) | (simp [*, errW_none, errW_some] <;> rfl), by first | exact Kd.R_nil _ _ _ _ _ | exact Kd.N_nil _ _ _ _ _ | exact Kd.V_nil _ _ _ _ _ | exact Kd.Q_nil _ _ _ _ _ | exact Kd.S_nil _ _ _ _ _, by repeat (first | (with_reducible first | exact HB.out | apply below_alloc | apply pw_below_drewN | apply below_drew1 | refine below_set ?_ GE103.out) | exact HB.out)⟩

/-- A state of type 85 at block g of W; what its slices lead to came in by w0. -/
def IsS85 (w0 W : World) (g : Nat) (f0 : List Int) (f1 : Int) (f2 : Int) : Prop := ∃ A0 c0, W.heap[g]? = some (.cells #[.slice A0 f0.length c0, .int .u64 f1, .int .i64 f2] 85 (0, 0)) ∧ w0.heap.size ≤ g ∧ Kd.C (Kd.int .u8) w0 A0 f0.length f0
theorem IsS85.grown {w0 W : World} {g : Nat} {f0 : List Int} {f1 : Int} {f2 : Int} {W1 : World} {row : Option Nat} (h : IsS85 w0 W g f0 f1 f2) (hw : W.grownBy W1 row) (hne : some g ≠ row) : IsS85 w0 W1 g f0 f1 f2 := by
  obtain ⟨A0, c0, hb, hg, hr0⟩ := h
  exact ⟨A0, c0, blk_grown hb hw hne, hg, hr0⟩
theorem IsS85.own_neN {w0 W : World} {g : Nat} {f0 : List Int} {f1 : Int} {f2 : Int} {α : Type} {d : Kd α} {e : Nat} {base : Nat} {ok : Nat → Prop} {v : Value} {xs : List α} (h : IsS85 w0 W g f0 f1 f2) (ho : Kd.N d e W base ok v xs) (ht : e ≠ 85) : some g ≠ v.ownBlock := by
  obtain ⟨A0, c0, hb, hg, hr0⟩ := h
  exact Kd.N_ne ho hb ht
theorem IsS85.fresh {w0 W : World} {g : Nat} {f0 : List Int} {f1 : Int} {f2 : Int} (h : IsS85 w0 W g f0 f1 f2) : ∀ k, W.heap.size ≤ k → k ≠ g := by
  obtain ⟨A0, c0, hb, hg, hr0⟩ := h
  exact Kd.freshB hb
theorem IsS85.kept {w0 W : World} {g : Nat} {f0 : List Int} {f1 : Int} {f2 : Int} {W1 : World} {S : Nat → Prop} (h : IsS85 w0 W g f0 f1 f2) (hk : Kept W W1 S) (hne : ¬ S g) : IsS85 w0 W1 g f0 f1 f2 := by
  obtain ⟨A0, c0, hb, hg, hr0⟩ := h
  exact ⟨A0, c0, blk_kept hb hk hne, hg, hr0⟩
theorem IsS85.below {w0 W : World} {g : Nat} {f0 : List Int} {f1 : Int} {f2 : Int} {W1 : World} (h : IsS85 w0 W g f0 f1 f2) (hw : Below W.heap.size W W1) : IsS85 w0 W1 g f0 f1 f2 := h.grown (grown_of_below hw none) (by simp)
theorem IsS85.alloc {w0 W : World} {g : Nat} {f0 : List Int} {f1 : Int} {f2 : Int} (h : IsS85 w0 W g f0 f1 f2) (o : Obj) : IsS85 w0 (W.alloc o) g f0 f1 f2 := h.below (below_alloc (Below.refl _ _) o)
theorem IsS85.drewN {w0 W : World} {g : Nat} {f0 : List Int} {f1 : Int} {f2 : Int} (h : IsS85 w0 W g f0 f1 f2) (m : Nat) : IsS85 w0 (W.drewN m) g f0 f1 f2 := h
theorem IsS85.drew {w0 W : World} {g : Nat} {f0 : List Int} {f1 : Int} {f2 : Int} (h : IsS85 w0 W g f0 f1 f2) : IsS85 w0 W.drew g f0 f1 f2 := h
theorem IsS85.at_ {w0 W : World} {g : Nat} {f0 : List Int} {f1 : Int} {f2 : Int} {w' : World} {m : Nat} (hq : W.drewN m = w') (h : IsS85 w0 W g f0 f1 f2) : IsS85 w0 w' g f0 f1 f2 := by subst hq; exact IsS85.drewN h m
theorem IsS85.apart {w0 W : World} {g : Nat} {f0 : List Int} {f1 : Int} {f2 : Int} {α : Type} {d : Kd α} {e : Nat} {base : Nat} {ok : Nat → Prop} {v : Value} {xs : List α} (h : IsS85 w0 W g f0 f1 f2) (ho : d.R e W base ok v xs) (ht : ∀ q, q ∈ e :: d.E → q ≠ 85) : d.R e W base (fun k => ok k ∧ k ≠ g) v xs := by
  obtain ⟨A0, c0, hb, hg, hr0⟩ := h
  exact Kd.R_types ho hb ht
theorem IsS85.own_ne {w0 W : World} {g : Nat} {f0 : List Int} {f1 : Int} {f2 : Int} {α : Type} {d : Kd α} {e : Nat} {base : Nat} {ok : Nat → Prop} {v : Value} {xs : List α} (h : IsS85 w0 W g f0 f1 f2) (ho : d.R e W base ok v xs) (ht : e ≠ 85) : some g ≠ v.ownBlock := by
  obtain ⟨A0, c0, hb, hg, hr0⟩ := h
  exact Kd.R_ne ho hb ht
theorem IsS85.apartQ {w0 W : World} {g : Nat} {f0 : List Int} {f1 : Int} {f2 : Int} {α : Type} {d : Kd α} {e : Nat} {base : Nat} {ok : Nat → Prop} {v : Value} {xs : List α} (h : IsS85 w0 W g f0 f1 f2) (ho : d.Q e W base ok v xs) (ht : ∀ q, q ∈ e :: d.E → q ≠ 85) : d.Q e W base (fun k => ok k ∧ k ≠ g) v xs := by
  obtain ⟨A0, c0, hb, hg, hr0⟩ := h
  exact Kd.Q_types ho hb ht
theorem IsS85.own_neQ {w0 W : World} {g : Nat} {f0 : List Int} {f1 : Int} {f2 : Int} {α : Type} {d : Kd α} {e : Nat} {base : Nat} {ok : Nat → Prop} {v : Value} {xs : List α} (h : IsS85 w0 W g f0 f1 f2) (ho : d.Q e W base ok v xs) (ht : e ≠ 85) : some g ≠ v.ownBlock := by
  obtain ⟨A0, c0, hb, hg, hr0⟩ := h
  exact Kd.Q_ne ho hb ht
theorem IsS85.apartS {w0 W : World} {g : Nat} {f0 : List Int} {f1 : Int} {f2 : Int} {α : Type} {d : Kd α} {e : Nat} {base : Nat} {ok : Nat → Prop} {v : Value} {xs : List α} (h : IsS85 w0 W g f0 f1 f2) (ho : d.S e W base ok v xs) (ht : ∀ q, q ∈ e :: d.E → q ≠ 85) : d.S e W base (fun k => ok k ∧ k ≠ g) v xs := by
  obtain ⟨A0, c0, hb, hg, hr0⟩ := h
  exact Kd.S_types ho hb ht
theorem IsS85.own_neS {w0 W : World} {g : Nat} {f0 : List Int} {f1 : Int} {f2 : Int} {α : Type} {d : Kd α} {e : Nat} {base : Nat} {ok : Nat → Prop} {v : Value} {xs : List α} (h : IsS85 w0 W g f0 f1 f2) (ho : d.S e W base ok v xs) (ht : e ≠ 85) : some g ≠ v.ownBlock := by
  obtain ⟨A0, c0, hb, hg, hr0⟩ := h
  exact Kd.S_ne ho hb ht
theorem IsS85.lt {w0 W : World} {g : Nat} {f0 : List Int} {f1 : Int} {f2 : Int} (h : IsS85 w0 W g f0 f1 f2) : g < W.heap.size := by
  obtain ⟨A0, c0, hb, hg, hr0⟩ := h
  exact blk_lt hb
theorem IsS85.ge {w0 W : World} {g : Nat} {f0 : List Int} {f1 : Int} {f2 : Int} (h : IsS85 w0 W g f0 f1 f2) : w0.heap.size ≤ g := by
  obtain ⟨A0, c0, hb, hg, hr0⟩ := h
  exact hg
theorem IsS85.ne_blk {w0 W : World} {g : Nat} {f0 : List Int} {f1 : Int} {f2 : Int} {a : Nat} {cs : Array Value} {t : TypeId} {fr : Nat × Nat} (h : IsS85 w0 W g f0 f1 f2) (hb2 : W.heap[a]? = some (.cells cs t fr)) (ht : t ≠ 85) : g ≠ a := by
  obtain ⟨A0, c0, hb, hg, hr0⟩ := h
  rintro rfl
  rw [hb] at hb2
  injection hb2 with hb2
  injection hb2 with _ ht2
  exact ht ht2.symm
theorem IsS85.far {w0 W : World} {g : Nat} {f0 : List Int} {f1 : Int} {f2 : Int} {p : Addr} (h : IsS85 w0 W g f0 f1 f2) (hne : g ≠ p.block) (u : Value) : IsS85 w0 (W.setCell p u) g f0 f1 f2 := by
  obtain ⟨A0, c0, hb, hg, hr0⟩ := h
  exact ⟨A0, c0, blk_far hb hne u, hg, hr0⟩
theorem cellS85_0 {W : World} {g : Nat} {A0 : Option Addr} {c0 : Nat} {f0 : List Int} {f1 : Int} {f2 : Int} (h : W.heap[g]? = some (.cells #[.slice A0 f0.length c0, .int .u64 f1, .int .i64 f2] 85 (0, 0))) : W.cell? ⟨g, 0, none⟩ = some (.slice A0 f0.length c0) := (blk_cell h 0).trans rfl
theorem cellS85_1 {W : World} {g : Nat} {A0 : Option Addr} {c0 : Nat} {f0 : List Int} {f1 : Int} {f2 : Int} (h : W.heap[g]? = some (.cells #[.slice A0 f0.length c0, .int .u64 f1, .int .i64 f2] 85 (0, 0))) : W.cell? ⟨g, 1, none⟩ = some (.int .u64 f1) := (blk_cell h 1).trans rfl
theorem IsS85.set_1 {w0 W : World} {g : Nat} {f0 : List Int} {f1 : Int} {f2 : Int} (h : IsS85 w0 W g f0 f1 f2) (x : Int) : IsS85 w0 (W.setCell ⟨g, 1, none⟩ (.int .u64 x)) g f0 x f2 := by
  obtain ⟨A0, c0, hb, hg, hr0⟩ := h
  exact ⟨A0, c0, by simpa using blk_set hb 1 (.int .u64 x), hg, hr0⟩
theorem cellS85_2 {W : World} {g : Nat} {A0 : Option Addr} {c0 : Nat} {f0 : List Int} {f1 : Int} {f2 : Int} (h : W.heap[g]? = some (.cells #[.slice A0 f0.length c0, .int .u64 f1, .int .i64 f2] 85 (0, 0))) : W.cell? ⟨g, 2, none⟩ = some (.int .i64 f2) := (blk_cell h 2).trans rfl
theorem IsS85.set_2 {w0 W : World} {g : Nat} {f0 : List Int} {f1 : Int} {f2 : Int} (h : IsS85 w0 W g f0 f1 f2) (x : Int) : IsS85 w0 (W.setCell ⟨g, 2, none⟩ (.int .i64 x)) g f0 f1 x := by
  obtain ⟨A0, c0, hb, hg, hr0⟩ := h
  exact ⟨A0, c0, by simpa using blk_set hb 2 (.int .i64 x), hg, hr0⟩
theorem IsS85.new (w0 W : World) (A0 : Option Addr) (c0 : Nat) (f0 : List Int) (f1 : Int) (f2 : Int) (hB : Below w0.heap.size w0 W) (hr0 : Kd.C (Kd.int .u8) w0 A0 f0.length f0) : IsS85 w0 (W.alloc (.cells #[.slice A0 f0.length c0, .int .u64 f1, .int .i64 f2] 85)) W.heap.size f0 f1 f2 := ⟨A0, c0, by simpa using heap_alloc_new W _, hB.size, hr0⟩

end Go.Proofs.Ytonbphiaideleaa.PC
/- lacunaref04.Make; what made frames one behind the other tell. -/
namespace Go.Proofs.Ytonbphiaideleaa.M
open Go.RowKit Go.Proofs.YtonbphiaideleaaW.PrintWords Go.Proofs.YtonbphiaideleaaW.PrintLast Go.Proofs.YtonbphiaideleaaW.PrintMore Go.Proofs.Ytonbphiaideleaa.PC
set_option linter.unusedVariables false
set_option linter.unusedSimpArgs false
theorem refMake_f {x y : Int} {l : List Int} (h : rightF x y l = 0) (hb : Byt l) : lacunaref04_Make.f 2 x y l = some (frB x y l, 0) := by
  have h3 := (rightF_zero h).2.2
  unfold lacunaref04_Make.f
  rw [refRight_f, Option.bind_some, if_pos h, Option.bind_some]
  have hw : wrap64 ((l.length : Int) / 256) = (l.length : Int) / 256 := by unfold wrap64; omega
  have hm : ([76, 103, x, y, (l.length : Int) % 256, wrap64 ((l.length : Int) / 256) % 256] : List Int) ++ l = makeB x y l := by rw [hw]; rfl
  rw [if_pos (by simp only [List.length_cons, List.length_nil]; omega), hm]
  unfold lacunaref03_Sign.f
  rw [if_pos (bytB_of (makeB_byt h hb)), if_pos (by rw [makeB_length]; omega), Option.bind_some]
  rfl
theorem refmake_any (x y : Int) (A : Option Addr) (c : Nat) (l : List Int) (w : World) (hr : Kd.C (Kd.int .u8) w A l.length l) (hc : l.length ≤ c) (h : rightF x y l = 0) (hb : Byt l) :
    Calls Try.prog 34 #[.agg #[.int .u8 x, .int .u8 y, .slice A l.length c]] w fun e w' => ∃ v : Value, e = .returned (.tuple #[v, .int .i64 0]) ∧ Kd.R (Kd.int .u8) 5 w' w.heap.size (fun _ => True) v (frB x y l) ∧ Below w.heap.size w w' :=
  lacunaref04_Make.calls 2 x y A c l _ _ w hr hc (refMake_f h hb)
theorem parF_nil : parF [] = (0, 0, [], 0, 1) := by decide
theorem scan_nil (at_ : Int) : scanF [] at_ = ([], [], at_, 1) := by rw [scan_stop (by rw [parF_nil]; decide), parF_nil]
theorem scan_made {x y : Int} {l : List Int} (h : rightF x y l = 0) (hb : Byt l) (r : List Int) (hr : Byt r) (at_ : Int) :
    scanF (frB x y l ++ r) at_ = (⟨⟨x, y, l⟩, at_, (l.length : Int) + 10⟩ :: (scanF r (at_ + ((l.length : Int) + 10))).1, (scanF r (at_ + ((l.length : Int) + 10))).2) := by
  have hp := parF_make h hb r
  have hB : Byt (frB x y l ++ r) := fun z hz => (List.mem_append.1 hz).elim (frB_byt h hb z) (hr z)
  rw [scan_go hB (by rw [hp]), hp]
  dsimp only
  have hn : ((l.length : Int) + 10).toNat = (frB x y l).length := by rw [frB_length]; omega
  rw [hn, List.drop_left]
/-- A frame that may be made. -/
def okF (q : S44) : Prop := rightF q.f0 q.f1 q.f2 = 0 ∧ Byt q.f2
/-- Frames one behind the other. -/
def catF (ls : List S44) : List Int := (ls.map fun q => frB q.f0 q.f1 q.f2).flatten
def madeF : List S44 → Int → List S68
  | [], _ => []
  | q :: ls, at_ => ⟨q, at_, (q.f2.length : Int) + 10⟩ :: madeF ls (at_ + ((q.f2.length : Int) + 10))
theorem catF_cons (q : S44) (ls : List S44) : catF (q :: ls) = frB q.f0 q.f1 q.f2 ++ catF ls := by simp [catF]
theorem catF_append (a b : List S44) : catF (a ++ b) = catF a ++ catF b := by simp [catF]
theorem catF_byt : ∀ {ls : List S44}, (∀ q ∈ ls, okF q) → Byt (catF ls)
  | [], _ => fun _ h => by cases h
  | q :: ls, h => by
    rw [catF_cons]
    have h1 := h q List.mem_cons_self
    exact fun z hz => (List.mem_append.1 hz).elim (frB_byt h1.1 h1.2 z) (catF_byt (fun q hq => h q (List.mem_cons_of_mem _ hq)) z)
theorem madeF_length : ∀ (ls : List S44) (at_ : Int), (madeF ls at_).length = ls.length
  | [], _ => rfl
  | q :: ls, at_ => by rw [madeF, List.length_cons, madeF_length ls, List.length_cons]
theorem scan_cat : ∀ (ls : List S44) (r : List Int) (at_ : Int), (∀ q ∈ ls, okF q) → Byt r →
    scanF (catF ls ++ r) at_ = (madeF ls at_ ++ (scanF r (at_ + ((catF ls).length : Int))).1, (scanF r (at_ + ((catF ls).length : Int))).2)
  | [], r, at_, _, _ => by simp [catF, madeF]
  | q :: ls, r, at_, h, hr => by
    have h1 := h q List.mem_cons_self
    have h2 : ∀ q ∈ ls, okF q := fun q hq => h q (List.mem_cons_of_mem _ hq)
    have hb : Byt (catF ls ++ r) := fun z hz => (List.mem_append.1 hz).elim (catF_byt h2 z) (hr z)
    have e : at_ + ((q.f2.length : Int) + 10) + ((catF ls).length : Int) = at_ + ((catF (q :: ls)).length : Int) := by
      rw [catF_cons, List.length_append, frB_length]; omega
    rw [catF_cons, List.append_assoc, scan_made h1.1 h1.2 _ hb, scan_cat ls r _ h2 hr, e, ← catF_cons]
    rfl
theorem madeF_get : ∀ (ls : List S44) (at_ : Int) (i : Nat) (q : S44), ls[i]? = some q → (madeF ls at_)[i]? = some ⟨q, at_ + ((catF (ls.take i)).length : Int), (q.f2.length : Int) + 10⟩
  | [], _, _, _, h => by simp at h
  | p :: ls, at_, 0, q, h => by
    obtain rfl : p = q := by simpa using h
    simp [madeF, catF]
  | p :: ls, at_, i + 1, q, h => by
    have h' : ls[i]? = some q := by simpa using h
    have e : at_ + ((p.f2.length : Int) + 10) + ((catF (ls.take i)).length : Int) = at_ + ((catF ((p :: ls).take (i + 1))).length : Int) := by
      rw [List.take_succ_cons, catF_cons, List.length_append, frB_length]; omega
    rw [madeF, List.getElem?_cons_succ, madeF_get ls _ i q h', e]
theorem catF_take {ls : List S44} {i : Nat} {q : S44} (h : ls[i]? = some q) : catF (ls.take (i + 1)) = catF (ls.take i) ++ frB q.f0 q.f1 q.f2 := by
  have hl : i < ls.length := (List.getElem?_eq_some_iff.1 h).1
  have e : ls.take (i + 1) = ls.take i ++ [q] := by
    rw [List.take_add_one, h]; rfl
  rw [e, catF_append]
  simp [catF]
def endsF (ls : List S44) (k : Nat) : List Int := (List.range k).map fun i => ((catF (ls.take (i + 1))).length : Int)
theorem endsF_succ (ls : List S44) (k : Nat) : endsF ls (k + 1) = endsF ls k ++ [((catF (ls.take (k + 1))).length : Int)] := by simp [endsF, List.range_succ]
theorem endsF_get (ls : List S44) {k i : Nat} (h : i < k) : (endsF ls k)[i]? = some ((catF (ls.take (i + 1))).length : Int) := by simp [endsF, h]
theorem R_two {k1 k2 : IntKind} {e1 e2 b1 b2 : Nat} {ok1 ok2 : Nat → Prop} {w w' : World} {v1 v2 : Value} {xs1 xs2 : List Int} (h1 : Kd.R (Kd.int k1) e1 w b1 ok1 v1 xs1) (h2 : Kd.R (Kd.int k2) e2 w b2 ok2 v2 xs2) (hne : e2 ≠ e1) (hg : w.grownBy w' v1.ownBlock) : Kd.R (Kd.int k2) e2 w' b2 ok2 v2 xs2 :=
  Kd.R_grown2 h2 rfl hg (fun k hk => by
    obtain ⟨cells, hc⟩ := Kd.R_typed h1 k hk
    exact Kd.R_ne h2 hc hne)
theorem el44 {w : World} {A : Option Addr} {m : Nat} {xs : List S44} (h : Kd.C k44 w A m xs) (hm : xs.length = m) (k : Nat) (hk : k < m) (q : S44) (hq : xs[k]? = some q) :
    ∃ (ad : Addr) (A2 : Option Addr) (c2 : Nat), A = some ad ∧ w.cell? (ad.add (k * 3)) = some (.int .u8 q.f0) ∧ w.cell? ⟨(ad.add (k * 3)).block, (ad.add (k * 3)).off + 1, none⟩ = some (.int .u8 q.f1) ∧ w.cell? ⟨(ad.add (k * 3)).block, (ad.add (k * 3)).off + 2, none⟩ = some (.slice A2 q.f2.length c2) ∧ q.f2.length ≤ c2 ∧ Kd.C (Kd.int .u8) w A2 q.f2.length q.f2 := by
  obtain ⟨ad, A2, c2, h0, h1, h2, h3, h6, h7⟩ := at_T44 h (k : Int) (by omega) (by omega)
  have e : rd_T44 xs (k : Int) = q := by unfold rd_T44; rw [Int.toNat_natCast, List.getD_eq_getElem?_getD, hq]; rfl
  rw [e, Int.toNat_natCast] at h1 h2 h3
  rw [e] at h6 h7
  exact ⟨ad, A2, c2, h0, h1, h2, h3, h6, h7⟩
theorem info3 : (Try.prog.info? 3).map (fun i => (i.zero, i.size, i.bytes)) = some (some (.int .i64 0), 1, 8) := by kernel_rfl
end Go.Proofs.Ytonbphiaideleaa.M
/- lacunalaw05.awake: what the chapter's example says. -/
namespace Go.Proofs.Ytonbphiaideleaa.M
open Go.RowKit Go.Proofs.YtonbphiaideleaaW.PrintWords Go.Proofs.YtonbphiaideleaaW.PrintLast Go.Proofs.YtonbphiaideleaaW.PrintMore Go.Proofs.Ytonbphiaideleaa.PC
set_option linter.unusedVariables false
set_option linter.unusedSimpArgs false
theorem feed_any (g : Nat) (Ak : Option Addr) (ck : Nat) (kept : List Int) (at_ : Int) (A : Option Addr) (c : Nat) (b : List Int) (w : World) (B0 : Nat) (out : List S68) (rest : List Int) (at2 e : Int) (hs : scanF (kept ++ b) at_ = (out, rest, at2, e)) (k2 : List Int) (hk2 : k2 = if e = 1 then rest else []) (wr : Int) (hwr : wr = if e = 1 then 0 else e)
    (hG : w.heap[g]? = some (.cells #[.slice Ak kept.length ck, .int .u64 at_, .int .i64 0] 85 (0, 0))) (hK : Kd.R (Kd.int .u8) 5 w B0 (fun _ => True) (.slice Ak kept.length ck) kept)
    (hr : Kd.C (Kd.int .u8) w A b.length b) (hc : b.length ≤ c) (hB0 : B0 ≤ w.heap.size) (hBg : B0 ≤ g) (hlen : kept.length + b.length < 1000000000) (hyk : Byt kept) (hyb : Byt b) (hat : 0 ≤ at_ ∧ at_ < 1000000000000) :
    Calls Try.prog 36 #[.pointer (some ⟨g, 0, none⟩), .slice A b.length c] w (FeedQ g w B0 (Value.slice Ak kept.length ck).ownBlock out k2 at2 wr) := by
  have h := feed_ok g Ak ck kept at_ A c b w B0 hG hK hr hc hB0 hBg hlen hyk hyb hat
  rw [hs] at h
  rw [hk2, hwr]
  exact h
theorem byt_one : Byt [7] := by
  intro x hx
  simp only [List.mem_cons, List.not_mem_nil, or_false] at hx
  omega
set_option maxHeartbeats 8000000 in
set_option maxRecDepth 100000 in
theorem awake5_any (w : World) : Calls Try.prog 39 #[] w fun e w' => e = .returned (.bool true) ∧ Below w.heap.size w w' := by
  have hu44 := Try.underlying44
  have hu61 := Try.underlying61
  have hu68 := Try.underlying68
  have hu40 := Try.underlying40
  have hlg := new_C w [7] (0, 0) (by decide)
  rw [lit7] at hlg
  have HG := Aside0.mk hlg
  have HB0 := Aside0.mk (below_alloc (Below.refl w.heap.size w) (.cells #[.int .u8 7] 5))
  clear hlg
  have HR : Aside0 (rightF 1 8 [7] = 0) := ⟨by decide⟩
  obtain ⟨B, hB⟩ : ∃ B, B = frB 1 8 [7] := ⟨_, rfl⟩
  have hBl : B.length = 11 := by rw [hB, frB_length]; rfl
  have HBl := Aside0.mk hBl
  have HBe := Aside0.mk hB
  have HYB : Aside0 (Byt B) := ⟨by rw [hB]; exact frB_byt HR.out byt_one⟩
  have HS1 : Aside0 (scanF ([] ++ B.take 10) 0 = ([], B.take 10, 0, 1)) := ⟨by
    have hp : parF (B.take 10) = (0, 0, [], 0, 1) := by rw [hB]; exact parF_cut HR.out 10 (by decide)
    rw [List.nil_append, scan_stop (by rw [hp]; decide), hp]⟩
  have HS2 : Aside0 (scanF (B.take 10 ++ B.drop 10) 0 = ([⟨⟨1, 8, [7]⟩, 0, 11⟩], [], 11, 1)) := ⟨by
    have h := scan_made HR.out byt_one [] (fun _ h => by cases h) 0
    rw [List.append_nil, ← hB] at h
    rw [List.take_append_drop, h, scan_nil]
    rfl⟩
  obtain ⟨i05, hi05, _, hsz5, _⟩ := info_parts info5
  have HI := Aside0.mk hi05
  have HSZ := Aside0.mk hsz5
  clear hB hBl hi05 hsz5
  have hne : ((1 : Int) == 0) = false := rfl
  go_enter Try.func39, Try.ntmps39
  go_wp2_with (first
    | (go_at_call 36; refine (feed_any g A4 c4 p 0 Aq (cb - 10) q _ w.heap.size [⟨⟨1, 8, [7]⟩, 0, 11⟩] [] 11 1 (by rw [HP.out, HQ.out]; exact HS2.out) [] rfl 0 rfl HR4.out.G (Kd.R_lower HR4.out.K HB3.out.size) (HCq.out _ (Kd.R_reads' HRB4.out).2.2) Hqc.out HB4.out.size (by rw [HGE.out]; exact HB2.out.size) (by rw [HP.out, HQ.out, List.length_take, List.length_drop, HBl.out]; decide) (by rw [HP.out]; exact HYB.out.take 10) (by rw [HQ.out]; exact HYB.out.drop 10) (by decide)).mono ?_; rintro e w5 ⟨v5, A5, c5, rfl, hR5⟩; have HR5 := Aside0.mk hR5; clear hR5; have HB5 : Aside0 (Below w.heap.size w w5) := ⟨HB4.out.trans HR5.out.bel⟩; obtain ⟨g5, cf5, e5, hb5, hl5, hc5⟩ := Kd.R_form HR5.out.O (by decide); subst e5; obtain ⟨ad, Ap5, cp5, had, z0, z1, z2, z3, z4, zl, zc⟩ := el68 (Kd.R_reads' HR5.out.O).2.2 rfl 0 (by decide) _ rfl; obtain rfl := Option.some.inj had; clear had zl zc hb5 hl5 hc5 z0 z2; have hz1 : w5.cell? ⟨g5, 1, none⟩ = some (.int .u8 8) := z1; have hz3 : w5.cell? ⟨g5, 3, none⟩ = some (.int .u64 0) := z3; have hz4 : w5.cell? ⟨g5, 4, none⟩ = some (.int .i64 11) := z4; clear z1 z3 z4)
    | (go_at_call 36; refine (feed_any g none 0 [] 0 Ab cb p _ w.heap.size [] p 0 1 (by rw [HP.out]; exact HS1.out) p rfl 0 rfl HG3.out (Kd.R_nil _ _ _ _ _) (Kd.C_below HCp.out HB23.out) Hpc.out HB3.out.size (by rw [HGE.out]; exact HB2.out.size) (by rw [HP.out, List.length_take, HBl.out]; decide) (fun _ h => by cases h) (by rw [HP.out]; exact HYB.out.take 10) (by decide)).mono ?_; rintro e w4 ⟨v4, A4, c4, rfl, hR4⟩; have HR4 := Aside0.mk hR4; clear hR4; obtain ⟨Af4, cf4, e4⟩ := Kd.R_slice HR4.out.O; subst e4; have HRB4 : Aside0 (Kd.R (Kd.int .u8) 5 w4 w.heap.size (fun _ => True) (.slice Ab B.length cb) B) := ⟨Kd.R_lower (Kd.R_mono (Kd.R_step (Kd.R_below (Kd.R_mono (Kd.R_bound HO.out) (ok' := fun k => k < w2.heap.size) (fun _ hk => hk.2.2.1)) HB23.out) (fun k hk hlt => HR4.out.keep k hlt (by rw [HGE.out]; exact Nat.ne_of_lt hk) (by simp [Value.ownBlock]))) (fun _ _ => trivial)) (by exact HB0.out.size)⟩; have HB4 : Aside0 (Below w.heap.size w w4) := ⟨HB3.out.trans HR4.out.bel⟩)
    | (go_at_call 34; refine (refmake_any 1 8 _ _ [7] _ HG.out (by decide) HR.out byt_one).mono ?_; rw [← HBe.out]; rintro e w2 ⟨v, rfl, ho, hb⟩; have HO := Aside0.mk ho; have HB2 := Aside0.mk (below_step HB0.out hb); clear ho hb; obtain ⟨Ab, cb, em⟩ := Kd.R_slice HO.out; subst em; have HC := Aside0.mk (Kd.R_reads' HO.out).2.2; have HCc := Aside0.mk (Kd.R_reads' HO.out).2.1)
    | (go_at_call 35; refine (new_any _).mono ?_; rintro e w3 ⟨g, hg, rfl, hG3, hb⟩; have HGE := Aside0.mk hg; have HG3 := Aside0.mk hG3; have HB23 := Aside0.mk hb; have HB3 := Aside0.mk (below_step HB2.out hb); clear hg hG3 hb; obtain ⟨p, hp, hcutp, hCp, hpc⟩ := cutT (k := Kd.int .u8) Try.underlying23 HI.out HC.out HCc.out (10 : Int) 10 rfl (by rw [HBl.out]; decide); have HP := Aside0.mk hp; have HCp := Aside0.mk hCp; have Hpc := Aside0.mk hpc; clear hp hCp hpc; obtain ⟨Aq, q, hq, hcutq, hCq, hqc⟩ := cutD2 (k := Kd.int .u8) rfl Try.underlying23 HI.out HSZ.out (A := Ab) (c := cb) (xs := B) HCc.out (10 : Int) 10 rfl (by rw [HBl.out]; decide); have HQ := Aside0.mk hq; have HCq := Aside0.mk hCq; have Hqc := Aside0.mk hqc; clear hq hCq hqc))
  go_ret
  exact ⟨rfl, HB5.out⟩
end Go.Proofs.Ytonbphiaideleaa.M
