/- lacunalaw04.FrameMakes: the walk. -/
import Derived.Test.YtonbphiaideleaaDoorPDx2
import Derived.Test.YtonbphiaideleaaDoorPDx1
import Derived.Test.YtonbphiaideleaaDoorMa
namespace Go.Proofs.YtonbphiaideleaaDoor.M
open Go.RowKit Go.Proofs.YtonbphiaideleaaDoorW.PrintWords Go.Proofs.YtonbphiaideleaaDoorW.PrintLast Go.Proofs.YtonbphiaideleaaDoorW.PrintMore Go.Proofs.YtonbphiaideleaaDoor.PD
set_option linter.unusedVariables false
set_option linter.unusedSimpArgs false
theorem own_any (x y : Int) (A : Option Addr) (c : Nat) (l : List Int) (w : World) (hr : Kd.C (Kd.int .u8) w A l.length l) (hc : l.length ≤ c) (hl : l.length < 140737488355328) :
    Calls Tryd.prog 5 #[.agg #[.int .u8 x, .int .u8 y, .slice A l.length c]] w fun e w' => ∃ v : Value, e = .returned (.agg #[.int .u8 x, .int .u8 y, v]) ∧ Kd.R (Kd.int .u8) 5 w' w.heap.size (fun _ => True) v l ∧ Below w.heap.size w w' :=
  lacunalaw04_Own.calls x y A c l x y l w hr hc (by
    unfold lacunalaw04_Own.f
    rw [Option.bind_some, if_pos (by simpa using hl)]
    rfl)
theorem refRight_f (x y : Int) (l : List Int) : lacunaref04_Right.f 2 x y l = some (rightF x y l) := by
  unfold lacunaref04_Right.f rightF verB kinB
  have h0 : lacunaref04_Right.f 2 x y l = lacunaref04_Right.j0 2 (!(decide (1 ≤ x ∧ x ≤ 2))) x y l := by
    unfold lacunaref04_Right.f
    by_cases h1 : x = 1
    · rw [if_pos h1, h1]; rfl
    · rw [if_neg h1]
      congr 1
      by_cases h2 : x = 2
      · rw [h2]; rfl
      · have : decide (1 ≤ x ∧ x ≤ 2) = false := by rw [decide_eq_false]; omega
        rw [this]
        simpa using h2
  unfold lacunaref04_Right.f at h0
  rw [h0, lacunaref04_Right.j0]
  by_cases hx : 1 ≤ x ∧ x ≤ 2
  · rw [decide_eq_true hx, if_neg (by decide), if_pos rfl]
    by_cases hy : 1 ≤ y ∧ y ≤ 8
    · rw [decide_eq_true hy, if_pos rfl, if_neg (by omega)]
      have : decide (y > 8) = false := by rw [decide_eq_false]; omega
      rw [this, lacunaref04_Right.j1, if_neg (by decide)]
      by_cases hl : 4096 < l.length
      · rw [if_pos (by omega), if_pos hl]
      · rw [if_neg (by omega), if_neg hl]
    · rw [decide_eq_false hy, if_neg (show ¬ ((false : Bool) = true) by decide)]
      by_cases h1 : y < 1
      · rw [if_pos h1, lacunaref04_Right.j1, if_pos rfl]
      · rw [if_neg h1]
        have : decide (y > 8) = true := by rw [decide_eq_true]; omega
        rw [this, lacunaref04_Right.j1, if_pos rfl]
  · rw [decide_eq_false hx, if_pos (by rfl), if_neg (show ¬ ((false : Bool) = true) by decide)]
theorem refright_any (x y : Int) (A : Option Addr) (c : Nat) (l : List Int) (w : World) (hr : Kd.C (Kd.int .u8) w A l.length l) (hc : l.length ≤ c) :
    Calls Tryd.prog 9 #[.agg #[.int .u8 x, .int .u8 y, .slice A l.length c]] w fun e w' => e = .returned (.int .i64 (rightF x y l)) ∧ Below w.heap.size w w' :=
  lacunaref04_Right.calls 2 x y A c l _ w hr hc (refRight_f x y l)
theorem rightF_zero {x y : Int} {l : List Int} (h : rightF x y l = 0) : verB x = true ∧ kinB y = true ∧ l.length ≤ 4096 := by
  have h3 := rightF_len h
  unfold rightF at h
  by_cases h1 : verB x = true
  · rw [if_pos h1] at h
    by_cases h2 : kinB y = true
    · exact ⟨h1, h2, h3⟩
    · rw [if_neg h2] at h; exact absurd h (by decide)
  · rw [if_neg h1] at h; exact absurd h (by decide)
theorem makeB_length (x y : Int) (l : List Int) : (makeB x y l).length = l.length + 6 := by
  simp [makeB]
theorem makeB_byt {x y : Int} {l : List Int} (h : rightF x y l = 0) (hb : Byt l) : Byt (makeB x y l) := by
  obtain ⟨h1, h2, h3⟩ := rightF_zero h
  unfold verB at h1
  unfold kinB at h2
  have h1 := of_decide_eq_true h1
  have h2 := of_decide_eq_true h2
  intro z hz
  unfold makeB at hz
  rcases List.mem_append.1 hz with hz | hz
  · simp only [List.mem_cons, List.not_mem_nil, or_false] at hz
    omega
  · exact hb z hz
/-- A frame's bytes. -/
def frB (x y : Int) (l : List Int) : List Int := sg (makeB x y l)
theorem frB_sign {x y : Int} {l : List Int} (h : rightF x y l = 0) (hb : Byt l) : signF (makeB x y l) = frB x y l := signF_sg (makeB_byt h hb)
theorem refMake_f (x y : Int) (l : List Int) (hb : Byt l) : lacunaref04_Make.f 2 x y l = some ((if rightF x y l = 0 then frB x y l else []), rightF x y l) := by
  unfold lacunaref04_Make.f
  rw [refRight_f, Option.bind_some]
  by_cases h : rightF x y l = 0
  · rw [if_pos h, if_pos h, Option.bind_some]
    have hl := rightF_len h
    have hw : wrap64 ((l.length : Int) / 256) = (l.length : Int) / 256 := by unfold wrap64; omega
    rw [hw, if_pos (by simp only [List.length_cons, List.length_nil]; omega)]
    have hm := makeB_byt h hb
    unfold lacunaref03_Sign.f
    have e : ([76, 103, x, y, (l.length : Int) % 256, (l.length : Int) / 256 % 256] : List Int) ++ l = makeB x y l := rfl
    rw [e, if_pos (bytB_of hm), if_pos (by rw [makeB_length]; omega), Option.bind_some, h]
    rfl
  · rw [if_neg h, if_neg h]
theorem refmake_any (x y : Int) (A : Option Addr) (c : Nat) (l : List Int) (w : World) (hr : Kd.C (Kd.int .u8) w A l.length l) (hc : l.length ≤ c) (hb : Byt l) :
    Calls Tryd.prog 6 #[.agg #[.int .u8 x, .int .u8 y, .slice A l.length c]] w fun e w' => ∃ v : Value, e = .returned (.tuple #[v, .int .i64 (rightF x y l)]) ∧ Kd.R (Kd.int .u8) 5 w' w.heap.size (fun _ => True) v (if rightF x y l = 0 then frB x y l else []) ∧ Below w.heap.size w w' :=
  lacunaref04_Make.calls 2 x y A c l _ _ w hr hc (refMake_f x y l hb)
/-- The kinds' names. -/
def namesL : List ByteArray := [⟨#[]⟩, ⟨#[98, 101, 103, 105, 110]⟩, ⟨#[114, 101, 108, 97, 116, 105, 111, 110]⟩, ⟨#[112, 105, 101, 99, 101]⟩, ⟨#[105, 110, 115, 101, 114, 116]⟩, ⟨#[117, 112, 100, 97, 116, 101]⟩, ⟨#[100, 101, 108, 101, 116, 101]⟩, ⟨#[116, 114, 117, 110, 99, 97, 116, 101]⟩, ⟨#[99, 111, 109, 109, 105, 116]⟩]
def nameS (y : Int) : ByteArray := if kinB y = true then namesL.getD y.toNat ⟨#[]⟩ else ⟨#[]⟩
/-- The variable lacuna/frame.names holds them. -/
def NamesAt (w : World) : Prop := ∀ i : Nat, i < 9 → w.cell? ⟨0, i, none⟩ = some (.string (namesL.getD i ⟨#[]⟩))
theorem names_below {w w' : World} (h : NamesAt w) (hb : Below w.heap.size w w') : NamesAt w' := fun i hi => pw_cell_below hb (h i hi)
theorem nameS_small {y : Int} (h0 : 0 ≤ y) (h9 : y < 9) : namesL.getD y.toNat ⟨#[]⟩ = nameS y := by
  unfold nameS
  by_cases h : y = 0
  · subst h; rfl
  · rw [if_pos]; unfold kinB; rw [decide_eq_true_eq]; omega
theorem names_cell {w : World} {ad : Addr} {cc : List Value} (y : Int) (h0 : 0 ≤ y) (h9 : y < 9) (hK : Kd.string.K w (namesL.getD y.toNat ⟨#[]⟩) cc) (hcell : ∀ j u, cc[j]? = some u → w.cell? (ad.add (y.toNat * 1 + j)) = some u) : w.cell? (ad.add y.toNat) = some (.string (nameS y)) := by
  rw [nameS_small h0 h9] at hK
  obtain rfl : cc = [.string (nameS y)] := hK
  have := hcell 0 _ rfl
  rwa [Nat.mul_one, Nat.add_zero] at this
set_option maxHeartbeats 2000000 in
set_option maxRecDepth 100000 in
theorem name_any (y : Int) (w : World) (hy : 0 ≤ y ∧ y < 256) (hN : NamesAt w) : Calls Tryd.prog 10 #[.int .u8 y] w fun e w' => e = .returned (.string (nameS y)) ∧ Below w.heap.size w w' := by
  by_cases hk : kinB y = true
  · have HK := Aside0.mk hk
    have hy2 : 1 ≤ y ∧ y ≤ 8 := by unfold kinB at hk; exact of_decide_eq_true hk
    have h0 : 0 ≤ y := by omega
    have h9 : y < 9 := by omega
    have hcell := hN y.toNat (by omega)
    rw [nameS_small h0 h9] at hcell
    have HN := Aside0.mk hN
    clear hk hN hy
    go_enter Tryd.func10, Tryd.ntmps10
    go_wp2_with (go_at_call 15; refine (kinded_any y _).mono ?_; rw [HK.out]; rintro e w1 ⟨rfl, rfl⟩)
    go_ret
    exact ⟨rfl, Below.refl _ _⟩
  · have HK : Aside0 (kinB y = false) := ⟨by simpa using hk⟩
    have HS : Aside0 (nameS y = ⟨#[]⟩) := ⟨by unfold nameS; rw [if_neg hk]⟩
    clear hk hN
    go_enter Tryd.func10, Tryd.ntmps10
    go_wp2_with (go_at_call 15; refine (kinded_any y _).mono ?_; rw [HK.out]; rintro e w1 ⟨rfl, rfl⟩)
    go_ret
    exact ⟨by rw [HS.out]; rfl, Below.refl _ _⟩
def framemakes_T7 : Bool × List (List Nat × List Nat) := (true, [([], []), ([], []), ([1], [1]), ([0, 2], [0, 2]), ([3], [3]), ([4, 0, 0, 1, 2, 3, 4], [4])])
def framemakes_B7 : List Nat := [0, 0, 2, 7, 15, 31]
theorem framemakes_tab7 : rtab .any (opsOf Tryd.f3 7) = framemakes_T7 := by kernel_rfl
theorem framemakes_bits7 : waitsOk framemakes_T7.2 framemakes_B7 = true := by kernel_rfl
def framemakes_T8 : Bool × List (List Nat × List Nat) := (true, [([], []), ([0], [0]), ([], []), ([2], [2]), ([1, 3], [1, 3]), ([4], [4]), ([5], [5]), ([5], [5]), ([6, 7, 5], [5, 6, 7]), ([5, 8], [5, 8]), ([9, 5], [9]), ([10], [10]), ([11, 10, 10], [10, 11]), ([12, 12, 10], [10, 12]), ([10], [10]), ([14, 13, 10], [10, 14]), ([13, 15, 10], [10, 13, 15]), ([10, 16], [10, 16]), ([17, 15], [17]), ([18], [18]), ([19, 18], [18, 19]), ([20, 18, 18], [18, 20]), ([18], [18]), ([21, 22, 18], [18, 21, 22]), ([18, 23], [18, 23]), ([24, 21], [24]), ([25, 25], [25]), ([25, 26], [25, 26]), ([27, 26, 0, 1, 2, 3, 4, 5, 6, 7, 8, 9, 10, 11, 12, 13, 14, 15, 16, 17, 18, 19, 20, 21, 22, 23, 24, 25, 26, 27], [27])])
def framemakes_B8 : List Nat := [0, 1, 0, 4, 15, 31, 63, 63, 255, 511, 1023, 2047, 4095, 8191, 2047, 32767, 65535, 131071, 262143, 524287, 1048575, 2097151, 524287, 8388607, 16777215, 33554431, 67108863, 134217727, 268435455]
theorem framemakes_tab8 : rtab .any (opsOf Tryd.f3 8) = framemakes_T8 := by kernel_rfl
theorem framemakes_bits8 : waitsOk framemakes_T8.2 framemakes_B8 = true := by kernel_rfl
set_option maxHeartbeats 8000000 in
set_option maxRecDepth 100000 in
theorem framemakes_A (x y : Int) (A : Option Addr) (c : Nat) (l : List Int) (w : World) (hr : Kd.C (Kd.int .u8) w A l.length l) (hc : l.length ≤ c) (hb : Byt l) (hy : 0 ≤ y ∧ y < 256) (hN : NamesAt w) (hn : 5000 < l.length) :
    Calls Tryd.prog 3 #[.agg #[.int .u8 x, .int .u8 y, .slice A l.length c]] w fun e w' => e = .returned (.bool true) ∧ Below w.heap.size w w' := by
  have hu24 := Tryd.underlying24
  have hd1 : decide ((5000 : Int) < (l.length : Int)) = true := by simp; omega
  have hd2 : decide (5000 < l.length) = true := by simp; omega
  clear hr hb hN hn
  go_enter Tryd.func3, Tryd.ntmps3
  go_wp2_with (first
    | ((with_reducible refine gate_dst (N := 1) rfl ?_); refine box_event ?hg (N := 1) ?hd (cs := #[.int .u8 x, .int .u8 y, .slice A l.length c]) (t := 24) ?hr ?_; (case hd => rfl); (case hg => rfl); (case hr => first | (go_simp; done) | (go_simp; rfl)); intro g hg w1 hbox hbb; have HB1 := Aside0.mk hbb; have HG1 := Aside0.mk hbox; have hz0 : w1.cell? ⟨g, 0, none⟩ = some (.int .u8 x) := (blk_cell HG1.out 0).trans rfl; have hz1 : w1.cell? ⟨g, 1, none⟩ = some (.int .u8 y) := (blk_cell HG1.out 1).trans rfl; have hz2 : w1.cell? ⟨g, 2, none⟩ = some (.slice A l.length c) := (blk_cell HG1.out 2).trans rfl; clear hbox hbb hg))
  go_ret
  exact ⟨rfl, HB1.out⟩

set_option maxHeartbeats 8000000 in
set_option maxRecDepth 100000 in
theorem framemakes_B (x y : Int) (A : Option Addr) (c : Nat) (l : List Int) (w : World) (hr : Kd.C (Kd.int .u8) w A l.length l) (hc : l.length ≤ c) (hb : Byt l) (hy : 0 ≤ y ∧ y < 256) (hN : NamesAt w) (hn : l.length ≤ 5000) (hy9 : 9 ≤ y) :
    Calls Tryd.prog 3 #[.agg #[.int .u8 x, .int .u8 y, .slice A l.length c]] w fun e w' => e = .returned (.bool true) ∧ Below w.heap.size w w' := by
  have hu24 := Tryd.underlying24
  have hu28 := Tryd.underlying28
  have HR := Aside0.mk hr
  have HY := Aside0.mk hb
  have HY8 := Aside0.mk hy
  have HN := Aside0.mk hN
  have hd1 : decide ((5000 : Int) < (l.length : Int)) = false := by simp; omega
  have hd2 : decide (5000 < l.length) = false := by simp; omega
  obtain ⟨r, hrr⟩ : ∃ r, r = rightF x y l := ⟨_, rfl⟩
  have HE : Aside0 (rightF x y l = r) := ⟨hrr.symm⟩
  obtain ⟨B, hB⟩ : ∃ B : List Int, B = if r = 0 then frB x y l else [] := ⟨_, rfl⟩
  have HBs : Aside0 ((if r = 0 then signF (makeB x y l) else []) = B) := ⟨by rw [hB]; by_cases h : r = 0 <;> simp only [h, if_true, if_false]; exact frB_sign (hrr.symm.trans h) hb⟩
  have HBr : Aside0 ((if r = 0 then frB x y l else []) = B) := ⟨hB.symm⟩
  have hse : ((strOfNums B).toList == (strOfNums B).toList) = true := beq_self_eq_true _
  have HL47 : Aside0 (l.length < 140737488355328) := ⟨by omega⟩
  have hd9 : decide (y < 9) = false := by simp; omega
  have HS : Aside0 (nameS y = ⟨#[]⟩) := ⟨by unfold nameS; rw [if_neg]; unfold kinB; rw [decide_eq_true_eq]; omega⟩
  clear hr hb hN hn hy9 hrr hB hy
  go_enter Tryd.func3, Tryd.ntmps3
  go_wp2_with (first
    | ((with_reducible refine gate_dst (N := 1) rfl ?_); refine box_event ?hg (N := 1) ?hd (cs := #[.int .u8 x, .int .u8 y, .slice A l.length c]) (t := 24) ?hr ?_; (case hd => rfl); (case hg => rfl); (case hr => first | (go_simp; done) | (go_simp; rfl)); intro g hg w1 hbox hbb; have HB1 := Aside0.mk hbb; have HG1 := Aside0.mk hbox; have hz0 : w1.cell? ⟨g, 0, none⟩ = some (.int .u8 x) := (blk_cell HG1.out 0).trans rfl; have hz1 : w1.cell? ⟨g, 1, none⟩ = some (.int .u8 y) := (blk_cell HG1.out 1).trans rfl; have hz2 : w1.cell? ⟨g, 2, none⟩ = some (.slice A l.length c) := (blk_cell HG1.out 2).trans rfl; clear hbox hbb hg)
    | (go_at_call 6; refine (refmake_any x y _ _ l _ (Kd.C_below HR.out HB3.out) hc HY.out).mono ?_; rw [HE.out, HBr.out]; rintro e w4 ⟨v4, rfl, ho, hb⟩; have HO4 := Aside0.mk ho; have HB4 := Aside0.mk (below_step HB3.out hb); have HG4 := Aside0.mk (blk_below HG3.out hb); have HC34 := Aside0.mk (Kd.C_below HC3.out hb); clear hb ho hz0 hz1 hz2; obtain ⟨A4, c4, e4⟩ := Kd.R_slice HO4.out; subst e4; have HC44 := Aside0.mk (Kd.R_reads' HO4.out).2.2; have hz0 : w4.cell? ⟨g, 0, none⟩ = some (.int .u8 x) := (blk_cell HG4.out 0).trans rfl; have hz1 : w4.cell? ⟨g, 1, none⟩ = some (.int .u8 y) := (blk_cell HG4.out 1).trans rfl; have hz2 : w4.cell? ⟨g, 2, none⟩ = some (.slice A l.length c) := (blk_cell HG4.out 2).trans rfl)
    | (go_at_call 4; refine (make_any x y _ _ l _ (Kd.R_reads' HO2.out).2.2 (Kd.R_reads' HO2.out).2.1).mono ?_; rw [HE.out, HBs.out]; rintro e w3 ⟨v3, rfl, ho, hb⟩; have HO3 := Aside0.mk ho; have HB3 := Aside0.mk (below_step HB2.out hb); have HG3 := Aside0.mk (blk_below HG2.out hb); clear hb ho; obtain ⟨A3, c3, e3⟩ := Kd.R_slice HO3.out; subst e3; have HC3 := Aside0.mk (Kd.R_reads' HO3.out).2.2; have hz0 : w3.cell? ⟨g, 0, none⟩ = some (.int .u8 x) := (blk_cell HG3.out 0).trans rfl; have hz1 : w3.cell? ⟨g, 1, none⟩ = some (.int .u8 y) := (blk_cell HG3.out 1).trans rfl; have hz2 : w3.cell? ⟨g, 2, none⟩ = some (.slice A l.length c) := (blk_cell HG3.out 2).trans rfl)
    | (go_at_call 5; refine (own_any x y _ _ l _ (Kd.C_below HR.out HB1.out) hc HL47.out).mono ?_; rintro e w2 ⟨v2, rfl, ho, hb⟩; have HO2 := Aside0.mk ho; have HB2 := Aside0.mk (below_step HB1.out hb); have HG2 := Aside0.mk (blk_below HG1.out hb); clear hb ho hz0 hz1 hz2; obtain ⟨A2, c2, e2⟩ := Kd.R_slice HO2.out; subst e2))
  refine start_ (n := 29) (S := fun w' => Below w4.heap.size w4 w') (ds := []) #[false, false, false, false, false, false, false, false, false, false, false, false, false, false, false, false, false, false, false, false, false, false, false, false, false, false, false, false, false] (by kernel_rfl) rfl rfl (below_drew (Below.refl _ _)) (fun hHeld => ?_)
  refine with_tabW framemakes_tab8 framemakes_bits8 (fun HT_ HW_ => ?_)
  refine pure_ (i := 0) (N := some 31) (v := ?_) (a' := ?_) #[true, false, false, false, false, false, false, false, false, false, false, false, false, false, false, false, false, false, false, false, false, false, false, false, false, false, false, false, false] rfl rfl (any_of HT_.out (by kernel_rfl)) (fun _ _ _ h => h) (Or.inl ⟨by rfl, ?_⟩) ?_ ?_
  rotate_left
  · intro w'
    go_simp
    with_reducible rfl
  rotate_left
  · simp only [Act.put, List.setIfInBounds_toArray, List.set_cons_zero, List.set_cons_succ, i64_w, i32_w]
    rfl
  refine take_ (i := 1) (N := some 32) (v := ?_) (a' := ?_) #[true, true, false, false, false, false, false, false, false, false, false, false, false, false, false, false, false, false, false, false, false, false, false, false, false, false, false, false, false] rfl rfl (take_ofW HT_.out HW_.out (by kernel_rfl)) (fun _ _ _ h => h) (Or.inl ⟨by rfl, ?_⟩) hHeld ?_ ?_
  rotate_left
  · intro w' s0
    have hcv := Kd.C_string (P := Tryd.prog) (A := A3) (c := c3) Tryd.underlying22 Tryd.underlying5 Tryd.underlying9 (Kd.C_below HC34.out s0)
    go_simp
    with_reducible rfl
  rotate_left
  · simp only [Act.put, List.setIfInBounds_toArray, List.set_cons_zero, List.set_cons_succ, i64_w, i32_w]
    rfl
  refine pure_ (i := 2) (N := some 33) (v := ?_) (a' := ?_) #[true, true, true, false, false, false, false, false, false, false, false, false, false, false, false, false, false, false, false, false, false, false, false, false, false, false, false, false, false] rfl rfl (any_of HT_.out (by kernel_rfl)) (fun _ _ _ h => h) (Or.inl ⟨by rfl, ?_⟩) ?_ ?_
  rotate_left
  · intro w'
    go_simp
    with_reducible rfl
  rotate_left
  · simp only [Act.put, List.setIfInBounds_toArray, List.set_cons_zero, List.set_cons_succ, i64_w, i32_w]
    rfl
  refine take_ (i := 3) (N := some 34) (v := ?_) (a' := ?_) #[true, true, true, true, false, false, false, false, false, false, false, false, false, false, false, false, false, false, false, false, false, false, false, false, false, false, false, false, false] rfl rfl (take_ofW HT_.out HW_.out (by kernel_rfl)) (fun _ _ _ h => h) (Or.inl ⟨by rfl, ?_⟩) hHeld ?_ ?_
  rotate_left
  · intro w' s0
    have hcv := Kd.C_string (P := Tryd.prog) (A := A4) (c := c4) Tryd.underlying22 Tryd.underlying5 Tryd.underlying9 (Kd.C_below HC44.out s0)
    go_simp
    with_reducible rfl
  rotate_left
  · simp only [Act.put, List.setIfInBounds_toArray, List.set_cons_zero, List.set_cons_succ, i64_w, i32_w]
    rfl
  refine pure_ (i := 4) (N := some 35) (v := ?_) (a' := ?_) #[true, true, true, true, true, false, false, false, false, false, false, false, false, false, false, false, false, false, false, false, false, false, false, false, false, false, false, false, false] rfl rfl (any_of HT_.out (by kernel_rfl)) (fun _ _ _ h => h) (Or.inl ⟨by rfl, ?_⟩) ?_ ?_
  rotate_left
  · intro w'
    go_simp
    with_reducible rfl
  rotate_left
  · simp only [Act.put, List.setIfInBounds_toArray, List.set_cons_zero, List.set_cons_succ, i64_w, i32_w]
    rfl
  refine pure_ (i := 5) (N := some 36) (v := ?_) (a' := ?_) #[true, true, true, true, true, true, false, false, false, false, false, false, false, false, false, false, false, false, false, false, false, false, false, false, false, false, false, false, false] rfl rfl (any_of HT_.out (by kernel_rfl)) (fun _ _ _ h => h) (Or.inl ⟨by rfl, ?_⟩) ?_ ?_
  rotate_left
  · intro w'
    go_simp
    with_reducible rfl
  rotate_left
  · simp only [Act.put, List.setIfInBounds_toArray, List.set_cons_zero, List.set_cons_succ, i64_w, i32_w]
    rfl
  refine pure_ (i := 6) (N := some 37) (v := ?_) (a' := ?_) #[true, true, true, true, true, true, true, false, false, false, false, false, false, false, false, false, false, false, false, false, false, false, false, false, false, false, false, false, false] rfl rfl (any_of HT_.out (by kernel_rfl)) (fun _ _ _ h => h) (Or.inl ⟨by rfl, ?_⟩) ?_ ?_
  rotate_left
  · intro w'
    go_simp
    with_reducible rfl
  rotate_left
  · simp only [Act.put, List.setIfInBounds_toArray, List.set_cons_zero, List.set_cons_succ, i64_w, i32_w]
    rfl
  refine pure_ (i := 7) (N := some 38) (v := ?_) (a' := ?_) #[true, true, true, true, true, true, true, true, false, false, false, false, false, false, false, false, false, false, false, false, false, false, false, false, false, false, false, false, false] rfl rfl (any_of HT_.out (by kernel_rfl)) (fun _ _ _ h => h) (Or.inl ⟨by rfl, ?_⟩) ?_ ?_
  rotate_left
  · intro w'
    go_simp
    with_reducible rfl
  rotate_left
  · simp only [Act.put, List.setIfInBounds_toArray, List.set_cons_zero, List.set_cons_succ, i64_w, i32_w]
    rfl
  refine pure_ (i := 8) (N := some 39) (v := ?_) (a' := ?_) #[true, true, true, true, true, true, true, true, true, false, false, false, false, false, false, false, false, false, false, false, false, false, false, false, false, false, false, false, false] rfl rfl (any_of HT_.out (by kernel_rfl)) (fun _ _ _ h => h) (Or.inl ⟨by rfl, ?_⟩) ?_ ?_
  rotate_left
  · intro w'
    go_simp
    with_reducible rfl
  rotate_left
  · simp only [Act.put, List.setIfInBounds_toArray, List.set_cons_zero, List.set_cons_succ, i64_w, i32_w]
    rfl
  refine pure_ (i := 9) (N := some 40) (v := ?_) (a' := ?_) #[true, true, true, true, true, true, true, true, true, true, false, false, false, false, false, false, false, false, false, false, false, false, false, false, false, false, false, false, false] rfl rfl (any_of HT_.out (by kernel_rfl)) (fun _ _ _ h => h) (Or.inl ⟨by rfl, ?_⟩) ?_ ?_
  rotate_left
  · intro w'
    go_simp
    with_reducible rfl
  rotate_left
  · simp only [Act.put, List.setIfInBounds_toArray, List.set_cons_zero, List.set_cons_succ, i64_w, i32_w]
    rfl
  refine pure_ (i := 10) (N := some 41) (v := ?_) (a' := ?_) #[true, true, true, true, true, true, true, true, true, true, true, false, false, false, false, false, false, false, false, false, false, false, false, false, false, false, false, false, false] rfl rfl (any_of HT_.out (by kernel_rfl)) (fun _ _ _ h => h) (Or.inl ⟨by rfl, ?_⟩) ?_ ?_
  rotate_left
  · intro w'
    go_simp
    with_reducible rfl
  rotate_left
  · simp only [Act.put, List.setIfInBounds_toArray, List.set_cons_zero, List.set_cons_succ, i64_w, i32_w]
    rfl
  refine take_ (i := 11) (N := some 42) (v := ?_) (a' := ?_) #[true, true, true, true, true, true, true, true, true, true, true, true, false, false, false, false, false, false, false, false, false, false, false, false, false, false, false, false, false] rfl rfl (take_ofW HT_.out HW_.out (by kernel_rfl)) (fun _ _ _ h => h) (Or.inl ⟨by rfl, ?_⟩) hHeld ?_ ?_
  rotate_left
  · intro w' s0
    have hz0 : w'.cell? ⟨g, 0, none⟩ = some (.int .u8 x) := (blk_cell (Aside0.mk (blk_below HG4.out s0)).out 0).trans rfl
    have hz1 : w'.cell? ⟨g, 1, none⟩ = some (.int .u8 y) := (blk_cell (Aside0.mk (blk_below HG4.out s0)).out 1).trans rfl
    have hz2 : w'.cell? ⟨g, 2, none⟩ = some (.slice A l.length c) := (blk_cell (Aside0.mk (blk_below HG4.out s0)).out 2).trans rfl
    go_simp
    with_reducible rfl
  rotate_left
  · simp only [Act.put, List.setIfInBounds_toArray, List.set_cons_zero, List.set_cons_succ, i64_w, i32_w]
    rfl
  refine take_ (i := 14) (N := some 45) (v := ?_) (a' := ?_) #[true, true, true, true, true, true, true, true, true, true, true, true, false, false, true, false, false, false, false, false, false, false, false, false, false, false, false, false, false] rfl rfl (take_ofW HT_.out HW_.out (by kernel_rfl)) (fun _ _ _ h => h) (Or.inl ⟨by rfl, ?_⟩) hHeld ?_ ?_
  rotate_left
  · intro w' s0
    have hz0 : w'.cell? ⟨g, 0, none⟩ = some (.int .u8 x) := (blk_cell (Aside0.mk (blk_below HG4.out s0)).out 0).trans rfl
    have hz1 : w'.cell? ⟨g, 1, none⟩ = some (.int .u8 y) := (blk_cell (Aside0.mk (blk_below HG4.out s0)).out 1).trans rfl
    have hz2 : w'.cell? ⟨g, 2, none⟩ = some (.slice A l.length c) := (blk_cell (Aside0.mk (blk_below HG4.out s0)).out 2).trans rfl
    go_simp
    with_reducible rfl
  rotate_left
  · simp only [Act.put, List.setIfInBounds_toArray, List.set_cons_zero, List.set_cons_succ, i64_w, i32_w]
    rfl
  refine one_ (i := 12) (N := some 43) #[true, true, true, true, true, true, true, true, true, true, true, true, true, false, true, false, false, false, false, false, false, false, false, false, false, false, false, false, false] rfl rfl (one_of HT_.out (by kernel_rfl)) (by decide) (fun K hK => ?_)
  refine goes_ Tryd.func5 (by kernel_rfl) rfl #[.agg #[.int .u8 x, .int .u8 y, .slice A l.length c]] (by rfl) rfl rfl (by (try simp only [List.map_toArray, List.map_cons, List.map_nil]); first | done | rfl) ?_
  refine (own_any x y A c l _ (Kd.C_below HR.out (below_step HB4.out hHeld)) hc HL47.out).mono ?_
  rintro e w12 ⟨v12, rfl, ho, hb⟩
  refine ⟨_, rfl, ?_⟩
  have HO12 := Aside0.mk ho
  have HB12 := Aside0.mk (below_step hHeld hb)
  clear ho hb
  obtain ⟨A12, c12, e12⟩ := Kd.R_slice HO12.out
  subst e12
  refine hK.out _ _ HB12.out (fun hHeld => ?_)
  clear hK K
  refine norm_ (a' := ?_) ?_ ?_
  rotate_left
  · show Act.put _ (some 43) _ = _
    simp only [Act.put, List.setIfInBounds_toArray, List.set_cons_zero, List.set_cons_succ, i64_w, i32_w]
    rfl
  refine one_ (i := 13) (N := some 44) #[true, true, true, true, true, true, true, true, true, true, true, true, true, true, true, false, false, false, false, false, false, false, false, false, false, false, false, false, false] rfl rfl (one_of HT_.out (by kernel_rfl)) (by decide) (fun K hK => ?_)
  refine goes_ Tryd.func8 (by kernel_rfl) rfl #[.agg #[.int .u8 x, .int .u8 y, .slice A12 l.length c12]] (by rfl) rfl rfl (by (try simp only [List.map_toArray, List.map_cons, List.map_nil]); first | done | rfl) ?_
  refine (right_any x y A12 c12 l _).mono ?_
  rw [HE.out]
  rintro e w13 ⟨rfl, hb⟩
  refine ⟨_, rfl, ?_⟩
  have HB13 := Aside0.mk (below_step hHeld hb)
  clear hb
  refine hK.out _ _ HB13.out (fun hHeld => ?_)
  clear hK K
  refine norm_ (a' := ?_) ?_ ?_
  rotate_left
  · show Act.put _ (some 44) _ = _
    simp only [Act.put, List.setIfInBounds_toArray, List.set_cons_zero, List.set_cons_succ, i64_w, i32_w]
    rfl
  refine one_ (i := 15) (N := some 46) #[true, true, true, true, true, true, true, true, true, true, true, true, true, true, true, true, false, false, false, false, false, false, false, false, false, false, false, false, false] rfl rfl (one_of HT_.out (by kernel_rfl)) (by decide) (fun K hK => ?_)
  refine goes_ Tryd.func9 (by kernel_rfl) rfl #[.agg #[.int .u8 x, .int .u8 y, .slice A l.length c]] (by rfl) rfl rfl (by (try simp only [List.map_toArray, List.map_cons, List.map_nil]); first | done | rfl) ?_
  refine (refright_any x y A c l _ (Kd.C_below HR.out (below_step HB4.out hHeld)) hc).mono ?_
  rw [HE.out]
  rintro e w15 ⟨rfl, hb⟩
  refine ⟨_, rfl, ?_⟩
  have HB15 := Aside0.mk (below_step hHeld hb)
  clear hb
  refine hK.out _ _ HB15.out (fun hHeld => ?_)
  clear hK K
  refine norm_ (a' := ?_) ?_ ?_
  rotate_left
  · show Act.put _ (some 46) _ = _
    simp only [Act.put, List.setIfInBounds_toArray, List.set_cons_zero, List.set_cons_succ, i64_w, i32_w]
    rfl
  refine pure_ (i := 16) (N := some 47) (v := ?_) (a' := ?_) #[true, true, true, true, true, true, true, true, true, true, true, true, true, true, true, true, true, false, false, false, false, false, false, false, false, false, false, false, false] rfl rfl (any_of HT_.out (by kernel_rfl)) (fun _ _ _ h => h) (Or.inl ⟨by rfl, ?_⟩) ?_ ?_
  rotate_left
  · intro w'
    go_simp
    with_reducible rfl
  rotate_left
  · simp only [Act.put, List.setIfInBounds_toArray, List.set_cons_zero, List.set_cons_succ, i64_w, i32_w]
    rfl
  refine pure_ (i := 17) (N := some 48) (v := ?_) (a' := ?_) #[true, true, true, true, true, true, true, true, true, true, true, true, true, true, true, true, true, true, false, false, false, false, false, false, false, false, false, false, false] rfl rfl (any_of HT_.out (by kernel_rfl)) (fun _ _ _ h => h) (Or.inl ⟨by rfl, ?_⟩) ?_ ?_
  rotate_left
  · intro w'
    go_simp
    with_reducible rfl
  rotate_left
  · simp only [Act.put, List.setIfInBounds_toArray, List.set_cons_zero, List.set_cons_succ, i64_w, i32_w]
    rfl
  refine pure_ (i := 18) (N := some 49) (v := ?_) (a' := ?_) #[true, true, true, true, true, true, true, true, true, true, true, true, true, true, true, true, true, true, true, false, false, false, false, false, false, false, false, false, false] rfl rfl (any_of HT_.out (by kernel_rfl)) (fun _ _ _ h => h) (Or.inl ⟨by rfl, ?_⟩) ?_ ?_
  rotate_left
  · intro w'
    go_simp
    with_reducible rfl
  rotate_left
  · simp only [Act.put, List.setIfInBounds_toArray, List.set_cons_zero, List.set_cons_succ, i64_w, i32_w]
    rfl
  refine pure_ (i := 19) (N := some 50) (v := ?_) (a' := ?_) #[true, true, true, true, true, true, true, true, true, true, true, true, true, true, true, true, true, true, true, true, false, false, false, false, false, false, false, false, false] rfl rfl (any_of HT_.out (by kernel_rfl)) (fun _ _ _ h => h) (Or.inl ⟨by rfl, ?_⟩) ?_ ?_
  rotate_left
  · intro w'
    go_simp
    with_reducible rfl
  rotate_left
  · simp only [Act.put, List.setIfInBounds_toArray, List.set_cons_zero, List.set_cons_succ, i64_w, i32_w]
    rfl
  refine take_ (i := 20) (N := some 51) (v := ?_) (a' := ?_) #[true, true, true, true, true, true, true, true, true, true, true, true, true, true, true, true, true, true, true, true, true, false, false, false, false, false, false, false, false] rfl rfl (take_ofW HT_.out HW_.out (by kernel_rfl)) (fun _ _ _ h => h) (Or.inl ⟨by rfl, ?_⟩) hHeld ?_ ?_
  rotate_left
  · intro w' s0
    have hz0 : w'.cell? ⟨g, 0, none⟩ = some (.int .u8 x) := (blk_cell (Aside0.mk (blk_below HG4.out s0)).out 0).trans rfl
    have hz1 : w'.cell? ⟨g, 1, none⟩ = some (.int .u8 y) := (blk_cell (Aside0.mk (blk_below HG4.out s0)).out 1).trans rfl
    have hz2 : w'.cell? ⟨g, 2, none⟩ = some (.slice A l.length c) := (blk_cell (Aside0.mk (blk_below HG4.out s0)).out 2).trans rfl
    go_simp
    with_reducible rfl
  rotate_left
  · simp only [Act.put, List.setIfInBounds_toArray, List.set_cons_zero, List.set_cons_succ, i64_w, i32_w]
    rfl
  refine pure_ (i := 22) (N := some 53) (v := ?_) (a' := ?_) #[true, true, true, true, true, true, true, true, true, true, true, true, true, true, true, true, true, true, true, true, true, false, true, false, false, false, false, false, false] rfl rfl (any_of HT_.out (by kernel_rfl)) (fun _ _ _ h => h) (Or.inl ⟨by rfl, ?_⟩) ?_ ?_
  rotate_left
  · intro w'
    go_simp
    with_reducible rfl
  rotate_left
  · simp only [Act.put, List.setIfInBounds_toArray, List.set_cons_zero, List.set_cons_succ, i64_w, i32_w]
    rfl
  refine one_ (i := 21) (N := some 52) #[true, true, true, true, true, true, true, true, true, true, true, true, true, true, true, true, true, true, true, true, true, true, true, false, false, false, false, false, false] rfl rfl (one_of HT_.out (by kernel_rfl)) (by decide) (fun K hK => ?_)
  refine goes_ Tryd.func10 (by kernel_rfl) rfl #[.int .u8 y] (by rfl) rfl rfl (by (try simp only [List.map_toArray, List.map_cons, List.map_nil]); first | done | rfl) ?_
  refine (name_any y _ HY8.out (names_below HN.out (below_step HB4.out hHeld))).mono ?_
  rw [HS.out]
  rintro e w21 ⟨rfl, hb⟩
  refine ⟨_, rfl, ?_⟩
  have HB21 := Aside0.mk (below_step hHeld hb)
  clear hb
  refine hK.out _ _ HB21.out (fun hHeld => ?_)
  clear hK K
  refine norm_ (a' := ?_) ?_ ?_
  rotate_left
  · show Act.put _ (some 52) _ = _
    simp only [Act.put, List.setIfInBounds_toArray, List.set_cons_zero, List.set_cons_succ, i64_w, i32_w]
    rfl
  refine pure_ (i := 23) (N := some 54) (v := ?_) (a' := ?_) #[true, true, true, true, true, true, true, true, true, true, true, true, true, true, true, true, true, true, true, true, true, true, true, true, false, false, false, false, false] rfl rfl (any_of HT_.out (by kernel_rfl)) (fun _ _ _ h => h) (Or.inl ⟨by rfl, ?_⟩) ?_ ?_
  rotate_left
  · intro w'
    go_simp
    with_reducible rfl
  rotate_left
  · simp only [Act.put, List.setIfInBounds_toArray, List.set_cons_zero, List.set_cons_succ, i64_w, i32_w]
    rfl
  refine pure_ (i := 24) (N := some 55) (v := ?_) (a' := ?_) #[true, true, true, true, true, true, true, true, true, true, true, true, true, true, true, true, true, true, true, true, true, true, true, true, true, false, false, false, false] rfl rfl (any_of HT_.out (by kernel_rfl)) (fun _ _ _ h => h) (Or.inl ⟨by rfl, ?_⟩) ?_ ?_
  rotate_left
  · intro w'
    go_simp
    with_reducible rfl
  rotate_left
  · simp only [Act.put, List.setIfInBounds_toArray, List.set_cons_zero, List.set_cons_succ, i64_w, i32_w]
    rfl
  refine pure_ (i := 25) (N := some 56) (v := ?_) (a' := ?_) #[true, true, true, true, true, true, true, true, true, true, true, true, true, true, true, true, true, true, true, true, true, true, true, true, true, true, false, false, false] rfl rfl (any_of HT_.out (by kernel_rfl)) (fun _ _ _ h => h) (Or.inl ⟨by rfl, ?_⟩) ?_ ?_
  rotate_left
  · intro w'
    go_simp
    with_reducible rfl
  rotate_left
  · simp only [Act.put, List.setIfInBounds_toArray, List.set_cons_zero, List.set_cons_succ, i64_w, i32_w]
    rfl
  refine one_ (i := 26) (N := some 57) #[true, true, true, true, true, true, true, true, true, true, true, true, true, true, true, true, true, true, true, true, true, true, true, true, true, true, true, false, false] rfl rfl (one_of HT_.out (by kernel_rfl)) (by decide) (fun K hK => ?_)
  refine goes_ Tryd.func11 (by kernel_rfl) rfl #[] (by rfl) rfl rfl (by (try simp only [List.map_toArray, List.map_cons, List.map_nil]); first | done | rfl) ?_
  refine (awake4_any _).mono ?_
  rintro e w26 ⟨rfl, hb⟩
  refine ⟨_, rfl, ?_⟩
  have HB26 := Aside0.mk (below_step hHeld hb)
  clear hb
  refine hK.out _ _ HB26.out (fun hHeld => ?_)
  clear hK K
  refine norm_ (a' := ?_) ?_ ?_
  rotate_left
  · show Act.put _ (some 57) _ = _
    simp only [Act.put, List.setIfInBounds_toArray, List.set_cons_zero, List.set_cons_succ, i64_w, i32_w]
    rfl
  refine pure_ (i := 27) (N := some 58) (v := ?_) (a' := ?_) #[true, true, true, true, true, true, true, true, true, true, true, true, true, true, true, true, true, true, true, true, true, true, true, true, true, true, true, true, false] rfl rfl (any_of HT_.out (by kernel_rfl)) (fun _ _ _ h => h) (Or.inl ⟨by rfl, ?_⟩) ?_ ?_
  rotate_left
  · intro w'
    go_simp
    with_reducible rfl
  rotate_left
  · simp only [Act.put, List.setIfInBounds_toArray, List.set_cons_zero, List.set_cons_succ, i64_w, i32_w]
    rfl
  refine pure_ (i := 28) (N := some 2) (v := ?_) (a' := ?_) #[true, true, true, true, true, true, true, true, true, true, true, true, true, true, true, true, true, true, true, true, true, true, true, true, true, true, true, true, true] rfl rfl (any_of HT_.out (by kernel_rfl)) (fun _ _ _ h => h) (Or.inl ⟨by rfl, ?_⟩) ?_ ?_
  rotate_left
  · intro w'
    go_simp
    with_reducible rfl
  rotate_left
  · simp only [Act.put, List.setIfInBounds_toArray, List.set_cons_zero, List.set_cons_succ, i64_w, i32_w]
    rfl
  refine done_ (done_of HT_.out (by kernel_rfl)) ?_
  go_wp2
  go_ret
  exact ⟨rfl, below_step HB4.out HB26.out⟩

set_option maxHeartbeats 8000000 in
set_option maxRecDepth 100000 in
theorem framemakes_C (x y : Int) (A : Option Addr) (c : Nat) (l : List Int) (w : World) (hr : Kd.C (Kd.int .u8) w A l.length l) (hc : l.length ≤ c) (hb : Byt l) (hy : 0 ≤ y ∧ y < 256) (hN : NamesAt w) (hn : l.length ≤ 5000) (hy9 : y < 9) :
    Calls Tryd.prog 3 #[.agg #[.int .u8 x, .int .u8 y, .slice A l.length c]] w fun e w' => e = .returned (.bool true) ∧ Below w.heap.size w w' := by
  have hu24 := Tryd.underlying24
  have hu28 := Tryd.underlying28
  have HR := Aside0.mk hr
  have HY := Aside0.mk hb
  have HY8 := Aside0.mk hy
  have HN := Aside0.mk hN
  have hd1 : decide ((5000 : Int) < (l.length : Int)) = false := by simp; omega
  have hd2 : decide (5000 < l.length) = false := by simp; omega
  obtain ⟨r, hrr⟩ : ∃ r, r = rightF x y l := ⟨_, rfl⟩
  have HE : Aside0 (rightF x y l = r) := ⟨hrr.symm⟩
  obtain ⟨B, hB⟩ : ∃ B : List Int, B = if r = 0 then frB x y l else [] := ⟨_, rfl⟩
  have HBs : Aside0 ((if r = 0 then signF (makeB x y l) else []) = B) := ⟨by rw [hB]; by_cases h : r = 0 <;> simp only [h, if_true, if_false]; exact frB_sign (hrr.symm.trans h) hb⟩
  have HBr : Aside0 ((if r = 0 then frB x y l else []) = B) := ⟨hB.symm⟩
  have hse : ((strOfNums B).toList == (strOfNums B).toList) = true := beq_self_eq_true _
  have HL47 : Aside0 (l.length < 140737488355328) := ⟨by omega⟩
  have hd9 : decide (y < 9) = true := by simp; omega
  have HY9 : Aside0 (y < 9) := ⟨hy9⟩
  have hy0 : 0 ≤ y := hy.1
  obtain ⟨S, hS⟩ : ∃ S, S = nameS y := ⟨_, rfl⟩
  have HS : Aside0 (nameS y = S) := ⟨hS.symm⟩
  have hss : (S.toList == S.toList) = true := beq_self_eq_true _
  clear hr hb hN hn hrr hB hy hS
  go_enter Tryd.func3, Tryd.ntmps3
  go_wp2_with (first
    | ((with_reducible refine gate_dst (N := 1) rfl ?_); refine box_event ?hg (N := 1) ?hd (cs := #[.int .u8 x, .int .u8 y, .slice A l.length c]) (t := 24) ?hr ?_; (case hd => rfl); (case hg => rfl); (case hr => first | (go_simp; done) | (go_simp; rfl)); intro g hg w1 hbox hbb; have HB1 := Aside0.mk hbb; have HG1 := Aside0.mk hbox; have hz0 : w1.cell? ⟨g, 0, none⟩ = some (.int .u8 x) := (blk_cell HG1.out 0).trans rfl; have hz1 : w1.cell? ⟨g, 1, none⟩ = some (.int .u8 y) := (blk_cell HG1.out 1).trans rfl; have hz2 : w1.cell? ⟨g, 2, none⟩ = some (.slice A l.length c) := (blk_cell HG1.out 2).trans rfl; clear hbox hbb hg)
    | (go_at_call 6; refine (refmake_any x y _ _ l _ (Kd.C_below HR.out HB3.out) hc HY.out).mono ?_; rw [HE.out, HBr.out]; rintro e w4 ⟨v4, rfl, ho, hb⟩; have HO4 := Aside0.mk ho; have HB4 := Aside0.mk (below_step HB3.out hb); have HG4 := Aside0.mk (blk_below HG3.out hb); have HC34 := Aside0.mk (Kd.C_below HC3.out hb); clear hb ho hz0 hz1 hz2; obtain ⟨A4, c4, e4⟩ := Kd.R_slice HO4.out; subst e4; have HC44 := Aside0.mk (Kd.R_reads' HO4.out).2.2; have hz0 : w4.cell? ⟨g, 0, none⟩ = some (.int .u8 x) := (blk_cell HG4.out 0).trans rfl; have hz1 : w4.cell? ⟨g, 1, none⟩ = some (.int .u8 y) := (blk_cell HG4.out 1).trans rfl; have hz2 : w4.cell? ⟨g, 2, none⟩ = some (.slice A l.length c) := (blk_cell HG4.out 2).trans rfl)
    | (go_at_call 4; refine (make_any x y _ _ l _ (Kd.R_reads' HO2.out).2.2 (Kd.R_reads' HO2.out).2.1).mono ?_; rw [HE.out, HBs.out]; rintro e w3 ⟨v3, rfl, ho, hb⟩; have HO3 := Aside0.mk ho; have HB3 := Aside0.mk (below_step HB2.out hb); have HG3 := Aside0.mk (blk_below HG2.out hb); clear hb ho; obtain ⟨A3, c3, e3⟩ := Kd.R_slice HO3.out; subst e3; have HC3 := Aside0.mk (Kd.R_reads' HO3.out).2.2; have hz0 : w3.cell? ⟨g, 0, none⟩ = some (.int .u8 x) := (blk_cell HG3.out 0).trans rfl; have hz1 : w3.cell? ⟨g, 1, none⟩ = some (.int .u8 y) := (blk_cell HG3.out 1).trans rfl; have hz2 : w3.cell? ⟨g, 2, none⟩ = some (.slice A l.length c) := (blk_cell HG3.out 2).trans rfl)
    | (go_at_call 5; refine (own_any x y _ _ l _ (Kd.C_below HR.out HB1.out) hc HL47.out).mono ?_; rintro e w2 ⟨v2, rfl, ho, hb⟩; have HO2 := Aside0.mk ho; have HB2 := Aside0.mk (below_step HB1.out hb); have HG2 := Aside0.mk (blk_below HG1.out hb); clear hb ho hz0 hz1 hz2; obtain ⟨A2, c2, e2⟩ := Kd.R_slice HO2.out; subst e2))
  refine start_ (n := 6) (S := fun w' => Below w4.heap.size w4 w') (ds := []) #[false, false, false, false, false, false] (by kernel_rfl) rfl rfl (below_drew (Below.refl _ _)) (fun hHeld => ?_)
  refine with_tabW framemakes_tab7 framemakes_bits7 (fun HT_ HW_ => ?_)
  refine pure_ (i := 1) (N := some 27) (v := ?_) (a' := ?_) #[false, true, false, false, false, false] rfl rfl (any_of HT_.out (by kernel_rfl)) (fun _ _ _ h => h) (Or.inl ⟨by rfl, ?_⟩) ?_ ?_
  rotate_left
  · intro w'
    go_simp
    with_reducible rfl
  rotate_left
  · simp only [Act.put, List.setIfInBounds_toArray, List.set_cons_zero, List.set_cons_succ, i64_w, i32_w]
    rfl
  refine take_ (i := 2) (N := some 28) (v := ?_) (a' := ?_) #[false, true, true, false, false, false] rfl rfl (take_ofW HT_.out HW_.out (by kernel_rfl)) (fun _ _ _ h => h) (Or.inl ⟨by rfl, ?_⟩) hHeld ?_ ?_
  rotate_left
  · intro w' s0
    have hz0 : w'.cell? ⟨g, 0, none⟩ = some (.int .u8 x) := (blk_cell (Aside0.mk (blk_below HG4.out s0)).out 0).trans rfl
    have hz1 : w'.cell? ⟨g, 1, none⟩ = some (.int .u8 y) := (blk_cell (Aside0.mk (blk_below HG4.out s0)).out 1).trans rfl
    have hz2 : w'.cell? ⟨g, 2, none⟩ = some (.slice A l.length c) := (blk_cell (Aside0.mk (blk_below HG4.out s0)).out 2).trans rfl
    go_simp
    with_reducible rfl
  rotate_left
  · simp only [Act.put, List.setIfInBounds_toArray, List.set_cons_zero, List.set_cons_succ, i64_w, i32_w]
    rfl
  refine one_ (i := 0) (N := some 26) #[true, true, true, false, false, false] rfl rfl (one_of HT_.out (by kernel_rfl)) (by decide) (fun K hK => ?_)
  refine goes_ Tryd.func7 (by kernel_rfl) rfl #[] (by rfl) rfl rfl (by (try simp only [List.map_toArray, List.map_cons, List.map_nil]); first | done | rfl) ?_
  refine (lacunaref04_Names.calls _ _ rfl).mono ?_
  rintro e w5 ⟨v5, rfl, ho, hb⟩
  refine ⟨_, rfl, ?_⟩
  have HO5 := Aside0.mk ho
  have HB45 := Aside0.mk (below_step hHeld hb)
  clear ho hb
  obtain ⟨A5, c5, e5⟩ := Kd.R_slice HO5.out
  subst e5
  have hcs := (Kd.R_reads' HO5.out).2.2
  obtain ⟨ad5, cc, e5, _, hK, hcell⟩ := Kd.C_get hcs (⟨#[]⟩ : ByteArray) y HY8.out.1 HY9.out
  subst e5
  have hcell1 := fun (W : World) (hW : Below w5.heap.size w5 W) => pw_cell_below hW (names_cell y HY8.out.1 HY9.out hK hcell)
  have hcw5 := hcell1 _ (Below.refl _ _)
  have hcd5 := hcell1 _ (below_drew (Below.refl _ _))
  rw [HS.out] at hcw5 hcd5
  clear hcs hK hcell hcell1
  refine hK.out _ _ HB45.out (fun hHeld => ?_)
  clear hK K
  refine norm_ (a' := ?_) ?_ ?_
  rotate_left
  · show Act.put _ (some 26) _ = _
    simp only [Act.put, List.setIfInBounds_toArray, List.set_cons_zero, List.set_cons_succ, i64_w, i32_w]
    rfl
  refine pure_ (i := 3) (N := some 29) (v := ?_) (a' := ?_) #[true, true, true, true, false, false] rfl rfl (any_of HT_.out (by kernel_rfl)) (fun _ _ _ h => h) (Or.inl ⟨by rfl, ?_⟩) ?_ ?_
  rotate_left
  · intro w'
    go_simp
    with_reducible rfl
  rotate_left
  · simp only [Act.put, List.setIfInBounds_toArray, List.set_cons_zero, List.set_cons_succ, i64_w, i32_w]
    rfl
  refine one_ (i := 4) (N := some 30) #[true, true, true, true, true, false] rfl rfl (one_of HT_.out (by kernel_rfl)) (by decide) (fun K hK => ?_)
  refine value_ (w1 := ?_) (v := ?_) (by rfl) rfl ?_ ?_
  rotate_left 2
  · go_simp
    constructor
    · rfl
    · rfl
  refine hK.out _ _ HB45.out (fun hHeld => ?_)
  clear hK K
  refine norm_ (a' := ?_) ?_ ?_
  rotate_left
  · show Act.put _ (some 30) _ = _
    simp only [Act.put, List.setIfInBounds_toArray, List.set_cons_zero, List.set_cons_succ, i64_w, i32_w]
    rfl
  refine pure_ (i := 5) (N := some 7) (v := ?_) (a' := ?_) #[true, true, true, true, true, true] rfl rfl (any_of HT_.out (by kernel_rfl)) (fun _ _ _ h => h) (Or.inl ⟨by rfl, ?_⟩) ?_ ?_
  rotate_left
  · intro w'
    go_simp
    with_reducible rfl
  rotate_left
  · simp only [Act.put, List.setIfInBounds_toArray, List.set_cons_zero, List.set_cons_succ, i64_w, i32_w]
    rfl
  refine done_ (done_of HT_.out (by kernel_rfl)) ?_
  have HB5 := Aside0.mk (below_step HB4.out HB45.out)
  have HG5 := Aside0.mk (blk_below HG4.out HB45.out)
  have HC35 := Aside0.mk (Kd.C_below HC34.out HB45.out)
  have HC45 := Aside0.mk (Kd.C_below HC44.out HB45.out)
  clear hz0 hz1 hz2 hcw5 hcd5
  go_wp2
  refine start_ (n := 29) (S := fun w' => Below w5.heap.size w5 w') (ds := []) #[false, false, false, false, false, false, false, false, false, false, false, false, false, false, false, false, false, false, false, false, false, false, false, false, false, false, false, false, false] (by kernel_rfl) rfl rfl (below_drew (Below.refl _ _)) (fun hHeld => ?_)
  refine with_tabW framemakes_tab8 framemakes_bits8 (fun HT_ HW_ => ?_)
  refine pure_ (i := 0) (N := some 31) (v := ?_) (a' := ?_) #[true, false, false, false, false, false, false, false, false, false, false, false, false, false, false, false, false, false, false, false, false, false, false, false, false, false, false, false, false] rfl rfl (any_of HT_.out (by kernel_rfl)) (fun _ _ _ h => h) (Or.inl ⟨by rfl, ?_⟩) ?_ ?_
  rotate_left
  · intro w'
    go_simp
    with_reducible rfl
  rotate_left
  · simp only [Act.put, List.setIfInBounds_toArray, List.set_cons_zero, List.set_cons_succ, i64_w, i32_w]
    rfl
  refine take_ (i := 1) (N := some 32) (v := ?_) (a' := ?_) #[true, true, false, false, false, false, false, false, false, false, false, false, false, false, false, false, false, false, false, false, false, false, false, false, false, false, false, false, false] rfl rfl (take_ofW HT_.out HW_.out (by kernel_rfl)) (fun _ _ _ h => h) (Or.inl ⟨by rfl, ?_⟩) hHeld ?_ ?_
  rotate_left
  · intro w' s0
    have hcv := Kd.C_string (P := Tryd.prog) (A := A3) (c := c3) Tryd.underlying22 Tryd.underlying5 Tryd.underlying9 (Kd.C_below HC35.out s0)
    go_simp
    with_reducible rfl
  rotate_left
  · simp only [Act.put, List.setIfInBounds_toArray, List.set_cons_zero, List.set_cons_succ, i64_w, i32_w]
    rfl
  refine pure_ (i := 2) (N := some 33) (v := ?_) (a' := ?_) #[true, true, true, false, false, false, false, false, false, false, false, false, false, false, false, false, false, false, false, false, false, false, false, false, false, false, false, false, false] rfl rfl (any_of HT_.out (by kernel_rfl)) (fun _ _ _ h => h) (Or.inl ⟨by rfl, ?_⟩) ?_ ?_
  rotate_left
  · intro w'
    go_simp
    with_reducible rfl
  rotate_left
  · simp only [Act.put, List.setIfInBounds_toArray, List.set_cons_zero, List.set_cons_succ, i64_w, i32_w]
    rfl
  refine take_ (i := 3) (N := some 34) (v := ?_) (a' := ?_) #[true, true, true, true, false, false, false, false, false, false, false, false, false, false, false, false, false, false, false, false, false, false, false, false, false, false, false, false, false] rfl rfl (take_ofW HT_.out HW_.out (by kernel_rfl)) (fun _ _ _ h => h) (Or.inl ⟨by rfl, ?_⟩) hHeld ?_ ?_
  rotate_left
  · intro w' s0
    have hcv := Kd.C_string (P := Tryd.prog) (A := A4) (c := c4) Tryd.underlying22 Tryd.underlying5 Tryd.underlying9 (Kd.C_below HC45.out s0)
    go_simp
    with_reducible rfl
  rotate_left
  · simp only [Act.put, List.setIfInBounds_toArray, List.set_cons_zero, List.set_cons_succ, i64_w, i32_w]
    rfl
  refine pure_ (i := 4) (N := some 35) (v := ?_) (a' := ?_) #[true, true, true, true, true, false, false, false, false, false, false, false, false, false, false, false, false, false, false, false, false, false, false, false, false, false, false, false, false] rfl rfl (any_of HT_.out (by kernel_rfl)) (fun _ _ _ h => h) (Or.inl ⟨by rfl, ?_⟩) ?_ ?_
  rotate_left
  · intro w'
    go_simp
    with_reducible rfl
  rotate_left
  · simp only [Act.put, List.setIfInBounds_toArray, List.set_cons_zero, List.set_cons_succ, i64_w, i32_w]
    rfl
  refine pure_ (i := 5) (N := some 36) (v := ?_) (a' := ?_) #[true, true, true, true, true, true, false, false, false, false, false, false, false, false, false, false, false, false, false, false, false, false, false, false, false, false, false, false, false] rfl rfl (any_of HT_.out (by kernel_rfl)) (fun _ _ _ h => h) (Or.inl ⟨by rfl, ?_⟩) ?_ ?_
  rotate_left
  · intro w'
    go_simp
    with_reducible rfl
  rotate_left
  · simp only [Act.put, List.setIfInBounds_toArray, List.set_cons_zero, List.set_cons_succ, i64_w, i32_w]
    rfl
  refine pure_ (i := 6) (N := some 37) (v := ?_) (a' := ?_) #[true, true, true, true, true, true, true, false, false, false, false, false, false, false, false, false, false, false, false, false, false, false, false, false, false, false, false, false, false] rfl rfl (any_of HT_.out (by kernel_rfl)) (fun _ _ _ h => h) (Or.inl ⟨by rfl, ?_⟩) ?_ ?_
  rotate_left
  · intro w'
    go_simp
    with_reducible rfl
  rotate_left
  · simp only [Act.put, List.setIfInBounds_toArray, List.set_cons_zero, List.set_cons_succ, i64_w, i32_w]
    rfl
  refine pure_ (i := 7) (N := some 38) (v := ?_) (a' := ?_) #[true, true, true, true, true, true, true, true, false, false, false, false, false, false, false, false, false, false, false, false, false, false, false, false, false, false, false, false, false] rfl rfl (any_of HT_.out (by kernel_rfl)) (fun _ _ _ h => h) (Or.inl ⟨by rfl, ?_⟩) ?_ ?_
  rotate_left
  · intro w'
    go_simp
    with_reducible rfl
  rotate_left
  · simp only [Act.put, List.setIfInBounds_toArray, List.set_cons_zero, List.set_cons_succ, i64_w, i32_w]
    rfl
  refine pure_ (i := 8) (N := some 39) (v := ?_) (a' := ?_) #[true, true, true, true, true, true, true, true, true, false, false, false, false, false, false, false, false, false, false, false, false, false, false, false, false, false, false, false, false] rfl rfl (any_of HT_.out (by kernel_rfl)) (fun _ _ _ h => h) (Or.inl ⟨by rfl, ?_⟩) ?_ ?_
  rotate_left
  · intro w'
    go_simp
    with_reducible rfl
  rotate_left
  · simp only [Act.put, List.setIfInBounds_toArray, List.set_cons_zero, List.set_cons_succ, i64_w, i32_w]
    rfl
  refine pure_ (i := 9) (N := some 40) (v := ?_) (a' := ?_) #[true, true, true, true, true, true, true, true, true, true, false, false, false, false, false, false, false, false, false, false, false, false, false, false, false, false, false, false, false] rfl rfl (any_of HT_.out (by kernel_rfl)) (fun _ _ _ h => h) (Or.inl ⟨by rfl, ?_⟩) ?_ ?_
  rotate_left
  · intro w'
    go_simp
    with_reducible rfl
  rotate_left
  · simp only [Act.put, List.setIfInBounds_toArray, List.set_cons_zero, List.set_cons_succ, i64_w, i32_w]
    rfl
  refine pure_ (i := 10) (N := some 41) (v := ?_) (a' := ?_) #[true, true, true, true, true, true, true, true, true, true, true, false, false, false, false, false, false, false, false, false, false, false, false, false, false, false, false, false, false] rfl rfl (any_of HT_.out (by kernel_rfl)) (fun _ _ _ h => h) (Or.inl ⟨by rfl, ?_⟩) ?_ ?_
  rotate_left
  · intro w'
    go_simp
    with_reducible rfl
  rotate_left
  · simp only [Act.put, List.setIfInBounds_toArray, List.set_cons_zero, List.set_cons_succ, i64_w, i32_w]
    rfl
  refine take_ (i := 11) (N := some 42) (v := ?_) (a' := ?_) #[true, true, true, true, true, true, true, true, true, true, true, true, false, false, false, false, false, false, false, false, false, false, false, false, false, false, false, false, false] rfl rfl (take_ofW HT_.out HW_.out (by kernel_rfl)) (fun _ _ _ h => h) (Or.inl ⟨by rfl, ?_⟩) hHeld ?_ ?_
  rotate_left
  · intro w' s0
    have hz0 : w'.cell? ⟨g, 0, none⟩ = some (.int .u8 x) := (blk_cell (Aside0.mk (blk_below HG5.out s0)).out 0).trans rfl
    have hz1 : w'.cell? ⟨g, 1, none⟩ = some (.int .u8 y) := (blk_cell (Aside0.mk (blk_below HG5.out s0)).out 1).trans rfl
    have hz2 : w'.cell? ⟨g, 2, none⟩ = some (.slice A l.length c) := (blk_cell (Aside0.mk (blk_below HG5.out s0)).out 2).trans rfl
    go_simp
    with_reducible rfl
  rotate_left
  · simp only [Act.put, List.setIfInBounds_toArray, List.set_cons_zero, List.set_cons_succ, i64_w, i32_w]
    rfl
  refine take_ (i := 14) (N := some 45) (v := ?_) (a' := ?_) #[true, true, true, true, true, true, true, true, true, true, true, true, false, false, true, false, false, false, false, false, false, false, false, false, false, false, false, false, false] rfl rfl (take_ofW HT_.out HW_.out (by kernel_rfl)) (fun _ _ _ h => h) (Or.inl ⟨by rfl, ?_⟩) hHeld ?_ ?_
  rotate_left
  · intro w' s0
    have hz0 : w'.cell? ⟨g, 0, none⟩ = some (.int .u8 x) := (blk_cell (Aside0.mk (blk_below HG5.out s0)).out 0).trans rfl
    have hz1 : w'.cell? ⟨g, 1, none⟩ = some (.int .u8 y) := (blk_cell (Aside0.mk (blk_below HG5.out s0)).out 1).trans rfl
    have hz2 : w'.cell? ⟨g, 2, none⟩ = some (.slice A l.length c) := (blk_cell (Aside0.mk (blk_below HG5.out s0)).out 2).trans rfl
    go_simp
    with_reducible rfl
  rotate_left
  · simp only [Act.put, List.setIfInBounds_toArray, List.set_cons_zero, List.set_cons_succ, i64_w, i32_w]
    rfl
  refine one_ (i := 12) (N := some 43) #[true, true, true, true, true, true, true, true, true, true, true, true, true, false, true, false, false, false, false, false, false, false, false, false, false, false, false, false, false] rfl rfl (one_of HT_.out (by kernel_rfl)) (by decide) (fun K hK => ?_)
  refine goes_ Tryd.func5 (by kernel_rfl) rfl #[.agg #[.int .u8 x, .int .u8 y, .slice A l.length c]] (by rfl) rfl rfl (by (try simp only [List.map_toArray, List.map_cons, List.map_nil]); first | done | rfl) ?_
  refine (own_any x y A c l _ (Kd.C_below HR.out (below_step HB5.out hHeld)) hc HL47.out).mono ?_
  rintro e w12 ⟨v12, rfl, ho, hb⟩
  refine ⟨_, rfl, ?_⟩
  have HO12 := Aside0.mk ho
  have HB12 := Aside0.mk (below_step hHeld hb)
  clear ho hb
  obtain ⟨A12, c12, e12⟩ := Kd.R_slice HO12.out
  subst e12
  refine hK.out _ _ HB12.out (fun hHeld => ?_)
  clear hK K
  refine norm_ (a' := ?_) ?_ ?_
  rotate_left
  · show Act.put _ (some 43) _ = _
    simp only [Act.put, List.setIfInBounds_toArray, List.set_cons_zero, List.set_cons_succ, i64_w, i32_w]
    rfl
  refine one_ (i := 13) (N := some 44) #[true, true, true, true, true, true, true, true, true, true, true, true, true, true, true, false, false, false, false, false, false, false, false, false, false, false, false, false, false] rfl rfl (one_of HT_.out (by kernel_rfl)) (by decide) (fun K hK => ?_)
  refine goes_ Tryd.func8 (by kernel_rfl) rfl #[.agg #[.int .u8 x, .int .u8 y, .slice A12 l.length c12]] (by rfl) rfl rfl (by (try simp only [List.map_toArray, List.map_cons, List.map_nil]); first | done | rfl) ?_
  refine (right_any x y A12 c12 l _).mono ?_
  rw [HE.out]
  rintro e w13 ⟨rfl, hb⟩
  refine ⟨_, rfl, ?_⟩
  have HB13 := Aside0.mk (below_step hHeld hb)
  clear hb
  refine hK.out _ _ HB13.out (fun hHeld => ?_)
  clear hK K
  refine norm_ (a' := ?_) ?_ ?_
  rotate_left
  · show Act.put _ (some 44) _ = _
    simp only [Act.put, List.setIfInBounds_toArray, List.set_cons_zero, List.set_cons_succ, i64_w, i32_w]
    rfl
  refine one_ (i := 15) (N := some 46) #[true, true, true, true, true, true, true, true, true, true, true, true, true, true, true, true, false, false, false, false, false, false, false, false, false, false, false, false, false] rfl rfl (one_of HT_.out (by kernel_rfl)) (by decide) (fun K hK => ?_)
  refine goes_ Tryd.func9 (by kernel_rfl) rfl #[.agg #[.int .u8 x, .int .u8 y, .slice A l.length c]] (by rfl) rfl rfl (by (try simp only [List.map_toArray, List.map_cons, List.map_nil]); first | done | rfl) ?_
  refine (refright_any x y A c l _ (Kd.C_below HR.out (below_step HB5.out hHeld)) hc).mono ?_
  rw [HE.out]
  rintro e w15 ⟨rfl, hb⟩
  refine ⟨_, rfl, ?_⟩
  have HB15 := Aside0.mk (below_step hHeld hb)
  clear hb
  refine hK.out _ _ HB15.out (fun hHeld => ?_)
  clear hK K
  refine norm_ (a' := ?_) ?_ ?_
  rotate_left
  · show Act.put _ (some 46) _ = _
    simp only [Act.put, List.setIfInBounds_toArray, List.set_cons_zero, List.set_cons_succ, i64_w, i32_w]
    rfl
  refine pure_ (i := 16) (N := some 47) (v := ?_) (a' := ?_) #[true, true, true, true, true, true, true, true, true, true, true, true, true, true, true, true, true, false, false, false, false, false, false, false, false, false, false, false, false] rfl rfl (any_of HT_.out (by kernel_rfl)) (fun _ _ _ h => h) (Or.inl ⟨by rfl, ?_⟩) ?_ ?_
  rotate_left
  · intro w'
    go_simp
    with_reducible rfl
  rotate_left
  · simp only [Act.put, List.setIfInBounds_toArray, List.set_cons_zero, List.set_cons_succ, i64_w, i32_w]
    rfl
  refine pure_ (i := 17) (N := some 48) (v := ?_) (a' := ?_) #[true, true, true, true, true, true, true, true, true, true, true, true, true, true, true, true, true, true, false, false, false, false, false, false, false, false, false, false, false] rfl rfl (any_of HT_.out (by kernel_rfl)) (fun _ _ _ h => h) (Or.inl ⟨by rfl, ?_⟩) ?_ ?_
  rotate_left
  · intro w'
    go_simp
    with_reducible rfl
  rotate_left
  · simp only [Act.put, List.setIfInBounds_toArray, List.set_cons_zero, List.set_cons_succ, i64_w, i32_w]
    rfl
  refine pure_ (i := 18) (N := some 49) (v := ?_) (a' := ?_) #[true, true, true, true, true, true, true, true, true, true, true, true, true, true, true, true, true, true, true, false, false, false, false, false, false, false, false, false, false] rfl rfl (any_of HT_.out (by kernel_rfl)) (fun _ _ _ h => h) (Or.inl ⟨by rfl, ?_⟩) ?_ ?_
  rotate_left
  · intro w'
    go_simp
    with_reducible rfl
  rotate_left
  · simp only [Act.put, List.setIfInBounds_toArray, List.set_cons_zero, List.set_cons_succ, i64_w, i32_w]
    rfl
  refine pure_ (i := 19) (N := some 50) (v := ?_) (a' := ?_) #[true, true, true, true, true, true, true, true, true, true, true, true, true, true, true, true, true, true, true, true, false, false, false, false, false, false, false, false, false] rfl rfl (any_of HT_.out (by kernel_rfl)) (fun _ _ _ h => h) (Or.inl ⟨by rfl, ?_⟩) ?_ ?_
  rotate_left
  · intro w'
    go_simp
    with_reducible rfl
  rotate_left
  · simp only [Act.put, List.setIfInBounds_toArray, List.set_cons_zero, List.set_cons_succ, i64_w, i32_w]
    rfl
  refine take_ (i := 20) (N := some 51) (v := ?_) (a' := ?_) #[true, true, true, true, true, true, true, true, true, true, true, true, true, true, true, true, true, true, true, true, true, false, false, false, false, false, false, false, false] rfl rfl (take_ofW HT_.out HW_.out (by kernel_rfl)) (fun _ _ _ h => h) (Or.inl ⟨by rfl, ?_⟩) hHeld ?_ ?_
  rotate_left
  · intro w' s0
    have hz0 : w'.cell? ⟨g, 0, none⟩ = some (.int .u8 x) := (blk_cell (Aside0.mk (blk_below HG5.out s0)).out 0).trans rfl
    have hz1 : w'.cell? ⟨g, 1, none⟩ = some (.int .u8 y) := (blk_cell (Aside0.mk (blk_below HG5.out s0)).out 1).trans rfl
    have hz2 : w'.cell? ⟨g, 2, none⟩ = some (.slice A l.length c) := (blk_cell (Aside0.mk (blk_below HG5.out s0)).out 2).trans rfl
    go_simp
    with_reducible rfl
  rotate_left
  · simp only [Act.put, List.setIfInBounds_toArray, List.set_cons_zero, List.set_cons_succ, i64_w, i32_w]
    rfl
  refine pure_ (i := 22) (N := some 53) (v := ?_) (a' := ?_) #[true, true, true, true, true, true, true, true, true, true, true, true, true, true, true, true, true, true, true, true, true, false, true, false, false, false, false, false, false] rfl rfl (any_of HT_.out (by kernel_rfl)) (fun _ _ _ h => h) (Or.inl ⟨by rfl, ?_⟩) ?_ ?_
  rotate_left
  · intro w'
    go_simp
    with_reducible rfl
  rotate_left
  · simp only [Act.put, List.setIfInBounds_toArray, List.set_cons_zero, List.set_cons_succ, i64_w, i32_w]
    rfl
  refine one_ (i := 21) (N := some 52) #[true, true, true, true, true, true, true, true, true, true, true, true, true, true, true, true, true, true, true, true, true, true, true, false, false, false, false, false, false] rfl rfl (one_of HT_.out (by kernel_rfl)) (by decide) (fun K hK => ?_)
  refine goes_ Tryd.func10 (by kernel_rfl) rfl #[.int .u8 y] (by rfl) rfl rfl (by (try simp only [List.map_toArray, List.map_cons, List.map_nil]); first | done | rfl) ?_
  refine (name_any y _ HY8.out (names_below HN.out (below_step HB5.out hHeld))).mono ?_
  rw [HS.out]
  rintro e w21 ⟨rfl, hb⟩
  refine ⟨_, rfl, ?_⟩
  have HB21 := Aside0.mk (below_step hHeld hb)
  clear hb
  refine hK.out _ _ HB21.out (fun hHeld => ?_)
  clear hK K
  refine norm_ (a' := ?_) ?_ ?_
  rotate_left
  · show Act.put _ (some 52) _ = _
    simp only [Act.put, List.setIfInBounds_toArray, List.set_cons_zero, List.set_cons_succ, i64_w, i32_w]
    rfl
  refine pure_ (i := 23) (N := some 54) (v := ?_) (a' := ?_) #[true, true, true, true, true, true, true, true, true, true, true, true, true, true, true, true, true, true, true, true, true, true, true, true, false, false, false, false, false] rfl rfl (any_of HT_.out (by kernel_rfl)) (fun _ _ _ h => h) (Or.inl ⟨by rfl, ?_⟩) ?_ ?_
  rotate_left
  · intro w'
    go_simp
    with_reducible rfl
  rotate_left
  · simp only [Act.put, List.setIfInBounds_toArray, List.set_cons_zero, List.set_cons_succ, i64_w, i32_w]
    rfl
  refine pure_ (i := 24) (N := some 55) (v := ?_) (a' := ?_) #[true, true, true, true, true, true, true, true, true, true, true, true, true, true, true, true, true, true, true, true, true, true, true, true, true, false, false, false, false] rfl rfl (any_of HT_.out (by kernel_rfl)) (fun _ _ _ h => h) (Or.inl ⟨by rfl, ?_⟩) ?_ ?_
  rotate_left
  · intro w'
    go_simp
    with_reducible rfl
  rotate_left
  · simp only [Act.put, List.setIfInBounds_toArray, List.set_cons_zero, List.set_cons_succ, i64_w, i32_w]
    rfl
  refine pure_ (i := 25) (N := some 56) (v := ?_) (a' := ?_) #[true, true, true, true, true, true, true, true, true, true, true, true, true, true, true, true, true, true, true, true, true, true, true, true, true, true, false, false, false] rfl rfl (any_of HT_.out (by kernel_rfl)) (fun _ _ _ h => h) (Or.inl ⟨by rfl, ?_⟩) ?_ ?_
  rotate_left
  · intro w'
    go_simp
    with_reducible rfl
  rotate_left
  · simp only [Act.put, List.setIfInBounds_toArray, List.set_cons_zero, List.set_cons_succ, i64_w, i32_w]
    rfl
  refine one_ (i := 26) (N := some 57) #[true, true, true, true, true, true, true, true, true, true, true, true, true, true, true, true, true, true, true, true, true, true, true, true, true, true, true, false, false] rfl rfl (one_of HT_.out (by kernel_rfl)) (by decide) (fun K hK => ?_)
  refine goes_ Tryd.func11 (by kernel_rfl) rfl #[] (by rfl) rfl rfl (by (try simp only [List.map_toArray, List.map_cons, List.map_nil]); first | done | rfl) ?_
  refine (awake4_any _).mono ?_
  rintro e w26 ⟨rfl, hb⟩
  refine ⟨_, rfl, ?_⟩
  have HB26 := Aside0.mk (below_step hHeld hb)
  clear hb
  refine hK.out _ _ HB26.out (fun hHeld => ?_)
  clear hK K
  refine norm_ (a' := ?_) ?_ ?_
  rotate_left
  · show Act.put _ (some 57) _ = _
    simp only [Act.put, List.setIfInBounds_toArray, List.set_cons_zero, List.set_cons_succ, i64_w, i32_w]
    rfl
  refine pure_ (i := 27) (N := some 58) (v := ?_) (a' := ?_) #[true, true, true, true, true, true, true, true, true, true, true, true, true, true, true, true, true, true, true, true, true, true, true, true, true, true, true, true, false] rfl rfl (any_of HT_.out (by kernel_rfl)) (fun _ _ _ h => h) (Or.inl ⟨by rfl, ?_⟩) ?_ ?_
  rotate_left
  · intro w'
    go_simp
    with_reducible rfl
  rotate_left
  · simp only [Act.put, List.setIfInBounds_toArray, List.set_cons_zero, List.set_cons_succ, i64_w, i32_w]
    rfl
  refine pure_ (i := 28) (N := some 2) (v := ?_) (a' := ?_) #[true, true, true, true, true, true, true, true, true, true, true, true, true, true, true, true, true, true, true, true, true, true, true, true, true, true, true, true, true] rfl rfl (any_of HT_.out (by kernel_rfl)) (fun _ _ _ h => h) (Or.inl ⟨by rfl, ?_⟩) ?_ ?_
  rotate_left
  · intro w'
    go_simp
    with_reducible rfl
  rotate_left
  · simp only [Act.put, List.setIfInBounds_toArray, List.set_cons_zero, List.set_cons_succ, i64_w, i32_w]
    rfl
  refine done_ (done_of HT_.out (by kernel_rfl)) ?_
  go_wp2
  go_ret
  exact ⟨rfl, below_step HB5.out HB26.out⟩

theorem framemakes_any (x y : Int) (A : Option Addr) (c : Nat) (l : List Int) (w : World) (hr : Kd.C (Kd.int .u8) w A l.length l) (hc : l.length ≤ c) (hb : Byt l) (hy : 0 ≤ y ∧ y < 256) (hN : NamesAt w) :
    Calls Tryd.prog 3 #[.agg #[.int .u8 x, .int .u8 y, .slice A l.length c]] w fun e w' => e = .returned (.bool true) ∧ Below w.heap.size w w' := by
  by_cases hn : 5000 < l.length
  · exact framemakes_A x y A c l w hr hc hb hy hN hn
  · by_cases hy9 : y < 9
    · exact framemakes_C x y A c l w hr hc hb hy hN (by omega) hy9
    · exact framemakes_B x y A c l w hr hc hb hy hN (by omega) (by omega)
end Go.Proofs.YtonbphiaideleaaDoor.M
