/- lacunaref03.Turned: its walk, written by the print's program, and what it comes to on numbers. -/
import Derived.Test.YtonbphiaideleaaMresidue
import Derived.Test.YtonbphiaideleaaMcuts
import Derived.Test.YtonbphiaideleaaWWords
import Derived.Test.YtonbphiaideleaaWLast
import Derived.Test.YtonbphiaideleaaWTab
import Derived.Test.YtonbphiaideleaaWFour
import Derived.Test.YtonbphiaideleaaWQPut
import Derived.Test.YtonbphiaideleaaWApart
import Derived.Test.YtonbphiaideleaaWArr
import Derived.Test.YtonbphiaideleaaWZeros
import Derived.Test.YtonbphiaideleaaWFoot
import Derived.Test.YtonbphiaideleaaWKept
import Derived.Test.YtonbphiaideleaaWShare
import Derived.Test.YtonbphiaideleaaWN
import Derived.Test.YtonbphiaideleaaWFootNe
import Derived.Test.YtonbphiaideleaaWAt
import Derived.Test.YtonbphiaideleaaWEqStruct
import Derived.Test.YtonbphiaideleaaWRepsOne
import Derived.Test.YtonbphiaideleaaWInv
import Derived.Test.YtonbphiaideleaaWInvWords
import Derived.Test.YtonbphiaideleaaWGuard
import Derived.Test.YtonbphiaideleaaWNEv
import Derived.Test.YtonbphiaideleaaWMore
namespace Go.Proofs.Ytonbphiaideleaa.M
open Go.RowKit Go.Proofs.YtonbphiaideleaaW.PrintWords Go.Proofs.YtonbphiaideleaaW.PrintLast Go.Proofs.YtonbphiaideleaaW.PrintMore
attribute [local go_sem] max2_int min2_int max_two min_two max_three min_three max_four min_four
set_option linter.unusedVariables false
set_option linter.unusedSimpArgs false

/-! ### turnedP: function 25 -/
def turnedP.l0 : Nat → Int → Int → List Int → Int → Option (List Int)
  | 0, _, _, _, _ => none
  | k + 1, x1, x2, x7, x8 => if x8 < 32 then (if 0 ≤ x8 then (if (Int.tmod (shr .u32 x2 x8) 2) = 1 then (if (wrap64 (x1 + x8)) ≥ 0 then (if (wrap64 (x1 + x8)) < (wrap64 (8 * (x7.length : Int))) then (if 0 ≤ (wrap64 (Int.tdiv (wrap64 (x1 + x8)) 8)) then (if (wrap64 (Int.tdiv (wrap64 (x1 + x8)) 8)) < (x7.length : Int) then (if 0 ≤ (Int.tmod (wrap64 (x1 + x8)) 8) then (turnedP.l0 k x1 x2 (x7.set ((wrap64 (Int.tdiv (wrap64 (x1 + x8)) 8)) : Int).toNat (Go.bits .xor .u8 (rd x7 (wrap64 (Int.tdiv (wrap64 (x1 + x8)) 8))) (shl .u8 1 (Int.tmod (wrap64 (x1 + x8)) 8)))) (wrap64 (x8 + 1))) else (none)) else (none)) else (none)) else (turnedP.l0 k x1 x2 x7 (wrap64 (x8 + 1)))) else (turnedP.l0 k x1 x2 x7 (wrap64 (x8 + 1)))) else (turnedP.l0 k x1 x2 x7 (wrap64 (x8 + 1)))) else (none)) else (some x7)
def turnedP.f (k : Nat) (l0 : List Int) (a1 : Int) (a2 : Int) : Option (List Int) := (some (([] : List Int) : List Int)).bind fun y188 => (if y188.length + l0.length < 140737488355328 then (turnedP.l0 k a1 a2 (y188 ++ l0) 0) else (none))
theorem turnedP.mono_l : ∀ k, (∀ y0 y1 y2 y3, LeO (turnedP.l0 k y0 y1 y2 y3) (turnedP.l0 (k + 1) y0 y1 y2 y3))
  | 0 => fun _ _ _ _ r h => by simp [turnedP.l0] at h
  | k + 1 => by
    have ih0 := turnedP.mono_l k
    · intro y0 y1 y2 y3
      unfold turnedP.l0
      repeat' first
      | (with_reducible exact ih0 _ _ _ _)
      | (with_reducible exact LeO.refl _)
      | (with_reducible exact LeO.none _)
      | (with_reducible refine LeO.ite ?_ ?_)
      | (with_reducible refine LeO.bind ?_ (fun _ => ?_))
      | exact ih0 _ _ _ _
      | exact LeO.none _
      | refine LeO.ite ?_ ?_
      | refine LeO.bind ?_ (fun _ => ?_)
theorem turnedP.mono : ∀ a0 a1 a2 k, LeO (turnedP.f k a0 a1 a2) (turnedP.f (k + 1) a0 a1 a2) := by
  intro a0 a1 a2 k
  have ih0 := turnedP.mono_l k
  unfold turnedP.f
  repeat' first
      | (with_reducible exact ih0 _ _ _ _)
      | (with_reducible exact LeO.refl _)
      | (with_reducible exact LeO.none _)
      | (with_reducible refine LeO.ite ?_ ?_)
      | (with_reducible refine LeO.bind ?_ (fun _ => ?_))
      | exact ih0 _ _ _ _
      | exact LeO.none _
      | refine LeO.ite ?_ ?_
      | refine LeO.bind ?_ (fun _ => ?_)
def turnedP.T7 : Bool × List (List Nat × List Nat) := (true, [([], []), ([], []), ([1], [1]), ([], []), ([], []), ([4], [4]), ([3, 5], [3, 5]), ([6], [6]), ([], []), ([8], [8]), ([9], [9]), ([7, 10], [7, 10]), ([0, 2, 0, 1, 2, 3, 4, 5, 6, 7, 8, 9, 10, 11], [0, 2]), ([12, 11, 0, 1, 2, 3, 4, 5, 6, 7, 8, 9, 10, 11], [11, 12])])
def turnedP.B7 : List Nat := [0, 0, 2, 0, 0, 16, 56, 120, 0, 256, 768, 2040, 4095, 8191]
theorem turnedP.tab7 : rtab .any (opsOf Try.f25 7) = turnedP.T7 := by kernel_rfl
theorem turnedP.bits7 : waitsOk turnedP.T7.2 turnedP.B7 = true := by kernel_rfl
set_option maxHeartbeats 8000000 in
set_option maxRecDepth 100000 in
theorem turnedP.calls (k : Nat) (A0 : Option Addr) (c0 : Nat) (l0 : List Int) (a1 : Int) (a2 : Int) (r : List Int) (w : World) (hr0 : Kd.C (Kd.int .u8) w A0 l0.length l0) (hc0 : l0.length ≤ c0) (h : turnedP.f k l0 a1 a2 = some r) :
    Calls Try.prog 25 #[.slice A0 l0.length c0, .int .i64 a1, .int .u32 a2] w fun e w' => ∃ v0_ : Value, e = .returned (v0_) ∧ Kd.R (Kd.int .u8) 5 w' w.heap.size (fun _ => True) v0_ r ∧ Below w.heap.size w w' := by
  have HR0 := Aside0.mk hr0
  have HC0 := Aside0.mk hc0
  clear hr0 hc0
  have HB := Aside0.mk (Below.refl w.heap.size w)
  have H : ((some (([] : List Int) : List Int)).bind fun y188 => (if y188.length + l0.length < 140737488355328 then (turnedP.l0 k a1 a2 (y188 ++ l0) 0) else (none))) = some r := h
  clear h
  obtain ⟨y188, hy188⟩ : ∃ y_ : List Int, y_ = (([] : List Int)) := ⟨_, rfl⟩
  replace H : (if y188.length + l0.length < 140737488355328 then (turnedP.l0 k a1 a2 (y188 ++ l0) 0) else (none)) = some r := by first | (rw [hy188]; with_reducible exact H) | (have H2_ := (Option.bind_some _ _).symm.trans H; rw [hy188]; with_reducible exact H2_) | (have H2_ := (Option.bind_some _ _).symm.trans H; with_reducible exact H2_) | with_reducible exact H | (rw [hy188]; exact H) | exact H
  have Ny188 := Aside0.mk hy188
  clear hy188
  by_cases c4 : y188.length + l0.length < 140737488355328
  · rw [if_pos c4] at H
    have LMc4 := Aside0.mk c4
    clear c4
    obtain ⟨y191, hy191⟩ : ∃ y_ : List Int, y_ = (y188 ++ l0) := ⟨_, rfl⟩
    replace H : (turnedP.l0 k a1 a2 y191 0) = some r := by first | (rw [hy191]; with_reducible exact H) | (have H2_ := (Option.bind_some _ _).symm.trans H; rw [hy191]; with_reducible exact H2_) | (have H2_ := (Option.bind_some _ _).symm.trans H; with_reducible exact H2_) | with_reducible exact H | (rw [hy191]; exact H) | exact H
    have Ny191 := Aside0.mk hy191
    clear hy191
    have H' := Aside0.mk H
    clear H
    go_enter Try.func25, Try.ntmps25
    go_wp2_with (first | ((with_reducible refine gate_dst (N := 10) rfl ?_); (try (refine gate_guard (by rfl) ?_; dsimp only)); refine Kd.R_lit (Kd.int .u8) _ 5 ?hg (N := 10) ?hd (xs := ([] : List Int)) (inner := []) (ok := fun _ => True) (okp := fun _ => True) ?hr ?hp (fun _ hk => hk) trivial (Below.refl _ _) (Nat.le_refl _) (by simp) ?_; (case hd => rfl); (case hg => rfl); (case hr => first | (go_simp; done) | (go_simp; rfl)); (case hp => exact (Reps.none _ _)); intro v189 w5 ho6 hb hg_ hnew_; clear hg_ hnew_; (first | rw [← Ny188.out] at ho6 | (simp only [Int.reduceToNat] at ho6; rw [← Ny188.out] at ho6)); have n0_ := Aside0.mk (Kd.R_lower ho6 (below_size (by repeat (first | (with_reducible first | exact HB.out | apply below_alloc | apply pw_below_drewN | apply below_drew1) | exact HB.out)))); have n1_ := Aside0.mk (below_step (by repeat (first | (with_reducible first | exact HB.out | apply below_alloc | apply pw_below_drewN | apply below_drew1) | exact HB.out)) hb); clear HB; have HO190 := n0_; have HB := n1_; clear n0_ n1_; clear hb ho6) | ((with_reducible refine gate_builtin (b := .append) (xs := #[.tmp 10, .tmp 11]) rfl ?_); (try (refine gate_guard (by rfl) ?_; dsimp only)); at_builtin; refine Kd.R_append_rows (Kd.int .u8) (w0 := w) w.heap.size rfl (.tmp 10) (.tmp 11) 23 5 (.int .u8 0) 1 rfl Try.underlying23 info5 rfl (by decide) (by omega) v189 y188 l0 _ _ _ (fun _ => True) (fun _ => False) rfl rfl ?aO ?aR (fun _ _ h => h) (fun _ h => h.elim) ?aF ?aB ?aS ?aL ?_; (case aR => repeat (first | exact (Kd.C_below HR0.out HB.out) | (with_reducible refine Kd.C_alloc ?_ _) | (with_reducible refine Kd.C_drewN ?_ _) | (with_reducible refine Kd.C_drew ?_))); (case aB => exact (by repeat (first | (with_reducible first | exact HB.out | apply below_alloc | apply pw_below_drewN | apply below_drew1) | exact HB.out))); (case aF => exact (fun _ _ => trivial)); (case aO => exact (by (with_reducible repeat (first | apply Kd.R_alloc | apply Kd.R_drewN | apply Kd.R_drew)); exact HO190.out)); (case aS => exact (below_size (by repeat (first | (with_reducible first | exact HB.out | apply below_alloc | apply pw_below_drewN | apply below_drew1) | exact HB.out)))); (case aL => have := LMc4.out; omega); intro v192 w7 ho hb hg hat; rw [← Ny191.out] at ho; have n0_ := Aside0.mk (hb); have n1_ := Aside0.mk (ho); clear HB; clear HO190; have HB := n0_; have HO193 := n1_; clear n0_ n1_; clear ho hb hg hat))
    go_loopg [8] k (fun kq v8 w' => ∃ (x7_1 : List Int) (x8_1 : Int), v8 = .int .i64 x8_1 ∧ Aside0 (turnedP.l0 kq a1 a2 x7_1 x8_1 = some r) ∧ Aside0 (kq ≤ k) ∧ Aside0 (Kd.R (Kd.int .u8) 5 w' w.heap.size (fun _ => True) v192 x7_1) ∧ Aside0 (Below w.heap.size w w'))
    case atStart => exact ⟨(y191), (0), (by first | rfl | (simp; done) | (simp [*]; done)), H', ⟨Nat.le_refl _⟩, ⟨by (with_reducible repeat (first | apply Kd.R_alloc | apply Kd.R_drewN | apply Kd.R_drew)); exact HO193.out⟩, ⟨by repeat (first | (with_reducible first | exact HB.out | apply below_alloc | apply pw_below_drewN | apply below_drew1) | exact HB.out)⟩⟩
    case round =>
      clear H'
      try clear c2
      try clear p2
      try clear c4
      obtain ⟨x7_1, x8_1, rfl, HA, HK1, HO_7, HB⟩ := hrel
      cases gk with
      | zero => exact absurd HA.out (by simp [turnedP.l0])
      | succ k1 =>
        have H := HA.out
        clear HA
        simp only [turnedP.l0] at H
        by_cases c8 : x8_1 < 32
        · rw [if_pos c8] at H
          have c8b0 : decide (x8_1 < 32) = true := decide_eq_true c8
          clear c8
          by_cases c9 : 0 ≤ x8_1
          · rw [if_pos c9] at H
            have c9b0 := eq_true c9
            have c9b1 : decide (0 ≤ x8_1) = true := decide_eq_true c9
            clear c9
            obtain ⟨ji10, hji10⟩ : ∃ j_ : Int, (shr .u32 a2 x8_1) = j_ := ⟨_, rfl⟩
            replace H : (if (Int.tmod (ji10) 2) = 1 then (if (wrap64 (a1 + x8_1)) ≥ 0 then (if (wrap64 (a1 + x8_1)) < (wrap64 (8 * (x7_1.length : Int))) then (if 0 ≤ (wrap64 (Int.tdiv (wrap64 (a1 + x8_1)) 8)) then (if (wrap64 (Int.tdiv (wrap64 (a1 + x8_1)) 8)) < (x7_1.length : Int) then (if 0 ≤ (Int.tmod (wrap64 (a1 + x8_1)) 8) then (turnedP.l0 k1 a1 a2 (x7_1.set ((wrap64 (Int.tdiv (wrap64 (a1 + x8_1)) 8)) : Int).toNat (Go.bits .xor .u8 (rd x7_1 (wrap64 (Int.tdiv (wrap64 (a1 + x8_1)) 8))) (shl .u8 1 (Int.tmod (wrap64 (a1 + x8_1)) 8)))) (wrap64 (x8_1 + 1))) else (none)) else (none)) else (none)) else (turnedP.l0 k1 a1 a2 x7_1 (wrap64 (x8_1 + 1)))) else (turnedP.l0 k1 a1 a2 x7_1 (wrap64 (x8_1 + 1)))) else (turnedP.l0 k1 a1 a2 x7_1 (wrap64 (x8_1 + 1)))) = some r := by first | (rw [hji10] at H; exact H) | (simp only [hji10] at H ⊢; exact H)
            have hji10_ : (a2 / 2 ^ min x8_1.toNat 32) = ji10 := hji10
            have hji10z : x8_1 ≤ 32 → (a2 / 2 ^ x8_1.toNat) = ji10 := shr_small hji10
            by_cases c11 : (Int.tmod (ji10) 2) = 1
            · rw [if_pos c11] at H
              have c11b0 : ((Int.tmod (ji10) 2) == 1) = true := beq_iff_eq.mpr c11
              have c11b1 : ((Int.tmod (ji10) 2) != 1) = false := bne_eq_false_iff_eq.mpr c11
              clear c11
              by_cases c12 : (wrap64 (a1 + x8_1)) ≥ 0
              · rw [if_pos c12] at H
                have c12b0 : decide (0 ≤ (wrap64 (a1 + x8_1))) = true := decide_eq_true c12
                clear c12
                by_cases c13 : (wrap64 (a1 + x8_1)) < (wrap64 (8 * (x7_1.length : Int)))
                · rw [if_pos c13] at H
                  have c13b0 : decide ((wrap64 (a1 + x8_1)) < (wrap64 (8 * (x7_1.length : Int)))) = true := decide_eq_true c13
                  clear c13
                  obtain ⟨ji14, hji14⟩ : ∃ j_ : Int, (wrap64 (Int.tdiv (wrap64 (a1 + x8_1)) 8)) = j_ := ⟨_, rfl⟩
                  replace H : (if 0 ≤ (ji14) then (if (ji14) < (x7_1.length : Int) then (if 0 ≤ (Int.tmod (wrap64 (a1 + x8_1)) 8) then (turnedP.l0 k1 a1 a2 (x7_1.set ((ji14) : Int).toNat (Go.bits .xor .u8 (rd x7_1 (ji14)) (shl .u8 1 (Int.tmod (wrap64 (a1 + x8_1)) 8)))) (wrap64 (x8_1 + 1))) else (none)) else (none)) else (none)) = some r := by first | (rw [hji14] at H; exact H) | (simp only [hji14] at H ⊢; exact H)
                  have hji14w : (IntKind.i64.wrap (Int.tdiv (wrap64 (a1 + x8_1)) 8)) = ji14 := (i64_w _).trans hji14
                  by_cases c15 : 0 ≤ (ji14)
                  · rw [if_pos c15] at H
                    have c15b0 : decide (0 ≤ (ji14)) = true := decide_eq_true c15
                    clear c15
                    by_cases c16 : (ji14) < (x7_1.length : Int)
                    · rw [if_pos c16] at H
                      have c16b0 : decide ((ji14) < (x7_1.length : Int)) = true := decide_eq_true c16
                      clear c16
                      obtain ⟨ji17, hji17⟩ : ∃ j_ : Int, (Int.tmod (wrap64 (a1 + x8_1)) 8) = j_ := ⟨_, rfl⟩
                      replace H : (if 0 ≤ (ji17) then (turnedP.l0 k1 a1 a2 (x7_1.set ((ji14) : Int).toNat (Go.bits .xor .u8 (rd x7_1 (ji14)) (shl .u8 1 (ji17)))) (wrap64 (x8_1 + 1))) else (none)) = some r := by first | (rw [hji17] at H; exact H) | (simp only [hji17] at H ⊢; exact H)
                      by_cases c18 : 0 ≤ (ji17)
                      · rw [if_pos c18] at H
                        have c18b0 := eq_true c18
                        have c18b1 : decide (0 ≤ (ji17)) = true := decide_eq_true c18
                        clear c18
                        obtain ⟨ji19, hji19⟩ : ∃ j_ : Int, (shl .u8 1 (ji17)) = j_ := ⟨_, rfl⟩
                        replace H : (turnedP.l0 k1 a1 a2 (x7_1.set ((ji14) : Int).toNat (Go.bits .xor .u8 (rd x7_1 (ji14)) (ji19))) (wrap64 (x8_1 + 1))) = some r := by first | (rw [hji19] at H; exact H) | (simp only [hji19] at H ⊢; exact H)
                        have hji19_ : (IntKind.u8.wrap (1 * 2 ^ min (ji17).toNat 8)) = ji19 := hji19
                        have hji19z : (ji17) ≤ 8 → (IntKind.u8.wrap (1 * 2 ^ (ji17).toNat)) = ji19 := shl_small hji19
                        have hji19u : (IntKind.u8.wrap (2 ^ min (ji17).toNat 8)) = ji19 := by have h_ := hji19_; rw [Int.one_mul] at h_; exact h_
                        have hji19v : (ji17) ≤ 8 → (IntKind.u8.wrap (2 ^ (ji17).toNat)) = ji19 := fun hle_ => by have h_ := hji19z hle_; rw [Int.one_mul] at h_; exact h_
                        obtain ⟨y195, hy195⟩ : ∃ y_ : List Int, y_ = (x7_1.set ((ji14) : Int).toNat (Go.bits .xor .u8 (rd x7_1 (ji14)) (ji19))) := ⟨_, rfl⟩
                        replace H : (turnedP.l0 k1 a1 a2 y195 (wrap64 (x8_1 + 1))) = some r := by first | (rw [hy195]; with_reducible exact H) | (have H2_ := (Option.bind_some _ _).symm.trans H; rw [hy195]; with_reducible exact H2_) | (have H2_ := (Option.bind_some _ _).symm.trans H; with_reducible exact H2_) | with_reducible exact H | (rw [hy195]; exact H) | exact H
                        have Ny195 := Aside0.mk hy195
                        clear hy195
                        have H' := Aside0.mk H
                        clear H
                        obtain ⟨Ao21, co21, eo21⟩ := Kd.R_slice HO_7.out
                        subst eo21
                        try go_wp2
                        have n0_ := Aside0.mk (Kd.R_drew HO_7.out)
                        have n1_ := Aside0.mk (below_drew1 HB.out)
                        clear HO_7
                        clear HB
                        have HO_7 := n0_
                        have HB := n1_
                        clear n0_ n1_
                        have p194 : 0 ≤ ((ji14) : Int) := of_decide_eq_true (by first | (with_reducible assumption) | assumption)
                        have q194 : (ji14) < (x7_1.length : Int) := of_decide_eq_true (by first | (with_reducible assumption) | assumption)
                        obtain ⟨ad194, e194, hx194_0⟩ := Kd.at_int (Kd.R_reads' HO_7.out).2.2 (ji14) p194 q194
                        cases e194
                        replace p194 := eq_true p194
                        replace q194 := eq_true q194
                        have p20 : 0 ≤ ((ji14) : Int) := of_decide_eq_true (by first | (with_reducible assumption) | assumption)
                        have q20 : ((ji14) : Int) < ((x7_1.length : Int) : Int) := of_decide_eq_true (by first | (with_reducible assumption) | assumption)
                        obtain ⟨go20, co20, eo20, gb20, gl20, cl20, HG20⟩ := Kd.R_form HO_7.out (by omega)
                        (first | cases eo20 | (injection eo20 with ea_ en_ ec_; (first | subst ea_ | (injection ea_ with ea_; subst ea_)); subst ec_; clear en_))
                        have GB20 := Aside0.mk gb20
                        have GG20 := Aside0.mk HG20
                        clear gb20 gl20 HG20
                        (first | simp only [add_plain] at hx194_0 | skip)
                        obtain ⟨hx20_0, hf20_0⟩ := Kd.R_celln 0 HO_7.out ((ji14) : Int) p20 q20
                        replace p20 := eq_true p20
                        replace q20 := eq_true q20
                        have HP23 := Kd.R_putn HO_7.out ((ji14) : Int) (Go.bits .xor .u8 (rd x7_1 (ji14)) (ji19))
                        rw [← Ny195.out] at HP23
                        have HQ23 := Aside0.mk HP23
                        clear HP23
                        refine start_ (n := 14) (S := fun w' => w'.cell? ⟨go20, ((ji14)).toNat, none⟩ = some (.int .u8 (rd x7_1 (ji14)))) (ds := [13]) #[false, false, false, false, false, false, false, false, false, false, false, false, false, false] (by kernel_rfl) rfl rfl (hx194_0) (fun hHeld => ?_); refine with_tabW turnedP.tab7 turnedP.bits7 (fun HT_ HW_ => ?_)
                        generalize wr.drew = w22 at HO_7 HB GG20 HQ23 hf20_0 hx194_0 hx20_0 hHeld ⊢
                        refine pure_ (i := 0) (N := some 36) (v := ?_) (a' := ?_) #[true, false, false, false, false, false, false, false, false, false, false, false, false, false] rfl rfl (any_of HT_.out (by kernel_rfl)) (fun _ _ _ h => h) (Or.inl ⟨by rfl, ?_⟩) ?_ ?_
                        rotate_left
                        · intro w'
                          go_simp
                          with_reducible rfl
                        rotate_left
                        · simp only [Act.put, List.setIfInBounds_toArray, List.set_cons_zero, List.set_cons_succ, i64_w, i32_w]
                          rfl
                        refine pure_ (i := 1) (N := some 37) (v := ?_) (a' := ?_) #[true, true, false, false, false, false, false, false, false, false, false, false, false, false] rfl rfl (any_of HT_.out (by kernel_rfl)) (fun _ _ _ h => h) (Or.inl ⟨by rfl, ?_⟩) ?_ ?_
                        rotate_left
                        · intro w'
                          go_simp
                          with_reducible rfl
                        rotate_left
                        · simp only [Act.put, List.setIfInBounds_toArray, List.set_cons_zero, List.set_cons_succ, i64_w, i32_w]
                          rfl
                        refine pure_ (i := 2) (N := some 38) (v := ?_) (a' := ?_) #[true, true, true, false, false, false, false, false, false, false, false, false, false, false] rfl rfl (any_of HT_.out (by kernel_rfl)) (fun _ _ _ h => h) (Or.inl ⟨by rfl, ?_⟩) ?_ ?_
                        rotate_left
                        · intro w'
                          go_simp
                          with_reducible rfl
                        rotate_left
                        · simp only [Act.put, List.setIfInBounds_toArray, List.set_cons_zero, List.set_cons_succ, i64_w, i32_w]
                          rfl
                        refine pure_ (i := 3) (N := some 39) (v := ?_) (a' := ?_) #[true, true, true, true, false, false, false, false, false, false, false, false, false, false] rfl rfl (any_of HT_.out (by kernel_rfl)) (fun _ _ _ h => h) (Or.inl ⟨by rfl, ?_⟩) ?_ ?_
                        rotate_left
                        · intro w'
                          go_simp
                          with_reducible rfl
                        rotate_left
                        · simp only [Act.put, List.setIfInBounds_toArray, List.set_cons_zero, List.set_cons_succ, i64_w, i32_w]
                          rfl
                        refine pure_ (i := 4) (N := some 40) (v := ?_) (a' := ?_) #[true, true, true, true, true, false, false, false, false, false, false, false, false, false] rfl rfl (any_of HT_.out (by kernel_rfl)) (fun _ _ _ h => h) (Or.inl ⟨by rfl, ?_⟩) ?_ ?_
                        rotate_left
                        · intro w'
                          go_simp
                          with_reducible rfl
                        rotate_left
                        · simp only [Act.put, List.setIfInBounds_toArray, List.set_cons_zero, List.set_cons_succ, i64_w, i32_w]
                          rfl
                        refine pure_ (i := 5) (N := some 41) (v := ?_) (a' := ?_) #[true, true, true, true, true, true, false, false, false, false, false, false, false, false] rfl rfl (any_of HT_.out (by kernel_rfl)) (fun _ _ _ h => h) (Or.inl ⟨by rfl, ?_⟩) ?_ ?_
                        rotate_left
                        · intro w'
                          go_simp
                          with_reducible rfl
                        rotate_left
                        · simp only [Act.put, List.setIfInBounds_toArray, List.set_cons_zero, List.set_cons_succ, i64_w, i32_w]
                          rfl
                        refine pure_ (i := 6) (N := some 42) (v := ?_) (a' := ?_) #[true, true, true, true, true, true, true, false, false, false, false, false, false, false] rfl rfl (any_of HT_.out (by kernel_rfl)) (fun _ _ _ h => h) (Or.inl ⟨by rfl, ?_⟩) ?_ ?_
                        rotate_left
                        · intro w'
                          go_simp
                          with_reducible rfl
                        rotate_left
                        · simp only [Act.put, List.setIfInBounds_toArray, List.set_cons_zero, List.set_cons_succ, i64_w, i32_w]
                          rfl
                        refine pure_ (i := 8) (N := some 44) (v := ?_) (a' := ?_) #[true, true, true, true, true, true, true, false, true, false, false, false, false, false] rfl rfl (any_of HT_.out (by kernel_rfl)) (fun _ _ _ h => h) (Or.inl ⟨by rfl, ?_⟩) ?_ ?_
                        rotate_left
                        · intro w'
                          go_simp
                          with_reducible rfl
                        rotate_left
                        · simp only [Act.put, List.setIfInBounds_toArray, List.set_cons_zero, List.set_cons_succ, i64_w, i32_w]
                          rfl
                        refine pure_ (i := 9) (N := some 45) (v := ?_) (a' := ?_) #[true, true, true, true, true, true, true, false, true, true, false, false, false, false] rfl rfl (any_of HT_.out (by kernel_rfl)) (fun _ _ _ h => h) (Or.inl ⟨by rfl, ?_⟩) ?_ ?_
                        rotate_left
                        · intro w'
                          go_simp
                          with_reducible rfl
                        rotate_left
                        · simp only [Act.put, List.setIfInBounds_toArray, List.set_cons_zero, List.set_cons_succ, i64_w, i32_w]
                          rfl
                        refine pure_ (i := 10) (N := some 46) (v := ?_) (a' := ?_) #[true, true, true, true, true, true, true, false, true, true, true, false, false, false] rfl rfl (any_of HT_.out (by kernel_rfl)) (fun _ _ _ h => h) (Or.inl ⟨by rfl, ?_⟩) ?_ ?_
                        rotate_left
                        · intro w'
                          go_simp
                          with_reducible rfl
                        rotate_left
                        · simp only [Act.put, List.setIfInBounds_toArray, List.set_cons_zero, List.set_cons_succ, i64_w, i32_w]
                          rfl
                        refine take_ (i := 7) (N := some 43) (v := ?_) (a' := ?_) #[true, true, true, true, true, true, true, true, true, true, true, false, false, false] rfl rfl (take_ofW HT_.out HW_.out (by kernel_rfl)) (fun _ _ _ h => h) (Or.inl ⟨by rfl, ?_⟩) hHeld ?_ ?_
                        rotate_left
                        · intro w' s0
                          go_simp
                          with_reducible rfl
                        rotate_left
                        · simp only [Act.put, List.setIfInBounds_toArray, List.set_cons_zero, List.set_cons_succ, i64_w, i32_w]
                          rfl
                        refine pure_ (i := 11) (N := some 47) (v := ?_) (a' := ?_) #[true, true, true, true, true, true, true, true, true, true, true, true, false, false] rfl rfl (any_of HT_.out (by kernel_rfl)) (fun _ _ _ h => h) (Or.inl ⟨by rfl, ?_⟩) ?_ ?_
                        rotate_left
                        · intro w'
                          go_simp
                          with_reducible rfl
                        rotate_left
                        · simp only [Act.put, List.setIfInBounds_toArray, List.set_cons_zero, List.set_cons_succ, i64_w, i32_w]
                          rfl
                        refine pure_ (i := 12) (N := some 48) (v := ?_) (a' := ?_) #[true, true, true, true, true, true, true, true, true, true, true, true, true, false] rfl rfl (any_of HT_.out (by kernel_rfl)) (fun _ _ _ h => h) (Or.inl ⟨by rfl, ?_⟩) ?_ ?_
                        rotate_left
                        · intro w'
                          go_simp
                          with_reducible rfl
                        rotate_left
                        · simp only [Act.put, List.setIfInBounds_toArray, List.set_cons_zero, List.set_cons_succ, i64_w, i32_w]
                          rfl
                        refine last_ (i := 13) (N := none) #[true, true, true, true, true, true, true, true, true, true, true, true, true, true] rfl rfl (one_of HT_.out (by kernel_rfl)) (by decide) (fun K hK => ?_)
                        refine skip_ (w1 := ?_) (by rfl) rfl ?_ ?_
                        rotate_left
                        · go_simp
                          rfl
                        refine hK.out _ _ ?_
                        clear hK K
                        refine done_ (done_of HT_.out (by kernel_rfl)) ?_
                        try go_wp2
                        go_roundg k1
                        case measure => have := HK1.out; omega
                        case rel => exact ⟨(y195), (wrap64 (x8_1 + 1)), (by first | rfl | (simp; done) | (simp [*]; done)), H', ⟨by have := HK1.out; omega⟩, ⟨by (with_reducible repeat (first | apply Kd.R_alloc | apply Kd.R_drewN | apply Kd.R_drew)); exact HQ23.out⟩, ⟨by repeat (first | (with_reducible first | exact HB.out | apply below_alloc | apply pw_below_drewN | apply below_drew1 | refine below_set ?_ GB20.out) | exact HB.out)⟩⟩
                      · rw [if_neg c18] at H
                        exact absurd H (by simp)
                    · rw [if_neg c16] at H
                      exact absurd H (by simp)
                  · rw [if_neg c15] at H
                    exact absurd H (by simp)
                · rw [if_neg c13] at H
                  have c13b0 : decide ((wrap64 (a1 + x8_1)) < (wrap64 (8 * (x7_1.length : Int)))) = false := decide_eq_false c13
                  clear c13
                  have H' := Aside0.mk H
                  clear H
                  obtain ⟨Ao24, co24, eo24⟩ := Kd.R_slice HO_7.out
                  subst eo24
                  go_wp2
                  go_roundg k1
                  case measure => have := HK1.out; omega
                  case rel => exact ⟨(x7_1), (wrap64 (x8_1 + 1)), (by first | rfl | (simp; done) | (simp [*]; done)), H', ⟨by have := HK1.out; omega⟩, ⟨by (with_reducible repeat (first | apply Kd.R_alloc | apply Kd.R_drewN | apply Kd.R_drew)); exact HO_7.out⟩, ⟨by repeat (first | (with_reducible first | exact HB.out | apply below_alloc | apply pw_below_drewN | apply below_drew1) | exact HB.out)⟩⟩
              · rw [if_neg c12] at H
                have c12b0 : decide (0 ≤ (wrap64 (a1 + x8_1))) = false := decide_eq_false c12
                clear c12
                have H' := Aside0.mk H
                clear H
                go_wp2
                go_roundg k1
                case measure => have := HK1.out; omega
                case rel => exact ⟨(x7_1), (wrap64 (x8_1 + 1)), (by first | rfl | (simp; done) | (simp [*]; done)), H', ⟨by have := HK1.out; omega⟩, ⟨by (with_reducible repeat (first | apply Kd.R_alloc | apply Kd.R_drewN | apply Kd.R_drew)); exact HO_7.out⟩, ⟨by repeat (first | (with_reducible first | exact HB.out | apply below_alloc | apply pw_below_drewN | apply below_drew1) | exact HB.out)⟩⟩
            · rw [if_neg c11] at H
              have c11b0 : ((Int.tmod (ji10) 2) == 1) = false := beq_eq_false_iff_ne.mpr c11
              have c11b1 : ((Int.tmod (ji10) 2) != 1) = true := bne_iff_ne.mpr c11
              have H' := Aside0.mk H
              clear H
              go_wp2
              go_roundg k1
              case measure => have := HK1.out; omega
              case rel => exact ⟨(x7_1), (wrap64 (x8_1 + 1)), (by first | rfl | (simp; done) | (simp [*]; done)), H', ⟨by have := HK1.out; omega⟩, ⟨by (with_reducible repeat (first | apply Kd.R_alloc | apply Kd.R_drewN | apply Kd.R_drew)); exact HO_7.out⟩, ⟨by repeat (first | (with_reducible first | exact HB.out | apply below_alloc | apply pw_below_drewN | apply below_drew1) | exact HB.out)⟩⟩
          · rw [if_neg c9] at H
            exact absurd H (by simp)
        · rw [if_neg c8] at H
          have c8b0 : decide (x8_1 < 32) = false := decide_eq_false c8
          clear c8
          obtain rfl := Option.some.inj H
          go_wp2
          go_ret
          exact ⟨_, by first | rfl | (simp [Nat.add_zero] <;> rfl) | (simp [*] <;> rfl), by (with_reducible repeat (first | apply Kd.R_alloc | apply Kd.R_drewN | apply Kd.R_drew)); exact HO_7.out, by repeat (first | (with_reducible first | exact HB.out | apply below_alloc | apply pw_below_drewN | apply below_drew1) | exact HB.out)⟩
  · rw [if_neg c4] at H
    exact absurd H (by simp)


end Go.Proofs.Ytonbphiaideleaa.M
