/- Merged: Mturned, Mturn, Mcrcbursts. -/
import Derived.Test.YtonbphiaideleaaMxres
import Derived.Test.YtonbphiaideleaaMcuts
import Derived.Test.YtonbphiaideleaaWWords
import Derived.Test.YtonbphiaideleaaWLast
import Derived.Test.YtonbphiaideleaaWTab
import Derived.Test.YtonbphiaideleaaWFour
import Derived.Test.YtonbphiaideleaaWQPut
import Derived.Test.YtonbphiaideleaaWApart
import Derived.Test.YtonbphiaideleaaWArr
import Derived.Test.YtonbphiaideleaaWZeros
import Derived.Test.YtonbphiaideleaaWFoot
import Derived.Test.YtonbphiaideleaaWKept
import Derived.Test.YtonbphiaideleaaWShare
import Derived.Test.YtonbphiaideleaaWN
import Derived.Test.YtonbphiaideleaaWFootNe
import Derived.Test.YtonbphiaideleaaWAt
import Derived.Test.YtonbphiaideleaaWEqStruct
import Derived.Test.YtonbphiaideleaaWRepsOne
import Derived.Test.YtonbphiaideleaaWInv
import Derived.Test.YtonbphiaideleaaWInvWords
import Derived.Test.YtonbphiaideleaaWGuard
import Derived.Test.YtonbphiaideleaaWNEv
import Derived.Test.YtonbphiaideleaaWMore
/- lacunaref03.Turned: its walk, written by the print's program, and what it comes to on numbers. -/
namespace Go.Proofs.Ytonbphiaideleaa.M
open Go.RowKit Go.Proofs.YtonbphiaideleaaW.PrintWords Go.Proofs.YtonbphiaideleaaW.PrintLast Go.Proofs.YtonbphiaideleaaW.PrintMore
attribute [local go_sem] max2_int min2_int max_two min_two max_three min_three max_four min_four
set_option linter.unusedVariables false
set_option linter.unusedSimpArgs false

/-! ### turnedP: function 25 -/
def turnedP.l0 : Nat → Int → Int → List Int → Int → Option (List Int)
  | 0, _, _, _, _ => none
  | k + 1, x1, x2, x7, x8 => if x8 < 32 then (if 0 ≤ x8 then (if (Int.tmod (shr .u32 x2 x8) 2) = 1 then (if (wrap64 (x1 + x8)) ≥ 0 then (if (wrap64 (x1 + x8)) < (wrap64 (8 * (x7.length : Int))) then (if 0 ≤ (wrap64 (Int.tdiv (wrap64 (x1 + x8)) 8)) then (if (wrap64 (Int.tdiv (wrap64 (x1 + x8)) 8)) < (x7.length : Int) then (if 0 ≤ (Int.tmod (wrap64 (x1 + x8)) 8) then (turnedP.l0 k x1 x2 (x7.set ((wrap64 (Int.tdiv (wrap64 (x1 + x8)) 8)) : Int).toNat (Go.bits .xor .u8 (rd x7 (wrap64 (Int.tdiv (wrap64 (x1 + x8)) 8))) (shl .u8 1 (Int.tmod (wrap64 (x1 + x8)) 8)))) (wrap64 (x8 + 1))) else (none)) else (none)) else (none)) else (turnedP.l0 k x1 x2 x7 (wrap64 (x8 + 1)))) else (turnedP.l0 k x1 x2 x7 (wrap64 (x8 + 1)))) else (turnedP.l0 k x1 x2 x7 (wrap64 (x8 + 1)))) else (none)) else (some x7)
def turnedP.f (k : Nat) (l0 : List Int) (a1 : Int) (a2 : Int) : Option (List Int) := (some (([] : List Int) : List Int)).bind fun y188 => (if y188.length + l0.length < 140737488355328 then (turnedP.l0 k a1 a2 (y188 ++ l0) 0) else (none))
theorem turnedP.mono_l : ∀ k, (∀ y0 y1 y2 y3, LeO (turnedP.l0 k y0 y1 y2 y3) (turnedP.l0 (k + 1) y0 y1 y2 y3))
  | 0 => fun _ _ _ _ r h => by simp [turnedP.l0] at h
  | k + 1 => by
    have ih0 := turnedP.mono_l k
    · intro y0 y1 y2 y3
      unfold turnedP.l0
      repeat' first
      | (with_reducible exact ih0 _ _ _ _)
      | (with_reducible exact LeO.refl _)
      | (with_reducible exact LeO.none _)
      | (with_reducible refine LeO.ite ?_ ?_)
      | (with_reducible refine LeO.bind ?_ (fun _ => ?_))
      | exact ih0 _ _ _ _
      | exact LeO.none _
      | refine LeO.ite ?_ ?_
      | refine LeO.bind ?_ (fun _ => ?_)
theorem turnedP.mono : ∀ a0 a1 a2 k, LeO (turnedP.f k a0 a1 a2) (turnedP.f (k + 1) a0 a1 a2) := by
  intro a0 a1 a2 k
  have ih0 := turnedP.mono_l k
  unfold turnedP.f
  repeat' first
      | (with_reducible exact ih0 _ _ _ _)
      | (with_reducible exact LeO.refl _)
      | (with_reducible exact LeO.none _)
      | (with_reducible refine LeO.ite ?_ ?_)
      | (with_reducible refine LeO.bind ?_ (fun _ => ?_))
      | exact ih0 _ _ _ _
      | exact LeO.none _
      | refine LeO.ite ?_ ?_
      | refine LeO.bind ?_ (fun _ => ?_)
def turnedP.T7 : Bool × List (List Nat × List Nat) := (true, [([], []), ([], []), ([1], [1]), ([], []), ([], []), ([4], [4]), ([3, 5], [3, 5]), ([6], [6]), ([], []), ([8], [8]), ([9], [9]), ([7, 10], [7, 10]), ([0, 2, 0, 1, 2, 3, 4, 5, 6, 7, 8, 9, 10, 11], [0, 2]), ([12, 11, 0, 1, 2, 3, 4, 5, 6, 7, 8, 9, 10, 11], [11, 12])])
def turnedP.B7 : List Nat := [0, 0, 2, 0, 0, 16, 56, 120, 0, 256, 768, 2040, 4095, 8191]
theorem turnedP.tab7 : rtab .any (opsOf Try.f25 7) = turnedP.T7 := by kernel_rfl
theorem turnedP.bits7 : waitsOk turnedP.T7.2 turnedP.B7 = true := by kernel_rfl
set_option maxHeartbeats 8000000 in
set_option maxRecDepth 100000 in
theorem turnedP.calls (k : Nat) (A0 : Option Addr) (c0 : Nat) (l0 : List Int) (a1 : Int) (a2 : Int) (r : List Int) (w : World) (hr0 : Kd.C (Kd.int .u8) w A0 l0.length l0) (hc0 : l0.length ≤ c0) (h : turnedP.f k l0 a1 a2 = some r) :
    Calls Try.prog 25 #[.slice A0 l0.length c0, .int .i64 a1, .int .u32 a2] w fun e w' => ∃ v0_ : Value, e = .returned (v0_) ∧ Kd.R (Kd.int .u8) 5 w' w.heap.size (fun _ => True) v0_ r ∧ Below w.heap.size w w' := by
  have HR0 := Aside0.mk hr0
  have HC0 := Aside0.mk hc0
  clear hr0 hc0
  have HB := Aside0.mk (Below.refl w.heap.size w)
  have H : ((some (([] : List Int) : List Int)).bind fun y188 => (if y188.length + l0.length < 140737488355328 then (turnedP.l0 k a1 a2 (y188 ++ l0) 0) else (none))) = some r := h
  clear h
  obtain ⟨y188, hy188⟩ : ∃ y_ : List Int, y_ = (([] : List Int)) := ⟨_, rfl⟩
  replace H : (if y188.length + l0.length < 140737488355328 then (turnedP.l0 k a1 a2 (y188 ++ l0) 0) else (none)) = some r := by first | (rw [hy188]; with_reducible exact H) | (have H2_ := (Option.bind_some _ _).symm.trans H; rw [hy188]; with_reducible exact H2_) | (have H2_ := (Option.bind_some _ _).symm.trans H; with_reducible exact H2_) | with_reducible exact H | (rw [hy188]; exact H) | exact H
  have Ny188 := Aside0.mk hy188
  clear hy188
  by_cases c4 : y188.length + l0.length < 140737488355328
  · rw [if_pos c4] at H
    have LMc4 := Aside0.mk c4
    clear c4
    obtain ⟨y191, hy191⟩ : ∃ y_ : List Int, y_ = (y188 ++ l0) := ⟨_, rfl⟩
    replace H : (turnedP.l0 k a1 a2 y191 0) = some r := by first | (rw [hy191]; with_reducible exact H) | (have H2_ := (Option.bind_some _ _).symm.trans H; rw [hy191]; with_reducible exact H2_) | (have H2_ := (Option.bind_some _ _).symm.trans H; with_reducible exact H2_) | with_reducible exact H | (rw [hy191]; exact H) | exact H
    have Ny191 := Aside0.mk hy191
    clear hy191
    have H' := Aside0.mk H
    clear H
    go_enter Try.func25, Try.ntmps25
    go_wp2_with (first | ((with_reducible refine gate_dst (N := 10) rfl ?_); (try (refine gate_guard (by rfl) ?_; dsimp only)); refine Kd.R_lit (Kd.int .u8) _ 5 ?hg (N := 10) ?hd (xs := ([] : List Int)) (inner := []) (ok := fun _ => True) (okp := fun _ => True) ?hr ?hp (fun _ hk => hk) trivial (Below.refl _ _) (Nat.le_refl _) (by simp) ?_; (case hd => rfl); (case hg => rfl); (case hr => first | (go_simp; done) | (go_simp; rfl)); (case hp => exact (Reps.none _ _)); intro v189 w5 ho6 hb hg_ hnew_; clear hg_ hnew_; (first | rw [← Ny188.out] at ho6 | (simp only [Int.reduceToNat] at ho6; rw [← Ny188.out] at ho6)); have n0_ := Aside0.mk (Kd.R_lower ho6 (below_size (by repeat (first | (with_reducible first | exact HB.out | apply below_alloc | apply pw_below_drewN | apply below_drew1) | exact HB.out)))); have n1_ := Aside0.mk (below_step (by repeat (first | (with_reducible first | exact HB.out | apply below_alloc | apply pw_below_drewN | apply below_drew1) | exact HB.out)) hb); clear HB; have HO190 := n0_; have HB := n1_; clear n0_ n1_; clear hb ho6) | ((with_reducible refine gate_builtin (b := .append) (xs := #[.tmp 10, .tmp 11]) rfl ?_); (try (refine gate_guard (by rfl) ?_; dsimp only)); at_builtin; refine Kd.R_append_rows (Kd.int .u8) (w0 := w) w.heap.size rfl (.tmp 10) (.tmp 11) 23 5 (.int .u8 0) 1 rfl Try.underlying23 info5 rfl (by decide) (by omega) v189 y188 l0 _ _ _ (fun _ => True) (fun _ => False) rfl rfl ?aO ?aR (fun _ _ h => h) (fun _ h => h.elim) ?aF ?aB ?aS ?aL ?_; (case aR => repeat (first | exact (Kd.C_below HR0.out HB.out) | (with_reducible refine Kd.C_alloc ?_ _) | (with_reducible refine Kd.C_drewN ?_ _) | (with_reducible refine Kd.C_drew ?_))); (case aB => exact (by repeat (first | (with_reducible first | exact HB.out | apply below_alloc | apply pw_below_drewN | apply below_drew1) | exact HB.out))); (case aF => exact (fun _ _ => trivial)); (case aO => exact (by (with_reducible repeat (first | apply Kd.R_alloc | apply Kd.R_drewN | apply Kd.R_drew)); exact HO190.out)); (case aS => exact (below_size (by repeat (first | (with_reducible first | exact HB.out | apply below_alloc | apply pw_below_drewN | apply below_drew1) | exact HB.out)))); (case aL => have := LMc4.out; omega); intro v192 w7 ho hb hg hat; rw [← Ny191.out] at ho; have n0_ := Aside0.mk (hb); have n1_ := Aside0.mk (ho); clear HB; clear HO190; have HB := n0_; have HO193 := n1_; clear n0_ n1_; clear ho hb hg hat))
    go_loopg [8] k (fun kq v8 w' => ∃ (x7_1 : List Int) (x8_1 : Int), v8 = .int .i64 x8_1 ∧ Aside0 (turnedP.l0 kq a1 a2 x7_1 x8_1 = some r) ∧ Aside0 (kq ≤ k) ∧ Aside0 (Kd.R (Kd.int .u8) 5 w' w.heap.size (fun _ => True) v192 x7_1) ∧ Aside0 (Below w.heap.size w w'))
    case atStart => exact ⟨(y191), (0), (by first | rfl | (simp; done) | (simp [*]; done)), H', ⟨Nat.le_refl _⟩, ⟨by (with_reducible repeat (first | apply Kd.R_alloc | apply Kd.R_drewN | apply Kd.R_drew)); exact HO193.out⟩, ⟨by repeat (first | (with_reducible first | exact HB.out | apply below_alloc | apply pw_below_drewN | apply below_drew1) | exact HB.out)⟩⟩
    case round =>
      clear H'
      try clear c2
      try clear p2
      try clear c4
      obtain ⟨x7_1, x8_1, rfl, HA, HK1, HO_7, HB⟩ := hrel
      cases gk with
      | zero => exact absurd HA.out (by simp [turnedP.l0])
      | succ k1 =>
        have H := HA.out
        clear HA
        simp only [turnedP.l0] at H
        by_cases c8 : x8_1 < 32
        · rw [if_pos c8] at H
          have c8b0 : decide (x8_1 < 32) = true := decide_eq_true c8
          clear c8
          by_cases c9 : 0 ≤ x8_1
          · rw [if_pos c9] at H
            have c9b0 := eq_true c9
            have c9b1 : decide (0 ≤ x8_1) = true := decide_eq_true c9
            clear c9
            obtain ⟨ji10, hji10⟩ : ∃ j_ : Int, (shr .u32 a2 x8_1) = j_ := ⟨_, rfl⟩
            replace H : (if (Int.tmod (ji10) 2) = 1 then (if (wrap64 (a1 + x8_1)) ≥ 0 then (if (wrap64 (a1 + x8_1)) < (wrap64 (8 * (x7_1.length : Int))) then (if 0 ≤ (wrap64 (Int.tdiv (wrap64 (a1 + x8_1)) 8)) then (if (wrap64 (Int.tdiv (wrap64 (a1 + x8_1)) 8)) < (x7_1.length : Int) then (if 0 ≤ (Int.tmod (wrap64 (a1 + x8_1)) 8) then (turnedP.l0 k1 a1 a2 (x7_1.set ((wrap64 (Int.tdiv (wrap64 (a1 + x8_1)) 8)) : Int).toNat (Go.bits .xor .u8 (rd x7_1 (wrap64 (Int.tdiv (wrap64 (a1 + x8_1)) 8))) (shl .u8 1 (Int.tmod (wrap64 (a1 + x8_1)) 8)))) (wrap64 (x8_1 + 1))) else (none)) else (none)) else (none)) else (turnedP.l0 k1 a1 a2 x7_1 (wrap64 (x8_1 + 1)))) else (turnedP.l0 k1 a1 a2 x7_1 (wrap64 (x8_1 + 1)))) else (turnedP.l0 k1 a1 a2 x7_1 (wrap64 (x8_1 + 1)))) = some r := by first | (rw [hji10] at H; exact H) | (simp only [hji10] at H ⊢; exact H)
            have hji10_ : (a2 / 2 ^ min x8_1.toNat 32) = ji10 := hji10
            have hji10z : x8_1 ≤ 32 → (a2 / 2 ^ x8_1.toNat) = ji10 := shr_small hji10
            by_cases c11 : (Int.tmod (ji10) 2) = 1
            · rw [if_pos c11] at H
              have c11b0 : ((Int.tmod (ji10) 2) == 1) = true := beq_iff_eq.mpr c11
              have c11b1 : ((Int.tmod (ji10) 2) != 1) = false := bne_eq_false_iff_eq.mpr c11
              clear c11
              by_cases c12 : (wrap64 (a1 + x8_1)) ≥ 0
              · rw [if_pos c12] at H
                have c12b0 : decide (0 ≤ (wrap64 (a1 + x8_1))) = true := decide_eq_true c12
                clear c12
                by_cases c13 : (wrap64 (a1 + x8_1)) < (wrap64 (8 * (x7_1.length : Int)))
                · rw [if_pos c13] at H
                  have c13b0 : decide ((wrap64 (a1 + x8_1)) < (wrap64 (8 * (x7_1.length : Int)))) = true := decide_eq_true c13
                  clear c13
                  obtain ⟨ji14, hji14⟩ : ∃ j_ : Int, (wrap64 (Int.tdiv (wrap64 (a1 + x8_1)) 8)) = j_ := ⟨_, rfl⟩
                  replace H : (if 0 ≤ (ji14) then (if (ji14) < (x7_1.length : Int) then (if 0 ≤ (Int.tmod (wrap64 (a1 + x8_1)) 8) then (turnedP.l0 k1 a1 a2 (x7_1.set ((ji14) : Int).toNat (Go.bits .xor .u8 (rd x7_1 (ji14)) (shl .u8 1 (Int.tmod (wrap64 (a1 + x8_1)) 8)))) (wrap64 (x8_1 + 1))) else (none)) else (none)) else (none)) = some r := by first | (rw [hji14] at H; exact H) | (simp only [hji14] at H ⊢; exact H)
                  have hji14w : (IntKind.i64.wrap (Int.tdiv (wrap64 (a1 + x8_1)) 8)) = ji14 := (i64_w _).trans hji14
                  by_cases c15 : 0 ≤ (ji14)
                  · rw [if_pos c15] at H
                    have c15b0 : decide (0 ≤ (ji14)) = true := decide_eq_true c15
                    clear c15
                    by_cases c16 : (ji14) < (x7_1.length : Int)
                    · rw [if_pos c16] at H
                      have c16b0 : decide ((ji14) < (x7_1.length : Int)) = true := decide_eq_true c16
                      clear c16
                      obtain ⟨ji17, hji17⟩ : ∃ j_ : Int, (Int.tmod (wrap64 (a1 + x8_1)) 8) = j_ := ⟨_, rfl⟩
                      replace H : (if 0 ≤ (ji17) then (turnedP.l0 k1 a1 a2 (x7_1.set ((ji14) : Int).toNat (Go.bits .xor .u8 (rd x7_1 (ji14)) (shl .u8 1 (ji17)))) (wrap64 (x8_1 + 1))) else (none)) = some r := by first | (rw [hji17] at H; exact H) | (simp only [hji17] at H ⊢; exact H)
                      by_cases c18 : 0 ≤ (ji17)
                      · rw [if_pos c18] at H
                        have c18b0 := eq_true c18
                        have c18b1 : decide (0 ≤ (ji17)) = true := decide_eq_true c18
                        clear c18
                        obtain ⟨ji19, hji19⟩ : ∃ j_ : Int, (shl .u8 1 (ji17)) = j_ := ⟨_, rfl⟩
                        replace H : (turnedP.l0 k1 a1 a2 (x7_1.set ((ji14) : Int).toNat (Go.bits .xor .u8 (rd x7_1 (ji14)) (ji19))) (wrap64 (x8_1 + 1))) = some r := by first | (rw [hji19] at H; exact H) | (simp only [hji19] at H ⊢; exact H)
                        have hji19_ : (IntKind.u8.wrap (1 * 2 ^ min (ji17).toNat 8)) = ji19 := hji19
                        have hji19z : (ji17) ≤ 8 → (IntKind.u8.wrap (1 * 2 ^ (ji17).toNat)) = ji19 := shl_small hji19
                        have hji19u : (IntKind.u8.wrap (2 ^ min (ji17).toNat 8)) = ji19 := by have h_ := hji19_; rw [Int.one_mul] at h_; exact h_
                        have hji19v : (ji17) ≤ 8 → (IntKind.u8.wrap (2 ^ (ji17).toNat)) = ji19 := fun hle_ => by have h_ := hji19z hle_; rw [Int.one_mul] at h_; exact h_
                        obtain ⟨y195, hy195⟩ : ∃ y_ : List Int, y_ = (x7_1.set ((ji14) : Int).toNat (Go.bits .xor .u8 (rd x7_1 (ji14)) (ji19))) := ⟨_, rfl⟩
                        replace H : (turnedP.l0 k1 a1 a2 y195 (wrap64 (x8_1 + 1))) = some r := by first | (rw [hy195]; with_reducible exact H) | (have H2_ := (Option.bind_some _ _).symm.trans H; rw [hy195]; with_reducible exact H2_) | (have H2_ := (Option.bind_some _ _).symm.trans H; with_reducible exact H2_) | with_reducible exact H | (rw [hy195]; exact H) | exact H
                        have Ny195 := Aside0.mk hy195
                        clear hy195
                        have H' := Aside0.mk H
                        clear H
                        obtain ⟨Ao21, co21, eo21⟩ := Kd.R_slice HO_7.out
                        subst eo21
                        try go_wp2
                        have n0_ := Aside0.mk (Kd.R_drew HO_7.out)
                        have n1_ := Aside0.mk (below_drew1 HB.out)
                        clear HO_7
                        clear HB
                        have HO_7 := n0_
                        have HB := n1_
                        clear n0_ n1_
                        have p194 : 0 ≤ ((ji14) : Int) := of_decide_eq_true (by first | (with_reducible assumption) | assumption)
                        have q194 : (ji14) < (x7_1.length : Int) := of_decide_eq_true (by first | (with_reducible assumption) | assumption)
                        obtain ⟨ad194, e194, hx194_0⟩ := Kd.at_int (Kd.R_reads' HO_7.out).2.2 (ji14) p194 q194
                        cases e194
                        replace p194 := eq_true p194
                        replace q194 := eq_true q194
                        have p20 : 0 ≤ ((ji14) : Int) := of_decide_eq_true (by first | (with_reducible assumption) | assumption)
                        have q20 : ((ji14) : Int) < ((x7_1.length : Int) : Int) := of_decide_eq_true (by first | (with_reducible assumption) | assumption)
                        obtain ⟨go20, co20, eo20, gb20, gl20, cl20, HG20⟩ := Kd.R_form HO_7.out (by omega)
                        (first | cases eo20 | (injection eo20 with ea_ en_ ec_; (first | subst ea_ | (injection ea_ with ea_; subst ea_)); subst ec_; clear en_))
                        have GB20 := Aside0.mk gb20
                        have GG20 := Aside0.mk HG20
                        clear gb20 gl20 HG20
                        (first | simp only [add_plain] at hx194_0 | skip)
                        obtain ⟨hx20_0, hf20_0⟩ := Kd.R_celln 0 HO_7.out ((ji14) : Int) p20 q20
                        replace p20 := eq_true p20
                        replace q20 := eq_true q20
                        have HP23 := Kd.R_putn HO_7.out ((ji14) : Int) (Go.bits .xor .u8 (rd x7_1 (ji14)) (ji19))
                        rw [← Ny195.out] at HP23
                        have HQ23 := Aside0.mk HP23
                        clear HP23
                        refine start_ (n := 14) (S := fun w' => w'.cell? ⟨go20, ((ji14)).toNat, none⟩ = some (.int .u8 (rd x7_1 (ji14)))) (ds := [13]) #[false, false, false, false, false, false, false, false, false, false, false, false, false, false] (by kernel_rfl) rfl rfl (hx194_0) (fun hHeld => ?_); refine with_tabW turnedP.tab7 turnedP.bits7 (fun HT_ HW_ => ?_)
                        generalize wr.drew = w22 at HO_7 HB GG20 HQ23 hf20_0 hx194_0 hx20_0 hHeld ⊢
                        refine pure_ (i := 0) (N := some 36) (v := ?_) (a' := ?_) #[true, false, false, false, false, false, false, false, false, false, false, false, false, false] rfl rfl (any_of HT_.out (by kernel_rfl)) (fun _ _ _ h => h) (Or.inl ⟨by rfl, ?_⟩) ?_ ?_
                        rotate_left
                        · intro w'
                          go_simp
                          with_reducible rfl
                        rotate_left
                        · simp only [Act.put, List.setIfInBounds_toArray, List.set_cons_zero, List.set_cons_succ, i64_w, i32_w]
                          rfl
                        refine pure_ (i := 1) (N := some 37) (v := ?_) (a' := ?_) #[true, true, false, false, false, false, false, false, false, false, false, false, false, false] rfl rfl (any_of HT_.out (by kernel_rfl)) (fun _ _ _ h => h) (Or.inl ⟨by rfl, ?_⟩) ?_ ?_
                        rotate_left
                        · intro w'
                          go_simp
                          with_reducible rfl
                        rotate_left
                        · simp only [Act.put, List.setIfInBounds_toArray, List.set_cons_zero, List.set_cons_succ, i64_w, i32_w]
                          rfl
                        refine pure_ (i := 2) (N := some 38) (v := ?_) (a' := ?_) #[true, true, true, false, false, false, false, false, false, false, false, false, false, false] rfl rfl (any_of HT_.out (by kernel_rfl)) (fun _ _ _ h => h) (Or.inl ⟨by rfl, ?_⟩) ?_ ?_
                        rotate_left
                        · intro w'
                          go_simp
                          with_reducible rfl
                        rotate_left
                        · simp only [Act.put, List.setIfInBounds_toArray, List.set_cons_zero, List.set_cons_succ, i64_w, i32_w]
                          rfl
                        refine pure_ (i := 3) (N := some 39) (v := ?_) (a' := ?_) #[true, true, true, true, false, false, false, false, false, false, false, false, false, false] rfl rfl (any_of HT_.out (by kernel_rfl)) (fun _ _ _ h => h) (Or.inl ⟨by rfl, ?_⟩) ?_ ?_
                        rotate_left
                        · intro w'
                          go_simp
                          with_reducible rfl
                        rotate_left
                        · simp only [Act.put, List.setIfInBounds_toArray, List.set_cons_zero, List.set_cons_succ, i64_w, i32_w]
                          rfl
                        refine pure_ (i := 4) (N := some 40) (v := ?_) (a' := ?_) #[true, true, true, true, true, false, false, false, false, false, false, false, false, false] rfl rfl (any_of HT_.out (by kernel_rfl)) (fun _ _ _ h => h) (Or.inl ⟨by rfl, ?_⟩) ?_ ?_
                        rotate_left
                        · intro w'
                          go_simp
                          with_reducible rfl
                        rotate_left
                        · simp only [Act.put, List.setIfInBounds_toArray, List.set_cons_zero, List.set_cons_succ, i64_w, i32_w]
                          rfl
                        refine pure_ (i := 5) (N := some 41) (v := ?_) (a' := ?_) #[true, true, true, true, true, true, false, false, false, false, false, false, false, false] rfl rfl (any_of HT_.out (by kernel_rfl)) (fun _ _ _ h => h) (Or.inl ⟨by rfl, ?_⟩) ?_ ?_
                        rotate_left
                        · intro w'
                          go_simp
                          with_reducible rfl
                        rotate_left
                        · simp only [Act.put, List.setIfInBounds_toArray, List.set_cons_zero, List.set_cons_succ, i64_w, i32_w]
                          rfl
                        refine pure_ (i := 6) (N := some 42) (v := ?_) (a' := ?_) #[true, true, true, true, true, true, true, false, false, false, false, false, false, false] rfl rfl (any_of HT_.out (by kernel_rfl)) (fun _ _ _ h => h) (Or.inl ⟨by rfl, ?_⟩) ?_ ?_
                        rotate_left
                        · intro w'
                          go_simp
                          with_reducible rfl
                        rotate_left
                        · simp only [Act.put, List.setIfInBounds_toArray, List.set_cons_zero, List.set_cons_succ, i64_w, i32_w]
                          rfl
                        refine pure_ (i := 8) (N := some 44) (v := ?_) (a' := ?_) #[true, true, true, true, true, true, true, false, true, false, false, false, false, false] rfl rfl (any_of HT_.out (by kernel_rfl)) (fun _ _ _ h => h) (Or.inl ⟨by rfl, ?_⟩) ?_ ?_
                        rotate_left
                        · intro w'
                          go_simp
                          with_reducible rfl
                        rotate_left
                        · simp only [Act.put, List.setIfInBounds_toArray, List.set_cons_zero, List.set_cons_succ, i64_w, i32_w]
                          rfl
                        refine pure_ (i := 9) (N := some 45) (v := ?_) (a' := ?_) #[true, true, true, true, true, true, true, false, true, true, false, false, false, false] rfl rfl (any_of HT_.out (by kernel_rfl)) (fun _ _ _ h => h) (Or.inl ⟨by rfl, ?_⟩) ?_ ?_
                        rotate_left
                        · intro w'
                          go_simp
                          with_reducible rfl
                        rotate_left
                        · simp only [Act.put, List.setIfInBounds_toArray, List.set_cons_zero, List.set_cons_succ, i64_w, i32_w]
                          rfl
                        refine pure_ (i := 10) (N := some 46) (v := ?_) (a' := ?_) #[true, true, true, true, true, true, true, false, true, true, true, false, false, false] rfl rfl (any_of HT_.out (by kernel_rfl)) (fun _ _ _ h => h) (Or.inl ⟨by rfl, ?_⟩) ?_ ?_
                        rotate_left
                        · intro w'
                          go_simp
                          with_reducible rfl
                        rotate_left
                        · simp only [Act.put, List.setIfInBounds_toArray, List.set_cons_zero, List.set_cons_succ, i64_w, i32_w]
                          rfl
                        refine take_ (i := 7) (N := some 43) (v := ?_) (a' := ?_) #[true, true, true, true, true, true, true, true, true, true, true, false, false, false] rfl rfl (take_ofW HT_.out HW_.out (by kernel_rfl)) (fun _ _ _ h => h) (Or.inl ⟨by rfl, ?_⟩) hHeld ?_ ?_
                        rotate_left
                        · intro w' s0
                          go_simp
                          with_reducible rfl
                        rotate_left
                        · simp only [Act.put, List.setIfInBounds_toArray, List.set_cons_zero, List.set_cons_succ, i64_w, i32_w]
                          rfl
                        refine pure_ (i := 11) (N := some 47) (v := ?_) (a' := ?_) #[true, true, true, true, true, true, true, true, true, true, true, true, false, false] rfl rfl (any_of HT_.out (by kernel_rfl)) (fun _ _ _ h => h) (Or.inl ⟨by rfl, ?_⟩) ?_ ?_
                        rotate_left
                        · intro w'
                          go_simp
                          with_reducible rfl
                        rotate_left
                        · simp only [Act.put, List.setIfInBounds_toArray, List.set_cons_zero, List.set_cons_succ, i64_w, i32_w]
                          rfl
                        refine pure_ (i := 12) (N := some 48) (v := ?_) (a' := ?_) #[true, true, true, true, true, true, true, true, true, true, true, true, true, false] rfl rfl (any_of HT_.out (by kernel_rfl)) (fun _ _ _ h => h) (Or.inl ⟨by rfl, ?_⟩) ?_ ?_
                        rotate_left
                        · intro w'
                          go_simp
                          with_reducible rfl
                        rotate_left
                        · simp only [Act.put, List.setIfInBounds_toArray, List.set_cons_zero, List.set_cons_succ, i64_w, i32_w]
                          rfl
                        refine last_ (i := 13) (N := none) #[true, true, true, true, true, true, true, true, true, true, true, true, true, true] rfl rfl (one_of HT_.out (by kernel_rfl)) (by decide) (fun K hK => ?_)
                        refine skip_ (w1 := ?_) (by rfl) rfl ?_ ?_
                        rotate_left
                        · go_simp
                          rfl
                        refine hK.out _ _ ?_
                        clear hK K
                        refine done_ (done_of HT_.out (by kernel_rfl)) ?_
                        try go_wp2
                        go_roundg k1
                        case measure => have := HK1.out; omega
                        case rel => exact ⟨(y195), (wrap64 (x8_1 + 1)), (by first | rfl | (simp; done) | (simp [*]; done)), H', ⟨by have := HK1.out; omega⟩, ⟨by (with_reducible repeat (first | apply Kd.R_alloc | apply Kd.R_drewN | apply Kd.R_drew)); exact HQ23.out⟩, ⟨by repeat (first | (with_reducible first | exact HB.out | apply below_alloc | apply pw_below_drewN | apply below_drew1 | refine below_set ?_ GB20.out) | exact HB.out)⟩⟩
                      · rw [if_neg c18] at H
                        exact absurd H (by simp)
                    · rw [if_neg c16] at H
                      exact absurd H (by simp)
                  · rw [if_neg c15] at H
                    exact absurd H (by simp)
                · rw [if_neg c13] at H
                  have c13b0 : decide ((wrap64 (a1 + x8_1)) < (wrap64 (8 * (x7_1.length : Int)))) = false := decide_eq_false c13
                  clear c13
                  have H' := Aside0.mk H
                  clear H
                  obtain ⟨Ao24, co24, eo24⟩ := Kd.R_slice HO_7.out
                  subst eo24
                  go_wp2
                  go_roundg k1
                  case measure => have := HK1.out; omega
                  case rel => exact ⟨(x7_1), (wrap64 (x8_1 + 1)), (by first | rfl | (simp; done) | (simp [*]; done)), H', ⟨by have := HK1.out; omega⟩, ⟨by (with_reducible repeat (first | apply Kd.R_alloc | apply Kd.R_drewN | apply Kd.R_drew)); exact HO_7.out⟩, ⟨by repeat (first | (with_reducible first | exact HB.out | apply below_alloc | apply pw_below_drewN | apply below_drew1) | exact HB.out)⟩⟩
              · rw [if_neg c12] at H
                have c12b0 : decide (0 ≤ (wrap64 (a1 + x8_1))) = false := decide_eq_false c12
                clear c12
                have H' := Aside0.mk H
                clear H
                go_wp2
                go_roundg k1
                case measure => have := HK1.out; omega
                case rel => exact ⟨(x7_1), (wrap64 (x8_1 + 1)), (by first | rfl | (simp; done) | (simp [*]; done)), H', ⟨by have := HK1.out; omega⟩, ⟨by (with_reducible repeat (first | apply Kd.R_alloc | apply Kd.R_drewN | apply Kd.R_drew)); exact HO_7.out⟩, ⟨by repeat (first | (with_reducible first | exact HB.out | apply below_alloc | apply pw_below_drewN | apply below_drew1) | exact HB.out)⟩⟩
            · rw [if_neg c11] at H
              have c11b0 : ((Int.tmod (ji10) 2) == 1) = false := beq_eq_false_iff_ne.mpr c11
              have c11b1 : ((Int.tmod (ji10) 2) != 1) = true := bne_iff_ne.mpr c11
              have H' := Aside0.mk H
              clear H
              go_wp2
              go_roundg k1
              case measure => have := HK1.out; omega
              case rel => exact ⟨(x7_1), (wrap64 (x8_1 + 1)), (by first | rfl | (simp; done) | (simp [*]; done)), H', ⟨by have := HK1.out; omega⟩, ⟨by (with_reducible repeat (first | apply Kd.R_alloc | apply Kd.R_drewN | apply Kd.R_drew)); exact HO_7.out⟩, ⟨by repeat (first | (with_reducible first | exact HB.out | apply below_alloc | apply pw_below_drewN | apply below_drew1) | exact HB.out)⟩⟩
          · rw [if_neg c9] at H
            exact absurd H (by simp)
        · rw [if_neg c8] at H
          have c8b0 : decide (x8_1 < 32) = false := decide_eq_false c8
          clear c8
          obtain rfl := Option.some.inj H
          go_wp2
          go_ret
          exact ⟨_, by first | rfl | (simp [Nat.add_zero] <;> rfl) | (simp [*] <;> rfl), by (with_reducible repeat (first | apply Kd.R_alloc | apply Kd.R_drewN | apply Kd.R_drew)); exact HO_7.out, by repeat (first | (with_reducible first | exact HB.out | apply below_alloc | apply pw_below_drewN | apply below_drew1) | exact HB.out)⟩
  · rw [if_neg c4] at H
    exact absurd H (by simp)


end Go.Proofs.Ytonbphiaideleaa.M
/- What 'Turned' comes to: the value turned by the pattern, as far as the bytes reach. -/
namespace Go.Proofs.Ytonbphiaideleaa.M
open Go.RowKit Go.Proofs.YtonbphiaideleaaW.PrintWords Go.Proofs.YtonbphiaideleaaW.PrintMore
set_option linter.unusedVariables false
set_option linter.unusedSimpArgs false

/-- One bit turned, if the pattern says so and it lies in the bytes. -/
def stp (x : List Int) (a p k : Nat) : List Int := if p / 2 ^ k % 2 = 1 ∧ a + k < 8 * x.length then x.set ((a + k) / 8) (Go.bits .xor .u8 (rd x (((a + k) / 8 : Nat) : Int)) ((2 ^ ((a + k) % 8) : Nat) : Int)) else x
theorem stp_length (x : List Int) (a p k : Nat) : (stp x a p k).length = x.length := by unfold stp; split <;> simp
def trn (l : List Int) (a p : Nat) : Nat → List Int
  | 0 => l
  | k + 1 => stp (trn l a p k) a p k
theorem trn_length (l : List Int) (a p k : Nat) : (trn l a p k).length = l.length := by
  induction k with
  | zero => rfl
  | succ k ih => rw [trn, stp_length, ih]
theorem pow_lt8 (j : Nat) (h : j < 8) : 2 ^ j < 256 := Nat.lt_of_lt_of_le (Nat.pow_lt_pow_right (by decide) h) (by decide)
theorem val_set : ∀ (x : List Int) (i j : Nat), Byt x → i < x.length → j < 8 → val (x.set i (Go.bits .xor .u8 (rd x (i : Int)) ((2 ^ j : Nat) : Int))) = val x ^^^ 2 ^ (8 * i + j) ∧ Byt (x.set i (Go.bits .xor .u8 (rd x (i : Int)) ((2 ^ j : Nat) : Int)))
  | [], i, j, _, h, _ => by simp at h
  | c :: l, 0, j, hb, _, hj => by
    obtain ⟨hc, hl⟩ := hb.cons
    have hp := pow_lt8 j hj
    rw [show 8 * 0 + j = j from by omega]
    obtain ⟨y, hy⟩ : ∃ y, 2 ^ j = y := ⟨_, rfl⟩
    rw [hy] at hp ⊢
    obtain ⟨e, he⟩ := bits_byte c (y : Int) hc ⟨by omega, by omega⟩
    rw [Int.toNat_natCast] at e he
    have er : rd (c :: l) ((0 : Nat) : Int) = c := by simp [rd]
    rw [er, List.set_cons_zero, val_cons_xor _ _ (by rw [e]; omega), val_cons_xor c l hc, e, Int.toNat_natCast]
    refine ⟨?_, ?_⟩
    · rw [Nat.xor_assoc, Nat.xor_comm y, ← Nat.xor_assoc]
    · intro z hz
      rcases List.mem_cons.1 hz with rfl | hz
      · omega
      · exact hl z hz
  | c :: l, i + 1, j, hb, h, hj => by
    obtain ⟨hc, hl⟩ := hb.cons
    have er : rd (c :: l) ((i + 1 : Nat) : Int) = rd l (i : Int) := by simp [rd]
    obtain ⟨h1, h2⟩ := val_set l i j hl (by simpa using h) hj
    rw [er, List.set_cons_succ, val_cons_xor _ _ hc, val_cons_xor c l hc, h1, mul_xor, ← Nat.xor_assoc]
    refine ⟨?_, ?_⟩
    · rw [← Nat.pow_add, show 8 * (i + 1) + j = 8 * i + j + 8 from by omega]
    · intro y hy
      rcases List.mem_cons.1 hy with rfl | hy
      · exact hc
      · exact h2 y hy
theorem val_stp {x : List Int} (a p k : Nat) (hb : Byt x) : val (stp x a p k) = val x ^^^ (if p / 2 ^ k % 2 = 1 ∧ a + k < 8 * x.length then 2 ^ (a + k) else 0) ∧ Byt (stp x a p k) := by
  unfold stp
  by_cases h : p / 2 ^ k % 2 = 1 ∧ a + k < 8 * x.length
  · rw [if_pos h, if_pos h]
    obtain ⟨h1, h2⟩ := val_set x ((a + k) / 8) ((a + k) % 8) hb (by omega) (by omega)
    rw [show 8 * ((a + k) / 8) + (a + k) % 8 = a + k from by omega] at h1
    exact ⟨h1, h2⟩
  · rw [if_neg h, if_neg h, Nat.xor_zero]
    exact ⟨rfl, hb⟩
theorem mod_bit (p k a n : Nat) : ((p % 2 ^ (k + 1)) * 2 ^ a) % 2 ^ n = ((p % 2 ^ k) * 2 ^ a) % 2 ^ n ^^^ (if p / 2 ^ k % 2 = 1 ∧ a + k < n then 2 ^ (a + k) else 0) := by
  have e : p % 2 ^ (k + 1) = p % 2 ^ k ^^^ (p / 2 ^ k % 2) * 2 ^ k := by
    rw [xor_add (Nat.mod_lt _ (Nat.two_pow_pos k)), Nat.mod_pow_succ, Nat.mul_comm]
  rw [e, mul_xor, Nat.xor_mod_two_pow]
  congr 1
  rcases Nat.mod_two_eq_zero_or_one (p / 2 ^ k) with h | h
  · rw [h, if_neg (by omega)]
    simp
  · rw [h, Nat.one_mul, ← Nat.pow_add, Nat.add_comm k a]
    by_cases h2 : a + k < n
    · rw [if_pos ⟨rfl, h2⟩, Nat.mod_eq_of_lt (Nat.pow_lt_pow_right (by decide) h2)]
    · rw [if_neg (fun hh => h2 hh.2)]
      exact Nat.mod_eq_zero_of_dvd (Nat.pow_dvd_pow 2 (by omega))
theorem val_trn {l : List Int} (a p k : Nat) (hb : Byt l) : val (trn l a p k) = val l ^^^ ((p % 2 ^ k) * 2 ^ a) % 2 ^ (8 * l.length) ∧ Byt (trn l a p k) := by
  induction k with
  | zero => simp only [trn, Nat.pow_zero, Nat.mod_one, Nat.zero_mul, Nat.zero_mod, Nat.xor_zero]; exact ⟨trivial, hb⟩
  | succ k ih =>
    obtain ⟨h1, h2⟩ := val_stp (x := trn l a p k) a p k ih.2
    rw [trn_length] at h1
    rw [trn, h1, ih.1, mod_bit, Nat.xor_assoc]
    exact ⟨rfl, h2⟩
/-- All of them. -/
def tur (l : List Int) (a p : Nat) : List Int := trn l a p 32
theorem tur_length (l : List Int) (a p : Nat) : (tur l a p).length = l.length := trn_length _ _ _ _
theorem tur_byt {l : List Int} (a p : Nat) (hb : Byt l) : Byt (tur l a p) := (val_trn a p 32 hb).2
theorem val_tur {l : List Int} (a p : Nat) (hb : Byt l) (hp : p < 2 ^ 32) (ha : a ≤ 8 * l.length) : val (tur l a p) = val l ^^^ (p % 2 ^ (8 * l.length - a)) * 2 ^ a := by
  unfold tur
  rw [(val_trn a p 32 hb).1, Nat.mod_eq_of_lt hp]
  congr 1
  rw [← Nat.mul_mod_mul_right, ← Nat.pow_add, Nat.sub_add_cancel ha]
/-- Signed bytes that are turned within 32 bits. -/
theorem tur_signed {l : List Int} (a p : Nat) (hb : Byt l) (hp : p < 2 ^ 32) (ha : a ≤ 8 * l.length) (h4 : 4 ≤ l.length) (hs : isSg l = true) : isSg (tur l a p) = decide (tur l a p = l) :=
  burst hb (tur_byt a p hb) (tur_length _ _ _) h4 hs _ a (Nat.lt_of_le_of_lt (Nat.mod_le _ _) hp) ha (val_tur a p hb hp ha)

theorem wrap64_small {x : Int} (h0 : -9223372036854775808 ≤ x) (h1 : x < 9223372036854775808) : wrap64 x = x := by unfold wrap64; omega
theorem tmod_nat (v n : Nat) : Int.tmod (v : Int) (n : Int) = ((v % n : Nat) : Int) := rfl
theorem tdiv_nat (v n : Nat) : Int.tdiv (v : Int) (n : Int) = ((v / n : Nat) : Int) := rfl
theorem one_of_nat (v : Nat) : ((v : Int) = 1) = (v = 1) := by rw [eq_iff_iff]; omega
theorem emod_small (y : Nat) (h : y < 256) : (y : Int) % 256 = (y : Int) := by omega
theorem shl_one (e : Nat) (he : e < 8) : shl .u8 1 (e : Int) = ((2 ^ e : Nat) : Int) := by
  unfold shl
  rw [Int.toNat_natCast, show min e IntKind.u8.bits = e from Nat.min_eq_left (by show e ≤ 8; omega), Int.one_mul, IntKind.wrap_u8]
  have hc : ((2 : Int) ^ e) = ((2 ^ e : Nat) : Int) := by norm_cast
  rw [hc]
  exact emod_small _ (pow_lt8 e he)
theorem shr_nat (p k : Nat) (hk : k < 32) : shr .u32 (p : Int) (k : Int) = ((p / 2 ^ k : Nat) : Int) := by
  unfold shr
  rw [Int.toNat_natCast, show min k IntKind.u32.bits = k from Nat.min_eq_left (by show k ≤ 32; omega)]
  norm_cast
theorem round_eq (x : List Int) (a p k m : Nat) (hk : k < 32) (hn : x.length ≤ 1000000) (ha : a ≤ 8 * x.length) (hp : p < 2 ^ 32) :
    turnedP.l0 (m + 1) (a : Int) (p : Int) x (k : Int) = turnedP.l0 m (a : Int) (p : Int) (stp x a p k) ((k + 1 : Nat) : Int) := by
  have w1 : wrap64 ((a : Int) + (k : Int)) = ((a + k : Nat) : Int) := by rw [wrap64_small (by omega) (by omega)]; omega
  have w2 : wrap64 (8 * (x.length : Int)) = ((8 * x.length : Nat) : Int) := by rw [wrap64_small (by omega) (by omega)]; omega
  have w3 : wrap64 ((k : Int) + 1) = ((k + 1 : Nat) : Int) := by rw [wrap64_small (by omega) (by omega)]; omega
  have d1 : Int.tdiv ((a + k : Nat) : Int) 8 = (((a + k) / 8 : Nat) : Int) := tdiv_nat (a + k) 8
  have d2 : Int.tmod ((a + k : Nat) : Int) 8 = (((a + k) % 8 : Nat) : Int) := tmod_nat (a + k) 8
  have w4 : wrap64 (((a + k) / 8 : Nat) : Int) = (((a + k) / 8 : Nat) : Int) := wrap64_small (by omega) (by omega)
  have s1 := shr_nat p k hk
  have s2 : Int.tmod ((p / 2 ^ k : Nat) : Int) 2 = ((p / 2 ^ k % 2 : Nat) : Int) := tmod_nat (p / 2 ^ k) 2
  have s3 := shl_one ((a + k) % 8) (by omega)
  clear hp
  simp only [turnedP.l0]
  rw [if_pos (by omega), if_pos (by omega), s1, s2, w1, w2, w3, d1, d2, w4, s3]
  clear s1 s2 s3 d1 d2 w1 w2 w3 w4
  unfold stp
  generalize p / 2 ^ k % 2 = b
  generalize 2 ^ ((a + k) % 8) = y
  by_cases h1 : b = 1
  · rw [if_pos (show ((b : Nat) : Int) = 1 by omega), if_pos (by omega)]
    by_cases h2 : a + k < 8 * x.length
    · rw [if_pos (by omega), if_pos (by omega), if_pos (by omega), if_pos (by omega), if_pos ⟨h1, h2⟩, Int.toNat_natCast]
    · rw [if_neg (by omega), if_neg (fun h => h2 h.2)]
  · rw [if_neg (show ¬ ((b : Nat) : Int) = 1 by omega), if_neg (fun h => h1 h.1)]
theorem rounds_eq (l : List Int) (a p : Nat) (hn : l.length ≤ 1000000) (ha : a ≤ 8 * l.length) (hp : p < 2 ^ 32) : ∀ (d k : Nat), k + d = 32 → turnedP.l0 (d + 1) (a : Int) (p : Int) (trn l a p k) (k : Int) = some (tur l a p)
  | 0, k, h => by
    have : k = 32 := by omega
    subst this
    simp only [turnedP.l0]
    rw [if_neg (by decide)]
    rfl
  | d + 1, k, h => by
    rw [round_eq _ a p k (d + 1) (by omega) (by rw [trn_length]; exact hn) (by rw [trn_length]; exact ha) hp]
    exact rounds_eq l a p hn ha hp d (k + 1) (by omega)
theorem turned_any (A : Option Addr) (c : Nat) (l : List Int) (a p : Int) (w : World) (hr : Kd.C (Kd.int .u8) w A l.length l) (hc : l.length ≤ c) (hn : l.length ≤ 1000000) (ha0 : 0 ≤ a) (ha : a ≤ 8 * (l.length : Int)) (hp : 0 ≤ p ∧ p < 4294967296) :
    Calls Try.prog 25 #[.slice A l.length c, .int .i64 a, .int .u32 p] w fun e w' => ∃ v : Value, e = .returned v ∧ Kd.R (Kd.int .u8) 5 w' w.heap.size (fun _ => True) v (tur l a.toNat p.toNat) ∧ Below w.heap.size w w' := by
  obtain ⟨a, rfl⟩ := Int.eq_ofNat_of_zero_le ha0
  obtain ⟨p, rfl⟩ := Int.eq_ofNat_of_zero_le hp.1
  rw [Int.toNat_natCast, Int.toNat_natCast]
  refine turnedP.calls 33 A c l (a : Int) (p : Int) (tur l a p) w hr hc ?_
  unfold turnedP.f
  rw [Option.bind_some, if_pos (by simp; omega)]
  exact rounds_eq l a p hn (by omega) (by omega) 32 0 (by omega)
end Go.Proofs.Ytonbphiaideleaa.M
/- lacunalaw03.CrcBursts: the walk. -/
namespace Go.Proofs.Ytonbphiaideleaa.M
open Go.RowKit Go.Proofs.YtonbphiaideleaaW.PrintWords Go.Proofs.YtonbphiaideleaaW.PrintLast
set_option linter.unusedVariables false
set_option linter.unusedSimpArgs false
def crcbursts_T7 : Bool × List (List Nat × List Nat) := (true, [([], []), ([0], [0]), ([], []), ([2], [2]), ([], []), ([4], [4]), ([3, 5], [3, 5]), ([1, 6], [1, 6]), ([7, 1], [7]), ([8, 8], [8]), ([8, 9], [8, 9]), ([10, 9, 0, 1, 2, 3, 4, 5, 6, 7, 8, 9, 10], [10])])
def crcbursts_B7 : List Nat := [0, 1, 0, 4, 0, 16, 60, 127, 255, 511, 1023, 2047]
theorem crcbursts_tab7 : rtab .any (opsOf Try.f7 7) = crcbursts_T7 := by kernel_rfl
theorem crcbursts_bits7 : waitsOk crcbursts_T7.2 crcbursts_B7 = true := by kernel_rfl
theorem isSg_sg {l : List Int} : isSg (sg l) = true := by
  have h : (sg l).take ((sg l).length - 4) = l := by rw [sg_length, Nat.add_sub_cancel, sg, List.take_left]
  unfold isSg
  rw [h]
  simp [sg_length]

set_option maxHeartbeats 4000000 in
set_option maxRecDepth 100000 in
theorem crcbursts_any (A : Option Addr) (c : Nat) (l : List Int) (at_ pat : Int) (w : World) (hr : Kd.C (Kd.int .u8) w A l.length l) (hc : l.length ≤ c) (hb : Byt l) (hat : 0 ≤ at_ ∧ at_ < 65536) (hpat : 0 ≤ pat ∧ pat < 4294967296) :
    Calls Try.prog 7 #[.slice A l.length c, .int .u16 at_, .int .u32 pat] w fun e w' => e = .returned (.bool true) ∧ Below w.heap.size w w' := by
  have HB := Aside0.mk (Below.refl w.heap.size w)
  have HR := Aside0.mk hr
  have HY := Aside0.mk hb
  clear hr hb
  by_cases h1 : 300 < l.length
  · have hd : decide (300 < (l.length : Int)) = true := by simp; omega
    have hd2 : decide (300 < l.length) = true := by simp; omega
    go_enter Try.func7, Try.ntmps7
    go_wp2
    go_ret
    exact ⟨rfl, HB.out⟩
  · have hd : decide (300 < (l.length : Int)) = false := by simp; omega
    have hd2 : decide (300 < l.length) = false := by simp; omega
    obtain ⟨ha0, ha1⟩ := hat
    obtain ⟨sc, hsc⟩ : ∃ s, s = sg l := ⟨_, rfl⟩
    have hlen : sc.length = l.length + 4 := by rw [hsc, sg_length]
    have hne : ((sc.length : Int) != (l.length : Int) + 4) = false := by rw [bne_eq_false_iff_eq]; omega
    have hsl : sc.length ≤ 304 := by omega
    have hs0 : 4 ≤ sc.length := by omega
    obtain ⟨m, hm⟩ : ∃ m : Nat, (m : Int) = at_ % (8 * (sc.length : Int)) := ⟨(at_ % (8 * (sc.length : Int))).toNat, by
      have := Int.emod_nonneg at_ (show (8 * (sc.length : Int)) ≠ 0 by omega)
      omega⟩
    have hml : m ≤ 8 * sc.length := by
      have := Int.emod_lt_of_pos at_ (show 0 < (8 * (sc.length : Int)) by omega)
      omega
    have hmod : at_ % (8 * (sc.length : Int)) = (m : Int) := hm.symm
    have HYc : Aside0 (Byt sc) := ⟨by rw [hsc]; exact sg_byt HY.out⟩
    obtain ⟨d, hdd⟩ : ∃ d, d = tur sc m pat.toNat := ⟨_, rfl⟩
    have HYd : Aside0 (Byt d) := ⟨by rw [hdd]; exact tur_byt _ _ HYc.out⟩
    have hdl : d.length = sc.length := by rw [hdd, tur_length]
    obtain ⟨bd, hbd⟩ : ∃ b : Bool, b = decide (d = sc) := ⟨_, rfl⟩
    have HSD : Aside0 (isSg d = bd) := ⟨by rw [hbd, hdd]; exact tur_signed m pat.toNat HYc.out (by omega) hml hs0 (by rw [hsc]; exact isSg_sg)⟩
    have hse : ((strOfNums d).toList == (strOfNums sc).toList) = bd := by rw [str_eq HYd.out HYc.out, hbd]
    have HSC := Aside0.mk hsc
    have HDD := Aside0.mk hdd
    have HM : Aside0 (0 ≤ (m : Int) ∧ (m : Int) ≤ 8 * (sc.length : Int)) := ⟨by omega⟩
    have HPAT := Aside0.mk hpat
    have HL : Aside0 (l.length + 4 < 140737488355328) := ⟨by omega⟩
    have HLs : Aside0 (sc.length ≤ 1000000) := ⟨by omega⟩
    have HLd : Aside0 (d.length < 140737488355328) := ⟨by omega⟩
    have h8 : ¬ (8 * (sc.length : Int) = 0) := by omega
    have h8b : ((8 * (sc.length : Int)) == 0) = false := by rw [beq_eq_false_iff_ne]; exact h8
    have hl300 : l.length ≤ 300 := by omega
    clear hm hbd hdd hsc hlen hdl h1 hpat
    go_enter Try.func7, Try.ntmps7
    go_wp2_with (first
      | (go_at_call 20; refine (sign_any _ _ _ _ HR.out hc HL.out).mono ?_; rintro e w1 ⟨v, rfl, ho, hb⟩; rw [signF_sg HY.out, ← HSC.out] at ho; have HO := Aside0.mk ho; have HB1 := Aside0.mk hb; clear ho hb; obtain ⟨Ac, cc, eo⟩ := Kd.R_slice HO.out; subst eo)
      | (go_at_call 25; refine (turned_any _ _ sc (m : Int) pat _ (Kd.R_reads' HO.out).2.2 (Kd.R_reads' HO.out).2.1 HLs.out HM.out.1 HM.out.2 HPAT.out).mono ?_; rw [Int.toNat_natCast, ← HDD.out]; rintro e w2 ⟨v, rfl, ho, hb⟩; have HO2 := Aside0.mk ho; have HB2 := Aside0.mk (below_then HB1.out HB1.out.size hb); have HC := Aside0.mk (Kd.C_below (Kd.R_reads' HO.out).2.2 hb); clear ho hb; obtain ⟨Ad, cd, eo⟩ := Kd.R_slice HO2.out; subst eo; have HD := Aside0.mk (Kd.R_reads' HO2.out).2.2; have HDc := Aside0.mk (Kd.R_reads' HO2.out).2.1))
    refine start_ (n := 12) (S := fun w' => Below w2.heap.size w2 w') (ds := []) #[false, false, false, false, false, false, false, false, false, false, false, false] (by kernel_rfl) rfl rfl (below_drew (Below.refl _ _)) (fun hHeld => ?_)
    refine with_tabW crcbursts_tab7 crcbursts_bits7 (fun HT_ HW_ => ?_)
    refine pure_ (i := 0) (N := some 29) (v := ?_) (a' := ?_) #[true, false, false, false, false, false, false, false, false, false, false, false] rfl rfl (any_of HT_.out (by kernel_rfl)) (fun _ _ _ h => h) (Or.inl ⟨by rfl, ?_⟩) ?_ ?_
    rotate_left
    · intro w'
      go_simp
      with_reducible rfl
    rotate_left
    · simp only [Act.put, List.setIfInBounds_toArray, List.set_cons_zero, List.set_cons_succ, i64_w, i32_w]
      rfl
    refine pure_ (i := 2) (N := some 31) (v := ?_) (a' := ?_) #[true, false, true, false, false, false, false, false, false, false, false, false] rfl rfl (any_of HT_.out (by kernel_rfl)) (fun _ _ _ h => h) (Or.inl ⟨by rfl, ?_⟩) ?_ ?_
    rotate_left
    · intro w'
      go_simp
      with_reducible rfl
    rotate_left
    · simp only [Act.put, List.setIfInBounds_toArray, List.set_cons_zero, List.set_cons_succ, i64_w, i32_w]
      rfl
    refine take_ (i := 3) (N := some 32) (v := ?_) (a' := ?_) #[true, false, true, true, false, false, false, false, false, false, false, false] rfl rfl (take_ofW HT_.out HW_.out (by kernel_rfl)) (fun _ _ _ h => h) (Or.inl ⟨by rfl, ?_⟩) hHeld ?_ ?_
    rotate_left
    · intro w' s0
      have hcv := Kd.C_string (P := Try.prog) (A := Ad) (c := cd) Try.underlying23 Try.underlying5 Try.underlying9 (Kd.C_below HD.out s0)
      go_simp
      with_reducible rfl
    rotate_left
    · simp only [Act.put, List.setIfInBounds_toArray, List.set_cons_zero, List.set_cons_succ, i64_w, i32_w]
      rfl
    refine pure_ (i := 4) (N := some 33) (v := ?_) (a' := ?_) #[true, false, true, true, true, false, false, false, false, false, false, false] rfl rfl (any_of HT_.out (by kernel_rfl)) (fun _ _ _ h => h) (Or.inl ⟨by rfl, ?_⟩) ?_ ?_
    rotate_left
    · intro w'
      go_simp
      with_reducible rfl
    rotate_left
    · simp only [Act.put, List.setIfInBounds_toArray, List.set_cons_zero, List.set_cons_succ, i64_w, i32_w]
      rfl
    refine take_ (i := 5) (N := some 34) (v := ?_) (a' := ?_) #[true, false, true, true, true, true, false, false, false, false, false, false] rfl rfl (take_ofW HT_.out HW_.out (by kernel_rfl)) (fun _ _ _ h => h) (Or.inl ⟨by rfl, ?_⟩) hHeld ?_ ?_
    rotate_left
    · intro w' s0
      have hcv := Kd.C_string (P := Try.prog) (A := Ac) (c := cc) Try.underlying23 Try.underlying5 Try.underlying9 (Kd.C_below HC.out s0)
      go_simp
      with_reducible rfl
    rotate_left
    · simp only [Act.put, List.setIfInBounds_toArray, List.set_cons_zero, List.set_cons_succ, i64_w, i32_w]
      rfl
    refine pure_ (i := 6) (N := some 35) (v := ?_) (a' := ?_) #[true, false, true, true, true, true, true, false, false, false, false, false] rfl rfl (any_of HT_.out (by kernel_rfl)) (fun _ _ _ h => h) (Or.inl ⟨by rfl, ?_⟩) ?_ ?_
    rotate_left
    · intro w'
      go_simp
      with_reducible rfl
    rotate_left
    · simp only [Act.put, List.setIfInBounds_toArray, List.set_cons_zero, List.set_cons_succ, i64_w, i32_w]
      rfl
    refine one_ (i := 1) (N := some 30) #[true, true, true, true, true, true, true, false, false, false, false, false] rfl rfl (one_of HT_.out (by kernel_rfl)) (by decide) (fun K hK => ?_)
    refine goes_ Try.func23 (by kernel_rfl) rfl #[.slice Ad d.length cd] (by rfl) rfl rfl (by (try simp only [List.map_toArray, List.map_cons, List.map_nil]); first | done | rfl) ?_
    refine (signed_any _ _ d _ (Kd.C_below HD.out hHeld) HDc.out HYd.out HLd.out).mono ?_
    rw [HSD.out]
    rintro e w3 ⟨rfl, hb⟩
    refine ⟨_, rfl, ?_⟩
    have HB3 := Aside0.mk (below_then hHeld hHeld.size hb)
    clear hb
    refine hK.out _ _ HB3.out (fun hHeld => ?_)
    clear hK K
    refine norm_ (a' := ?_) ?_ ?_
    rotate_left
    · show Act.put _ (some 30) _ = _
      simp only [Act.put, List.setIfInBounds_toArray, List.set_cons_zero, List.set_cons_succ, i64_w, i32_w]
      rfl
    refine pure_ (i := 7) (N := some 36) (v := ?_) (a' := ?_) #[true, true, true, true, true, true, true, true, false, false, false, false] rfl rfl (any_of HT_.out (by kernel_rfl)) (fun _ _ _ h => h) (Or.inl ⟨by rfl, ?_⟩) ?_ ?_
    rotate_left
    · intro w'
      go_simp
      with_reducible rfl
    rotate_left
    · simp only [Act.put, List.setIfInBounds_toArray, List.set_cons_zero, List.set_cons_succ, i64_w, i32_w]
      rfl
    refine pure_ (i := 8) (N := some 37) (v := ?_) (a' := ?_) #[true, true, true, true, true, true, true, true, true, false, false, false] rfl rfl (any_of HT_.out (by kernel_rfl)) (fun _ _ _ h => h) (Or.inl ⟨by rfl, ?_⟩) ?_ ?_
    rotate_left
    · intro w'
      go_simp
      with_reducible rfl
    rotate_left
    · simp only [Act.put, List.setIfInBounds_toArray, List.set_cons_zero, List.set_cons_succ, i64_w, i32_w]
      rfl
    refine one_ (i := 9) (N := some 38) #[true, true, true, true, true, true, true, true, true, true, false, false] rfl rfl (one_of HT_.out (by kernel_rfl)) (by decide) (fun K hK => ?_)
    refine goes_ Try.func19 (by kernel_rfl) rfl #[] (by rfl) rfl rfl (by (try simp only [List.map_toArray, List.map_cons, List.map_nil]); first | done | rfl) ?_
    refine (awake3_any _).mono ?_
    rintro e w4 ⟨rfl, hb⟩
    refine ⟨_, rfl, ?_⟩
    have HB4 := Aside0.mk (below_then HB3.out HB3.out.size hb)
    clear hb
    refine hK.out _ _ HB4.out (fun hHeld => ?_)
    clear hK K
    refine norm_ (a' := ?_) ?_ ?_
    rotate_left
    · show Act.put _ (some 38) _ = _
      simp only [Act.put, List.setIfInBounds_toArray, List.set_cons_zero, List.set_cons_succ, i64_w, i32_w]
      rfl
    refine pure_ (i := 10) (N := some 39) (v := ?_) (a' := ?_) #[true, true, true, true, true, true, true, true, true, true, true, false] rfl rfl (any_of HT_.out (by kernel_rfl)) (fun _ _ _ h => h) (Or.inl ⟨by rfl, ?_⟩) ?_ ?_
    rotate_left
    · intro w'
      go_simp
      with_reducible rfl
    rotate_left
    · simp only [Act.put, List.setIfInBounds_toArray, List.set_cons_zero, List.set_cons_succ, i64_w, i32_w]
      rfl
    refine pure_ (i := 11) (N := some 6) (v := ?_) (a' := ?_) #[true, true, true, true, true, true, true, true, true, true, true, true] rfl rfl (any_of HT_.out (by kernel_rfl)) (fun _ _ _ h => h) (Or.inl ⟨by rfl, ?_⟩) ?_ ?_
    rotate_left
    · intro w'
      go_simp
      with_reducible rfl
    rotate_left
    · simp only [Act.put, List.setIfInBounds_toArray, List.set_cons_zero, List.set_cons_succ, i64_w, i32_w]
      rfl
    refine done_ (done_of HT_.out (by kernel_rfl)) ?_
    go_wp2
    go_ret
    exact ⟨rfl, below_then HB2.out HB2.out.size HB4.out⟩
end Go.Proofs.Ytonbphiaideleaa.M
