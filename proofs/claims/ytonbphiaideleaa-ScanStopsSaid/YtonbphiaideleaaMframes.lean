/- Merged: Mparse, Mframes, Mframelaw. -/
import Derived.Test.YtonbphiaideleaaPCx2
import Derived.Test.YtonbphiaideleaaPCx3
import Derived.Test.YtonbphiaideleaaPCx5
import Derived.Test.YtonbphiaideleaaMturns
/- Parse, the program's and the document's, as one plain function. -/
namespace Go.Proofs.Ytonbphiaideleaa.M
open Go.RowKit Go.Proofs.YtonbphiaideleaaW.PrintWords Go.Proofs.YtonbphiaideleaaW.PrintLast Go.Proofs.YtonbphiaideleaaW.PrintMore Go.Proofs.Ytonbphiaideleaa.PC
set_option linter.unusedVariables false
set_option linter.unusedSimpArgs false

/-- What bytes begin with. -/
def parF (l : List Int) : Int × Int × List Int × Int × Int :=
  if (headF l).2 = 0 then
    (if l.length < (headF l).1.toNat + 10 then (0, 0, [], 0, 1)
    else if isSg (l.take ((headF l).1.toNat + 10)) = true then (rd l 2, rd l 3, (l.take ((headF l).1.toNat + 6)).drop 6, (headF l).1 + 10, 0)
    else (0, 0, [], 0, 6))
  else (0, 0, [], 0, (headF l).2)

theorem headF_ok {l : List Int} (h : (headF l).2 = 0) : preB l = true ∧ 6 ≤ l.length ∧ verB (rd l 2) = true ∧ kinB (rd l 3) = true ∧ (headF l).1 = rd l 4 + 256 * rd l 5 ∧ rd l 4 + 256 * rd l 5 ≤ 4096 := by
  unfold headF at h ⊢
  by_cases h1 : preB l = false
  · rw [if_pos h1] at h; exact absurd h (by decide)
  · rw [if_neg h1] at h ⊢
    by_cases h2 : 2 < l.length ∧ verB (rd l 2) = false
    · rw [if_pos h2] at h; exact absurd h (by decide)
    · rw [if_neg h2] at h ⊢
      by_cases h3 : 3 < l.length ∧ kinB (rd l 3) = false
      · rw [if_pos h3] at h; exact absurd h (by decide)
      · rw [if_neg h3] at h ⊢
        by_cases h4 : l.length < 6
        · rw [if_pos h4] at h; exact absurd h (by decide)
        · rw [if_neg h4] at h ⊢
          by_cases h5 : rd l 4 + 256 * rd l 5 > 4096
          · rw [if_pos h5] at h; exact absurd h (by decide)
          · rw [if_neg h5]
            refine ⟨by simpa using h1, by omega, ?_, ?_, rfl, by omega⟩
            · rcases hb : verB (rd l 2) with _ | _
              · exact absurd ⟨by omega, hb⟩ h2
              · rfl
            · rcases hb : kinB (rd l 3) with _ | _
              · exact absurd ⟨by omega, hb⟩ h3
              · rfl
theorem headF_nn {l : List Int} (hb : Byt l) (h : (headF l).2 = 0) : 0 ≤ (headF l).1 ∧ (headF l).1 ≤ 4096 := by
  obtain ⟨_, h6, _, _, h1, h2⟩ := headF_ok h
  have b4 := byt_rng hb 4 (by omega)
  have b5 := byt_rng hb 5 (by omega)
  rw [show rd l ((4 : Nat) : Int) = rd l 4 from rfl] at b4
  rw [show rd l ((5 : Nat) : Int) = rd l 5 from rfl] at b5
  rw [h1]
  omega
theorem signedF {l : List Int} (hb : Byt l) (hl : l.length < 140737488355328) : crc_Signed.f l = some (isSg l) := by
  unfold crc_Signed.f
  rw [if_pos (bytB_of hb), if_pos hl]
theorem refSignedF {l : List Int} (hb : Byt l) (hl : l.length < 140737488355328) : lacunaref03_Signed.f l = some (isSg l) := by
  unfold lacunaref03_Signed.f
  rw [if_pos (bytB_of hb), if_pos hl]
theorem parse_f {l : List Int} (hb : Byt l) (hl : l.length < 140737488355328) : frame_Parse.f l = some (parF l) := by
  unfold frame_Parse.f frame_head.f parF
  rw [if_pos (bytB_of hb), Option.bind_some]
  by_cases h : (headF l).2 = 0
  · rw [if_pos h, if_pos h]
    obtain ⟨_, h6, _, _, _, _⟩ := headF_ok h
    obtain ⟨hn, hx⟩ := headF_nn hb h
    obtain ⟨m, hm⟩ : ∃ m, m = (headF l).1 := ⟨_, rfl⟩
    rw [← hm] at hn hx ⊢
    obtain ⟨n, rfl⟩ := Int.eq_ofNat_of_zero_le hn
    have e1 : wrap64 (6 + (n : Int)) = ((n + 6 : Nat) : Int) := by unfold wrap64; omega
    have e2 : wrap64 (((n + 6 : Nat) : Int) + 4) = ((n + 10 : Nat) : Int) := by unfold wrap64; omega
    rw [e1, e2]
    simp only [Int.toNat_natCast]
    by_cases hs : l.length < n + 10
    · rw [if_pos (by omega), if_pos hs]
    · rw [if_neg (by omega), if_neg hs, if_pos (by omega), if_pos (by omega), signedF (hb.take _) (by rw [List.length_take]; omega), Option.bind_some]
      by_cases hg : isSg (l.take (n + 10)) = true
      · rw [if_pos hg, if_pos hg, if_pos (by omega), if_pos (by omega), if_pos (by omega), if_pos (by omega)]
        unfold bytes_Clone.f
        rw [if_pos (by rw [List.length_drop, List.length_take]; omega), Option.bind_some]
        rfl
      · rw [if_neg hg, if_neg hg]
  · rw [if_neg h, if_neg h]
theorem refParse_start (k : Nat) (l : List Int) : lacunaref04_Parse.f k l = lacunaref04_Parse.j0 k l (!preB l) := by
  unfold lacunaref04_Parse.f preB
  rcases l with _ | ⟨a, _ | ⟨b, t⟩⟩
  · simp
  · by_cases h : a = 76 <;> simp [rd, h]
  · have h1 : ((a :: b :: t).length : Int) > 0 := by simp only [List.length_cons]; omega
    have h2 : ((a :: b :: t).length : Int) > 1 := by simp only [List.length_cons]; omega
    have r0 : rd (a :: b :: t) 0 = a := rfl
    have r1 : rd (a :: b :: t) 1 = b := rfl
    have et : (List.take 2 (a :: b :: t) = List.take (a :: b :: t).length ([76, 103] : List Int)) ↔ (a = 76 ∧ b = 103) := by
      rw [List.take_of_length_le (l := ([76, 103] : List Int)) (by simp only [List.length_cons, List.length_nil]; omega)]
      simp
    rw [if_pos h1, if_pos h1, if_pos h2, if_pos h2, r0, r1]
    by_cases h : a = 76
    · rw [if_pos h]
      congr 1
      by_cases h3 : b = 103
      · rw [decide_eq_true (et.2 ⟨h, h3⟩), h3]; rfl
      · rw [decide_eq_false (fun hh => h3 (et.1 hh).2)]
        simpa using h3
    · rw [if_neg h, decide_eq_false (fun hh => h (et.1 hh).1)]
      rfl
theorem j0_go (k : Nat) (l : List Int) : lacunaref04_Parse.j0 (k + 1) l false = lacunaref04_Parse.j1 k l (decide (2 < l.length ∧ verB (rd l 2) = false)) := by
  rw [lacunaref04_Parse.j0, if_neg (by decide)]
  by_cases h2 : 2 < l.length
  · rw [if_pos (by omega), if_pos (by omega)]
    by_cases h3 : rd l 2 = 1
    · rw [if_pos h3, h3]
      congr 1
      simp [verB]
    · rw [if_neg h3]
      congr 1
      by_cases h4 : rd l 2 = 2
      · rw [h4]; simp [verB]
      · have e : verB (rd l 2) = false := by unfold verB; rw [decide_eq_false]; omega
        rw [e]
        simp [h2, h4]
  · rw [if_neg (by omega)]
    congr 1
    simp [h2]
theorem j1_go (k : Nat) (l : List Int) : lacunaref04_Parse.j1 (k + 1) l false = lacunaref04_Parse.j2 k l (decide (3 < l.length ∧ kinB (rd l 3) = false)) := by
  rw [lacunaref04_Parse.j1, if_neg (by decide)]
  by_cases h3 : 3 < l.length
  · rw [if_pos (by omega), if_pos (by omega)]
    by_cases h4 : rd l 3 < 1
    · rw [if_pos h4]
      congr 1
      have e : kinB (rd l 3) = false := by unfold kinB; rw [decide_eq_false]; omega
      rw [e]
      simp [h3]
    · rw [if_neg h4]
      congr 1
      rw [decide_eq_decide]
      unfold kinB
      simp only [decide_eq_false_iff_not]
      omega
  · rw [if_neg (by omega)]
    congr 1
    simp [h3]
theorem parF_bad {l : List Int} {e : Int} (h : headF l = (0, e)) (he : e ≠ 0) : parF l = (0, 0, [], 0, e) := by
  unfold parF
  rw [h, if_neg he]
theorem refParse_f {l : List Int} (hb : Byt l) (hl : l.length < 140737488355328) (k : Nat) : lacunaref04_Parse.f (k + 3) l = some (parF l) := by
  rw [refParse_start]
  by_cases h1 : preB l = false
  · rw [parF_bad (e := 3) (by unfold headF; rw [if_pos h1]) (by decide), h1, lacunaref04_Parse.j0]
    rfl
  have h1' : preB l = true := by simpa using h1
  rw [h1', show (!true) = false from rfl, j0_go]
  by_cases h2 : 2 < l.length ∧ verB (rd l 2) = false
  · rw [parF_bad (e := 18) (by unfold headF; rw [if_neg h1, if_pos h2]) (by decide), decide_eq_true h2, lacunaref04_Parse.j1]
    rfl
  rw [decide_eq_false h2, j1_go]
  by_cases h3 : 3 < l.length ∧ kinB (rd l 3) = false
  · rw [parF_bad (e := 7) (by unfold headF; rw [if_neg h1, if_neg h2, if_pos h3]) (by decide), decide_eq_true h3, lacunaref04_Parse.j2]
    rfl
  rw [decide_eq_false h3, lacunaref04_Parse.j2, if_neg (by decide)]
  by_cases h6 : l.length < 6
  · rw [parF_bad (e := 1) (by unfold headF; rw [if_neg h1, if_neg h2, if_neg h3, if_pos h6]) (by decide), if_pos (by omega)]
  rw [if_neg (by omega), if_pos (by omega), if_pos (by omega)]
  have b4 := byt_rng hb 4 (by omega)
  have b5 := byt_rng hb 5 (by omega)
  rw [show rd l ((4 : Nat) : Int) = rd l 4 from rfl] at b4
  rw [show rd l ((5 : Nat) : Int) = rd l 5 from rfl] at b5
  have em : wrap64 (wrap64 (rd l 4) + wrap64 (256 * wrap64 (rd l 5))) = rd l 4 + 256 * rd l 5 := by unfold wrap64; omega
  rw [em]
  by_cases hm : rd l 4 + 256 * rd l 5 > 4096
  · rw [parF_bad (e := 2) (by unfold headF; rw [if_neg h1, if_neg h2, if_neg h3, if_neg h6, if_pos hm]) (by decide), if_pos hm]
  have hh : headF l = (rd l 4 + 256 * rd l 5, 0) := by unfold headF; rw [if_neg h1, if_neg h2, if_neg h3, if_neg h6, if_neg hm]
  unfold parF
  rw [hh, if_neg hm]
  obtain ⟨m, hmm⟩ : ∃ m, m = rd l 4 + 256 * rd l 5 := ⟨_, rfl⟩
  rw [← hmm] at hm ⊢
  obtain ⟨n, rfl⟩ := Int.eq_ofNat_of_zero_le (show 0 ≤ m by omega)
  have e1 : wrap64 ((n : Int) + 10) = ((n + 10 : Nat) : Int) := by unfold wrap64; omega
  have e2 : wrap64 (6 + (n : Int)) = ((n + 6 : Nat) : Int) := by unfold wrap64; omega
  rw [e1, e2, if_pos (show ((n : Int), (0 : Int)).2 = 0 from rfl)]
  simp only [Int.toNat_natCast]
  by_cases hs : l.length < n + 10
  · rw [if_pos (by omega), if_pos hs]
  rw [if_neg (by omega), if_neg hs, if_pos (by omega), if_pos (by omega), refSignedF (hb.take _) (by rw [List.length_take]; omega), Option.bind_some]
  by_cases hg : isSg (l.take (n + 10)) = true
  · rw [if_pos hg, if_pos hg, if_pos (by omega), if_pos (by omega), Option.bind_some, if_pos (by omega), if_pos (by omega), if_pos (by simp only [List.length_nil, List.length_drop, List.length_take]; omega)]
    rfl
  · rw [if_neg hg, if_neg hg]
theorem same_refl (x y : Int) (l : List Int) : lacunaref04_Same.f x y l x y l = some true := by
  unfold lacunaref04_Same.f
  simp
end Go.Proofs.Ytonbphiaideleaa.M
/- The functions of chapter 04, each with what it answers as one plain function. -/
namespace Go.Proofs.Ytonbphiaideleaa.M
open Go.RowKit Go.Proofs.YtonbphiaideleaaW.PrintWords Go.Proofs.YtonbphiaideleaaW.PrintLast Go.Proofs.YtonbphiaideleaaW.PrintMore Go.Proofs.Ytonbphiaideleaa.PC
set_option linter.unusedVariables false
set_option linter.unusedSimpArgs false

theorem own_any (x y : Int) (A : Option Addr) (c : Nat) (l : List Int) (w : World) (hr : Kd.C (Kd.int .u8) w A l.length l) (hc : l.length ≤ c) (hl : l.length < 140737488355328) :
    Calls Try.prog 33 #[.agg #[.int .u8 x, .int .u8 y, .slice A l.length c]] w fun e w' => ∃ v : Value, e = .returned (.agg #[.int .u8 x, .int .u8 y, v]) ∧ Kd.R (Kd.int .u8) 5 w' w.heap.size (fun _ => True) v l ∧ Below w.heap.size w w' :=
  lacunalaw04_Own.calls x y A c l x y l w hr hc (by
    unfold lacunalaw04_Own.f
    rw [Option.bind_some, if_pos (by simpa using hl)]
    rfl)
theorem refRight_f (x y : Int) (l : List Int) : lacunaref04_Right.f 2 x y l = some (rightF x y l) := by
  unfold lacunaref04_Right.f rightF verB kinB
  have h0 : lacunaref04_Right.f 2 x y l = lacunaref04_Right.j0 2 (!(decide (1 ≤ x ∧ x ≤ 2))) x y l := by
    unfold lacunaref04_Right.f
    by_cases h1 : x = 1
    · rw [if_pos h1, h1]; rfl
    · rw [if_neg h1]
      congr 1
      by_cases h2 : x = 2
      · rw [h2]; rfl
      · have : decide (1 ≤ x ∧ x ≤ 2) = false := by rw [decide_eq_false]; omega
        rw [this]
        simpa using h2
  unfold lacunaref04_Right.f at h0
  rw [h0, lacunaref04_Right.j0]
  by_cases hx : 1 ≤ x ∧ x ≤ 2
  · rw [decide_eq_true hx, if_neg (by decide), if_pos rfl]
    by_cases hy : 1 ≤ y ∧ y ≤ 8
    · rw [decide_eq_true hy, if_pos rfl, if_neg (by omega)]
      have : decide (y > 8) = false := by rw [decide_eq_false]; omega
      rw [this, lacunaref04_Right.j1, if_neg (by decide)]
      by_cases hl : 4096 < l.length
      · rw [if_pos (by omega), if_pos hl]
      · rw [if_neg (by omega), if_neg hl]
    · rw [decide_eq_false hy, if_neg (show ¬ ((false : Bool) = true) by decide)]
      by_cases h1 : y < 1
      · rw [if_pos h1, lacunaref04_Right.j1, if_pos rfl]
      · rw [if_neg h1]
        have : decide (y > 8) = true := by rw [decide_eq_true]; omega
        rw [this, lacunaref04_Right.j1, if_pos rfl]
  · rw [decide_eq_false hx, if_pos (by rfl), if_neg (show ¬ ((false : Bool) = true) by decide)]
theorem refright_any (x y : Int) (A : Option Addr) (c : Nat) (l : List Int) (w : World) (hr : Kd.C (Kd.int .u8) w A l.length l) (hc : l.length ≤ c) :
    Calls Try.prog 31 #[.agg #[.int .u8 x, .int .u8 y, .slice A l.length c]] w fun e w' => e = .returned (.int .i64 (rightF x y l)) ∧ Below w.heap.size w w' :=
  lacunaref04_Right.calls 2 x y A c l _ w hr hc (refRight_f x y l)
theorem parse_any (A : Option Addr) (c : Nat) (l : List Int) (w : World) (hr : Kd.C (Kd.int .u8) w A l.length l) (hc : l.length ≤ c) (hb : Byt l) (hl : l.length < 140737488355328) :
    Calls Try.prog 26 #[.slice A l.length c] w fun e w' => ∃ v : Value, e = .returned (.tuple #[.agg #[.int .u8 (parF l).1, .int .u8 (parF l).2.1, v], .int .i64 (parF l).2.2.2.1, .int .i64 (parF l).2.2.2.2]) ∧ Kd.R (Kd.int .u8) 5 w' w.heap.size (fun _ => True) v (parF l).2.2.1 ∧ Below w.heap.size w w' :=
  frame_Parse.calls A c l _ _ _ _ _ w hr hc (parse_f hb hl)
theorem refparse_any (A : Option Addr) (c : Nat) (l : List Int) (w : World) (hr : Kd.C (Kd.int .u8) w A l.length l) (hc : l.length ≤ c) (hb : Byt l) (hl : l.length < 140737488355328) :
    Calls Try.prog 27 #[.slice A l.length c] w fun e w' => ∃ v : Value, e = .returned (.tuple #[.agg #[.int .u8 (parF l).1, .int .u8 (parF l).2.1, v], .int .i64 (parF l).2.2.2.1, .int .i64 (parF l).2.2.2.2]) ∧ Kd.R (Kd.int .u8) 5 w' w.heap.size (fun _ => True) v (parF l).2.2.1 ∧ Below w.heap.size w w' :=
  lacunaref04_Parse.calls 3 A c l _ _ _ _ _ w hr hc (refParse_f hb hl 0)
/-- Are two frames alike? -/
def sameB (x y : Int) (l : List Int) (x' y' : Int) (l' : List Int) : Bool := decide (x = x' ∧ y = y' ∧ l = l')
theorem same_f {x y : Int} {l : List Int} {x' y' : Int} {l' : List Int} (hb : Byt l) (hb' : Byt l') : lacunaref04_Same.f x y l x' y' l' = some (sameB x y l x' y' l') := by
  unfold lacunaref04_Same.f sameB
  by_cases h1 : x = x'
  · rw [if_pos h1]
    by_cases h2 : y = y'
    · rw [if_pos h2, str_eq hb hb']
      congr 1
      rw [decide_eq_decide]
      exact ⟨fun h => ⟨h1, h2, h⟩, fun h => h.2.2⟩
    · rw [if_neg h2, decide_eq_false (fun h => h2 h.2.1)]
  · rw [if_neg h1, decide_eq_false (fun h => h1 h.1)]
theorem same_any (x y : Int) (A : Option Addr) (c : Nat) (l : List Int) (x' y' : Int) (A' : Option Addr) (c' : Nat) (l' : List Int) (w : World) (hr : Kd.C (Kd.int .u8) w A l.length l) (hc : l.length ≤ c) (hr' : Kd.C (Kd.int .u8) w A' l'.length l') (hc' : l'.length ≤ c') (hb : Byt l) (hb' : Byt l') :
    Calls Try.prog 28 #[.agg #[.int .u8 x, .int .u8 y, .slice A l.length c], .agg #[.int .u8 x', .int .u8 y', .slice A' l'.length c']] w fun e w' => e = .returned (.bool (sameB x y l x' y' l')) ∧ Below w.heap.size w w' :=
  lacunaref04_Same.calls x y A c l x' y' A' c' l' _ w hr hc hr' hc' (same_f hb hb')
set_option maxHeartbeats 8000000 in
set_option maxRecDepth 100000 in
theorem back_any (x y : Int) (A : Option Addr) (n c : Nat) (w : World) :
    Calls Try.prog 29 #[.agg #[.int .u8 x, .int .u8 y, .slice A n c]] w fun e w' => e = .returned (.agg #[.int .u8 x, .int .u8 y, .slice A n c]) ∧ Below w.heap.size w w' := by
  have hu40 := Try.underlying40
  have hu44 := Try.underlying44
  have HB := Aside0.mk (Below.refl w.heap.size w)
  go_enter Try.func29, Try.ntmps29
  go_wp2_with (first
    | ((with_reducible refine gate_dst (N := 1) rfl ?_); refine box_event ?hg (N := 1) ?hd (cs := #[.int .u8 x, .int .u8 y, .slice A n c]) (t := 40) ?hr ?_; (case hd => rfl); (case hg => rfl); (case hr => first | (go_simp; done) | (go_simp; rfl)); intro g1 hg w1 hbox hb; have HB1 := Aside0.mk (below_step HB.out hb); have HG1 := Aside0.mk hbox; have HE1 := Aside0.mk (show w.heap.size ≤ g1 by rw [hg]; exact Nat.le_refl _); clear hbox hb hg)
    | ((with_reducible refine gate_dst (N := 2) rfl ?_); refine box_event ?hg (N := 2) ?hd (cs := #[.int .u8 0, .int .u8 0, .slice none 0 0]) (t := 44) ?hr ?_; (case hd => rfl); (case hg => rfl); (case hr => first | (go_simp; done) | (go_simp; rfl)); intro g2 hg w2 hbox hb; have HB2 := Aside0.mk (below_step HB1.out hb); have HG2 := Aside0.mk hbox; have HG1' := Aside0.mk (blk_below HG1.out hb); have HE2 := Aside0.mk (show w.heap.size ≤ g2 by rw [hg]; exact HB1.out.size); clear hbox hb hg; have hz0 : w2.cell? ⟨g1, 0, none⟩ = some (.int .u8 x) := (blk_cell HG1'.out 0).trans rfl; have hz1 : w2.cell? ⟨g1, 1, none⟩ = some (.int .u8 y) := (blk_cell HG1'.out 1).trans rfl; have hz2 : w2.cell? ⟨g1, 2, none⟩ = some (.slice A n c) := (blk_cell HG1'.out 2).trans rfl; have hy0 : w2.cell? ⟨g2, 0, none⟩ = some (.int .u8 0) := (blk_cell HG2.out 0).trans rfl; have hy1 : w2.cell? ⟨g2, 1, none⟩ = some (.int .u8 0) := (blk_cell HG2.out 1).trans rfl; have hy2 : w2.cell? ⟨g2, 2, none⟩ = some (.slice none 0 0) := (blk_cell HG2.out 2).trans rfl; have hf0 := blk_frozen HG2.out 0; have hf1 := blk_frozen HG2.out 1; have hf2 := blk_frozen HG2.out 2))
  refine bodyPost_ret (results_cell_row rfl _ _ g2 44 #[.int .u8 x, .int .u8 y, .slice A n c] (0, 0) _ rfl (by (with_reducible repeat (first | refine blk_drewN ?_ _ | refine blk_drew ?_ | refine blk_alloc ?_ _)); refine blk_put (cs := #[.int .u8 x, .int .u8 y, .slice none 0 0]) ?_ 2 _ rfl; (with_reducible repeat (first | refine blk_drewN ?_ _ | refine blk_drew ?_ | refine blk_alloc ?_ _)); refine blk_put (cs := #[.int .u8 x, .int .u8 0, .slice none 0 0]) ?_ 1 _ rfl; (with_reducible repeat (first | refine blk_drewN ?_ _ | refine blk_drew ?_ | refine blk_alloc ?_ _)); refine blk_put (cs := #[.int .u8 0, .int .u8 0, .slice none 0 0]) ?_ 0 _ rfl; (with_reducible repeat (first | refine blk_drewN ?_ _ | refine blk_drew ?_ | refine blk_alloc ?_ _)); exact HG2.out) Try.underlying44 rfl (by kernel_rfl)) rfl ?_
  exact ⟨by first | rfl | (simp <;> rfl), by repeat (first | (with_reducible first | exact HB2.out | apply below_alloc | apply pw_below_drewN | apply below_drew1 | refine below_set ?_ HE2.out) | exact HB2.out)⟩
end Go.Proofs.Ytonbphiaideleaa.M
/- What a frame's bytes are parsed as: plain law. -/
namespace Go.Proofs.Ytonbphiaideleaa.M
open Go.RowKit Go.Proofs.YtonbphiaideleaaW.PrintWords
set_option linter.unusedVariables false
set_option linter.unusedSimpArgs false

theorem rightF_zero {x y : Int} {l : List Int} (h : rightF x y l = 0) : verB x = true ∧ kinB y = true ∧ l.length ≤ 4096 := by
  have h3 := rightF_len h
  unfold rightF at h
  by_cases h1 : verB x = true
  · rw [if_pos h1] at h
    by_cases h2 : kinB y = true
    · exact ⟨h1, h2, h3⟩
    · rw [if_neg h2] at h; exact absurd h (by decide)
  · rw [if_neg h1] at h; exact absurd h (by decide)
theorem makeB_length (x y : Int) (l : List Int) : (makeB x y l).length = l.length + 6 := by
  simp [makeB]
theorem xor_pow (a b n : Nat) : (a ^^^ b) * 2 ^ n = a * 2 ^ n ^^^ b * 2 ^ n := by
  have h := @Nat.shiftLeft_xor_distrib n a b
  simpa only [Nat.shiftLeft_eq] using h
theorem makeB_byt {x y : Int} {l : List Int} (h : rightF x y l = 0) (hb : Byt l) : Byt (makeB x y l) := by
  obtain ⟨h1, h2, h3⟩ := rightF_zero h
  unfold verB at h1
  unfold kinB at h2
  have h1 := of_decide_eq_true h1
  have h2 := of_decide_eq_true h2
  intro z hz
  unfold makeB at hz
  rcases List.mem_append.1 hz with hz | hz
  · simp only [List.mem_cons, List.not_mem_nil, or_false] at hz
    omega
  · exact hb z hz
/-- A frame's bytes. -/
def frB (x y : Int) (l : List Int) : List Int := sg (makeB x y l)
theorem frB_length (x y : Int) (l : List Int) : (frB x y l).length = l.length + 10 := by rw [frB, sg_length, makeB_length]
theorem frB_byt {x y : Int} {l : List Int} (h : rightF x y l = 0) (hb : Byt l) : Byt (frB x y l) := sg_byt (makeB_byt h hb)
theorem frB_sign {x y : Int} {l : List Int} (h : rightF x y l = 0) (hb : Byt l) : signF (makeB x y l) = frB x y l := signF_sg (makeB_byt h hb)
theorem frB_eq (x y : Int) (l : List Int) : ∃ s : List Int, s.length = 4 ∧ frB x y l = 76 :: 103 :: x :: y :: ((l.length : Int) % 256) :: ((l.length : Int) / 256 % 256) :: (l ++ s) :=
  ⟨le4 ((crcN 0 (makeB x y l) : Nat) : Int), rfl, by rw [frB, sg, makeB]; simp⟩
/-- Six bytes that a frame begins with. -/
theorem headF_six {x y m d : Int} {t : List Int} (hx : verB x = true) (hy : kinB y = true) (hm : m + 256 * d ≤ 4096) : headF (76 :: 103 :: x :: y :: m :: d :: t) = (m + 256 * d, 0) := by
  have hp : preB (76 :: 103 :: x :: y :: m :: d :: t) = true := by
    unfold preB
    rw [decide_eq_true]
    rw [List.take_of_length_le (l := ([76, 103] : List Int)) (by simp only [List.length_cons, List.length_nil]; omega)]
    rfl
  unfold headF
  have r2 : rd (76 :: 103 :: x :: y :: m :: d :: t) 2 = x := rfl
  have r3 : rd (76 :: 103 :: x :: y :: m :: d :: t) 3 = y := rfl
  have r4 : rd (76 :: 103 :: x :: y :: m :: d :: t) 4 = m := rfl
  have r5 : rd (76 :: 103 :: x :: y :: m :: d :: t) 5 = d := rfl
  have hl : ¬ (76 :: 103 :: x :: y :: m :: d :: t).length < 6 := by simp only [List.length_cons]; omega
  rw [hp, r2, r3, r4, r5, hx, hy, if_neg (by decide), if_neg (fun h => by cases h.2), if_neg (fun h => by cases h.2), if_neg hl, if_neg (by omega)]
theorem len_split {n : Nat} (h : n ≤ 4096) : (n : Int) % 256 + 256 * ((n : Int) / 256 % 256) = (n : Int) := by omega
/-- WHAT IS MADE IS PARSED AS IT WAS, whatever stands behind. -/
theorem parF_make {x y : Int} {l : List Int} (h : rightF x y l = 0) (hb : Byt l) (r : List Int) : parF (frB x y l ++ r) = (x, y, l, (l.length : Int) + 10, 0) := by
  obtain ⟨h1, h2, h3⟩ := rightF_zero h
  have hlen := frB_length x y l
  have hs : isSg (frB x y l) = true := isSg_sg
  obtain ⟨s, hs4, he⟩ := frB_eq x y l
  have hd : headF (frB x y l ++ r) = ((l.length : Int), 0) := by
    rw [he]
    simp only [List.cons_append]
    rw [headF_six h1 h2 (by rw [len_split h3]; omega), len_split h3]
  unfold parF
  rw [hd]
  simp only [Int.toNat_natCast]
  rw [if_pos trivial, if_neg (by rw [List.length_append, hlen]; omega), show (frB x y l ++ r).take (l.length + 10) = frB x y l by rw [← hlen, List.take_left], if_pos hs]
  have e2 : rd (frB x y l ++ r) 2 = x := by rw [he]; rfl
  have e3 : rd (frB x y l ++ r) 3 = y := by rw [he]; rfl
  have e4 : ((frB x y l ++ r).take (l.length + 6)).drop 6 = l := by
    rw [List.drop_take, he]
    simp
  rw [e2, e3, e4]
/-- Cut anywhere ahead of its end just bytes lack. -/
theorem parF_cut {x y : Int} {l : List Int} (h : rightF x y l = 0) (k : Nat) (hk : k < l.length + 10) : parF ((frB x y l).take k) = (0, 0, [], 0, 1) := by
  obtain ⟨h1, h2, h3⟩ := rightF_zero h
  have hlen := frB_length x y l
  obtain ⟨s, hs4, he⟩ := frB_eq x y l
  rcases Nat.lt_or_ge k 6 with h6 | h6
  · refine parF_bad (e := 1) ?_ (by decide)
    rw [he]
    have : k = 0 ∨ k = 1 ∨ k = 2 ∨ k = 3 ∨ k = 4 ∨ k = 5 := by omega
    rcases this with rfl | rfl | rfl | rfl | rfl | rfl <;> simp [headF, preB, rd, h1, h2]
  · obtain ⟨j, rfl⟩ : ∃ j, k = j + 6 := ⟨k - 6, by omega⟩
    have hl2 : ((frB x y l).take (j + 6)).length = j + 6 := by rw [List.length_take]; omega
    have hd : headF ((frB x y l).take (j + 6)) = ((l.length : Int), 0) := by
      rw [he]
      simp only [List.take_succ_cons]
      rw [headF_six h1 h2 (by rw [len_split h3]; omega), len_split h3]
    unfold parF
    rw [hd]
    simp only [Int.toNat_natCast]
    rw [if_pos trivial, if_pos (by rw [hl2]; omega)]
theorem frB_inj {x y : Int} {l : List Int} {x' y' : Int} {l' : List Int} (h : rightF x y l = 0) (hb : Byt l) (h' : rightF x' y' l' = 0) (hb' : Byt l') : decide (frB x y l = frB x' y' l') = decide (x = x' ∧ y = y' ∧ l = l') := by
  rw [decide_eq_decide]
  refine ⟨fun he => ?_, fun he => by obtain ⟨rfl, rfl, rfl⟩ := he; rfl⟩
  have e1 := parF_make h hb []
  have e2 := parF_make h' hb' []
  rw [List.append_nil] at e1 e2
  rw [he, e2] at e1
  simp only [Prod.mk.injEq] at e1
  exact ⟨e1.1.symm, e1.2.1.symm, e1.2.2.1.symm⟩
/-- DAMAGE WITHIN 32 BITS BEHIND THE LENGTH. -/
theorem frB_burst {x y : Int} {l : List Int} (h : rightF x y l = 0) (hb : Byt l) (a p : Nat) (hp : p < 2 ^ 32) (ha : a ≤ 8 * (l.length + 4)) :
    isSg ((frB x y l).take 6 ++ tur ((frB x y l).drop 6) a p) = decide (tur ((frB x y l).drop 6) a p = (frB x y l).drop 6) := by
  have hB := frB_byt h hb
  have hlen := frB_length x y l
  have hs : isSg (frB x y l) = true := isSg_sg
  obtain ⟨B, hBe⟩ : ∃ B, B = frB x y l := ⟨_, rfl⟩
  rw [← hBe] at hB hlen hs ⊢
  have hdl : (B.drop 6).length = l.length + 4 := by rw [List.length_drop]; omega
  have hv := val_tur a p (hB.drop 6) hp (by rw [hdl]; exact ha)
  have hb6 := tur_byt a p (hB.drop 6)
  have hl6 := tur_length (B.drop 6) a p
  obtain ⟨D, hD⟩ : ∃ D, D = tur (B.drop 6) a p := ⟨_, rfl⟩
  rw [← hD] at hv hb6 hl6 ⊢
  have e : B = B.take 6 ++ B.drop 6 := (List.take_append_drop 6 B).symm
  have ht6 : (B.take 6).length = 6 := by rw [List.length_take]; omega
  have hbd : Byt (B.take 6 ++ D) := fun z hz => by
    rcases List.mem_append.1 hz with hz | hz
    · exact hB.take 6 z hz
    · exact hb6 z hz
  have hvv : val (B.take 6 ++ D) = val B ^^^ (p % 2 ^ (8 * (B.drop 6).length - a)) * 2 ^ (48 + a) := by
    conv => rhs; rw [e]
    rw [val_append, val_append, ht6, hv, List.take_append_drop]
    have hlt : val (B.take 6) < 2 ^ 48 := by
      have := val_lt (hB.take 6)
      rw [ht6] at this
      exact this
    rw [show 8 * 6 = 48 from rfl, ← xor_add hlt, ← xor_add hlt, xor_pow, Nat.pow_add, Nat.mul_comm (2 ^ 48), ← Nat.mul_assoc, Nat.xor_assoc]
  rw [burst hB hbd (by rw [List.length_append, ht6, hl6, List.length_drop]; omega) (by omega) hs _ (48 + a) (Nat.lt_of_le_of_lt (Nat.mod_le _ _) hp) (by omega) hvv]
  rw [decide_eq_decide]
  constructor
  · intro hh
    rw [e] at hh
    simp only [List.take_append_drop] at hh
    exact List.append_cancel_left (by rw [hh]; exact e)
  · intro hh
    rw [hh]
    exact List.take_append_drop 6 B
end Go.Proofs.Ytonbphiaideleaa.M
