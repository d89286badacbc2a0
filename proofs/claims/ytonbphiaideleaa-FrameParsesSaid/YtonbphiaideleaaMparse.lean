/- Parse, the program's and the document's, as one plain function. -/
import Derived.Test.YtonbphiaideleaaPCx2
import Derived.Test.YtonbphiaideleaaPCx3
namespace Go.Proofs.Ytonbphiaideleaa.M
open Go.RowKit Go.Proofs.YtonbphiaideleaaW.PrintWords Go.Proofs.YtonbphiaideleaaW.PrintLast Go.Proofs.YtonbphiaideleaaW.PrintMore Go.Proofs.Ytonbphiaideleaa.PC
set_option linter.unusedVariables false
set_option linter.unusedSimpArgs false

/-- What bytes begin with. -/
def parF (l : List Int) : Int × Int × List Int × Int × Int :=
  if (headF l).2 = 0 then
    (if l.length < (headF l).1.toNat + 10 then (0, 0, [], 0, 1)
    else if isSg (l.take ((headF l).1.toNat + 10)) = true then (rd l 2, rd l 3, (l.take ((headF l).1.toNat + 6)).drop 6, (headF l).1 + 10, 0)
    else (0, 0, [], 0, 6))
  else (0, 0, [], 0, (headF l).2)

theorem headF_ok {l : List Int} (h : (headF l).2 = 0) : preB l = true ∧ 6 ≤ l.length ∧ verB (rd l 2) = true ∧ kinB (rd l 3) = true ∧ (headF l).1 = rd l 4 + 256 * rd l 5 ∧ rd l 4 + 256 * rd l 5 ≤ 4096 := by
  unfold headF at h ⊢
  by_cases h1 : preB l = false
  · rw [if_pos h1] at h; exact absurd h (by decide)
  · rw [if_neg h1] at h ⊢
    by_cases h2 : 2 < l.length ∧ verB (rd l 2) = false
    · rw [if_pos h2] at h; exact absurd h (by decide)
    · rw [if_neg h2] at h ⊢
      by_cases h3 : 3 < l.length ∧ kinB (rd l 3) = false
      · rw [if_pos h3] at h; exact absurd h (by decide)
      · rw [if_neg h3] at h ⊢
        by_cases h4 : l.length < 6
        · rw [if_pos h4] at h; exact absurd h (by decide)
        · rw [if_neg h4] at h ⊢
          by_cases h5 : rd l 4 + 256 * rd l 5 > 4096
          · rw [if_pos h5] at h; exact absurd h (by decide)
          · rw [if_neg h5]
            refine ⟨by simpa using h1, by omega, ?_, ?_, rfl, by omega⟩
            · rcases hb : verB (rd l 2) with _ | _
              · exact absurd ⟨by omega, hb⟩ h2
              · rfl
            · rcases hb : kinB (rd l 3) with _ | _
              · exact absurd ⟨by omega, hb⟩ h3
              · rfl
theorem headF_nn {l : List Int} (hb : Byt l) (h : (headF l).2 = 0) : 0 ≤ (headF l).1 ∧ (headF l).1 ≤ 4096 := by
  obtain ⟨_, h6, _, _, h1, h2⟩ := headF_ok h
  have b4 := byt_rng hb 4 (by omega)
  have b5 := byt_rng hb 5 (by omega)
  rw [show rd l ((4 : Nat) : Int) = rd l 4 from rfl] at b4
  rw [show rd l ((5 : Nat) : Int) = rd l 5 from rfl] at b5
  rw [h1]
  omega
theorem signedF {l : List Int} (hb : Byt l) (hl : l.length < 140737488355328) : crc_Signed.f l = some (isSg l) := by
  unfold crc_Signed.f
  rw [if_pos (bytB_of hb), if_pos hl]
theorem refSignedF {l : List Int} (hb : Byt l) (hl : l.length < 140737488355328) : lacunaref03_Signed.f l = some (isSg l) := by
  unfold lacunaref03_Signed.f
  rw [if_pos (bytB_of hb), if_pos hl]
theorem parse_f {l : List Int} (hb : Byt l) (hl : l.length < 140737488355328) : frame_Parse.f l = some (parF l) := by
  unfold frame_Parse.f frame_head.f parF
  rw [if_pos (bytB_of hb), Option.bind_some]
  by_cases h : (headF l).2 = 0
  · rw [if_pos h, if_pos h]
    obtain ⟨_, h6, _, _, _, _⟩ := headF_ok h
    obtain ⟨hn, hx⟩ := headF_nn hb h
    obtain ⟨m, hm⟩ : ∃ m, m = (headF l).1 := ⟨_, rfl⟩
    rw [← hm] at hn hx ⊢
    obtain ⟨n, rfl⟩ := Int.eq_ofNat_of_zero_le hn
    have e1 : wrap64 (6 + (n : Int)) = ((n + 6 : Nat) : Int) := by unfold wrap64; omega
    have e2 : wrap64 (((n + 6 : Nat) : Int) + 4) = ((n + 10 : Nat) : Int) := by unfold wrap64; omega
    rw [e1, e2]
    simp only [Int.toNat_natCast]
    by_cases hs : l.length < n + 10
    · rw [if_pos (by omega), if_pos hs]
    · rw [if_neg (by omega), if_neg hs, if_pos (by omega), if_pos (by omega), signedF (hb.take _) (by rw [List.length_take]; omega), Option.bind_some]
      by_cases hg : isSg (l.take (n + 10)) = true
      · rw [if_pos hg, if_pos hg, if_pos (by omega), if_pos (by omega), if_pos (by omega), if_pos (by omega)]
        unfold bytes_Clone.f
        rw [if_pos (by rw [List.length_drop, List.length_take]; omega), Option.bind_some]
        rfl
      · rw [if_neg hg, if_neg hg]
  · rw [if_neg h, if_neg h]
theorem refParse_start (k : Nat) (l : List Int) : lacunaref04_Parse.f k l = lacunaref04_Parse.j0 k l (!preB l) := by
  unfold lacunaref04_Parse.f preB
  rcases l with _ | ⟨a, _ | ⟨b, t⟩⟩
  · simp
  · by_cases h : a = 76 <;> simp [rd, h]
  · have h1 : ((a :: b :: t).length : Int) > 0 := by simp only [List.length_cons]; omega
    have h2 : ((a :: b :: t).length : Int) > 1 := by simp only [List.length_cons]; omega
    have r0 : rd (a :: b :: t) 0 = a := rfl
    have r1 : rd (a :: b :: t) 1 = b := rfl
    have et : (List.take 2 (a :: b :: t) = List.take (a :: b :: t).length ([76, 103] : List Int)) ↔ (a = 76 ∧ b = 103) := by
      rw [List.take_of_length_le (l := ([76, 103] : List Int)) (by simp only [List.length_cons, List.length_nil]; omega)]
      simp
    rw [if_pos h1, if_pos h1, if_pos h2, if_pos h2, r0, r1]
    by_cases h : a = 76
    · rw [if_pos h]
      congr 1
      by_cases h3 : b = 103
      · rw [decide_eq_true (et.2 ⟨h, h3⟩), h3]; rfl
      · rw [decide_eq_false (fun hh => h3 (et.1 hh).2)]
        simpa using h3
    · rw [if_neg h, decide_eq_false (fun hh => h (et.1 hh).1)]
      rfl
theorem j0_go (k : Nat) (l : List Int) : lacunaref04_Parse.j0 (k + 1) l false = lacunaref04_Parse.j1 k l (decide (2 < l.length ∧ verB (rd l 2) = false)) := by
  rw [lacunaref04_Parse.j0, if_neg (by decide)]
  by_cases h2 : 2 < l.length
  · rw [if_pos (by omega), if_pos (by omega)]
    by_cases h3 : rd l 2 = 1
    · rw [if_pos h3, h3]
      congr 1
      simp [verB]
    · rw [if_neg h3]
      congr 1
      by_cases h4 : rd l 2 = 2
      · rw [h4]; simp [verB]
      · have e : verB (rd l 2) = false := by unfold verB; rw [decide_eq_false]; omega
        rw [e]
        simp [h2, h4]
  · rw [if_neg (by omega)]
    congr 1
    simp [h2]
theorem j1_go (k : Nat) (l : List Int) : lacunaref04_Parse.j1 (k + 1) l false = lacunaref04_Parse.j2 k l (decide (3 < l.length ∧ kinB (rd l 3) = false)) := by
  rw [lacunaref04_Parse.j1, if_neg (by decide)]
  by_cases h3 : 3 < l.length
  · rw [if_pos (by omega), if_pos (by omega)]
    by_cases h4 : rd l 3 < 1
    · rw [if_pos h4]
      congr 1
      have e : kinB (rd l 3) = false := by unfold kinB; rw [decide_eq_false]; omega
      rw [e]
      simp [h3]
    · rw [if_neg h4]
      congr 1
      rw [decide_eq_decide]
      unfold kinB
      simp only [decide_eq_false_iff_not]
      omega
  · rw [if_neg (by omega)]
    congr 1
    simp [h3]
theorem parF_bad {l : List Int} {e : Int} (h : headF l = (0, e)) (he : e ≠ 0) : parF l = (0, 0, [], 0, e) := by
  unfold parF
  rw [h, if_neg he]
theorem refParse_f {l : List Int} (hb : Byt l) (hl : l.length < 140737488355328) (k : Nat) : lacunaref04_Parse.f (k + 3) l = some (parF l) := by
  rw [refParse_start]
  by_cases h1 : preB l = false
  · rw [parF_bad (e := 3) (by unfold headF; rw [if_pos h1]) (by decide), h1, lacunaref04_Parse.j0]
    rfl
  have h1' : preB l = true := by simpa using h1
  rw [h1', show (!true) = false from rfl, j0_go]
  by_cases h2 : 2 < l.length ∧ verB (rd l 2) = false
  · rw [parF_bad (e := 18) (by unfold headF; rw [if_neg h1, if_pos h2]) (by decide), decide_eq_true h2, lacunaref04_Parse.j1]
    rfl
  rw [decide_eq_false h2, j1_go]
  by_cases h3 : 3 < l.length ∧ kinB (rd l 3) = false
  · rw [parF_bad (e := 7) (by unfold headF; rw [if_neg h1, if_neg h2, if_pos h3]) (by decide), decide_eq_true h3, lacunaref04_Parse.j2]
    rfl
  rw [decide_eq_false h3, lacunaref04_Parse.j2, if_neg (by decide)]
  by_cases h6 : l.length < 6
  · rw [parF_bad (e := 1) (by unfold headF; rw [if_neg h1, if_neg h2, if_neg h3, if_pos h6]) (by decide), if_pos (by omega)]
  rw [if_neg (by omega), if_pos (by omega), if_pos (by omega)]
  have b4 := byt_rng hb 4 (by omega)
  have b5 := byt_rng hb 5 (by omega)
  rw [show rd l ((4 : Nat) : Int) = rd l 4 from rfl] at b4
  rw [show rd l ((5 : Nat) : Int) = rd l 5 from rfl] at b5
  have em : wrap64 (wrap64 (rd l 4) + wrap64 (256 * wrap64 (rd l 5))) = rd l 4 + 256 * rd l 5 := by unfold wrap64; omega
  rw [em]
  by_cases hm : rd l 4 + 256 * rd l 5 > 4096
  · rw [parF_bad (e := 2) (by unfold headF; rw [if_neg h1, if_neg h2, if_neg h3, if_neg h6, if_pos hm]) (by decide), if_pos hm]
  have hh : headF l = (rd l 4 + 256 * rd l 5, 0) := by unfold headF; rw [if_neg h1, if_neg h2, if_neg h3, if_neg h6, if_neg hm]
  unfold parF
  rw [hh, if_neg hm]
  obtain ⟨m, hmm⟩ : ∃ m, m = rd l 4 + 256 * rd l 5 := ⟨_, rfl⟩
  rw [← hmm] at hm ⊢
  obtain ⟨n, rfl⟩ := Int.eq_ofNat_of_zero_le (show 0 ≤ m by omega)
  have e1 : wrap64 ((n : Int) + 10) = ((n + 10 : Nat) : Int) := by unfold wrap64; omega
  have e2 : wrap64 (6 + (n : Int)) = ((n + 6 : Nat) : Int) := by unfold wrap64; omega
  rw [e1, e2, if_pos (show ((n : Int), (0 : Int)).2 = 0 from rfl)]
  simp only [Int.toNat_natCast]
  by_cases hs : l.length < n + 10
  · rw [if_pos (by omega), if_pos hs]
  rw [if_neg (by omega), if_neg hs, if_pos (by omega), if_pos (by omega), refSignedF (hb.take _) (by rw [List.length_take]; omega), Option.bind_some]
  by_cases hg : isSg (l.take (n + 10)) = true
  · rw [if_pos hg, if_pos hg, if_pos (by omega), if_pos (by omega), Option.bind_some, if_pos (by omega), if_pos (by omega), if_pos (by simp only [List.length_nil, List.length_drop, List.length_take]; omega)]
    rfl
  · rw [if_neg hg, if_neg hg]
theorem same_refl (x y : Int) (l : List Int) : lacunaref04_Same.f x y l x y l = some true := by
  unfold lacunaref04_Same.f
  simp
end Go.Proofs.Ytonbphiaideleaa.M
