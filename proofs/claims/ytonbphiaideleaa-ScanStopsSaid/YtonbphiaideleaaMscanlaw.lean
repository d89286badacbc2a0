/- Frames out of bytes that come in parts: plain law. -/
import Derived.Test.YtonbphiaideleaaMframes
import Derived.Test.YtonbphiaideleaaMread
namespace Go.Proofs.Ytonbphiaideleaa.M
open Go.RowKit Go.Proofs.YtonbphiaideleaaW.PrintWords Go.Proofs.Ytonbphiaideleaa.PC
set_option linter.unusedVariables false
set_option linter.unusedSimpArgs false

theorem rd_app {l r : List Int} (i : Nat) (h : i < l.length) : rd (l ++ r) (i : Int) = rd l (i : Int) := by
  unfold rd
  simp only [Int.toNat_natCast, List.getD_eq_getElem?_getD]
  rw [List.getElem?_append_left h]
theorem preB_app {l r : List Int} (h : preB (l ++ r) = true) : preB l = true := by
  unfold preB at h ⊢
  have h := of_decide_eq_true h
  rw [decide_eq_true_eq]
  rcases l with _ | ⟨a, _ | ⟨b, t⟩⟩
  · simp
  · have h0 := congrArg (fun z => z[0]?) h
    simp only [List.cons_append, List.nil_append, List.length_cons] at h0
    simp at h0
    simp [h0]
  · simp only [List.cons_append, List.length_cons] at h ⊢
    simpa using h
theorem preB_app2 {l r : List Int} (h2 : 2 ≤ l.length) : preB (l ++ r) = preB l := by
  unfold preB
  rw [List.take_append_of_le_length h2, List.take_of_length_le (l := ([76, 103] : List Int)) (i := l.length) (by simpa using h2), List.take_of_length_le (l := ([76, 103] : List Int)) (i := (l ++ r).length) (by simp; omega)]
/-- What is decided stays so, whatever comes behind. -/
theorem headF_app {l r : List Int} (h : (headF l).2 ≠ 1) : headF (l ++ r) = headF l := by
  have hla : (l ++ r).length = l.length + r.length := List.length_append
  by_cases h1 : preB l = false
  · have h2 : preB (l ++ r) = false := by
      rcases hp : preB (l ++ r) with _ | _
      · rfl
      · rw [preB_app hp] at h1; cases h1
    unfold headF
    rw [if_pos h1, if_pos h2]
  · have h1' : preB l = true := by simpa using h1
    by_cases h2 : 2 < l.length
    · have hp2 := preB_app2 (l := l) (r := r) (by omega)
      have e2 : rd (l ++ r) 2 = rd l 2 := rd_app 2 h2
      by_cases h3 : verB (rd l 2) = false
      · have a : headF l = (0, 18) := by unfold headF; rw [if_neg h1, if_pos ⟨h2, h3⟩]
        have b : headF (l ++ r) = (0, 18) := by unfold headF; rw [hp2, e2, if_neg h1, if_pos ⟨by omega, h3⟩]
        rw [a, b]
      · by_cases h4 : 3 < l.length
        · have e3 : rd (l ++ r) 3 = rd l 3 := rd_app 3 h4
          by_cases h5 : kinB (rd l 3) = false
          · have a : headF l = (0, 7) := by unfold headF; rw [if_neg h1, if_neg (fun hh => h3 hh.2), if_pos ⟨h4, h5⟩]
            have b : headF (l ++ r) = (0, 7) := by unfold headF; rw [hp2, e2, e3, if_neg h1, if_neg (fun hh => h3 hh.2), if_pos ⟨by omega, h5⟩]
            rw [a, b]
          · by_cases h6 : l.length < 6
            · exact absurd (by unfold headF; rw [if_neg h1, if_neg (fun hh => h3 hh.2), if_neg (fun hh => h5 hh.2), if_pos h6]) h
            · have e4 : rd (l ++ r) 4 = rd l 4 := rd_app 4 (by omega)
              have e5 : rd (l ++ r) 5 = rd l 5 := rd_app 5 (by omega)
              have a : headF l = (if rd l 4 + 256 * rd l 5 > 4096 then (0, 2) else (rd l 4 + 256 * rd l 5, 0)) := by unfold headF; rw [if_neg h1, if_neg (fun hh => h3 hh.2), if_neg (fun hh => h5 hh.2), if_neg h6]
              have b : headF (l ++ r) = (if rd l 4 + 256 * rd l 5 > 4096 then (0, 2) else (rd l 4 + 256 * rd l 5, 0)) := by unfold headF; rw [hp2, e2, e3, e4, e5, if_neg h1, if_neg (fun hh => h3 hh.2), if_neg (fun hh => h5 hh.2), if_neg (by omega)]
              rw [a, b]
        · exact absurd (by unfold headF; rw [if_neg h1, if_neg (fun hh => h3 hh.2), if_neg (fun hh => h4 hh.1), if_pos (by omega)]) h
    · exact absurd (by unfold headF; rw [if_neg h1, if_neg (fun hh => h2 hh.1), if_neg (fun hh => h2 (by omega)), if_pos (by omega)]) h
theorem parF_app {l r : List Int} (hb : Byt l) (h : (parF l).2.2.2.2 ≠ 1) : parF (l ++ r) = parF l := by
  have hla : (l ++ r).length = l.length + r.length := List.length_append
  by_cases h0 : (headF l).2 = 0
  · have he := headF_app (l := l) (r := r) (by rw [h0]; decide)
    obtain ⟨hp, h6, _, _, hq, hx⟩ := headF_ok h0
    by_cases hs : l.length < (headF l).1.toNat + 10
    · exact absurd (by unfold parF; rw [if_pos h0, if_pos hs]) h
    · have ht : (l ++ r).take ((headF l).1.toNat + 10) = l.take ((headF l).1.toNat + 10) := List.take_append_of_le_length (by omega)
      have ht6 : (l ++ r).take ((headF l).1.toNat + 6) = l.take ((headF l).1.toNat + 6) := List.take_append_of_le_length (by omega)
      have e2 : rd (l ++ r) 2 = rd l 2 := rd_app 2 (by omega)
      have e3 : rd (l ++ r) 3 = rd l 3 := rd_app 3 (by omega)
      unfold parF
      rw [he, if_pos h0, if_pos h0, if_neg hs, if_neg (by omega), ht, ht6, e2, e3]
  · have he := headF_app (l := l) (r := r) (by
      intro h1
      apply h
      unfold parF
      rw [if_neg h0]
      exact h1)
    unfold parF
    rw [he, if_neg h0, if_neg h0]
/-- A frame that is whole has at least ten bytes and lies in what is there. -/
theorem parF_ok {l : List Int} (hb : Byt l) (h : (parF l).2.2.2.2 = 0) : ∃ n : Nat, (parF l).2.2.2.1 = (n : Int) ∧ 10 ≤ n ∧ n ≤ l.length ∧ n ≤ 4106 := by
  unfold parF at h ⊢
  by_cases h0 : (headF l).2 = 0
  · obtain ⟨hn, hx⟩ := headF_nn hb h0
    rw [if_pos h0] at h ⊢
    by_cases hs : l.length < (headF l).1.toNat + 10
    · rw [if_pos hs] at h; exact absurd h (by decide)
    · rw [if_neg hs] at h ⊢
      by_cases hg : isSg (l.take ((headF l).1.toNat + 10)) = true
      · rw [if_pos hg]
        exact ⟨(headF l).1.toNat + 10, by show (headF l).1 + 10 = _; omega, by omega, by omega, by omega⟩
      · rw [if_neg hg] at h; exact absurd h (by decide)
  · rw [if_neg h0] at h
    exact absurd h h0
theorem parF_short {l : List Int} (hb : Byt l) (h : (parF l).2.2.2.2 = 1) : l.length ≤ 4105 := by
  unfold parF at h
  by_cases h0 : (headF l).2 = 0
  · obtain ⟨hn, hx⟩ := headF_nn hb h0
    rw [if_pos h0] at h
    by_cases hs : l.length < (headF l).1.toNat + 10
    · omega
    · rw [if_neg hs] at h
      by_cases hg : isSg (l.take ((headF l).1.toNat + 10)) = true
      · rw [if_pos hg] at h; exact absurd (show (0 : Int) = 1 from h) (by decide)
      · rw [if_neg hg] at h; exact absurd h (by decide)
  · rw [if_neg h0] at h
    have h : (headF l).2 = 1 := h
    unfold headF at h
    split at h
    · exact absurd h (by decide)
    · split at h
      · exact absurd h (by decide)
      · split at h
        · exact absurd h (by decide)
        · split at h
          · omega
          · split at h
            · exact absurd h (by decide)
            · exact absurd (show (0 : Int) = 1 from h) (by decide)
/-- The frames of bytes; what is left; where that begins; why no more is told. -/
def fed : Nat → List Int → Int → List S68 × List Int × Int × Int
  | 0, l, at_ => ([], l, at_, 1)
  | k + 1, l, at_ =>
    if (parF l).2.2.2.2 = 0 then
      let q := fed k (l.drop (parF l).2.2.2.1.toNat) (at_ + (parF l).2.2.2.1)
      (⟨⟨(parF l).1, (parF l).2.1, (parF l).2.2.1⟩, at_, (parF l).2.2.2.1⟩ :: q.1, q.2)
    else ([], l, at_, (parF l).2.2.2.2)
theorem fed_stop {k : Nat} {l : List Int} {at_ : Int} (h : (parF l).2.2.2.2 ≠ 0) : fed (k + 1) l at_ = ([], l, at_, (parF l).2.2.2.2) := by
  rw [fed, if_neg h]
theorem fed_go {k : Nat} {l : List Int} {at_ : Int} (h : (parF l).2.2.2.2 = 0) : fed (k + 1) l at_ = (⟨⟨(parF l).1, (parF l).2.1, (parF l).2.2.1⟩, at_, (parF l).2.2.2.1⟩ :: (fed k (l.drop (parF l).2.2.2.1.toNat) (at_ + (parF l).2.2.2.1)).1, (fed k (l.drop (parF l).2.2.2.1.toNat) (at_ + (parF l).2.2.2.1)).2) := by
  rw [fed, if_pos h]
/-- More rounds than bytes tell the same. -/
theorem fed_fuel : ∀ (k j : Nat) {l : List Int} (at_ : Int), Byt l → l.length < k → l.length < j → fed k l at_ = fed j l at_
  | 0, _, _, _, _, h, _ => absurd h (Nat.not_lt_zero _)
  | _, 0, _, _, _, _, h => absurd h (Nat.not_lt_zero _)
  | k + 1, j + 1, l, at_, hb, hk, hj => by
    by_cases h : (parF l).2.2.2.2 = 0
    · obtain ⟨n, hn, h10, hnl, _⟩ := parF_ok hb h
      rw [fed_go h, fed_go h, hn, Int.toNat_natCast, fed_fuel k j _ (hb.drop n) (by rw [List.length_drop]; omega) (by rw [List.length_drop]; omega)]
    · rw [fed_stop h, fed_stop h]
/-- All that bytes tell. -/
def scanF (l : List Int) (at_ : Int) : List S68 × List Int × Int × Int := fed (l.length + 1) l at_
theorem scan_stop {l : List Int} {at_ : Int} (h : (parF l).2.2.2.2 ≠ 0) : scanF l at_ = ([], l, at_, (parF l).2.2.2.2) := fed_stop h
theorem scan_go {l : List Int} {at_ : Int} (hb : Byt l) (h : (parF l).2.2.2.2 = 0) : scanF l at_ = (⟨⟨(parF l).1, (parF l).2.1, (parF l).2.2.1⟩, at_, (parF l).2.2.2.1⟩ :: (scanF (l.drop (parF l).2.2.2.1.toNat) (at_ + (parF l).2.2.2.1)).1, (scanF (l.drop (parF l).2.2.2.1.toNat) (at_ + (parF l).2.2.2.1)).2) := by
  obtain ⟨n, hn, h10, hnl, _⟩ := parF_ok hb h
  unfold scanF
  rw [fed_go h, hn, Int.toNat_natCast, fed_fuel l.length ((l.drop n).length + 1) _ (hb.drop n) (by rw [List.length_drop]; omega) (by omega)]
/-- What is left is the bytes behind what was told, and it is why no more is told. -/
theorem scan_rest : ∀ (N : Nat) (l : List Int) (at_ : Int), l.length < N → Byt l → ∃ m : Nat, m ≤ l.length ∧ (scanF l at_).2.1 = l.drop m ∧ (scanF l at_).2.2.1 = at_ + (m : Int) ∧ (parF (l.drop m)).2.2.2.2 = (scanF l at_).2.2.2 ∧ (scanF l at_).2.2.2 ≠ 0
  | 0, _, _, h, _ => absurd h (Nat.not_lt_zero _)
  | N + 1, l, at_, hl, hb => by
    by_cases h : (parF l).2.2.2.2 = 0
    · obtain ⟨n, hn, h10, hnl, _⟩ := parF_ok hb h
      rw [scan_go hb h, hn, Int.toNat_natCast]
      obtain ⟨m, h1, h2, h3, h4, h5⟩ := scan_rest N (l.drop n) (at_ + (n : Int)) (by rw [List.length_drop]; omega) (hb.drop n)
      rw [List.length_drop] at h1
      refine ⟨n + m, by omega, ?_, ?_, ?_, h5⟩
      · show (scanF (l.drop n) (at_ + (n : Int))).2.1 = _
        rw [h2, List.drop_drop]
      · show (scanF (l.drop n) (at_ + (n : Int))).2.2.1 = _
        rw [h3]
        omega
      · rw [← h4, List.drop_drop]
    · rw [scan_stop h]
      exact ⟨0, Nat.zero_le _, rfl, by show at_ = _; omega, rfl, h⟩
/-- Where bytes lack, more bytes go on from there. -/
theorem scan_app : ∀ (N : Nat) (l r : List Int) (at_ : Int), l.length < N → Byt l → Byt r → (scanF l at_).2.2.2 = 1 →
    scanF (l ++ r) at_ = ((scanF l at_).1 ++ (scanF ((scanF l at_).2.1 ++ r) (scanF l at_).2.2.1).1, (scanF ((scanF l at_).2.1 ++ r) (scanF l at_).2.2.1).2)
  | 0, _, _, _, h, _, _, _ => absurd h (Nat.not_lt_zero _)
  | N + 1, l, r, at_, hl, hb, hr, h1 => by
    by_cases h : (parF l).2.2.2.2 = 0
    · obtain ⟨n, hn, h10, hnl, _⟩ := parF_ok hb h
      have ha := parF_app (r := r) hb (by rw [h]; decide)
      have hbr : Byt (l ++ r) := fun z hz => (List.mem_append.1 hz).elim (hb z) (hr z)
      rw [scan_go hb h, hn, Int.toNat_natCast] at h1 ⊢
      rw [scan_go hbr (by rw [ha]; exact h), ha, hn, Int.toNat_natCast, List.drop_append_of_le_length hnl]
      have ih := scan_app N (l.drop n) r (at_ + (n : Int)) (by rw [List.length_drop]; omega) (hb.drop n) hr h1
      rw [ih]
      rfl
    · rw [scan_stop h]
      rfl
/-- What is wrong stays so. -/
theorem scan_app_bad : ∀ (N : Nat) (l r : List Int) (at_ : Int), l.length < N → Byt l → Byt r → (scanF l at_).2.2.2 ≠ 1 →
    scanF (l ++ r) at_ = ((scanF l at_).1, (scanF l at_).2.1 ++ r, (scanF l at_).2.2.1, (scanF l at_).2.2.2)
  | 0, _, _, _, h, _, _, _ => absurd h (Nat.not_lt_zero _)
  | N + 1, l, r, at_, hl, hb, hr, h1 => by
    have hbr : Byt (l ++ r) := fun z hz => (List.mem_append.1 hz).elim (hb z) (hr z)
    by_cases h : (parF l).2.2.2.2 = 0
    · obtain ⟨n, hn, h10, hnl, _⟩ := parF_ok hb h
      have ha := parF_app (r := r) hb (by rw [h]; decide)
      rw [scan_go hb h, hn, Int.toNat_natCast] at h1 ⊢
      rw [scan_go hbr (by rw [ha]; exact h), ha, hn, Int.toNat_natCast, List.drop_append_of_le_length hnl]
      rw [scan_app_bad N (l.drop n) r (at_ + (n : Int)) (by rw [List.length_drop]; omega) (hb.drop n) hr h1]
    · rw [scan_stop h] at h1 ⊢
      have ha := parF_app (r := r) hb h1
      rw [scan_stop (by rw [ha]; exact h), ha]
def of68 (x : S68) : S87 := ⟨x.f0, x.f1, x.f2⟩
/-- The document's answer. -/
theorem read_l0 (b : List Int) (hb : Byt b) (hl : b.length < 140737488355328) : ∀ (j : Nat) (m : Nat) (out : List S87), m ≤ b.length → b.length - m < j → out.length + 10 * (b.length - m) < 1000000000000 →
    lacunaref05_Read.l0 (j + 3) b out (m : Int) = some (out ++ (scanF (b.drop m) (m : Int)).1.map of68, (scanF (b.drop m) (m : Int)).2.2.1, if (scanF (b.drop m) (m : Int)).2.2.2 = 1 then 0 else (scanF (b.drop m) (m : Int)).2.2.2)
  | 0, _, _, _, h, _ => absurd h (Nat.not_lt_zero _)
  | j + 1, m, out, hm, hj, ho => by
    rw [show j + 1 + 3 = (j + 3) + 1 from rfl, lacunaref05_Read.l0, if_pos (by omega), if_pos (by omega), Int.toNat_natCast, refParse_f (hb.drop m) (by rw [List.length_drop]; omega) j, Option.bind_some]
    by_cases h1 : (parF (b.drop m)).2.2.2.2 = 1
    · rw [if_pos h1, scan_stop (by rw [h1]; decide), h1]
      simp
    · rw [if_neg h1]
      by_cases h0 : (parF (b.drop m)).2.2.2.2 = 0
      · obtain ⟨n, hn, h10, hnl, _⟩ := parF_ok (hb.drop m) h0
        rw [List.length_drop] at hnl
        have hw : wrap64 ((m : Int) + (n : Int)) = ((m + n : Nat) : Int) := by unfold wrap64; omega
        rw [if_pos h0, if_pos (by omega), hn, hw, read_l0 b hb hl j (m + n) _ (by omega) (by omega) (by simp only [List.length_append, List.length_cons, List.length_nil]; omega), scan_go (hb.drop m) h0, hn, Int.toNat_natCast, List.drop_drop, show ((m + n : Nat) : Int) = (m : Int) + (n : Int) by omega]
        simp [of68]
      · rw [if_neg h0, scan_stop h0]
        simp [h1]
theorem read_f {b : List Int} (hb : Byt b) (hl : b.length < 10000000000) : ∃ k, lacunaref05_Read.f k b = some ((scanF b 0).1.map of68, (scanF b 0).2.2.1, if (scanF b 0).2.2.2 = 1 then 0 else (scanF b 0).2.2.2) := by
  refine ⟨b.length + 1 + 3, ?_⟩
  unfold lacunaref05_Read.f
  have := read_l0 b hb (by omega) (b.length + 1) 0 [] (Nat.zero_le _) (by omega) (by simp only [List.length_nil]; omega)
  simpa using this
end Go.Proofs.Ytonbphiaideleaa.M
