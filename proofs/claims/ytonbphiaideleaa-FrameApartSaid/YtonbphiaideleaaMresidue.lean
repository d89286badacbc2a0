/- The plain law of signed bytes: one and the same sum; damage within 32 bits is told. -/
import Derived.Test.YtonbphiaideleaaMxor
import Derived.Test.YtonbphiaideleaaMsigned
namespace Go.Proofs.Ytonbphiaideleaa.M
open Go.RowKit Go.Proofs.YtonbphiaideleaaW.PrintWords
set_option linter.unusedVariables false
set_option linter.unusedSimpArgs false

theorem val_le4 {s : Nat} (hs : s < 2 ^ 32) : val (le4 (s : Int)) = s := by
  simp only [le4, val]
  omega
theorem reg_sg (l : List Int) (hl : Byt l) : reg F32 (sg l) = Tn 32 F32 := by
  have h := crcN_lt (s := 0) (by decide) hl
  have e : crcN 0 l = F32 ^^^ reg F32 l := by simp [crcN]
  rw [sg, reg_append, reg_val (le4_byt _), val_le4 h, e]
  rw [show (le4 ((F32 ^^^ reg F32 l : Nat) : Int)).length = 4 from rfl, Nat.xor_comm F32, xor_cancel]
theorem crc_sg (l : List Int) (hl : Byt l) : crcN 0 (sg l) = F32 ^^^ Tn 32 F32 := by
  unfold crcN
  rw [Nat.xor_zero, reg_sg l hl]
/-- Signed: the register says so. -/
theorem isSg_reg {d : List Int} (hd : Byt d) (h4 : 4 ≤ d.length) : isSg d = decide (reg F32 d = Tn 32 F32) := by
  have e : d = d.take (d.length - 4) ++ d.drop (d.length - 4) := (List.take_append_drop _ _).symm
  have hlen : (d.drop (d.length - 4)).length = 4 := by rw [List.length_drop]; omega
  obtain ⟨m, hm⟩ : ∃ m, m = d.take (d.length - 4) := ⟨_, rfl⟩
  obtain ⟨t, ht⟩ : ∃ t, t = d.drop (d.length - 4) := ⟨_, rfl⟩
  have hbm : Byt m := by rw [hm]; exact hd.take _
  have hbt : Byt t := by rw [ht]; exact hd.drop _
  rw [← ht] at hlen
  have hc := crcN_lt (s := 0) (by decide) hbm
  have ec : crcN 0 m = F32 ^^^ reg F32 m := by simp [crcN]
  unfold isSg
  rw [decide_eq_true h4, Bool.true_and, ← hm]
  rw [← hm, ← ht] at e
  have key : sg m = d ↔ reg F32 d = Tn 32 F32 := by
    rw [e]
    constructor
    · intro h
      rw [← h]
      exact reg_sg m hbm
    · intro h
      rw [reg_append, reg_val hbt, hlen] at h
      have h2 : Tn 32 ((reg F32 m ^^^ val t) ^^^ F32) = 0 := by rw [Tn_xor, h, Nat.xor_self]
      have hvt := val_lt hbt
      rw [hlen] at hvt
      have h3 := Tn_inj (Nat.xor_lt_two_pow (Nat.xor_lt_two_pow (reg_lt F32_lt hbm) hvt) F32_lt) h2
      have h4 : crcN 0 m = val t := by
        rw [ec]
        have h5 := eq_of_xor h3
        have h6 : reg F32 m ^^^ (reg F32 m ^^^ val t) = reg F32 m ^^^ F32 := by rw [h5]
        rw [xor_cancel] at h6
        rw [h6, Nat.xor_comm]
      rw [sg]
      congr 1
      refine val_inj (le4_byt _) hbt (by rw [hlen]; rfl) ?_
      rw [val_le4 hc, h4]
  by_cases h : sg m = d
  · rw [decide_eq_true h, decide_eq_true (key.1 h)]
  · rw [decide_eq_false h, decide_eq_false (fun e => h (key.2 e))]
/-- Damage within 32 bits: of signed bytes, if the value is turned by q·2^at with q of 32 bits, they are signed still just if they are the same. -/
theorem burst {c d : List Int} (hc : Byt c) (hd : Byt d) (hlen : d.length = c.length) (h4 : 4 ≤ c.length) (hs : isSg c = true) (q a : Nat) (hq : q < 2 ^ 32) (ha : a ≤ 8 * c.length) (hv : val d = val c ^^^ q * 2 ^ a) :
    isSg d = decide (d = c) := by
  rw [isSg_reg hc h4] at hs
  have hs := of_decide_eq_true hs
  rw [isSg_reg hd (by omega)]
  have h1 : reg F32 d = reg F32 c ^^^ Tn (8 * c.length - a) q := by
    rw [reg_val hd, reg_val hc, hlen, hv, ← Nat.xor_assoc, Tn_xor]
    congr 1
    have : 8 * c.length = (8 * c.length - a) + a := by omega
    rw [this, Tn_add, Tn_mul]
    congr 1
    omega
  have key : reg F32 d = Tn 32 F32 ↔ d = c := by
    constructor
    · intro h
      have h2 : Tn (8 * c.length - a) q = 0 := by
        have h3 : reg F32 c ^^^ (reg F32 c ^^^ Tn (8 * c.length - a) q) = reg F32 c ^^^ reg F32 c := by rw [← h1, h, hs]
        rwa [xor_cancel, Nat.xor_self] at h3
      have h4 := Tn_inj hq h2
      subst h4
      exact val_inj hd hc hlen (by rw [hv]; simp)
    · intro h
      rw [h, hs]
  by_cases h : d = c
  · rw [decide_eq_true h, decide_eq_true (key.2 h)]
  · rw [decide_eq_false h, decide_eq_false (fun e => h (key.1 e))]
end Go.Proofs.Ytonbphiaideleaa.M
