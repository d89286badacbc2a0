/- Merged: Mxor, Mresidue. -/
import Derived.Test.YtonbphiaideleaaMconn
import Derived.Test.YtonbphiaideleaaWMore
import Derived.Test.YtonbphiaideleaaMsigned
/- The plain law of sums that go together. -/
namespace Go.Proofs.Ytonbphiaideleaa.M
open Go.RowKit Go.Proofs.YtonbphiaideleaaW.PrintWords
set_option linter.unusedVariables false
set_option linter.unusedSimpArgs false

theorem mul_xor (a b n : Nat) : (a ^^^ b) * 2 ^ n = a * 2 ^ n ^^^ b * 2 ^ n := by
  have := Nat.shiftLeft_xor_distrib (a := a) (b := b) (i := n)
  simpa [Nat.shiftLeft_eq] using this
theorem xor_swap (p q r s : Nat) : (p ^^^ q) ^^^ (r ^^^ s) = (p ^^^ r) ^^^ (q ^^^ s) := by
  rw [Nat.xor_assoc, Nat.xor_assoc, ← Nat.xor_assoc q r s, Nat.xor_comm q r, Nat.xor_assoc r q s]
def xor2 : List Int → List Int → List Int
  | c :: l, d :: m => Go.bits .xor .u8 c d :: xor2 l m
  | _, _ => []
theorem xor2_length : ∀ (l m : List Int), l.length = m.length → (xor2 l m).length = l.length
  | [], [], _ => rfl
  | c :: l, d :: m, h => by simp only [xor2, List.length_cons]; rw [xor2_length l m (by simpa using h)]
  | [], _ :: _, h => by simp at h
  | _ :: _, [], h => by simp at h
theorem bits_byte (c d : Int) (hc : 0 ≤ c ∧ c < 256) (hd : 0 ≤ d ∧ d < 256) : Go.bits .xor .u8 c d = ((c.toNat ^^^ d.toNat : Nat) : Int) ∧ c.toNat ^^^ d.toNat < 256 := by
  obtain ⟨c, rfl⟩ := Int.eq_ofNat_of_zero_le hc.1
  obtain ⟨d, rfl⟩ := Int.eq_ofNat_of_zero_le hd.1
  simp only [Int.toNat_natCast]
  exact ⟨bits_xor_u8 (by omega) (by omega), Nat.xor_lt_two_pow (n := 8) (by omega) (by omega)⟩
theorem xor2_byt : ∀ (l m : List Int), Byt l → Byt m → Byt (xor2 l m)
  | [], _, _, _ => by simpa [xor2] using Byt.nil
  | _ :: _, [], _, _ => by simpa [xor2] using Byt.nil
  | c :: l, d :: m, hl, hm => by
    obtain ⟨hc, hl⟩ := hl.cons
    obtain ⟨hd, hm⟩ := hm.cons
    intro x hx
    simp only [xor2, List.mem_cons] at hx
    rcases hx with rfl | hx
    · have := bits_byte c d hc hd
      omega
    · exact xor2_byt l m hl hm x hx
theorem val_cons_xor (c : Int) (l : List Int) (hc : 0 ≤ c ∧ c < 256) : val (c :: l) = c.toNat ^^^ val l * 2 ^ 8 := by
  rw [xor_add (by omega), val, Nat.mul_comm]
theorem val_xor2 : ∀ (l m : List Int), Byt l → Byt m → l.length = m.length → val (xor2 l m) = val l ^^^ val m
  | [], [], _, _, _ => by simp [xor2, val]
  | [], _ :: _, _, _, h => by simp at h
  | _ :: _, [], _, _, h => by simp at h
  | c :: l, d :: m, hl, hm, h => by
    obtain ⟨hc, hl⟩ := hl.cons
    obtain ⟨hd, hm⟩ := hm.cons
    obtain ⟨e, he⟩ := bits_byte c d hc hd
    have ih := val_xor2 l m hl hm (by simpa using h)
    rw [xor2, val_cons_xor _ _ (by rw [e]; omega), val_cons_xor c l hc, val_cons_xor d m hd, ih, e, Int.toNat_natCast, mul_xor, xor_swap]
/-- The sum, by the value of the bytes. -/
theorem crcN_val {l : List Int} (h : Byt l) : crcN 0 l = (F32 ^^^ Tn (8 * l.length) F32) ^^^ Tn (8 * l.length) (val l) := by
  unfold crcN
  rw [Nat.xor_zero, reg_val h, Tn_xor, Nat.xor_assoc]
theorem crc_together {a b c : List Int} (ha : Byt a) (hb : Byt b) (hc : Byt c) (h1 : a.length = b.length) (h2 : b.length = c.length) :
    crcN 0 (xor2 (xor2 a b) c) = crcN 0 a ^^^ crcN 0 b ^^^ crcN 0 c := by
  have hab := xor2_byt a b ha hb
  have l1 := xor2_length a b h1
  have l2 := xor2_length (xor2 a b) c (by omega)
  rw [crcN_val (xor2_byt _ _ hab hc), crcN_val ha, crcN_val hb, crcN_val hc, val_xor2 _ _ hab hc (by omega), val_xor2 _ _ ha hb h1, Tn_xor, Tn_xor, l2, l1, ← h2, ← h1]
  generalize F32 ^^^ Tn (8 * a.length) F32 = K
  generalize Tn (8 * a.length) (val a) = x
  generalize Tn (8 * a.length) (val b) = y
  generalize Tn (8 * a.length) (val c) = z
  rw [xor_swap K x K y, Nat.xor_self, Nat.zero_xor, ← Nat.xor_assoc (x ^^^ y) K z, Nat.xor_comm (x ^^^ y) K]
  exact (Nat.xor_assoc _ _ _).symm
/-- Of three, bit by bit, the first k. -/
def xor3 (a b c : List Int) (k : Nat) : List Int := (List.range k).map fun (i : Nat) => Go.bits .xor .u8 (Go.bits .xor .u8 (rd a (i : Int)) (rd b (i : Int))) (rd c (i : Int))
theorem xor3_succ (a b c : List Int) (k : Nat) : xor3 a b c (k + 1) = xor3 a b c k ++ [Go.bits .xor .u8 (Go.bits .xor .u8 (rd a k) (rd b k)) (rd c k)] := by
  simp [xor3, List.range_succ]
theorem xor2_get : ∀ (l m : List Int) (i : Nat), i < l.length → i < m.length → (xor2 l m)[i]? = some (Go.bits .xor .u8 (l.getD i 0) (m.getD i 0))
  | [], _, i, h, _ => by simp at h
  | _ :: _, [], i, _, h => by simp at h
  | c :: l, d :: m, 0, _, _ => by simp [xor2]
  | c :: l, d :: m, i + 1, h1, h2 => by
    have := xor2_get l m i (by simpa using h1) (by simpa using h2)
    simpa [xor2] using this
theorem xor3_eq (a b c : List Int) (n : Nat) (ha : n ≤ a.length) (hb : n ≤ b.length) (hc : n ≤ c.length) : xor3 a b c n = xor2 (xor2 (a.take n) (b.take n)) (c.take n) := by
  have l1 := xor2_length (a.take n) (b.take n) (by simp only [List.length_take]; omega)
  have l2 := xor2_length (xor2 (a.take n) (b.take n)) (c.take n) (by rw [l1]; simp only [List.length_take]; omega)
  simp only [List.length_take] at l1
  apply List.ext_getElem?
  intro i
  by_cases hi : i < n
  · rw [xor2_get _ _ i (by omega) (by simp only [List.length_take]; omega), List.getD_eq_getElem?_getD, xor2_get _ _ i (by simp only [List.length_take]; omega) (by simp only [List.length_take]; omega)]
    simp only [xor3, List.getElem?_map, List.getElem?_range hi, Option.map_some, Option.getD_some, rd, Int.toNat_natCast, List.getD_eq_getElem?_getD, List.getElem?_take_of_lt hi]
  · rw [List.getElem?_eq_none (by simp [xor3]; omega), List.getElem?_eq_none (by omega)]
end Go.Proofs.Ytonbphiaideleaa.M
/- The plain law of signed bytes: one and the same sum; damage within 32 bits is told. -/
namespace Go.Proofs.Ytonbphiaideleaa.M
open Go.RowKit Go.Proofs.YtonbphiaideleaaW.PrintWords
set_option linter.unusedVariables false
set_option linter.unusedSimpArgs false

theorem val_le4 {s : Nat} (hs : s < 2 ^ 32) : val (le4 (s : Int)) = s := by
  simp only [le4, val]
  omega
theorem reg_sg (l : List Int) (hl : Byt l) : reg F32 (sg l) = Tn 32 F32 := by
  have h := crcN_lt (s := 0) (by decide) hl
  have e : crcN 0 l = F32 ^^^ reg F32 l := by simp [crcN]
  rw [sg, reg_append, reg_val (le4_byt _), val_le4 h, e]
  rw [show (le4 ((F32 ^^^ reg F32 l : Nat) : Int)).length = 4 from rfl, Nat.xor_comm F32, xor_cancel]
theorem crc_sg (l : List Int) (hl : Byt l) : crcN 0 (sg l) = F32 ^^^ Tn 32 F32 := by
  unfold crcN
  rw [Nat.xor_zero, reg_sg l hl]
/-- Signed: the register says so. -/
theorem isSg_reg {d : List Int} (hd : Byt d) (h4 : 4 ≤ d.length) : isSg d = decide (reg F32 d = Tn 32 F32) := by
  have e : d = d.take (d.length - 4) ++ d.drop (d.length - 4) := (List.take_append_drop _ _).symm
  have hlen : (d.drop (d.length - 4)).length = 4 := by rw [List.length_drop]; omega
  obtain ⟨m, hm⟩ : ∃ m, m = d.take (d.length - 4) := ⟨_, rfl⟩
  obtain ⟨t, ht⟩ : ∃ t, t = d.drop (d.length - 4) := ⟨_, rfl⟩
  have hbm : Byt m := by rw [hm]; exact hd.take _
  have hbt : Byt t := by rw [ht]; exact hd.drop _
  rw [← ht] at hlen
  have hc := crcN_lt (s := 0) (by decide) hbm
  have ec : crcN 0 m = F32 ^^^ reg F32 m := by simp [crcN]
  unfold isSg
  rw [decide_eq_true h4, Bool.true_and, ← hm]
  rw [← hm, ← ht] at e
  have key : sg m = d ↔ reg F32 d = Tn 32 F32 := by
    rw [e]
    constructor
    · intro h
      rw [← h]
      exact reg_sg m hbm
    · intro h
      rw [reg_append, reg_val hbt, hlen] at h
      have h2 : Tn 32 ((reg F32 m ^^^ val t) ^^^ F32) = 0 := by rw [Tn_xor, h, Nat.xor_self]
      have hvt := val_lt hbt
      rw [hlen] at hvt
      have h3 := Tn_inj (Nat.xor_lt_two_pow (Nat.xor_lt_two_pow (reg_lt F32_lt hbm) hvt) F32_lt) h2
      have h4 : crcN 0 m = val t := by
        rw [ec]
        have h5 := eq_of_xor h3
        have h6 : reg F32 m ^^^ (reg F32 m ^^^ val t) = reg F32 m ^^^ F32 := by rw [h5]
        rw [xor_cancel] at h6
        rw [h6, Nat.xor_comm]
      rw [sg]
      congr 1
      refine val_inj (le4_byt _) hbt (by rw [hlen]; rfl) ?_
      rw [val_le4 hc, h4]
  by_cases h : sg m = d
  · rw [decide_eq_true h, decide_eq_true (key.1 h)]
  · rw [decide_eq_false h, decide_eq_false (fun e => h (key.2 e))]
/-- Damage within 32 bits: of signed bytes, if the value is turned by q·2^at with q of 32 bits, they are signed still just if they are the same. -/
theorem burst {c d : List Int} (hc : Byt c) (hd : Byt d) (hlen : d.length = c.length) (h4 : 4 ≤ c.length) (hs : isSg c = true) (q a : Nat) (hq : q < 2 ^ 32) (ha : a ≤ 8 * c.length) (hv : val d = val c ^^^ q * 2 ^ a) :
    isSg d = decide (d = c) := by
  rw [isSg_reg hc h4] at hs
  have hs := of_decide_eq_true hs
  rw [isSg_reg hd (by omega)]
  have h1 : reg F32 d = reg F32 c ^^^ Tn (8 * c.length - a) q := by
    rw [reg_val hd, reg_val hc, hlen, hv, ← Nat.xor_assoc, Tn_xor]
    congr 1
    have : 8 * c.length = (8 * c.length - a) + a := by omega
    rw [this, Tn_add, Tn_mul]
    congr 1
    omega
  have key : reg F32 d = Tn 32 F32 ↔ d = c := by
    constructor
    · intro h
      have h2 : Tn (8 * c.length - a) q = 0 := by
        have h3 : reg F32 c ^^^ (reg F32 c ^^^ Tn (8 * c.length - a) q) = reg F32 c ^^^ reg F32 c := by rw [← h1, h, hs]
        rwa [xor_cancel, Nat.xor_self] at h3
      have h4 := Tn_inj hq h2
      subst h4
      exact val_inj hd hc hlen (by rw [hv]; simp)
    · intro h
      rw [h, hs]
  by_cases h : d = c
  · rw [decide_eq_true h, decide_eq_true (key.2 h)]
  · rw [decide_eq_false h, decide_eq_false (fun e => h (key.1 e))]
end Go.Proofs.Ytonbphiaideleaa.M
