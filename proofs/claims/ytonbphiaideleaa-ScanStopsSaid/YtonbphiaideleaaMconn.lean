/- What the walks compute, told by the register on numbers. -/
import Derived.Test.YtonbphiaideleaaMsign
import Derived.Test.YtonbphiaideleaaMplain
namespace Go.Proofs.Ytonbphiaideleaa.M
open Go.RowKit Go.Proofs.YtonbphiaideleaaW.PrintWords
set_option linter.unusedVariables false
set_option linter.unusedSimpArgs false

def F32 : Nat := 4294967295
theorem F32_eq : F32 = 2 ^ 32 - 1 := by decide
theorem F32_lt : F32 < 2 ^ 32 := by decide
theorem bits_xor (k : IntKind) {a b : Nat} (ha : a < 2 ^ k.bits) (hb : b < 2 ^ k.bits) : Go.bits .xor k (a : Int) (b : Int) = k.wrap ((a ^^^ b : Nat) : Int) := by
  simp only [Go.bits, BitVec.ofInt_natCast, BitVec.toNat_xor, BitVec.toNat_ofNat, Nat.mod_eq_of_lt ha, Nat.mod_eq_of_lt hb]
theorem bits_xor_u32 {a b : Nat} (ha : a < 2 ^ 32) (hb : b < 2 ^ 32) : Go.bits .xor .u32 (a : Int) (b : Int) = ((a ^^^ b : Nat) : Int) := by
  have hx := Nat.xor_lt_two_pow ha hb
  rw [bits_xor .u32 ha hb, IntKind.wrap_u32]
  omega
theorem bits_xor_u8 {a b : Nat} (ha : a < 2 ^ 8) (hb : b < 2 ^ 8) : Go.bits .xor .u8 (a : Int) (b : Int) = ((a ^^^ b : Nat) : Int) := by
  have hx := Nat.xor_lt_two_pow ha hb
  rw [bits_xor .u8 ha hb, IntKind.wrap_u8]
  omega
theorem bits_and_u32 {a : Nat} (ha : a < 2 ^ 32) : Go.bits .and .u32 (a : Int) 1 = ((a % 2 : Nat) : Int) := by
  have h := (bits_nat .u32 32 (by decide) (fun n h0 h1 => by rw [IntKind.wrap_u32]; omega) a 1 ha (by decide)).1
  rw [show (1 : Int) = ((1 : Nat) : Int) from rfl, h, Nat.and_one_is_mod]
theorem st1_T {x : Nat} (h : x < 2 ^ 32) : st1 (x : Int) = ((T x : Nat) : Int) := by
  unfold st1 T
  rw [bits_and_u32 h]
  rcases Nat.mod_two_eq_zero_or_one x with hx | hx
  · rw [hx, if_neg (by decide), if_neg (by decide), Nat.xor_zero]; omega
  · rw [hx, if_pos (by decide), if_pos rfl, show (x : Int) / 2 = ((x / 2 : Nat) : Int) from by omega, show (2197175160 : Int) = ((poly : Nat) : Int) from rfl]
    exact bits_xor_u32 (by omega) poly_lt
theorem stn_T (n : Nat) {x : Nat} (h : x < 2 ^ 32) : stn n (x : Int) = ((Tn n x : Nat) : Int) := by
  induction n with
  | zero => rfl
  | succ n ih => rw [stn_succ, ih, st1_T (Tn_lt h)]; rfl
theorem tb_T {x : Nat} (h : x < 2 ^ 32) {c : Int} (h0 : 0 ≤ c) (h1 : c < 256) : tb (x : Int) c = ((Tn 8 (x ^^^ c.toNat) : Nat) : Int) := by
  obtain ⟨c, rfl⟩ := Int.eq_ofNat_of_zero_le h0
  simp only [Int.toNat_natCast]
  have hc : c < 256 := by omega
  unfold tb
  rw [show (x : Int) / 256 = ((x / 256 : Nat) : Int) from by omega, show (x : Int) % 256 = ((x % 256 : Nat) : Int) from by omega,
    bits_xor_u8 (by omega) (by omega)]
  have hy : x % 256 ^^^ c < 2 ^ 8 := Nat.xor_lt_two_pow (by omega) (by omega)
  rw [stn_T 8 (by omega), bits_xor_u32 (by omega) (Tn_lt (by omega))]
  congr 1
  have e : x = x % 256 ^^^ (x / 256) * 2 ^ 8 := by rw [xor_add (by omega)]; omega
  have e2 : x ^^^ c = (x % 256 ^^^ c) ^^^ (x / 256) * 2 ^ 8 := by
    rw [Nat.xor_assoc, Nat.xor_comm c, ← Nat.xor_assoc, ← e]
  rw [e2, Tn_xor 8 (x % 256 ^^^ c), Tn_mul, Nat.xor_comm]
theorem tbs_reg {x : Nat} (h : x < 2 ^ 32) {l : List Int} (hl : Byt l) : tbs (x : Int) l = ((reg x l : Nat) : Int) := by
  induction l generalizing x with
  | nil => rfl
  | cons c l ih =>
    obtain ⟨hc, hl⟩ := hl.cons
    have e : tbs (x : Int) (c :: l) = tbs (tb x c) l := rfl
    rw [e, tb_T h hc.1 hc.2, ih (Tn_lt (Nat.xor_lt_two_pow h (by omega))) hl]
    rfl
theorem tbss_reg {x : Nat} (h : x < 2 ^ 32) {ls : List (List Int)} (hl : ∀ l ∈ ls, Byt l) : tbss (x : Int) ls = ((reg x ls.flatten : Nat) : Int) := by
  induction ls generalizing x with
  | nil => rfl
  | cons l ls ih =>
    have e : tbss (x : Int) (l :: ls) = tbss (tbs x l) ls := rfl
    rw [e, tbs_reg h (hl l (by simp)), ih (reg_lt h (hl l (by simp))) (fun m hm => hl m (by simp [hm])), List.flatten_cons, reg_append]
theorem inv32_nat {x : Nat} (h : x < 2 ^ 32) : inv32 (x : Int) = ((F32 ^^^ x : Nat) : Int) := by
  unfold inv32
  rw [show IntKind.u32.max = ((F32 : Nat) : Int) from by decide]
  exact bits_xor_u32 F32_lt h
/-- The sum goes on from s. -/
def crcN (s : Nat) (l : List Int) : Nat := F32 ^^^ reg (F32 ^^^ s) l
theorem crcN_lt {s : Nat} (h : s < 2 ^ 32) {l : List Int} (hl : Byt l) : crcN s l < 2 ^ 32 := Nat.xor_lt_two_pow F32_lt (reg_lt (Nat.xor_lt_two_pow F32_lt h) hl)
theorem byt_flatten {ls : List (List Int)} (hl : ∀ l ∈ ls, Byt l) : Byt ls.flatten := fun x hx => by
  obtain ⟨l, h1, h2⟩ := List.mem_flatten.1 hx
  exact hl l h1 x h2
theorem andF_crc {s : Nat} (h : s < 2 ^ 32) {ls : List (List Int)} (hl : ∀ l ∈ ls, Byt l) : andF (s : Int) ls = ((crcN s ls.flatten : Nat) : Int) := by
  have hs := Nat.xor_lt_two_pow F32_lt h
  unfold andF
  rw [inv32_nat h, tbss_reg hs hl, inv32_nat (reg_lt hs (byt_flatten hl))]
  rfl
theorem xor_cancel (a b : Nat) : a ^^^ (a ^^^ b) = b := by rw [← Nat.xor_assoc, Nat.xor_self, Nat.zero_xor]
theorem crcN_append (s : Nat) (l m : List Int) : crcN (crcN s l) m = crcN s (l ++ m) := by
  unfold crcN
  rw [xor_cancel, reg_append]
theorem crcN_nil (s : Nat) : crcN s [] = s := xor_cancel _ _
theorem sumF_crc {l : List Int} (hl : Byt l) : sumF l = ((crcN 0 l : Nat) : Int) := by
  have := andF_crc (s := 0) (by decide) (ls := [l]) (fun m hm => by rw [List.mem_singleton.1 hm]; exact hl)
  simpa [sumF] using this
theorem F32_sub {x : Nat} (h : x < 2 ^ 32) : F32 - x = F32 ^^^ x := by
  apply Nat.eq_of_testBit_eq
  intro i
  rw [Nat.testBit_xor, F32_eq, Nat.testBit_two_pow_sub_one, show 2 ^ 32 - 1 - x = 2 ^ 32 - (x + 1) from by omega, Nat.testBit_two_pow_sub_succ h]
  by_cases hi : i < 32
  · simp [hi]
  · simp only [hi, decide_false, Bool.false_and, Bool.false_xor]
    exact (Nat.testBit_lt_two_pow (Nat.lt_of_lt_of_le h (Nat.pow_le_pow_right (by decide) (by omega)))).symm
/-- Bit by bit. -/
def rs (x c j : Nat) : Nat := Tn j (x ^^^ c % 2 ^ j)
theorem rs_zero (x c : Nat) : rs x c 0 = x := by simp [rs, Tn, Nat.mod_one]
theorem rs_eight {x c : Nat} (h : c < 256) : rs x c 8 = Tn 8 (x ^^^ c) := by rw [rs, Nat.mod_eq_of_lt (by omega)]
theorem T_bit (x b : Nat) (hb : b < 2) : T (x ^^^ b) = if x % 2 ≠ b then x / 2 ^^^ poly else x / 2 := by
  unfold T
  rw [xor_div_two, xor_mod_two, Nat.div_eq_of_lt hb, Nat.xor_zero, Nat.mod_eq_of_lt hb]
  have h2 : b = 0 ∨ b = 1 := by omega
  rcases Nat.mod_two_eq_zero_or_one x with hx | hx <;> rcases h2 with rfl | rfl <;> simp [hx]
theorem rs_succ (x c j : Nat) : rs x c (j + 1) = if rs x c j % 2 ≠ c / 2 ^ j % 2 then rs x c j / 2 ^^^ poly else rs x c j / 2 := by
  rw [← T_bit _ _ (Nat.mod_lt _ (by decide))]
  unfold rs
  have e : c % 2 ^ (j + 1) = c % 2 ^ j ^^^ (c / 2 ^ j % 2) * 2 ^ j := by
    rw [xor_add (Nat.mod_lt _ (Nat.two_pow_pos j)), Nat.mod_pow_succ, Nat.mul_comm]
  rw [e, ← Nat.xor_assoc, Tn, Tn_xor, Tn_mul]
theorem rs_lt {x c j : Nat} (hx : x < 2 ^ 32) (hc : c < 2 ^ 32) : rs x c j < 2 ^ 32 := Tn_lt (Nat.xor_lt_two_pow hx (Nat.lt_of_le_of_lt (Nat.mod_le _ _) hc))
end Go.Proofs.Ytonbphiaideleaa.M
