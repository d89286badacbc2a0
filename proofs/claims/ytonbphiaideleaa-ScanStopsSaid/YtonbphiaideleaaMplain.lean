/- The plain law of the checksum: the register as a linear map on numbers; no Go in it. -/
import Derived.Laws.BitsLemmas
namespace Go.Proofs.Ytonbphiaideleaa.M
open Go

/-! ### 1. The register -/
def poly : Nat := 2197175160
def T (x : Nat) : Nat := x / 2 ^^^ (if x % 2 = 1 then poly else 0)
def Tn : Nat → Nat → Nat
  | 0, x => x
  | n + 1, x => T (Tn n x)

theorem xor_div_two (a b : Nat) : (a ^^^ b) / 2 = a / 2 ^^^ b / 2 := by
  have := Nat.shiftRight_xor_distrib (a := a) (b := b) (i := 1)
  simpa [Nat.shiftRight_eq_div_pow] using this
theorem xor_div_pow (a b n : Nat) : (a ^^^ b) / 2 ^ n = a / 2 ^ n ^^^ b / 2 ^ n := by
  have := Nat.shiftRight_xor_distrib (a := a) (b := b) (i := n)
  simpa [Nat.shiftRight_eq_div_pow] using this
theorem xor_mod_two (a b : Nat) : (a ^^^ b) % 2 = (a % 2) ^^^ (b % 2) := by
  have := Nat.xor_mod_two_pow (a := a) (b := b) (n := 1)
  simpa using this
theorem T_xor (a b : Nat) : T (a ^^^ b) = T a ^^^ T b := by
  unfold T
  rw [xor_div_two, xor_mod_two]
  have h : ∀ p q r s : Nat, (p ^^^ q) ^^^ (r ^^^ s) = (p ^^^ r) ^^^ (q ^^^ s) := by
    intro p q r s
    rw [Nat.xor_assoc, Nat.xor_assoc, ← Nat.xor_assoc q r s, Nat.xor_comm q r, Nat.xor_assoc r q s]
  rcases Nat.mod_two_eq_zero_or_one a with ha | ha <;> rcases Nat.mod_two_eq_zero_or_one b with hb | hb
  · simp [ha, hb]
  · simp only [ha, hb, Nat.zero_xor, if_true]
    simp [Nat.xor_assoc]
  · simp only [ha, hb, Nat.xor_zero, if_true]
    rw [if_neg (by decide), Nat.xor_zero, Nat.xor_assoc, Nat.xor_comm (b / 2), ← Nat.xor_assoc]
  · simp only [ha, hb, Nat.xor_self, if_true]
    rw [h]
    simp
theorem T_zero : T 0 = 0 := by simp [T]
theorem Tn_zero (n : Nat) : Tn n 0 = 0 := by
  induction n with
  | zero => rfl
  | succ n ih => rw [Tn, ih, T_zero]
theorem Tn_xor (n a b : Nat) : Tn n (a ^^^ b) = Tn n a ^^^ Tn n b := by
  induction n with
  | zero => rfl
  | succ n ih => rw [Tn, ih, T_xor]; rfl
theorem Tn_add (n m x : Nat) : Tn (n + m) x = Tn n (Tn m x) := by
  induction n with
  | zero => simp [Tn]
  | succ n ih => rw [Nat.succ_add, Tn, ih]; rfl
theorem T_even {x : Nat} (h : x % 2 = 0) : T x = x / 2 := by simp [T, h]
theorem Tn_mul (n y : Nat) : Tn n (y * 2 ^ n) = y := by
  induction n generalizing y with
  | zero => simp [Tn]
  | succ n ih =>
    rw [Tn, Nat.pow_succ, ← Nat.mul_assoc, Nat.mul_right_comm, ih, T_even (by omega)]
    omega
theorem Tn_join (n m x y : Nat) : Tn n (Tn m x ^^^ y) = Tn (n + m) (x ^^^ y * 2 ^ m) := by
  rw [Tn_add, Tn_xor m, Tn_mul]
/-- Disjoint bits. -/
theorem xor_add {n a b : Nat} (h : a < 2 ^ n) : a ^^^ b * 2 ^ n = a + b * 2 ^ n := by
  have h1 : (a ^^^ b * 2 ^ n) / 2 ^ n = b := by
    rw [xor_div_pow, Nat.div_eq_of_lt h, Nat.zero_xor, Nat.mul_div_cancel _ (Nat.two_pow_pos n)]
  have h2 : (a ^^^ b * 2 ^ n) % 2 ^ n = a := by
    rw [Nat.xor_mod_two_pow, Nat.mod_eq_of_lt h, Nat.mul_mod_left, Nat.xor_zero]
  have h3 := Nat.div_add_mod (a ^^^ b * 2 ^ n) (2 ^ n)
  rw [h1, h2, Nat.mul_comm] at h3
  omega

theorem poly_lt : poly < 2 ^ 32 := by decide
theorem T_lt {x : Nat} (h : x < 2 ^ 32) : T x < 2 ^ 32 := by
  unfold T
  refine Nat.xor_lt_two_pow (by omega) ?_
  split
  · exact poly_lt
  · decide
theorem Tn_lt {n x : Nat} (h : x < 2 ^ 32) : Tn n x < 2 ^ 32 := by
  induction n with
  | zero => exact h
  | succ n ih => exact T_lt ih
theorem eq_of_xor {a b : Nat} (h : a ^^^ b = 0) : a = b := by
  have : (a ^^^ b) ^^^ b = b := by rw [h, Nat.zero_xor]
  rwa [Nat.xor_assoc, Nat.xor_self, Nat.xor_zero] at this
theorem T_inj {x : Nat} (h : x < 2 ^ 32) (h0 : T x = 0) : x = 0 := by
  unfold T at h0
  have h1 := eq_of_xor h0
  rcases Nat.mod_two_eq_zero_or_one x with hx | hx
  · rw [if_neg (by omega)] at h1; omega
  · rw [if_pos hx] at h1
    unfold poly at h1
    omega
theorem Tn_inj {n x : Nat} (h : x < 2 ^ 32) (h0 : Tn n x = 0) : x = 0 := by
  induction n with
  | zero => exact h0
  | succ n ih => exact ih (T_inj (Tn_lt h) h0)

/-! ### 2. Bytes -/
def Byt (l : List Int) : Prop := ∀ x ∈ l, 0 ≤ x ∧ x < 256
def val : List Int → Nat
  | [] => 0
  | c :: l => c.toNat + 256 * val l
def reg (x : Nat) (l : List Int) : Nat := l.foldl (fun x c => Tn 8 (x ^^^ c.toNat)) x
theorem Byt.nil : Byt [] := fun _ h => by cases h
theorem Byt.cons {c : Int} {l : List Int} (h : Byt (c :: l)) : (0 ≤ c ∧ c < 256) ∧ Byt l := ⟨h c (by simp), fun x hx => h x (by simp [hx])⟩
theorem Byt.append {l m : List Int} (h : Byt l) (h2 : Byt m) : Byt (l ++ m) := fun x hx => by
  rcases List.mem_append.1 hx with h' | h'
  · exact h x h'
  · exact h2 x h'
theorem Byt.take {l : List Int} (h : Byt l) (n : Nat) : Byt (l.take n) := fun x hx => h x (List.mem_of_mem_take hx)
theorem Byt.drop {l : List Int} (h : Byt l) (n : Nat) : Byt (l.drop n) := fun x hx => h x (List.mem_of_mem_drop hx)
theorem val_lt {l : List Int} (h : Byt l) : val l < 2 ^ (8 * l.length) := by
  induction l with
  | nil => simp [val]
  | cons c l ih =>
    obtain ⟨hc, hl⟩ := h.cons
    have := ih hl
    simp only [val, List.length_cons]
    have e : 2 ^ (8 * (l.length + 1)) = 256 * 2 ^ (8 * l.length) := by rw [Nat.mul_add, Nat.pow_add]; omega
    omega
theorem val_inj {l m : List Int} (hl : Byt l) (hm : Byt m) (hlen : l.length = m.length) (h : val l = val m) : l = m := by
  induction l generalizing m with
  | nil => cases m with
    | nil => rfl
    | cons _ _ => simp at hlen
  | cons c l ih =>
    cases m with
    | nil => simp at hlen
    | cons d m =>
      obtain ⟨hc, hl⟩ := hl.cons
      obtain ⟨hd, hm⟩ := hm.cons
      simp only [val] at h
      have h1 : c = d := by omega
      have h2 : val l = val m := by omega
      rw [h1, ih hl hm (by simpa using hlen) h2]
theorem val_append {l m : List Int} : val (l ++ m) = val l + val m * 2 ^ (8 * l.length) := by
  induction l with
  | nil => simp [val]
  | cons c l ih =>
    simp only [List.cons_append, val, ih, List.length_cons]
    have e : 2 ^ (8 * (l.length + 1)) = 256 * 2 ^ (8 * l.length) := by rw [Nat.mul_add, Nat.pow_add]; omega
    rw [e, Nat.mul_add, Nat.mul_left_comm]
    omega
theorem reg_append (x : Nat) (l m : List Int) : reg x (l ++ m) = reg (reg x l) m := by simp [reg]
theorem reg_val {x : Nat} {l : List Int} (h : Byt l) : reg x l = Tn (8 * l.length) (x ^^^ val l) := by
  induction l generalizing x with
  | nil => simp [reg, val, Tn]
  | cons c l ih =>
    obtain ⟨hc, hl⟩ := h.cons
    have e : reg x (c :: l) = reg (Tn 8 (x ^^^ c.toNat)) l := rfl
    rw [e, ih hl, Tn_join, Nat.xor_assoc, xor_add (n := 8) (by omega)]
    simp only [val, List.length_cons]
    rw [show 8 * (l.length + 1) = 8 * l.length + 8 from by omega, Nat.mul_comm 256]
theorem reg_lt {x : Nat} {l : List Int} (hx : x < 2 ^ 32) (h : Byt l) : reg x l < 2 ^ 32 := by
  induction l generalizing x with
  | nil => exact hx
  | cons c l ih =>
    obtain ⟨hc, hl⟩ := h.cons
    exact ih (Tn_lt (Nat.xor_lt_two_pow hx (by omega))) hl
end Go.Proofs.Ytonbphiaideleaa.M
