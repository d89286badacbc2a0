/- What 'Turned' comes to: the value turned by the pattern, as far as the bytes reach. -/
import Derived.Test.YtonbphiaideleaaMturned
namespace Go.Proofs.Ytonbphiaideleaa.M
open Go.RowKit Go.Proofs.YtonbphiaideleaaW.PrintWords Go.Proofs.YtonbphiaideleaaW.PrintMore
set_option linter.unusedVariables false
set_option linter.unusedSimpArgs false

/-- One bit turned, if the pattern says so and it lies in the bytes. -/
def stp (x : List Int) (a p k : Nat) : List Int := if p / 2 ^ k % 2 = 1 ∧ a + k < 8 * x.length then x.set ((a + k) / 8) (Go.bits .xor .u8 (rd x (((a + k) / 8 : Nat) : Int)) ((2 ^ ((a + k) % 8) : Nat) : Int)) else x
theorem stp_length (x : List Int) (a p k : Nat) : (stp x a p k).length = x.length := by unfold stp; split <;> simp
def trn (l : List Int) (a p : Nat) : Nat → List Int
  | 0 => l
  | k + 1 => stp (trn l a p k) a p k
theorem trn_length (l : List Int) (a p k : Nat) : (trn l a p k).length = l.length := by
  induction k with
  | zero => rfl
  | succ k ih => rw [trn, stp_length, ih]
theorem pow_lt8 (j : Nat) (h : j < 8) : 2 ^ j < 256 := Nat.lt_of_lt_of_le (Nat.pow_lt_pow_right (by decide) h) (by decide)
theorem val_set : ∀ (x : List Int) (i j : Nat), Byt x → i < x.length → j < 8 → val (x.set i (Go.bits .xor .u8 (rd x (i : Int)) ((2 ^ j : Nat) : Int))) = val x ^^^ 2 ^ (8 * i + j) ∧ Byt (x.set i (Go.bits .xor .u8 (rd x (i : Int)) ((2 ^ j : Nat) : Int)))
  | [], i, j, _, h, _ => by simp at h
  | c :: l, 0, j, hb, _, hj => by
    obtain ⟨hc, hl⟩ := hb.cons
    have hp := pow_lt8 j hj
    rw [show 8 * 0 + j = j from by omega]
    obtain ⟨y, hy⟩ : ∃ y, 2 ^ j = y := ⟨_, rfl⟩
    rw [hy] at hp ⊢
    obtain ⟨e, he⟩ := bits_byte c (y : Int) hc ⟨by omega, by omega⟩
    rw [Int.toNat_natCast] at e he
    have er : rd (c :: l) ((0 : Nat) : Int) = c := by simp [rd]
    rw [er, List.set_cons_zero, val_cons_xor _ _ (by rw [e]; omega), val_cons_xor c l hc, e, Int.toNat_natCast]
    refine ⟨?_, ?_⟩
    · rw [Nat.xor_assoc, Nat.xor_comm y, ← Nat.xor_assoc]
    · intro z hz
      rcases List.mem_cons.1 hz with rfl | hz
      · omega
      · exact hl z hz
  | c :: l, i + 1, j, hb, h, hj => by
    obtain ⟨hc, hl⟩ := hb.cons
    have er : rd (c :: l) ((i + 1 : Nat) : Int) = rd l (i : Int) := by simp [rd]
    obtain ⟨h1, h2⟩ := val_set l i j hl (by simpa using h) hj
    rw [er, List.set_cons_succ, val_cons_xor _ _ hc, val_cons_xor c l hc, h1, mul_xor, ← Nat.xor_assoc]
    refine ⟨?_, ?_⟩
    · rw [← Nat.pow_add, show 8 * (i + 1) + j = 8 * i + j + 8 from by omega]
    · intro y hy
      rcases List.mem_cons.1 hy with rfl | hy
      · exact hc
      · exact h2 y hy
theorem val_stp {x : List Int} (a p k : Nat) (hb : Byt x) : val (stp x a p k) = val x ^^^ (if p / 2 ^ k % 2 = 1 ∧ a + k < 8 * x.length then 2 ^ (a + k) else 0) ∧ Byt (stp x a p k) := by
  unfold stp
  by_cases h : p / 2 ^ k % 2 = 1 ∧ a + k < 8 * x.length
  · rw [if_pos h, if_pos h]
    obtain ⟨h1, h2⟩ := val_set x ((a + k) / 8) ((a + k) % 8) hb (by omega) (by omega)
    rw [show 8 * ((a + k) / 8) + (a + k) % 8 = a + k from by omega] at h1
    exact ⟨h1, h2⟩
  · rw [if_neg h, if_neg h, Nat.xor_zero]
    exact ⟨rfl, hb⟩
theorem mod_bit (p k a n : Nat) : ((p % 2 ^ (k + 1)) * 2 ^ a) % 2 ^ n = ((p % 2 ^ k) * 2 ^ a) % 2 ^ n ^^^ (if p / 2 ^ k % 2 = 1 ∧ a + k < n then 2 ^ (a + k) else 0) := by
  have e : p % 2 ^ (k + 1) = p % 2 ^ k ^^^ (p / 2 ^ k % 2) * 2 ^ k := by
    rw [xor_add (Nat.mod_lt _ (Nat.two_pow_pos k)), Nat.mod_pow_succ, Nat.mul_comm]
  rw [e, mul_xor, Nat.xor_mod_two_pow]
  congr 1
  rcases Nat.mod_two_eq_zero_or_one (p / 2 ^ k) with h | h
  · rw [h, if_neg (by omega)]
    simp
  · rw [h, Nat.one_mul, ← Nat.pow_add, Nat.add_comm k a]
    by_cases h2 : a + k < n
    · rw [if_pos ⟨rfl, h2⟩, Nat.mod_eq_of_lt (Nat.pow_lt_pow_right (by decide) h2)]
    · rw [if_neg (fun hh => h2 hh.2)]
      exact Nat.mod_eq_zero_of_dvd (Nat.pow_dvd_pow 2 (by omega))
theorem val_trn {l : List Int} (a p k : Nat) (hb : Byt l) : val (trn l a p k) = val l ^^^ ((p % 2 ^ k) * 2 ^ a) % 2 ^ (8 * l.length) ∧ Byt (trn l a p k) := by
  induction k with
  | zero => simp only [trn, Nat.pow_zero, Nat.mod_one, Nat.zero_mul, Nat.zero_mod, Nat.xor_zero]; exact ⟨trivial, hb⟩
  | succ k ih =>
    obtain ⟨h1, h2⟩ := val_stp (x := trn l a p k) a p k ih.2
    rw [trn_length] at h1
    rw [trn, h1, ih.1, mod_bit, Nat.xor_assoc]
    exact ⟨rfl, h2⟩
/-- All of them. -/
def tur (l : List Int) (a p : Nat) : List Int := trn l a p 32
theorem tur_length (l : List Int) (a p : Nat) : (tur l a p).length = l.length := trn_length _ _ _ _
theorem tur_byt {l : List Int} (a p : Nat) (hb : Byt l) : Byt (tur l a p) := (val_trn a p 32 hb).2
theorem val_tur {l : List Int} (a p : Nat) (hb : Byt l) (hp : p < 2 ^ 32) (ha : a ≤ 8 * l.length) : val (tur l a p) = val l ^^^ (p % 2 ^ (8 * l.length - a)) * 2 ^ a := by
  unfold tur
  rw [(val_trn a p 32 hb).1, Nat.mod_eq_of_lt hp]
  congr 1
  rw [← Nat.mul_mod_mul_right, ← Nat.pow_add, Nat.sub_add_cancel ha]
/-- Signed bytes that are turned within 32 bits. -/
theorem tur_signed {l : List Int} (a p : Nat) (hb : Byt l) (hp : p < 2 ^ 32) (ha : a ≤ 8 * l.length) (h4 : 4 ≤ l.length) (hs : isSg l = true) : isSg (tur l a p) = decide (tur l a p = l) :=
  burst hb (tur_byt a p hb) (tur_length _ _ _) h4 hs _ a (Nat.lt_of_le_of_lt (Nat.mod_le _ _) hp) ha (val_tur a p hb hp ha)

theorem wrap64_small {x : Int} (h0 : -9223372036854775808 ≤ x) (h1 : x < 9223372036854775808) : wrap64 x = x := by unfold wrap64; omega
theorem tmod_nat (v n : Nat) : Int.tmod (v : Int) (n : Int) = ((v % n : Nat) : Int) := rfl
theorem tdiv_nat (v n : Nat) : Int.tdiv (v : Int) (n : Int) = ((v / n : Nat) : Int) := rfl
theorem one_of_nat (v : Nat) : ((v : Int) = 1) = (v = 1) := by rw [eq_iff_iff]; omega
theorem emod_small (y : Nat) (h : y < 256) : (y : Int) % 256 = (y : Int) := by omega
theorem shl_one (e : Nat) (he : e < 8) : shl .u8 1 (e : Int) = ((2 ^ e : Nat) : Int) := by
  unfold shl
  rw [Int.toNat_natCast, show min e IntKind.u8.bits = e from Nat.min_eq_left (by show e ≤ 8; omega), Int.one_mul, IntKind.wrap_u8]
  have hc : ((2 : Int) ^ e) = ((2 ^ e : Nat) : Int) := by norm_cast
  rw [hc]
  exact emod_small _ (pow_lt8 e he)
theorem shr_nat (p k : Nat) (hk : k < 32) : shr .u32 (p : Int) (k : Int) = ((p / 2 ^ k : Nat) : Int) := by
  unfold shr
  rw [Int.toNat_natCast, show min k IntKind.u32.bits = k from Nat.min_eq_left (by show k ≤ 32; omega)]
  norm_cast
theorem round_eq (x : List Int) (a p k m : Nat) (hk : k < 32) (hn : x.length ≤ 1000000) (ha : a ≤ 8 * x.length) (hp : p < 2 ^ 32) :
    turnedP.l0 (m + 1) (a : Int) (p : Int) x (k : Int) = turnedP.l0 m (a : Int) (p : Int) (stp x a p k) ((k + 1 : Nat) : Int) := by
  have w1 : wrap64 ((a : Int) + (k : Int)) = ((a + k : Nat) : Int) := by rw [wrap64_small (by omega) (by omega)]; omega
  have w2 : wrap64 (8 * (x.length : Int)) = ((8 * x.length : Nat) : Int) := by rw [wrap64_small (by omega) (by omega)]; omega
  have w3 : wrap64 ((k : Int) + 1) = ((k + 1 : Nat) : Int) := by rw [wrap64_small (by omega) (by omega)]; omega
  have d1 : Int.tdiv ((a + k : Nat) : Int) 8 = (((a + k) / 8 : Nat) : Int) := tdiv_nat (a + k) 8
  have d2 : Int.tmod ((a + k : Nat) : Int) 8 = (((a + k) % 8 : Nat) : Int) := tmod_nat (a + k) 8
  have w4 : wrap64 (((a + k) / 8 : Nat) : Int) = (((a + k) / 8 : Nat) : Int) := wrap64_small (by omega) (by omega)
  have s1 := shr_nat p k hk
  have s2 : Int.tmod ((p / 2 ^ k : Nat) : Int) 2 = ((p / 2 ^ k % 2 : Nat) : Int) := tmod_nat (p / 2 ^ k) 2
  have s3 := shl_one ((a + k) % 8) (by omega)
  clear hp
  simp only [turnedP.l0]
  rw [if_pos (by omega), if_pos (by omega), s1, s2, w1, w2, w3, d1, d2, w4, s3]
  clear s1 s2 s3 d1 d2 w1 w2 w3 w4
  unfold stp
  generalize p / 2 ^ k % 2 = b
  generalize 2 ^ ((a + k) % 8) = y
  by_cases h1 : b = 1
  · rw [if_pos (show ((b : Nat) : Int) = 1 by omega), if_pos (by omega)]
    by_cases h2 : a + k < 8 * x.length
    · rw [if_pos (by omega), if_pos (by omega), if_pos (by omega), if_pos (by omega), if_pos ⟨h1, h2⟩, Int.toNat_natCast]
    · rw [if_neg (by omega), if_neg (fun h => h2 h.2)]
  · rw [if_neg (show ¬ ((b : Nat) : Int) = 1 by omega), if_neg (fun h => h1 h.1)]
theorem rounds_eq (l : List Int) (a p : Nat) (hn : l.length ≤ 1000000) (ha : a ≤ 8 * l.length) (hp : p < 2 ^ 32) : ∀ (d k : Nat), k + d = 32 → turnedP.l0 (d + 1) (a : Int) (p : Int) (trn l a p k) (k : Int) = some (tur l a p)
  | 0, k, h => by
    have : k = 32 := by omega
    subst this
    simp only [turnedP.l0]
    rw [if_neg (by decide)]
    rfl
  | d + 1, k, h => by
    rw [round_eq _ a p k (d + 1) (by omega) (by rw [trn_length]; exact hn) (by rw [trn_length]; exact ha) hp]
    exact rounds_eq l a p hn ha hp d (k + 1) (by omega)
theorem turned_any (A : Option Addr) (c : Nat) (l : List Int) (a p : Int) (w : World) (hr : Kd.C (Kd.int .u8) w A l.length l) (hc : l.length ≤ c) (hn : l.length ≤ 1000000) (ha0 : 0 ≤ a) (ha : a ≤ 8 * (l.length : Int)) (hp : 0 ≤ p ∧ p < 4294967296) :
    Calls Try.prog 25 #[.slice A l.length c, .int .i64 a, .int .u32 p] w fun e w' => ∃ v : Value, e = .returned v ∧ Kd.R (Kd.int .u8) 5 w' w.heap.size (fun _ => True) v (tur l a.toNat p.toNat) ∧ Below w.heap.size w w' := by
  obtain ⟨a, rfl⟩ := Int.eq_ofNat_of_zero_le ha0
  obtain ⟨p, rfl⟩ := Int.eq_ofNat_of_zero_le hp.1
  rw [Int.toNat_natCast, Int.toNat_natCast]
  refine turnedP.calls 33 A c l (a : Int) (p : Int) (tur l a p) w hr hc ?_
  unfold turnedP.f
  rw [Option.bind_some, if_pos (by simp; omega)]
  exact rounds_eq l a p hn (by omega) (by omega) 32 0 (by omega)
end Go.Proofs.Ytonbphiaideleaa.M
