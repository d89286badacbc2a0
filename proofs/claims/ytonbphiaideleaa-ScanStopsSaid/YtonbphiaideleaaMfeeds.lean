/- What bytes in parts tell: plain law; cuts of rows. -/
import Derived.Test.YtonbphiaideleaaMscanf
namespace Go.Proofs.Ytonbphiaideleaa.M
open Go.RowKit Go.Proofs.YtonbphiaideleaaW.PrintWords Go.Proofs.YtonbphiaideleaaW.PrintLast Go.Proofs.YtonbphiaideleaaW.PrintMore Go.Proofs.Ytonbphiaideleaa.PC
set_option linter.unusedVariables false
set_option linter.unusedSimpArgs false
theorem cutM2 {α : Type} {k : Kd α} (hk : k.sz = 1) {t e : TypeId} {i : TypeInfo} (ht : Try.prog.underlying t = some (.slice e)) (hi : Try.prog.info? e = some i) (hsz : i.size = 1) {A : Option Addr} {c : Nat} {xs : List α}
    (hc : xs.length ≤ c) (lo hi' : Int) (a b : Nat) (ha : lo = (a : Int)) (hb : hi' = (b : Int)) (h1 : a ≤ b) (h2 : b ≤ xs.length) :
    ∃ (A' : Option Addr) (ys : List α), ys = (xs.take b).drop a ∧ (∀ W : World, (Instr.slice t (.slice A xs.length c) (some (.int .i64 lo)) (some (.int .i64 hi')) none).run Try.prog W = .ok (.slice A' ys.length (c - a)) W) ∧ (∀ W : World, k.C W A xs.length xs → k.C W A' ys.length ys) ∧ ys.length ≤ c - a := by
  subst ha hb
  have h3 := cut_mid (P := Try.prog) t e .i64 .i64 ht hi 1 hsz A xs.length c (a : Int) (b : Int) (by omega) (by omega) (by omega) hc
  simp only [Int.toNat_natCast] at h3
  have hl : ((xs.take b).drop a).length = b - a := by rw [List.length_drop, List.length_take]; omega
  refine ⟨_, (xs.take b).drop a, rfl, fun W => by rw [h3 W, hl], fun W h => ?_, by rw [hl]; omega⟩
  have h4 := Kd.C_mid h h1 h2 hc
  rw [hk] at h4
  exact h4
theorem cutDs {α : Type} {k : Kd α} {t e : TypeId} {i : TypeInfo} (ht : Try.prog.underlying t = some (.slice e)) (hi : Try.prog.info? e = some i) (hsz : i.size = k.sz) {A : Option Addr} {c : Nat} {xs : List α}
    (hc : xs.length ≤ c) (j : Int) (m : Nat) (hj : j = (m : Int)) (hm : m ≤ xs.length) :
    ∃ (A' : Option Addr) (ys : List α), ys = xs.drop m ∧ (∀ W : World, (Instr.slice t (.slice A xs.length c) (some (.int .i64 j)) none none).run Try.prog W = .ok (.slice A' ys.length (c - m)) W) ∧ (∀ W : World, k.C W A xs.length xs → k.C W A' ys.length ys) ∧ ys.length ≤ c - m := by
  subst hj
  have h1 := cut_from (P := Try.prog) t e .i64 ht hi k.sz hsz A xs.length c (m : Int) (by omega) (by omega)
  simp only [Int.toNat_natCast] at h1
  exact ⟨_, xs.drop m, rfl, fun W => by rw [h1 W, List.length_drop], fun W h => Kd.C_drop h hm hc, by rw [List.length_drop]; omega⟩
theorem cutT2 {α : Type} {k : Kd α} {t e : TypeId} {i : TypeInfo} (ht : Try.prog.underlying t = some (.slice e)) (hi : Try.prog.info? e = some i) {A : Option Addr} {c : Nat} {xs : List α}
    (hc : xs.length ≤ c) (j : Int) (m : Nat) (hj : j = (m : Int)) (hm : m ≤ xs.length) :
    ∃ (ys : List α), ys = xs.take m ∧ (∀ W : World, (Instr.slice t (.slice A xs.length c) none (some (.int .i64 j)) none).run Try.prog W = .ok (.slice A ys.length c) W) ∧ (∀ W : World, k.C W A xs.length xs → k.C W A ys.length ys) ∧ ys.length ≤ c := by
  subst hj
  have h1 := cut_to (P := Try.prog) t e .i64 ht hi A xs.length c (m : Int) (by omega) (by omega) hc
  simp only [Int.toNat_natCast] at h1
  exact ⟨xs.take m, rfl, fun W => by rw [h1 W, List.length_take, Nat.min_eq_left hm], fun W h => Kd.C_take h hm, by rw [List.length_take]; omega⟩
theorem elK {kk : IntKind} {w : World} {A : Option Addr} {m : Nat} {xs : List Int} (h : Kd.C (Kd.int kk) w A m xs) (hm : xs.length = m) (k : Nat) (hk : k < m) (q : Int) (hq : xs[k]? = some q) : ∃ ad : Addr, A = some ad ∧ w.cell? (ad.add k) = some (.int kk q) := by
  obtain ⟨ad, c, e, _, hK, hc0⟩ := Kd.C_get h 0 (k : Int) (by omega) (by omega)
  have e1 : xs.getD (k : Int).toNat 0 = q := by rw [Int.toNat_natCast, List.getD_eq_getElem?_getD, hq]; rfl
  refine ⟨ad, e, ?_⟩
  rw [e1] at hK
  obtain rfl : c = [.int kk q] := hK
  have h2 := hc0 0 _ rfl
  rw [Int.toNat_natCast] at h2
  simpa [Kd.int, Kd.scalar] using h2
theorem parF_byt {l : List Int} (hb : Byt l) : Byt (parF l).2.2.1 := by
  unfold parF
  split
  · split
    · exact fun _ h => by cases h
    · split
      · exact (hb.take _).drop _
      · exact fun _ h => by cases h
  · exact fun _ h => by cases h
/-- What is told: bytes, at places that are there. -/
theorem scan_oks : ∀ (N : Nat) (l : List Int) (at_ : Int), l.length < N → Byt l → (∀ q ∈ (scanF l at_).1, Byt q.f0.f2 ∧ at_ ≤ q.f1 ∧ q.f1 ≤ at_ + (l.length : Int)) ∧ (scanF l at_).1.length ≤ l.length
  | 0, _, _, h, _ => absurd h (Nat.not_lt_zero _)
  | N + 1, l, at_, hl, hb => by
    by_cases h : (parF l).2.2.2.2 = 0
    · obtain ⟨n, hn, h10, hnl, _⟩ := parF_ok hb h
      rw [scan_go hb h, hn, Int.toNat_natCast]
      obtain ⟨h1, h2⟩ := scan_oks N (l.drop n) (at_ + (n : Int)) (by rw [List.length_drop]; omega) (hb.drop n)
      rw [List.length_drop] at h1 h2
      refine ⟨fun q hq => ?_, by rw [List.length_cons]; omega⟩
      rcases List.mem_cons.1 hq with rfl | hq
      · exact ⟨parF_byt hb, Int.le_refl _, by dsimp only; omega⟩
      · obtain ⟨a, b, c⟩ := h1 q hq
        exact ⟨a, by omega, by omega⟩
    · rw [scan_stop h]
      exact ⟨fun _ h => (by cases h), Nat.zero_le _⟩
theorem next_feed {p q rest : List Int} {out : List S68} {en : Int} (h : scanF p 0 = (out, rest, en, 1)) (hp : Byt p) (hq : Byt q) : scanF (p ++ q) 0 = (out ++ (scanF (rest ++ q) en).1, (scanF (rest ++ q) en).2) := by
  have h1 := scan_app (p.length + 1) p q 0 (by omega) hp hq (by rw [h])
  rw [h] at h1
  exact h1
theorem next_bad {p q rest : List Int} {out : List S68} {en code : Int} (h : scanF p 0 = (out, rest, en, code)) (hp : Byt p) (hq : Byt q) (hc : code ≠ 1) : scanF (p ++ q) 0 = (out, rest ++ q, en, code) := by
  have h1 := scan_app_bad (p.length + 1) p q 0 (by omega) hp hq (by rw [h]; exact hc)
  rw [h] at h1
  exact h1
theorem rest_at {p rest : List Int} {out : List S68} {en code : Int} (h : scanF p 0 = (out, rest, en, code)) (hp : Byt p) : ∃ m : Nat, m ≤ p.length ∧ rest = p.drop m ∧ en = (m : Int) ∧ (parF rest).2.2.2.2 = code ∧ code ≠ 0 := by
  obtain ⟨m, h1, h2, h3, h4, h5⟩ := scan_rest (p.length + 1) p 0 (by omega) hp
  rw [h] at h2 h3 h4 h5
  dsimp only at h2 h3 h4 h5
  exact ⟨m, h1, h2, by omega, by rw [h2]; exact h4, h5⟩
theorem drop_take (b : List Int) {a t : Nat} (h : a ≤ t) : b.take a ++ (b.take t).drop a = b.take t := by
  have h1 := List.take_append_drop a (b.take t)
  rw [List.take_take, Nat.min_eq_left h] at h1
  exact h1
end Go.Proofs.Ytonbphiaideleaa.M
