/- Merged: Mmake, Mawake4, Mbase4. -/
import Derived.Test.YtonbphiaideleaaMhead
import Derived.Test.YtonbphiaideleaaMsign
import Derived.Test.YtonbphiaideleaaMawake3
import Derived.ArgAppend
import Derived.Test.YtonbphiaideleaaWRepsOne
import Derived.Test.YtonbphiaideleaaMrefsigned
import Derived.Test.YtonbphiaideleaaMheadw
/- frame.Right, frame.Make. -/
namespace Go.Proofs.Ytonbphiaideleaa.M
open Go.RowKit Go.Proofs.YtonbphiaideleaaW.PrintWords Go.Proofs.YtonbphiaideleaaW.PrintLast Go.Proofs.YtonbphiaideleaaW.PrintMore
set_option linter.unusedVariables false
set_option linter.unusedSimpArgs false
/-- What is wrong with a frame. -/
def rightF (x y : Int) (l : List Int) : Int := if verB x = true then (if kinB y = true then (if 4096 < l.length then 2 else 0) else 7) else 18
theorem rightF_len {x y : Int} {l : List Int} (h : rightF x y l = 0) : l.length ≤ 4096 := by
  unfold rightF at h
  split at h
  · split at h
    · split at h
      · exact absurd h (by decide)
      · omega
    · exact absurd h (by decide)
  · exact absurd h (by decide)
/-- A frame's bytes, ahead of the sum. -/
def makeB (x y : Int) (l : List Int) : List Int := [76, 103, x, y, (l.length : Int) % 256, (l.length : Int) / 256 % 256] ++ l
theorem and_255 (n : Nat) (h : n < 2 ^ 16) : Go.bits .and .i64 (n : Int) 255 = (n : Int) % 256 := by
  have h2 := (bits_nat .i64 16 (by decide) (fun n h0 h1 => by rw [IntKind.wrap_i64]; omega) n 255 h (by decide)).1
  have e : (255 : Int) = ((255 : Nat) : Int) := rfl
  rw [e, h2]
  have := Nat.and_two_pow_sub_one_eq_mod n 8
  rw [show (255 : Nat) = 2 ^ 8 - 1 from rfl, this]
  rfl
/-- An append onto a full row that came in: a new row. -/
theorem append_full {P : Program} {W : World} {ops : Array Oper} {rest : List Oper} {o : Oper} {a : Act} {Q : Exit → Act → World → Prop} (hgd : o.guard = none) (s x : Operand) (t e : TypeId) (z : Value) (bytes : Nat)
    (ho : o.op = .call { callee := .builtin .append, args := #[s, x], argTypes := #[t, t] })
    (ht : P.underlying t = some (.slice e)) (hinfo : (P.info? e).map (fun i => (i.zero, i.size, i.bytes)) = some (some z, 1, bytes)) (hz : z.cells.size = 1) (hb0 : 0 < bytes)
    (k : IntKind) (A : Option Addr) (cap : Nat) (xs ys : List Int) (B : Option Addr) (c : Nat) (hs : a.eval s = .slice A xs.length cap) (hx : a.eval x = .slice B ys.length c)
    (HA : (Kd.int k).C W A xs.length xs) (HY : (Kd.int k).C W B ys.length ys) (hy : 0 < ys.length) (hA : A = none → xs.length = 0 ∧ cap = 0) (hfull : cap < xs.length + ys.length) (hl : (xs.length + ys.length) * bytes ≤ 140737488355328)
    (h : ∀ v1 w1, (Kd.int k).R e w1 W.heap.size (fun _ => True) v1 (xs ++ ys) → Below W.heap.size W w1 → wpList P ops Q rest (a.put o.dst v1) w1) :
    wpList P ops Q (o :: rest) a W := by
  obtain ⟨i0, hi, hzz⟩ := Option.map_eq_some_iff.1 hinfo
  simp only [Prod.mk.injEq] at hzz
  obtain ⟨hz0, hz1, hz2⟩ := hzz
  obtain ⟨ad, rfl, _⟩ := HY.2.2 (by exact hy)
  obtain ⟨news, hnr, hnc⟩ := ReadsRow.inner_ HY
  have hnews : news.length = ys.length * 1 := hnr.1
  have hone : ∀ u ∈ news, u.oneCell' = true := by
    intro u hu
    obtain ⟨q, hq, rfl⟩ := List.mem_iff_getElem.1 hu
    have hql : q < ys.length := by omega
    have hc := hnr.2 q _ (List.getElem?_eq_getElem hql)
    refine (Kd.int k).K_one hc _ ?_
    rw [List.mem_iff_getElem?]
    refine ⟨0, ?_⟩
    rw [List.getElem?_take, if_pos (show 0 < (Kd.int k).sz from Nat.one_pos), List.getElem?_drop]
    show news[q * 1 + 0]? = _
    rw [Nat.mul_one, Nat.add_zero, List.getElem?_eq_getElem hq]
  obtain ⟨olds, hor, hoc⟩ : ∃ olds : List Value, Reps ((Kd.int k).K W) 1 xs olds ∧ ∀ b, A = some b → ∀ j u, olds[j]? = some u → W.cell? (b.add j) = some u := by
    rcases A with _ | b
    · have : xs = [] := List.eq_nil_of_length_eq_zero (hA rfl).1
      subst this
      exact ⟨[], Reps.none _ _, fun b hb => by cases hb⟩
    · obtain ⟨olds, h1, h2⟩ := ReadsRow.inner_ HA
      exact ⟨olds, h1, fun b' hb => by cases hb; exact h2⟩
  have hmx : xs.length + ys.length ≤ maxLen := by
    have : xs.length + ys.length ≤ (xs.length + ys.length) * bytes := Nat.le_mul_of_pos_right _ hb0
    simp only [maxLen]
    omega
  refine wpList_append_grows W hgd s x t ho e i0 z 1 bytes ht hi hz0 hz1 hz2 hz Nat.one_pos A xs.length cap olds hs hA hor.1 hoc ad ys.length c news hx hnews hnc hone hfull hmx hl ?_
  intro v1 w1 hown hg
  refine h v1 w1 ⟨fun _ _ => trivial, olds ++ news, by rw [List.length_append]; exact hown, ?_⟩ ((Below.refl _ _).grown hg (Nat.le_refl _) (fun k hk => by cases hk))
  exact Kd.reps_append (hor.imp_ (fun p c hp => hp)) (hnr.imp_ (fun p c hp => hp))
set_option maxHeartbeats 2000000 in
set_option maxRecDepth 100000 in
theorem right_A (x y : Int) (A : Option Addr) (c : Nat) (l : List Int) (w : World) (hv : verB x = false) :
    Calls Try.prog 47 #[.agg #[.int .u8 x, .int .u8 y, .slice A l.length c]] w fun e w' => e = .returned (.int .i64 18) ∧ Below w.heap.size w w' := by
    have hu40 := Try.underlying40
    have HV : Aside0 (verB x = false) := ⟨hv⟩
    clear hv
    go_enter Try.func47, Try.ntmps47
    go_wp2_with (first | ((with_reducible refine gate_dst (N := 1) rfl ?_); refine box_event ?hg (N := 1) ?hd (cs := #[.int .u8 x, .int .u8 y, .slice A l.length c]) (t := 40) ?hr ?_; (case hd => rfl); (case hg => rfl); (case hr => first | (go_simp; done) | (go_simp; rfl)); intro gb hg w1 hbox hbb; have HB := Aside0.mk hbb; have HG := Aside0.mk hbox; have HGE := Aside0.mk (show w.heap.size ≤ gb by rw [hg]; exact Nat.le_refl _); clear hbb hbox hg; have hz0 : w1.cell? ⟨gb, 0, none⟩ = some (.int .u8 x) := (blk_cell HG.out 0).trans rfl; have hz1 : w1.cell? ⟨gb, 1, none⟩ = some (.int .u8 y) := (blk_cell HG.out 1).trans rfl; have hz2 : w1.cell? ⟨gb, 2, none⟩ = some (.slice A l.length c) := (blk_cell HG.out 2).trans rfl) | (go_at_call 48; refine (versioned_any x _).mono ?_; rw [HV.out]; rintro e w2 ⟨rfl, rfl⟩))
    go_ret
    exact ⟨rfl, HB.out⟩

set_option maxHeartbeats 2000000 in
set_option maxRecDepth 100000 in
theorem right_B (x y : Int) (A : Option Addr) (c : Nat) (l : List Int) (w : World) (hv : verB x = true) (hk : kinB y = false) :
    Calls Try.prog 47 #[.agg #[.int .u8 x, .int .u8 y, .slice A l.length c]] w fun e w' => e = .returned (.int .i64 7) ∧ Below w.heap.size w w' := by
    have hu40 := Try.underlying40
    have HV : Aside0 (verB x = true) := ⟨hv⟩
    clear hv
    have HK : Aside0 (kinB y = false) := ⟨hk⟩
    clear hk
    go_enter Try.func47, Try.ntmps47
    go_wp2_with (first | ((with_reducible refine gate_dst (N := 1) rfl ?_); refine box_event ?hg (N := 1) ?hd (cs := #[.int .u8 x, .int .u8 y, .slice A l.length c]) (t := 40) ?hr ?_; (case hd => rfl); (case hg => rfl); (case hr => first | (go_simp; done) | (go_simp; rfl)); intro gb hg w1 hbox hbb; have HB := Aside0.mk hbb; have HG := Aside0.mk hbox; have HGE := Aside0.mk (show w.heap.size ≤ gb by rw [hg]; exact Nat.le_refl _); clear hbb hbox hg; have hz0 : w1.cell? ⟨gb, 0, none⟩ = some (.int .u8 x) := (blk_cell HG.out 0).trans rfl; have hz1 : w1.cell? ⟨gb, 1, none⟩ = some (.int .u8 y) := (blk_cell HG.out 1).trans rfl; have hz2 : w1.cell? ⟨gb, 2, none⟩ = some (.slice A l.length c) := (blk_cell HG.out 2).trans rfl) | (go_at_call 48; refine (versioned_any x _).mono ?_; rw [HV.out]; rintro e w2 ⟨rfl, rfl⟩) | (go_at_call 49; refine (kinded_any y _).mono ?_; rw [HK.out]; rintro e w2 ⟨rfl, rfl⟩))
    go_ret
    exact ⟨rfl, HB.out⟩

set_option maxHeartbeats 2000000 in
set_option maxRecDepth 100000 in
theorem right_C (x y : Int) (A : Option Addr) (c : Nat) (l : List Int) (w : World) (hv : verB x = true) (hk : kinB y = true) (hn : 4096 < l.length) :
    Calls Try.prog 47 #[.agg #[.int .u8 x, .int .u8 y, .slice A l.length c]] w fun e w' => e = .returned (.int .i64 2) ∧ Below w.heap.size w w' := by
    have hu40 := Try.underlying40
    have HV : Aside0 (verB x = true) := ⟨hv⟩
    clear hv
    have HK : Aside0 (kinB y = true) := ⟨hk⟩
    clear hk
    have hd1 : decide ((4096 : Int) < (l.length : Int)) = true := by simp; omega
    have hd2 : decide (4096 < l.length) = true := by simp; omega
    clear hn
    go_enter Try.func47, Try.ntmps47
    go_wp2_with (first | ((with_reducible refine gate_dst (N := 1) rfl ?_); refine box_event ?hg (N := 1) ?hd (cs := #[.int .u8 x, .int .u8 y, .slice A l.length c]) (t := 40) ?hr ?_; (case hd => rfl); (case hg => rfl); (case hr => first | (go_simp; done) | (go_simp; rfl)); intro gb hg w1 hbox hbb; have HB := Aside0.mk hbb; have HG := Aside0.mk hbox; have HGE := Aside0.mk (show w.heap.size ≤ gb by rw [hg]; exact Nat.le_refl _); clear hbb hbox hg; have hz0 : w1.cell? ⟨gb, 0, none⟩ = some (.int .u8 x) := (blk_cell HG.out 0).trans rfl; have hz1 : w1.cell? ⟨gb, 1, none⟩ = some (.int .u8 y) := (blk_cell HG.out 1).trans rfl; have hz2 : w1.cell? ⟨gb, 2, none⟩ = some (.slice A l.length c) := (blk_cell HG.out 2).trans rfl) | (go_at_call 48; refine (versioned_any x _).mono ?_; rw [HV.out]; rintro e w2 ⟨rfl, rfl⟩) | (go_at_call 49; refine (kinded_any y _).mono ?_; rw [HK.out]; rintro e w2 ⟨rfl, rfl⟩))
    go_ret
    exact ⟨rfl, HB.out⟩

set_option maxHeartbeats 2000000 in
set_option maxRecDepth 100000 in
theorem right_D (x y : Int) (A : Option Addr) (c : Nat) (l : List Int) (w : World) (hv : verB x = true) (hk : kinB y = true) (hn : l.length ≤ 4096) :
    Calls Try.prog 47 #[.agg #[.int .u8 x, .int .u8 y, .slice A l.length c]] w fun e w' => e = .returned (.int .i64 0) ∧ Below w.heap.size w w' := by
    have hu40 := Try.underlying40
    have HV : Aside0 (verB x = true) := ⟨hv⟩
    clear hv
    have HK : Aside0 (kinB y = true) := ⟨hk⟩
    clear hk
    have hd1 : decide ((4096 : Int) < (l.length : Int)) = false := by simp; omega
    have hd2 : decide (4096 < l.length) = false := by simp; omega
    clear hn
    go_enter Try.func47, Try.ntmps47
    go_wp2_with (first | ((with_reducible refine gate_dst (N := 1) rfl ?_); refine box_event ?hg (N := 1) ?hd (cs := #[.int .u8 x, .int .u8 y, .slice A l.length c]) (t := 40) ?hr ?_; (case hd => rfl); (case hg => rfl); (case hr => first | (go_simp; done) | (go_simp; rfl)); intro gb hg w1 hbox hbb; have HB := Aside0.mk hbb; have HG := Aside0.mk hbox; have HGE := Aside0.mk (show w.heap.size ≤ gb by rw [hg]; exact Nat.le_refl _); clear hbb hbox hg; have hz0 : w1.cell? ⟨gb, 0, none⟩ = some (.int .u8 x) := (blk_cell HG.out 0).trans rfl; have hz1 : w1.cell? ⟨gb, 1, none⟩ = some (.int .u8 y) := (blk_cell HG.out 1).trans rfl; have hz2 : w1.cell? ⟨gb, 2, none⟩ = some (.slice A l.length c) := (blk_cell HG.out 2).trans rfl) | (go_at_call 48; refine (versioned_any x _).mono ?_; rw [HV.out]; rintro e w2 ⟨rfl, rfl⟩) | (go_at_call 49; refine (kinded_any y _).mono ?_; rw [HK.out]; rintro e w2 ⟨rfl, rfl⟩))
    go_ret
    exact ⟨rfl, HB.out⟩

theorem right_any (x y : Int) (A : Option Addr) (c : Nat) (l : List Int) (w : World) :
    Calls Try.prog 47 #[.agg #[.int .u8 x, .int .u8 y, .slice A l.length c]] w fun e w' => e = .returned (.int .i64 (rightF x y l)) ∧ Below w.heap.size w w' := by
  unfold rightF
  by_cases hv : verB x = true
  · rw [if_pos hv]
    by_cases hk : kinB y = true
    · rw [if_pos hk]
      by_cases hn : 4096 < l.length
      · rw [if_pos hn]; exact right_C x y A c l w hv hk hn
      · rw [if_neg hn]; exact right_D x y A c l w hv hk (by omega)
    · rw [if_neg hk]; exact right_B x y A c l w hv (by simpa using hk)
  · rw [if_neg hv]; exact right_A x y A c l w (by simpa using hv)

set_option maxHeartbeats 2000000 in
set_option maxRecDepth 100000 in
theorem make_bad (x y r : Int) (A : Option Addr) (c : Nat) (l : List Int) (w : World) (hr : rightF x y l = r) (h0 : (r == 0) = false) :
    Calls Try.prog 32 #[.agg #[.int .u8 x, .int .u8 y, .slice A l.length c]] w fun e w' => e = .returned (.tuple #[.slice none 0 0, .int .i64 r]) ∧ Below w.heap.size w w' := by
    have hu40 := Try.underlying40
    have HE := Aside0.mk hr
    clear hr
    have h1 : (r != 0) = true := by rw [bne, h0]; rfl
    go_enter Try.func32, Try.ntmps32
    go_wp2_with (first | ((with_reducible refine gate_dst (N := 1) rfl ?_); refine box_event ?hg (N := 1) ?hd (cs := #[.int .u8 x, .int .u8 y, .slice A l.length c]) (t := 40) ?hr ?_; (case hd => rfl); (case hg => rfl); (case hr => first | (go_simp; done) | (go_simp; rfl)); intro gb hg w1 hbox hbb; have HB := Aside0.mk hbb; have HG := Aside0.mk hbox; have HGE := Aside0.mk (show w.heap.size ≤ gb by rw [hg]; exact Nat.le_refl _); clear hbb hbox hg; have hz0 : w1.cell? ⟨gb, 0, none⟩ = some (.int .u8 x) := (blk_cell HG.out 0).trans rfl; have hz1 : w1.cell? ⟨gb, 1, none⟩ = some (.int .u8 y) := (blk_cell HG.out 1).trans rfl; have hz2 : w1.cell? ⟨gb, 2, none⟩ = some (.slice A l.length c) := (blk_cell HG.out 2).trans rfl) | (go_at_call 47; go_loud (refine (right_any x y _ _ l _).mono ?_; rw [HE.out]; rintro e w2 ⟨rfl, hb⟩; have HG2 := Aside0.mk (blk_below HG.out hb); have HB2 := Aside0.mk (below_step HB.out hb); clear hb; have hy2 : w2.cell? ⟨gb, 2, none⟩ = some (.slice A l.length c) := (blk_cell HG2.out 2).trans rfl)))
    go_ret2
    exact ⟨rfl, HB2.out⟩
theorem lit2 : (nums .u8 [76, 103]).toArray = #[.int .u8 76, .int .u8 103] := rfl
set_option maxHeartbeats 4000000 in
set_option maxRecDepth 100000 in
theorem make_good (x y : Int) (A : Option Addr) (c : Nat) (l : List Int) (w : World) (hr : Kd.C (Kd.int .u8) w A l.length l) (hc : l.length ≤ c) (h0 : rightF x y l = 0) :
    Calls Try.prog 32 #[.agg #[.int .u8 x, .int .u8 y, .slice A l.length c]] w fun e w' => ∃ v : Value, e = .returned (.tuple #[v, .int .i64 0]) ∧ Kd.R (Kd.int .u8) 5 w' w.heap.size (fun _ => True) v (signF (makeB x y l)) ∧ Below w.heap.size w w' := by
    have hu40 := Try.underlying40
    have HE := Aside0.mk h0
    have HR := Aside0.mk hr
    have hl63 : l.length ≤ 9223372036854775807 := hr.2.1
    have hl := rightF_len h0
    clear hr h0
    have kc := fun (w : World) (C : Array Value) (n c : Nat) => Lib.run_convert_bytes_const (P := Try.prog) w 23 5 C n c Try.underlying23 Try.underlying5
    obtain ⟨m, hm⟩ : ∃ m : Int, m = (l.length : Int) % 256 := ⟨_, rfl⟩
    obtain ⟨d, hd⟩ : ∃ d : Int, d = (l.length : Int) / 256 % 256 := ⟨_, rfl⟩
    have hand : Go.bits .and .i64 (l.length : Int) 255 = m := by rw [hm]; exact and_255 _ (by omega)
    have hm2 : m % 256 = m := by omega
    have HM := Aside0.mk (show makeB x y l = ([76, 103] ++ [x, y, m, d]) ++ l by rw [hm, hd]; rfl)
    have HD := Aside0.mk hd
    have HL := Aside0.mk hl
    clear hm hl hd
    go_enter Try.func32, Try.ntmps32
    go_wp2_with (first
      | ((with_reducible refine gate_dst (N := 1) rfl ?_); refine box_event ?hg (N := 1) ?hd (cs := #[.int .u8 x, .int .u8 y, .slice A l.length c]) (t := 40) ?hr ?_; (case hd => rfl); (case hg => rfl); (case hr => first | (go_simp; done) | (go_simp; rfl)); intro gb hg w1 hbox hbb; have HB := Aside0.mk hbb; have HG := Aside0.mk hbox; have HGE := Aside0.mk (show w.heap.size ≤ gb by rw [hg]; exact Nat.le_refl _); clear hbb hbox hg; have hz0 : w1.cell? ⟨gb, 0, none⟩ = some (.int .u8 x) := (blk_cell HG.out 0).trans rfl; have hz1 : w1.cell? ⟨gb, 1, none⟩ = some (.int .u8 y) := (blk_cell HG.out 1).trans rfl; have hz2 : w1.cell? ⟨gb, 2, none⟩ = some (.slice A l.length c) := (blk_cell HG.out 2).trans rfl)
      | (go_at_call 47; go_loud (refine (right_any x y _ _ l _).mono ?_; rw [HE.out]; rintro e w2 ⟨rfl, hb⟩; have HG2 := Aside0.mk (blk_below HG.out hb); have HB2 := Aside0.mk (below_step HB.out hb); clear hb; have hy2 : w2.cell? ⟨gb, 2, none⟩ = some (.slice A l.length c) := (blk_cell HG2.out 2).trans rfl; have hg0 : (w2.alloc (.cells #[.int .u8 76, .int .u8 103] 5 (2, 3))).cell? ⟨gb, 0, none⟩ = some (.int .u8 x) := (blk_cell (blk_alloc HG2.out _) 0).trans rfl; have hg1 : (w2.alloc (.cells #[.int .u8 76, .int .u8 103] 5 (2, 3))).cell? ⟨gb, 1, none⟩ = some (.int .u8 y) := (blk_cell (blk_alloc HG2.out _) 1).trans rfl; have hg2 : (w2.alloc (.cells #[.int .u8 76, .int .u8 103] 5 (2, 3))).cell? ⟨gb, 2, none⟩ = some (.slice A l.length c) := (blk_cell (blk_alloc HG2.out _) 2).trans rfl; have hlg := new_C w2 [76, 103] (2, 3) (by decide); rw [lit2] at hlg))
      | ((with_reducible refine gate_dst (N := 27) rfl ?_); refine Kd.R_lit (Kd.int .u8) _ 5 ?hg (N := 27) ?hd (xs := ([x, y, m, d] : List Int)) (inner := [.int .u8 x, .int .u8 y, .int .u8 m, .int .u8 d]) (ok := fun _ => True) (okp := fun _ => True) ?hr ?hp (fun _ hk => hk) trivial (Below.refl _ _) (Nat.le_refl _) (by simp) ?_; (case hd => rfl); (case hg => rfl); (case hr => first | (rw [HD.out]; go_simp; done) | (rw [HD.out]; go_simp; rfl)); (case hp => exact (Reps.one (show Kd.M (Kd.int .u8) _ _ _ x [.int .u8 x] from rfl) (Reps.one (show Kd.M (Kd.int .u8) _ _ _ y [.int .u8 y] from rfl) (Reps.one (show Kd.M (Kd.int .u8) _ _ _ m [.int .u8 m] from rfl) (Reps.one (show Kd.M (Kd.int .u8) _ _ _ d [.int .u8 d] from rfl) (Reps.none _ _)))))); intro v3 w3 ho hb hg_ hnew_; have HO3 := Aside0.mk ho; have HB3 := Aside0.mk (below_step (HB2.out.alloc HB2.out.size _) hb); have HC2 := Aside0.mk (Kd.C_below hlg hb); have HG3 := Aside0.mk (blk_below (blk_alloc HG2.out _) hb); clear hg_ hnew_ ho hb hlg; obtain ⟨Ao, co, eo⟩ := Kd.R_slice HO3.out; subst eo)
      | ((with_reducible refine gate_builtin (b := .append) (xs := #[.tmp 16, .tmp 27]) rfl ?_); at_builtin; go_loud (refine append_full rfl (.tmp 16) (.tmp 27) 23 5 (.int .u8 0) 1 rfl Try.underlying23 info5 rfl (by decide) .u8 _ 2 [76, 103] [x, y, m, d] _ _ rfl rfl HC2.out (Kd.R_reads' HO3.out).2.2 (by simp) (fun hh => by cases hh) (by simp) (by simp) ?_; intro v4 w4 ho hb; have HO4 := Aside0.mk (Kd.R_lower ho HB3.out.size); have HB4 := Aside0.mk (below_step HB3.out hb); have HG4 := Aside0.mk (blk_below HG3.out hb); clear ho hb; have hy4 : w4.cell? ⟨gb, 2, none⟩ = some (.slice A l.length c) := (blk_cell HG4.out 2).trans rfl))
      | ((with_reducible refine gate_builtin (b := .append) (xs := #[.tmp 29, .tmp 31]) rfl ?_); at_builtin; refine Kd.R_append_rows (Kd.int .u8) (w0 := w) w.heap.size rfl (.tmp 29) (.tmp 31) 23 5 (.int .u8 0) 1 rfl Try.underlying23 info5 rfl (by decide) (by omega) v4 ([76, 103] ++ [x, y, m, d]) l _ _ _ (fun _ => True) (fun _ => False) rfl rfl HO4.out (Kd.C_below HR.out HB4.out) (fun _ _ h => h) (fun _ h => h.elim) (fun _ _ => trivial) HB4.out HB4.out.size (by have := HL.out; simp only [List.length_append, List.length_cons, List.length_nil]; omega) ?_; intro v5 w5 ho hb hg hat; have HO5 := Aside0.mk ho; have HB5 := Aside0.mk hb; clear ho hb hg hat; rw [← HM.out] at HO5; obtain ⟨A5, c5, e5⟩ := Kd.R_slice HO5.out; subst e5)
      | (go_at_call 20; refine (sign_any _ _ (makeB x y l) _ (Kd.R_reads' HO5.out).2.2 (Kd.R_reads' HO5.out).2.1 (by have := HL.out; rw [HM.out]; simp only [List.length_append, List.length_cons, List.length_nil]; omega)).mono ?_; rintro e w6 ⟨v6, rfl, ho, hb⟩; have HO6 := Aside0.mk (Kd.R_lower ho HB5.out.size); have HB6 := Aside0.mk (below_step HB5.out hb); clear ho hb))
    go_ret2
    exact ⟨_, rfl, HO6.out, HB6.out⟩
theorem make_any (x y : Int) (A : Option Addr) (c : Nat) (l : List Int) (w : World) (hr : Kd.C (Kd.int .u8) w A l.length l) (hc : l.length ≤ c) :
    Calls Try.prog 32 #[.agg #[.int .u8 x, .int .u8 y, .slice A l.length c]] w fun e w' => ∃ v : Value, e = .returned (.tuple #[v, .int .i64 (rightF x y l)]) ∧ Kd.R (Kd.int .u8) 5 w' w.heap.size (fun _ => True) v (if rightF x y l = 0 then signF (makeB x y l) else []) ∧ Below w.heap.size w w' := by
  by_cases h : rightF x y l = 0
  · rw [if_pos h, h]
    exact make_good x y A c l w hr hc h
  · rw [if_neg h]
    refine (make_bad x y _ A c l w rfl (by simpa using h)).mono ?_
    rintro e w1 ⟨rfl, hb⟩
    exact ⟨_, rfl, Kd.R_nil _ _ _ _ _, hb⟩

end Go.Proofs.Ytonbphiaideleaa.M
/- lacunalaw04.awake: what the chapter's example says. -/
namespace Go.Proofs.Ytonbphiaideleaa.M
open Go.RowKit Go.Proofs.YtonbphiaideleaaW.PrintWords Go.Proofs.YtonbphiaideleaaW.PrintLast Go.Proofs.YtonbphiaideleaaW.PrintMore
set_option linter.unusedVariables false
set_option linter.unusedSimpArgs false
theorem byt7 : Byt [76, 103, 1, 8, 1, 0, 7] := by
  intro x hx
  simp only [List.mem_cons, List.not_mem_nil, or_false] at hx
  omega
theorem lit7 : (nums .u8 [7]).toArray = #[.int .u8 7] := rfl
def awake4_T2 : Bool × List (List Nat × List Nat) := (true, [([], []), ([0], [0]), ([1], [1]), ([2], [2]), ([3, 2], [2, 3]), ([2], [2]), ([5, 2, 2], [2, 5]), ([6, 2], [2, 6]), ([4, 7, 2], [2, 4, 7]), ([2, 8], [2, 8]), ([9, 6, 0, 1, 2, 3, 4, 5, 6, 7, 8, 9], [9])])
def awake4_B2 : List Nat := [0, 1, 3, 7, 15, 7, 39, 103, 255, 511, 1023]
theorem awake4_tab2 : rtab .any (opsOf Try.f30 2) = awake4_T2 := by kernel_rfl
theorem awake4_bits2 : waitsOk awake4_T2.2 awake4_B2 = true := by kernel_rfl
set_option maxHeartbeats 4000000 in
set_option maxRecDepth 100000 in
theorem awake4_any (w : World) : Calls Try.prog 30 #[] w fun e w' => e = .returned (.bool true) ∧ Below w.heap.size w w' := by
  have hu40 := Try.underlying40
  have HY7 := Aside0.mk byt7
  have hlg := new_C w [7] (0, 0) (by decide)
  rw [lit7] at hlg
  have HG := Aside0.mk hlg
  have HB0 := Aside0.mk (below_alloc (Below.refl w.heap.size w) (.cells #[.int .u8 7] 5))
  clear hlg
  have HR : Aside0 (rightF 1 8 [7] = 0) := ⟨by decide⟩
  have HM : Aside0 (signF (makeB 1 8 [7]) = sg [76, 103, 1, 8, 1, 0, 7]) := ⟨by rw [signF_sg (show Byt (makeB 1 8 [7]) from byt7)]; rfl⟩
  obtain ⟨s, hs⟩ : ∃ s, s = sg [76, 103, 1, 8, 1, 0, 7] := ⟨_, rfl⟩
  have HS := Aside0.mk hs
  clear hs
  go_enter Try.func30, Try.ntmps30
  go_wp2_with (go_at_call 32; refine (make_any 1 8 _ _ [7] _ HG.out (by decide)).mono ?_; rw [HR.out, if_pos rfl, HM.out, ← HS.out]; rintro e w2 ⟨v, rfl, ho, hb⟩; have HO := Aside0.mk ho; have HB2 := Aside0.mk (below_step HB0.out hb); clear ho hb; obtain ⟨Am, cm, em⟩ := Kd.R_slice HO.out; subst em; have HC := Aside0.mk (Kd.R_reads' HO.out).2.2)
  refine start_ (n := 11) (S := fun w' => Below w2.heap.size w2 w') (ds := []) #[false, false, false, false, false, false, false, false, false, false, false] (by kernel_rfl) rfl rfl (below_drew (Below.refl _ _)) (fun hHeld => ?_)
  refine with_tabW awake4_tab2 awake4_bits2 (fun HT_ HW_ => ?_)
  refine pure_ (i := 0) (N := some 9) (v := ?_) (a' := ?_) #[true, false, false, false, false, false, false, false, false, false, false] rfl rfl (any_of HT_.out (by kernel_rfl)) (fun _ _ _ h => h) (Or.inl ⟨by rfl, ?_⟩) ?_ ?_
  rotate_left
  · intro w'
    go_simp
    with_reducible rfl
  rotate_left
  · simp only [Act.put, List.setIfInBounds_toArray, List.set_cons_zero, List.set_cons_succ, i64_w, i32_w]
    rfl
  refine pure_ (i := 1) (N := some 10) (v := ?_) (a' := ?_) #[true, true, false, false, false, false, false, false, false, false, false] rfl rfl (any_of HT_.out (by kernel_rfl)) (fun _ _ _ h => h) (Or.inl ⟨by rfl, ?_⟩) ?_ ?_
  rotate_left
  · intro w'
    go_simp
    with_reducible rfl
  rotate_left
  · simp only [Act.put, List.setIfInBounds_toArray, List.set_cons_zero, List.set_cons_succ, i64_w, i32_w]
    rfl
  refine pure_ (i := 2) (N := some 11) (v := ?_) (a' := ?_) #[true, true, true, false, false, false, false, false, false, false, false] rfl rfl (any_of HT_.out (by kernel_rfl)) (fun _ _ _ h => h) (Or.inl ⟨by rfl, ?_⟩) ?_ ?_
  rotate_left
  · intro w'
    go_simp
    with_reducible rfl
  rotate_left
  · simp only [Act.put, List.setIfInBounds_toArray, List.set_cons_zero, List.set_cons_succ, i64_w, i32_w]
    rfl
  refine pure_ (i := 3) (N := some 12) (v := ?_) (a' := ?_) #[true, true, true, true, false, false, false, false, false, false, false] rfl rfl (any_of HT_.out (by kernel_rfl)) (fun _ _ _ h => h) (Or.inl ⟨by rfl, ?_⟩) ?_ ?_
  rotate_left
  · intro w'
    go_simp
    with_reducible rfl
  rotate_left
  · simp only [Act.put, List.setIfInBounds_toArray, List.set_cons_zero, List.set_cons_succ, i64_w, i32_w]
    rfl
  refine take_ (i := 4) (N := some 13) (v := ?_) (a' := ?_) #[true, true, true, true, true, false, false, false, false, false, false] rfl rfl (take_ofW HT_.out HW_.out (by kernel_rfl)) (fun _ _ _ h => h) (Or.inl ⟨by rfl, ?_⟩) hHeld ?_ ?_
  rotate_left
  · intro w' s0
    have hcv := Kd.C_string (P := Try.prog) (A := Am) (c := cm) Try.underlying23 Try.underlying5 Try.underlying9 (Kd.C_below HC.out s0)
    go_simp
    with_reducible rfl
  rotate_left
  · simp only [Act.put, List.setIfInBounds_toArray, List.set_cons_zero, List.set_cons_succ, i64_w, i32_w]
    rfl
  refine one_ (i := 5) (N := some 14) #[true, true, true, true, true, true, false, false, false, false, false] rfl rfl (one_of HT_.out (by kernel_rfl)) (by decide) (fun K hK => ?_)
  refine value_ (w1 := ?_) (v := ?_) (by rfl) rfl ?_ ?_
  rotate_left 2
  · go_simp
    constructor
    · rfl
    · rfl
  refine hK.out _ _ (below_alloc hHeld _) (fun hHeld => ?_)
  clear hK K
  refine norm_ (a' := ?_) ?_ ?_
  rotate_left
  · show Act.put _ (some 14) _ = _
    simp only [Act.put, List.setIfInBounds_toArray, List.set_cons_zero, List.set_cons_succ, i64_w, i32_w]
    rfl
  refine one_ (i := 6) (N := some 15) #[true, true, true, true, true, true, true, false, false, false, false] rfl rfl (one_of HT_.out (by kernel_rfl)) (by decide) (fun K hK => ?_)
  refine goes_ Try.func22 (by kernel_rfl) rfl #[.slice (some ⟨w2.heap.size, 0, none⟩) 7 7] (by rfl) rfl rfl (by (try simp only [List.map_toArray, List.map_cons, List.map_nil]); first | done | rfl) ?_
  refine (refsign_any _ 7 [76, 103, 1, 8, 1, 0, 7] _ (Kd.C_drew (new_C w2 [76, 103, 1, 8, 1, 0, 7] (0, 0) (by decide))) (Nat.le_refl 7) HY7.out (by decide)).mono ?_
  rintro e w3 ⟨v3, rfl, ho, hb⟩
  refine ⟨_, rfl, ?_⟩
  have HO3 := Aside0.mk ho
  have HB3 := Aside0.mk (below_then hHeld hHeld.size hb)
  clear ho hb
  obtain ⟨Ao, co, eo⟩ := Kd.R_slice HO3.out
  subst eo
  refine hK.out _ _ HB3.out (fun hHeld => ?_)
  clear hK K
  refine norm_ (a' := ?_) ?_ ?_
  rotate_left
  · show Act.put _ (some 15) _ = _
    simp only [Act.put, List.setIfInBounds_toArray, List.set_cons_zero, List.set_cons_succ, i64_w, i32_w]
    rfl
  refine one_ (i := 7) (N := some 16) #[true, true, true, true, true, true, true, true, false, false, false] rfl rfl (one_of HT_.out (by kernel_rfl)) (by decide) (fun K hK => ?_)
  have hcv := Kd.C_string (P := Try.prog) (A := Ao) (c := co) Try.underlying23 Try.underlying5 Try.underlying9 (Kd.R_reads' HO3.out).2.2
  refine value_ (w1 := ?_) (v := ?_) (by rfl) rfl ?_ ?_
  rotate_left 2
  · go_simp
    constructor
    · rfl
    · rfl
  clear hcv
  refine hK.out _ _ HB3.out (fun hHeld => ?_)
  clear hK K
  refine norm_ (a' := ?_) ?_ ?_
  rotate_left
  · show Act.put _ (some 16) _ = _
    simp only [Act.put, List.setIfInBounds_toArray, List.set_cons_zero, List.set_cons_succ, i64_w, i32_w]
    rfl
  refine pure_ (i := 8) (N := some 17) (v := ?_) (a' := ?_) #[true, true, true, true, true, true, true, true, true, false, false] rfl rfl (any_of HT_.out (by kernel_rfl)) (fun _ _ _ h => h) (Or.inl ⟨by rfl, ?_⟩) ?_ ?_
  rotate_left
  · intro w'
    go_simp
    with_reducible rfl
  rotate_left
  · simp only [Act.put, List.setIfInBounds_toArray, List.set_cons_zero, List.set_cons_succ, i64_w, i32_w]
    rfl
  refine pure_ (i := 9) (N := some 18) (v := ?_) (a' := ?_) #[true, true, true, true, true, true, true, true, true, true, false] rfl rfl (any_of HT_.out (by kernel_rfl)) (fun _ _ _ h => h) (Or.inl ⟨by rfl, ?_⟩) ?_ ?_
  rotate_left
  · intro w'
    go_simp
    with_reducible rfl
  rotate_left
  · simp only [Act.put, List.setIfInBounds_toArray, List.set_cons_zero, List.set_cons_succ, i64_w, i32_w]
    rfl
  refine pure_ (i := 10) (N := some 0) (v := ?_) (a' := ?_) #[true, true, true, true, true, true, true, true, true, true, true] rfl rfl (any_of HT_.out (by kernel_rfl)) (fun _ _ _ h => h) (Or.inl ⟨by rfl, ?_⟩) ?_ ?_
  rotate_left
  · intro w'
    go_simp
    with_reducible rfl
  rotate_left
  · simp only [Act.put, List.setIfInBounds_toArray, List.set_cons_zero, List.set_cons_succ, i64_w, i32_w]
    rfl
  refine done_ (done_of HT_.out (by kernel_rfl)) ?_
  go_wp2
  go_ret
  exact ⟨by simp [HS.out], below_step HB2.out HB3.out⟩
end Go.Proofs.Ytonbphiaideleaa.M
/- What the printed walks of chapters 04 and 05 stand on. -/
