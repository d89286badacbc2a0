/- The row and the card of lacunalaw04.FrameMakes. -/
import Derived.Test.YtonbphiaideleaaDoorRows
import Derived.Test.YtonbphiaideleaaDoorTie
import Derived.Test.YtonbphiaideleaaDoorCards
import Derived.Test.YtonbphiaideleaaDoorMb
import Derived.ProofKit
import Derived.LaidMore
import Derived.LaidLaws
import Derived.LaidHandle
import Derived.MakeChecks
import Derived.FnData
import Derived.OpenShut
import Derived.ChangeOld
import Derived.SizedLaws
import Derived.SevenTiedAt
import Derived.Deep.Strs
import Derived.Stop.Joined
namespace Go.Proofs.YtonbphiaideleaaDoor.M
open Go.ChangeShapes Go.WideShapes Go.ChangeAt Go.RowKit Go.Proofs.YtonbphiaideleaaDoorW.PrintWords
set_option linter.unusedVariables false
set_option linter.unusedSimpArgs false
theorem own : ownKnob Tryd.prog.godebug = none := by kernel_rfl
theorem laidOut : laidOutB Tryd.prog = true := by kernel_rfl
theorem wf_u8 {n : Int} (h : (Lit.int .u8 n).wf = true) : 0 ≤ n ∧ n < 256 := by
  simp [Lit.wf, IntKind.min, IntKind.max, IntKind.signed, IntKind.bits] at h
  omega
/-- Numbers that are read, out of their cells. -/
theorem C_of_cells {k : IntKind} {w : World} {x : Addr} {len cap : Nat} {zs : List Int} (hl : len ≤ cap) (hm : cap ≤ maxLen) (hz : zs.length = cap) (hcell : ∀ i, i < zs.length → w.cell? (x.add i) = some (.int k (zs.getD i 0))) :
    Kd.C (Kd.int k) w (some x) len (zs.take len) := by
  refine ⟨by rw [List.length_take]; omega, by unfold maxLen at hm; omega, fun _ => ⟨x, rfl, fun j p hj => ⟨[.int k p], rfl, rfl, fun i u hi => ?_⟩⟩⟩
  rcases i with _ | i
  · obtain rfl : Value.int k p = u := by simpa using hi
    have hjl : j < len := by
      rcases Nat.lt_or_ge j len with h | h
      · exact h
      · rw [List.getElem?_eq_none (by rw [List.length_take]; omega)] at hj; cases hj
    rw [List.getElem?_take_of_lt hjl] at hj
    have h := hcell j (by omega)
    rw [List.getD_eq_getElem?_getD, hj] at h
    simp only [Kd.int, Kd.scalar, Nat.mul_one, Nat.add_zero]
    simpa using h
  · simp at hi
theorem cells44 : Tryd.prog.cellsOf 24 = 3 := by kernel_rfl
theorem cells23 : Tryd.prog.cellsOf 22 = 1 := by kernel_rfl
theorem cells5 : Tryd.prog.cellsOf 5 = 1 := by kernel_rfl
section
variable {H : Type} {enc : TypeId × Value → H} {W : World} {d : DataW H} {p : List MemPlace} {v : Value} {base : Nat}
theorem open_bytes1 {fuel : Nat} {c : Value} {z : DataW H × List MemPlace} (hf : DataW.trod enc Tryd.prog W 0 (fun _ => true) true fuel 22 [c] = some z) : ∃ (A : Option Addr) (cap : Nat) (l : List Int), c = .slice A l.length cap ∧ l.length ≤ cap ∧ Kd.C (Kd.int .u8) W A l.length l ∧ Byt l := by
  rcases open_ints Tryd.underlying22 Tryd.underlying5 (by kernel_rfl) hf with ⟨hcs, _⟩ | ⟨x, l, cap, zs, hcs, _, hl, hm, hz, _, hcell, hwz⟩
  · simp only [List.cons.injEq, and_true] at hcs
    exact ⟨none, 0, [], hcs, Nat.le_refl _, Kd.C_nil _ _, Byt.nil⟩
  · simp only [List.cons.injEq, and_true] at hcs
    have hz' : zs.length = cap := by simpa using hz
    have hlen : (zs.take l).length = l := by rw [List.length_take]; omega
    refine ⟨some x, cap, zs.take l, by rw [hlen]; exact hcs, by rw [hlen]; exact hl, by rw [hlen]; exact C_of_cells hl hm hz' hcell, fun y hy => wf_u8 (hwz y (List.mem_of_mem_take hy))⟩
theorem open_frame3 {fuel : Nat} {c0 c1 c2 : Value} {z : DataW H × List MemPlace} (hf : DataW.trod enc Tryd.prog W 0 (fun _ => true) true fuel 24 [c0, c1, c2] = some z) :
    ∃ (x y : Int) (A : Option Addr) (c : Nat) (l : List Int), c0 = .int .u8 x ∧ c1 = .int .u8 y ∧ c2 = .slice A l.length c ∧ l.length ≤ c ∧ Kd.C (Kd.int .u8) W A l.length l ∧ Byt l ∧ (0 ≤ x ∧ x < 256) ∧ (0 ≤ y ∧ y < 256) := by
  obtain ⟨y0, y1, y2, n, _, _, t0, t1, t2⟩ := Deep.trod_struct3 Tryd.underlying24 hf
  simp only [cells5, cells23, List.drop, List.take] at t0 t1 t2
  obtain ⟨x, e0, _, w0⟩ := DataW.trod_int Tryd.underlying5 t0
  obtain ⟨y, e1, _, w1⟩ := DataW.trod_int Tryd.underlying5 t1
  obtain ⟨A, c, l, e2, hl, hC, hB⟩ := open_bytes1 t2
  simp only [List.cons.injEq, and_true] at e0 e1
  exact ⟨x, y, A, c, l, e0, e1, e2, hl, hC, hB, wf_u8 w0, wf_u8 w1⟩
theorem open_frame (hv : Value.okWide Tryd.prog W .any base 24 v) (h : DataW.Trod enc Tryd.prog W 0 (fun _ => true) true 24 v d p) :
    ∃ (x y : Int) (A : Option Addr) (c : Nat) (l : List Int), v = .agg #[.int .u8 x, .int .u8 y, .slice A l.length c] ∧ l.length ≤ c ∧ Kd.C (Kd.int .u8) W A l.length l ∧ Byt l ∧ (0 ≤ x ∧ x < 256) ∧ (0 ≤ y ∧ y < 256) := by
  obtain ⟨cs, rfl, hs⟩ := okWide_struct Tryd.underlying24 hv
  rw [cells44] at hs
  obtain ⟨fuel, hf⟩ := h
  obtain ⟨cs⟩ := cs
  match cs, hs with
  | [c0, c1, c2], _ =>
    obtain ⟨x, y, A, c, l, rfl, rfl, rfl, hl, hC, hB, hx, hy⟩ := open_frame3 (show DataW.trod enc Tryd.prog W 0 (fun _ => true) true fuel 24 [c0, c1, c2] = some (d, p) from hf)
    exact ⟨x, y, A, c, l, rfl, hl, hC, hB, hx, hy⟩
end
def laidN : List (String × DataW Unit) := [("lacuna/frame.names", Rows.laid_lacuna_frame_names)]
theorem gNames : Tryd.prog.globalNamed "lacuna/frame.names" = some 0 := by kernel_rfl
theorem tNames : (Tryd.prog.globals[0]?).map (·.type) = some 42 := by kernel_rfl
theorem cells9 : Tryd.prog.cellsOf 9 = 1 := by kernel_rfl
theorem door_met (os : Os) (args : Array Value) : laidMetH Tryd.prog laidN ((World.doorLaid Tryd.prog 400 os).forCall (fun _ _ => 0) ⟨#[], args, []⟩).memory :=
  laidMetH_of_parts3 (fuel := 8) (laidMet_of_run' 8 (by kernel_rfl) (by kernel_rfl)) (by kernel_rfl) (by kernel_rfl)
theorem str_of {s : ByteArray} {a : Array UInt8} (h : s.data.toList = a.toList) : s = ⟨a⟩ := by
  obtain ⟨s⟩ := s
  congr 1
  exact Array.toList_inj.1 h
/-- What the condition gives: the names' cells. -/
theorem of_laid {W : World} (h : laidMetH Tryd.prog laidN W) : NamesAt W := by
  rw [MakeChecks.laidMetH_plain _ _ _ (by kernel_rfl)] at h
  obtain ⟨ps, ⟨g0, t0, cs0, f0, p0, q0, hg0, ht0, hv0, hd0, _, _⟩, _, _⟩ := h
  obtain rfl := Option.some.inj (gNames.symm.trans hg0)
  obtain rfl := Option.some.inj (tNames.symm.trans ht0)
  obtain ⟨xs, m1, _, hx1, hlen, hn, hel⟩ := DataW.trod_array Tryd.underlying42 hd0
  simp only [Prod.mk.injEq] at hx1
  have hx := hx1.1
  unfold Rows.laid_lacuna_frame_names at hx
  simp only [DataW.agg.injEq] at hx
  intro i hi
  rw [World.var?_cell hg0 hv0 i]
  have he := hel i hi
  rw [cells9] at he
  have hxi : i < xs.length := by rw [hn]; exact hi
  rw [List.getElem?_eq_getElem hxi] at he
  obtain ⟨s, hs, hxs, _⟩ := DataW.trod_string Tryd.underlying9 he
  have hc : cs0[i]? = some (.string s) := by
    have h2 : ((cs0.toList.drop (i * 1)).take 1)[0]? = some (Value.string s) := by rw [hs]; rfl
    rw [List.getElem?_take, if_pos (by decide), List.getElem?_drop, Nat.mul_one, Nat.add_zero] at h2
    rw [← Array.getElem?_toList]
    exact h2
  rw [hc]
  have hm : (xs.map (·.1))[i]? = some (.lit (.string s.data.toList)) := by
    rw [List.getElem?_map, List.getElem?_eq_getElem hxi, hxs]
    rfl
  rw [← hx] at hm
  have : i = 0 ∨ i = 1 ∨ i = 2 ∨ i = 3 ∨ i = 4 ∨ i = 5 ∨ i = 6 ∨ i = 7 ∨ i = 8 := by omega
  congr 2
  rcases this with rfl | rfl | rfl | rfl | rfl | rfl | rfl | rfl | rfl
  all_goals
    have h3 := Option.some.inj hm
    simp only [DataW.lit.injEq, Lit.string.injEq] at h3
    exact str_of h3.symm
set_option maxRecDepth 100000 in
theorem lifted (os : Os) (started : os.Started) (H : Type) (enc : TypeId × Value → H) :
    ReturnsInHanded {} Tryd.checked os 3 .any (fun w args => (Rows.frameMakesSpec.pre enc Tryd.prog Tryd.f3 [] false w args ∧ laidMetH Tryd.prog laidN w) ∧ sizedMet enc Tryd.prog Tryd.f3 (OpenSpec.ofChange Rows.frameMakesSpec) false w args)
      (Rows.frameMakesSpec.post enc Tryd.prog Tryd.f3 false true false false) := by
  refine returnsInHanded_of_change_and (C := Tryd.checked) (X := fun w _ => laidMetH Tryd.prog laidN w) (fun _ _ _ hh h => h.of_heap hh) own started (by kernel_rfl) Tryd.func3
    (ChangeSpec.witness_shaped (enc := enc) (C := Tryd.checked) (os := os) (X := fun w _ => laidMetH Tryd.prog laidN w) false (World.doorLaid Tryd.prog 400 os) #[.agg #[.int .u8 0, .int .u8 0, .slice none 0 0]] 8 rfl (World.shaped_of_RefB (by kernel_rfl) (by kernel_rfl)) (by kernel_rfl) (by kernel_rfl) (by kernel_rfl) (door_met os _)) ?_
  intro W base args ds gs before hval0 hW _ _ hL _
  have hval : ∀ (j : Nat) t v, Tryd.f3.params[j]? = some t → args[j]? = some v → Value.okWide Tryd.prog W .any base t v := hval0
  have hW' := hW
  obtain ⟨p, q, hA0, hV, rfl, hfz, hnd⟩ := hW
  have hA : DataW.TrodAll enc Tryd.prog W 0 (fun _ => true) true Tryd.f3.params.toList args.toList ds p := hA0
  rw [Tryd.params3] at hA hval
  obtain ⟨v0, vs0, d0, ds0, p0, q0, hargs, rfl, rfl, h0, r0⟩ := trodAll_cons hA
  obtain ⟨rfl, rfl, rfl⟩ := trodAll_nil r0
  obtain rfl : args = #[v0] := by cases args; simp_all
  obtain ⟨rfl, rfl⟩ := trodVars_none hV
  have k0 := h0
  have lt0 : ∀ x ∈ p0, x.block < W.heap.size := by obtain ⟨m, hm⟩ := k0; exact DataW.trod_lt m _ _ _ hm
  obtain ⟨fx0, fy0, a0, cap0, z0, rfl, le0, hC0, hB0, hX0, hY0⟩ := open_frame (hval 0 24 v0 rfl rfl) h0
  clear hA0 hval0
  refine (framemakes_any fx0 fy0 a0 cap0 z0 W hC0 le0 hB0 hY0 (of_laid hL)).mono fun e W' ⟨he, bel⟩ => ?_
  subst he
  exact ⟨_, rfl, _, _, _, [], _, [], hW', trodAll_mk1 (shut_bool Tryd.underlying4 _), (trodAll_cons_mk (Below.trod laidOut (by kernel_rfl) (of_decide_eq_true (by kernel_rfl)) k0 bel lt0) trodAll_mk0), rfl, bel.frame _, fun h => by cases h⟩
theorem over : Rows.frameMakesRow.holds Tryd.pinned (OpenSpec.ofChange Rows.frameMakesSpec) :=
  OpenClaim.holds_of_wide 3 Tryd.f3 rfl rfl rfl rfl rfl rfl rfl ⟨rfl, rfl, rfl, rfl, rfl⟩ rfl rfl rfl rfl rfl (by kernel_rfl) Tryd.func3 (by kernel_rfl)
    (of_decide_eq_true (by kernel_rfl)) (by unfold Func.isWrapper; first | (rw [if_pos (by decide +kernel)]; kernel_rfl) | (rw [if_neg (by decide +kernel)]; exact ⟨rfl, rfl⟩))
    (fun os started H enc _ => lifted os started H enc)
end Go.Proofs.YtonbphiaideleaaDoor.M
namespace Go.Proofs.YtonbphiaideleaaDoor
theorem frameMakes_holds : Rows.FrameMakesSaid := M.over
theorem frameMakesCard_holds : Rows.FrameMakesCardSaid :=
  Claim7.holds_tied_plain_at .later [] [.data] true (true, "7cd177aca8558ec75bad5a6d06553ee56bb89d53e941c9d9dc6c706327f16fd5") false
    frameMakes_holds (fun _ h => by cases h) (by kernel_rfl) (fun _ h => by cases h) frameMakes_row_tie rfl ⟨rfl, rfl⟩ (by kernel_rfl) rfl
    (fun f fn hf hfn => by
      obtain rfl : f = 3 := Option.some.inj ((show Tryd.prog.funcNamed "lacuna/lacunalaw04.FrameMakes" = some 3 by kernel_rfl).symm.trans hf) |>.symm
      obtain rfl : fn = Tryd.f3 := (Option.some.inj (Tryd.func3.symm.trans hfn)).symm
      exact ⟨by kernel_rfl, fun j t ht => by
        rw [Tryd.params3] at ht
        have h3 : t = 24 := by
          rcases j with _ | j
          · simpa using ht.symm
          · simp at ht
        subst h3
        exact (show Tryd.prog.wantsStandIn 24 = false by kernel_rfl)⟩)
    (by kernel_rfl)
end Go.Proofs.YtonbphiaideleaaDoor
