/- scan.Scanner.Feed. -/
import Derived.Test.YtonbphiaideleaaMscanlaw
import Derived.Test.YtonbphiaideleaaMcuts
import Derived.Scope
import Derived.WalkMore
import Derived.ScopeJumps
import Derived.Deep.QuietTactic
import Derived.BigQuiet
namespace Go.Proofs.Ytonbphiaideleaa.M
open Go.RowKit Go.Proofs.YtonbphiaideleaaW.PrintWords Go.Proofs.YtonbphiaideleaaW.PrintLast Go.Proofs.YtonbphiaideleaaW.PrintMore Go.Proofs.Ytonbphiaideleaa.PC
set_option linter.unusedVariables false
set_option linter.unusedSimpArgs false
theorem put3f {w : World} {g : Nat} {a b d x y z : Value} {t : TypeId} (h : w.heap[g]? = some (.cells #[a, b, d] t (0, 0))) :
    (((w.setCell ⟨g, 0, none⟩ x).setCell ⟨g, 1, none⟩ y).setCell ⟨g, 2, none⟩ z).heap[g]? = some (.cells #[x, y, z] t (0, 0)) ∧ Below g w (((w.setCell ⟨g, 0, none⟩ x).setCell ⟨g, 1, none⟩ y).setCell ⟨g, 2, none⟩ z) :=
  ⟨blk_put (cs := #[x, y, d]) (blk_put (cs := #[x, b, d]) (blk_put (cs := #[a, b, d]) h 0 _ rfl) 1 _ rfl) 2 _ rfl, ((((Below.refl g w).setCell (p := ⟨g, 0, none⟩) (Nat.le_refl g) x).setCell (p := ⟨g, 1, none⟩) (Nat.le_refl g) y).setCell (p := ⟨g, 2, none⟩) (Nat.le_refl g) z)⟩
/-- What holds where the rounds begin. -/
structure FeedI (g g7 : Nat) (w7 : World) (B0 : Nat) (Ak : Option Addr) (nk ck : Nat) (AA : Option Addr) (full : List Int) (lim : Int) (tot : List S68 × List Int × Int × Int) (W : World) (vo : Value) (o : List S68) (A10 : Option Addr) (c10 : Nat) (l : List Int) (at_ : Int) : Prop where
  G : W.heap[g]? = some (.cells #[.slice Ak nk ck, .int .u64 at_, .int .i64 0] 85 (0, 0))
  F : ∃ (fx fy : Int) (Af : Option Addr) (nf cf : Nat), W.heap[g7]? = some (.cells #[.int .u8 fx, .int .u8 fy, .slice Af nf cf] 40 (0, 0))
  O : Kd.R k68 68 W w7.heap.size (fun k => w7.heap.size ≤ k) vo o
  size : w7.heap.size ≤ W.heap.size
  keep : ∀ k, k < w7.heap.size → k ≠ g → k ≠ g7 → W.heap[k]? = w7.heap[k]?
  bel : Below B0 w7 W
  D : ∀ W' : World, Kd.C (Kd.int .u8) W' AA full.length full → Kd.C (Kd.int .u8) W' A10 l.length l
  cap : l.length ≤ c10
  len : l.length ≤ full.length
  byt : Byt l
  at0 : 0 ≤ at_
  lim : at_ + (l.length : Int) ≤ lim
  outs : o.length + 10 * l.length ≤ 10 * full.length
  tot : tot = (o ++ (scanF l at_).1, (scanF l at_).2)
/-- x[j:], for every world. -/
theorem cutD2 {α : Type} {k : Kd α} (hk : k.sz = 1) {t e : TypeId} {i : TypeInfo} (ht : Try.prog.underlying t = some (.slice e)) (hi : Try.prog.info? e = some i) (hsz : i.size = 1) {A : Option Addr} {c : Nat} {xs : List α}
    (hc : xs.length ≤ c) (j : Int) (m : Nat) (hj : j = (m : Int)) (hm : m ≤ xs.length) :
    ∃ (A' : Option Addr) (ys : List α), ys = xs.drop m ∧ (∀ W : World, (Instr.slice t (.slice A xs.length c) (some (.int .i64 j)) none none).run Try.prog W = .ok (.slice A' ys.length (c - m)) W) ∧ (∀ W : World, k.C W A xs.length xs → k.C W A' ys.length ys) ∧ ys.length ≤ c - m := by
  subst hj
  have h1 := cut_from (P := Try.prog) t e .i64 ht hi 1 hsz A xs.length c (m : Int) (by omega) (by omega)
  simp only [Int.toNat_natCast] at h1
  refine ⟨_, xs.drop m, rfl, fun W => by rw [h1 W, List.length_drop], fun W h => ?_, by rw [List.length_drop]; omega⟩
  have h2 := Kd.C_drop h hm hc
  rw [hk] at h2
  exact h2
def FeedJ (g g7 : Nat) (w7 : World) (B0 : Nat) (Ak : Option Addr) (nk ck : Nat) (A : Option Addr) (c : Nat) (b : List Int) (AA : Option Addr) (full : List Int) (lim : Int) (tot : List S68 × List Int × Int × Int) (a : Act) (W : World) : Prop :=
  ∃ (vo : Value) (o : List S68) (A10 : Option Addr) (c10 : Nat) (l : List Int) (at_ : Int) (u8 u9 u11 u12 u13 u14 u15 u16 u17 u18 u19 u20 u21 u22 u23 u24 u25 u26 u27 u28 u29 u30 u31 u32 u33 u34 u35 u36 u37 u38 u39 u40 u41 u42 u43 u44 u45 u46 u47 u48 u49 u50 u51 u52 u53 u54 u55 u56 u57 u58 u59 u60 u61 u62 u63 u64 u65 u66 u67 u68 u69 u70 u71 u72 u73 u74 u75 u76 : Value), a = { tmps := #[.pointer (some ⟨g, 0, none⟩), .slice A b.length c, undef, undef, .slice none 0 0, .int .i64 0, vo, .pointer (some ⟨g7, 0, none⟩), u8, u9, .slice A10 l.length c10, u11, u12, u13, u14, u15, u16, u17, u18, u19, u20, u21, u22, u23, u24, u25, u26, u27, u28, u29, u30, u31, u32, u33, u34, u35, u36, u37, u38, u39, u40, u41, u42, u43, u44, u45, u46, u47, u48, u49, u50, u51, u52, u53, u54, u55, u56, u57, u58, u59, u60, u61, u62, u63, u64, u65, u66, u67, u68, u69, u70, u71, u72, u73, u74, u75, u76], defers := [] } ∧ FeedI g g7 w7 B0 Ak nk ck AA full lim tot W vo o A10 c10 l at_
/-- What is known of the world behind the first append. -/
structure FeedP (g g7 : Nat) (w w7 : World) (B0 : Nat) (row : Option Nat) (AA : Option Addr) (cA : Nat) (full : List Int) : Prop where
  R : Kd.R (Kd.int .u8) 5 w7 B0 (fun k => k ≠ g ∧ k ≠ g7) (.slice AA full.length cA) full
  g7w : w.heap.size ≤ g7
  g7l : g7 < w7.heap.size
  gl : g < w.heap.size
  size : w.heap.size ≤ w7.heap.size
  keep : ∀ k, k < w.heap.size → some k ≠ row → w7.heap[k]? = w.heap[k]?
  bel : Below B0 w w7
/-- What is told, kept and wrong behind a call. -/
def wrOf (t : List S68 × List Int × Int × Int) : Int := if t.2.2.2 = 1 then 0 else t.2.2.2
def keptOf (t : List S68 × List Int × Int × Int) : List Int := if t.2.2.2 = 1 then t.2.1 else []
structure FeedR (g : Nat) (w : World) (B0 : Nat) (row : Option Nat) (out : List S68) (kept : List Int) (at_ wr : Int) (v : Value) (A' : Option Addr) (c' : Nat) (w' : World) : Prop where
  G : w'.heap[g]? = some (.cells #[.slice A' kept.length c', .int .u64 at_, .int .i64 wr] 85 (0, 0))
  O : Kd.R k68 68 w' w.heap.size (fun k => w.heap.size ≤ k ∧ some k ≠ (Value.slice A' kept.length c').ownBlock) v out
  K : Kd.R (Kd.int .u8) 5 w' w.heap.size (fun _ => True) (.slice A' kept.length c') kept
  keep : ∀ k, k < w.heap.size → k ≠ g → some k ≠ row → w'.heap[k]? = w.heap[k]?
  bel : Below B0 w w'
def FeedQ (g : Nat) (w : World) (B0 : Nat) (row : Option Nat) (out : List S68) (kept : List Int) (at_ wr : Int) (e : Ending) (w' : World) : Prop :=
  ∃ (v : Value) (A' : Option Addr) (c' : Nat), e = .returned (.tuple #[v, .int .i64 wr]) ∧ FeedR g w B0 row out kept at_ wr v A' c' w'
def feedM (a : Act) (_ : World) : Nat := match a.tmps.getD 10 undef with | .slice _ n _ => n | _ => 0
theorem feed_keep {g g7 : Nat} {w w7 : World} {B0 : Nat} {row : Option Nat} {AA : Option Addr} {cA : Nat} {full : List Int} {Ak : Option Addr} {nk ck : Nat} {lim : Int} {tot : List S68 × List Int × Int × Int} {W w8 W9 : World} {vo : Value} {o : List S68} {A10 : Option Addr} {c10 : Nat} {l : List Int} {at_ : Int}
    (hP : FeedP g g7 w w7 B0 row AA cA full) (hI : FeedI g g7 w7 B0 Ak nk ck AA full lim tot W vo o A10 c10 l at_) (hb : Below W.heap.size W w8) (hk : ∀ k, k ≠ g7 → W9.heap[k]? = w8.heap[k]?) :
    ∀ k, k < w.heap.size → k ≠ g → some k ≠ row → W9.heap[k]? = w.heap[k]? := by
  intro k h1 h2 h3
  have h4 := hP.size
  have h5 := hI.size
  have h6 := hP.g7w
  rw [hk k (by omega), hb.block k (by omega), hI.keep k (by omega) h2 (by omega)]
  exact hP.keep k h1 h3
theorem feed_row {g g7 : Nat} {w w7 : World} {B0 : Nat} {row : Option Nat} {AA : Option Addr} {cA : Nat} {full : List Int} {Ak : Option Addr} {nk ck : Nat} {lim : Int} {tot : List S68 × List Int × Int × Int} {W w8 W9 : World} {vo : Value} {o : List S68} {A10 : Option Addr} {c10 : Nat} {l : List Int} {at_ : Int}
    (hP : FeedP g g7 w w7 B0 row AA cA full) (hI : FeedI g g7 w7 B0 Ak nk ck AA full lim tot W vo o A10 c10 l at_) (hb : Below W.heap.size W w8) (hk : ∀ k, k ≠ g7 → W9.heap[k]? = w8.heap[k]?) :
    Kd.R k68 68 W9 w.heap.size (fun k => w7.heap.size ≤ k) vo o :=
  Kd.R_lower (Kd.R_step (Kd.R_below hI.O hb) (fun k hk' _ => hk k (by have h1 := hP.g7l; omega))) hP.size
theorem feed_tot {l full kept b : List Int} {at_ at2 x y n e : Int} {pl : List Int} {o : List S68} {tot : List S68 × List Int × Int × Int} (hF : full = kept ++ b) (hT : tot = scanF full at_) (hI : tot = (o ++ (scanF l at2).1, (scanF l at2).2)) (hp : parF l = (x, y, pl, n, e)) (he : e ≠ 0) :
    scanF (kept ++ b) at_ = (o, l, at2, e) := by
  rw [← hF, ← hT, hI, scan_stop (by rw [hp]; exact he), hp]
  simp
theorem wp_scope_jumps' {P : Program} {a : Act} {w : World} {Q : Exit → Act → World → Prop} {c rest : Code} (l : Nat) (J : Act → World → Prop) (μ : Act → World → Nat) (hf : findLabel c l = some (Code.skip.seq rest))
    (first : (∀ a w, J a w → rest.wp P (Exit.jump l J Q) a w) → c.wp P (Exit.jump l J Q) a w)
    (pass : ∀ a w, J a w → rest.wp P (Exit.jump l (fun a' w' => J a' w' ∧ μ a' w' < μ a w) Q) a w) : (Code.scope c).wp P Q a w := by
  refine wp_scope_jumps l J μ hf (first fun a w h => wp_mono (pass a w h) ?_) (fun a w h => wp_seq (wp_skip (pass a w h)))
  intro e a' w' h'
  cases e <;> first | exact h' | exact ⟨h'.1, h'.2.1⟩

def feed_T12 : Bool × List (List Nat × List Nat) := (true, [([], []), ([], []), ([], []), ([2], [2]), ([3], [3]), ([4], [4]), ([], []), ([1, 5, 6], [1, 5, 6]), ([7], [7]), ([0, 8], [0, 8]), ([9, 9, 0, 1, 2, 3, 4, 5, 6, 7, 8, 9], [0, 9])])
def feed_B12 : List Nat := [0, 0, 0, 4, 12, 28, 0, 126, 254, 511, 1023]
theorem feed_tab12 : rtab .any (opsOf Try.f36 12) = feed_T12 := by kernel_rfl
theorem feed_bits12 : waitsOk feed_T12.2 feed_B12 = true := by kernel_rfl
set_option maxHeartbeats 8000000 in
set_option maxRecDepth 100000 in
theorem feed_ok (g : Nat) (Ak : Option Addr) (ck : Nat) (kept : List Int) (at_ : Int) (A : Option Addr) (c : Nat) (b : List Int) (w : World) (B0 : Nat)
    (hG : w.heap[g]? = some (.cells #[.slice Ak kept.length ck, .int .u64 at_, .int .i64 0] 85 (0, 0))) (hK : Kd.R (Kd.int .u8) 5 w B0 (fun _ => True) (.slice Ak kept.length ck) kept)
    (hr : Kd.C (Kd.int .u8) w A b.length b) (hc : b.length ≤ c) (hB0 : B0 ≤ w.heap.size) (hBg : B0 ≤ g) (hlen : kept.length + b.length < 1000000000) (hyk : Byt kept) (hyb : Byt b) (hat : 0 ≤ at_ ∧ at_ < 1000000000000) :
    Calls Try.prog 36 #[.pointer (some ⟨g, 0, none⟩), .slice A b.length c] w (FeedQ g w B0 (Value.slice Ak kept.length ck).ownBlock (scanF (kept ++ b) at_).1 (keptOf (scanF (kept ++ b) at_)) (scanF (kept ++ b) at_).2.2.1 (wrOf (scanF (kept ++ b) at_))) := by
  have hu40 := Try.underlying40
  have hu85 := Try.underlying85
  have HG := Aside0.mk hG
  have HK := Aside0.mk hK
  have HR := Aside0.mk hr
  have HL := Aside0.mk hlen
  have HB0 := Aside0.mk hB0
  have HBG := Aside0.mk hBg
  have HYK := Aside0.mk hyk
  have HYB := Aside0.mk hyb
  have HAT := Aside0.mk hat
  obtain ⟨full, hfull⟩ : ∃ f, f = kept ++ b := ⟨_, rfl⟩
  have HF := Aside0.mk hfull
  obtain ⟨tot, htot⟩ : ∃ t, t = scanF full at_ := ⟨_, rfl⟩
  have HT := Aside0.mk htot
  have hs0 : w.cell? ⟨g, 0, none⟩ = some (.slice Ak kept.length ck) := (blk_cell HG.out 0).trans rfl
  have hs1 : w.cell? ⟨g, 1, none⟩ = some (.int .u64 at_) := (blk_cell HG.out 1).trans rfl
  have hs2 : w.cell? ⟨g, 2, none⟩ = some (.int .i64 0) := (blk_cell HG.out 2).trans rfl
  clear hG hK hr hlen hB0 hBg hyk hyb hat hfull htot
  go_enter Try.func36, Try.ntmps36
  go_wp2
  refine wp_scope_jumps' 0 (fun a W => ∃ (g7 : Nat) (w7 : World) (AA : Option Addr) (cA : Nat), FeedP g g7 w w7 B0 (Value.slice Ak kept.length ck).ownBlock AA cA full ∧ FeedJ g g7 w7 B0 Ak kept.length ck A c b AA full (at_ + (full.length : Int)) tot a W) feedM rfl (fun hrest => ?_) ?_
  · have HREST := Aside0.mk hrest
    clear hrest
    go_wp2_with (first
      | ((with_reducible refine gate_builtin (b := .append) (xs := #[.tmp 23, .tmp 24]) rfl ?_); at_builtin; refine Kd.R_append_rows (Kd.int .u8) (w0 := w6) B0 rfl (.tmp 23) (.tmp 24) 23 5 (.int .u8 0) 1 rfl Try.underlying23 info5 rfl (by decide) (by omega) (.slice Ak kept.length ck) kept b _ _ _ (fun _ => True) (fun _ => False) rfl rfl HK6.out HR6.out (fun _ _ h => h) (fun _ h => h.elim) (fun _ _ => trivial) (Below.refl _ _) (Nat.le_trans HB0.out HB6.out.size) (by have := HL.out; omega) ?_; intro v7 w7 ho hb hgr hat2; rw [← HF.out] at ho; have HO7 := Aside0.mk ho; have HB7 := Aside0.mk hb; have HGR := Aside0.mk hgr; clear ho hb hgr hat2; obtain ⟨A7, c7, e7⟩ := Kd.R_slice HO7.out; subst e7)
      | ((with_reducible refine gate_dst (N := 7) rfl ?_); refine box_event ?hg (N := 7) ?hd (cs := #[.int .u8 0, .int .u8 0, .slice none 0 0]) (t := 40) ?hr ?_; (case hd => rfl); (case hg => rfl); (case hr => first | (go_simp; done) | (go_simp; rfl)); intro g7 hg w6 hbox hbb; have HB6 := Aside0.mk hbb; have HG6 := Aside0.mk (blk_below HG.out hbb); have H76 := Aside0.mk hbox; have HK6 := Aside0.mk (Kd.R_below HK.out hbb); have HR6 := Aside0.mk (Kd.C_below HR.out hbb); have HE7 := Aside0.mk (show g7 = w.heap.size from hg); clear hbb hbox hg hs0 hs1 hs2; have hs0 : w6.cell? ⟨g, 0, none⟩ = some (.slice Ak kept.length ck) := (blk_cell HG6.out 0).trans rfl))
    go_step3
    rename_i K hK
    have hne : ∀ (j : Nat) (t : TypeId) (cs : Array Value), w6.heap[j]? = some (.cells cs t (0, 0)) → t ≠ 5 → w7.heap[j]? = some (.cells cs t (0, 0)) := fun j t cs hj ht => blk_grown hj HGR.out (Kd.R_ne HK6.out hj (fun e => ht e.symm))
    have hg7 := hne g 85 _ HG6.out (by decide)
    have h77 := hne g7 40 _ H76.out (by decide)
    have hR7 := Kd.R_mono (ok' := fun k => k ≠ g ∧ k ≠ g7) (Kd.R_types (Kd.R_types HO7.out hg7 (by decide)) h77 (by decide)) (fun k hk => ⟨hk.1.2, hk.2⟩)
    refine hK _ _ (HREST.out _ _ ⟨g7, w7, A7, c7, ⟨hR7, ?_, ?_, ?_, ?_, ?_, ?_⟩, .slice none 0 0, [], A7, c7, full, at_, .int .i64 0, .int .i64 0, _, _, _, _, _, _, _, _, _, _, _, _, _, _, _, _, _, _, _, _, _, _, _, _, _, _, _, _, _, _, _, _, _, _, _, _, _, _, _, _, _, _, _, _, _, _, _, _, _, _, _, _, _, _, _, _, _, _, _, _, _, _, _, _, _, _, rfl, ?_⟩)
    · rw [HE7.out]; exact Nat.le_refl _
    · exact Nat.lt_of_lt_of_le (blk_lt H76.out) HB7.out.size
    · exact blk_lt HG.out
    · exact Nat.le_trans HB6.out.size HB7.out.size
    · intro k hk hne
      rw [← HB6.out.block k hk]
      exact HGR.out.block k (Nat.lt_of_lt_of_le hk HB6.out.size) hne
    · exact (HB6.out.mono HB0.out).trans HB7.out
    · refine ⟨hg7, ⟨0, 0, none, 0, 0, h77⟩, Kd.R_nil _ _ _ _ _, Nat.le_refl _, fun _ _ _ _ => rfl, Below.refl _ _, fun _ h => h, (Kd.R_reads' HO7.out).2.1, Nat.le_refl _, ?_, HAT.out.1, Int.le_refl _, ?_, ?_⟩
      · rw [HF.out]; exact fun z hz => (List.mem_append.1 hz).elim (HYK.out z) (HYB.out z)
      · simp
      · rw [HT.out]; rfl
  · rintro a W ⟨g7, w7, AA, cA, HP, vo, o, A10, c10, l, at2, u8, u9, u11, u12, u13, u14, u15, u16, u17, u18, u19, u20, u21, u22, u23, u24, u25, u26, u27, u28, u29, u30, u31, u32, u33, u34, u35, u36, u37, u38, u39, u40, u41, u42, u43, u44, u45, u46, u47, u48, u49, u50, u51, u52, u53, u54, u55, u56, u57, u58, u59, u60, u61, u62, u63, u64, u65, u66, u67, u68, u69, u70, u71, u72, u73, u74, u75, u76, rfl, HI⟩
    obtain ⟨fx, fy, Af, nf, cf, hF⟩ := HI.F
    have hRW := Kd.R_step HP.R (fun k hk hlt => HI.keep k hlt hk.1 hk.2)
    have HRW := Aside0.mk hRW
    have HCl := Aside0.mk (HI.D W (Kd.R_reads' hRW).2.2)
    have HPP := Aside0.mk HP
    have HII := Aside0.mk HI
    have HF7 := Aside0.mk hF
    have HYl := Aside0.mk HI.byt
    have HLl : Aside0 (l.length < 140737488355328) := ⟨by have h1 := HI.len; have h2 := HL.out; have h3 := congrArg List.length HF.out; rw [List.length_append] at h3; omega⟩
    have hcl := HI.cap
    clear HP HI hF hRW hs0 hs1 hs2
    obtain ⟨⟨x, y, pl, n, e⟩, hp⟩ : ∃ p, p = parF l := ⟨_, rfl⟩
    have HPA : Aside0 (parF l = (x, y, pl, n, e)) := ⟨hp.symm⟩
    clear hp
    by_cases he0 : e = 0
    · subst he0
      go_wp2_with (first
        | (go_at_call 26; have hpar := parse_any A10 c10 l _ HCl.out hcl HYl.out HLl.out; rw [HPA.out] at hpar; dsimp only at hpar; refine hpar.mono ?_; clear hpar; rintro e w8 ⟨v8, rfl, ho, hb⟩; have HO8 := Aside0.mk ho; have HB8 := Aside0.mk hb; clear ho hb; obtain ⟨A8, c8, e8⟩ := Kd.R_slice HO8.out; subst e8; have HF8 := Aside0.mk (blk_below HF7.out HB8.out); have hy0 : w8.cell? ⟨g7, 0, none⟩ = some (.int .u8 fx) := (blk_cell HF8.out 0).trans rfl; have hy1 : w8.cell? ⟨g7, 1, none⟩ = some (.int .u8 fy) := (blk_cell HF8.out 1).trans rfl; have hy2 : w8.cell? ⟨g7, 2, none⟩ = some (.slice Af nf cf) := (blk_cell HF8.out 2).trans rfl; have hyf0 := blk_frozen HF8.out 0; have hyf1 := blk_frozen HF8.out 1; have hyf2 := blk_frozen HF8.out 2))
      obtain ⟨W9, hW9⟩ : ∃ W, W = (((w8.setCell ⟨g7, 0, none⟩ (.int .u8 x)).setCell ⟨g7, 1, none⟩ (.int .u8 y)).setCell ⟨g7, 2, none⟩ (.slice A8 pl.length c8)) := ⟨_, rfl⟩
      have hp3 := put3f (x := .int .u8 x) (y := .int .u8 y) (z := .slice A8 pl.length c8) HF8.out
      have hk9 : ∀ k, k ≠ g7 → W9.heap[k]? = w8.heap[k]? := fun k hk => by rw [hW9, Below.heap_setCell _ _ _ _ hk, Below.heap_setCell _ _ _ _ hk, Below.heap_setCell _ _ _ _ hk]
      have hsz9 : W9.heap.size = w8.heap.size := by rw [hW9]; simp [World.setCell]
      have hgg : g ≠ g7 := by have h1 := HPP.out.gl; have h2 := HPP.out.g7w; omega
      have HG9 : Aside0 (W9.heap[g]? = some (.cells #[.slice Ak kept.length ck, .int .u64 at2, .int .i64 0] 85 (0, 0))) := ⟨(hk9 g hgg).trans (blk_below HII.out.G HB8.out)⟩
      have HF9 : Aside0 (W9.heap[g7]? = some (.cells #[.int .u8 x, .int .u8 y, .slice A8 pl.length c8] 40 (0, 0))) := ⟨by rw [hW9]; exact hp3.1⟩
      have HO9 : Aside0 (Kd.R k68 68 W9 w7.heap.size (fun k => w7.heap.size ≤ k) vo o) := ⟨Kd.R_step (Kd.R_below HII.out.O HB8.out) (fun k hk _ => hk9 k (by have := HPP.out.g7l; omega))⟩
      have HV9 : Aside0 (Kd.R (Kd.int .u8) 5 W9 W.heap.size (fun k => k ≠ g7) (.slice A8 pl.length c8) pl) := ⟨Kd.R_step (Kd.R_mono (ok' := fun k => k ≠ g7) (Kd.R_types HO8.out HF8.out (by decide)) (fun k hk => hk.2)) (fun k hk _ => hk9 k hk)⟩
      have HS9 : Aside0 (W.heap.size ≤ W9.heap.size) := ⟨by rw [hsz9]; exact HB8.out.size⟩
      have HK9 : Aside0 (∀ k, k ≠ g7 → W9.heap[k]? = w8.heap[k]?) := ⟨hk9⟩
      have HBL9 : Aside0 (Below B0 w7 W9) := ⟨by rw [hW9]; exact (HII.out.bel.trans (HB8.out.mono (Nat.le_trans (Nat.le_trans HB0.out HPP.out.size) HII.out.size))).trans (hp3.2.mono (Nat.le_trans HB0.out HPP.out.g7w))⟩
      rw [← hW9]
      clear hW9 hp3 hk9 hsz9 hy0 hy1 hy2 hyf0 hyf1 hyf2
      refine start_ (n := 11) (S := fun w' => Below W9.heap.size W9 w') (ds := [9]) #[false, false, false, false, false, false, false, false, false, false, false] (by kernel_rfl) rfl rfl (below_drew (Below.refl _ _)) (fun hHeld => ?_)
      refine with_tabW feed_tab12 feed_bits12 (fun HT_ HW_ => ?_)
      refine pure_ (i := 0) (N := some 42) (v := ?_) (a' := ?_) #[true, false, false, false, false, false, false, false, false, false, false] rfl rfl (any_of HT_.out (by kernel_rfl)) (fun _ _ _ h => h) (Or.inl ⟨by rfl, ?_⟩) ?_ ?_
      rotate_left
      · intro w'
        go_simp
        with_reducible rfl
      rotate_left
      · simp only [Act.put, List.setIfInBounds_toArray, List.set_cons_zero, List.set_cons_succ, i64_w, i32_w]
        rfl
      refine take_ (i := 1) (N := some 43) (v := ?_) (a' := ?_) #[true, true, false, false, false, false, false, false, false, false, false] rfl rfl (take_ofW HT_.out HW_.out (by kernel_rfl)) (fun _ _ _ h => h) (Or.inl ⟨by rfl, ?_⟩) hHeld ?_ ?_
      rotate_left
      · intro w' s0
        have hz0 : w'.cell? ⟨g7, 0, none⟩ = some (.int .u8 x) := (blk_cell (blk_below HF9.out s0) 0).trans rfl
        have hz1 : w'.cell? ⟨g7, 1, none⟩ = some (.int .u8 y) := (blk_cell (blk_below HF9.out s0) 1).trans rfl
        have hz2 : w'.cell? ⟨g7, 2, none⟩ = some (.slice A8 pl.length c8) := (blk_cell (blk_below HF9.out s0) 2).trans rfl
        go_simp
        with_reducible rfl
      rotate_left
      · simp only [Act.put, List.setIfInBounds_toArray, List.set_cons_zero, List.set_cons_succ, i64_w, i32_w]
        rfl
      refine pure_ (i := 2) (N := some 44) (v := ?_) (a' := ?_) #[true, true, true, false, false, false, false, false, false, false, false] rfl rfl (any_of HT_.out (by kernel_rfl)) (fun _ _ _ h => h) (Or.inl ⟨by rfl, ?_⟩) ?_ ?_
      rotate_left
      · intro w'
        go_simp
        with_reducible rfl
      rotate_left
      · simp only [Act.put, List.setIfInBounds_toArray, List.set_cons_zero, List.set_cons_succ, i64_w, i32_w]
        rfl
      refine pure_ (i := 3) (N := some 45) (v := ?_) (a' := ?_) #[true, true, true, true, false, false, false, false, false, false, false] rfl rfl (any_of HT_.out (by kernel_rfl)) (fun _ _ _ h => h) (Or.inl ⟨by rfl, ?_⟩) ?_ ?_
      rotate_left
      · intro w'
        go_simp
        with_reducible rfl
      rotate_left
      · simp only [Act.put, List.setIfInBounds_toArray, List.set_cons_zero, List.set_cons_succ, i64_w, i32_w]
        rfl
      refine pure_ (i := 4) (N := some 46) (v := ?_) (a' := ?_) #[true, true, true, true, true, false, false, false, false, false, false] rfl rfl (any_of HT_.out (by kernel_rfl)) (fun _ _ _ h => h) (Or.inl ⟨by rfl, ?_⟩) ?_ ?_
      rotate_left
      · intro w'
        go_simp
        with_reducible rfl
      rotate_left
      · simp only [Act.put, List.setIfInBounds_toArray, List.set_cons_zero, List.set_cons_succ, i64_w, i32_w]
        rfl
      refine take_ (i := 5) (N := some 47) (v := ?_) (a' := ?_) #[true, true, true, true, true, true, false, false, false, false, false] rfl rfl (take_ofW HT_.out HW_.out (by kernel_rfl)) (fun _ _ _ h => h) (Or.inl ⟨by rfl, ?_⟩) hHeld ?_ ?_
      rotate_left
      · intro w' s0
        have hz1 : w'.cell? ⟨g, 1, none⟩ = some (.int .u64 at2) := (blk_cell (blk_below HG9.out s0) 1).trans rfl
        go_simp
        with_reducible rfl
      rotate_left
      · simp only [Act.put, List.setIfInBounds_toArray, List.set_cons_zero, List.set_cons_succ, i64_w, i32_w]
        rfl
      refine pure_ (i := 6) (N := some 48) (v := ?_) (a' := ?_) #[true, true, true, true, true, true, true, false, false, false, false] rfl rfl (any_of HT_.out (by kernel_rfl)) (fun _ _ _ h => h) (Or.inl ⟨by rfl, ?_⟩) ?_ ?_
      rotate_left
      · intro w'
        go_simp
        with_reducible rfl
      rotate_left
      · simp only [Act.put, List.setIfInBounds_toArray, List.set_cons_zero, List.set_cons_succ, i64_w, i32_w]
        rfl
      refine pure_ (i := 7) (N := some 49) (v := ?_) (a' := ?_) #[true, true, true, true, true, true, true, true, false, false, false] rfl rfl (any_of HT_.out (by kernel_rfl)) (fun _ _ _ h => h) (Or.inl ⟨by rfl, ?_⟩) ?_ ?_
      rotate_left
      · intro w'
        go_simp
        with_reducible rfl
      rotate_left
      · simp only [Act.put, List.setIfInBounds_toArray, List.set_cons_zero, List.set_cons_succ, i64_w, i32_w]
        rfl
      refine one_ (i := 8) (N := some 50) #[true, true, true, true, true, true, true, true, true, false, false] rfl rfl (one_of HT_.out (by kernel_rfl)) (by decide) (fun K hK => ?_)
      refine value_ (w1 := ?_) (v := ?_) (by rfl) rfl ?_ ?_
      rotate_left 2
      · go_simp
        constructor
        · rfl
        · rfl
      refine hK.out _ _ (below_alloc hHeld _) (fun hHeld => ?_)
      clear hK K
      refine norm_ (a' := ?_) ?_ ?_
      rotate_left
      · show Act.put _ (some 50) _ = _
        simp only [Act.put, List.setIfInBounds_toArray, List.set_cons_zero, List.set_cons_succ, i64_w, i32_w]
        rfl
      refine last_ (i := 9) (N := some 51) #[true, true, true, true, true, true, true, true, true, true, false] rfl rfl (one_of HT_.out (by kernel_rfl)) (by decide) (fun K hK => ?_)
      refine Kd.R_append_step k68 (w0 := W9) (W := W9.drew) w7.heap.size (by rfl) (.tmp 42) (.tmp 50) 61 68 (.agg #[(.int .u8 0), (.int .u8 0), (.slice none 0 0), (.int .u64 0), (.int .i64 0)]) 48 rfl Try.underlying61 info68 rfl (by decide) (by omega) vo o (⟨(⟨x, y, pl⟩ : S44), at2, n⟩ : S68) [.int .u8 x, .int .u8 y, .slice A8 pl.length c8, .int .u64 at2, .int .i64 n] (fun k => w7.heap.size ≤ k) (fun k => some k = (Value.slice A8 pl.length c8).ownBlock) rfl rfl ?aP ?aQ (fun k hk => Nat.le_trans (Nat.le_trans HII.out.size HS9.out) hk) (Kd.R_drew HO9.out) (below_drew (Below.refl _ _)) (Nat.le_trans HII.out.size HS9.out) ?aL ?_
      (case aP => exact k68_mkM _ _ _ (⟨(⟨x, y, pl⟩ : S44), at2, n⟩ : S68) (Kd.R_drew (Kd.R_lower (Kd.R_mono (Kd.R_tight rfl HV9.out) (fun _ h_ => h_)) HII.out.size)))
      (case aQ => exact (fun k hk => by have h1 := Kd.R_base HV9.out k hk.symm; have h2 := HII.out.size; exact ⟨by omega, fun e => by have h3 := Kd.R_lt HII.out.O k e.symm; omega⟩))
      (case aL => have h1 := HII.out.outs; have h2 := HII.out.len; have h3 := congrArg List.length HF.out; have h4 := HL.out; rw [List.length_append] at h3; omega)
      intro v10 w10 ho hb hgr hat2
      have HO10 := Aside0.mk ho
      have HGR10 : Aside0 (W9.grownBy w10 vo.ownBlock) := ⟨⟨hgr.os, hgr.tape, hgr.output, hgr.size, hgr.block⟩⟩
      clear ho hb hgr hat2
      refine hK.out _ _ ?_
      clear hK K
      refine norm_ (a' := ?_) ?_ ?_
      rotate_left
      · show Act.put _ (some 51) _ = _
        simp only [Act.put, List.setIfInBounds_toArray, List.set_cons_zero, List.set_cons_succ, i64_w, i32_w]
        rfl
      refine pure_ (i := 10) (N := some 6) (v := ?_) (a' := ?_) #[true, true, true, true, true, true, true, true, true, true, true] rfl rfl (any_of HT_.out (by kernel_rfl)) (fun _ _ _ h => h) (Or.inl ⟨by rfl, ?_⟩) ?_ ?_
      rotate_left
      · intro w'
        go_simp
        with_reducible rfl
      rotate_left
      · simp only [Act.put, List.setIfInBounds_toArray, List.set_cons_zero, List.set_cons_succ, i64_w, i32_w]
        rfl
      refine done_ (done_of HT_.out (by kernel_rfl)) ?_
      have HG10 := Aside0.mk (blk_grown HG9.out HGR10.out (Kd.R_ne HO9.out HG9.out (by decide)))
      have HF10 := Aside0.mk (blk_grown HF9.out HGR10.out (Kd.R_ne HO9.out HF9.out (by decide)))
      have hs0 : w10.cell? ⟨g, 0, none⟩ = some (.slice Ak kept.length ck) := (blk_cell HG10.out 0).trans rfl
      have hs1 : w10.cell? ⟨g, 1, none⟩ = some (.int .u64 at2) := (blk_cell HG10.out 1).trans rfl
      have hsf := blk_frozen HG10.out 1
      obtain ⟨nn, hn1, hn2, hn3, hn4⟩ := parF_ok HYl.out (show (parF l).2.2.2.2 = 0 by rw [HPA.out])
      have hnn : n = (nn : Int) := by rw [HPA.out] at hn1; exact hn1
      have HNN := Aside0.mk hnn
      have HN3 := Aside0.mk hn3
      have HN2 := Aside0.mk hn2
      obtain ⟨i05, hi05, _, hsz5, _⟩ := info_parts info5
      obtain ⟨A11, ys, hys, hcut, hD11, hc11⟩ := cutD2 (k := Kd.int .u8) rfl Try.underlying23 hi05 hsz5 (A := A10) (c := c10) (xs := l) hcl n nn hnn hn3
      have HYS := Aside0.mk hys
      have HD11 := Aside0.mk hD11
      have HC11 := Aside0.mk hc11
      have hb64 : n % 18446744073709551616 = n := by omega
      have hlm : at2 + (n : Int) < 18446744073709551616 := by
        have h1 := HII.out.lim
        have h2 := HAT.out
        have h3 := congrArg List.length HF.out
        have h4 := HL.out
        rw [List.length_append] at h3
        omega
      have hat0 := HII.out.at0
      have hs64 : (at2 + n) % 18446744073709551616 = at2 + n := by omega
      clear hn1 hn2 hn3 hn4 hnn hys hD11 hc11 hi05 hsz5 hlm
      go_wp2
      go_step3
      have hgl7 : g < w7.heap.size := Nat.lt_of_lt_of_le HPP.out.gl HPP.out.size
      refine ⟨rfl, ⟨g7, w7, AA, cA, HPP.out, v10, o ++ [(⟨(⟨x, y, pl⟩ : S44), at2, n⟩ : S68)], A11, c10 - nn, ys, at2 + n, .int .i64 n, .int .i64 0, _, _, _, _, _, _, _, _, _, _, _, _, _, _, _, _, _, _, _, _, _, _, _, _, _, _, _, _, _, _, _, _, _, _, _, _, _, _, _, _, _, _, _, _, _, _, _, _, _, _, _, _, _, _, _, _, _, _, _, _, _, _, _, _, _, _, rfl, ?_⟩, ?_⟩
      · refine ⟨blk_put HG10.out 1 _ rfl, ⟨x, y, A8, _, c8, blk_far HF10.out (Ne.symm hgg) _⟩, Kd.R_far HO10.out (fun k hk => ?_) _, ?_, ?_, ?_, fun W' h => HD11.out W' (HII.out.D W' h), HC11.out, ?_, ?_, ?_, ?_, ?_, ?_⟩
        · have h1 : w7.heap.size ≤ k := hk
          show k ≠ g
          omega
        · have h1 : (w10.setCell ⟨g, 1, none⟩ (.int .u64 (at2 + n))).heap.size = w10.heap.size := by simp [World.setCell]
          have h2 := HII.out.size
          have h3 := HS9.out
          have h4 := HGR10.out.size
          omega
        · intro k h1 h2 h3
          have h4 := HII.out.size
          have h5 := HS9.out
          rw [Below.heap_setCell _ _ _ _ h2, HGR10.out.block k (by omega) (fun e => by have h6 := Kd.R_base HII.out.O k e.symm; omega), HK9.out k h3, HB8.out.block k (by omega)]
          exact HII.out.keep k h1 h2 h3
        · have h4 := HII.out.size
          have h5 := HS9.out
          have h6 := HPP.out.size
          have h7 := HB0.out
          exact (HBL9.out.grown HGR10.out (by omega) (fun k hk => by have h6 := Kd.R_base HII.out.O k hk; omega)).setCell (p := ⟨g, 1, none⟩) HBG.out _
        · have h1 := HII.out.len
          rw [HYS.out, List.length_drop]
          omega
        · rw [HYS.out]
          exact HYl.out.drop nn
        · have h1 := HNN.out
          omega
        · have h1 := HII.out.lim
          have h2 := HNN.out
          have h3 := HN3.out
          rw [HYS.out, List.length_drop]
          omega
        · have h1 := HII.out.outs
          have h2 := HN2.out
          have h3 := HN3.out
          rw [HYS.out, List.length_drop, List.length_append]
          simp only [List.length_cons, List.length_nil]
          omega
        · rw [HII.out.tot, scan_go HYl.out (by rw [HPA.out]), HPA.out, HYS.out, HNN.out]
          simp
      · show ys.length < l.length
        have h1 := HYS.out
        have h2 := HN2.out
        have h3 := HN3.out
        rw [h1, List.length_drop]
        omega
    · have hne0 : (e == 0) = false := by simpa using he0
      by_cases he1 : e = 1
      · subst he1
        have hne1 : ((1:Int) == 0) = false := rfl
        go_wp2_with (first
          | ((with_reducible refine gate_builtin (b := .append) (xs := #[.tmp 67, .tmp 68]) rfl ?_); at_builtin; refine Kd.R_append_rows (Kd.int .u8) (w0 := W9) W9.heap.size rfl (.tmp 67) (.tmp 68) 23 5 (.int .u8 0) 1 rfl Try.underlying23 info5 rfl (by decide) (by omega) v10 [] l _ _ _ (fun _ => True) (fun _ => False) rfl rfl HO10.out (Kd.C_below HC9.out HB10.out) (fun _ _ h => h) (fun _ h => h.elim) (fun _ _ => trivial) HB10.out HB10.out.size (by have := HLl.out; simp only [List.length_nil]; omega) ?_; intro v11 w11 ho hb hgr hat2; simp only [List.nil_append] at ho; have HO11 := Aside0.mk ho; have HB11 := Aside0.mk hb; clear ho hb hgr hat2; obtain ⟨A11, c11, e11⟩ := Kd.R_slice HO11.out; subst e11; clear hs0 hs2 hsf0 hsf2; have HG11 := Aside0.mk (blk_below HG9.out HB11.out); have hs0 : w11.cell? ⟨g, 0, none⟩ = some (.slice Ak kept.length ck) := (blk_cell HG11.out 0).trans rfl; have hs2 : w11.cell? ⟨g, 2, none⟩ = some (.int .i64 0) := (blk_cell HG11.out 2).trans rfl; have hsf0 := blk_frozen HG11.out 0; have hsf2 := blk_frozen HG11.out 2)
          | ((with_reducible refine gate_dst (N := 67) rfl ?_); refine Kd.R_lit (Kd.int .u8) _ 5 ?hg (N := 67) ?hd (xs := ([] : List Int)) (inner := []) (ok := fun _ => True) (okp := fun _ => True) ?hr ?hp (fun _ hk => hk) trivial (Below.refl _ _) (Nat.le_refl _) (by simp) ?_; (case hd => rfl); (case hg => rfl); (case hr => first | (go_simp; done) | (go_simp; rfl)); (case hp => exact (Reps.none _ _)); intro v10 w10 ho hb hg_ hnew_; have HO10 := Aside0.mk ho; have HB10 := Aside0.mk hb; clear hg_ hnew_ ho hb)
          | (go_at_call 26; have hpar := parse_any A10 c10 l _ HCl.out hcl HYl.out HLl.out; rw [HPA.out] at hpar; dsimp only at hpar; refine hpar.mono ?_; clear hpar; rintro e w8 ⟨v8, rfl, ho, hb⟩; have HO8 := Aside0.mk ho; have HB8 := Aside0.mk hb; clear ho hb; obtain ⟨A8, c8, e8⟩ := Kd.R_slice HO8.out; subst e8; have HF8 := Aside0.mk (blk_below HF7.out HB8.out); have hy0 : w8.cell? ⟨g7, 0, none⟩ = some (.int .u8 fx) := (blk_cell HF8.out 0).trans rfl; have hy1 : w8.cell? ⟨g7, 1, none⟩ = some (.int .u8 fy) := (blk_cell HF8.out 1).trans rfl; have hy2 : w8.cell? ⟨g7, 2, none⟩ = some (.slice Af nf cf) := (blk_cell HF8.out 2).trans rfl; have hyf0 := blk_frozen HF8.out 0; have hyf1 := blk_frozen HF8.out 1; have hyf2 := blk_frozen HF8.out 2)
          | ((with_reducible refine gate_store (t := 40) (p := 7) rfl ?_); refine store_event (t := 40) (p := 7) (v := ?vo_w9) (w1 := (((w8.setCell ⟨g7, 0, none⟩ (.int .u8 x)).setCell ⟨g7, 1, none⟩ (.int .u8 y)).setCell ⟨g7, 2, none⟩ (.slice A8 pl.length c8))) ?hg ?ho ?hn ?hr ?_; (case ho => rfl); (case hg => rfl); (case hn => rfl); (case hr => first | (go_simp; done) | (go_simp; rfl)); intro W9 hW9; have hk9 : ∀ k, k ≠ g7 → W9.heap[k]? = w8.heap[k]? := (fun k hk => by rw [hW9, Below.heap_setCell _ _ _ _ hk, Below.heap_setCell _ _ _ _ hk, Below.heap_setCell _ _ _ _ hk]); have hgg : g ≠ g7 := (by have h1 := HPP.out.gl; have h2 := HPP.out.g7w; omega); have HGG := Aside0.mk hgg; have HK9 := Aside0.mk hk9; have HG9 : Aside0 (W9.heap[g]? = some (.cells #[.slice Ak kept.length ck, .int .u64 at2, .int .i64 0] 85 (0, 0))) := ⟨(hk9 g hgg).trans (blk_below HII.out.G HB8.out)⟩; have HS9 : Aside0 (W9.heap.size = w8.heap.size) := ⟨by rw [hW9]; simp [World.setCell]⟩; have hp3 := put3f (x := .int .u8 x) (y := .int .u8 y) (z := .slice A8 pl.length c8) HF8.out; have HBL9 : Aside0 (Below B0 w7 W9) := ⟨by rw [hW9]; exact (HII.out.bel.trans (HB8.out.mono (Nat.le_trans (Nat.le_trans HB0.out HPP.out.size) HII.out.size))).trans (hp3.2.mono (Nat.le_trans HB0.out HPP.out.g7w))⟩; have HC9 : Aside0 (Kd.C (Kd.int .u8) W9 A10 l.length l) := ⟨HII.out.D W9 (Kd.R_reads' (Kd.R_step (Kd.R_below HRW.out HB8.out) (fun k hk _ => hk9 k hk.2))).2.2⟩; clear hW9 hp3 hk9 hgg hy0 hy1 hy2 hyf0 hyf1 hyf2; have hs0 : W9.cell? ⟨g, 0, none⟩ = some (.slice Ak kept.length ck) := (blk_cell HG9.out 0).trans rfl; have hs2 : W9.cell? ⟨g, 2, none⟩ = some (.int .i64 0) := (blk_cell HG9.out 2).trans rfl; have hsf0 := blk_frozen HG9.out 0; have hsf2 := blk_frozen HG9.out 2))
        go_quiet (fail)
        rename_i K hK
        refine hK _ _ ?_
        clear hK K
        go_wp2
        go_ret2
        have ht := feed_tot HF.out HT.out HII.out.tot HPA.out he0
        rw [ht]
        have hgl : g < w7.heap.size := Nat.lt_of_lt_of_le HPP.out.gl HPP.out.size
        have hwr : wrOf (o, l, at2, 1) = 0 := rfl
        have hkp : keptOf (o, l, at2, 1) = l := rfl
        rw [hwr, hkp]
        have hs7 : w7.heap.size ≤ W9.heap.size := by have h1 := HS9.out; have h2 := HB8.out.size; have h3 := HII.out.size; omega
        refine ⟨vo, A11, c11, rfl, ⟨?_, ?_, ?_, ?_, ?_⟩⟩
        · exact blk_drewN (blk_put HG11.out 0 _ rfl) _
        · have h0 := Kd.R_mono (Kd.R_below (Kd.R_mono (Kd.R_bound (feed_row HPP.out HII.out HB8.out HK9.out)) (ok' := fun k => w7.heap.size ≤ k ∧ k < W9.heap.size) (fun k hk => ⟨hk.1, hk.2.2.1⟩)) (HB11.out.mono (Nat.le_refl _))) (ok' := fun k => w7.heap.size ≤ k ∧ some k ≠ (Value.slice A11 l.length c11).ownBlock) (fun k hk => ⟨hk.1, fun e => by have h2 := Kd.R_base HO11.out k e.symm; have h3 := hk.2; omega⟩)
          have h1 := Kd.R_far h0 (p := ⟨g, 0, none⟩) (fun k hk => by have h0 : w7.heap.size ≤ k := hk.1; show k ≠ g; omega) (.slice A11 l.length c11)
          exact Kd.R_step (Kd.R_mono h1 (fun k hk => ⟨Nat.le_trans HPP.out.size hk.1, hk.2⟩)) (fun _ _ _ => rfl)
        · have h0 := Kd.R_mono (Kd.R_bound HO11.out) (ok' := fun k => W9.heap.size ≤ k) (fun k hk => hk.2.1)
          have h1 := Kd.R_far h0 (p := ⟨g, 0, none⟩) (fun k hk => by have h0 : W9.heap.size ≤ k := hk; show k ≠ g; omega) (.slice A11 l.length c11)
          exact Kd.R_lower (Kd.R_step (Kd.R_mono h1 (fun _ _ => trivial)) (fun _ _ _ => rfl)) (Nat.le_trans HPP.out.size hs7)
        · intro k h1 h2 h3
          show (w11.setCell _ _).heap[k]? = _
          have h4 := HPP.out.size
          rw [Below.heap_setCell _ _ _ _ h2, HB11.out.block k (by omega)]
          exact feed_keep HPP.out HII.out HB8.out HK9.out k h1 h2 h3
        · exact pw_below_drewN (((HPP.out.bel.trans HBL9.out).trans (HB11.out.mono (Nat.le_trans (Nat.le_trans HB0.out HPP.out.size) hs7))).setCell (p := ⟨g, 0, none⟩) HBG.out _) _
      · have hne1 : (e == 1) = false := by simpa using he1
        go_wp2_with (first
          | (go_at_call 26; have hpar := parse_any A10 c10 l _ HCl.out hcl HYl.out HLl.out; rw [HPA.out] at hpar; dsimp only at hpar; refine hpar.mono ?_; clear hpar; rintro e w8 ⟨v8, rfl, ho, hb⟩; have HO8 := Aside0.mk ho; have HB8 := Aside0.mk hb; clear ho hb; obtain ⟨A8, c8, e8⟩ := Kd.R_slice HO8.out; subst e8; have HF8 := Aside0.mk (blk_below HF7.out HB8.out); have hy0 : w8.cell? ⟨g7, 0, none⟩ = some (.int .u8 fx) := (blk_cell HF8.out 0).trans rfl; have hy1 : w8.cell? ⟨g7, 1, none⟩ = some (.int .u8 fy) := (blk_cell HF8.out 1).trans rfl; have hy2 : w8.cell? ⟨g7, 2, none⟩ = some (.slice Af nf cf) := (blk_cell HF8.out 2).trans rfl; have hyf0 := blk_frozen HF8.out 0; have hyf1 := blk_frozen HF8.out 1; have hyf2 := blk_frozen HF8.out 2)
          | ((with_reducible refine gate_store (t := 40) (p := 7) rfl ?_); refine store_event (t := 40) (p := 7) (v := ?vo_w9) (w1 := (((w8.setCell ⟨g7, 0, none⟩ (.int .u8 x)).setCell ⟨g7, 1, none⟩ (.int .u8 y)).setCell ⟨g7, 2, none⟩ (.slice A8 pl.length c8))) ?hg ?ho ?hn ?hr ?_; (case ho => rfl); (case hg => rfl); (case hn => rfl); (case hr => first | (go_simp; done) | (go_simp; rfl)); intro W9 hW9; have hk9 : ∀ k, k ≠ g7 → W9.heap[k]? = w8.heap[k]? := (fun k hk => by rw [hW9, Below.heap_setCell _ _ _ _ hk, Below.heap_setCell _ _ _ _ hk, Below.heap_setCell _ _ _ _ hk]); have hgg : g ≠ g7 := (by have h1 := HPP.out.gl; have h2 := HPP.out.g7w; omega); have HGG := Aside0.mk hgg; have HK9 := Aside0.mk hk9; have HG9 : Aside0 (W9.heap[g]? = some (.cells #[.slice Ak kept.length ck, .int .u64 at2, .int .i64 0] 85 (0, 0))) := ⟨(hk9 g hgg).trans (blk_below HII.out.G HB8.out)⟩; have HS9 : Aside0 (W9.heap.size = w8.heap.size) := ⟨by rw [hW9]; simp [World.setCell]⟩; have hp3 := put3f (x := .int .u8 x) (y := .int .u8 y) (z := .slice A8 pl.length c8) HF8.out; have HBL9 : Aside0 (Below B0 w7 W9) := ⟨by rw [hW9]; exact (HII.out.bel.trans (HB8.out.mono (Nat.le_trans (Nat.le_trans HB0.out HPP.out.size) HII.out.size))).trans (hp3.2.mono (Nat.le_trans HB0.out HPP.out.g7w))⟩; have HC9 : Aside0 (Kd.C (Kd.int .u8) W9 A10 l.length l) := ⟨HII.out.D W9 (Kd.R_reads' (Kd.R_step (Kd.R_below HRW.out HB8.out) (fun k hk _ => hk9 k hk.2))).2.2⟩; clear hW9 hp3 hk9 hgg hy0 hy1 hy2 hyf0 hyf1 hyf2; have hs0 : W9.cell? ⟨g, 0, none⟩ = some (.slice Ak kept.length ck) := (blk_cell HG9.out 0).trans rfl; have hs2 : W9.cell? ⟨g, 2, none⟩ = some (.int .i64 0) := (blk_cell HG9.out 2).trans rfl; have hsf0 := blk_frozen HG9.out 0; have hsf2 := blk_frozen HG9.out 2))
        go_quiet (fail)
        rename_i K hK
        refine hK _ _ ?_
        clear hK K
        go_wp2
        go_ret2
        have ht := feed_tot HF.out HT.out HII.out.tot HPA.out he0
        rw [ht]
        have hgl : g < w7.heap.size := Nat.lt_of_lt_of_le HPP.out.gl HPP.out.size
        have hwr : wrOf (o, l, at2, e) = e := if_neg he1
        have hkp : keptOf (o, l, at2, e) = [] := if_neg he1
        rw [hwr, hkp]
        refine ⟨vo, none, 0, rfl, ⟨?_, ?_, Kd.R_nil _ _ _ _ _, ?_, ?_⟩⟩
        · exact blk_drewN (blk_put (blk_put HG9.out 2 _ rfl) 0 _ rfl) _
        · have h1 := Kd.R_far (Kd.R_far (feed_row HPP.out HII.out HB8.out HK9.out) (p := ⟨g, 2, none⟩) (fun k hk => by have h0 : w7.heap.size ≤ k := hk; show k ≠ g; omega) (.int .i64 e)) (p := ⟨g, 0, none⟩) (fun k hk => by have h0 : w7.heap.size ≤ k := hk; show k ≠ g; omega) (.slice none 0 0)
          exact Kd.R_step (Kd.R_mono h1 (fun k hk => ⟨Nat.le_trans HPP.out.size hk, by simp [Value.ownBlock]⟩)) (fun _ _ _ => rfl)
        · intro k h1 h2 h3
          show ((W9.setCell _ _).setCell _ _).heap[k]? = _
          rw [Below.heap_setCell _ _ _ _ h2, Below.heap_setCell _ _ _ _ h2]
          exact feed_keep HPP.out HII.out HB8.out HK9.out k h1 h2 h3
        · exact pw_below_drewN (((HPP.out.bel.trans HBL9.out).setCell (p := ⟨g, 2, none⟩) HBG.out _).setCell (p := ⟨g, 0, none⟩) HBG.out _) _
set_option maxHeartbeats 4000000 in
set_option maxRecDepth 100000 in
/-- What is wrong stays so. -/
theorem feed_stopped (g : Nat) (Ak : Option Addr) (nk ck : Nat) (at_ wr : Int) (A : Option Addr) (n c : Nat) (w : World) (hG : w.heap[g]? = some (.cells #[.slice Ak nk ck, .int .u64 at_, .int .i64 wr] 85 (0, 0))) (hwr : wr ≠ 0) :
    Calls Try.prog 36 #[.pointer (some ⟨g, 0, none⟩), .slice A n c] w fun e w' => e = .returned (.tuple #[.slice none 0 0, .int .i64 wr]) ∧ ∃ m, w' = w.drewN m := by
  have hs2 : w.cell? ⟨g, 2, none⟩ = some (.int .i64 wr) := (blk_cell hG 2).trans rfl
  have HG := Aside0.mk hG
  have hu85 := Try.underlying85
  have hn0 : (wr == 0) = false := by simpa using hwr
  have hn1 : (wr != 0) = true := by simpa using hwr
  clear hG
  go_enter Try.func36, Try.ntmps36
  go_wp2
  go_step3
  go_wp2
  go_quiet (fail)
  go_wp2
  try rw [Exit.noGoto_ret]
  go_ret2
  exact ⟨rfl, nq, rfl⟩
end Go.Proofs.Ytonbphiaideleaa.M
