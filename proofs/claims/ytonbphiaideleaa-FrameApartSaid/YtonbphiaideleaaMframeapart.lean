/- lacunalaw04.FrameApart: the walk. -/
import Derived.Test.YtonbphiaideleaaMframeback
namespace Go.Proofs.Ytonbphiaideleaa.M
open Go.RowKit Go.Proofs.YtonbphiaideleaaW.PrintWords Go.Proofs.YtonbphiaideleaaW.PrintLast Go.Proofs.YtonbphiaideleaaW.PrintMore
set_option linter.unusedVariables false
set_option linter.unusedSimpArgs false
def frameapart_T5 : Bool × List (List Nat × List Nat) := (true, [([], []), ([0], [0]), ([1], [1]), ([2], [2]), ([3, 2], [2, 3]), ([2, 4], [2, 4]), ([5, 2], [5]), ([6], [6]), ([7, 6], [6, 7]), ([6], [6]), ([9, 6], [6, 9]), ([8, 10, 6], [6, 8, 10]), ([6], [6]), ([6], [6]), ([12, 13, 6, 6], [6, 12, 13]), ([11, 14, 6], [6, 11, 14]), ([6, 15], [6, 15])])
def frameapart_B5 : List Nat := [0, 1, 3, 7, 15, 31, 63, 127, 255, 127, 639, 2047, 127, 127, 12415, 32767, 65535]
theorem frameapart_tab5 : rtab .any (opsOf Try.f11 5) = frameapart_T5 := by kernel_rfl
theorem frameapart_bits5 : waitsOk frameapart_T5.2 frameapart_B5 = true := by kernel_rfl
def frameapart_T8 : Bool × List (List Nat × List Nat) := (true, [([], []), ([0], [0]), ([1], [1]), ([2], [2]), ([2], [2]), ([4, 2], [2, 4]), ([3, 5, 2], [2, 3, 5]), ([2, 6], [2, 6]), ([7, 2], [7]), ([8], [8]), ([9, 8, 8], [8, 9]), ([8], [8]), ([10, 11, 10, 8], [8, 10, 11]), ([12, 8], [8, 12]), ([8, 13], [8, 13])])
def frameapart_B8 : List Nat := [0, 1, 3, 7, 7, 23, 63, 127, 255, 511, 1023, 511, 4095, 8191, 16383]
theorem frameapart_tab8 : rtab .any (opsOf Try.f11 8) = frameapart_T8 := by kernel_rfl
theorem frameapart_bits8 : waitsOk frameapart_T8.2 frameapart_B8 = true := by kernel_rfl
def frameapart_T11 : Bool × List (List Nat × List Nat) := (true, [([], []), ([0], [0]), ([1], [1]), ([2], [2]), ([2], [2]), ([4, 2], [2, 4]), ([3, 5, 2], [2, 3, 5]), ([2, 6], [2, 6]), ([7, 2], [7]), ([8], [8]), ([9, 8, 8], [8, 9]), ([8], [8]), ([10, 11, 10, 8], [8, 10, 11]), ([8, 12], [8, 12]), ([13, 12], [13]), ([14, 14], [14]), ([14, 15], [14, 15]), ([16, 15, 0, 1, 2, 3, 4, 5, 6, 7, 8, 9, 10, 11, 12, 13, 14, 15, 16], [16])])
def frameapart_B11 : List Nat := [0, 1, 3, 7, 7, 23, 63, 127, 255, 511, 1023, 511, 4095, 8191, 16383, 32767, 65535, 131071]
theorem frameapart_tab11 : rtab .any (opsOf Try.f11 11) = frameapart_T11 := by kernel_rfl
theorem frameapart_bits11 : waitsOk frameapart_T11.2 frameapart_B11 = true := by kernel_rfl
set_option maxHeartbeats 8000000 in
set_option maxRecDepth 100000 in
theorem frameapart_A (x y : Int) (A : Option Addr) (c : Nat) (l : List Int) (u v : Int) (Ag : Option Addr) (cg : Nat) (m : List Int) (w : World) (hr : Kd.C (Kd.int .u8) w A l.length l) (hc : l.length ≤ c) (hb : Byt l) (hr2 : Kd.C (Kd.int .u8) w Ag m.length m) (hc2 : m.length ≤ cg) (hb2 : Byt m) (r : Int) (he : rightF x y l = r) (hz : (r == 0) = false) :
    Calls Try.prog 11 #[.agg #[.int .u8 x, .int .u8 y, .slice A l.length c], .agg #[.int .u8 u, .int .u8 v, .slice Ag m.length cg]] w fun e w' => e = .returned (.bool true) ∧ Below w.heap.size w w' := by
  have hu44 := Try.underlying44
  have HR := Aside0.mk hr
  have HRg := Aside0.mk hr2
  have HE := Aside0.mk he
  have hzz : (r != 0) = true := by rw [bne, hz]; rfl
  clear he
  clear hr hb hr2 hb2
  go_enter Try.func11, Try.ntmps11
  go_wp2_with (first
    | ((with_reducible refine gate_dst (N := 2) rfl ?_); refine box_event ?hg (N := 2) ?hd (cs := #[.int .u8 x, .int .u8 y, .slice A l.length c]) (t := 44) ?hr ?_; (case hd => rfl); (case hg => rfl); (case hr => first | (go_simp; done) | (go_simp; rfl)); intro g2 hg w0 hbox hbb; have HB0 := Aside0.mk hbb; have HG20 := Aside0.mk hbox; clear hbox hbb hg)
    | ((with_reducible refine gate_dst (N := 3) rfl ?_); refine box_event ?hg (N := 3) ?hd (cs := #[.int .u8 u, .int .u8 v, .slice Ag m.length cg]) (t := 44) ?hr ?_; (case hd => rfl); (case hg => rfl); (case hr => first | (go_simp; done) | (go_simp; rfl)); intro g3 hg w1 hbox hbb; have HB1 := Aside0.mk (below_step HB0.out hbb); have HG21 := Aside0.mk (blk_below HG20.out hbb); have HG31 := Aside0.mk hbox; have ha0 : w1.cell? ⟨g2, 0, none⟩ = some (.int .u8 x) := (blk_cell HG21.out 0).trans rfl; have ha1 : w1.cell? ⟨g2, 1, none⟩ = some (.int .u8 y) := (blk_cell HG21.out 1).trans rfl; have ha2 : w1.cell? ⟨g2, 2, none⟩ = some (.slice A l.length c) := (blk_cell HG21.out 2).trans rfl; have hz0 : w1.cell? ⟨g3, 0, none⟩ = some (.int .u8 u) := (blk_cell HG31.out 0).trans rfl; have hz1 : w1.cell? ⟨g3, 1, none⟩ = some (.int .u8 v) := (blk_cell HG31.out 1).trans rfl; have hz2 : w1.cell? ⟨g3, 2, none⟩ = some (.slice Ag m.length cg) := (blk_cell HG31.out 2).trans rfl; clear hbox hbb hg)
    | (go_at_call 31; (refine (refright_any x y _ _ l _ (Kd.C_below HR.out HB1.out) hc).mono ?_; rw [HE.out]; rintro e w2 ⟨rfl, hb⟩; have HB2 := Aside0.mk (below_step HB1.out hb); have HG22 := Aside0.mk (blk_below HG21.out hb); have HG32 := Aside0.mk (blk_below HG31.out hb); clear hb; clear ha0 ha1 ha2 hz0 hz1 hz2; have ha0 : w2.cell? ⟨g2, 0, none⟩ = some (.int .u8 x) := (blk_cell HG22.out 0).trans rfl; have ha1 : w2.cell? ⟨g2, 1, none⟩ = some (.int .u8 y) := (blk_cell HG22.out 1).trans rfl; have ha2 : w2.cell? ⟨g2, 2, none⟩ = some (.slice A l.length c) := (blk_cell HG22.out 2).trans rfl; have hz0 : w2.cell? ⟨g3, 0, none⟩ = some (.int .u8 u) := (blk_cell HG32.out 0).trans rfl; have hz1 : w2.cell? ⟨g3, 1, none⟩ = some (.int .u8 v) := (blk_cell HG32.out 1).trans rfl; have hz2 : w2.cell? ⟨g3, 2, none⟩ = some (.slice Ag m.length cg) := (blk_cell HG32.out 2).trans rfl)))
  go_ret
  exact ⟨rfl, HB2.out⟩

set_option maxHeartbeats 8000000 in
set_option maxRecDepth 100000 in
theorem frameapart_B (x y : Int) (A : Option Addr) (c : Nat) (l : List Int) (u v : Int) (Ag : Option Addr) (cg : Nat) (m : List Int) (w : World) (hr : Kd.C (Kd.int .u8) w A l.length l) (hc : l.length ≤ c) (hb : Byt l) (hr2 : Kd.C (Kd.int .u8) w Ag m.length m) (hc2 : m.length ≤ cg) (hb2 : Byt m) (he : rightF x y l = 0) (r : Int) (heg : rightF u v m = r) (hz : (r == 0) = false) :
    Calls Try.prog 11 #[.agg #[.int .u8 x, .int .u8 y, .slice A l.length c], .agg #[.int .u8 u, .int .u8 v, .slice Ag m.length cg]] w fun e w' => e = .returned (.bool true) ∧ Below w.heap.size w w' := by
  have hu44 := Try.underlying44
  have HR := Aside0.mk hr
  have HRg := Aside0.mk hr2
  have HE := Aside0.mk he
  have HEg := Aside0.mk heg
  have hzz : (r != 0) = true := by rw [bne, hz]; rfl
  clear he heg
  clear hr hb hr2 hb2
  go_enter Try.func11, Try.ntmps11
  go_wp2_with (first
    | ((with_reducible refine gate_dst (N := 2) rfl ?_); refine box_event ?hg (N := 2) ?hd (cs := #[.int .u8 x, .int .u8 y, .slice A l.length c]) (t := 44) ?hr ?_; (case hd => rfl); (case hg => rfl); (case hr => first | (go_simp; done) | (go_simp; rfl)); intro g2 hg w0 hbox hbb; have HB0 := Aside0.mk hbb; have HG20 := Aside0.mk hbox; clear hbox hbb hg)
    | ((with_reducible refine gate_dst (N := 3) rfl ?_); refine box_event ?hg (N := 3) ?hd (cs := #[.int .u8 u, .int .u8 v, .slice Ag m.length cg]) (t := 44) ?hr ?_; (case hd => rfl); (case hg => rfl); (case hr => first | (go_simp; done) | (go_simp; rfl)); intro g3 hg w1 hbox hbb; have HB1 := Aside0.mk (below_step HB0.out hbb); have HG21 := Aside0.mk (blk_below HG20.out hbb); have HG31 := Aside0.mk hbox; have ha0 : w1.cell? ⟨g2, 0, none⟩ = some (.int .u8 x) := (blk_cell HG21.out 0).trans rfl; have ha1 : w1.cell? ⟨g2, 1, none⟩ = some (.int .u8 y) := (blk_cell HG21.out 1).trans rfl; have ha2 : w1.cell? ⟨g2, 2, none⟩ = some (.slice A l.length c) := (blk_cell HG21.out 2).trans rfl; have hz0 : w1.cell? ⟨g3, 0, none⟩ = some (.int .u8 u) := (blk_cell HG31.out 0).trans rfl; have hz1 : w1.cell? ⟨g3, 1, none⟩ = some (.int .u8 v) := (blk_cell HG31.out 1).trans rfl; have hz2 : w1.cell? ⟨g3, 2, none⟩ = some (.slice Ag m.length cg) := (blk_cell HG31.out 2).trans rfl; clear hbox hbb hg)
    | (go_at_call 31; (refine (refright_any u v _ _ m _ (Kd.C_below HRg.out HB2.out) hc2).mono ?_; rw [HEg.out]; rintro e w3 ⟨rfl, hb⟩; have HB3 := Aside0.mk (below_step HB2.out hb); have HG23 := Aside0.mk (blk_below HG22.out hb); have HG33 := Aside0.mk (blk_below HG32.out hb); clear hb; clear ha0 ha1 ha2 hz0 hz1 hz2; have ha0 : w3.cell? ⟨g2, 0, none⟩ = some (.int .u8 x) := (blk_cell HG23.out 0).trans rfl; have ha1 : w3.cell? ⟨g2, 1, none⟩ = some (.int .u8 y) := (blk_cell HG23.out 1).trans rfl; have ha2 : w3.cell? ⟨g2, 2, none⟩ = some (.slice A l.length c) := (blk_cell HG23.out 2).trans rfl; have hz0 : w3.cell? ⟨g3, 0, none⟩ = some (.int .u8 u) := (blk_cell HG33.out 0).trans rfl; have hz1 : w3.cell? ⟨g3, 1, none⟩ = some (.int .u8 v) := (blk_cell HG33.out 1).trans rfl; have hz2 : w3.cell? ⟨g3, 2, none⟩ = some (.slice Ag m.length cg) := (blk_cell HG33.out 2).trans rfl))
    | (go_at_call 31; (refine (refright_any x y _ _ l _ (Kd.C_below HR.out HB1.out) hc).mono ?_; rw [HE.out]; rintro e w2 ⟨rfl, hb⟩; have HB2 := Aside0.mk (below_step HB1.out hb); have HG22 := Aside0.mk (blk_below HG21.out hb); have HG32 := Aside0.mk (blk_below HG31.out hb); clear hb; clear ha0 ha1 ha2 hz0 hz1 hz2; have ha0 : w2.cell? ⟨g2, 0, none⟩ = some (.int .u8 x) := (blk_cell HG22.out 0).trans rfl; have ha1 : w2.cell? ⟨g2, 1, none⟩ = some (.int .u8 y) := (blk_cell HG22.out 1).trans rfl; have ha2 : w2.cell? ⟨g2, 2, none⟩ = some (.slice A l.length c) := (blk_cell HG22.out 2).trans rfl; have hz0 : w2.cell? ⟨g3, 0, none⟩ = some (.int .u8 u) := (blk_cell HG32.out 0).trans rfl; have hz1 : w2.cell? ⟨g3, 1, none⟩ = some (.int .u8 v) := (blk_cell HG32.out 1).trans rfl; have hz2 : w2.cell? ⟨g3, 2, none⟩ = some (.slice Ag m.length cg) := (blk_cell HG32.out 2).trans rfl)))
  go_ret
  exact ⟨rfl, HB3.out⟩

set_option maxHeartbeats 8000000 in
set_option maxRecDepth 100000 in
theorem frameapart_C (x y : Int) (A : Option Addr) (c : Nat) (l : List Int) (u v : Int) (Ag : Option Addr) (cg : Nat) (m : List Int) (w : World) (hr : Kd.C (Kd.int .u8) w A l.length l) (hc : l.length ≤ c) (hb : Byt l) (hr2 : Kd.C (Kd.int .u8) w Ag m.length m) (hc2 : m.length ≤ cg) (hb2 : Byt m) (he : rightF x y l = 0) (heg : rightF u v m = 0) (hn : 300 < l.length) :
    Calls Try.prog 11 #[.agg #[.int .u8 x, .int .u8 y, .slice A l.length c], .agg #[.int .u8 u, .int .u8 v, .slice Ag m.length cg]] w fun e w' => e = .returned (.bool true) ∧ Below w.heap.size w w' := by
  have hu44 := Try.underlying44
  have HR := Aside0.mk hr
  have HRg := Aside0.mk hr2
  have HE := Aside0.mk he
  have HEg := Aside0.mk heg
  have hda1 : decide ((300 : Int) < (l.length : Int)) = true := by simp; omega
  have hda2 : decide (300 < l.length) = true := by simp; omega
  clear he heg hn
  clear hr hb hr2 hb2
  go_enter Try.func11, Try.ntmps11
  go_wp2_with (first
    | ((with_reducible refine gate_dst (N := 2) rfl ?_); refine box_event ?hg (N := 2) ?hd (cs := #[.int .u8 x, .int .u8 y, .slice A l.length c]) (t := 44) ?hr ?_; (case hd => rfl); (case hg => rfl); (case hr => first | (go_simp; done) | (go_simp; rfl)); intro g2 hg w0 hbox hbb; have HB0 := Aside0.mk hbb; have HG20 := Aside0.mk hbox; clear hbox hbb hg)
    | ((with_reducible refine gate_dst (N := 3) rfl ?_); refine box_event ?hg (N := 3) ?hd (cs := #[.int .u8 u, .int .u8 v, .slice Ag m.length cg]) (t := 44) ?hr ?_; (case hd => rfl); (case hg => rfl); (case hr => first | (go_simp; done) | (go_simp; rfl)); intro g3 hg w1 hbox hbb; have HB1 := Aside0.mk (below_step HB0.out hbb); have HG21 := Aside0.mk (blk_below HG20.out hbb); have HG31 := Aside0.mk hbox; have ha0 : w1.cell? ⟨g2, 0, none⟩ = some (.int .u8 x) := (blk_cell HG21.out 0).trans rfl; have ha1 : w1.cell? ⟨g2, 1, none⟩ = some (.int .u8 y) := (blk_cell HG21.out 1).trans rfl; have ha2 : w1.cell? ⟨g2, 2, none⟩ = some (.slice A l.length c) := (blk_cell HG21.out 2).trans rfl; have hz0 : w1.cell? ⟨g3, 0, none⟩ = some (.int .u8 u) := (blk_cell HG31.out 0).trans rfl; have hz1 : w1.cell? ⟨g3, 1, none⟩ = some (.int .u8 v) := (blk_cell HG31.out 1).trans rfl; have hz2 : w1.cell? ⟨g3, 2, none⟩ = some (.slice Ag m.length cg) := (blk_cell HG31.out 2).trans rfl; clear hbox hbb hg)
    | (go_at_call 31; (refine (refright_any u v _ _ m _ (Kd.C_below HRg.out HB2.out) hc2).mono ?_; rw [HEg.out]; rintro e w3 ⟨rfl, hb⟩; have HB3 := Aside0.mk (below_step HB2.out hb); have HG23 := Aside0.mk (blk_below HG22.out hb); have HG33 := Aside0.mk (blk_below HG32.out hb); clear hb; clear ha0 ha1 ha2 hz0 hz1 hz2; have ha0 : w3.cell? ⟨g2, 0, none⟩ = some (.int .u8 x) := (blk_cell HG23.out 0).trans rfl; have ha1 : w3.cell? ⟨g2, 1, none⟩ = some (.int .u8 y) := (blk_cell HG23.out 1).trans rfl; have ha2 : w3.cell? ⟨g2, 2, none⟩ = some (.slice A l.length c) := (blk_cell HG23.out 2).trans rfl; have hz0 : w3.cell? ⟨g3, 0, none⟩ = some (.int .u8 u) := (blk_cell HG33.out 0).trans rfl; have hz1 : w3.cell? ⟨g3, 1, none⟩ = some (.int .u8 v) := (blk_cell HG33.out 1).trans rfl; have hz2 : w3.cell? ⟨g3, 2, none⟩ = some (.slice Ag m.length cg) := (blk_cell HG33.out 2).trans rfl))
    | (go_at_call 31; (refine (refright_any x y _ _ l _ (Kd.C_below HR.out HB1.out) hc).mono ?_; rw [HE.out]; rintro e w2 ⟨rfl, hb⟩; have HB2 := Aside0.mk (below_step HB1.out hb); have HG22 := Aside0.mk (blk_below HG21.out hb); have HG32 := Aside0.mk (blk_below HG31.out hb); clear hb; clear ha0 ha1 ha2 hz0 hz1 hz2; have ha0 : w2.cell? ⟨g2, 0, none⟩ = some (.int .u8 x) := (blk_cell HG22.out 0).trans rfl; have ha1 : w2.cell? ⟨g2, 1, none⟩ = some (.int .u8 y) := (blk_cell HG22.out 1).trans rfl; have ha2 : w2.cell? ⟨g2, 2, none⟩ = some (.slice A l.length c) := (blk_cell HG22.out 2).trans rfl; have hz0 : w2.cell? ⟨g3, 0, none⟩ = some (.int .u8 u) := (blk_cell HG32.out 0).trans rfl; have hz1 : w2.cell? ⟨g3, 1, none⟩ = some (.int .u8 v) := (blk_cell HG32.out 1).trans rfl; have hz2 : w2.cell? ⟨g3, 2, none⟩ = some (.slice Ag m.length cg) := (blk_cell HG32.out 2).trans rfl)))
  go_ret
  exact ⟨rfl, HB3.out⟩

set_option maxHeartbeats 8000000 in
set_option maxRecDepth 100000 in
theorem frameapart_D (x y : Int) (A : Option Addr) (c : Nat) (l : List Int) (u v : Int) (Ag : Option Addr) (cg : Nat) (m : List Int) (w : World) (hr : Kd.C (Kd.int .u8) w A l.length l) (hc : l.length ≤ c) (hb : Byt l) (hr2 : Kd.C (Kd.int .u8) w Ag m.length m) (hc2 : m.length ≤ cg) (hb2 : Byt m) (he : rightF x y l = 0) (heg : rightF u v m = 0) (hn : l.length ≤ 300) (hn2 : 300 < m.length) :
    Calls Try.prog 11 #[.agg #[.int .u8 x, .int .u8 y, .slice A l.length c], .agg #[.int .u8 u, .int .u8 v, .slice Ag m.length cg]] w fun e w' => e = .returned (.bool true) ∧ Below w.heap.size w w' := by
  have hu44 := Try.underlying44
  have HR := Aside0.mk hr
  have HRg := Aside0.mk hr2
  have HE := Aside0.mk he
  have HEg := Aside0.mk heg
  have hda1 : decide ((300 : Int) < (l.length : Int)) = false := by simp; omega
  have hda2 : decide (300 < l.length) = false := by simp; omega
  have hdb1 : decide ((300 : Int) < (m.length : Int)) = true := by simp; omega
  have hdb2 : decide (300 < m.length) = true := by simp; omega
  clear he heg hn hn2
  clear hr hb hr2 hb2
  go_enter Try.func11, Try.ntmps11
  go_wp2_with (first
    | ((with_reducible refine gate_dst (N := 2) rfl ?_); refine box_event ?hg (N := 2) ?hd (cs := #[.int .u8 x, .int .u8 y, .slice A l.length c]) (t := 44) ?hr ?_; (case hd => rfl); (case hg => rfl); (case hr => first | (go_simp; done) | (go_simp; rfl)); intro g2 hg w0 hbox hbb; have HB0 := Aside0.mk hbb; have HG20 := Aside0.mk hbox; clear hbox hbb hg)
    | ((with_reducible refine gate_dst (N := 3) rfl ?_); refine box_event ?hg (N := 3) ?hd (cs := #[.int .u8 u, .int .u8 v, .slice Ag m.length cg]) (t := 44) ?hr ?_; (case hd => rfl); (case hg => rfl); (case hr => first | (go_simp; done) | (go_simp; rfl)); intro g3 hg w1 hbox hbb; have HB1 := Aside0.mk (below_step HB0.out hbb); have HG21 := Aside0.mk (blk_below HG20.out hbb); have HG31 := Aside0.mk hbox; have ha0 : w1.cell? ⟨g2, 0, none⟩ = some (.int .u8 x) := (blk_cell HG21.out 0).trans rfl; have ha1 : w1.cell? ⟨g2, 1, none⟩ = some (.int .u8 y) := (blk_cell HG21.out 1).trans rfl; have ha2 : w1.cell? ⟨g2, 2, none⟩ = some (.slice A l.length c) := (blk_cell HG21.out 2).trans rfl; have hz0 : w1.cell? ⟨g3, 0, none⟩ = some (.int .u8 u) := (blk_cell HG31.out 0).trans rfl; have hz1 : w1.cell? ⟨g3, 1, none⟩ = some (.int .u8 v) := (blk_cell HG31.out 1).trans rfl; have hz2 : w1.cell? ⟨g3, 2, none⟩ = some (.slice Ag m.length cg) := (blk_cell HG31.out 2).trans rfl; clear hbox hbb hg)
    | (go_at_call 31; (refine (refright_any u v _ _ m _ (Kd.C_below HRg.out HB2.out) hc2).mono ?_; rw [HEg.out]; rintro e w3 ⟨rfl, hb⟩; have HB3 := Aside0.mk (below_step HB2.out hb); have HG23 := Aside0.mk (blk_below HG22.out hb); have HG33 := Aside0.mk (blk_below HG32.out hb); clear hb; clear ha0 ha1 ha2 hz0 hz1 hz2; have ha0 : w3.cell? ⟨g2, 0, none⟩ = some (.int .u8 x) := (blk_cell HG23.out 0).trans rfl; have ha1 : w3.cell? ⟨g2, 1, none⟩ = some (.int .u8 y) := (blk_cell HG23.out 1).trans rfl; have ha2 : w3.cell? ⟨g2, 2, none⟩ = some (.slice A l.length c) := (blk_cell HG23.out 2).trans rfl; have hz0 : w3.cell? ⟨g3, 0, none⟩ = some (.int .u8 u) := (blk_cell HG33.out 0).trans rfl; have hz1 : w3.cell? ⟨g3, 1, none⟩ = some (.int .u8 v) := (blk_cell HG33.out 1).trans rfl; have hz2 : w3.cell? ⟨g3, 2, none⟩ = some (.slice Ag m.length cg) := (blk_cell HG33.out 2).trans rfl))
    | (go_at_call 31; (refine (refright_any x y _ _ l _ (Kd.C_below HR.out HB1.out) hc).mono ?_; rw [HE.out]; rintro e w2 ⟨rfl, hb⟩; have HB2 := Aside0.mk (below_step HB1.out hb); have HG22 := Aside0.mk (blk_below HG21.out hb); have HG32 := Aside0.mk (blk_below HG31.out hb); clear hb; clear ha0 ha1 ha2 hz0 hz1 hz2; have ha0 : w2.cell? ⟨g2, 0, none⟩ = some (.int .u8 x) := (blk_cell HG22.out 0).trans rfl; have ha1 : w2.cell? ⟨g2, 1, none⟩ = some (.int .u8 y) := (blk_cell HG22.out 1).trans rfl; have ha2 : w2.cell? ⟨g2, 2, none⟩ = some (.slice A l.length c) := (blk_cell HG22.out 2).trans rfl; have hz0 : w2.cell? ⟨g3, 0, none⟩ = some (.int .u8 u) := (blk_cell HG32.out 0).trans rfl; have hz1 : w2.cell? ⟨g3, 1, none⟩ = some (.int .u8 v) := (blk_cell HG32.out 1).trans rfl; have hz2 : w2.cell? ⟨g3, 2, none⟩ = some (.slice Ag m.length cg) := (blk_cell HG32.out 2).trans rfl)))
  go_ret
  exact ⟨rfl, HB3.out⟩

set_option maxHeartbeats 8000000 in
set_option maxRecDepth 100000 in
theorem frameapart_E (x y : Int) (A : Option Addr) (c : Nat) (l : List Int) (u v : Int) (Ag : Option Addr) (cg : Nat) (m : List Int) (w : World) (hr : Kd.C (Kd.int .u8) w A l.length l) (hc : l.length ≤ c) (hb : Byt l) (hr2 : Kd.C (Kd.int .u8) w Ag m.length m) (hc2 : m.length ≤ cg) (hb2 : Byt m) (he : rightF x y l = 0) (heg : rightF u v m = 0) (hn : l.length ≤ 300) (hn2 : m.length ≤ 300) :
    Calls Try.prog 11 #[.agg #[.int .u8 x, .int .u8 y, .slice A l.length c], .agg #[.int .u8 u, .int .u8 v, .slice Ag m.length cg]] w fun e w' => e = .returned (.bool true) ∧ Below w.heap.size w w' := by
  have hu44 := Try.underlying44
  have hu40 := Try.underlying40
  have HR := Aside0.mk hr
  have HRg := Aside0.mk hr2
  have HE := Aside0.mk he
  have HEg := Aside0.mk heg
  have HY := Aside0.mk hb
  have HYg := Aside0.mk hb2
  have hda1 : decide ((300 : Int) < (l.length : Int)) = false := by simp; omega
  have hda2 : decide (300 < l.length) = false := by simp; omega
  have hdb1 : decide ((300 : Int) < (m.length : Int)) = false := by simp; omega
  have hdb2 : decide (300 < m.length) = false := by simp; omega
  obtain ⟨Ba, hBa⟩ : ∃ B, B = frB x y l := ⟨_, rfl⟩
  have hBla : Ba.length = l.length + 10 := by rw [hBa, frB_length]
  have HBsa : Aside0 (signF (makeB x y l) = Ba) := ⟨by rw [hBa, frB_sign he hb]⟩
  have HYBa : Aside0 (Byt Ba) := ⟨by rw [hBa]; exact frB_byt he hb⟩
  have HLBa : Aside0 (Ba.length < 140737488355328) := ⟨by omega⟩
  have HLa : Aside0 (l.length < 140737488355328) := ⟨by omega⟩
  obtain ⟨Bb, hBb⟩ : ∃ B, B = frB u v m := ⟨_, rfl⟩
  have hBlb : Bb.length = m.length + 10 := by rw [hBb, frB_length]
  have HBsb : Aside0 (signF (makeB u v m) = Bb) := ⟨by rw [hBb, frB_sign heg hb2]⟩
  have HYBb : Aside0 (Byt Bb) := ⟨by rw [hBb]; exact frB_byt heg hb2⟩
  have HLBb : Aside0 (Bb.length < 140737488355328) := ⟨by omega⟩
  have HLb : Aside0 (m.length < 140737488355328) := ⟨by omega⟩
  obtain ⟨M, hM⟩ : ∃ M, M = Ba ++ Bb := ⟨_, rfl⟩
  have HMe : Aside0 (Ba ++ Bb = M) := ⟨hM.symm⟩
  have HYM : Aside0 (Byt M) := ⟨by rw [hM]; exact fun z hz => (List.mem_append.1 hz).elim (HYBa.out z) (HYBb.out z)⟩
  have HPM : Aside0 (parF M = (x, y, l, (Ba.length : Int), 0)) := ⟨by rw [hM, hBa, parF_make he hb, ← hBa, hBla]; congr 1⟩
  have HPb : Aside0 (parF Bb = (u, v, m, (Bb.length : Int), 0)) := ⟨by have h := parF_make heg hb2 []; rw [List.append_nil] at h; rw [hBb, h, ← hBb, hBlb]; congr 1⟩
  have HLM : Aside0 (M.length < 140737488355328) := ⟨by rw [hM, List.length_append]; omega⟩
  have HLBa' : Aside0 (Ba.length ≤ 140737488355328) := ⟨by omega⟩
  have HLab : Aside0 (Ba.length + Bb.length ≤ 140737488355328) := ⟨by omega⟩
  obtain ⟨sB, hsB⟩ : ∃ s, s = sameB x y l u v m := ⟨_, rfl⟩
  have HSB : Aside0 (sameB x y l u v m = sB) := ⟨hsB.symm⟩
  have hse : ((strOfNums Ba).toList == (strOfNums Bb).toList) = sB := by rw [str_eq HYBa.out HYBb.out, hsB, hBa, hBb]; exact frB_inj he hb heg hb2
  have hss : (sB != sB) = false := by cases sB <;> rfl
  have HSM : Aside0 (sameB x y l x y l = true) := ⟨by simp [sameB]⟩
  have HSMg : Aside0 (sameB u v m u v m = true) := ⟨by simp [sameB]⟩
  clear hr hb hr2 hb2 he heg hn hn2 hBa hBb hBla hBlb hM hsB
  go_enter Try.func11, Try.ntmps11
  go_wp2_with (first
    | ((with_reducible refine gate_dst (N := 2) rfl ?_); refine box_event ?hg (N := 2) ?hd (cs := #[.int .u8 x, .int .u8 y, .slice A l.length c]) (t := 44) ?hr ?_; (case hd => rfl); (case hg => rfl); (case hr => first | (go_simp; done) | (go_simp; rfl)); intro g2 hg w0 hbox hbb; have HB0 := Aside0.mk hbb; have HG20 := Aside0.mk hbox; clear hbox hbb hg)
    | ((with_reducible refine gate_dst (N := 3) rfl ?_); refine box_event ?hg (N := 3) ?hd (cs := #[.int .u8 u, .int .u8 v, .slice Ag m.length cg]) (t := 44) ?hr ?_; (case hd => rfl); (case hg => rfl); (case hr => first | (go_simp; done) | (go_simp; rfl)); intro g3 hg w1 hbox hbb; have HB1 := Aside0.mk (below_step HB0.out hbb); have HG21 := Aside0.mk (blk_below HG20.out hbb); have HG31 := Aside0.mk hbox; have ha0 : w1.cell? ⟨g2, 0, none⟩ = some (.int .u8 x) := (blk_cell HG21.out 0).trans rfl; have ha1 : w1.cell? ⟨g2, 1, none⟩ = some (.int .u8 y) := (blk_cell HG21.out 1).trans rfl; have ha2 : w1.cell? ⟨g2, 2, none⟩ = some (.slice A l.length c) := (blk_cell HG21.out 2).trans rfl; have hz0 : w1.cell? ⟨g3, 0, none⟩ = some (.int .u8 u) := (blk_cell HG31.out 0).trans rfl; have hz1 : w1.cell? ⟨g3, 1, none⟩ = some (.int .u8 v) := (blk_cell HG31.out 1).trans rfl; have hz2 : w1.cell? ⟨g3, 2, none⟩ = some (.slice Ag m.length cg) := (blk_cell HG31.out 2).trans rfl; clear hbox hbb hg)
    | (go_at_call 31; (refine (refright_any u v _ _ m _ (Kd.C_below HRg.out HB2.out) hc2).mono ?_; rw [HEg.out]; rintro e w3 ⟨rfl, hb⟩; have HB3 := Aside0.mk (below_step HB2.out hb); have HG23 := Aside0.mk (blk_below HG22.out hb); have HG33 := Aside0.mk (blk_below HG32.out hb); clear hb; clear ha0 ha1 ha2 hz0 hz1 hz2; have ha0 : w3.cell? ⟨g2, 0, none⟩ = some (.int .u8 x) := (blk_cell HG23.out 0).trans rfl; have ha1 : w3.cell? ⟨g2, 1, none⟩ = some (.int .u8 y) := (blk_cell HG23.out 1).trans rfl; have ha2 : w3.cell? ⟨g2, 2, none⟩ = some (.slice A l.length c) := (blk_cell HG23.out 2).trans rfl; have hz0 : w3.cell? ⟨g3, 0, none⟩ = some (.int .u8 u) := (blk_cell HG33.out 0).trans rfl; have hz1 : w3.cell? ⟨g3, 1, none⟩ = some (.int .u8 v) := (blk_cell HG33.out 1).trans rfl; have hz2 : w3.cell? ⟨g3, 2, none⟩ = some (.slice Ag m.length cg) := (blk_cell HG33.out 2).trans rfl))
    | (go_at_call 31; (refine (refright_any x y _ _ l _ (Kd.C_below HR.out HB1.out) hc).mono ?_; rw [HE.out]; rintro e w2 ⟨rfl, hb⟩; have HB2 := Aside0.mk (below_step HB1.out hb); have HG22 := Aside0.mk (blk_below HG21.out hb); have HG32 := Aside0.mk (blk_below HG31.out hb); clear hb; clear ha0 ha1 ha2 hz0 hz1 hz2; have ha0 : w2.cell? ⟨g2, 0, none⟩ = some (.int .u8 x) := (blk_cell HG22.out 0).trans rfl; have ha1 : w2.cell? ⟨g2, 1, none⟩ = some (.int .u8 y) := (blk_cell HG22.out 1).trans rfl; have ha2 : w2.cell? ⟨g2, 2, none⟩ = some (.slice A l.length c) := (blk_cell HG22.out 2).trans rfl; have hz0 : w2.cell? ⟨g3, 0, none⟩ = some (.int .u8 u) := (blk_cell HG32.out 0).trans rfl; have hz1 : w2.cell? ⟨g3, 1, none⟩ = some (.int .u8 v) := (blk_cell HG32.out 1).trans rfl; have hz2 : w2.cell? ⟨g3, 2, none⟩ = some (.slice Ag m.length cg) := (blk_cell HG32.out 2).trans rfl))
    | (go_at_call 33; (refine (own_any u v _ _ m _ (Kd.C_below HRg.out HB5.out) hc2 HLb.out).mono ?_; rintro e w6 ⟨v6, rfl, ho, hb⟩; have HO6 := Aside0.mk ho; have HB6 := Aside0.mk (below_step HB5.out hb); have HG26 := Aside0.mk (blk_below HG25.out hb); have HG36 := Aside0.mk (blk_below HG35.out hb); have HB56 := Aside0.mk hb; clear hb ho; clear ha0 ha1 ha2 hz0 hz1 hz2; have ha0 : w6.cell? ⟨g2, 0, none⟩ = some (.int .u8 x) := (blk_cell HG26.out 0).trans rfl; have ha1 : w6.cell? ⟨g2, 1, none⟩ = some (.int .u8 y) := (blk_cell HG26.out 1).trans rfl; have ha2 : w6.cell? ⟨g2, 2, none⟩ = some (.slice A l.length c) := (blk_cell HG26.out 2).trans rfl; have hz0 : w6.cell? ⟨g3, 0, none⟩ = some (.int .u8 u) := (blk_cell HG36.out 0).trans rfl; have hz1 : w6.cell? ⟨g3, 1, none⟩ = some (.int .u8 v) := (blk_cell HG36.out 1).trans rfl; have hz2 : w6.cell? ⟨g3, 2, none⟩ = some (.slice Ag m.length cg) := (blk_cell HG36.out 2).trans rfl; obtain ⟨A6, c6, e6⟩ := Kd.R_slice HO6.out; subst e6))
    | (go_at_call 33; (refine (own_any x y _ _ l _ (Kd.C_below HR.out HB3.out) hc HLa.out).mono ?_; rintro e w4 ⟨v4, rfl, ho, hb⟩; have HO4 := Aside0.mk ho; have HB4 := Aside0.mk (below_step HB3.out hb); have HG24 := Aside0.mk (blk_below HG23.out hb); have HG34 := Aside0.mk (blk_below HG33.out hb); clear hb ho; clear ha0 ha1 ha2 hz0 hz1 hz2; have ha0 : w4.cell? ⟨g2, 0, none⟩ = some (.int .u8 x) := (blk_cell HG24.out 0).trans rfl; have ha1 : w4.cell? ⟨g2, 1, none⟩ = some (.int .u8 y) := (blk_cell HG24.out 1).trans rfl; have ha2 : w4.cell? ⟨g2, 2, none⟩ = some (.slice A l.length c) := (blk_cell HG24.out 2).trans rfl; have hz0 : w4.cell? ⟨g3, 0, none⟩ = some (.int .u8 u) := (blk_cell HG34.out 0).trans rfl; have hz1 : w4.cell? ⟨g3, 1, none⟩ = some (.int .u8 v) := (blk_cell HG34.out 1).trans rfl; have hz2 : w4.cell? ⟨g3, 2, none⟩ = some (.slice Ag m.length cg) := (blk_cell HG34.out 2).trans rfl; obtain ⟨A4, c4, e4⟩ := Kd.R_slice HO4.out; subst e4))
    | (go_at_call 32; (refine (make_any u v _ _ m _ (Kd.R_reads' HO6.out).2.2 (Kd.R_reads' HO6.out).2.1).mono ?_; rw [HEg.out, if_pos rfl, HBsb.out]; rintro e w7 ⟨v7, rfl, ho, hb⟩; have HO7 := Aside0.mk ho; have HB7 := Aside0.mk (below_step HB6.out hb); have HG27 := Aside0.mk (blk_below HG26.out hb); have HG37 := Aside0.mk (blk_below HG36.out hb); have HC57 := Aside0.mk (Kd.C_below HC5.out (below_step (show Below w5.heap.size w5 w6 from HB56.out) hb)); clear hb ho; obtain ⟨A7, c7, e7⟩ := Kd.R_slice HO7.out; subst e7; have HC7 := Aside0.mk (Kd.R_reads' HO7.out).2.2; have HCc7 := Aside0.mk (Kd.R_reads' HO7.out).2.1; clear ha0 ha1 ha2 hz0 hz1 hz2; have ha0 : w7.cell? ⟨g2, 0, none⟩ = some (.int .u8 x) := (blk_cell HG27.out 0).trans rfl; have ha1 : w7.cell? ⟨g2, 1, none⟩ = some (.int .u8 y) := (blk_cell HG27.out 1).trans rfl; have ha2 : w7.cell? ⟨g2, 2, none⟩ = some (.slice A l.length c) := (blk_cell HG27.out 2).trans rfl; have hz0 : w7.cell? ⟨g3, 0, none⟩ = some (.int .u8 u) := (blk_cell HG37.out 0).trans rfl; have hz1 : w7.cell? ⟨g3, 1, none⟩ = some (.int .u8 v) := (blk_cell HG37.out 1).trans rfl; have hz2 : w7.cell? ⟨g3, 2, none⟩ = some (.slice Ag m.length cg) := (blk_cell HG37.out 2).trans rfl))
    | (go_at_call 32; (refine (make_any x y _ _ l _ (Kd.R_reads' HO4.out).2.2 (Kd.R_reads' HO4.out).2.1).mono ?_; rw [HE.out, if_pos rfl, HBsa.out]; rintro e w5 ⟨v5, rfl, ho, hb⟩; have HO5 := Aside0.mk ho; have HB5 := Aside0.mk (below_step HB4.out hb); have HG25 := Aside0.mk (blk_below HG24.out hb); have HG35 := Aside0.mk (blk_below HG34.out hb); clear hb ho; obtain ⟨A5, c5, e5⟩ := Kd.R_slice HO5.out; subst e5; have HC5 := Aside0.mk (Kd.R_reads' HO5.out).2.2; have HCc5 := Aside0.mk (Kd.R_reads' HO5.out).2.1; clear ha0 ha1 ha2 hz0 hz1 hz2; have ha0 : w5.cell? ⟨g2, 0, none⟩ = some (.int .u8 x) := (blk_cell HG25.out 0).trans rfl; have ha1 : w5.cell? ⟨g2, 1, none⟩ = some (.int .u8 y) := (blk_cell HG25.out 1).trans rfl; have ha2 : w5.cell? ⟨g2, 2, none⟩ = some (.slice A l.length c) := (blk_cell HG25.out 2).trans rfl; have hz0 : w5.cell? ⟨g3, 0, none⟩ = some (.int .u8 u) := (blk_cell HG35.out 0).trans rfl; have hz1 : w5.cell? ⟨g3, 1, none⟩ = some (.int .u8 v) := (blk_cell HG35.out 1).trans rfl; have hz2 : w5.cell? ⟨g3, 2, none⟩ = some (.slice Ag m.length cg) := (blk_cell HG35.out 2).trans rfl)))
  refine start_ (n := 17) (S := fun w' => Below w7.heap.size w7 w') (ds := []) #[false, false, false, false, false, false, false, false, false, false, false, false, false, false, false, false, false] (by kernel_rfl) rfl rfl (below_drew (Below.refl _ _)) (fun hHeld => ?_)
  refine with_tabW frameapart_tab5 frameapart_bits5 (fun HT_ HW_ => ?_)
  refine pure_ (i := 0) (N := some 47) (v := ?_) (a' := ?_) #[true, false, false, false, false, false, false, false, false, false, false, false, false, false, false, false, false] rfl rfl (any_of HT_.out (by kernel_rfl)) (fun _ _ _ h => h) (Or.inl ⟨by rfl, ?_⟩) ?_ ?_
  rotate_left
  · intro w'
    go_simp
    with_reducible rfl
  rotate_left
  · simp only [Act.put, List.setIfInBounds_toArray, List.set_cons_zero, List.set_cons_succ, i64_w, i32_w]
    rfl
  refine pure_ (i := 1) (N := some 48) (v := ?_) (a' := ?_) #[true, true, false, false, false, false, false, false, false, false, false, false, false, false, false, false, false] rfl rfl (any_of HT_.out (by kernel_rfl)) (fun _ _ _ h => h) (Or.inl ⟨by rfl, ?_⟩) ?_ ?_
  rotate_left
  · intro w'
    go_simp
    with_reducible rfl
  rotate_left
  · simp only [Act.put, List.setIfInBounds_toArray, List.set_cons_zero, List.set_cons_succ, i64_w, i32_w]
    rfl
  refine pure_ (i := 2) (N := some 49) (v := ?_) (a' := ?_) #[true, true, true, false, false, false, false, false, false, false, false, false, false, false, false, false, false] rfl rfl (any_of HT_.out (by kernel_rfl)) (fun _ _ _ h => h) (Or.inl ⟨by rfl, ?_⟩) ?_ ?_
  rotate_left
  · intro w'
    go_simp
    with_reducible rfl
  rotate_left
  · simp only [Act.put, List.setIfInBounds_toArray, List.set_cons_zero, List.set_cons_succ, i64_w, i32_w]
    rfl
  refine pure_ (i := 3) (N := some 50) (v := ?_) (a' := ?_) #[true, true, true, true, false, false, false, false, false, false, false, false, false, false, false, false, false] rfl rfl (any_of HT_.out (by kernel_rfl)) (fun _ _ _ h => h) (Or.inl ⟨by rfl, ?_⟩) ?_ ?_
  rotate_left
  · intro w'
    go_simp
    with_reducible rfl
  rotate_left
  · simp only [Act.put, List.setIfInBounds_toArray, List.set_cons_zero, List.set_cons_succ, i64_w, i32_w]
    rfl
  refine pure_ (i := 4) (N := some 51) (v := ?_) (a' := ?_) #[true, true, true, true, true, false, false, false, false, false, false, false, false, false, false, false, false] rfl rfl (any_of HT_.out (by kernel_rfl)) (fun _ _ _ h => h) (Or.inl ⟨by rfl, ?_⟩) ?_ ?_
  rotate_left
  · intro w'
    go_simp
    with_reducible rfl
  rotate_left
  · simp only [Act.put, List.setIfInBounds_toArray, List.set_cons_zero, List.set_cons_succ, i64_w, i32_w]
    rfl
  refine pure_ (i := 5) (N := some 52) (v := ?_) (a' := ?_) #[true, true, true, true, true, true, false, false, false, false, false, false, false, false, false, false, false] rfl rfl (any_of HT_.out (by kernel_rfl)) (fun _ _ _ h => h) (Or.inl ⟨by rfl, ?_⟩) ?_ ?_
  rotate_left
  · intro w'
    go_simp
    with_reducible rfl
  rotate_left
  · simp only [Act.put, List.setIfInBounds_toArray, List.set_cons_zero, List.set_cons_succ, i64_w, i32_w]
    rfl
  refine pure_ (i := 6) (N := some 53) (v := ?_) (a' := ?_) #[true, true, true, true, true, true, true, false, false, false, false, false, false, false, false, false, false] rfl rfl (any_of HT_.out (by kernel_rfl)) (fun _ _ _ h => h) (Or.inl ⟨by rfl, ?_⟩) ?_ ?_
  rotate_left
  · intro w'
    go_simp
    with_reducible rfl
  rotate_left
  · simp only [Act.put, List.setIfInBounds_toArray, List.set_cons_zero, List.set_cons_succ, i64_w, i32_w]
    rfl
  refine pure_ (i := 7) (N := some 54) (v := ?_) (a' := ?_) #[true, true, true, true, true, true, true, true, false, false, false, false, false, false, false, false, false] rfl rfl (any_of HT_.out (by kernel_rfl)) (fun _ _ _ h => h) (Or.inl ⟨by rfl, ?_⟩) ?_ ?_
  rotate_left
  · intro w'
    go_simp
    with_reducible rfl
  rotate_left
  · simp only [Act.put, List.setIfInBounds_toArray, List.set_cons_zero, List.set_cons_succ, i64_w, i32_w]
    rfl
  refine take_ (i := 8) (N := some 55) (v := ?_) (a' := ?_) #[true, true, true, true, true, true, true, true, true, false, false, false, false, false, false, false, false] rfl rfl (take_ofW HT_.out HW_.out (by kernel_rfl)) (fun _ _ _ h => h) (Or.inl ⟨by rfl, ?_⟩) hHeld ?_ ?_
  rotate_left
  · intro w' s0
    have hcv := Kd.C_string (P := Try.prog) (A := A5) (c := c5) Try.underlying23 Try.underlying5 Try.underlying9 (Kd.C_below HC57.out s0)
    go_simp
    with_reducible rfl
  rotate_left
  · simp only [Act.put, List.setIfInBounds_toArray, List.set_cons_zero, List.set_cons_succ, i64_w, i32_w]
    rfl
  refine pure_ (i := 9) (N := some 56) (v := ?_) (a' := ?_) #[true, true, true, true, true, true, true, true, true, true, false, false, false, false, false, false, false] rfl rfl (any_of HT_.out (by kernel_rfl)) (fun _ _ _ h => h) (Or.inl ⟨by rfl, ?_⟩) ?_ ?_
  rotate_left
  · intro w'
    go_simp
    with_reducible rfl
  rotate_left
  · simp only [Act.put, List.setIfInBounds_toArray, List.set_cons_zero, List.set_cons_succ, i64_w, i32_w]
    rfl
  refine take_ (i := 10) (N := some 57) (v := ?_) (a' := ?_) #[true, true, true, true, true, true, true, true, true, true, true, false, false, false, false, false, false] rfl rfl (take_ofW HT_.out HW_.out (by kernel_rfl)) (fun _ _ _ h => h) (Or.inl ⟨by rfl, ?_⟩) hHeld ?_ ?_
  rotate_left
  · intro w' s0
    have hcv := Kd.C_string (P := Try.prog) (A := A7) (c := c7) Try.underlying23 Try.underlying5 Try.underlying9 (Kd.C_below HC7.out s0)
    go_simp
    with_reducible rfl
  rotate_left
  · simp only [Act.put, List.setIfInBounds_toArray, List.set_cons_zero, List.set_cons_succ, i64_w, i32_w]
    rfl
  refine pure_ (i := 11) (N := some 58) (v := ?_) (a' := ?_) #[true, true, true, true, true, true, true, true, true, true, true, true, false, false, false, false, false] rfl rfl (any_of HT_.out (by kernel_rfl)) (fun _ _ _ h => h) (Or.inl ⟨by rfl, ?_⟩) ?_ ?_
  rotate_left
  · intro w'
    go_simp
    with_reducible rfl
  rotate_left
  · simp only [Act.put, List.setIfInBounds_toArray, List.set_cons_zero, List.set_cons_succ, i64_w, i32_w]
    rfl
  refine take_ (i := 12) (N := some 59) (v := ?_) (a' := ?_) #[true, true, true, true, true, true, true, true, true, true, true, true, true, false, false, false, false] rfl rfl (take_ofW HT_.out HW_.out (by kernel_rfl)) (fun _ _ _ h => h) (Or.inl ⟨by rfl, ?_⟩) hHeld ?_ ?_
  rotate_left
  · intro w' s0
    have hz0 : w'.cell? ⟨g2, 0, none⟩ = some (.int .u8 x) := (blk_cell (Aside0.mk (blk_below HG27.out s0)).out 0).trans rfl
    have hz1 : w'.cell? ⟨g2, 1, none⟩ = some (.int .u8 y) := (blk_cell (Aside0.mk (blk_below HG27.out s0)).out 1).trans rfl
    have hz2 : w'.cell? ⟨g2, 2, none⟩ = some (.slice A l.length c) := (blk_cell (Aside0.mk (blk_below HG27.out s0)).out 2).trans rfl
    go_simp
    with_reducible rfl
  rotate_left
  · simp only [Act.put, List.setIfInBounds_toArray, List.set_cons_zero, List.set_cons_succ, i64_w, i32_w]
    rfl
  refine take_ (i := 13) (N := some 60) (v := ?_) (a' := ?_) #[true, true, true, true, true, true, true, true, true, true, true, true, true, true, false, false, false] rfl rfl (take_ofW HT_.out HW_.out (by kernel_rfl)) (fun _ _ _ h => h) (Or.inl ⟨by rfl, ?_⟩) hHeld ?_ ?_
  rotate_left
  · intro w' s0
    have hz0 : w'.cell? ⟨g3, 0, none⟩ = some (.int .u8 u) := (blk_cell (Aside0.mk (blk_below HG37.out s0)).out 0).trans rfl
    have hz1 : w'.cell? ⟨g3, 1, none⟩ = some (.int .u8 v) := (blk_cell (Aside0.mk (blk_below HG37.out s0)).out 1).trans rfl
    have hz2 : w'.cell? ⟨g3, 2, none⟩ = some (.slice Ag m.length cg) := (blk_cell (Aside0.mk (blk_below HG37.out s0)).out 2).trans rfl
    go_simp
    with_reducible rfl
  rotate_left
  · simp only [Act.put, List.setIfInBounds_toArray, List.set_cons_zero, List.set_cons_succ, i64_w, i32_w]
    rfl
  refine one_ (i := 14) (N := some 61) #[true, true, true, true, true, true, true, true, true, true, true, true, true, true, true, false, false] rfl rfl (one_of HT_.out (by kernel_rfl)) (by decide) (fun K hK => ?_)
  refine goes_ Try.func28 (by kernel_rfl) rfl #[.agg #[.int .u8 x, .int .u8 y, .slice A l.length c], .agg #[.int .u8 u, .int .u8 v, .slice Ag m.length cg]] (by rfl) rfl rfl (by (try simp only [List.map_toArray, List.map_cons, List.map_nil]); first | done | rfl) ?_
  refine (same_any x y A c l u v Ag cg m _ (Kd.C_below HR.out (below_step HB7.out hHeld)) hc (Kd.C_below HRg.out (below_step HB7.out hHeld)) hc2 HY.out HYg.out).mono ?_
  rw [HSB.out]
  rintro e w8 ⟨rfl, hb⟩
  refine ⟨_, rfl, ?_⟩
  have HB78 := Aside0.mk (below_step hHeld hb)
  clear hb
  refine hK.out _ _ HB78.out (fun hHeld => ?_)
  clear hK K
  refine norm_ (a' := ?_) ?_ ?_
  rotate_left
  · show Act.put _ (some 61) _ = _
    simp only [Act.put, List.setIfInBounds_toArray, List.set_cons_zero, List.set_cons_succ, i64_w, i32_w]
    rfl
  refine pure_ (i := 15) (N := some 62) (v := ?_) (a' := ?_) #[true, true, true, true, true, true, true, true, true, true, true, true, true, true, true, true, false] rfl rfl (any_of HT_.out (by kernel_rfl)) (fun _ _ _ h => h) (Or.inl ⟨by rfl, ?_⟩) ?_ ?_
  rotate_left
  · intro w'
    go_simp
    with_reducible rfl
  rotate_left
  · simp only [Act.put, List.setIfInBounds_toArray, List.set_cons_zero, List.set_cons_succ, i64_w, i32_w]
    rfl
  refine pure_ (i := 16) (N := some 63) (v := ?_) (a' := ?_) #[true, true, true, true, true, true, true, true, true, true, true, true, true, true, true, true, true] rfl rfl (any_of HT_.out (by kernel_rfl)) (fun _ _ _ h => h) (Or.inl ⟨by rfl, ?_⟩) ?_ ?_
  rotate_left
  · intro w'
    go_simp
    with_reducible rfl
  rotate_left
  · simp only [Act.put, List.setIfInBounds_toArray, List.set_cons_zero, List.set_cons_succ, i64_w, i32_w]
    rfl
  refine done_ (done_of HT_.out (by kernel_rfl)) ?_
  have HC58 := Aside0.mk (Kd.C_below HC57.out HB78.out)
  have HC78 := Aside0.mk (Kd.C_below HC7.out HB78.out)
  have HG28 := Aside0.mk (blk_below HG27.out HB78.out)
  have HG38 := Aside0.mk (blk_below HG37.out HB78.out)
  have HB8 := Aside0.mk (below_step HB7.out HB78.out)
  clear ha0 ha1 ha2 hz0 hz1 hz2
  go_wp2_with (first
    | ((with_reducible refine gate_dst (N := 65) rfl ?_); refine Kd.R_lit (Kd.int .u8) _ 5 ?hg (N := 65) ?hd (xs := ([] : List Int)) (inner := []) (ok := fun _ => True) (okp := fun _ => True) ?hr ?hp (fun _ hk => hk) trivial (Below.refl _ _) (Nat.le_refl _) (by simp) ?_; (case hd => rfl); (case hg => rfl); (case hr => first | (go_simp; done) | (go_simp; rfl)); (case hp => exact (Reps.none _ _)); intro v9 w9 ho hb hg_ hnew_; have HO9 := Aside0.mk ho; have HB9 := Aside0.mk hb; clear hg_ hnew_ ho hb)
    | ((with_reducible refine gate_builtin (b := .append) (xs := #[.tmp 65, .tmp 66]) rfl ?_); at_builtin; refine Kd.R_append_rows (Kd.int .u8) (w0 := w8) w8.heap.size rfl (.tmp 65) (.tmp 66) 23 5 (.int .u8 0) 1 rfl Try.underlying23 info5 rfl (by decide) (by omega) v9 [] Ba _ _ _ (fun _ => True) (fun _ => False) rfl rfl HO9.out (Kd.C_below HC58.out HB9.out) (fun _ _ h => h) (fun _ h => h.elim) (fun _ _ => trivial) HB9.out HB9.out.size (by have := HLBa'.out; (try simp only [List.length_append, List.length_nil]); omega) ?_; intro v10 w10 ho hb hg hat; (try simp only [List.nil_append] at ho); have HO10 := Aside0.mk ho; have HB10 := Aside0.mk hb; clear ho hb hg hat)
    | ((with_reducible refine gate_builtin (b := .append) (xs := #[.tmp 67, .tmp 68]) rfl ?_); at_builtin; refine Kd.R_append_rows (Kd.int .u8) (w0 := w8) w8.heap.size rfl (.tmp 67) (.tmp 68) 23 5 (.int .u8 0) 1 rfl Try.underlying23 info5 rfl (by decide) (by omega) v10 Ba Bb _ _ _ (fun _ => True) (fun _ => False) rfl rfl HO10.out (Kd.C_below HC78.out HB10.out) (fun _ _ h => h) (fun _ h => h.elim) (fun _ _ => trivial) HB10.out HB10.out.size (by have := HLab.out; (try simp only [List.length_append, List.length_nil]); omega) ?_; intro v11 w11 ho hb hg hat; (try simp only [List.nil_append] at ho); rw [HMe.out] at ho; have HO11 := Aside0.mk ho; have HB11 := Aside0.mk hb; clear ho hb hg hat; obtain ⟨A11, c11, e11⟩ := Kd.R_slice HO11.out; subst e11)
    | (go_at_call 26; go_loud (have hpar := parse_any A11 c11 M _ (Kd.R_reads' HO11.out).2.2 (Kd.R_reads' HO11.out).2.1 HYM.out HLM.out; rw [HPM.out] at hpar; dsimp only at hpar; refine hpar.mono ?_; clear hpar; rintro e w12 ⟨v12, rfl, ho, hb⟩; have HO12 := Aside0.mk ho; have HB12 := Aside0.mk (below_step HB11.out hb); clear ho hb; obtain ⟨A12, c12, e12⟩ := Kd.R_slice HO12.out; subst e12))
    | ((with_reducible refine gate_dst (N := 9) rfl ?_); refine box_event ?hg (N := 9) ?hd (cs := #[.int .u8 0, .int .u8 0, .slice none 0 0]) (t := 40) ?hr ?_; (case hd => rfl); (case hg => rfl); (case hr => first | (go_simp; done) | (go_simp; rfl)); intro g9 hg w13 hbox hbb; have HG13 := Aside0.mk hbox; have HE13 := Aside0.mk (show g9 = w12.heap.size from hg); have HB13 := Aside0.mk hbb; have hy0 : w13.cell? ⟨g9, 0, none⟩ = some (.int .u8 0) := (blk_cell HG13.out 0).trans rfl; have hyf0 := blk_frozen HG13.out 0; have hy1 : w13.cell? ⟨g9, 1, none⟩ = some (.int .u8 0) := (blk_cell HG13.out 1).trans rfl; have hyf1 := blk_frozen HG13.out 1; have hy2 : w13.cell? ⟨g9, 2, none⟩ = some (.slice none 0 0) := (blk_cell HG13.out 2).trans rfl; have hyf2 := blk_frozen HG13.out 2; clear hbox hbb hg))
  obtain ⟨W14, hW⟩ : ∃ W, W = (((w13.setCell ⟨g9, 0, none⟩ (.int .u8 x)).setCell ⟨g9, 1, none⟩ (.int .u8 y)).setCell ⟨g9, 2, none⟩ (.slice A12 l.length c12)) := ⟨_, rfl⟩
  have hp3 := put3 (x := .int .u8 x) (y := .int .u8 y) (z := .slice A12 l.length c12) HG13.out
  have HB1214 : Aside0 (Below w12.heap.size w12 W14) := ⟨by rw [hW]; exact HB13.out.trans (hp3.2.mono (by rw [HE13.out]; exact Nat.le_refl _))⟩
  have HB814 := Aside0.mk (below_step HB12.out HB1214.out)
  have HG14 : Aside0 (W14.heap[g9]? = some (.cells #[.int .u8 x, .int .u8 y, .slice A12 l.length c12] 40 (0, 0))) := ⟨by rw [hW]; exact hp3.1⟩
  have HG214 := Aside0.mk (blk_below HG28.out HB814.out)
  have HG314 := Aside0.mk (blk_below HG38.out HB814.out)
  have HC14 := Aside0.mk (Kd.C_below (Kd.R_reads' HO12.out).2.2 HB1214.out)
  have HC12c := Aside0.mk (Kd.R_reads' HO12.out).2.1
  have HR14 := Aside0.mk (Kd.C_below HR.out (below_step HB8.out HB814.out))
  have HC714 := Aside0.mk (Kd.C_below HC78.out HB814.out)
  rw [← hW]
  clear hW hp3 hy0 hy1 hy2 hyf0 hyf1 hyf2
  refine start_ (n := 15) (S := fun w' => Below W14.heap.size W14 w') (ds := []) #[false, false, false, false, false, false, false, false, false, false, false, false, false, false, false] (by kernel_rfl) rfl rfl (below_drew (Below.refl _ _)) (fun hHeld => ?_)
  refine with_tabW frameapart_tab8 frameapart_bits8 (fun HT_ HW_ => ?_)
  refine pure_ (i := 0) (N := some 74) (v := ?_) (a' := ?_) #[true, false, false, false, false, false, false, false, false, false, false, false, false, false, false] rfl rfl (any_of HT_.out (by kernel_rfl)) (fun _ _ _ h => h) (Or.inl ⟨by rfl, ?_⟩) ?_ ?_
  rotate_left
  · intro w'
    go_simp
    with_reducible rfl
  rotate_left
  · simp only [Act.put, List.setIfInBounds_toArray, List.set_cons_zero, List.set_cons_succ, i64_w, i32_w]
    rfl
  refine pure_ (i := 1) (N := some 75) (v := ?_) (a' := ?_) #[true, true, false, false, false, false, false, false, false, false, false, false, false, false, false] rfl rfl (any_of HT_.out (by kernel_rfl)) (fun _ _ _ h => h) (Or.inl ⟨by rfl, ?_⟩) ?_ ?_
  rotate_left
  · intro w'
    go_simp
    with_reducible rfl
  rotate_left
  · simp only [Act.put, List.setIfInBounds_toArray, List.set_cons_zero, List.set_cons_succ, i64_w, i32_w]
    rfl
  refine pure_ (i := 2) (N := some 76) (v := ?_) (a' := ?_) #[true, true, true, false, false, false, false, false, false, false, false, false, false, false, false] rfl rfl (any_of HT_.out (by kernel_rfl)) (fun _ _ _ h => h) (Or.inl ⟨by rfl, ?_⟩) ?_ ?_
  rotate_left
  · intro w'
    go_simp
    with_reducible rfl
  rotate_left
  · simp only [Act.put, List.setIfInBounds_toArray, List.set_cons_zero, List.set_cons_succ, i64_w, i32_w]
    rfl
  refine pure_ (i := 3) (N := some 77) (v := ?_) (a' := ?_) #[true, true, true, true, false, false, false, false, false, false, false, false, false, false, false] rfl rfl (any_of HT_.out (by kernel_rfl)) (fun _ _ _ h => h) (Or.inl ⟨by rfl, ?_⟩) ?_ ?_
  rotate_left
  · intro w'
    go_simp
    with_reducible rfl
  rotate_left
  · simp only [Act.put, List.setIfInBounds_toArray, List.set_cons_zero, List.set_cons_succ, i64_w, i32_w]
    rfl
  refine pure_ (i := 4) (N := some 78) (v := ?_) (a' := ?_) #[true, true, true, true, true, false, false, false, false, false, false, false, false, false, false] rfl rfl (any_of HT_.out (by kernel_rfl)) (fun _ _ _ h => h) (Or.inl ⟨by rfl, ?_⟩) ?_ ?_
  rotate_left
  · intro w'
    go_simp
    with_reducible rfl
  rotate_left
  · simp only [Act.put, List.setIfInBounds_toArray, List.set_cons_zero, List.set_cons_succ, i64_w, i32_w]
    rfl
  refine pure_ (i := 5) (N := some 79) (v := ?_) (a' := ?_) #[true, true, true, true, true, true, false, false, false, false, false, false, false, false, false] rfl rfl (any_of HT_.out (by kernel_rfl)) (fun _ _ _ h => h) (Or.inl ⟨by rfl, ?_⟩) ?_ ?_
  rotate_left
  · intro w'
    go_simp
    with_reducible rfl
  rotate_left
  · simp only [Act.put, List.setIfInBounds_toArray, List.set_cons_zero, List.set_cons_succ, i64_w, i32_w]
    rfl
  refine pure_ (i := 6) (N := some 80) (v := ?_) (a' := ?_) #[true, true, true, true, true, true, true, false, false, false, false, false, false, false, false] rfl rfl (any_of HT_.out (by kernel_rfl)) (fun _ _ _ h => h) (Or.inl ⟨by rfl, ?_⟩) ?_ ?_
  rotate_left
  · intro w'
    go_simp
    with_reducible rfl
  rotate_left
  · simp only [Act.put, List.setIfInBounds_toArray, List.set_cons_zero, List.set_cons_succ, i64_w, i32_w]
    rfl
  refine pure_ (i := 7) (N := some 81) (v := ?_) (a' := ?_) #[true, true, true, true, true, true, true, true, false, false, false, false, false, false, false] rfl rfl (any_of HT_.out (by kernel_rfl)) (fun _ _ _ h => h) (Or.inl ⟨by rfl, ?_⟩) ?_ ?_
  rotate_left
  · intro w'
    go_simp
    with_reducible rfl
  rotate_left
  · simp only [Act.put, List.setIfInBounds_toArray, List.set_cons_zero, List.set_cons_succ, i64_w, i32_w]
    rfl
  refine pure_ (i := 8) (N := some 82) (v := ?_) (a' := ?_) #[true, true, true, true, true, true, true, true, true, false, false, false, false, false, false] rfl rfl (any_of HT_.out (by kernel_rfl)) (fun _ _ _ h => h) (Or.inl ⟨by rfl, ?_⟩) ?_ ?_
  rotate_left
  · intro w'
    go_simp
    with_reducible rfl
  rotate_left
  · simp only [Act.put, List.setIfInBounds_toArray, List.set_cons_zero, List.set_cons_succ, i64_w, i32_w]
    rfl
  refine take_ (i := 9) (N := some 83) (v := ?_) (a' := ?_) #[true, true, true, true, true, true, true, true, true, true, false, false, false, false, false] rfl rfl (take_ofW HT_.out HW_.out (by kernel_rfl)) (fun _ _ _ h => h) (Or.inl ⟨by rfl, ?_⟩) hHeld ?_ ?_
  rotate_left
  · intro w' s0
    have hz0 : w'.cell? ⟨g9, 0, none⟩ = some (.int .u8 x) := (blk_cell (Aside0.mk (blk_below HG14.out s0)).out 0).trans rfl
    have hz1 : w'.cell? ⟨g9, 1, none⟩ = some (.int .u8 y) := (blk_cell (Aside0.mk (blk_below HG14.out s0)).out 1).trans rfl
    have hz2 : w'.cell? ⟨g9, 2, none⟩ = some (.slice A12 l.length c12) := (blk_cell (Aside0.mk (blk_below HG14.out s0)).out 2).trans rfl
    go_simp
    with_reducible rfl
  rotate_left
  · simp only [Act.put, List.setIfInBounds_toArray, List.set_cons_zero, List.set_cons_succ, i64_w, i32_w]
    rfl
  refine take_ (i := 11) (N := some 85) (v := ?_) (a' := ?_) #[true, true, true, true, true, true, true, true, true, true, false, true, false, false, false] rfl rfl (take_ofW HT_.out HW_.out (by kernel_rfl)) (fun _ _ _ h => h) (Or.inl ⟨by rfl, ?_⟩) hHeld ?_ ?_
  rotate_left
  · intro w' s0
    have hz0 : w'.cell? ⟨g2, 0, none⟩ = some (.int .u8 x) := (blk_cell (Aside0.mk (blk_below HG214.out s0)).out 0).trans rfl
    have hz1 : w'.cell? ⟨g2, 1, none⟩ = some (.int .u8 y) := (blk_cell (Aside0.mk (blk_below HG214.out s0)).out 1).trans rfl
    have hz2 : w'.cell? ⟨g2, 2, none⟩ = some (.slice A l.length c) := (blk_cell (Aside0.mk (blk_below HG214.out s0)).out 2).trans rfl
    go_simp
    with_reducible rfl
  rotate_left
  · simp only [Act.put, List.setIfInBounds_toArray, List.set_cons_zero, List.set_cons_succ, i64_w, i32_w]
    rfl
  refine one_ (i := 10) (N := some 84) #[true, true, true, true, true, true, true, true, true, true, true, true, false, false, false] rfl rfl (one_of HT_.out (by kernel_rfl)) (by decide) (fun K hK => ?_)
  refine goes_ Try.func29 (by kernel_rfl) rfl #[.agg #[.int .u8 x, .int .u8 y, .slice A12 l.length c12]] (by rfl) rfl rfl (by (try simp only [List.map_toArray, List.map_cons, List.map_nil]); first | done | rfl) ?_
  refine (back_any x y A12 l.length c12 _).mono ?_
  rintro e w15 ⟨rfl, hb⟩
  refine ⟨_, rfl, ?_⟩
  have HB15 := Aside0.mk (below_step hHeld hb)
  clear hb
  refine hK.out _ _ HB15.out (fun hHeld => ?_)
  clear hK K
  refine norm_ (a' := ?_) ?_ ?_
  rotate_left
  · show Act.put _ (some 84) _ = _
    simp only [Act.put, List.setIfInBounds_toArray, List.set_cons_zero, List.set_cons_succ, i64_w, i32_w]
    rfl
  refine one_ (i := 12) (N := some 86) #[true, true, true, true, true, true, true, true, true, true, true, true, true, false, false] rfl rfl (one_of HT_.out (by kernel_rfl)) (by decide) (fun K hK => ?_)
  refine goes_ Try.func28 (by kernel_rfl) rfl #[.agg #[.int .u8 x, .int .u8 y, .slice A12 l.length c12], .agg #[.int .u8 x, .int .u8 y, .slice A l.length c]] (by rfl) rfl rfl (by (try simp only [List.map_toArray, List.map_cons, List.map_nil]); first | done | rfl) ?_
  refine (same_any x y A12 c12 l x y A c l _ (Kd.C_below HC14.out hHeld) HC12c.out (Kd.C_below HR14.out hHeld) hc HY.out HY.out).mono ?_
  rw [HSM.out]
  rintro e w16 ⟨rfl, hb⟩
  refine ⟨_, rfl, ?_⟩
  have HB16 := Aside0.mk (below_step hHeld hb)
  clear hb
  refine hK.out _ _ HB16.out (fun hHeld => ?_)
  clear hK K
  refine norm_ (a' := ?_) ?_ ?_
  rotate_left
  · show Act.put _ (some 86) _ = _
    simp only [Act.put, List.setIfInBounds_toArray, List.set_cons_zero, List.set_cons_succ, i64_w, i32_w]
    rfl
  refine pure_ (i := 13) (N := some 87) (v := ?_) (a' := ?_) #[true, true, true, true, true, true, true, true, true, true, true, true, true, true, false] rfl rfl (any_of HT_.out (by kernel_rfl)) (fun _ _ _ h => h) (Or.inl ⟨by rfl, ?_⟩) ?_ ?_
  rotate_left
  · intro w'
    go_simp
    with_reducible rfl
  rotate_left
  · simp only [Act.put, List.setIfInBounds_toArray, List.set_cons_zero, List.set_cons_succ, i64_w, i32_w]
    rfl
  refine pure_ (i := 14) (N := some 88) (v := ?_) (a' := ?_) #[true, true, true, true, true, true, true, true, true, true, true, true, true, true, true] rfl rfl (any_of HT_.out (by kernel_rfl)) (fun _ _ _ h => h) (Or.inl ⟨by rfl, ?_⟩) ?_ ?_
  rotate_left
  · intro w'
    go_simp
    with_reducible rfl
  rotate_left
  · simp only [Act.put, List.setIfInBounds_toArray, List.set_cons_zero, List.set_cons_succ, i64_w, i32_w]
    rfl
  refine done_ (done_of HT_.out (by kernel_rfl)) ?_
  go_wp2_with (first
    | (go_at_call 26; go_loud (have hpar := parse_any A7 c7 Bb _ (Kd.C_below HC714.out HB16.out) HCc7.out HYBb.out HLBb.out; rw [HPb.out] at hpar; dsimp only at hpar; refine hpar.mono ?_; clear hpar; rintro e w17 ⟨v17, rfl, ho, hb⟩; have HO17 := Aside0.mk ho; have HB17 := Aside0.mk (below_step HB16.out hb); clear ho hb; obtain ⟨A17, c17, e17⟩ := Kd.R_slice HO17.out; subst e17))
    | ((with_reducible refine gate_dst (N := 12) rfl ?_); refine box_event ?hg (N := 12) ?hd (cs := #[.int .u8 0, .int .u8 0, .slice none 0 0]) (t := 40) ?hr ?_; (case hd => rfl); (case hg => rfl); (case hr => first | (go_simp; done) | (go_simp; rfl)); intro g12 hg w18 hbox hbb; have HG18 := Aside0.mk hbox; have HE18 := Aside0.mk (show g12 = w17.heap.size from hg); have HB18 := Aside0.mk hbb; have hy0 : w18.cell? ⟨g12, 0, none⟩ = some (.int .u8 0) := (blk_cell HG18.out 0).trans rfl; have hyf0 := blk_frozen HG18.out 0; have hy1 : w18.cell? ⟨g12, 1, none⟩ = some (.int .u8 0) := (blk_cell HG18.out 1).trans rfl; have hyf1 := blk_frozen HG18.out 1; have hy2 : w18.cell? ⟨g12, 2, none⟩ = some (.slice none 0 0) := (blk_cell HG18.out 2).trans rfl; have hyf2 := blk_frozen HG18.out 2; clear hbox hbb hg))
  obtain ⟨W19, hW⟩ : ∃ W, W = (((w18.setCell ⟨g12, 0, none⟩ (.int .u8 u)).setCell ⟨g12, 1, none⟩ (.int .u8 v)).setCell ⟨g12, 2, none⟩ (.slice A17 m.length c17)) := ⟨_, rfl⟩
  have hp3 := put3 (x := .int .u8 u) (y := .int .u8 v) (z := .slice A17 m.length c17) HG18.out
  have HB1719 : Aside0 (Below w17.heap.size w17 W19) := ⟨by rw [hW]; exact HB18.out.trans (hp3.2.mono (by rw [HE18.out]; exact Nat.le_refl _))⟩
  have HB1419 := Aside0.mk (below_step HB17.out HB1719.out)
  have HG19 : Aside0 (W19.heap[g12]? = some (.cells #[.int .u8 u, .int .u8 v, .slice A17 m.length c17] 40 (0, 0))) := ⟨by rw [hW]; exact hp3.1⟩
  have HG319 := Aside0.mk (blk_below HG314.out HB1419.out)
  have HC19 := Aside0.mk (Kd.C_below (Kd.R_reads' HO17.out).2.2 HB1719.out)
  have HC17c := Aside0.mk (Kd.R_reads' HO17.out).2.1
  have HR19 := Aside0.mk (Kd.C_below HRg.out (below_step HB8.out (below_step HB814.out HB1419.out)))
  rw [← hW]
  clear hW hp3 hy0 hy1 hy2 hyf0 hyf1 hyf2
  refine start_ (n := 18) (S := fun w' => Below W19.heap.size W19 w') (ds := []) #[false, false, false, false, false, false, false, false, false, false, false, false, false, false, false, false, false, false] (by kernel_rfl) rfl rfl (below_drew (Below.refl _ _)) (fun hHeld => ?_)
  refine with_tabW frameapart_tab11 frameapart_bits11 (fun HT_ HW_ => ?_)
  refine pure_ (i := 0) (N := some 95) (v := ?_) (a' := ?_) #[true, false, false, false, false, false, false, false, false, false, false, false, false, false, false, false, false, false] rfl rfl (any_of HT_.out (by kernel_rfl)) (fun _ _ _ h => h) (Or.inl ⟨by rfl, ?_⟩) ?_ ?_
  rotate_left
  · intro w'
    go_simp
    with_reducible rfl
  rotate_left
  · simp only [Act.put, List.setIfInBounds_toArray, List.set_cons_zero, List.set_cons_succ, i64_w, i32_w]
    rfl
  refine pure_ (i := 1) (N := some 96) (v := ?_) (a' := ?_) #[true, true, false, false, false, false, false, false, false, false, false, false, false, false, false, false, false, false] rfl rfl (any_of HT_.out (by kernel_rfl)) (fun _ _ _ h => h) (Or.inl ⟨by rfl, ?_⟩) ?_ ?_
  rotate_left
  · intro w'
    go_simp
    with_reducible rfl
  rotate_left
  · simp only [Act.put, List.setIfInBounds_toArray, List.set_cons_zero, List.set_cons_succ, i64_w, i32_w]
    rfl
  refine pure_ (i := 2) (N := some 97) (v := ?_) (a' := ?_) #[true, true, true, false, false, false, false, false, false, false, false, false, false, false, false, false, false, false] rfl rfl (any_of HT_.out (by kernel_rfl)) (fun _ _ _ h => h) (Or.inl ⟨by rfl, ?_⟩) ?_ ?_
  rotate_left
  · intro w'
    go_simp
    with_reducible rfl
  rotate_left
  · simp only [Act.put, List.setIfInBounds_toArray, List.set_cons_zero, List.set_cons_succ, i64_w, i32_w]
    rfl
  refine pure_ (i := 3) (N := some 98) (v := ?_) (a' := ?_) #[true, true, true, true, false, false, false, false, false, false, false, false, false, false, false, false, false, false] rfl rfl (any_of HT_.out (by kernel_rfl)) (fun _ _ _ h => h) (Or.inl ⟨by rfl, ?_⟩) ?_ ?_
  rotate_left
  · intro w'
    go_simp
    with_reducible rfl
  rotate_left
  · simp only [Act.put, List.setIfInBounds_toArray, List.set_cons_zero, List.set_cons_succ, i64_w, i32_w]
    rfl
  refine pure_ (i := 4) (N := some 99) (v := ?_) (a' := ?_) #[true, true, true, true, true, false, false, false, false, false, false, false, false, false, false, false, false, false] rfl rfl (any_of HT_.out (by kernel_rfl)) (fun _ _ _ h => h) (Or.inl ⟨by rfl, ?_⟩) ?_ ?_
  rotate_left
  · intro w'
    go_simp
    with_reducible rfl
  rotate_left
  · simp only [Act.put, List.setIfInBounds_toArray, List.set_cons_zero, List.set_cons_succ, i64_w, i32_w]
    rfl
  refine pure_ (i := 5) (N := some 100) (v := ?_) (a' := ?_) #[true, true, true, true, true, true, false, false, false, false, false, false, false, false, false, false, false, false] rfl rfl (any_of HT_.out (by kernel_rfl)) (fun _ _ _ h => h) (Or.inl ⟨by rfl, ?_⟩) ?_ ?_
  rotate_left
  · intro w'
    go_simp
    with_reducible rfl
  rotate_left
  · simp only [Act.put, List.setIfInBounds_toArray, List.set_cons_zero, List.set_cons_succ, i64_w, i32_w]
    rfl
  refine pure_ (i := 6) (N := some 101) (v := ?_) (a' := ?_) #[true, true, true, true, true, true, true, false, false, false, false, false, false, false, false, false, false, false] rfl rfl (any_of HT_.out (by kernel_rfl)) (fun _ _ _ h => h) (Or.inl ⟨by rfl, ?_⟩) ?_ ?_
  rotate_left
  · intro w'
    go_simp
    with_reducible rfl
  rotate_left
  · simp only [Act.put, List.setIfInBounds_toArray, List.set_cons_zero, List.set_cons_succ, i64_w, i32_w]
    rfl
  refine pure_ (i := 7) (N := some 102) (v := ?_) (a' := ?_) #[true, true, true, true, true, true, true, true, false, false, false, false, false, false, false, false, false, false] rfl rfl (any_of HT_.out (by kernel_rfl)) (fun _ _ _ h => h) (Or.inl ⟨by rfl, ?_⟩) ?_ ?_
  rotate_left
  · intro w'
    go_simp
    with_reducible rfl
  rotate_left
  · simp only [Act.put, List.setIfInBounds_toArray, List.set_cons_zero, List.set_cons_succ, i64_w, i32_w]
    rfl
  refine pure_ (i := 8) (N := some 103) (v := ?_) (a' := ?_) #[true, true, true, true, true, true, true, true, true, false, false, false, false, false, false, false, false, false] rfl rfl (any_of HT_.out (by kernel_rfl)) (fun _ _ _ h => h) (Or.inl ⟨by rfl, ?_⟩) ?_ ?_
  rotate_left
  · intro w'
    go_simp
    with_reducible rfl
  rotate_left
  · simp only [Act.put, List.setIfInBounds_toArray, List.set_cons_zero, List.set_cons_succ, i64_w, i32_w]
    rfl
  refine take_ (i := 9) (N := some 104) (v := ?_) (a' := ?_) #[true, true, true, true, true, true, true, true, true, true, false, false, false, false, false, false, false, false] rfl rfl (take_ofW HT_.out HW_.out (by kernel_rfl)) (fun _ _ _ h => h) (Or.inl ⟨by rfl, ?_⟩) hHeld ?_ ?_
  rotate_left
  · intro w' s0
    have hz0 : w'.cell? ⟨g12, 0, none⟩ = some (.int .u8 u) := (blk_cell (Aside0.mk (blk_below HG19.out s0)).out 0).trans rfl
    have hz1 : w'.cell? ⟨g12, 1, none⟩ = some (.int .u8 v) := (blk_cell (Aside0.mk (blk_below HG19.out s0)).out 1).trans rfl
    have hz2 : w'.cell? ⟨g12, 2, none⟩ = some (.slice A17 m.length c17) := (blk_cell (Aside0.mk (blk_below HG19.out s0)).out 2).trans rfl
    go_simp
    with_reducible rfl
  rotate_left
  · simp only [Act.put, List.setIfInBounds_toArray, List.set_cons_zero, List.set_cons_succ, i64_w, i32_w]
    rfl
  refine take_ (i := 11) (N := some 106) (v := ?_) (a' := ?_) #[true, true, true, true, true, true, true, true, true, true, false, true, false, false, false, false, false, false] rfl rfl (take_ofW HT_.out HW_.out (by kernel_rfl)) (fun _ _ _ h => h) (Or.inl ⟨by rfl, ?_⟩) hHeld ?_ ?_
  rotate_left
  · intro w' s0
    have hz0 : w'.cell? ⟨g3, 0, none⟩ = some (.int .u8 u) := (blk_cell (Aside0.mk (blk_below HG319.out s0)).out 0).trans rfl
    have hz1 : w'.cell? ⟨g3, 1, none⟩ = some (.int .u8 v) := (blk_cell (Aside0.mk (blk_below HG319.out s0)).out 1).trans rfl
    have hz2 : w'.cell? ⟨g3, 2, none⟩ = some (.slice Ag m.length cg) := (blk_cell (Aside0.mk (blk_below HG319.out s0)).out 2).trans rfl
    go_simp
    with_reducible rfl
  rotate_left
  · simp only [Act.put, List.setIfInBounds_toArray, List.set_cons_zero, List.set_cons_succ, i64_w, i32_w]
    rfl
  refine one_ (i := 10) (N := some 105) #[true, true, true, true, true, true, true, true, true, true, true, true, false, false, false, false, false, false] rfl rfl (one_of HT_.out (by kernel_rfl)) (by decide) (fun K hK => ?_)
  refine goes_ Try.func29 (by kernel_rfl) rfl #[.agg #[.int .u8 u, .int .u8 v, .slice A17 m.length c17]] (by rfl) rfl rfl (by (try simp only [List.map_toArray, List.map_cons, List.map_nil]); first | done | rfl) ?_
  refine (back_any u v A17 m.length c17 _).mono ?_
  rintro e w20 ⟨rfl, hb⟩
  refine ⟨_, rfl, ?_⟩
  have HB20 := Aside0.mk (below_step hHeld hb)
  clear hb
  refine hK.out _ _ HB20.out (fun hHeld => ?_)
  clear hK K
  refine norm_ (a' := ?_) ?_ ?_
  rotate_left
  · show Act.put _ (some 105) _ = _
    simp only [Act.put, List.setIfInBounds_toArray, List.set_cons_zero, List.set_cons_succ, i64_w, i32_w]
    rfl
  refine one_ (i := 12) (N := some 107) #[true, true, true, true, true, true, true, true, true, true, true, true, true, false, false, false, false, false] rfl rfl (one_of HT_.out (by kernel_rfl)) (by decide) (fun K hK => ?_)
  refine goes_ Try.func28 (by kernel_rfl) rfl #[.agg #[.int .u8 u, .int .u8 v, .slice A17 m.length c17], .agg #[.int .u8 u, .int .u8 v, .slice Ag m.length cg]] (by rfl) rfl rfl (by (try simp only [List.map_toArray, List.map_cons, List.map_nil]); first | done | rfl) ?_
  refine (same_any u v A17 c17 m u v Ag cg m _ (Kd.C_below HC19.out hHeld) HC17c.out (Kd.C_below HR19.out hHeld) hc2 HYg.out HYg.out).mono ?_
  rw [HSMg.out]
  rintro e w21 ⟨rfl, hb⟩
  refine ⟨_, rfl, ?_⟩
  have HB21 := Aside0.mk (below_step hHeld hb)
  clear hb
  refine hK.out _ _ HB21.out (fun hHeld => ?_)
  clear hK K
  refine norm_ (a' := ?_) ?_ ?_
  rotate_left
  · show Act.put _ (some 107) _ = _
    simp only [Act.put, List.setIfInBounds_toArray, List.set_cons_zero, List.set_cons_succ, i64_w, i32_w]
    rfl
  refine pure_ (i := 13) (N := some 108) (v := ?_) (a' := ?_) #[true, true, true, true, true, true, true, true, true, true, true, true, true, true, false, false, false, false] rfl rfl (any_of HT_.out (by kernel_rfl)) (fun _ _ _ h => h) (Or.inl ⟨by rfl, ?_⟩) ?_ ?_
  rotate_left
  · intro w'
    go_simp
    with_reducible rfl
  rotate_left
  · simp only [Act.put, List.setIfInBounds_toArray, List.set_cons_zero, List.set_cons_succ, i64_w, i32_w]
    rfl
  refine pure_ (i := 14) (N := some 109) (v := ?_) (a' := ?_) #[true, true, true, true, true, true, true, true, true, true, true, true, true, true, true, false, false, false] rfl rfl (any_of HT_.out (by kernel_rfl)) (fun _ _ _ h => h) (Or.inl ⟨by rfl, ?_⟩) ?_ ?_
  rotate_left
  · intro w'
    go_simp
    with_reducible rfl
  rotate_left
  · simp only [Act.put, List.setIfInBounds_toArray, List.set_cons_zero, List.set_cons_succ, i64_w, i32_w]
    rfl
  refine one_ (i := 15) (N := some 110) #[true, true, true, true, true, true, true, true, true, true, true, true, true, true, true, true, false, false] rfl rfl (one_of HT_.out (by kernel_rfl)) (by decide) (fun K hK => ?_)
  refine goes_ Try.func30 (by kernel_rfl) rfl #[] (by rfl) rfl rfl (by (try simp only [List.map_toArray, List.map_cons, List.map_nil]); first | done | rfl) ?_
  refine (awake4_any _).mono ?_
  rintro e w22 ⟨rfl, hb⟩
  refine ⟨_, rfl, ?_⟩
  have HB22 := Aside0.mk (below_step HB21.out hb)
  clear hb
  refine hK.out _ _ HB22.out (fun hHeld => ?_)
  clear hK K
  refine norm_ (a' := ?_) ?_ ?_
  rotate_left
  · show Act.put _ (some 110) _ = _
    simp only [Act.put, List.setIfInBounds_toArray, List.set_cons_zero, List.set_cons_succ, i64_w, i32_w]
    rfl
  refine pure_ (i := 16) (N := some 111) (v := ?_) (a' := ?_) #[true, true, true, true, true, true, true, true, true, true, true, true, true, true, true, true, true, false] rfl rfl (any_of HT_.out (by kernel_rfl)) (fun _ _ _ h => h) (Or.inl ⟨by rfl, ?_⟩) ?_ ?_
  rotate_left
  · intro w'
    go_simp
    with_reducible rfl
  rotate_left
  · simp only [Act.put, List.setIfInBounds_toArray, List.set_cons_zero, List.set_cons_succ, i64_w, i32_w]
    rfl
  refine pure_ (i := 17) (N := some 4) (v := ?_) (a' := ?_) #[true, true, true, true, true, true, true, true, true, true, true, true, true, true, true, true, true, true] rfl rfl (any_of HT_.out (by kernel_rfl)) (fun _ _ _ h => h) (Or.inl ⟨by rfl, ?_⟩) ?_ ?_
  rotate_left
  · intro w'
    go_simp
    with_reducible rfl
  rotate_left
  · simp only [Act.put, List.setIfInBounds_toArray, List.set_cons_zero, List.set_cons_succ, i64_w, i32_w]
    rfl
  refine done_ (done_of HT_.out (by kernel_rfl)) ?_
  go_wp2
  go_ret
  exact ⟨rfl, below_step HB8.out (below_step HB814.out (below_step HB1419.out HB22.out))⟩

theorem frameapart_any (x y : Int) (A : Option Addr) (c : Nat) (l : List Int) (u v : Int) (Ag : Option Addr) (cg : Nat) (m : List Int) (w : World) (hr : Kd.C (Kd.int .u8) w A l.length l) (hc : l.length ≤ c) (hb : Byt l) (hr2 : Kd.C (Kd.int .u8) w Ag m.length m) (hc2 : m.length ≤ cg) (hb2 : Byt m) :
    Calls Try.prog 11 #[.agg #[.int .u8 x, .int .u8 y, .slice A l.length c], .agg #[.int .u8 u, .int .u8 v, .slice Ag m.length cg]] w fun e w' => e = .returned (.bool true) ∧ Below w.heap.size w w' := by
  by_cases he : rightF x y l = 0
  · by_cases heg : rightF u v m = 0
    · by_cases hn : 300 < l.length
      · exact frameapart_C x y A c l u v Ag cg m w hr hc hb hr2 hc2 hb2 he heg hn
      · by_cases hn2 : 300 < m.length
        · exact frameapart_D x y A c l u v Ag cg m w hr hc hb hr2 hc2 hb2 he heg (by omega) hn2
        · exact frameapart_E x y A c l u v Ag cg m w hr hc hb hr2 hc2 hb2 he heg (by omega) (by omega)
    · exact frameapart_B x y A c l u v Ag cg m w hr hc hb hr2 hc2 hb2 he _ rfl (by simpa using heg)
  · exact frameapart_A x y A c l u v Ag cg m w hr hc hb hr2 hc2 hb2 _ rfl (by simpa using he)
end Go.Proofs.Ytonbphiaideleaa.M
