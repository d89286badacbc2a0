/- Are bytes signed: the program's and the reference's. -/
import Derived.Test.YtonbphiaideleaaMref3
namespace Go.Proofs.Ytonbphiaideleaa.M
open Go.RowKit Go.Proofs.YtonbphiaideleaaW.PrintWords
set_option linter.unusedVariables false
set_option linter.unusedSimpArgs false

theorem strOfNums_inj {l m : List Int} (hl : Byt l) (hm : Byt m) (h : (strOfNums l).toList = (strOfNums m).toList) : l = m := by
  rw [ByteArray.toList_eq, ByteArray.toList_eq, strOfNums_data, strOfNums_data] at h
  have hlen : l.length = m.length := by have := congrArg List.length h; simpa using this
  refine List.ext_getElem hlen (fun i h1 h2 => ?_)
  have h3 := congrArg (fun z => z[i]?) h
  simp only [List.getElem?_map, List.getElem?_eq_getElem h1, List.getElem?_eq_getElem h2, Option.map_some, Option.some.injEq] at h3
  have ha := hl l[i] (List.getElem_mem h1)
  have hb := hm m[i] (List.getElem_mem h2)
  have h4 := congrArg UInt8.toNat h3
  simp only [UInt8.toNat_ofNat'] at h4
  omega
theorem str_eq {l m : List Int} (hl : Byt l) (hm : Byt m) : ((strOfNums l).toList == (strOfNums m).toList) = decide (l = m) := by
  by_cases h : l = m
  · subst h; simp
  · rw [decide_eq_false h, beq_eq_false_iff_ne]
    exact fun e => h (strOfNums_inj hl hm e)

set_option maxHeartbeats 1000000 in
set_option maxRecDepth 100000 in
theorem equal_any (A : Option Addr) (c : Nat) (l : List Int) (A2 : Option Addr) (c2 : Nat) (m : List Int) (w : World) (hr : Kd.C (Kd.int .u8) w A l.length l) (hr2 : Kd.C (Kd.int .u8) w A2 m.length m) (hl : Byt l) (hm : Byt m) :
    Calls Try.prog 45 #[.slice A l.length c, .slice A2 m.length c2] w fun e w' => e = .returned (.bool (decide (l = m))) ∧ w = w' := by
  have hcv3 := Kd.C_string (P := Try.prog) (A := A) (c := c) Try.underlying23 Try.underlying5 Try.underlying9 hr
  have hcv4 := Kd.C_string (P := Try.prog) (A := A2) (c := c2) Try.underlying23 Try.underlying5 Try.underlying9 hr2
  have HE := Aside0.mk (str_eq hl hm)
  clear hr hr2 hl hm
  go_enter Try.func45, Try.ntmps45
  go_wp2
  go_ret
  exact ⟨by rw [← HE.out]; rfl, rfl⟩

theorem le4_byt (s : Int) : Byt (le4 s) := by
  intro x hx
  simp only [le4, List.mem_cons, List.not_mem_nil, or_false] at hx
  omega
theorem sg_byt {l : List Int} (h : Byt l) : Byt (sg l) := h.append (le4_byt _)
theorem sg_length (l : List Int) : (sg l).length = l.length + 4 := by simp [sg, le4]
/-- Are they signed bytes? -/
def isSg (l : List Int) : Bool := decide (4 ≤ l.length) && decide (sg (l.take (l.length - 4)) = l)

set_option maxHeartbeats 1000000 in
set_option maxRecDepth 100000 in
theorem signed_any (A : Option Addr) (c : Nat) (l : List Int) (w : World) (hr : Kd.C (Kd.int .u8) w A l.length l) (hc : l.length ≤ c) (hb : Byt l) (hl : l.length < 140737488355328) :
    Calls Try.prog 23 #[.slice A l.length c] w fun e w' => e = .returned (.bool (isSg l)) ∧ Below w.heap.size w w' := by
  have HB := Aside0.mk (Below.refl w.heap.size w)
  by_cases h4 : 4 ≤ l.length
  · obtain ⟨i05, hi05, _, hsz5, _⟩ := info_parts info5
    obtain ⟨hcut, hA, hC⟩ := print_take_of (P := Try.prog) (Value.int .u8) 0 23 5 .i64 Try.underlying23 hi05 hsz5 A c l ((l.length : Int) - 4) (by omega) (by omega) hc
    have hn : ((l.length : Int) - 4).toNat = l.length - 4 := by omega
    rw [hn] at hcut hA hC
    have HR := Aside0.mk hr
    have hr2 := Kd.C_of_reads (h1 := fun _ => rfl) (hA _ (Kd.reads_of_C hr))
    have hlt : (l.take (l.length - 4)).length + 4 < 140737488355328 := by rw [List.length_take]; omega
    have hv : isSg l = decide (sg (l.take (l.length - 4)) = l) := by simp [isSg, h4]
    have hym := hb.take (l.length - 4)
    obtain ⟨m, hm⟩ : ∃ m, m = l.take (l.length - 4) := ⟨_, rfl⟩
    rw [← hm] at hcut hr2 hC hlt hv hym
    have HR2 := Aside0.mk hr2
    have HC2 := Aside0.mk hC
    clear hr hr2 hA hC hi05 hsz5 hn hm
    have HY := Aside0.mk hb
    have HYM := Aside0.mk hym
    clear hb hym
    have HL2 := Aside0.mk hlt
    clear hlt
    have HV := Aside0.mk hv
    clear hv
    have hge : decide ((0 : Int) ≤ (l.length : Int) - 4) = true := by simp; omega
    have hge2 : (4 : Int) ≤ (l.length : Int) := by omega
    have hl63 : (l.length : Int) < 140737488355328 := by omega
    go_enter Try.func23, Try.ntmps23
    go_wp2_with (first
      | (go_at_call 20; refine (sign_any _ _ _ _ HR2.out HC2.out HL2.out).mono ?_; rintro e w1 ⟨v, rfl, ho, hb⟩; rw [signF_sg HYM.out] at ho; have HO := Aside0.mk ho; have HB1 := Aside0.mk hb; clear ho hb; obtain ⟨Ao, co, eo⟩ := Kd.R_slice HO.out; subst eo)
      | (go_at_call 45; refine (equal_any _ _ _ _ _ _ _ (Kd.R_reads' HO.out).2.2 (Kd.C_below HR.out HB1.out) (sg_byt HYM.out) HY.out).mono ?_; rintro e w2 ⟨rfl, rfl⟩))
    go_ret
    exact ⟨by rw [HV.out]; rfl, HB1.out⟩
  · have HV := Aside0.mk (show isSg l = false by simp [isSg, h4])
    clear hr hb
    obtain ⟨n, hn⟩ : ∃ n, n = l.length := ⟨_, rfl⟩
    rw [← hn] at h4 ⊢
    clear hn hl hc
    have hn : n = 0 ∨ n = 1 ∨ n = 2 ∨ n = 3 := by omega
    clear h4
    rcases hn with rfl | rfl | rfl | rfl
    all_goals
      go_enter Try.func23, Try.ntmps23
      go_wp2
      go_ret
      exact ⟨by rw [HV.out]; rfl, HB.out⟩
end Go.Proofs.Ytonbphiaideleaa.M
