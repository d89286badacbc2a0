import Derived.Test.YtonbphiaideleaaPCx4
import Derived.Test.YtonbphiaideleaaMparse
import Derived.Test.YtonbphiaideleaaMrow
namespace Go.Proofs.Ytonbphiaideleaa.Pure
open Go.RowKit Go.Proofs.Ytonbphiaideleaa.PC Go.Proofs.YtonbphiaideleaaW.PrintWords Go.Proofs.YtonbphiaideleaaW.PrintLast

theorem FrameParses : lacunalaw04_FrameParses.Pure := by
  intro l hm hl hw
  have hb : M.Byt l := fun x hx => M.wf_u8 (hw x hx)
  refine ⟨3, ?_⟩
  unfold lacunalaw04_FrameParses.f
  by_cases h : (l.length : Int) > 5000
  · rw [if_pos h]
  · rw [if_neg h, M.parse_f hb (by omega), Option.bind_some, M.refParse_f hb (by omega) 0, Option.bind_some]
    simp only [lacunalaw04_Back.f, Option.bind_some, M.same_refl, if_true, lacunalaw04_awake.f]
end Go.Proofs.Ytonbphiaideleaa.Pure
