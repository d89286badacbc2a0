/-
  DERIVED. GIVEN WITH THE SEED: THE CARDS: each row of YtonbphiaideleaaDoorRows.lean that lists a variable, with what it lists TIED to the program's text (the seventh form; the later family's looks); each row that meets fmt, with fmt's text TOLD by the authors' own Lean function (tested against real Go, not proved from fmt's source: count such statements apart). THE CARD IS WHAT COUNTS. Prove the row's statement (the work); the ties are given (YtonbphiaideleaaDoorTie.lean); close each card by the builder's one call (the guide's Derived/Test/ToyasCard.lean, 'card_holds'). Laid BY PROGRAM, IN A SANDBOX (cutbox-door.mjs). By AI agents, Wed Nov 11 2026. No macro, syntax, notation, axiom, sorry.
-/
import Derived.Test.YtonbphiaideleaaDoorRows
import GoSem.ClaimSeven
namespace Go.Proofs.YtonbphiaideleaaDoor
namespace Rows

/-- THE TIED CARD OF 'lacunalaw04.FrameMakes'. -/
def frameMakesCard : Claim7 := { stood := { row := frameMakesRow, standIns := [], harness := (true, "7cd177aca8558ec75bad5a6d06553ee56bb89d53e941c9d9dc6c706327f16fd5"), looks := false }, kinds := [], alts := [], laidByText := true, laidKinds := [.data], laidTests := true, laidLooks := .later }
def FrameMakesCardSaid : Prop := Claim7.holds Tryd.pinned (.plain (OpenSpec.ofChange frameMakesSpec)) frameMakesCard

/-- THE SECOND FORM's CARD OF 'lacunalaw04.FrameMakes'. -/
def frameMakesUptoCard : Claim7 := { stood := { row := frameMakesUptoRow, standIns := [], harness := (true, "7cd177aca8558ec75bad5a6d06553ee56bb89d53e941c9d9dc6c706327f16fd5"), looks := false }, kinds := [], alts := [], laidByText := true, laidKinds := [.data], laidTests := true, laidLooks := .later }
def FrameMakesUptoCardSaid : Prop := Claim7.holds Tryd.pinned (.plain (OpenSpec.upto frameMakesSpec)) frameMakesUptoCard
end Rows
end Go.Proofs.YtonbphiaideleaaDoor
