/-
  No cell of these rows narrows 'for every input' (looked for: loops, veiled, ifaces, maps, wideKeys, modest, calm, conditions, laid).
  DERIVED. THE GIVEN ROWS OF THIS SEAT. 13 by the template 'for every input the law returns true; each argument reads behind the call as it read before'; 0 by the template 'total and deterministic' (their statements: YtonbphiaideleaaTotals.lean).
  GIVEN WITH THE SEED: the statements are not yours to turn. If you find one false, say at which input.
  Laid BY PROGRAM, IN A SANDBOX (cutbox-rows.mjs): the forced cells as the released guide's own fill.sh prints them over the translation a23e48769b164d3d… (all of the seat's roots in one cut). By AI agents, Wed Nov 11 2026. No macro, syntax, notation, axiom, sorry.
-/
import Derived.Test.YtonbphiaideleaaChecked
import GoSem.Claim
import GoSem.ClaimJoined
import GoSem.ClaimMapViews
import Derived.JoinedTies
import Derived.KernelRfl
namespace Go.Proofs.Ytonbphiaideleaa
/- THE CELL 'sum', in the pinned program and in every row, IS THE sha256 OF THE DUMP (.gsa) THAT YtonbphiaideleaaProg.lean LOADS. Nothing in Lean hashes anything: it is a label: what it is worth is what the hold of that sum in a sandbox is worth. -/
noncomputable def Try.pinned : Pinned := { name := "ytonbphiaideleaa", sum := "a23e48769b164d3dd1719e9fc3688cb53383447cacf69739a09dc629d9b6b4de", checked := Try.checked }
namespace Rows
def none {H : Type} : Left H := { results := [], args := [] }

/-- 'lacunalaw03.CrcSums': WHATEVER THE INPUT: true; the input reads as it did. -/
def crcSumsSpec : ChangeSpec := { name := "crcSums", fn := fun _ => fun
  | [d] => { results := [.lit (.bool true)], args := [d] }
  | _ => none }
def crcSumsRow : OpenClaim := { program := "ytonbphiaideleaa", sum := "a23e48769b164d3dd1719e9fc3688cb53383447cacf69739a09dc629d9b6b4de", func := "lacuna/lacunalaw03.CrcSums", spec := "crcSums", apart := false }
def CrcSumsSaid : Prop := crcSumsRow.holds Try.pinned (OpenSpec.ofChange crcSumsSpec)

/-- ITS FALSE NEIGHBOUR: 'it returns false'. Refute it at one input. -/
def crcSumsWrong : ChangeSpec := { name := "crcSums", fn := fun _ => fun
  | [d] => { results := [.lit (.bool false)], args := [d] }
  | _ => none }
def CrcSumsWrongFalsely : Prop := crcSumsRow.holds Try.pinned (OpenSpec.ofChange crcSumsWrong)

/-- 'lacunalaw03.CrcTogether': WHATEVER THE INPUT: true; the input reads as it did. -/
def crcTogetherSpec : ChangeSpec := { name := "crcTogether", fn := fun _ => fun
  | [d1, d2, d3] => { results := [.lit (.bool true)], args := [d1, d2, d3] }
  | _ => none }
def crcTogetherRow : OpenClaim := { program := "ytonbphiaideleaa", sum := "a23e48769b164d3dd1719e9fc3688cb53383447cacf69739a09dc629d9b6b4de", func := "lacuna/lacunalaw03.CrcTogether", spec := "crcTogether", apart := false }
def CrcTogetherSaid : Prop := crcTogetherRow.holds Try.pinned (OpenSpec.ofChange crcTogetherSpec)

/-- ITS FALSE NEIGHBOUR: 'it returns false'. Refute it at one input. -/
def crcTogetherWrong : ChangeSpec := { name := "crcTogether", fn := fun _ => fun
  | [d1, d2, d3] => { results := [.lit (.bool false)], args := [d1, d2, d3] }
  | _ => none }
def CrcTogetherWrongFalsely : Prop := crcTogetherRow.holds Try.pinned (OpenSpec.ofChange crcTogetherWrong)

/-- 'lacunalaw03.CrcParts': WHATEVER THE INPUT: true; the input reads as it did. -/
def crcPartsSpec : ChangeSpec := { name := "crcParts", fn := fun _ => fun
  | [d1, d2, d3] => { results := [.lit (.bool true)], args := [d1, d2, d3] }
  | _ => none }
def crcPartsRow : OpenClaim := { program := "ytonbphiaideleaa", sum := "a23e48769b164d3dd1719e9fc3688cb53383447cacf69739a09dc629d9b6b4de", func := "lacuna/lacunalaw03.CrcParts", spec := "crcParts", apart := false }
def CrcPartsSaid : Prop := crcPartsRow.holds Try.pinned (OpenSpec.ofChange crcPartsSpec)

/-- ITS FALSE NEIGHBOUR: 'it returns false'. Refute it at one input. -/
def crcPartsWrong : ChangeSpec := { name := "crcParts", fn := fun _ => fun
  | [d1, d2, d3] => { results := [.lit (.bool false)], args := [d1, d2, d3] }
  | _ => none }
def CrcPartsWrongFalsely : Prop := crcPartsRow.holds Try.pinned (OpenSpec.ofChange crcPartsWrong)

/-- 'lacunalaw03.CrcSigns': WHATEVER THE INPUT: true; the input reads as it did. -/
def crcSignsSpec : ChangeSpec := { name := "crcSigns", fn := fun _ => fun
  | [d1, d2] => { results := [.lit (.bool true)], args := [d1, d2] }
  | _ => none }
def crcSignsRow : OpenClaim := { program := "ytonbphiaideleaa", sum := "a23e48769b164d3dd1719e9fc3688cb53383447cacf69739a09dc629d9b6b4de", func := "lacuna/lacunalaw03.CrcSigns", spec := "crcSigns", apart := false }
def CrcSignsSaid : Prop := crcSignsRow.holds Try.pinned (OpenSpec.ofChange crcSignsSpec)

/-- ITS FALSE NEIGHBOUR: 'it returns false'. Refute it at one input. -/
def crcSignsWrong : ChangeSpec := { name := "crcSigns", fn := fun _ => fun
  | [d1, d2] => { results := [.lit (.bool false)], args := [d1, d2] }
  | _ => none }
def CrcSignsWrongFalsely : Prop := crcSignsRow.holds Try.pinned (OpenSpec.ofChange crcSignsWrong)

/-- 'lacunalaw03.CrcBursts': WHATEVER THE INPUT: true; the input reads as it did. -/
def crcBurstsSpec : ChangeSpec := { name := "crcBursts", fn := fun _ => fun
  | [d1, d2, d3] => { results := [.lit (.bool true)], args := [d1, d2, d3] }
  | _ => none }
def crcBurstsRow : OpenClaim := { program := "ytonbphiaideleaa", sum := "a23e48769b164d3dd1719e9fc3688cb53383447cacf69739a09dc629d9b6b4de", func := "lacuna/lacunalaw03.CrcBursts", spec := "crcBursts", apart := false }
def CrcBurstsSaid : Prop := crcBurstsRow.holds Try.pinned (OpenSpec.ofChange crcBurstsSpec)

/-- ITS FALSE NEIGHBOUR: 'it returns false'. Refute it at one input. -/
def crcBurstsWrong : ChangeSpec := { name := "crcBursts", fn := fun _ => fun
  | [d1, d2, d3] => { results := [.lit (.bool false)], args := [d1, d2, d3] }
  | _ => none }
def CrcBurstsWrongFalsely : Prop := crcBurstsRow.holds Try.pinned (OpenSpec.ofChange crcBurstsWrong)

/-- 'lacunalaw04.FrameParses': WHATEVER THE INPUT: true; the input reads as it did. -/
def frameParsesSpec : ChangeSpec := { name := "frameParses", fn := fun _ => fun
  | [d] => { results := [.lit (.bool true)], args := [d] }
  | _ => none }
def frameParsesRow : OpenClaim := { program := "ytonbphiaideleaa", sum := "a23e48769b164d3dd1719e9fc3688cb53383447cacf69739a09dc629d9b6b4de", func := "lacuna/lacunalaw04.FrameParses", spec := "frameParses", apart := false }
def FrameParsesSaid : Prop := frameParsesRow.holds Try.pinned (OpenSpec.ofChange frameParsesSpec)

/-- ITS FALSE NEIGHBOUR: 'it returns false'. Refute it at one input. -/
def frameParsesWrong : ChangeSpec := { name := "frameParses", fn := fun _ => fun
  | [d] => { results := [.lit (.bool false)], args := [d] }
  | _ => none }
def FrameParsesWrongFalsely : Prop := frameParsesRow.holds Try.pinned (OpenSpec.ofChange frameParsesWrong)

/-- 'lacunalaw04.FrameBack': WHATEVER THE INPUT: true; the input reads as it did. -/
def frameBackSpec : ChangeSpec := { name := "frameBack", fn := fun _ => fun
  | [d1, d2, d3] => { results := [.lit (.bool true)], args := [d1, d2, d3] }
  | _ => none }
def frameBackRow : OpenClaim := { program := "ytonbphiaideleaa", sum := "a23e48769b164d3dd1719e9fc3688cb53383447cacf69739a09dc629d9b6b4de", func := "lacuna/lacunalaw04.FrameBack", spec := "frameBack", apart := false }
def FrameBackSaid : Prop := frameBackRow.holds Try.pinned (OpenSpec.ofChange frameBackSpec)

/-- ITS FALSE NEIGHBOUR: 'it returns false'. Refute it at one input. -/
def frameBackWrong : ChangeSpec := { name := "frameBack", fn := fun _ => fun
  | [d1, d2, d3] => { results := [.lit (.bool false)], args := [d1, d2, d3] }
  | _ => none }
def FrameBackWrongFalsely : Prop := frameBackRow.holds Try.pinned (OpenSpec.ofChange frameBackWrong)

/-- 'lacunalaw04.FrameBursts': WHATEVER THE INPUT: true; the input reads as it did. -/
def frameBurstsSpec : ChangeSpec := { name := "frameBursts", fn := fun _ => fun
  | [d1, d2, d3] => { results := [.lit (.bool true)], args := [d1, d2, d3] }
  | _ => none }
def frameBurstsRow : OpenClaim := { program := "ytonbphiaideleaa", sum := "a23e48769b164d3dd1719e9fc3688cb53383447cacf69739a09dc629d9b6b4de", func := "lacuna/lacunalaw04.FrameBursts", spec := "frameBursts", apart := false }
def FrameBurstsSaid : Prop := frameBurstsRow.holds Try.pinned (OpenSpec.ofChange frameBurstsSpec)

/-- ITS FALSE NEIGHBOUR: 'it returns false'. Refute it at one input. -/
def frameBurstsWrong : ChangeSpec := { name := "frameBursts", fn := fun _ => fun
  | [d1, d2, d3] => { results := [.lit (.bool false)], args := [d1, d2, d3] }
  | _ => none }
def FrameBurstsWrongFalsely : Prop := frameBurstsRow.holds Try.pinned (OpenSpec.ofChange frameBurstsWrong)

/-- 'lacunalaw04.FrameApart': WHATEVER THE INPUT: true; the input reads as it did. -/
def frameApartSpec : ChangeSpec := { name := "frameApart", fn := fun _ => fun
  | [d1, d2] => { results := [.lit (.bool true)], args := [d1, d2] }
  | _ => none }
def frameApartRow : OpenClaim := { program := "ytonbphiaideleaa", sum := "a23e48769b164d3dd1719e9fc3688cb53383447cacf69739a09dc629d9b6b4de", func := "lacuna/lacunalaw04.FrameApart", spec := "frameApart", apart := false }
def FrameApartSaid : Prop := frameApartRow.holds Try.pinned (OpenSpec.ofChange frameApartSpec)

/-- ITS FALSE NEIGHBOUR: 'it returns false'. Refute it at one input. -/
def frameApartWrong : ChangeSpec := { name := "frameApart", fn := fun _ => fun
  | [d1, d2] => { results := [.lit (.bool false)], args := [d1, d2] }
  | _ => none }
def FrameApartWrongFalsely : Prop := frameApartRow.holds Try.pinned (OpenSpec.ofChange frameApartWrong)

/-- 'lacunalaw05.ScanAll': WHATEVER THE INPUT: true; the input reads as it did. -/
def scanAllSpec : ChangeSpec := { name := "scanAll", fn := fun _ => fun
  | [d] => { results := [.lit (.bool true)], args := [d] }
  | _ => none }
def scanAllRow : OpenClaim := { program := "ytonbphiaideleaa", sum := "a23e48769b164d3dd1719e9fc3688cb53383447cacf69739a09dc629d9b6b4de", func := "lacuna/lacunalaw05.ScanAll", spec := "scanAll", apart := false }
def ScanAllSaid : Prop := scanAllRow.holds Try.pinned (OpenSpec.ofChange scanAllSpec)

/-- ITS FALSE NEIGHBOUR: 'it returns false'. Refute it at one input. -/
def scanAllWrong : ChangeSpec := { name := "scanAll", fn := fun _ => fun
  | [d] => { results := [.lit (.bool false)], args := [d] }
  | _ => none }
def ScanAllWrongFalsely : Prop := scanAllRow.holds Try.pinned (OpenSpec.ofChange scanAllWrong)

/-- 'lacunalaw05.ScanStops': WHATEVER THE INPUT: true; the input reads as it did. -/
def scanStopsSpec : ChangeSpec := { name := "scanStops", fn := fun _ => fun
  | [d1, d2, d3] => { results := [.lit (.bool true)], args := [d1, d2, d3] }
  | _ => none }
def scanStopsRow : OpenClaim := { program := "ytonbphiaideleaa", sum := "a23e48769b164d3dd1719e9fc3688cb53383447cacf69739a09dc629d9b6b4de", func := "lacuna/lacunalaw05.ScanStops", spec := "scanStops", apart := false }
def ScanStopsSaid : Prop := scanStopsRow.holds Try.pinned (OpenSpec.ofChange scanStopsSpec)

/-- ITS FALSE NEIGHBOUR: 'it returns false'. Refute it at one input. -/
def scanStopsWrong : ChangeSpec := { name := "scanStops", fn := fun _ => fun
  | [d1, d2, d3] => { results := [.lit (.bool false)], args := [d1, d2, d3] }
  | _ => none }
def ScanStopsWrongFalsely : Prop := scanStopsRow.holds Try.pinned (OpenSpec.ofChange scanStopsWrong)

/-- 'lacunalaw05.ScanFeeds': WHATEVER THE INPUT: true; the input reads as it did. -/
def scanFeedsSpec : ChangeSpec := { name := "scanFeeds", fn := fun _ => fun
  | [d1, d2] => { results := [.lit (.bool true)], args := [d1, d2] }
  | _ => none }
def scanFeedsRow : OpenClaim := { program := "ytonbphiaideleaa", sum := "a23e48769b164d3dd1719e9fc3688cb53383447cacf69739a09dc629d9b6b4de", func := "lacuna/lacunalaw05.ScanFeeds", spec := "scanFeeds", apart := false }
def ScanFeedsSaid : Prop := scanFeedsRow.holds Try.pinned (OpenSpec.ofChange scanFeedsSpec)

/-- ITS FALSE NEIGHBOUR: 'it returns false'. Refute it at one input. -/
def scanFeedsWrong : ChangeSpec := { name := "scanFeeds", fn := fun _ => fun
  | [d1, d2] => { results := [.lit (.bool false)], args := [d1, d2] }
  | _ => none }
def ScanFeedsWrongFalsely : Prop := scanFeedsRow.holds Try.pinned (OpenSpec.ofChange scanFeedsWrong)

/-- 'lacunalaw05.ScanParts': WHATEVER THE INPUT: true; the input reads as it did. -/
def scanPartsSpec : ChangeSpec := { name := "scanParts", fn := fun _ => fun
  | [d1, d2] => { results := [.lit (.bool true)], args := [d1, d2] }
  | _ => none }
def scanPartsRow : OpenClaim := { program := "ytonbphiaideleaa", sum := "a23e48769b164d3dd1719e9fc3688cb53383447cacf69739a09dc629d9b6b4de", func := "lacuna/lacunalaw05.ScanParts", spec := "scanParts", apart := false }
def ScanPartsSaid : Prop := scanPartsRow.holds Try.pinned (OpenSpec.ofChange scanPartsSpec)

/-- ITS FALSE NEIGHBOUR: 'it returns false'. Refute it at one input. -/
def scanPartsWrong : ChangeSpec := { name := "scanParts", fn := fun _ => fun
  | [d1, d2] => { results := [.lit (.bool false)], args := [d1, d2] }
  | _ => none }
def ScanPartsWrongFalsely : Prop := scanPartsRow.holds Try.pinned (OpenSpec.ofChange scanPartsWrong)

/- THE SECOND FORM. 'bulk': how many values and letters a reading holds, each counted each time it is reached (what is shared counts as often as it is met; a slice's spare places count too). A statement '..UptoSaid' is the law's where the arguments, and the package variables that the reading takes, are together of bulk at most 1048576: NARROWER than '..Said'. Prove '..Said' where nothing that the law and all that it calls make is longer than what came in: it says more and counts as full. Else prove '..UptoSaid'. A law counts once. -/
mutual
def uptoBulk {H : Type} : DataW H → Nat
  | .lit (.string bytes) => bytes.length + 1
  | .lit _ => 1
  | .nil => 1
  | .ptr d => uptoBulk d + 1
  | .slice elems spare => uptoBulkAll elems + uptoBulkAll spare + 1
  | .agg parts => uptoBulkAll parts + 1
  | .iface _ d => uptoBulk d + 1
  | .map entries => uptoBulkEntries entries + 1
  | .held _ => 1
def uptoBulkAll {H : Type} : List (DataW H) → Nat
  | [] => 0
  | d :: r => uptoBulk d + uptoBulkAll r
def uptoBulkEntries {H : Type} : List (Lit × DataW H) → Nat
  | [] => 0
  | x :: r => uptoBulkEntry x + uptoBulkEntries r
def uptoBulkEntry {H : Type} : Lit × DataW H → Nat
  | (.string bytes, d) => bytes.length + uptoBulk d + 1
  | (_, d) => uptoBulk d + 1
 end
def uptoSmall : (H : Type) → List (DataW H) → Bool := fun _ ds => decide (uptoBulkAll ds ≤ 1048576)
def OpenSpec.upto (s : _root_.Go.ChangeSpec) : _root_.Go.OpenSpec := { _root_.Go.OpenSpec.ofChange s with cond := some uptoSmall }

/-- 'lacunalaw03.CrcSums', WHERE WHAT IT READS IS OF BULK AT MOST 1048576: true; the input reads as it did. -/
def crcSumsUptoRow : OpenClaim := { program := "ytonbphiaideleaa", sum := "a23e48769b164d3dd1719e9fc3688cb53383447cacf69739a09dc629d9b6b4de", func := "lacuna/lacunalaw03.CrcSums", spec := "crcSums", apart := false, narrowed := true }
def CrcSumsUptoSaid : Prop := crcSumsUptoRow.holds Try.pinned (OpenSpec.upto crcSumsSpec)

/-- 'lacunalaw03.CrcTogether', WHERE WHAT IT READS IS OF BULK AT MOST 1048576: true; the input reads as it did. -/
def crcTogetherUptoRow : OpenClaim := { program := "ytonbphiaideleaa", sum := "a23e48769b164d3dd1719e9fc3688cb53383447cacf69739a09dc629d9b6b4de", func := "lacuna/lacunalaw03.CrcTogether", spec := "crcTogether", apart := false, narrowed := true }
def CrcTogetherUptoSaid : Prop := crcTogetherUptoRow.holds Try.pinned (OpenSpec.upto crcTogetherSpec)

/-- 'lacunalaw03.CrcParts', WHERE WHAT IT READS IS OF BULK AT MOST 1048576: true; the input reads as it did. -/
def crcPartsUptoRow : OpenClaim := { program := "ytonbphiaideleaa", sum := "a23e48769b164d3dd1719e9fc3688cb53383447cacf69739a09dc629d9b6b4de", func := "lacuna/lacunalaw03.CrcParts", spec := "crcParts", apart := false, narrowed := true }
def CrcPartsUptoSaid : Prop := crcPartsUptoRow.holds Try.pinned (OpenSpec.upto crcPartsSpec)

/-- 'lacunalaw03.CrcSigns', WHERE WHAT IT READS IS OF BULK AT MOST 1048576: true; the input reads as it did. -/
def crcSignsUptoRow : OpenClaim := { program := "ytonbphiaideleaa", sum := "a23e48769b164d3dd1719e9fc3688cb53383447cacf69739a09dc629d9b6b4de", func := "lacuna/lacunalaw03.CrcSigns", spec := "crcSigns", apart := false, narrowed := true }
def CrcSignsUptoSaid : Prop := crcSignsUptoRow.holds Try.pinned (OpenSpec.upto crcSignsSpec)

/-- 'lacunalaw03.CrcBursts', WHERE WHAT IT READS IS OF BULK AT MOST 1048576: true; the input reads as it did. -/
def crcBurstsUptoRow : OpenClaim := { program := "ytonbphiaideleaa", sum := "a23e48769b164d3dd1719e9fc3688cb53383447cacf69739a09dc629d9b6b4de", func := "lacuna/lacunalaw03.CrcBursts", spec := "crcBursts", apart := false, narrowed := true }
def CrcBurstsUptoSaid : Prop := crcBurstsUptoRow.holds Try.pinned (OpenSpec.upto crcBurstsSpec)

/-- 'lacunalaw04.FrameParses', WHERE WHAT IT READS IS OF BULK AT MOST 1048576: true; the input reads as it did. -/
def frameParsesUptoRow : OpenClaim := { program := "ytonbphiaideleaa", sum := "a23e48769b164d3dd1719e9fc3688cb53383447cacf69739a09dc629d9b6b4de", func := "lacuna/lacunalaw04.FrameParses", spec := "frameParses", apart := false, narrowed := true }
def FrameParsesUptoSaid : Prop := frameParsesUptoRow.holds Try.pinned (OpenSpec.upto frameParsesSpec)

/-- 'lacunalaw04.FrameBack', WHERE WHAT IT READS IS OF BULK AT MOST 1048576: true; the input reads as it did. -/
def frameBackUptoRow : OpenClaim := { program := "ytonbphiaideleaa", sum := "a23e48769b164d3dd1719e9fc3688cb53383447cacf69739a09dc629d9b6b4de", func := "lacuna/lacunalaw04.FrameBack", spec := "frameBack", apart := false, narrowed := true }
def FrameBackUptoSaid : Prop := frameBackUptoRow.holds Try.pinned (OpenSpec.upto frameBackSpec)

/-- 'lacunalaw04.FrameBursts', WHERE WHAT IT READS IS OF BULK AT MOST 1048576: true; the input reads as it did. -/
def frameBurstsUptoRow : OpenClaim := { program := "ytonbphiaideleaa", sum := "a23e48769b164d3dd1719e9fc3688cb53383447cacf69739a09dc629d9b6b4de", func := "lacuna/lacunalaw04.FrameBursts", spec := "frameBursts", apart := false, narrowed := true }
def FrameBurstsUptoSaid : Prop := frameBurstsUptoRow.holds Try.pinned (OpenSpec.upto frameBurstsSpec)

/-- 'lacunalaw04.FrameApart', WHERE WHAT IT READS IS OF BULK AT MOST 1048576: true; the input reads as it did. -/
def frameApartUptoRow : OpenClaim := { program := "ytonbphiaideleaa", sum := "a23e48769b164d3dd1719e9fc3688cb53383447cacf69739a09dc629d9b6b4de", func := "lacuna/lacunalaw04.FrameApart", spec := "frameApart", apart := false, narrowed := true }
def FrameApartUptoSaid : Prop := frameApartUptoRow.holds Try.pinned (OpenSpec.upto frameApartSpec)

/-- 'lacunalaw05.ScanAll', WHERE WHAT IT READS IS OF BULK AT MOST 1048576: true; the input reads as it did. -/
def scanAllUptoRow : OpenClaim := { program := "ytonbphiaideleaa", sum := "a23e48769b164d3dd1719e9fc3688cb53383447cacf69739a09dc629d9b6b4de", func := "lacuna/lacunalaw05.ScanAll", spec := "scanAll", apart := false, narrowed := true }
def ScanAllUptoSaid : Prop := scanAllUptoRow.holds Try.pinned (OpenSpec.upto scanAllSpec)

/-- 'lacunalaw05.ScanStops', WHERE WHAT IT READS IS OF BULK AT MOST 1048576: true; the input reads as it did. -/
def scanStopsUptoRow : OpenClaim := { program := "ytonbphiaideleaa", sum := "a23e48769b164d3dd1719e9fc3688cb53383447cacf69739a09dc629d9b6b4de", func := "lacuna/lacunalaw05.ScanStops", spec := "scanStops", apart := false, narrowed := true }
def ScanStopsUptoSaid : Prop := scanStopsUptoRow.holds Try.pinned (OpenSpec.upto scanStopsSpec)

/-- 'lacunalaw05.ScanFeeds', WHERE WHAT IT READS IS OF BULK AT MOST 1048576: true; the input reads as it did. -/
def scanFeedsUptoRow : OpenClaim := { program := "ytonbphiaideleaa", sum := "a23e48769b164d3dd1719e9fc3688cb53383447cacf69739a09dc629d9b6b4de", func := "lacuna/lacunalaw05.ScanFeeds", spec := "scanFeeds", apart := false, narrowed := true }
def ScanFeedsUptoSaid : Prop := scanFeedsUptoRow.holds Try.pinned (OpenSpec.upto scanFeedsSpec)

/-- 'lacunalaw05.ScanParts', WHERE WHAT IT READS IS OF BULK AT MOST 1048576: true; the input reads as it did. -/
def scanPartsUptoRow : OpenClaim := { program := "ytonbphiaideleaa", sum := "a23e48769b164d3dd1719e9fc3688cb53383447cacf69739a09dc629d9b6b4de", func := "lacuna/lacunalaw05.ScanParts", spec := "scanParts", apart := false, narrowed := true }
def ScanPartsUptoSaid : Prop := scanPartsUptoRow.holds Try.pinned (OpenSpec.upto scanPartsSpec)

end Rows
end Go.Proofs.Ytonbphiaideleaa
