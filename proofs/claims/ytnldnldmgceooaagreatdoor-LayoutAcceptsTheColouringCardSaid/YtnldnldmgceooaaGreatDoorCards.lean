/-
  DERIVED. GIVEN WITH THE SEED: THE CARDS: each row of YtnldnldmgceooaaGreatDoorRows.lean that lists a variable, with what it lists TIED to the program's text (the seventh form; the later family's looks); each row that meets fmt, with fmt's text TOLD by the authors' own Lean function (tested against real Go, not proved from fmt's source: count such statements apart). THE CARD IS WHAT COUNTS. Prove the row's statement (the work); the ties are given (YtnldnldmgceooaaGreatDoorTie.lean); close each card by the builder's one call (the guide's Derived/Test/ToyasCard.lean, 'card_holds'). Laid BY PROGRAM, IN A SANDBOX (cutbox-door.mjs). By AI agents, Wed Nov 11 2026. No macro, syntax, notation, axiom, sorry.
-/
import Derived.Test.YtnldnldmgceooaaGreatDoorRows
import GoSem.ClaimSeven
namespace Go.Proofs.YtnldnldmgceooaaGreatDoor
namespace Rows

/-- THE TIED CARD OF 'spillframelaw25.LayoutAcceptsBaseline'. -/
def layoutAcceptsBaselineCard : Claim7 := { stood := { row := layoutAcceptsBaselineRow, standIns := [], harness := (true, "f15c018fac6c267fa1e61fed01fb95463b85bfe5ed0e4f0e6765edced0c75bbd"), looks := false }, kinds := [], alts := [], laidByText := true, laidKinds := [.data], laidTests := true, laidLooks := .later }
def LayoutAcceptsBaselineCardSaid : Prop := Claim7.holds Tryz.pinned (.plain (OpenSpec.ofChange layoutAcceptsBaselineSpec)) layoutAcceptsBaselineCard

/-- THE TIED CARD OF 'spillframelaw25.LayoutKeepsLiveBytes'. -/
def layoutKeepsLiveBytesCard : Claim7 := { stood := { row := layoutKeepsLiveBytesRow, standIns := [], harness := (true, "f15c018fac6c267fa1e61fed01fb95463b85bfe5ed0e4f0e6765edced0c75bbd"), looks := false }, kinds := [], alts := [], laidByText := true, laidKinds := [.data], laidTests := true, laidLooks := .later }
def LayoutKeepsLiveBytesCardSaid : Prop := Claim7.holds Tryz.pinned (.plain (OpenSpec.ofChange layoutKeepsLiveBytesSpec)) layoutKeepsLiveBytesCard

/-- THE TIED CARD OF 'spillframelaw25.LayoutNeedsTheAnnotation'. -/
def layoutNeedsTheAnnotationCard : Claim7 := { stood := { row := layoutNeedsTheAnnotationRow, standIns := [], harness := (true, "f15c018fac6c267fa1e61fed01fb95463b85bfe5ed0e4f0e6765edced0c75bbd"), looks := false }, kinds := [], alts := [], laidByText := true, laidKinds := [.data], laidTests := true, laidLooks := .later }
def LayoutNeedsTheAnnotationCardSaid : Prop := Claim7.holds Tryz.pinned (.plain (OpenSpec.ofChange layoutNeedsTheAnnotationSpec)) layoutNeedsTheAnnotationCard

/-- THE TIED CARD OF 'spillframelaw25.LayoutCheck'. -/
def layoutCheckCard : Claim7 := { stood := { row := layoutCheckRow, standIns := [], harness := (true, "f15c018fac6c267fa1e61fed01fb95463b85bfe5ed0e4f0e6765edced0c75bbd"), looks := false }, kinds := [], alts := [], laidByText := true, laidKinds := [.data], laidTests := true, laidLooks := .later }
def LayoutCheckCardSaid : Prop := Claim7.holds Tryz.pinned (.plain (OpenSpec.ofChange layoutCheckSpec)) layoutCheckCard

/-- THE TIED CARD OF 'spillframelaw25.LayoutAcceptsTheColouring'. -/
def layoutAcceptsTheColouringCard : Claim7 := { stood := { row := layoutAcceptsTheColouringRow, standIns := [], harness := (true, "f15c018fac6c267fa1e61fed01fb95463b85bfe5ed0e4f0e6765edced0c75bbd"), looks := false }, kinds := [], alts := [], laidByText := true, laidKinds := [.data], laidTests := true, laidLooks := .later }
def LayoutAcceptsTheColouringCardSaid : Prop := Claim7.holds Tryz.pinned (.plain (OpenSpec.ofChange layoutAcceptsTheColouringSpec)) layoutAcceptsTheColouringCard

/-- THE SECOND FORM's CARD OF 'spillframelaw25.LayoutAcceptsBaseline'. -/
def layoutAcceptsBaselineUptoCard : Claim7 := { stood := { row := layoutAcceptsBaselineUptoRow, standIns := [], harness := (true, "f15c018fac6c267fa1e61fed01fb95463b85bfe5ed0e4f0e6765edced0c75bbd"), looks := false }, kinds := [], alts := [], laidByText := true, laidKinds := [.data], laidTests := true, laidLooks := .later }
def LayoutAcceptsBaselineUptoCardSaid : Prop := Claim7.holds Tryz.pinned (.plain (OpenSpec.upto layoutAcceptsBaselineSpec)) layoutAcceptsBaselineUptoCard

/-- THE SECOND FORM's CARD OF 'spillframelaw25.LayoutKeepsLiveBytes'. -/
def layoutKeepsLiveBytesUptoCard : Claim7 := { stood := { row := layoutKeepsLiveBytesUptoRow, standIns := [], harness := (true, "f15c018fac6c267fa1e61fed01fb95463b85bfe5ed0e4f0e6765edced0c75bbd"), looks := false }, kinds := [], alts := [], laidByText := true, laidKinds := [.data], laidTests := true, laidLooks := .later }
def LayoutKeepsLiveBytesUptoCardSaid : Prop := Claim7.holds Tryz.pinned (.plain (OpenSpec.upto layoutKeepsLiveBytesSpec)) layoutKeepsLiveBytesUptoCard

/-- THE SECOND FORM's CARD OF 'spillframelaw25.LayoutNeedsTheAnnotation'. -/
def layoutNeedsTheAnnotationUptoCard : Claim7 := { stood := { row := layoutNeedsTheAnnotationUptoRow, standIns := [], harness := (true, "f15c018fac6c267fa1e61fed01fb95463b85bfe5ed0e4f0e6765edced0c75bbd"), looks := false }, kinds := [], alts := [], laidByText := true, laidKinds := [.data], laidTests := true, laidLooks := .later }
def LayoutNeedsTheAnnotationUptoCardSaid : Prop := Claim7.holds Tryz.pinned (.plain (OpenSpec.upto layoutNeedsTheAnnotationSpec)) layoutNeedsTheAnnotationUptoCard

/-- THE SECOND FORM's CARD OF 'spillframelaw25.LayoutCheck'. -/
def layoutCheckUptoCard : Claim7 := { stood := { row := layoutCheckUptoRow, standIns := [], harness := (true, "f15c018fac6c267fa1e61fed01fb95463b85bfe5ed0e4f0e6765edced0c75bbd"), looks := false }, kinds := [], alts := [], laidByText := true, laidKinds := [.data], laidTests := true, laidLooks := .later }
def LayoutCheckUptoCardSaid : Prop := Claim7.holds Tryz.pinned (.plain (OpenSpec.upto layoutCheckSpec)) layoutCheckUptoCard

/-- THE SECOND FORM's CARD OF 'spillframelaw25.LayoutAcceptsTheColouring'. -/
def layoutAcceptsTheColouringUptoCard : Claim7 := { stood := { row := layoutAcceptsTheColouringUptoRow, standIns := [], harness := (true, "f15c018fac6c267fa1e61fed01fb95463b85bfe5ed0e4f0e6765edced0c75bbd"), looks := false }, kinds := [], alts := [], laidByText := true, laidKinds := [.data], laidTests := true, laidLooks := .later }
def LayoutAcceptsTheColouringUptoCardSaid : Prop := Claim7.holds Tryz.pinned (.plain (OpenSpec.upto layoutAcceptsTheColouringSpec)) layoutAcceptsTheColouringUptoCard
end Rows
end Go.Proofs.YtnldnldmgceooaaGreatDoor
