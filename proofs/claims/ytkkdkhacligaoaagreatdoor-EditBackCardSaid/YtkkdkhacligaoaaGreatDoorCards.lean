/-
  DERIVED. GIVEN WITH THE SEED: THE CARDS: each row of YtkkdkhacligaoaaGreatDoorRows.lean that lists a variable, with what it lists TIED to the program's text (the seventh form; the later family's looks); each row that meets fmt, with fmt's text TOLD by the authors' own Lean function (tested against real Go, not proved from fmt's source: count such statements apart). THE CARD IS WHAT COUNTS. Prove the row's statement (the work); the ties are given (YtkkdkhacligaoaaGreatDoorTie.lean); close each card by the builder's one call (the guide's Derived/Test/ToyasCard.lean, 'card_holds'). Laid BY PROGRAM, IN A SANDBOX (cutbox-door.mjs). By AI agents, Wed Nov 11 2026. No macro, syntax, notation, axiom, sorry.
-/
import Derived.Test.YtkkdkhacligaoaaGreatDoorRows
import GoSem.ClaimSeven
namespace Go.Proofs.YtkkdkhacligaoaaGreatDoor
namespace Rows

/-- THE TIED CARD OF 'cordwoodlaw14.EditBack'. -/
def editBackCard : Claim7 := { stood := { row := editBackRow, standIns := [], harness := (true, "36bfb7b06c68adbb6f4add763fdcd346b2d71ed06da0e6e8650f2f87b52eb817"), looks := false }, kinds := [], alts := [], laidByText := true, laidKinds := [.data, .data, .data], laidTests := true, laidLooks := .later }
def EditBackCardSaid : Prop := Claim7.holds Tryz.pinned (.plain (OpenSpec.ofChange editBackSpec)) editBackCard

/-- THE TIED CARD OF 'cordwoodlaw14.EditFull'. -/
def editFullCard : Claim7 := { stood := { row := editFullRow, standIns := [], harness := (true, "36bfb7b06c68adbb6f4add763fdcd346b2d71ed06da0e6e8650f2f87b52eb817"), looks := false }, kinds := [], alts := [], laidByText := true, laidKinds := [.data, .data, .data], laidTests := true, laidLooks := .later }
def EditFullCardSaid : Prop := Claim7.holds Tryz.pinned (.plain (OpenSpec.ofChange editFullSpec)) editFullCard

/-- THE TIED CARD OF 'cordwoodlaw14.EditOrder'. -/
def editOrderCard : Claim7 := { stood := { row := editOrderRow, standIns := [], harness := (true, "36bfb7b06c68adbb6f4add763fdcd346b2d71ed06da0e6e8650f2f87b52eb817"), looks := false }, kinds := [], alts := [], laidByText := true, laidKinds := [.data, .data, .data], laidTests := true, laidLooks := .later }
def EditOrderCardSaid : Prop := Claim7.holds Tryz.pinned (.plain (OpenSpec.ofChange editOrderSpec)) editOrderCard

/-- THE TIED CARD OF 'cordwoodlaw14.EditIs'. -/
def editIsCard : Claim7 := { stood := { row := editIsRow, standIns := [], harness := (true, "36bfb7b06c68adbb6f4add763fdcd346b2d71ed06da0e6e8650f2f87b52eb817"), looks := false }, kinds := [], alts := [], laidByText := true, laidKinds := [.data, .data, .data], laidTests := true, laidLooks := .later }
def EditIsCardSaid : Prop := Claim7.holds Tryz.pinned (.plain (OpenSpec.ofChange editIsSpec)) editIsCard

/-- THE TIED CARD OF 'cordwoodlaw14.EditValid'. -/
def editValidCard : Claim7 := { stood := { row := editValidRow, standIns := [], harness := (true, "36bfb7b06c68adbb6f4add763fdcd346b2d71ed06da0e6e8650f2f87b52eb817"), looks := false }, kinds := [], alts := [], laidByText := true, laidKinds := [.data, .data, .data], laidTests := true, laidLooks := .later }
def EditValidCardSaid : Prop := Claim7.holds Tryz.pinned (.plain (OpenSpec.ofChange editValidSpec)) editValidCard

/-- THE TIED CARD OF 'cordwoodlaw14.EditKeeps'. -/
def editKeepsCard : Claim7 := { stood := { row := editKeepsRow, standIns := [], harness := (true, "36bfb7b06c68adbb6f4add763fdcd346b2d71ed06da0e6e8650f2f87b52eb817"), looks := false }, kinds := [], alts := [], laidByText := true, laidKinds := [.data, .data, .data], laidTests := true, laidLooks := .later }
def EditKeepsCardSaid : Prop := Claim7.holds Tryz.pinned (.plain (OpenSpec.ofChange editKeepsSpec)) editKeepsCard

/-- THE TIED CARD OF 'cordwoodlaw14.EditGone'. -/
def editGoneCard : Claim7 := { stood := { row := editGoneRow, standIns := [], harness := (true, "36bfb7b06c68adbb6f4add763fdcd346b2d71ed06da0e6e8650f2f87b52eb817"), looks := false }, kinds := [], alts := [], laidByText := true, laidKinds := [.data, .data, .data], laidTests := true, laidLooks := .later }
def EditGoneCardSaid : Prop := Claim7.holds Tryz.pinned (.plain (OpenSpec.ofChange editGoneSpec)) editGoneCard

/-- THE SECOND FORM's CARD OF 'cordwoodlaw14.EditBack'. -/
def editBackUptoCard : Claim7 := { stood := { row := editBackUptoRow, standIns := [], harness := (true, "36bfb7b06c68adbb6f4add763fdcd346b2d71ed06da0e6e8650f2f87b52eb817"), looks := false }, kinds := [], alts := [], laidByText := true, laidKinds := [.data, .data, .data], laidTests := true, laidLooks := .later }
def EditBackUptoCardSaid : Prop := Claim7.holds Tryz.pinned (.plain (OpenSpec.upto editBackSpec)) editBackUptoCard

/-- THE SECOND FORM's CARD OF 'cordwoodlaw14.EditFull'. -/
def editFullUptoCard : Claim7 := { stood := { row := editFullUptoRow, standIns := [], harness := (true, "36bfb7b06c68adbb6f4add763fdcd346b2d71ed06da0e6e8650f2f87b52eb817"), looks := false }, kinds := [], alts := [], laidByText := true, laidKinds := [.data, .data, .data], laidTests := true, laidLooks := .later }
def EditFullUptoCardSaid : Prop := Claim7.holds Tryz.pinned (.plain (OpenSpec.upto editFullSpec)) editFullUptoCard

/-- THE SECOND FORM's CARD OF 'cordwoodlaw14.EditOrder'. -/
def editOrderUptoCard : Claim7 := { stood := { row := editOrderUptoRow, standIns := [], harness := (true, "36bfb7b06c68adbb6f4add763fdcd346b2d71ed06da0e6e8650f2f87b52eb817"), looks := false }, kinds := [], alts := [], laidByText := true, laidKinds := [.data, .data, .data], laidTests := true, laidLooks := .later }
def EditOrderUptoCardSaid : Prop := Claim7.holds Tryz.pinned (.plain (OpenSpec.upto editOrderSpec)) editOrderUptoCard

/-- THE SECOND FORM's CARD OF 'cordwoodlaw14.EditIs'. -/
def editIsUptoCard : Claim7 := { stood := { row := editIsUptoRow, standIns := [], harness := (true, "36bfb7b06c68adbb6f4add763fdcd346b2d71ed06da0e6e8650f2f87b52eb817"), looks := false }, kinds := [], alts := [], laidByText := true, laidKinds := [.data, .data, .data], laidTests := true, laidLooks := .later }
def EditIsUptoCardSaid : Prop := Claim7.holds Tryz.pinned (.plain (OpenSpec.upto editIsSpec)) editIsUptoCard

/-- THE SECOND FORM's CARD OF 'cordwoodlaw14.EditValid'. -/
def editValidUptoCard : Claim7 := { stood := { row := editValidUptoRow, standIns := [], harness := (true, "36bfb7b06c68adbb6f4add763fdcd346b2d71ed06da0e6e8650f2f87b52eb817"), looks := false }, kinds := [], alts := [], laidByText := true, laidKinds := [.data, .data, .data], laidTests := true, laidLooks := .later }
def EditValidUptoCardSaid : Prop := Claim7.holds Tryz.pinned (.plain (OpenSpec.upto editValidSpec)) editValidUptoCard

/-- THE SECOND FORM's CARD OF 'cordwoodlaw14.EditKeeps'. -/
def editKeepsUptoCard : Claim7 := { stood := { row := editKeepsUptoRow, standIns := [], harness := (true, "36bfb7b06c68adbb6f4add763fdcd346b2d71ed06da0e6e8650f2f87b52eb817"), looks := false }, kinds := [], alts := [], laidByText := true, laidKinds := [.data, .data, .data], laidTests := true, laidLooks := .later }
def EditKeepsUptoCardSaid : Prop := Claim7.holds Tryz.pinned (.plain (OpenSpec.upto editKeepsSpec)) editKeepsUptoCard

/-- THE SECOND FORM's CARD OF 'cordwoodlaw14.EditGone'. -/
def editGoneUptoCard : Claim7 := { stood := { row := editGoneUptoRow, standIns := [], harness := (true, "36bfb7b06c68adbb6f4add763fdcd346b2d71ed06da0e6e8650f2f87b52eb817"), looks := false }, kinds := [], alts := [], laidByText := true, laidKinds := [.data, .data, .data], laidTests := true, laidLooks := .later }
def EditGoneUptoCardSaid : Prop := Claim7.holds Tryz.pinned (.plain (OpenSpec.upto editGoneSpec)) editGoneUptoCard
end Rows
end Go.Proofs.YtkkdkhacligaoaaGreatDoor
