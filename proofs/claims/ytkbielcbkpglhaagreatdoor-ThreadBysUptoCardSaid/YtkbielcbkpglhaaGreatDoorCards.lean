/-
  DERIVED. GIVEN WITH THE SEED: THE CARDS: each row of YtkbielcbkpglhaaGreatDoorRows.lean that lists a variable, with what it lists TIED to the program's text (the seventh form; the later family's looks); each row that meets fmt, with fmt's text TOLD by the authors' own Lean function (tested against real Go, not proved from fmt's source: count such statements apart). THE CARD IS WHAT COUNTS. Prove the row's statement (the work); the ties are given (YtkbielcbkpglhaaGreatDoorTie.lean); close each card by the builder's one call (the guide's Derived/Test/ToyasCard.lean, 'card_holds'). Laid BY PROGRAM, IN A SANDBOX (cutbox-door.mjs). By AI agents, Wed Nov 11 2026. No macro, syntax, notation, axiom, sorry.
-/
import Derived.Test.YtkbielcbkpglhaaGreatDoorRows
import GoSem.ClaimSeven
namespace Go.Proofs.YtkbielcbkpglhaaGreatDoor
namespace Rows

/-- THE TIED CARD OF 'postbaglaw8.ThreadCards'. -/
def threadCardsCard : Claim7 := { stood := { row := threadCardsRow, standIns := [], harness := (true, "e9d92a08c5f0bafc6007846acf71628c4963c78811b88844f6ad330afb11c954"), looks := true }, kinds := [], alts := [], laidByText := true, laidKinds := [.data, .data, .data, .data, .data, .pinned], laidTests := true, laidLooks := .later }
def ThreadCardsCardSaid : Prop := Claim7.holds Tryz.pinned (.plain (OpenSpec.ofChange threadCardsSpec)) threadCardsCard

/-- THE TIED CARD OF 'postbaglaw8.ThreadBys'. -/
def threadBysCard : Claim7 := { stood := { row := threadBysRow, standIns := [], harness := (true, "e9d92a08c5f0bafc6007846acf71628c4963c78811b88844f6ad330afb11c954"), looks := true }, kinds := [], alts := [], laidByText := true, laidKinds := [.data, .data, .data, .data, .data, .pinned], laidTests := true, laidLooks := .later }
def ThreadBysCardSaid : Prop := Claim7.holds Tryz.pinned (.plain (OpenSpec.ofChange threadBysSpec)) threadBysCard

/-- THE TIED CARD OF 'postbaglaw8.ThreadSorts'. -/
def threadSortsCard : Claim7 := { stood := { row := threadSortsRow, standIns := [], harness := (true, "e9d92a08c5f0bafc6007846acf71628c4963c78811b88844f6ad330afb11c954"), looks := true }, kinds := [], alts := [], laidByText := true, laidKinds := [.data, .data, .data, .data, .data, .pinned], laidTests := true, laidLooks := .later }
def ThreadSortsCardSaid : Prop := Claim7.holds Tryz.pinned (.plain (OpenSpec.ofChange threadSortsSpec)) threadSortsCard

/-- THE TIED CARD OF 'postbaglaw8.ThreadSubjects'. -/
def threadSubjectsCard : Claim7 := { stood := { row := threadSubjectsRow, standIns := [], harness := (true, "e9d92a08c5f0bafc6007846acf71628c4963c78811b88844f6ad330afb11c954"), looks := true }, kinds := [], alts := [], laidByText := true, laidKinds := [.data, .data, .data, .data, .data, .pinned], laidTests := true, laidLooks := .later }
def ThreadSubjectsCardSaid : Prop := Claim7.holds Tryz.pinned (.plain (OpenSpec.ofChange threadSubjectsSpec)) threadSubjectsCard

/-- THE TIED CARD OF 'postbaglaw8.ThreadReferences'. -/
def threadReferencesCard : Claim7 := { stood := { row := threadReferencesRow, standIns := [], harness := (true, "e9d92a08c5f0bafc6007846acf71628c4963c78811b88844f6ad330afb11c954"), looks := true }, kinds := [], alts := [], laidByText := true, laidKinds := [.data, .data, .data, .data, .data, .pinned], laidTests := true, laidLooks := .later }
def ThreadReferencesCardSaid : Prop := Claim7.holds Tryz.pinned (.plain (OpenSpec.ofChange threadReferencesSpec)) threadReferencesCard

/-- THE TIED CARD OF 'postbaglaw8.ThreadLines'. -/
def threadLinesCard : Claim7 := { stood := { row := threadLinesRow, standIns := [], harness := (true, "e9d92a08c5f0bafc6007846acf71628c4963c78811b88844f6ad330afb11c954"), looks := true }, kinds := [], alts := [], laidByText := true, laidKinds := [.data, .data, .data, .data, .data, .pinned], laidTests := true, laidLooks := .later }
def ThreadLinesCardSaid : Prop := Claim7.holds Tryz.pinned (.plain (OpenSpec.ofChange threadLinesSpec)) threadLinesCard

/-- THE TIED CARD OF 'postbaglaw8.ThreadReads'. -/
def threadReadsCard : Claim7 := { stood := { row := threadReadsRow, standIns := [], harness := (true, "e9d92a08c5f0bafc6007846acf71628c4963c78811b88844f6ad330afb11c954"), looks := true }, kinds := [], alts := [], laidByText := true, laidKinds := [.data, .data, .data, .data, .data, .pinned], laidTests := true, laidLooks := .later }
def ThreadReadsCardSaid : Prop := Claim7.holds Tryz.pinned (.plain (OpenSpec.ofChange threadReadsSpec)) threadReadsCard

/-- THE TIED CARD OF 'postbaglaw8.ThreadStable'. -/
def threadStableCard : Claim7 := { stood := { row := threadStableRow, standIns := [], harness := (true, "e9d92a08c5f0bafc6007846acf71628c4963c78811b88844f6ad330afb11c954"), looks := true }, kinds := [], alts := [], laidByText := true, laidKinds := [.data, .data, .data, .data, .data, .pinned], laidTests := true, laidLooks := .later }
def ThreadStableCardSaid : Prop := Claim7.holds Tryz.pinned (.plain (OpenSpec.ofChange threadStableSpec)) threadStableCard

/-- THE TIED CARD OF 'postbaglaw8.ThreadTurned'. -/
def threadTurnedCard : Claim7 := { stood := { row := threadTurnedRow, standIns := [], harness := (true, "e9d92a08c5f0bafc6007846acf71628c4963c78811b88844f6ad330afb11c954"), looks := true }, kinds := [], alts := [], laidByText := true, laidKinds := [.data, .data, .data, .data, .data, .pinned], laidTests := true, laidLooks := .later }
def ThreadTurnedCardSaid : Prop := Claim7.holds Tryz.pinned (.plain (OpenSpec.ofChange threadTurnedSpec)) threadTurnedCard

/-- THE TIED CARD OF 'postbaglaw8.ThreadAll'. -/
def threadAllCard : Claim7 := { stood := { row := threadAllRow, standIns := [], harness := (true, "e9d92a08c5f0bafc6007846acf71628c4963c78811b88844f6ad330afb11c954"), looks := true }, kinds := [], alts := [], laidByText := true, laidKinds := [.data, .data, .data, .data, .data, .pinned], laidTests := true, laidLooks := .later }
def ThreadAllCardSaid : Prop := Claim7.holds Tryz.pinned (.plain (OpenSpec.ofChange threadAllSpec)) threadAllCard

/-- THE TIED CARD OF 'postbaglaw8.ThreadUnordered'. -/
def threadUnorderedCard : Claim7 := { stood := { row := threadUnorderedRow, standIns := [], harness := (true, "e9d92a08c5f0bafc6007846acf71628c4963c78811b88844f6ad330afb11c954"), looks := true }, kinds := [], alts := [], laidByText := true, laidKinds := [.data, .data, .data, .data, .data, .pinned], laidTests := true, laidLooks := .later }
def ThreadUnorderedCardSaid : Prop := Claim7.holds Tryz.pinned (.plain (OpenSpec.ofChange threadUnorderedSpec)) threadUnorderedCard

/-- THE TIED CARD OF 'postbaglaw8.ThreadHangs'. -/
def threadHangsCard : Claim7 := { stood := { row := threadHangsRow, standIns := [], harness := (true, "e9d92a08c5f0bafc6007846acf71628c4963c78811b88844f6ad330afb11c954"), looks := true }, kinds := [], alts := [], laidByText := true, laidKinds := [.data, .data, .data, .data, .data, .pinned], laidTests := true, laidLooks := .later }
def ThreadHangsCardSaid : Prop := Claim7.holds Tryz.pinned (.plain (OpenSpec.ofChange threadHangsSpec)) threadHangsCard

/-- THE TIED CARD OF 'postbaglaw8.ThreadAround'. -/
def threadAroundCard : Claim7 := { stood := { row := threadAroundRow, standIns := [], harness := (true, "e9d92a08c5f0bafc6007846acf71628c4963c78811b88844f6ad330afb11c954"), looks := true }, kinds := [], alts := [], laidByText := true, laidKinds := [.data, .data, .data, .data, .data, .pinned], laidTests := true, laidLooks := .later }
def ThreadAroundCardSaid : Prop := Claim7.holds Tryz.pinned (.plain (OpenSpec.ofChange threadAroundSpec)) threadAroundCard

/-- THE TIED CARD OF 'postbaglaw8.ThreadSubjected'. -/
def threadSubjectedCard : Claim7 := { stood := { row := threadSubjectedRow, standIns := [], harness := (true, "e9d92a08c5f0bafc6007846acf71628c4963c78811b88844f6ad330afb11c954"), looks := true }, kinds := [], alts := [], laidByText := true, laidKinds := [.data, .data, .data, .data, .data, .pinned], laidTests := true, laidLooks := .later }
def ThreadSubjectedCardSaid : Prop := Claim7.holds Tryz.pinned (.plain (OpenSpec.ofChange threadSubjectedSpec)) threadSubjectedCard

/-- THE TIED CARD OF 'postbaglaw8.ThreadKeeps'. -/
def threadKeepsCard : Claim7 := { stood := { row := threadKeepsRow, standIns := [], harness := (true, "e9d92a08c5f0bafc6007846acf71628c4963c78811b88844f6ad330afb11c954"), looks := true }, kinds := [], alts := [], laidByText := true, laidKinds := [.data, .data, .data, .data, .data, .pinned], laidTests := true, laidLooks := .later }
def ThreadKeepsCardSaid : Prop := Claim7.holds Tryz.pinned (.plain (OpenSpec.ofChange threadKeepsSpec)) threadKeepsCard

/-- THE SECOND FORM's CARD OF 'postbaglaw8.ThreadCards'. -/
def threadCardsUptoCard : Claim7 := { stood := { row := threadCardsUptoRow, standIns := [], harness := (true, "e9d92a08c5f0bafc6007846acf71628c4963c78811b88844f6ad330afb11c954"), looks := true }, kinds := [], alts := [], laidByText := true, laidKinds := [.data, .data, .data, .data, .data, .pinned], laidTests := true, laidLooks := .later }
def ThreadCardsUptoCardSaid : Prop := Claim7.holds Tryz.pinned (.plain (OpenSpec.upto threadCardsSpec)) threadCardsUptoCard

/-- THE SECOND FORM's CARD OF 'postbaglaw8.ThreadBys'. -/
def threadBysUptoCard : Claim7 := { stood := { row := threadBysUptoRow, standIns := [], harness := (true, "e9d92a08c5f0bafc6007846acf71628c4963c78811b88844f6ad330afb11c954"), looks := true }, kinds := [], alts := [], laidByText := true, laidKinds := [.data, .data, .data, .data, .data, .pinned], laidTests := true, laidLooks := .later }
def ThreadBysUptoCardSaid : Prop := Claim7.holds Tryz.pinned (.plain (OpenSpec.upto threadBysSpec)) threadBysUptoCard

/-- THE SECOND FORM's CARD OF 'postbaglaw8.ThreadSorts'. -/
def threadSortsUptoCard : Claim7 := { stood := { row := threadSortsUptoRow, standIns := [], harness := (true, "e9d92a08c5f0bafc6007846acf71628c4963c78811b88844f6ad330afb11c954"), looks := true }, kinds := [], alts := [], laidByText := true, laidKinds := [.data, .data, .data, .data, .data, .pinned], laidTests := true, laidLooks := .later }
def ThreadSortsUptoCardSaid : Prop := Claim7.holds Tryz.pinned (.plain (OpenSpec.upto threadSortsSpec)) threadSortsUptoCard

/-- THE SECOND FORM's CARD OF 'postbaglaw8.ThreadSubjects'. -/
def threadSubjectsUptoCard : Claim7 := { stood := { row := threadSubjectsUptoRow, standIns := [], harness := (true, "e9d92a08c5f0bafc6007846acf71628c4963c78811b88844f6ad330afb11c954"), looks := true }, kinds := [], alts := [], laidByText := true, laidKinds := [.data, .data, .data, .data, .data, .pinned], laidTests := true, laidLooks := .later }
def ThreadSubjectsUptoCardSaid : Prop := Claim7.holds Tryz.pinned (.plain (OpenSpec.upto threadSubjectsSpec)) threadSubjectsUptoCard

/-- THE SECOND FORM's CARD OF 'postbaglaw8.ThreadReferences'. -/
def threadReferencesUptoCard : Claim7 := { stood := { row := threadReferencesUptoRow, standIns := [], harness := (true, "e9d92a08c5f0bafc6007846acf71628c4963c78811b88844f6ad330afb11c954"), looks := true }, kinds := [], alts := [], laidByText := true, laidKinds := [.data, .data, .data, .data, .data, .pinned], laidTests := true, laidLooks := .later }
def ThreadReferencesUptoCardSaid : Prop := Claim7.holds Tryz.pinned (.plain (OpenSpec.upto threadReferencesSpec)) threadReferencesUptoCard

/-- THE SECOND FORM's CARD OF 'postbaglaw8.ThreadLines'. -/
def threadLinesUptoCard : Claim7 := { stood := { row := threadLinesUptoRow, standIns := [], harness := (true, "e9d92a08c5f0bafc6007846acf71628c4963c78811b88844f6ad330afb11c954"), looks := true }, kinds := [], alts := [], laidByText := true, laidKinds := [.data, .data, .data, .data, .data, .pinned], laidTests := true, laidLooks := .later }
def ThreadLinesUptoCardSaid : Prop := Claim7.holds Tryz.pinned (.plain (OpenSpec.upto threadLinesSpec)) threadLinesUptoCard

/-- THE SECOND FORM's CARD OF 'postbaglaw8.ThreadReads'. -/
def threadReadsUptoCard : Claim7 := { stood := { row := threadReadsUptoRow, standIns := [], harness := (true, "e9d92a08c5f0bafc6007846acf71628c4963c78811b88844f6ad330afb11c954"), looks := true }, kinds := [], alts := [], laidByText := true, laidKinds := [.data, .data, .data, .data, .data, .pinned], laidTests := true, laidLooks := .later }
def ThreadReadsUptoCardSaid : Prop := Claim7.holds Tryz.pinned (.plain (OpenSpec.upto threadReadsSpec)) threadReadsUptoCard

/-- THE SECOND FORM's CARD OF 'postbaglaw8.ThreadStable'. -/
def threadStableUptoCard : Claim7 := { stood := { row := threadStableUptoRow, standIns := [], harness := (true, "e9d92a08c5f0bafc6007846acf71628c4963c78811b88844f6ad330afb11c954"), looks := true }, kinds := [], alts := [], laidByText := true, laidKinds := [.data, .data, .data, .data, .data, .pinned], laidTests := true, laidLooks := .later }
def ThreadStableUptoCardSaid : Prop := Claim7.holds Tryz.pinned (.plain (OpenSpec.upto threadStableSpec)) threadStableUptoCard

/-- THE SECOND FORM's CARD OF 'postbaglaw8.ThreadTurned'. -/
def threadTurnedUptoCard : Claim7 := { stood := { row := threadTurnedUptoRow, standIns := [], harness := (true, "e9d92a08c5f0bafc6007846acf71628c4963c78811b88844f6ad330afb11c954"), looks := true }, kinds := [], alts := [], laidByText := true, laidKinds := [.data, .data, .data, .data, .data, .pinned], laidTests := true, laidLooks := .later }
def ThreadTurnedUptoCardSaid : Prop := Claim7.holds Tryz.pinned (.plain (OpenSpec.upto threadTurnedSpec)) threadTurnedUptoCard

/-- THE SECOND FORM's CARD OF 'postbaglaw8.ThreadAll'. -/
def threadAllUptoCard : Claim7 := { stood := { row := threadAllUptoRow, standIns := [], harness := (true, "e9d92a08c5f0bafc6007846acf71628c4963c78811b88844f6ad330afb11c954"), looks := true }, kinds := [], alts := [], laidByText := true, laidKinds := [.data, .data, .data, .data, .data, .pinned], laidTests := true, laidLooks := .later }
def ThreadAllUptoCardSaid : Prop := Claim7.holds Tryz.pinned (.plain (OpenSpec.upto threadAllSpec)) threadAllUptoCard

/-- THE SECOND FORM's CARD OF 'postbaglaw8.ThreadUnordered'. -/
def threadUnorderedUptoCard : Claim7 := { stood := { row := threadUnorderedUptoRow, standIns := [], harness := (true, "e9d92a08c5f0bafc6007846acf71628c4963c78811b88844f6ad330afb11c954"), looks := true }, kinds := [], alts := [], laidByText := true, laidKinds := [.data, .data, .data, .data, .data, .pinned], laidTests := true, laidLooks := .later }
def ThreadUnorderedUptoCardSaid : Prop := Claim7.holds Tryz.pinned (.plain (OpenSpec.upto threadUnorderedSpec)) threadUnorderedUptoCard

/-- THE SECOND FORM's CARD OF 'postbaglaw8.ThreadHangs'. -/
def threadHangsUptoCard : Claim7 := { stood := { row := threadHangsUptoRow, standIns := [], harness := (true, "e9d92a08c5f0bafc6007846acf71628c4963c78811b88844f6ad330afb11c954"), looks := true }, kinds := [], alts := [], laidByText := true, laidKinds := [.data, .data, .data, .data, .data, .pinned], laidTests := true, laidLooks := .later }
def ThreadHangsUptoCardSaid : Prop := Claim7.holds Tryz.pinned (.plain (OpenSpec.upto threadHangsSpec)) threadHangsUptoCard

/-- THE SECOND FORM's CARD OF 'postbaglaw8.ThreadAround'. -/
def threadAroundUptoCard : Claim7 := { stood := { row := threadAroundUptoRow, standIns := [], harness := (true, "e9d92a08c5f0bafc6007846acf71628c4963c78811b88844f6ad330afb11c954"), looks := true }, kinds := [], alts := [], laidByText := true, laidKinds := [.data, .data, .data, .data, .data, .pinned], laidTests := true, laidLooks := .later }
def ThreadAroundUptoCardSaid : Prop := Claim7.holds Tryz.pinned (.plain (OpenSpec.upto threadAroundSpec)) threadAroundUptoCard

/-- THE SECOND FORM's CARD OF 'postbaglaw8.ThreadSubjected'. -/
def threadSubjectedUptoCard : Claim7 := { stood := { row := threadSubjectedUptoRow, standIns := [], harness := (true, "e9d92a08c5f0bafc6007846acf71628c4963c78811b88844f6ad330afb11c954"), looks := true }, kinds := [], alts := [], laidByText := true, laidKinds := [.data, .data, .data, .data, .data, .pinned], laidTests := true, laidLooks := .later }
def ThreadSubjectedUptoCardSaid : Prop := Claim7.holds Tryz.pinned (.plain (OpenSpec.upto threadSubjectedSpec)) threadSubjectedUptoCard

/-- THE SECOND FORM's CARD OF 'postbaglaw8.ThreadKeeps'. -/
def threadKeepsUptoCard : Claim7 := { stood := { row := threadKeepsUptoRow, standIns := [], harness := (true, "e9d92a08c5f0bafc6007846acf71628c4963c78811b88844f6ad330afb11c954"), looks := true }, kinds := [], alts := [], laidByText := true, laidKinds := [.data, .data, .data, .data, .data, .pinned], laidTests := true, laidLooks := .later }
def ThreadKeepsUptoCardSaid : Prop := Claim7.holds Tryz.pinned (.plain (OpenSpec.upto threadKeepsSpec)) threadKeepsUptoCard
end Rows
end Go.Proofs.YtkbielcbkpglhaaGreatDoor
