/-
  DERIVED. GIVEN WITH THE SEED: THE CARDS: each row of YtljgifbnmgpdbaaGreatDoorRows.lean that lists a variable, with what it lists TIED to the program's text (the seventh form; the later family's looks); each row that meets fmt, with fmt's text TOLD by the authors' own Lean function (tested against real Go, not proved from fmt's source: count such statements apart). THE CARD IS WHAT COUNTS. Prove the row's statement (the work); the ties are given (YtljgifbnmgpdbaaGreatDoorTie.lean); close each card by the builder's one call (the guide's Derived/Test/ToyasCard.lean, 'card_holds'). Laid BY PROGRAM, IN A SANDBOX (cutbox-door.mjs). By AI agents, Wed Nov 11 2026. No macro, syntax, notation, axiom, sorry.
-/
import Derived.Test.YtljgifbnmgpdbaaGreatDoorRows
import GoSem.ClaimSeven
namespace Go.Proofs.YtljgifbnmgpdbaaGreatDoor
namespace Rows

/-- THE TIED CARD OF 'reveillelaw18.DispNone'. -/
def dispNoneCard : Claim7 := { stood := { row := dispNoneRow, standIns := [], harness := (true, "ced555be4263fda5ca9c58609e8f9a0ef7d08c0c73606d49e90d4686ad66890c"), looks := true }, kinds := [], alts := [], laidByText := true, laidKinds := [.data, .data, .data, .data, .sentinel, .sentinel, .pinned], laidTests := true, laidLooks := .later }
def DispNoneCardSaid : Prop := Claim7.holds Tryz.pinned (.plain (OpenSpec.ofChange dispNoneSpec)) dispNoneCard

/-- THE TIED CARD OF 'reveillelaw18.DispKeys'. -/
def dispKeysCard : Claim7 := { stood := { row := dispKeysRow, standIns := [], harness := (true, "ced555be4263fda5ca9c58609e8f9a0ef7d08c0c73606d49e90d4686ad66890c"), looks := true }, kinds := [], alts := [], laidByText := true, laidKinds := [.data, .data, .data, .data, .sentinel, .sentinel, .pinned], laidTests := true, laidLooks := .later }
def DispKeysCardSaid : Prop := Claim7.holds Tryz.pinned (.plain (OpenSpec.ofChange dispKeysSpec)) dispKeysCard

/-- THE TIED CARD OF 'reveillelaw19.EnqOne'. -/
def enqOneCard : Claim7 := { stood := { row := enqOneRow, standIns := [], harness := (true, "ced555be4263fda5ca9c58609e8f9a0ef7d08c0c73606d49e90d4686ad66890c"), looks := true }, kinds := [], alts := [], laidByText := true, laidKinds := [.data, .data, .data, .data, .sentinel, .sentinel, .pinned], laidTests := true, laidLooks := .later }
def EnqOneCardSaid : Prop := Claim7.holds Tryz.pinned (.plain (OpenSpec.ofChange enqOneSpec)) enqOneCard

/-- THE TIED CARD OF 'reveillelaw20.DeqNone'. -/
def deqNoneCard : Claim7 := { stood := { row := deqNoneRow, standIns := [], harness := (true, "ced555be4263fda5ca9c58609e8f9a0ef7d08c0c73606d49e90d4686ad66890c"), looks := true }, kinds := [], alts := [], laidByText := true, laidKinds := [.data, .data, .data, .data, .sentinel, .sentinel, .pinned], laidTests := true, laidLooks := .later }
def DeqNoneCardSaid : Prop := Claim7.holds Tryz.pinned (.plain (OpenSpec.ofChange deqNoneSpec)) deqNoneCard

/-- THE TIED CARD OF 'reveillelaw19.EnqNone'. -/
def enqNoneCard : Claim7 := { stood := { row := enqNoneRow, standIns := [], harness := (true, "ced555be4263fda5ca9c58609e8f9a0ef7d08c0c73606d49e90d4686ad66890c"), looks := true }, kinds := [], alts := [], laidByText := true, laidKinds := [.data, .data, .data, .data, .sentinel, .sentinel, .pinned], laidTests := true, laidLooks := .later }
def EnqNoneCardSaid : Prop := Claim7.holds Tryz.pinned (.plain (OpenSpec.ofChange enqNoneSpec)) enqNoneCard

/-- THE TIED CARD OF 'reveillelaw20.DeqOnce'. -/
def deqOnceCard : Claim7 := { stood := { row := deqOnceRow, standIns := [], harness := (true, "ced555be4263fda5ca9c58609e8f9a0ef7d08c0c73606d49e90d4686ad66890c"), looks := true }, kinds := [], alts := [], laidByText := true, laidKinds := [.data, .data, .data, .data, .sentinel, .sentinel, .pinned], laidTests := true, laidLooks := .later }
def DeqOnceCardSaid : Prop := Claim7.holds Tryz.pinned (.plain (OpenSpec.ofChange deqOnceSpec)) deqOnceCard

/-- THE TIED CARD OF 'reveillelaw20.DeqCancels'. -/
def deqCancelsCard : Claim7 := { stood := { row := deqCancelsRow, standIns := [], harness := (true, "ced555be4263fda5ca9c58609e8f9a0ef7d08c0c73606d49e90d4686ad66890c"), looks := true }, kinds := [], alts := [], laidByText := true, laidKinds := [.data, .data, .data, .data, .sentinel, .sentinel, .pinned], laidTests := true, laidLooks := .later }
def DeqCancelsCardSaid : Prop := Claim7.holds Tryz.pinned (.plain (OpenSpec.ofChange deqCancelsSpec)) deqCancelsCard

/-- THE TIED CARD OF 'reveillelaw19.EnqPuts'. -/
def enqPutsCard : Claim7 := { stood := { row := enqPutsRow, standIns := [], harness := (true, "ced555be4263fda5ca9c58609e8f9a0ef7d08c0c73606d49e90d4686ad66890c"), looks := true }, kinds := [], alts := [], laidByText := true, laidKinds := [.data, .data, .data, .data, .sentinel, .sentinel, .pinned], laidTests := true, laidLooks := .later }
def EnqPutsCardSaid : Prop := Claim7.holds Tryz.pinned (.plain (OpenSpec.ofChange enqPutsSpec)) enqPutsCard

/-- THE TIED CARD OF 'reveillelaw18.DispOnce'. -/
def dispOnceCard : Claim7 := { stood := { row := dispOnceRow, standIns := [], harness := (true, "ced555be4263fda5ca9c58609e8f9a0ef7d08c0c73606d49e90d4686ad66890c"), looks := true }, kinds := [], alts := [], laidByText := true, laidKinds := [.data, .data, .data, .data, .sentinel, .sentinel, .pinned], laidTests := true, laidLooks := .later }
def DispOnceCardSaid : Prop := Claim7.holds Tryz.pinned (.plain (OpenSpec.ofChange dispOnceSpec)) dispOnceCard

/-- THE TIED CARD OF 'reveillelaw19.EnqAll'. -/
def enqAllCard : Claim7 := { stood := { row := enqAllRow, standIns := [], harness := (true, "ced555be4263fda5ca9c58609e8f9a0ef7d08c0c73606d49e90d4686ad66890c"), looks := true }, kinds := [], alts := [], laidByText := true, laidKinds := [.data, .data, .data, .data, .sentinel, .sentinel, .pinned], laidTests := true, laidLooks := .later }
def EnqAllCardSaid : Prop := Claim7.holds Tryz.pinned (.plain (OpenSpec.ofChange enqAllSpec)) enqAllCard

/-- THE TIED CARD OF 'reveillelaw20.DeqOrder'. -/
def deqOrderCard : Claim7 := { stood := { row := deqOrderRow, standIns := [], harness := (true, "ced555be4263fda5ca9c58609e8f9a0ef7d08c0c73606d49e90d4686ad66890c"), looks := true }, kinds := [], alts := [], laidByText := true, laidKinds := [.data, .data, .data, .data, .sentinel, .sentinel, .pinned], laidTests := true, laidLooks := .later }
def DeqOrderCardSaid : Prop := Claim7.holds Tryz.pinned (.plain (OpenSpec.ofChange deqOrderSpec)) deqOrderCard

/-- THE SECOND FORM's CARD OF 'reveillelaw18.DispNone'. -/
def dispNoneUptoCard : Claim7 := { stood := { row := dispNoneUptoRow, standIns := [], harness := (true, "ced555be4263fda5ca9c58609e8f9a0ef7d08c0c73606d49e90d4686ad66890c"), looks := true }, kinds := [], alts := [], laidByText := true, laidKinds := [.data, .data, .data, .data, .sentinel, .sentinel, .pinned], laidTests := true, laidLooks := .later }
def DispNoneUptoCardSaid : Prop := Claim7.holds Tryz.pinned (.plain (OpenSpec.upto dispNoneSpec)) dispNoneUptoCard

/-- THE SECOND FORM's CARD OF 'reveillelaw18.DispKeys'. -/
def dispKeysUptoCard : Claim7 := { stood := { row := dispKeysUptoRow, standIns := [], harness := (true, "ced555be4263fda5ca9c58609e8f9a0ef7d08c0c73606d49e90d4686ad66890c"), looks := true }, kinds := [], alts := [], laidByText := true, laidKinds := [.data, .data, .data, .data, .sentinel, .sentinel, .pinned], laidTests := true, laidLooks := .later }
def DispKeysUptoCardSaid : Prop := Claim7.holds Tryz.pinned (.plain (OpenSpec.upto dispKeysSpec)) dispKeysUptoCard

/-- THE SECOND FORM's CARD OF 'reveillelaw19.EnqOne'. -/
def enqOneUptoCard : Claim7 := { stood := { row := enqOneUptoRow, standIns := [], harness := (true, "ced555be4263fda5ca9c58609e8f9a0ef7d08c0c73606d49e90d4686ad66890c"), looks := true }, kinds := [], alts := [], laidByText := true, laidKinds := [.data, .data, .data, .data, .sentinel, .sentinel, .pinned], laidTests := true, laidLooks := .later }
def EnqOneUptoCardSaid : Prop := Claim7.holds Tryz.pinned (.plain (OpenSpec.upto enqOneSpec)) enqOneUptoCard

/-- THE SECOND FORM's CARD OF 'reveillelaw20.DeqNone'. -/
def deqNoneUptoCard : Claim7 := { stood := { row := deqNoneUptoRow, standIns := [], harness := (true, "ced555be4263fda5ca9c58609e8f9a0ef7d08c0c73606d49e90d4686ad66890c"), looks := true }, kinds := [], alts := [], laidByText := true, laidKinds := [.data, .data, .data, .data, .sentinel, .sentinel, .pinned], laidTests := true, laidLooks := .later }
def DeqNoneUptoCardSaid : Prop := Claim7.holds Tryz.pinned (.plain (OpenSpec.upto deqNoneSpec)) deqNoneUptoCard

/-- THE SECOND FORM's CARD OF 'reveillelaw19.EnqNone'. -/
def enqNoneUptoCard : Claim7 := { stood := { row := enqNoneUptoRow, standIns := [], harness := (true, "ced555be4263fda5ca9c58609e8f9a0ef7d08c0c73606d49e90d4686ad66890c"), looks := true }, kinds := [], alts := [], laidByText := true, laidKinds := [.data, .data, .data, .data, .sentinel, .sentinel, .pinned], laidTests := true, laidLooks := .later }
def EnqNoneUptoCardSaid : Prop := Claim7.holds Tryz.pinned (.plain (OpenSpec.upto enqNoneSpec)) enqNoneUptoCard

/-- THE SECOND FORM's CARD OF 'reveillelaw20.DeqOnce'. -/
def deqOnceUptoCard : Claim7 := { stood := { row := deqOnceUptoRow, standIns := [], harness := (true, "ced555be4263fda5ca9c58609e8f9a0ef7d08c0c73606d49e90d4686ad66890c"), looks := true }, kinds := [], alts := [], laidByText := true, laidKinds := [.data, .data, .data, .data, .sentinel, .sentinel, .pinned], laidTests := true, laidLooks := .later }
def DeqOnceUptoCardSaid : Prop := Claim7.holds Tryz.pinned (.plain (OpenSpec.upto deqOnceSpec)) deqOnceUptoCard

/-- THE SECOND FORM's CARD OF 'reveillelaw20.DeqCancels'. -/
def deqCancelsUptoCard : Claim7 := { stood := { row := deqCancelsUptoRow, standIns := [], harness := (true, "ced555be4263fda5ca9c58609e8f9a0ef7d08c0c73606d49e90d4686ad66890c"), looks := true }, kinds := [], alts := [], laidByText := true, laidKinds := [.data, .data, .data, .data, .sentinel, .sentinel, .pinned], laidTests := true, laidLooks := .later }
def DeqCancelsUptoCardSaid : Prop := Claim7.holds Tryz.pinned (.plain (OpenSpec.upto deqCancelsSpec)) deqCancelsUptoCard

/-- THE SECOND FORM's CARD OF 'reveillelaw19.EnqPuts'. -/
def enqPutsUptoCard : Claim7 := { stood := { row := enqPutsUptoRow, standIns := [], harness := (true, "ced555be4263fda5ca9c58609e8f9a0ef7d08c0c73606d49e90d4686ad66890c"), looks := true }, kinds := [], alts := [], laidByText := true, laidKinds := [.data, .data, .data, .data, .sentinel, .sentinel, .pinned], laidTests := true, laidLooks := .later }
def EnqPutsUptoCardSaid : Prop := Claim7.holds Tryz.pinned (.plain (OpenSpec.upto enqPutsSpec)) enqPutsUptoCard

/-- THE SECOND FORM's CARD OF 'reveillelaw18.DispOnce'. -/
def dispOnceUptoCard : Claim7 := { stood := { row := dispOnceUptoRow, standIns := [], harness := (true, "ced555be4263fda5ca9c58609e8f9a0ef7d08c0c73606d49e90d4686ad66890c"), looks := true }, kinds := [], alts := [], laidByText := true, laidKinds := [.data, .data, .data, .data, .sentinel, .sentinel, .pinned], laidTests := true, laidLooks := .later }
def DispOnceUptoCardSaid : Prop := Claim7.holds Tryz.pinned (.plain (OpenSpec.upto dispOnceSpec)) dispOnceUptoCard

/-- THE SECOND FORM's CARD OF 'reveillelaw19.EnqAll'. -/
def enqAllUptoCard : Claim7 := { stood := { row := enqAllUptoRow, standIns := [], harness := (true, "ced555be4263fda5ca9c58609e8f9a0ef7d08c0c73606d49e90d4686ad66890c"), looks := true }, kinds := [], alts := [], laidByText := true, laidKinds := [.data, .data, .data, .data, .sentinel, .sentinel, .pinned], laidTests := true, laidLooks := .later }
def EnqAllUptoCardSaid : Prop := Claim7.holds Tryz.pinned (.plain (OpenSpec.upto enqAllSpec)) enqAllUptoCard

/-- THE SECOND FORM's CARD OF 'reveillelaw20.DeqOrder'. -/
def deqOrderUptoCard : Claim7 := { stood := { row := deqOrderUptoRow, standIns := [], harness := (true, "ced555be4263fda5ca9c58609e8f9a0ef7d08c0c73606d49e90d4686ad66890c"), looks := true }, kinds := [], alts := [], laidByText := true, laidKinds := [.data, .data, .data, .data, .sentinel, .sentinel, .pinned], laidTests := true, laidLooks := .later }
def DeqOrderUptoCardSaid : Prop := Claim7.holds Tryz.pinned (.plain (OpenSpec.upto deqOrderSpec)) deqOrderUptoCard
end Rows
end Go.Proofs.YtljgifbnmgpdbaaGreatDoor
