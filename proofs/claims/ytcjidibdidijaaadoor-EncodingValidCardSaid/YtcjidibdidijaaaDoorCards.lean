/-
  DERIVED. GIVEN WITH THE SEED: THE CARDS: each row of YtcjidibdidijaaaDoorRows.lean that lists a variable, with what it lists TIED to the program's text (the seventh form; the later family's looks); each row that meets fmt, with fmt's text TOLD by the authors' own Lean function (tested against real Go, not proved from fmt's source: count such statements apart). THE CARD IS WHAT COUNTS. Prove the row's statement (the work); the ties are given (YtcjidibdidijaaaDoorTie.lean); close each card by the builder's one call (the guide's Derived/Test/ToyasCard.lean, 'card_holds'). Laid BY PROGRAM, IN A SANDBOX (cutbox-door.mjs). By AI agents, Wed Nov 11 2026. No macro, syntax, notation, axiom, sorry.
-/
import Derived.Test.YtcjidibdidijaaaDoorRows
import GoSem.ClaimSeven
namespace Go.Proofs.YtcjidibdidijaaaDoor
namespace Rows

/-- THE TIED CARD OF 'fullinglaw31.CPUSteps'. -/
def cPUStepsCard : Claim7 := { stood := { row := cPUStepsRow, standIns := [], harness := (true, "d9964c610f5bae144fab1c9eccd5b551fd571406563b0949c357523bc9dbe3c2"), looks := false }, kinds := [], alts := [], laidByText := true, laidKinds := [.data], laidTests := true, laidLooks := .later }
def CPUStepsCardSaid : Prop := Claim7.holds Tryd.pinned (.plain (OpenSpec.ofChange cPUStepsSpec)) cPUStepsCard

/-- THE TIED CARD OF 'fullinglaw31.CPUEffects'. -/
def cPUEffectsCard : Claim7 := { stood := { row := cPUEffectsRow, standIns := [], harness := (true, "d9964c610f5bae144fab1c9eccd5b551fd571406563b0949c357523bc9dbe3c2"), looks := false }, kinds := [], alts := [], laidByText := true, laidKinds := [.data], laidTests := true, laidLooks := .later }
def CPUEffectsCardSaid : Prop := Claim7.holds Tryd.pinned (.plain (OpenSpec.ofChange cPUEffectsSpec)) cPUEffectsCard

/-- THE TIED CARD OF 'fullinglaw30.EncodingExamples'. -/
def encodingExamplesCard : Claim7 := { stood := { row := encodingExamplesRow, standIns := [], harness := (true, "d9964c610f5bae144fab1c9eccd5b551fd571406563b0949c357523bc9dbe3c2"), looks := false }, kinds := [], alts := [], laidByText := true, laidKinds := [.data], laidTests := true, laidLooks := .later }
def EncodingExamplesCardSaid : Prop := Claim7.holds Tryd.pinned (.plain (OpenSpec.ofChange encodingExamplesSpec)) encodingExamplesCard

/-- THE TIED CARD OF 'fullinglaw30.EncodingEncode'. -/
def encodingEncodeCard : Claim7 := { stood := { row := encodingEncodeRow, standIns := [], harness := (true, "d9964c610f5bae144fab1c9eccd5b551fd571406563b0949c357523bc9dbe3c2"), looks := false }, kinds := [], alts := [], laidByText := true, laidKinds := [.data], laidTests := true, laidLooks := .later }
def EncodingEncodeCardSaid : Prop := Claim7.holds Tryd.pinned (.plain (OpenSpec.ofChange encodingEncodeSpec)) encodingEncodeCard

/-- THE TIED CARD OF 'fullinglaw30.EncodingUnique'. -/
def encodingUniqueCard : Claim7 := { stood := { row := encodingUniqueRow, standIns := [], harness := (true, "d9964c610f5bae144fab1c9eccd5b551fd571406563b0949c357523bc9dbe3c2"), looks := false }, kinds := [], alts := [], laidByText := true, laidKinds := [.data], laidTests := true, laidLooks := .later }
def EncodingUniqueCardSaid : Prop := Claim7.holds Tryd.pinned (.plain (OpenSpec.ofChange encodingUniqueSpec)) encodingUniqueCard

/-- THE TIED CARD OF 'fullinglaw30.EncodingFlip'. -/
def encodingFlipCard : Claim7 := { stood := { row := encodingFlipRow, standIns := [], harness := (true, "d9964c610f5bae144fab1c9eccd5b551fd571406563b0949c357523bc9dbe3c2"), looks := false }, kinds := [], alts := [], laidByText := true, laidKinds := [.data], laidTests := true, laidLooks := .later }
def EncodingFlipCardSaid : Prop := Claim7.holds Tryd.pinned (.plain (OpenSpec.ofChange encodingFlipSpec)) encodingFlipCard

/-- THE TIED CARD OF 'fullinglaw30.EncodingDecode'. -/
def encodingDecodeCard : Claim7 := { stood := { row := encodingDecodeRow, standIns := [], harness := (true, "d9964c610f5bae144fab1c9eccd5b551fd571406563b0949c357523bc9dbe3c2"), looks := false }, kinds := [], alts := [], laidByText := true, laidKinds := [.data], laidTests := true, laidLooks := .later }
def EncodingDecodeCardSaid : Prop := Claim7.holds Tryd.pinned (.plain (OpenSpec.ofChange encodingDecodeSpec)) encodingDecodeCard

/-- THE TIED CARD OF 'fullinglaw30.EncodingRoundTrip'. -/
def encodingRoundTripCard : Claim7 := { stood := { row := encodingRoundTripRow, standIns := [], harness := (true, "d9964c610f5bae144fab1c9eccd5b551fd571406563b0949c357523bc9dbe3c2"), looks := false }, kinds := [], alts := [], laidByText := true, laidKinds := [.data], laidTests := true, laidLooks := .later }
def EncodingRoundTripCardSaid : Prop := Claim7.holds Tryd.pinned (.plain (OpenSpec.ofChange encodingRoundTripSpec)) encodingRoundTripCard

/-- THE TIED CARD OF 'fullinglaw30.EncodingValid'. -/
def encodingValidCard : Claim7 := { stood := { row := encodingValidRow, standIns := [], harness := (true, "d9964c610f5bae144fab1c9eccd5b551fd571406563b0949c357523bc9dbe3c2"), looks := false }, kinds := [], alts := [], laidByText := true, laidKinds := [.data], laidTests := true, laidLooks := .later }
def EncodingValidCardSaid : Prop := Claim7.holds Tryd.pinned (.plain (OpenSpec.ofChange encodingValidSpec)) encodingValidCard

/-- THE TIED CARD OF 'fullinglaw31.CPUExamples'. -/
def cPUExamplesCard : Claim7 := { stood := { row := cPUExamplesRow, standIns := [], harness := (true, "d9964c610f5bae144fab1c9eccd5b551fd571406563b0949c357523bc9dbe3c2"), looks := false }, kinds := [], alts := [], laidByText := true, laidKinds := [.data], laidTests := true, laidLooks := .later }
def CPUExamplesCardSaid : Prop := Claim7.holds Tryd.pinned (.plain (OpenSpec.ofChange cPUExamplesSpec)) cPUExamplesCard

/-- THE TIED CARD OF 'fullinglaw31.CPUErrors'. -/
def cPUErrorsCard : Claim7 := { stood := { row := cPUErrorsRow, standIns := [], harness := (true, "d9964c610f5bae144fab1c9eccd5b551fd571406563b0949c357523bc9dbe3c2"), looks := false }, kinds := [], alts := [], laidByText := true, laidKinds := [.data], laidTests := true, laidLooks := .later }
def CPUErrorsCardSaid : Prop := Claim7.holds Tryd.pinned (.plain (OpenSpec.ofChange cPUErrorsSpec)) cPUErrorsCard

/-- THE TIED CARD OF 'fullinglaw31.CPURun'. -/
def cPURunCard : Claim7 := { stood := { row := cPURunRow, standIns := [], harness := (true, "d9964c610f5bae144fab1c9eccd5b551fd571406563b0949c357523bc9dbe3c2"), looks := false }, kinds := [], alts := [], laidByText := true, laidKinds := [.data], laidTests := true, laidLooks := .later }
def CPURunCardSaid : Prop := Claim7.holds Tryd.pinned (.plain (OpenSpec.ofChange cPURunSpec)) cPURunCard

/-- THE TIED CARD OF 'fullinglaw31.CPUFuel'. -/
def cPUFuelCard : Claim7 := { stood := { row := cPUFuelRow, standIns := [], harness := (true, "d9964c610f5bae144fab1c9eccd5b551fd571406563b0949c357523bc9dbe3c2"), looks := false }, kinds := [], alts := [], laidByText := true, laidKinds := [.data], laidTests := true, laidLooks := .later }
def CPUFuelCardSaid : Prop := Claim7.holds Tryd.pinned (.plain (OpenSpec.ofChange cPUFuelSpec)) cPUFuelCard

/-- THE TIED CARD OF 'fullinglaw31.CPUEnds'. -/
def cPUEndsCard : Claim7 := { stood := { row := cPUEndsRow, standIns := [], harness := (true, "d9964c610f5bae144fab1c9eccd5b551fd571406563b0949c357523bc9dbe3c2"), looks := false }, kinds := [], alts := [], laidByText := true, laidKinds := [.data], laidTests := true, laidLooks := .later }
def CPUEndsCardSaid : Prop := Claim7.holds Tryd.pinned (.plain (OpenSpec.ofChange cPUEndsSpec)) cPUEndsCard

/-- THE TIED CARD OF 'fullinglaw31.CPUInputs'. -/
def cPUInputsCard : Claim7 := { stood := { row := cPUInputsRow, standIns := [], harness := (true, "d9964c610f5bae144fab1c9eccd5b551fd571406563b0949c357523bc9dbe3c2"), looks := false }, kinds := [], alts := [], laidByText := true, laidKinds := [.data], laidTests := true, laidLooks := .later }
def CPUInputsCardSaid : Prop := Claim7.holds Tryd.pinned (.plain (OpenSpec.ofChange cPUInputsSpec)) cPUInputsCard

/-- THE SECOND FORM's CARD OF 'fullinglaw31.CPUSteps'. -/
def cPUStepsUptoCard : Claim7 := { stood := { row := cPUStepsUptoRow, standIns := [], harness := (true, "d9964c610f5bae144fab1c9eccd5b551fd571406563b0949c357523bc9dbe3c2"), looks := false }, kinds := [], alts := [], laidByText := true, laidKinds := [.data], laidTests := true, laidLooks := .later }
def CPUStepsUptoCardSaid : Prop := Claim7.holds Tryd.pinned (.plain (OpenSpec.upto cPUStepsSpec)) cPUStepsUptoCard

/-- THE SECOND FORM's CARD OF 'fullinglaw31.CPUEffects'. -/
def cPUEffectsUptoCard : Claim7 := { stood := { row := cPUEffectsUptoRow, standIns := [], harness := (true, "d9964c610f5bae144fab1c9eccd5b551fd571406563b0949c357523bc9dbe3c2"), looks := false }, kinds := [], alts := [], laidByText := true, laidKinds := [.data], laidTests := true, laidLooks := .later }
def CPUEffectsUptoCardSaid : Prop := Claim7.holds Tryd.pinned (.plain (OpenSpec.upto cPUEffectsSpec)) cPUEffectsUptoCard

/-- THE SECOND FORM's CARD OF 'fullinglaw30.EncodingExamples'. -/
def encodingExamplesUptoCard : Claim7 := { stood := { row := encodingExamplesUptoRow, standIns := [], harness := (true, "d9964c610f5bae144fab1c9eccd5b551fd571406563b0949c357523bc9dbe3c2"), looks := false }, kinds := [], alts := [], laidByText := true, laidKinds := [.data], laidTests := true, laidLooks := .later }
def EncodingExamplesUptoCardSaid : Prop := Claim7.holds Tryd.pinned (.plain (OpenSpec.upto encodingExamplesSpec)) encodingExamplesUptoCard

/-- THE SECOND FORM's CARD OF 'fullinglaw30.EncodingEncode'. -/
def encodingEncodeUptoCard : Claim7 := { stood := { row := encodingEncodeUptoRow, standIns := [], harness := (true, "d9964c610f5bae144fab1c9eccd5b551fd571406563b0949c357523bc9dbe3c2"), looks := false }, kinds := [], alts := [], laidByText := true, laidKinds := [.data], laidTests := true, laidLooks := .later }
def EncodingEncodeUptoCardSaid : Prop := Claim7.holds Tryd.pinned (.plain (OpenSpec.upto encodingEncodeSpec)) encodingEncodeUptoCard

/-- THE SECOND FORM's CARD OF 'fullinglaw30.EncodingUnique'. -/
def encodingUniqueUptoCard : Claim7 := { stood := { row := encodingUniqueUptoRow, standIns := [], harness := (true, "d9964c610f5bae144fab1c9eccd5b551fd571406563b0949c357523bc9dbe3c2"), looks := false }, kinds := [], alts := [], laidByText := true, laidKinds := [.data], laidTests := true, laidLooks := .later }
def EncodingUniqueUptoCardSaid : Prop := Claim7.holds Tryd.pinned (.plain (OpenSpec.upto encodingUniqueSpec)) encodingUniqueUptoCard

/-- THE SECOND FORM's CARD OF 'fullinglaw30.EncodingFlip'. -/
def encodingFlipUptoCard : Claim7 := { stood := { row := encodingFlipUptoRow, standIns := [], harness := (true, "d9964c610f5bae144fab1c9eccd5b551fd571406563b0949c357523bc9dbe3c2"), looks := false }, kinds := [], alts := [], laidByText := true, laidKinds := [.data], laidTests := true, laidLooks := .later }
def EncodingFlipUptoCardSaid : Prop := Claim7.holds Tryd.pinned (.plain (OpenSpec.upto encodingFlipSpec)) encodingFlipUptoCard

/-- THE SECOND FORM's CARD OF 'fullinglaw30.EncodingDecode'. -/
def encodingDecodeUptoCard : Claim7 := { stood := { row := encodingDecodeUptoRow, standIns := [], harness := (true, "d9964c610f5bae144fab1c9eccd5b551fd571406563b0949c357523bc9dbe3c2"), looks := false }, kinds := [], alts := [], laidByText := true, laidKinds := [.data], laidTests := true, laidLooks := .later }
def EncodingDecodeUptoCardSaid : Prop := Claim7.holds Tryd.pinned (.plain (OpenSpec.upto encodingDecodeSpec)) encodingDecodeUptoCard

/-- THE SECOND FORM's CARD OF 'fullinglaw30.EncodingRoundTrip'. -/
def encodingRoundTripUptoCard : Claim7 := { stood := { row := encodingRoundTripUptoRow, standIns := [], harness := (true, "d9964c610f5bae144fab1c9eccd5b551fd571406563b0949c357523bc9dbe3c2"), looks := false }, kinds := [], alts := [], laidByText := true, laidKinds := [.data], laidTests := true, laidLooks := .later }
def EncodingRoundTripUptoCardSaid : Prop := Claim7.holds Tryd.pinned (.plain (OpenSpec.upto encodingRoundTripSpec)) encodingRoundTripUptoCard

/-- THE SECOND FORM's CARD OF 'fullinglaw30.EncodingValid'. -/
def encodingValidUptoCard : Claim7 := { stood := { row := encodingValidUptoRow, standIns := [], harness := (true, "d9964c610f5bae144fab1c9eccd5b551fd571406563b0949c357523bc9dbe3c2"), looks := false }, kinds := [], alts := [], laidByText := true, laidKinds := [.data], laidTests := true, laidLooks := .later }
def EncodingValidUptoCardSaid : Prop := Claim7.holds Tryd.pinned (.plain (OpenSpec.upto encodingValidSpec)) encodingValidUptoCard

/-- THE SECOND FORM's CARD OF 'fullinglaw31.CPUExamples'. -/
def cPUExamplesUptoCard : Claim7 := { stood := { row := cPUExamplesUptoRow, standIns := [], harness := (true, "d9964c610f5bae144fab1c9eccd5b551fd571406563b0949c357523bc9dbe3c2"), looks := false }, kinds := [], alts := [], laidByText := true, laidKinds := [.data], laidTests := true, laidLooks := .later }
def CPUExamplesUptoCardSaid : Prop := Claim7.holds Tryd.pinned (.plain (OpenSpec.upto cPUExamplesSpec)) cPUExamplesUptoCard

/-- THE SECOND FORM's CARD OF 'fullinglaw31.CPUErrors'. -/
def cPUErrorsUptoCard : Claim7 := { stood := { row := cPUErrorsUptoRow, standIns := [], harness := (true, "d9964c610f5bae144fab1c9eccd5b551fd571406563b0949c357523bc9dbe3c2"), looks := false }, kinds := [], alts := [], laidByText := true, laidKinds := [.data], laidTests := true, laidLooks := .later }
def CPUErrorsUptoCardSaid : Prop := Claim7.holds Tryd.pinned (.plain (OpenSpec.upto cPUErrorsSpec)) cPUErrorsUptoCard

/-- THE SECOND FORM's CARD OF 'fullinglaw31.CPURun'. -/
def cPURunUptoCard : Claim7 := { stood := { row := cPURunUptoRow, standIns := [], harness := (true, "d9964c610f5bae144fab1c9eccd5b551fd571406563b0949c357523bc9dbe3c2"), looks := false }, kinds := [], alts := [], laidByText := true, laidKinds := [.data], laidTests := true, laidLooks := .later }
def CPURunUptoCardSaid : Prop := Claim7.holds Tryd.pinned (.plain (OpenSpec.upto cPURunSpec)) cPURunUptoCard

/-- THE SECOND FORM's CARD OF 'fullinglaw31.CPUFuel'. -/
def cPUFuelUptoCard : Claim7 := { stood := { row := cPUFuelUptoRow, standIns := [], harness := (true, "d9964c610f5bae144fab1c9eccd5b551fd571406563b0949c357523bc9dbe3c2"), looks := false }, kinds := [], alts := [], laidByText := true, laidKinds := [.data], laidTests := true, laidLooks := .later }
def CPUFuelUptoCardSaid : Prop := Claim7.holds Tryd.pinned (.plain (OpenSpec.upto cPUFuelSpec)) cPUFuelUptoCard

/-- THE SECOND FORM's CARD OF 'fullinglaw31.CPUEnds'. -/
def cPUEndsUptoCard : Claim7 := { stood := { row := cPUEndsUptoRow, standIns := [], harness := (true, "d9964c610f5bae144fab1c9eccd5b551fd571406563b0949c357523bc9dbe3c2"), looks := false }, kinds := [], alts := [], laidByText := true, laidKinds := [.data], laidTests := true, laidLooks := .later }
def CPUEndsUptoCardSaid : Prop := Claim7.holds Tryd.pinned (.plain (OpenSpec.upto cPUEndsSpec)) cPUEndsUptoCard

/-- THE SECOND FORM's CARD OF 'fullinglaw31.CPUInputs'. -/
def cPUInputsUptoCard : Claim7 := { stood := { row := cPUInputsUptoRow, standIns := [], harness := (true, "d9964c610f5bae144fab1c9eccd5b551fd571406563b0949c357523bc9dbe3c2"), looks := false }, kinds := [], alts := [], laidByText := true, laidKinds := [.data], laidTests := true, laidLooks := .later }
def CPUInputsUptoCardSaid : Prop := Claim7.holds Tryd.pinned (.plain (OpenSpec.upto cPUInputsSpec)) cPUInputsUptoCard
end Rows
end Go.Proofs.YtcjidibdidijaaaDoor
