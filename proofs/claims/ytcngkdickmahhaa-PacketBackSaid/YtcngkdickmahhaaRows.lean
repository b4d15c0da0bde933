/-
  No cell of these rows narrows 'for every input' (looked for: loops, veiled, ifaces, maps, wideKeys, modest, calm, conditions, laid).
  DERIVED. THE GIVEN ROWS OF THIS SEAT. 11 by the template 'for every input the law returns true; each argument reads behind the call as it read before'; 0 by the template 'total and deterministic' (their statements: YtcngkdickmahhaaTotals.lean).
  GIVEN WITH THE SEED: the statements are not yours to turn. If you find one false, say at which input.
  Laid BY PROGRAM, IN A SANDBOX (cutbox-rows.mjs): the forced cells as the released guide's own fill.sh prints them over the translation f22ccfbb805bef7b… (all of the seat's roots in one cut). By AI agents, Wed Nov 11 2026. No macro, syntax, notation, axiom, sorry.
-/
import Derived.Test.YtcngkdickmahhaaChecked
import GoSem.Claim
import GoSem.ClaimJoined
import GoSem.ClaimMapViews
import Derived.JoinedTies
import Derived.KernelRfl
namespace Go.Proofs.Ytcngkdickmahhaa
/- THE CELL 'sum', in the pinned program and in every row, IS THE sha256 OF THE DUMP (.gsa) THAT YtcngkdickmahhaaProg.lean LOADS. Nothing in Lean hashes anything: it is a label: what it is worth is what the hold of that sum in a sandbox is worth. -/
noncomputable def Try.pinned : Pinned := { name := "ytcngkdickmahhaa", sum := "f22ccfbb805bef7bff0567aee19a8b2b37ce429092bc672b69c7385ecc8ce9ad", checked := Try.checked }
namespace Rows
def none {H : Type} : Left H := { results := [], args := [] }

/-- 'passkeylaw21.PacketCounts': WHATEVER THE INPUT: true; the input reads as it did. -/
def packetCountsSpec : ChangeSpec := { name := "packetCounts", fn := fun _ => fun
  | [d] => { results := [.lit (.bool true)], args := [d] }
  | _ => none }
def packetCountsRow : OpenClaim := { program := "ytcngkdickmahhaa", sum := "f22ccfbb805bef7bff0567aee19a8b2b37ce429092bc672b69c7385ecc8ce9ad", func := "passkey/passkeylaw21.PacketCounts", spec := "packetCounts", apart := false }
def PacketCountsSaid : Prop := packetCountsRow.holds Try.pinned (OpenSpec.ofChange packetCountsSpec)

/-- ITS FALSE NEIGHBOUR: 'it returns false'. Refute it at one input. -/
def packetCountsWrong : ChangeSpec := { name := "packetCounts", fn := fun _ => fun
  | [d] => { results := [.lit (.bool false)], args := [d] }
  | _ => none }
def PacketCountsWrongFalsely : Prop := packetCountsRow.holds Try.pinned (OpenSpec.ofChange packetCountsWrong)

/-- 'passkeylaw21.PacketSplits': WHATEVER THE INPUT: true; the input reads as it did. -/
def packetSplitsSpec : ChangeSpec := { name := "packetSplits", fn := fun _ => fun
  | [d1, d2, d3, d4, d5] => { results := [.lit (.bool true)], args := [d1, d2, d3, d4, d5] }
  | _ => none }
def packetSplitsRow : OpenClaim := { program := "ytcngkdickmahhaa", sum := "f22ccfbb805bef7bff0567aee19a8b2b37ce429092bc672b69c7385ecc8ce9ad", func := "passkey/passkeylaw21.PacketSplits", spec := "packetSplits", apart := false }
def PacketSplitsSaid : Prop := packetSplitsRow.holds Try.pinned (OpenSpec.ofChange packetSplitsSpec)

/-- ITS FALSE NEIGHBOUR: 'it returns false'. Refute it at one input. -/
def packetSplitsWrong : ChangeSpec := { name := "packetSplits", fn := fun _ => fun
  | [d1, d2, d3, d4, d5] => { results := [.lit (.bool false)], args := [d1, d2, d3, d4, d5] }
  | _ => none }
def PacketSplitsWrongFalsely : Prop := packetSplitsRow.holds Try.pinned (OpenSpec.ofChange packetSplitsWrong)

/-- 'passkeylaw21.PacketDecodes': WHATEVER THE INPUT: true; the input reads as it did. -/
def packetDecodesSpec : ChangeSpec := { name := "packetDecodes", fn := fun _ => fun
  | [d1, d2] => { results := [.lit (.bool true)], args := [d1, d2] }
  | _ => none }
def packetDecodesRow : OpenClaim := { program := "ytcngkdickmahhaa", sum := "f22ccfbb805bef7bff0567aee19a8b2b37ce429092bc672b69c7385ecc8ce9ad", func := "passkey/passkeylaw21.PacketDecodes", spec := "packetDecodes", apart := false }
def PacketDecodesSaid : Prop := packetDecodesRow.holds Try.pinned (OpenSpec.ofChange packetDecodesSpec)

/-- ITS FALSE NEIGHBOUR: 'it returns false'. Refute it at one input. -/
def packetDecodesWrong : ChangeSpec := { name := "packetDecodes", fn := fun _ => fun
  | [d1, d2] => { results := [.lit (.bool false)], args := [d1, d2] }
  | _ => none }
def PacketDecodesWrongFalsely : Prop := packetDecodesRow.holds Try.pinned (OpenSpec.ofChange packetDecodesWrong)

/-- 'passkeylaw21.PacketEncodes': WHATEVER THE INPUT: true; the input reads as it did. -/
def packetEncodesSpec : ChangeSpec := { name := "packetEncodes", fn := fun _ => fun
  | [d1, d2] => { results := [.lit (.bool true)], args := [d1, d2] }
  | _ => none }
def packetEncodesRow : OpenClaim := { program := "ytcngkdickmahhaa", sum := "f22ccfbb805bef7bff0567aee19a8b2b37ce429092bc672b69c7385ecc8ce9ad", func := "passkey/passkeylaw21.PacketEncodes", spec := "packetEncodes", apart := false }
def PacketEncodesSaid : Prop := packetEncodesRow.holds Try.pinned (OpenSpec.ofChange packetEncodesSpec)

/-- ITS FALSE NEIGHBOUR: 'it returns false'. Refute it at one input. -/
def packetEncodesWrong : ChangeSpec := { name := "packetEncodes", fn := fun _ => fun
  | [d1, d2] => { results := [.lit (.bool false)], args := [d1, d2] }
  | _ => none }
def PacketEncodesWrongFalsely : Prop := packetEncodesRow.holds Try.pinned (OpenSpec.ofChange packetEncodesWrong)

/-- 'passkeylaw21.PacketBack': WHATEVER THE INPUT: true; the input reads as it did. -/
def packetBackSpec : ChangeSpec := { name := "packetBack", fn := fun _ => fun
  | [d1, d2] => { results := [.lit (.bool true)], args := [d1, d2] }
  | _ => none }
def packetBackRow : OpenClaim := { program := "ytcngkdickmahhaa", sum := "f22ccfbb805bef7bff0567aee19a8b2b37ce429092bc672b69c7385ecc8ce9ad", func := "passkey/passkeylaw21.PacketBack", spec := "packetBack", apart := false }
def PacketBackSaid : Prop := packetBackRow.holds Try.pinned (OpenSpec.ofChange packetBackSpec)

/-- ITS FALSE NEIGHBOUR: 'it returns false'. Refute it at one input. -/
def packetBackWrong : ChangeSpec := { name := "packetBack", fn := fun _ => fun
  | [d1, d2] => { results := [.lit (.bool false)], args := [d1, d2] }
  | _ => none }
def PacketBackWrongFalsely : Prop := packetBackRow.holds Try.pinned (OpenSpec.ofChange packetBackWrong)

/-- 'passkeylaw21.PacketTravels': WHATEVER THE INPUT: true; the input reads as it did. -/
def packetTravelsSpec : ChangeSpec := { name := "packetTravels", fn := fun _ => fun
  | [d1, d2, d3, d4, d5] => { results := [.lit (.bool true)], args := [d1, d2, d3, d4, d5] }
  | _ => none }
def packetTravelsRow : OpenClaim := { program := "ytcngkdickmahhaa", sum := "f22ccfbb805bef7bff0567aee19a8b2b37ce429092bc672b69c7385ecc8ce9ad", func := "passkey/passkeylaw21.PacketTravels", spec := "packetTravels", apart := false }
def PacketTravelsSaid : Prop := packetTravelsRow.holds Try.pinned (OpenSpec.ofChange packetTravelsSpec)

/-- ITS FALSE NEIGHBOUR: 'it returns false'. Refute it at one input. -/
def packetTravelsWrong : ChangeSpec := { name := "packetTravels", fn := fun _ => fun
  | [d1, d2, d3, d4, d5] => { results := [.lit (.bool false)], args := [d1, d2, d3, d4, d5] }
  | _ => none }
def PacketTravelsWrongFalsely : Prop := packetTravelsRow.holds Try.pinned (OpenSpec.ofChange packetTravelsWrong)

/-- 'passkeylaw22.LinkDelivers': WHATEVER THE INPUT: true; the input reads as it did. -/
def linkDeliversSpec : ChangeSpec := { name := "linkDelivers", fn := fun _ => fun
  | [d1, d2, d3] => { results := [.lit (.bool true)], args := [d1, d2, d3] }
  | _ => none }
def linkDeliversRow : OpenClaim := { program := "ytcngkdickmahhaa", sum := "f22ccfbb805bef7bff0567aee19a8b2b37ce429092bc672b69c7385ecc8ce9ad", func := "passkey/passkeylaw22.LinkDelivers", spec := "linkDelivers", apart := false }
def LinkDeliversSaid : Prop := linkDeliversRow.holds Try.pinned (OpenSpec.ofChange linkDeliversSpec)

/-- ITS FALSE NEIGHBOUR: 'it returns false'. Refute it at one input. -/
def linkDeliversWrong : ChangeSpec := { name := "linkDelivers", fn := fun _ => fun
  | [d1, d2, d3] => { results := [.lit (.bool false)], args := [d1, d2, d3] }
  | _ => none }
def LinkDeliversWrongFalsely : Prop := linkDeliversRow.holds Try.pinned (OpenSpec.ofChange linkDeliversWrong)

/-- 'passkeylaw22.LinkOnce': WHATEVER THE INPUT: true; the input reads as it did. -/
def linkOnceSpec : ChangeSpec := { name := "linkOnce", fn := fun _ => fun
  | [d] => { results := [.lit (.bool true)], args := [d] }
  | _ => none }
def linkOnceRow : OpenClaim := { program := "ytcngkdickmahhaa", sum := "f22ccfbb805bef7bff0567aee19a8b2b37ce429092bc672b69c7385ecc8ce9ad", func := "passkey/passkeylaw22.LinkOnce", spec := "linkOnce", apart := false }
def LinkOnceSaid : Prop := linkOnceRow.holds Try.pinned (OpenSpec.ofChange linkOnceSpec)

/-- ITS FALSE NEIGHBOUR: 'it returns false'. Refute it at one input. -/
def linkOnceWrong : ChangeSpec := { name := "linkOnce", fn := fun _ => fun
  | [d] => { results := [.lit (.bool false)], args := [d] }
  | _ => none }
def LinkOnceWrongFalsely : Prop := linkOnceRow.holds Try.pinned (OpenSpec.ofChange linkOnceWrong)

/-- 'passkeylaw22.LinkForgets': WHATEVER THE INPUT: true; the input reads as it did. -/
def linkForgetsSpec : ChangeSpec := { name := "linkForgets", fn := fun _ => fun
  | [d1, d2, d3] => { results := [.lit (.bool true)], args := [d1, d2, d3] }
  | _ => none }
def linkForgetsRow : OpenClaim := { program := "ytcngkdickmahhaa", sum := "f22ccfbb805bef7bff0567aee19a8b2b37ce429092bc672b69c7385ecc8ce9ad", func := "passkey/passkeylaw22.LinkForgets", spec := "linkForgets", apart := false }
def LinkForgetsSaid : Prop := linkForgetsRow.holds Try.pinned (OpenSpec.ofChange linkForgetsSpec)

/-- ITS FALSE NEIGHBOUR: 'it returns false'. Refute it at one input. -/
def linkForgetsWrong : ChangeSpec := { name := "linkForgets", fn := fun _ => fun
  | [d1, d2, d3] => { results := [.lit (.bool false)], args := [d1, d2, d3] }
  | _ => none }
def LinkForgetsWrongFalsely : Prop := linkForgetsRow.holds Try.pinned (OpenSpec.ofChange linkForgetsWrong)

/-- 'passkeylaw22.LinkAccepts': WHATEVER THE INPUT: true; the input reads as it did. -/
def linkAcceptsSpec : ChangeSpec := { name := "linkAccepts", fn := fun _ => fun
  | [d1, d2, d3] => { results := [.lit (.bool true)], args := [d1, d2, d3] }
  | _ => none }
def linkAcceptsRow : OpenClaim := { program := "ytcngkdickmahhaa", sum := "f22ccfbb805bef7bff0567aee19a8b2b37ce429092bc672b69c7385ecc8ce9ad", func := "passkey/passkeylaw22.LinkAccepts", spec := "linkAccepts", apart := false }
def LinkAcceptsSaid : Prop := linkAcceptsRow.holds Try.pinned (OpenSpec.ofChange linkAcceptsSpec)

/-- ITS FALSE NEIGHBOUR: 'it returns false'. Refute it at one input. -/
def linkAcceptsWrong : ChangeSpec := { name := "linkAccepts", fn := fun _ => fun
  | [d1, d2, d3] => { results := [.lit (.bool false)], args := [d1, d2, d3] }
  | _ => none }
def LinkAcceptsWrongFalsely : Prop := linkAcceptsRow.holds Try.pinned (OpenSpec.ofChange linkAcceptsWrong)

/-- 'passkeylaw22.LinkAnswers': WHATEVER THE INPUT: true; the input reads as it did. -/
def linkAnswersSpec : ChangeSpec := { name := "linkAnswers", fn := fun _ => fun
  | [d1, d2, d3] => { results := [.lit (.bool true)], args := [d1, d2, d3] }
  | _ => none }
def linkAnswersRow : OpenClaim := { program := "ytcngkdickmahhaa", sum := "f22ccfbb805bef7bff0567aee19a8b2b37ce429092bc672b69c7385ecc8ce9ad", func := "passkey/passkeylaw22.LinkAnswers", spec := "linkAnswers", apart := false }
def LinkAnswersSaid : Prop := linkAnswersRow.holds Try.pinned (OpenSpec.ofChange linkAnswersSpec)

/-- ITS FALSE NEIGHBOUR: 'it returns false'. Refute it at one input. -/
def linkAnswersWrong : ChangeSpec := { name := "linkAnswers", fn := fun _ => fun
  | [d1, d2, d3] => { results := [.lit (.bool false)], args := [d1, d2, d3] }
  | _ => none }
def LinkAnswersWrongFalsely : Prop := linkAnswersRow.holds Try.pinned (OpenSpec.ofChange linkAnswersWrong)

/- THE SECOND FORM. 'bulk': how many values and letters a reading holds, each counted each time it is reached (what is shared counts as often as it is met; a slice's spare places count too). A statement '..UptoSaid' is the law's where the arguments, and the package variables that the reading takes, are together of bulk at most 1048576: NARROWER than '..Said'. Prove '..Said' where nothing that the law and all that it calls make is longer than what came in: it says more and counts as full. Else prove '..UptoSaid'. A law counts once. -/
mutual
def uptoBulk {H : Type} : DataW H → Nat
  | .lit (.string bytes) => bytes.length + 1
  | .lit _ => 1
  | .nil => 1
  | .ptr d => uptoBulk d + 1
  | .slice elems spare => uptoBulkAll elems + uptoBulkAll spare + 1
  | .agg parts => uptoBulkAll parts + 1
  | .iface _ d => uptoBulk d + 1
  | .map entries => uptoBulkEntries entries + 1
  | .held _ => 1
def uptoBulkAll {H : Type} : List (DataW H) → Nat
  | [] => 0
  | d :: r => uptoBulk d + uptoBulkAll r
def uptoBulkEntries {H : Type} : List (Lit × DataW H) → Nat
  | [] => 0
  | x :: r => uptoBulkEntry x + uptoBulkEntries r
def uptoBulkEntry {H : Type} : Lit × DataW H → Nat
  | (.string bytes, d) => bytes.length + uptoBulk d + 1
  | (_, d) => uptoBulk d + 1
 end
def uptoSmall : (H : Type) → List (DataW H) → Bool := fun _ ds => decide (uptoBulkAll ds ≤ 1048576)
def OpenSpec.upto (s : _root_.Go.ChangeSpec) : _root_.Go.OpenSpec := { _root_.Go.OpenSpec.ofChange s with cond := some uptoSmall }

/-- 'passkeylaw21.PacketCounts', WHERE WHAT IT READS IS OF BULK AT MOST 1048576: true; the input reads as it did. -/
def packetCountsUptoRow : OpenClaim := { program := "ytcngkdickmahhaa", sum := "f22ccfbb805bef7bff0567aee19a8b2b37ce429092bc672b69c7385ecc8ce9ad", func := "passkey/passkeylaw21.PacketCounts", spec := "packetCounts", apart := false, narrowed := true }
def PacketCountsUptoSaid : Prop := packetCountsUptoRow.holds Try.pinned (OpenSpec.upto packetCountsSpec)

/-- 'passkeylaw21.PacketSplits', WHERE WHAT IT READS IS OF BULK AT MOST 1048576: true; the input reads as it did. -/
def packetSplitsUptoRow : OpenClaim := { program := "ytcngkdickmahhaa", sum := "f22ccfbb805bef7bff0567aee19a8b2b37ce429092bc672b69c7385ecc8ce9ad", func := "passkey/passkeylaw21.PacketSplits", spec := "packetSplits", apart := false, narrowed := true }
def PacketSplitsUptoSaid : Prop := packetSplitsUptoRow.holds Try.pinned (OpenSpec.upto packetSplitsSpec)

/-- 'passkeylaw21.PacketDecodes', WHERE WHAT IT READS IS OF BULK AT MOST 1048576: true; the input reads as it did. -/
def packetDecodesUptoRow : OpenClaim := { program := "ytcngkdickmahhaa", sum := "f22ccfbb805bef7bff0567aee19a8b2b37ce429092bc672b69c7385ecc8ce9ad", func := "passkey/passkeylaw21.PacketDecodes", spec := "packetDecodes", apart := false, narrowed := true }
def PacketDecodesUptoSaid : Prop := packetDecodesUptoRow.holds Try.pinned (OpenSpec.upto packetDecodesSpec)

/-- 'passkeylaw21.PacketEncodes', WHERE WHAT IT READS IS OF BULK AT MOST 1048576: true; the input reads as it did. -/
def packetEncodesUptoRow : OpenClaim := { program := "ytcngkdickmahhaa", sum := "f22ccfbb805bef7bff0567aee19a8b2b37ce429092bc672b69c7385ecc8ce9ad", func := "passkey/passkeylaw21.PacketEncodes", spec := "packetEncodes", apart := false, narrowed := true }
def PacketEncodesUptoSaid : Prop := packetEncodesUptoRow.holds Try.pinned (OpenSpec.upto packetEncodesSpec)

/-- 'passkeylaw21.PacketBack', WHERE WHAT IT READS IS OF BULK AT MOST 1048576: true; the input reads as it did. -/
def packetBackUptoRow : OpenClaim := { program := "ytcngkdickmahhaa", sum := "f22ccfbb805bef7bff0567aee19a8b2b37ce429092bc672b69c7385ecc8ce9ad", func := "passkey/passkeylaw21.PacketBack", spec := "packetBack", apart := false, narrowed := true }
def PacketBackUptoSaid : Prop := packetBackUptoRow.holds Try.pinned (OpenSpec.upto packetBackSpec)

/-- 'passkeylaw21.PacketTravels', WHERE WHAT IT READS IS OF BULK AT MOST 1048576: true; the input reads as it did. -/
def packetTravelsUptoRow : OpenClaim := { program := "ytcngkdickmahhaa", sum := "f22ccfbb805bef7bff0567aee19a8b2b37ce429092bc672b69c7385ecc8ce9ad", func := "passkey/passkeylaw21.PacketTravels", spec := "packetTravels", apart := false, narrowed := true }
def PacketTravelsUptoSaid : Prop := packetTravelsUptoRow.holds Try.pinned (OpenSpec.upto packetTravelsSpec)

/-- 'passkeylaw22.LinkDelivers', WHERE WHAT IT READS IS OF BULK AT MOST 1048576: true; the input reads as it did. -/
def linkDeliversUptoRow : OpenClaim := { program := "ytcngkdickmahhaa", sum := "f22ccfbb805bef7bff0567aee19a8b2b37ce429092bc672b69c7385ecc8ce9ad", func := "passkey/passkeylaw22.LinkDelivers", spec := "linkDelivers", apart := false, narrowed := true }
def LinkDeliversUptoSaid : Prop := linkDeliversUptoRow.holds Try.pinned (OpenSpec.upto linkDeliversSpec)

/-- 'passkeylaw22.LinkOnce', WHERE WHAT IT READS IS OF BULK AT MOST 1048576: true; the input reads as it did. -/
def linkOnceUptoRow : OpenClaim := { program := "ytcngkdickmahhaa", sum := "f22ccfbb805bef7bff0567aee19a8b2b37ce429092bc672b69c7385ecc8ce9ad", func := "passkey/passkeylaw22.LinkOnce", spec := "linkOnce", apart := false, narrowed := true }
def LinkOnceUptoSaid : Prop := linkOnceUptoRow.holds Try.pinned (OpenSpec.upto linkOnceSpec)

/-- 'passkeylaw22.LinkForgets', WHERE WHAT IT READS IS OF BULK AT MOST 1048576: true; the input reads as it did. -/
def linkForgetsUptoRow : OpenClaim := { program := "ytcngkdickmahhaa", sum := "f22ccfbb805bef7bff0567aee19a8b2b37ce429092bc672b69c7385ecc8ce9ad", func := "passkey/passkeylaw22.LinkForgets", spec := "linkForgets", apart := false, narrowed := true }
def LinkForgetsUptoSaid : Prop := linkForgetsUptoRow.holds Try.pinned (OpenSpec.upto linkForgetsSpec)

/-- 'passkeylaw22.LinkAccepts', WHERE WHAT IT READS IS OF BULK AT MOST 1048576: true; the input reads as it did. -/
def linkAcceptsUptoRow : OpenClaim := { program := "ytcngkdickmahhaa", sum := "f22ccfbb805bef7bff0567aee19a8b2b37ce429092bc672b69c7385ecc8ce9ad", func := "passkey/passkeylaw22.LinkAccepts", spec := "linkAccepts", apart := false, narrowed := true }
def LinkAcceptsUptoSaid : Prop := linkAcceptsUptoRow.holds Try.pinned (OpenSpec.upto linkAcceptsSpec)

/-- 'passkeylaw22.LinkAnswers', WHERE WHAT IT READS IS OF BULK AT MOST 1048576: true; the input reads as it did. -/
def linkAnswersUptoRow : OpenClaim := { program := "ytcngkdickmahhaa", sum := "f22ccfbb805bef7bff0567aee19a8b2b37ce429092bc672b69c7385ecc8ce9ad", func := "passkey/passkeylaw22.LinkAnswers", spec := "linkAnswers", apart := false, narrowed := true }
def LinkAnswersUptoSaid : Prop := linkAnswersUptoRow.holds Try.pinned (OpenSpec.upto linkAnswersSpec)

end Rows
end Go.Proofs.Ytcngkdickmahhaa
