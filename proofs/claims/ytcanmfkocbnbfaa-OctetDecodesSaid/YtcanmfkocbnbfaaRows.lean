/-
  No cell of these rows narrows 'for every input' (looked for: loops, veiled, ifaces, maps, wideKeys, modest, calm, conditions, laid).
  DERIVED. THE GIVEN ROWS OF THIS SEAT. 10 by the template 'for every input the law returns true; each argument reads behind the call as it read before'; 0 by the template 'total and deterministic' (their statements: YtcanmfkocbnbfaaTotals.lean).
  GIVEN WITH THE SEED: the statements are not yours to turn. If you find one false, say at which input.
  Laid BY PROGRAM, IN A SANDBOX (cutbox-rows.mjs): the forced cells as the released guide's own fill.sh prints them over the translation ecb73ddf9091b3a0… (all of the seat's roots in one cut). By AI agents, Wed Nov 11 2026. No macro, syntax, notation, axiom, sorry.
-/
import Derived.Test.YtcanmfkocbnbfaaChecked
import GoSem.Claim
import GoSem.ClaimJoined
import GoSem.ClaimMapViews
import Derived.JoinedTies
import Derived.KernelRfl
namespace Go.Proofs.Ytcanmfkocbnbfaa
/- THE CELL 'sum', in the pinned program and in every row, IS THE sha256 OF THE DUMP (.gsa) THAT YtcanmfkocbnbfaaProg.lean LOADS. Nothing in Lean hashes anything: it is a label: what it is worth is what the hold of that sum in a sandbox is worth. -/
noncomputable def Try.pinned : Pinned := { name := "ytcanmfkocbnbfaa", sum := "ecb73ddf9091b3a039bdcb49bdfd5ec95abad528f11191c6c9d4871f6e580a06", checked := Try.checked }
namespace Rows
def none {H : Type} : Left H := { results := [], args := [] }

/-- 'gouachelaw01.OctetEncodes': WHATEVER THE INPUT: true; the input reads as it did. -/
def octetEncodesSpec : ChangeSpec := { name := "octetEncodes", fn := fun _ => fun
  | [d1, d2, d3] => { results := [.lit (.bool true)], args := [d1, d2, d3] }
  | _ => none }
def octetEncodesRow : OpenClaim := { program := "ytcanmfkocbnbfaa", sum := "ecb73ddf9091b3a039bdcb49bdfd5ec95abad528f11191c6c9d4871f6e580a06", func := "gouache/gouachelaw01.OctetEncodes", spec := "octetEncodes", unfollowed := true, recurses := true, apart := false }
def OctetEncodesSaid : Prop := octetEncodesRow.holds Try.pinned (OpenSpec.ofChange octetEncodesSpec)

/-- ITS FALSE NEIGHBOUR: 'it returns false'. Refute it at one input. -/
def octetEncodesWrong : ChangeSpec := { name := "octetEncodes", fn := fun _ => fun
  | [d1, d2, d3] => { results := [.lit (.bool false)], args := [d1, d2, d3] }
  | _ => none }
def OctetEncodesWrongFalsely : Prop := octetEncodesRow.holds Try.pinned (OpenSpec.ofChange octetEncodesWrong)

/-- 'gouachelaw01.OctetOrder': WHATEVER THE INPUT: true; the input reads as it did. -/
def octetOrderSpec : ChangeSpec := { name := "octetOrder", fn := fun _ => fun
  | [d1, d2] => { results := [.lit (.bool true)], args := [d1, d2] }
  | _ => none }
def octetOrderRow : OpenClaim := { program := "ytcanmfkocbnbfaa", sum := "ecb73ddf9091b3a039bdcb49bdfd5ec95abad528f11191c6c9d4871f6e580a06", func := "gouache/gouachelaw01.OctetOrder", spec := "octetOrder", unfollowed := true, recurses := true, apart := false }
def OctetOrderSaid : Prop := octetOrderRow.holds Try.pinned (OpenSpec.ofChange octetOrderSpec)

/-- ITS FALSE NEIGHBOUR: 'it returns false'. Refute it at one input. -/
def octetOrderWrong : ChangeSpec := { name := "octetOrder", fn := fun _ => fun
  | [d1, d2] => { results := [.lit (.bool false)], args := [d1, d2] }
  | _ => none }
def OctetOrderWrongFalsely : Prop := octetOrderRow.holds Try.pinned (OpenSpec.ofChange octetOrderWrong)

/-- 'gouachelaw01.OctetVarLength': WHATEVER THE INPUT: true; the input reads as it did. -/
def octetVarLengthSpec : ChangeSpec := { name := "octetVarLength", fn := fun _ => fun
  | [d] => { results := [.lit (.bool true)], args := [d] }
  | _ => none }
def octetVarLengthRow : OpenClaim := { program := "ytcanmfkocbnbfaa", sum := "ecb73ddf9091b3a039bdcb49bdfd5ec95abad528f11191c6c9d4871f6e580a06", func := "gouache/gouachelaw01.OctetVarLength", spec := "octetVarLength", unfollowed := true, recurses := true, apart := false }
def OctetVarLengthSaid : Prop := octetVarLengthRow.holds Try.pinned (OpenSpec.ofChange octetVarLengthSpec)

/-- ITS FALSE NEIGHBOUR: 'it returns false'. Refute it at one input. -/
def octetVarLengthWrong : ChangeSpec := { name := "octetVarLength", fn := fun _ => fun
  | [d] => { results := [.lit (.bool false)], args := [d] }
  | _ => none }
def OctetVarLengthWrongFalsely : Prop := octetVarLengthRow.holds Try.pinned (OpenSpec.ofChange octetVarLengthWrong)

/-- 'gouachelaw01.OctetVarUnique': WHATEVER THE INPUT: true; the input reads as it did. -/
def octetVarUniqueSpec : ChangeSpec := { name := "octetVarUnique", fn := fun _ => fun
  | [d1, d2] => { results := [.lit (.bool true)], args := [d1, d2] }
  | _ => none }
def octetVarUniqueRow : OpenClaim := { program := "ytcanmfkocbnbfaa", sum := "ecb73ddf9091b3a039bdcb49bdfd5ec95abad528f11191c6c9d4871f6e580a06", func := "gouache/gouachelaw01.OctetVarUnique", spec := "octetVarUnique", unfollowed := true, recurses := true, apart := false }
def OctetVarUniqueSaid : Prop := octetVarUniqueRow.holds Try.pinned (OpenSpec.ofChange octetVarUniqueSpec)

/-- ITS FALSE NEIGHBOUR: 'it returns false'. Refute it at one input. -/
def octetVarUniqueWrong : ChangeSpec := { name := "octetVarUnique", fn := fun _ => fun
  | [d1, d2] => { results := [.lit (.bool false)], args := [d1, d2] }
  | _ => none }
def OctetVarUniqueWrongFalsely : Prop := octetVarUniqueRow.holds Try.pinned (OpenSpec.ofChange octetVarUniqueWrong)

/-- 'gouachelaw01.OctetBurst': WHATEVER THE INPUT: true; the input reads as it did. -/
def octetBurstSpec : ChangeSpec := { name := "octetBurst", fn := fun _ => fun
  | [d1, d2, d3] => { results := [.lit (.bool true)], args := [d1, d2, d3] }
  | _ => none }
def octetBurstRow : OpenClaim := { program := "ytcanmfkocbnbfaa", sum := "ecb73ddf9091b3a039bdcb49bdfd5ec95abad528f11191c6c9d4871f6e580a06", func := "gouache/gouachelaw01.OctetBurst", spec := "octetBurst", unfollowed := true, recurses := true, apart := false }
def OctetBurstSaid : Prop := octetBurstRow.holds Try.pinned (OpenSpec.ofChange octetBurstSpec)

/-- ITS FALSE NEIGHBOUR: 'it returns false'. Refute it at one input. -/
def octetBurstWrong : ChangeSpec := { name := "octetBurst", fn := fun _ => fun
  | [d1, d2, d3] => { results := [.lit (.bool false)], args := [d1, d2, d3] }
  | _ => none }
def OctetBurstWrongFalsely : Prop := octetBurstRow.holds Try.pinned (OpenSpec.ofChange octetBurstWrong)

/-- 'gouachelaw01.OctetLinear': WHATEVER THE INPUT: true; the input reads as it did. -/
def octetLinearSpec : ChangeSpec := { name := "octetLinear", fn := fun _ => fun
  | [d1, d2, d3] => { results := [.lit (.bool true)], args := [d1, d2, d3] }
  | _ => none }
def octetLinearRow : OpenClaim := { program := "ytcanmfkocbnbfaa", sum := "ecb73ddf9091b3a039bdcb49bdfd5ec95abad528f11191c6c9d4871f6e580a06", func := "gouache/gouachelaw01.OctetLinear", spec := "octetLinear", unfollowed := true, recurses := true, apart := false }
def OctetLinearSaid : Prop := octetLinearRow.holds Try.pinned (OpenSpec.ofChange octetLinearSpec)

/-- ITS FALSE NEIGHBOUR: 'it returns false'. Refute it at one input. -/
def octetLinearWrong : ChangeSpec := { name := "octetLinear", fn := fun _ => fun
  | [d1, d2, d3] => { results := [.lit (.bool false)], args := [d1, d2, d3] }
  | _ => none }
def OctetLinearWrongFalsely : Prop := octetLinearRow.holds Try.pinned (OpenSpec.ofChange octetLinearWrong)

/-- 'gouachelaw01.OctetTruncated': WHATEVER THE INPUT: true; the input reads as it did. -/
def octetTruncatedSpec : ChangeSpec := { name := "octetTruncated", fn := fun _ => fun
  | [d1, d2, d3] => { results := [.lit (.bool true)], args := [d1, d2, d3] }
  | _ => none }
def octetTruncatedRow : OpenClaim := { program := "ytcanmfkocbnbfaa", sum := "ecb73ddf9091b3a039bdcb49bdfd5ec95abad528f11191c6c9d4871f6e580a06", func := "gouache/gouachelaw01.OctetTruncated", spec := "octetTruncated", unfollowed := true, recurses := true, apart := false }
def OctetTruncatedSaid : Prop := octetTruncatedRow.holds Try.pinned (OpenSpec.ofChange octetTruncatedSpec)

/-- ITS FALSE NEIGHBOUR: 'it returns false'. Refute it at one input. -/
def octetTruncatedWrong : ChangeSpec := { name := "octetTruncated", fn := fun _ => fun
  | [d1, d2, d3] => { results := [.lit (.bool false)], args := [d1, d2, d3] }
  | _ => none }
def OctetTruncatedWrongFalsely : Prop := octetTruncatedRow.holds Try.pinned (OpenSpec.ofChange octetTruncatedWrong)

/-- 'gouachelaw01.OctetDecodes': WHATEVER THE INPUT: true; the input reads as it did. -/
def octetDecodesSpec : ChangeSpec := { name := "octetDecodes", fn := fun _ => fun
  | [d1, d2] => { results := [.lit (.bool true)], args := [d1, d2] }
  | _ => none }
def octetDecodesRow : OpenClaim := { program := "ytcanmfkocbnbfaa", sum := "ecb73ddf9091b3a039bdcb49bdfd5ec95abad528f11191c6c9d4871f6e580a06", func := "gouache/gouachelaw01.OctetDecodes", spec := "octetDecodes", unfollowed := true, recurses := true, apart := false }
def OctetDecodesSaid : Prop := octetDecodesRow.holds Try.pinned (OpenSpec.ofChange octetDecodesSpec)

/-- ITS FALSE NEIGHBOUR: 'it returns false'. Refute it at one input. -/
def octetDecodesWrong : ChangeSpec := { name := "octetDecodes", fn := fun _ => fun
  | [d1, d2] => { results := [.lit (.bool false)], args := [d1, d2] }
  | _ => none }
def OctetDecodesWrongFalsely : Prop := octetDecodesRow.holds Try.pinned (OpenSpec.ofChange octetDecodesWrong)

/-- 'gouachelaw01.OctetRoundTrip': WHATEVER THE INPUT: true; the input reads as it did. -/
def octetRoundTripSpec : ChangeSpec := { name := "octetRoundTrip", fn := fun _ => fun
  | [d1, d2] => { results := [.lit (.bool true)], args := [d1, d2] }
  | _ => none }
def octetRoundTripRow : OpenClaim := { program := "ytcanmfkocbnbfaa", sum := "ecb73ddf9091b3a039bdcb49bdfd5ec95abad528f11191c6c9d4871f6e580a06", func := "gouache/gouachelaw01.OctetRoundTrip", spec := "octetRoundTrip", unfollowed := true, recurses := true, apart := false }
def OctetRoundTripSaid : Prop := octetRoundTripRow.holds Try.pinned (OpenSpec.ofChange octetRoundTripSpec)

/-- ITS FALSE NEIGHBOUR: 'it returns false'. Refute it at one input. -/
def octetRoundTripWrong : ChangeSpec := { name := "octetRoundTrip", fn := fun _ => fun
  | [d1, d2] => { results := [.lit (.bool false)], args := [d1, d2] }
  | _ => none }
def OctetRoundTripWrongFalsely : Prop := octetRoundTripRow.holds Try.pinned (OpenSpec.ofChange octetRoundTripWrong)

/-- 'gouachelaw01.OctetFails': WHATEVER THE INPUT: true; the input reads as it did. -/
def octetFailsSpec : ChangeSpec := { name := "octetFails", fn := fun _ => fun
  | [d1, d2, d3] => { results := [.lit (.bool true)], args := [d1, d2, d3] }
  | _ => none }
def octetFailsRow : OpenClaim := { program := "ytcanmfkocbnbfaa", sum := "ecb73ddf9091b3a039bdcb49bdfd5ec95abad528f11191c6c9d4871f6e580a06", func := "gouache/gouachelaw01.OctetFails", spec := "octetFails", unfollowed := true, recurses := true, apart := false }
def OctetFailsSaid : Prop := octetFailsRow.holds Try.pinned (OpenSpec.ofChange octetFailsSpec)

/-- ITS FALSE NEIGHBOUR: 'it returns false'. Refute it at one input. -/
def octetFailsWrong : ChangeSpec := { name := "octetFails", fn := fun _ => fun
  | [d1, d2, d3] => { results := [.lit (.bool false)], args := [d1, d2, d3] }
  | _ => none }
def OctetFailsWrongFalsely : Prop := octetFailsRow.holds Try.pinned (OpenSpec.ofChange octetFailsWrong)

/- THE SECOND FORM. 'bulk': how many values and letters a reading holds, each counted each time it is reached (what is shared counts as often as it is met; a slice's spare places count too). A statement '..UptoSaid' is the law's where the arguments, and the package variables that the reading takes, are together of bulk at most 1048576: NARROWER than '..Said'. Prove '..Said' where nothing that the law and all that it calls make is longer than what came in: it says more and counts as full. Else prove '..UptoSaid'. A law counts once. -/
mutual
def uptoBulk {H : Type} : DataW H → Nat
  | .lit (.string bytes) => bytes.length + 1
  | .lit _ => 1
  | .nil => 1
  | .ptr d => uptoBulk d + 1
  | .slice elems spare => uptoBulkAll elems + uptoBulkAll spare + 1
  | .agg parts => uptoBulkAll parts + 1
  | .iface _ d => uptoBulk d + 1
  | .map entries => uptoBulkEntries entries + 1
  | .held _ => 1
def uptoBulkAll {H : Type} : List (DataW H) → Nat
  | [] => 0
  | d :: r => uptoBulk d + uptoBulkAll r
def uptoBulkEntries {H : Type} : List (Lit × DataW H) → Nat
  | [] => 0
  | x :: r => uptoBulkEntry x + uptoBulkEntries r
def uptoBulkEntry {H : Type} : Lit × DataW H → Nat
  | (.string bytes, d) => bytes.length + uptoBulk d + 1
  | (_, d) => uptoBulk d + 1
 end
def uptoSmall : (H : Type) → List (DataW H) → Bool := fun _ ds => decide (uptoBulkAll ds ≤ 1048576)
def OpenSpec.upto (s : _root_.Go.ChangeSpec) : _root_.Go.OpenSpec := { _root_.Go.OpenSpec.ofChange s with cond := some uptoSmall }

/-- 'gouachelaw01.OctetEncodes', WHERE WHAT IT READS IS OF BULK AT MOST 1048576: true; the input reads as it did. -/
def octetEncodesUptoRow : OpenClaim := { program := "ytcanmfkocbnbfaa", sum := "ecb73ddf9091b3a039bdcb49bdfd5ec95abad528f11191c6c9d4871f6e580a06", func := "gouache/gouachelaw01.OctetEncodes", spec := "octetEncodes", unfollowed := true, recurses := true, apart := false, narrowed := true }
def OctetEncodesUptoSaid : Prop := octetEncodesUptoRow.holds Try.pinned (OpenSpec.upto octetEncodesSpec)

/-- 'gouachelaw01.OctetOrder', WHERE WHAT IT READS IS OF BULK AT MOST 1048576: true; the input reads as it did. -/
def octetOrderUptoRow : OpenClaim := { program := "ytcanmfkocbnbfaa", sum := "ecb73ddf9091b3a039bdcb49bdfd5ec95abad528f11191c6c9d4871f6e580a06", func := "gouache/gouachelaw01.OctetOrder", spec := "octetOrder", unfollowed := true, recurses := true, apart := false, narrowed := true }
def OctetOrderUptoSaid : Prop := octetOrderUptoRow.holds Try.pinned (OpenSpec.upto octetOrderSpec)

/-- 'gouachelaw01.OctetVarLength', WHERE WHAT IT READS IS OF BULK AT MOST 1048576: true; the input reads as it did. -/
def octetVarLengthUptoRow : OpenClaim := { program := "ytcanmfkocbnbfaa", sum := "ecb73ddf9091b3a039bdcb49bdfd5ec95abad528f11191c6c9d4871f6e580a06", func := "gouache/gouachelaw01.OctetVarLength", spec := "octetVarLength", unfollowed := true, recurses := true, apart := false, narrowed := true }
def OctetVarLengthUptoSaid : Prop := octetVarLengthUptoRow.holds Try.pinned (OpenSpec.upto octetVarLengthSpec)

/-- 'gouachelaw01.OctetVarUnique', WHERE WHAT IT READS IS OF BULK AT MOST 1048576: true; the input reads as it did. -/
def octetVarUniqueUptoRow : OpenClaim := { program := "ytcanmfkocbnbfaa", sum := "ecb73ddf9091b3a039bdcb49bdfd5ec95abad528f11191c6c9d4871f6e580a06", func := "gouache/gouachelaw01.OctetVarUnique", spec := "octetVarUnique", unfollowed := true, recurses := true, apart := false, narrowed := true }
def OctetVarUniqueUptoSaid : Prop := octetVarUniqueUptoRow.holds Try.pinned (OpenSpec.upto octetVarUniqueSpec)

/-- 'gouachelaw01.OctetBurst', WHERE WHAT IT READS IS OF BULK AT MOST 1048576: true; the input reads as it did. -/
def octetBurstUptoRow : OpenClaim := { program := "ytcanmfkocbnbfaa", sum := "ecb73ddf9091b3a039bdcb49bdfd5ec95abad528f11191c6c9d4871f6e580a06", func := "gouache/gouachelaw01.OctetBurst", spec := "octetBurst", unfollowed := true, recurses := true, apart := false, narrowed := true }
def OctetBurstUptoSaid : Prop := octetBurstUptoRow.holds Try.pinned (OpenSpec.upto octetBurstSpec)

/-- 'gouachelaw01.OctetLinear', WHERE WHAT IT READS IS OF BULK AT MOST 1048576: true; the input reads as it did. -/
def octetLinearUptoRow : OpenClaim := { program := "ytcanmfkocbnbfaa", sum := "ecb73ddf9091b3a039bdcb49bdfd5ec95abad528f11191c6c9d4871f6e580a06", func := "gouache/gouachelaw01.OctetLinear", spec := "octetLinear", unfollowed := true, recurses := true, apart := false, narrowed := true }
def OctetLinearUptoSaid : Prop := octetLinearUptoRow.holds Try.pinned (OpenSpec.upto octetLinearSpec)

/-- 'gouachelaw01.OctetTruncated', WHERE WHAT IT READS IS OF BULK AT MOST 1048576: true; the input reads as it did. -/
def octetTruncatedUptoRow : OpenClaim := { program := "ytcanmfkocbnbfaa", sum := "ecb73ddf9091b3a039bdcb49bdfd5ec95abad528f11191c6c9d4871f6e580a06", func := "gouache/gouachelaw01.OctetTruncated", spec := "octetTruncated", unfollowed := true, recurses := true, apart := false, narrowed := true }
def OctetTruncatedUptoSaid : Prop := octetTruncatedUptoRow.holds Try.pinned (OpenSpec.upto octetTruncatedSpec)

/-- 'gouachelaw01.OctetDecodes', WHERE WHAT IT READS IS OF BULK AT MOST 1048576: true; the input reads as it did. -/
def octetDecodesUptoRow : OpenClaim := { program := "ytcanmfkocbnbfaa", sum := "ecb73ddf9091b3a039bdcb49bdfd5ec95abad528f11191c6c9d4871f6e580a06", func := "gouache/gouachelaw01.OctetDecodes", spec := "octetDecodes", unfollowed := true, recurses := true, apart := false, narrowed := true }
def OctetDecodesUptoSaid : Prop := octetDecodesUptoRow.holds Try.pinned (OpenSpec.upto octetDecodesSpec)

/-- 'gouachelaw01.OctetRoundTrip', WHERE WHAT IT READS IS OF BULK AT MOST 1048576: true; the input reads as it did. -/
def octetRoundTripUptoRow : OpenClaim := { program := "ytcanmfkocbnbfaa", sum := "ecb73ddf9091b3a039bdcb49bdfd5ec95abad528f11191c6c9d4871f6e580a06", func := "gouache/gouachelaw01.OctetRoundTrip", spec := "octetRoundTrip", unfollowed := true, recurses := true, apart := false, narrowed := true }
def OctetRoundTripUptoSaid : Prop := octetRoundTripUptoRow.holds Try.pinned (OpenSpec.upto octetRoundTripSpec)

/-- 'gouachelaw01.OctetFails', WHERE WHAT IT READS IS OF BULK AT MOST 1048576: true; the input reads as it did. -/
def octetFailsUptoRow : OpenClaim := { program := "ytcanmfkocbnbfaa", sum := "ecb73ddf9091b3a039bdcb49bdfd5ec95abad528f11191c6c9d4871f6e580a06", func := "gouache/gouachelaw01.OctetFails", spec := "octetFails", unfollowed := true, recurses := true, apart := false, narrowed := true }
def OctetFailsUptoSaid : Prop := octetFailsUptoRow.holds Try.pinned (OpenSpec.upto octetFailsSpec)

end Rows
end Go.Proofs.Ytcanmfkocbnbfaa
