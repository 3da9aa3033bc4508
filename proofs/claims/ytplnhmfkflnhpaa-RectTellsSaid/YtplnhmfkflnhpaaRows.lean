/-
  No cell of these rows narrows 'for every input' (looked for: loops, veiled, ifaces, maps, wideKeys, modest, calm, conditions, laid).
  DERIVED. THE GIVEN ROWS OF THIS SEAT. 10 by the template 'for every input the law returns true; each argument reads behind the call as it read before'; 0 by the template 'total and deterministic' (their statements: YtplnhmfkflnhpaaTotals.lean).
  GIVEN WITH THE SEED: the statements are not yours to turn. If you find one false, say at which input.
  Laid BY PROGRAM, IN A SANDBOX (cutbox-rows.mjs): the forced cells as the released guide's own fill.sh prints them over the translation 5b5a5303f1945665… (all of the seat's roots in one cut). By AI agents, Wed Nov 11 2026. No macro, syntax, notation, axiom, sorry.
-/
import Derived.Test.YtplnhmfkflnhpaaChecked
import GoSem.Claim
import GoSem.ClaimJoined
import GoSem.ClaimMapViews
import Derived.JoinedTies
import Derived.KernelRfl
namespace Go.Proofs.Ytplnhmfkflnhpaa
/- THE CELL 'sum', in the pinned program and in every row, IS THE sha256 OF THE DUMP (.gsa) THAT YtplnhmfkflnhpaaProg.lean LOADS. Nothing in Lean hashes anything: it is a label: what it is worth is what the hold of that sum in a sandbox is worth. -/
noncomputable def Try.pinned : Pinned := { name := "ytplnhmfkflnhpaa", sum := "5b5a5303f1945665f0ece1e8f73f917173f80962c15d715789258b1fb3435a62", checked := Try.checked }
namespace Rows
def none {H : Type} : Left H := { results := [], args := [] }

/-- 'gouachelaw03.RectDivides': WHATEVER THE INPUT: true; the input reads as it did. -/
def rectDividesSpec : ChangeSpec := { name := "rectDivides", fn := fun _ => fun
  | [d1, d2] => { results := [.lit (.bool true)], args := [d1, d2] }
  | _ => none }
def rectDividesRow : OpenClaim := { program := "ytplnhmfkflnhpaa", sum := "5b5a5303f1945665f0ece1e8f73f917173f80962c15d715789258b1fb3435a62", func := "gouache/gouachelaw03.RectDivides", spec := "rectDivides", unfollowed := true, recurses := true, apart := false }
def RectDividesSaid : Prop := rectDividesRow.holds Try.pinned (OpenSpec.ofChange rectDividesSpec)

/-- ITS FALSE NEIGHBOUR: 'it returns false'. Refute it at one input. -/
def rectDividesWrong : ChangeSpec := { name := "rectDivides", fn := fun _ => fun
  | [d1, d2] => { results := [.lit (.bool false)], args := [d1, d2] }
  | _ => none }
def RectDividesWrongFalsely : Prop := rectDividesRow.holds Try.pinned (OpenSpec.ofChange rectDividesWrong)

/-- 'gouachelaw03.RectStops': WHATEVER THE INPUT: true; the input reads as it did. -/
def rectStopsSpec : ChangeSpec := { name := "rectStops", fn := fun _ => fun
  | [d1, d2] => { results := [.lit (.bool true)], args := [d1, d2] }
  | _ => none }
def rectStopsRow : OpenClaim := { program := "ytplnhmfkflnhpaa", sum := "5b5a5303f1945665f0ece1e8f73f917173f80962c15d715789258b1fb3435a62", func := "gouache/gouachelaw03.RectStops", spec := "rectStops", unfollowed := true, recurses := true, apart := false }
def RectStopsSaid : Prop := rectStopsRow.holds Try.pinned (OpenSpec.ofChange rectStopsSpec)

/-- ITS FALSE NEIGHBOUR: 'it returns false'. Refute it at one input. -/
def rectStopsWrong : ChangeSpec := { name := "rectStops", fn := fun _ => fun
  | [d1, d2] => { results := [.lit (.bool false)], args := [d1, d2] }
  | _ => none }
def RectStopsWrongFalsely : Prop := rectStopsRow.holds Try.pinned (OpenSpec.ofChange rectStopsWrong)

/-- 'gouachelaw03.RectZooms': WHATEVER THE INPUT: true; the input reads as it did. -/
def rectZoomsSpec : ChangeSpec := { name := "rectZooms", fn := fun _ => fun
  | [d1, d2] => { results := [.lit (.bool true)], args := [d1, d2] }
  | _ => none }
def rectZoomsRow : OpenClaim := { program := "ytplnhmfkflnhpaa", sum := "5b5a5303f1945665f0ece1e8f73f917173f80962c15d715789258b1fb3435a62", func := "gouache/gouachelaw03.RectZooms", spec := "rectZooms", unfollowed := true, recurses := true, apart := false }
def RectZoomsSaid : Prop := rectZoomsRow.holds Try.pinned (OpenSpec.ofChange rectZoomsSpec)

/-- ITS FALSE NEIGHBOUR: 'it returns false'. Refute it at one input. -/
def rectZoomsWrong : ChangeSpec := { name := "rectZooms", fn := fun _ => fun
  | [d1, d2] => { results := [.lit (.bool false)], args := [d1, d2] }
  | _ => none }
def RectZoomsWrongFalsely : Prop := rectZoomsRow.holds Try.pinned (OpenSpec.ofChange rectZoomsWrong)

/-- 'gouachelaw03.RectTiles': WHATEVER THE INPUT: true; the input reads as it did. -/
def rectTilesSpec : ChangeSpec := { name := "rectTiles", fn := fun _ => fun
  | [d1, d2] => { results := [.lit (.bool true)], args := [d1, d2] }
  | _ => none }
def rectTilesRow : OpenClaim := { program := "ytplnhmfkflnhpaa", sum := "5b5a5303f1945665f0ece1e8f73f917173f80962c15d715789258b1fb3435a62", func := "gouache/gouachelaw03.RectTiles", spec := "rectTiles", unfollowed := true, recurses := true, apart := false }
def RectTilesSaid : Prop := rectTilesRow.holds Try.pinned (OpenSpec.ofChange rectTilesSpec)

/-- ITS FALSE NEIGHBOUR: 'it returns false'. Refute it at one input. -/
def rectTilesWrong : ChangeSpec := { name := "rectTiles", fn := fun _ => fun
  | [d1, d2] => { results := [.lit (.bool false)], args := [d1, d2] }
  | _ => none }
def RectTilesWrongFalsely : Prop := rectTilesRow.holds Try.pinned (OpenSpec.ofChange rectTilesWrong)

/-- 'gouachelaw03.RectShrinks': WHATEVER THE INPUT: true; the input reads as it did. -/
def rectShrinksSpec : ChangeSpec := { name := "rectShrinks", fn := fun _ => fun
  | [d1, d2] => { results := [.lit (.bool true)], args := [d1, d2] }
  | _ => none }
def rectShrinksRow : OpenClaim := { program := "ytplnhmfkflnhpaa", sum := "5b5a5303f1945665f0ece1e8f73f917173f80962c15d715789258b1fb3435a62", func := "gouache/gouachelaw03.RectShrinks", spec := "rectShrinks", unfollowed := true, recurses := true, apart := false }
def RectShrinksSaid : Prop := rectShrinksRow.holds Try.pinned (OpenSpec.ofChange rectShrinksSpec)

/-- ITS FALSE NEIGHBOUR: 'it returns false'. Refute it at one input. -/
def rectShrinksWrong : ChangeSpec := { name := "rectShrinks", fn := fun _ => fun
  | [d1, d2] => { results := [.lit (.bool false)], args := [d1, d2] }
  | _ => none }
def RectShrinksWrongFalsely : Prop := rectShrinksRow.holds Try.pinned (OpenSpec.ofChange rectShrinksWrong)

/-- 'gouachelaw03.RectAreas': WHATEVER THE INPUT: true; the input reads as it did. -/
def rectAreasSpec : ChangeSpec := { name := "rectAreas", fn := fun _ => fun
  | [d] => { results := [.lit (.bool true)], args := [d] }
  | _ => none }
def rectAreasRow : OpenClaim := { program := "ytplnhmfkflnhpaa", sum := "5b5a5303f1945665f0ece1e8f73f917173f80962c15d715789258b1fb3435a62", func := "gouache/gouachelaw03.RectAreas", spec := "rectAreas", unfollowed := true, recurses := true, apart := false }
def RectAreasSaid : Prop := rectAreasRow.holds Try.pinned (OpenSpec.ofChange rectAreasSpec)

/-- ITS FALSE NEIGHBOUR: 'it returns false'. Refute it at one input. -/
def rectAreasWrong : ChangeSpec := { name := "rectAreas", fn := fun _ => fun
  | [d] => { results := [.lit (.bool false)], args := [d] }
  | _ => none }
def RectAreasWrongFalsely : Prop := rectAreasRow.holds Try.pinned (OpenSpec.ofChange rectAreasWrong)

/-- 'gouachelaw03.RectLattice': WHATEVER THE INPUT: true; the input reads as it did. -/
def rectLatticeSpec : ChangeSpec := { name := "rectLattice", fn := fun _ => fun
  | [d] => { results := [.lit (.bool true)], args := [d] }
  | _ => none }
def rectLatticeRow : OpenClaim := { program := "ytplnhmfkflnhpaa", sum := "5b5a5303f1945665f0ece1e8f73f917173f80962c15d715789258b1fb3435a62", func := "gouache/gouachelaw03.RectLattice", spec := "rectLattice", unfollowed := true, recurses := true, apart := false }
def RectLatticeSaid : Prop := rectLatticeRow.holds Try.pinned (OpenSpec.ofChange rectLatticeSpec)

/-- ITS FALSE NEIGHBOUR: 'it returns false'. Refute it at one input. -/
def rectLatticeWrong : ChangeSpec := { name := "rectLattice", fn := fun _ => fun
  | [d] => { results := [.lit (.bool false)], args := [d] }
  | _ => none }
def RectLatticeWrongFalsely : Prop := rectLatticeRow.holds Try.pinned (OpenSpec.ofChange rectLatticeWrong)

/-- 'gouachelaw03.RectSets': WHATEVER THE INPUT: true; the input reads as it did. -/
def rectSetsSpec : ChangeSpec := { name := "rectSets", fn := fun _ => fun
  | [d1, d2] => { results := [.lit (.bool true)], args := [d1, d2] }
  | _ => none }
def rectSetsRow : OpenClaim := { program := "ytplnhmfkflnhpaa", sum := "5b5a5303f1945665f0ece1e8f73f917173f80962c15d715789258b1fb3435a62", func := "gouache/gouachelaw03.RectSets", spec := "rectSets", unfollowed := true, recurses := true, apart := false }
def RectSetsSaid : Prop := rectSetsRow.holds Try.pinned (OpenSpec.ofChange rectSetsSpec)

/-- ITS FALSE NEIGHBOUR: 'it returns false'. Refute it at one input. -/
def rectSetsWrong : ChangeSpec := { name := "rectSets", fn := fun _ => fun
  | [d1, d2] => { results := [.lit (.bool false)], args := [d1, d2] }
  | _ => none }
def RectSetsWrongFalsely : Prop := rectSetsRow.holds Try.pinned (OpenSpec.ofChange rectSetsWrong)

/-- 'gouachelaw03.RectGrows': WHATEVER THE INPUT: true; the input reads as it did. -/
def rectGrowsSpec : ChangeSpec := { name := "rectGrows", fn := fun _ => fun
  | [d1, d2] => { results := [.lit (.bool true)], args := [d1, d2] }
  | _ => none }
def rectGrowsRow : OpenClaim := { program := "ytplnhmfkflnhpaa", sum := "5b5a5303f1945665f0ece1e8f73f917173f80962c15d715789258b1fb3435a62", func := "gouache/gouachelaw03.RectGrows", spec := "rectGrows", unfollowed := true, recurses := true, apart := false }
def RectGrowsSaid : Prop := rectGrowsRow.holds Try.pinned (OpenSpec.ofChange rectGrowsSpec)

/-- ITS FALSE NEIGHBOUR: 'it returns false'. Refute it at one input. -/
def rectGrowsWrong : ChangeSpec := { name := "rectGrows", fn := fun _ => fun
  | [d1, d2] => { results := [.lit (.bool false)], args := [d1, d2] }
  | _ => none }
def RectGrowsWrongFalsely : Prop := rectGrowsRow.holds Try.pinned (OpenSpec.ofChange rectGrowsWrong)

/-- 'gouachelaw03.RectTells': WHATEVER THE INPUT: true; the input reads as it did. -/
def rectTellsSpec : ChangeSpec := { name := "rectTells", fn := fun _ => fun
  | [d1, d2, d3] => { results := [.lit (.bool true)], args := [d1, d2, d3] }
  | _ => none }
def rectTellsRow : OpenClaim := { program := "ytplnhmfkflnhpaa", sum := "5b5a5303f1945665f0ece1e8f73f917173f80962c15d715789258b1fb3435a62", func := "gouache/gouachelaw03.RectTells", spec := "rectTells", unfollowed := true, recurses := true, apart := false }
def RectTellsSaid : Prop := rectTellsRow.holds Try.pinned (OpenSpec.ofChange rectTellsSpec)

/-- ITS FALSE NEIGHBOUR: 'it returns false'. Refute it at one input. -/
def rectTellsWrong : ChangeSpec := { name := "rectTells", fn := fun _ => fun
  | [d1, d2, d3] => { results := [.lit (.bool false)], args := [d1, d2, d3] }
  | _ => none }
def RectTellsWrongFalsely : Prop := rectTellsRow.holds Try.pinned (OpenSpec.ofChange rectTellsWrong)

/- THE SECOND FORM. 'bulk': how many values and letters a reading holds, each counted each time it is reached (what is shared counts as often as it is met; a slice's spare places count too). A statement '..UptoSaid' is the law's where the arguments, and the package variables that the reading takes, are together of bulk at most 1048576: NARROWER than '..Said'. Prove '..Said' where nothing that the law and all that it calls make is longer than what came in: it says more and counts as full. Else prove '..UptoSaid'. A law counts once. -/
mutual
def uptoBulk {H : Type} : DataW H → Nat
  | .lit (.string bytes) => bytes.length + 1
  | .lit _ => 1
  | .nil => 1
  | .ptr d => uptoBulk d + 1
  | .slice elems spare => uptoBulkAll elems + uptoBulkAll spare + 1
  | .agg parts => uptoBulkAll parts + 1
  | .iface _ d => uptoBulk d + 1
  | .map entries => uptoBulkEntries entries + 1
  | .held _ => 1
def uptoBulkAll {H : Type} : List (DataW H) → Nat
  | [] => 0
  | d :: r => uptoBulk d + uptoBulkAll r
def uptoBulkEntries {H : Type} : List (Lit × DataW H) → Nat
  | [] => 0
  | x :: r => uptoBulkEntry x + uptoBulkEntries r
def uptoBulkEntry {H : Type} : Lit × DataW H → Nat
  | (.string bytes, d) => bytes.length + uptoBulk d + 1
  | (_, d) => uptoBulk d + 1
 end
def uptoSmall : (H : Type) → List (DataW H) → Bool := fun _ ds => decide (uptoBulkAll ds ≤ 1048576)
def OpenSpec.upto (s : _root_.Go.ChangeSpec) : _root_.Go.OpenSpec := { _root_.Go.OpenSpec.ofChange s with cond := some uptoSmall }

/-- 'gouachelaw03.RectDivides', WHERE WHAT IT READS IS OF BULK AT MOST 1048576: true; the input reads as it did. -/
def rectDividesUptoRow : OpenClaim := { program := "ytplnhmfkflnhpaa", sum := "5b5a5303f1945665f0ece1e8f73f917173f80962c15d715789258b1fb3435a62", func := "gouache/gouachelaw03.RectDivides", spec := "rectDivides", unfollowed := true, recurses := true, apart := false, narrowed := true }
def RectDividesUptoSaid : Prop := rectDividesUptoRow.holds Try.pinned (OpenSpec.upto rectDividesSpec)

/-- 'gouachelaw03.RectStops', WHERE WHAT IT READS IS OF BULK AT MOST 1048576: true; the input reads as it did. -/
def rectStopsUptoRow : OpenClaim := { program := "ytplnhmfkflnhpaa", sum := "5b5a5303f1945665f0ece1e8f73f917173f80962c15d715789258b1fb3435a62", func := "gouache/gouachelaw03.RectStops", spec := "rectStops", unfollowed := true, recurses := true, apart := false, narrowed := true }
def RectStopsUptoSaid : Prop := rectStopsUptoRow.holds Try.pinned (OpenSpec.upto rectStopsSpec)

/-- 'gouachelaw03.RectZooms', WHERE WHAT IT READS IS OF BULK AT MOST 1048576: true; the input reads as it did. -/
def rectZoomsUptoRow : OpenClaim := { program := "ytplnhmfkflnhpaa", sum := "5b5a5303f1945665f0ece1e8f73f917173f80962c15d715789258b1fb3435a62", func := "gouache/gouachelaw03.RectZooms", spec := "rectZooms", unfollowed := true, recurses := true, apart := false, narrowed := true }
def RectZoomsUptoSaid : Prop := rectZoomsUptoRow.holds Try.pinned (OpenSpec.upto rectZoomsSpec)

/-- 'gouachelaw03.RectTiles', WHERE WHAT IT READS IS OF BULK AT MOST 1048576: true; the input reads as it did. -/
def rectTilesUptoRow : OpenClaim := { program := "ytplnhmfkflnhpaa", sum := "5b5a5303f1945665f0ece1e8f73f917173f80962c15d715789258b1fb3435a62", func := "gouache/gouachelaw03.RectTiles", spec := "rectTiles", unfollowed := true, recurses := true, apart := false, narrowed := true }
def RectTilesUptoSaid : Prop := rectTilesUptoRow.holds Try.pinned (OpenSpec.upto rectTilesSpec)

/-- 'gouachelaw03.RectShrinks', WHERE WHAT IT READS IS OF BULK AT MOST 1048576: true; the input reads as it did. -/
def rectShrinksUptoRow : OpenClaim := { program := "ytplnhmfkflnhpaa", sum := "5b5a5303f1945665f0ece1e8f73f917173f80962c15d715789258b1fb3435a62", func := "gouache/gouachelaw03.RectShrinks", spec := "rectShrinks", unfollowed := true, recurses := true, apart := false, narrowed := true }
def RectShrinksUptoSaid : Prop := rectShrinksUptoRow.holds Try.pinned (OpenSpec.upto rectShrinksSpec)

/-- 'gouachelaw03.RectAreas', WHERE WHAT IT READS IS OF BULK AT MOST 1048576: true; the input reads as it did. -/
def rectAreasUptoRow : OpenClaim := { program := "ytplnhmfkflnhpaa", sum := "5b5a5303f1945665f0ece1e8f73f917173f80962c15d715789258b1fb3435a62", func := "gouache/gouachelaw03.RectAreas", spec := "rectAreas", unfollowed := true, recurses := true, apart := false, narrowed := true }
def RectAreasUptoSaid : Prop := rectAreasUptoRow.holds Try.pinned (OpenSpec.upto rectAreasSpec)

/-- 'gouachelaw03.RectLattice', WHERE WHAT IT READS IS OF BULK AT MOST 1048576: true; the input reads as it did. -/
def rectLatticeUptoRow : OpenClaim := { program := "ytplnhmfkflnhpaa", sum := "5b5a5303f1945665f0ece1e8f73f917173f80962c15d715789258b1fb3435a62", func := "gouache/gouachelaw03.RectLattice", spec := "rectLattice", unfollowed := true, recurses := true, apart := false, narrowed := true }
def RectLatticeUptoSaid : Prop := rectLatticeUptoRow.holds Try.pinned (OpenSpec.upto rectLatticeSpec)

/-- 'gouachelaw03.RectSets', WHERE WHAT IT READS IS OF BULK AT MOST 1048576: true; the input reads as it did. -/
def rectSetsUptoRow : OpenClaim := { program := "ytplnhmfkflnhpaa", sum := "5b5a5303f1945665f0ece1e8f73f917173f80962c15d715789258b1fb3435a62", func := "gouache/gouachelaw03.RectSets", spec := "rectSets", unfollowed := true, recurses := true, apart := false, narrowed := true }
def RectSetsUptoSaid : Prop := rectSetsUptoRow.holds Try.pinned (OpenSpec.upto rectSetsSpec)

/-- 'gouachelaw03.RectGrows', WHERE WHAT IT READS IS OF BULK AT MOST 1048576: true; the input reads as it did. -/
def rectGrowsUptoRow : OpenClaim := { program := "ytplnhmfkflnhpaa", sum := "5b5a5303f1945665f0ece1e8f73f917173f80962c15d715789258b1fb3435a62", func := "gouache/gouachelaw03.RectGrows", spec := "rectGrows", unfollowed := true, recurses := true, apart := false, narrowed := true }
def RectGrowsUptoSaid : Prop := rectGrowsUptoRow.holds Try.pinned (OpenSpec.upto rectGrowsSpec)

/-- 'gouachelaw03.RectTells', WHERE WHAT IT READS IS OF BULK AT MOST 1048576: true; the input reads as it did. -/
def rectTellsUptoRow : OpenClaim := { program := "ytplnhmfkflnhpaa", sum := "5b5a5303f1945665f0ece1e8f73f917173f80962c15d715789258b1fb3435a62", func := "gouache/gouachelaw03.RectTells", spec := "rectTells", unfollowed := true, recurses := true, apart := false, narrowed := true }
def RectTellsUptoSaid : Prop := rectTellsUptoRow.holds Try.pinned (OpenSpec.upto rectTellsSpec)

end Rows
end Go.Proofs.Ytplnhmfkflnhpaa
