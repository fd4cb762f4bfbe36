/-
  No cell of these rows narrows 'for every input' (looked for: loops, veiled, ifaces, maps, wideKeys, modest, calm, conditions, laid).
  DERIVED. THE GIVEN ROWS OF THIS SEAT. 12 by the template 'for every input the law returns true; each argument reads behind the call as it read before'; 0 by the template 'total and deterministic' (their statements: YtgppfpfdoooijaaTotals.lean).
  GIVEN WITH THE SEED: the statements are not yours to turn. If you find one false, say at which input.
  Laid BY PROGRAM, IN A SANDBOX (cutbox-rows.mjs): the forced cells as the released guide's own fill.sh prints them over the translation 20196b49e67d557e… (all of the seat's roots in one cut). By AI agents, Wed Nov 11 2026. No macro, syntax, notation, axiom, sorry.
-/
import Derived.Test.YtgppfpfdoooijaaChecked
import GoSem.Claim
import GoSem.ClaimJoined
import GoSem.ClaimMapViews
import Derived.JoinedTies
import Derived.KernelRfl
namespace Go.Proofs.Ytgppfpfdoooijaa
/- THE CELL 'sum', in the pinned program and in every row, IS THE sha256 OF THE DUMP (.gsa) THAT YtgppfpfdoooijaaProg.lean LOADS. Nothing in Lean hashes anything: it is a label: what it is worth is what the hold of that sum in a sandbox is worth. -/
noncomputable def Try.pinned : Pinned := { name := "ytgppfpfdoooijaa", sum := "20196b49e67d557e5cb3b90ee645b096251307ec7bc9e49331b3a1a21d1ecd69", checked := Try.checked }
namespace Rows
def none {H : Type} : Left H := { results := [], args := [] }

/-- 'sallyportlaw16.NatPorts': WHATEVER THE INPUT: true; the input reads as it did. -/
def natPortsSpec : ChangeSpec := { name := "natPorts", fn := fun _ => fun
  | [d1, d2, d3, d4] => { results := [.lit (.bool true)], args := [d1, d2, d3, d4] }
  | _ => none }
def natPortsRow : OpenClaim := { program := "ytgppfpfdoooijaa", sum := "20196b49e67d557e5cb3b90ee645b096251307ec7bc9e49331b3a1a21d1ecd69", func := "sallyport/sallyportlaw16.NatPorts", spec := "natPorts", apart := false }
def NatPortsSaid : Prop := natPortsRow.holds Try.pinned (OpenSpec.ofChange natPortsSpec)

/-- ITS FALSE NEIGHBOUR: 'it returns false'. Refute it at one input. -/
def natPortsWrong : ChangeSpec := { name := "natPorts", fn := fun _ => fun
  | [d1, d2, d3, d4] => { results := [.lit (.bool false)], args := [d1, d2, d3, d4] }
  | _ => none }
def NatPortsWrongFalsely : Prop := natPortsRow.holds Try.pinned (OpenSpec.ofChange natPortsWrong)

/-- 'sallyportlaw16.NatAll': WHATEVER THE INPUT: true; the input reads as it did. -/
def natAllSpec : ChangeSpec := { name := "natAll", fn := fun _ => fun
  | [d1, d2, d3] => { results := [.lit (.bool true)], args := [d1, d2, d3] }
  | _ => none }
def natAllRow : OpenClaim := { program := "ytgppfpfdoooijaa", sum := "20196b49e67d557e5cb3b90ee645b096251307ec7bc9e49331b3a1a21d1ecd69", func := "sallyport/sallyportlaw16.NatAll", spec := "natAll", apart := false }
def NatAllSaid : Prop := natAllRow.holds Try.pinned (OpenSpec.ofChange natAllSpec)

/-- ITS FALSE NEIGHBOUR: 'it returns false'. Refute it at one input. -/
def natAllWrong : ChangeSpec := { name := "natAll", fn := fun _ => fun
  | [d1, d2, d3] => { results := [.lit (.bool false)], args := [d1, d2, d3] }
  | _ => none }
def NatAllWrongFalsely : Prop := natAllRow.holds Try.pinned (OpenSpec.ofChange natAllWrong)

/-- 'sallyportlaw07.RulesRoutes': WHATEVER THE INPUT: true; the input reads as it did. -/
def rulesRoutesSpec : ChangeSpec := { name := "rulesRoutes", fn := fun _ => fun
  | [d1, d2] => { results := [.lit (.bool true)], args := [d1, d2] }
  | _ => none }
def rulesRoutesRow : OpenClaim := { program := "ytgppfpfdoooijaa", sum := "20196b49e67d557e5cb3b90ee645b096251307ec7bc9e49331b3a1a21d1ecd69", func := "sallyport/sallyportlaw07.RulesRoutes", spec := "rulesRoutes", unfollowed := true, recurses := true, apart := false }
def RulesRoutesSaid : Prop := rulesRoutesRow.holds Try.pinned (OpenSpec.ofChange rulesRoutesSpec)

/-- ITS FALSE NEIGHBOUR: 'it returns false'. Refute it at one input. -/
def rulesRoutesWrong : ChangeSpec := { name := "rulesRoutes", fn := fun _ => fun
  | [d1, d2] => { results := [.lit (.bool false)], args := [d1, d2] }
  | _ => none }
def RulesRoutesWrongFalsely : Prop := rulesRoutesRow.holds Try.pinned (OpenSpec.ofChange rulesRoutesWrong)

/-- 'sallyportlaw07.RulesPlaces': WHATEVER THE INPUT: true; the input reads as it did. -/
def rulesPlacesSpec : ChangeSpec := { name := "rulesPlaces", fn := fun _ => fun
  | [d1, d2, d3] => { results := [.lit (.bool true)], args := [d1, d2, d3] }
  | _ => none }
def rulesPlacesRow : OpenClaim := { program := "ytgppfpfdoooijaa", sum := "20196b49e67d557e5cb3b90ee645b096251307ec7bc9e49331b3a1a21d1ecd69", func := "sallyport/sallyportlaw07.RulesPlaces", spec := "rulesPlaces", unfollowed := true, recurses := true, apart := false }
def RulesPlacesSaid : Prop := rulesPlacesRow.holds Try.pinned (OpenSpec.ofChange rulesPlacesSpec)

/-- ITS FALSE NEIGHBOUR: 'it returns false'. Refute it at one input. -/
def rulesPlacesWrong : ChangeSpec := { name := "rulesPlaces", fn := fun _ => fun
  | [d1, d2, d3] => { results := [.lit (.bool false)], args := [d1, d2, d3] }
  | _ => none }
def RulesPlacesWrongFalsely : Prop := rulesPlacesRow.holds Try.pinned (OpenSpec.ofChange rulesPlacesWrong)

/-- 'sallyportlaw07.RulesStatic': WHATEVER THE INPUT: true; the input reads as it did. -/
def rulesStaticSpec : ChangeSpec := { name := "rulesStatic", fn := fun _ => fun
  | [d1, d2, d3] => { results := [.lit (.bool true)], args := [d1, d2, d3] }
  | _ => none }
def rulesStaticRow : OpenClaim := { program := "ytgppfpfdoooijaa", sum := "20196b49e67d557e5cb3b90ee645b096251307ec7bc9e49331b3a1a21d1ecd69", func := "sallyport/sallyportlaw07.RulesStatic", spec := "rulesStatic", unfollowed := true, recurses := true, apart := false }
def RulesStaticSaid : Prop := rulesStaticRow.holds Try.pinned (OpenSpec.ofChange rulesStaticSpec)

/-- ITS FALSE NEIGHBOUR: 'it returns false'. Refute it at one input. -/
def rulesStaticWrong : ChangeSpec := { name := "rulesStatic", fn := fun _ => fun
  | [d1, d2, d3] => { results := [.lit (.bool false)], args := [d1, d2, d3] }
  | _ => none }
def RulesStaticWrongFalsely : Prop := rulesStaticRow.holds Try.pinned (OpenSpec.ofChange rulesStaticWrong)

/-- 'sallyportlaw07.RulesFirst': WHATEVER THE INPUT: true; the input reads as it did. -/
def rulesFirstSpec : ChangeSpec := { name := "rulesFirst", fn := fun _ => fun
  | [d1, d2, d3] => { results := [.lit (.bool true)], args := [d1, d2, d3] }
  | _ => none }
def rulesFirstRow : OpenClaim := { program := "ytgppfpfdoooijaa", sum := "20196b49e67d557e5cb3b90ee645b096251307ec7bc9e49331b3a1a21d1ecd69", func := "sallyport/sallyportlaw07.RulesFirst", spec := "rulesFirst", unfollowed := true, recurses := true, apart := false }
def RulesFirstSaid : Prop := rulesFirstRow.holds Try.pinned (OpenSpec.ofChange rulesFirstSpec)

/-- ITS FALSE NEIGHBOUR: 'it returns false'. Refute it at one input. -/
def rulesFirstWrong : ChangeSpec := { name := "rulesFirst", fn := fun _ => fun
  | [d1, d2, d3] => { results := [.lit (.bool false)], args := [d1, d2, d3] }
  | _ => none }
def RulesFirstWrongFalsely : Prop := rulesFirstRow.holds Try.pinned (OpenSpec.ofChange rulesFirstWrong)

/-- 'sallyportlaw07.RulesAny': WHATEVER THE INPUT: true; the input reads as it did. -/
def rulesAnySpec : ChangeSpec := { name := "rulesAny", fn := fun _ => fun
  | [d1, d2, d3] => { results := [.lit (.bool true)], args := [d1, d2, d3] }
  | _ => none }
def rulesAnyRow : OpenClaim := { program := "ytgppfpfdoooijaa", sum := "20196b49e67d557e5cb3b90ee645b096251307ec7bc9e49331b3a1a21d1ecd69", func := "sallyport/sallyportlaw07.RulesAny", spec := "rulesAny", unfollowed := true, recurses := true, apart := false }
def RulesAnySaid : Prop := rulesAnyRow.holds Try.pinned (OpenSpec.ofChange rulesAnySpec)

/-- ITS FALSE NEIGHBOUR: 'it returns false'. Refute it at one input. -/
def rulesAnyWrong : ChangeSpec := { name := "rulesAny", fn := fun _ => fun
  | [d1, d2, d3] => { results := [.lit (.bool false)], args := [d1, d2, d3] }
  | _ => none }
def RulesAnyWrongFalsely : Prop := rulesAnyRow.holds Try.pinned (OpenSpec.ofChange rulesAnyWrong)

/-- 'sallyportlaw16.NatPlain': WHATEVER THE INPUT: true; the input reads as it did. -/
def natPlainSpec : ChangeSpec := { name := "natPlain", fn := fun _ => fun
  | [d1, d2, d3] => { results := [.lit (.bool true)], args := [d1, d2, d3] }
  | _ => none }
def natPlainRow : OpenClaim := { program := "ytgppfpfdoooijaa", sum := "20196b49e67d557e5cb3b90ee645b096251307ec7bc9e49331b3a1a21d1ecd69", func := "sallyport/sallyportlaw16.NatPlain", spec := "natPlain", unfollowed := true, recurses := true, apart := false }
def NatPlainSaid : Prop := natPlainRow.holds Try.pinned (OpenSpec.ofChange natPlainSpec)

/-- ITS FALSE NEIGHBOUR: 'it returns false'. Refute it at one input. -/
def natPlainWrong : ChangeSpec := { name := "natPlain", fn := fun _ => fun
  | [d1, d2, d3] => { results := [.lit (.bool false)], args := [d1, d2, d3] }
  | _ => none }
def NatPlainWrongFalsely : Prop := natPlainRow.holds Try.pinned (OpenSpec.ofChange natPlainWrong)

/-- 'sallyportlaw16.NatStatic': WHATEVER THE INPUT: true; the input reads as it did. -/
def natStaticSpec : ChangeSpec := { name := "natStatic", fn := fun _ => fun
  | [d1, d2, d3, d4] => { results := [.lit (.bool true)], args := [d1, d2, d3, d4] }
  | _ => none }
def natStaticRow : OpenClaim := { program := "ytgppfpfdoooijaa", sum := "20196b49e67d557e5cb3b90ee645b096251307ec7bc9e49331b3a1a21d1ecd69", func := "sallyport/sallyportlaw16.NatStatic", spec := "natStatic", unfollowed := true, recurses := true, apart := false }
def NatStaticSaid : Prop := natStaticRow.holds Try.pinned (OpenSpec.ofChange natStaticSpec)

/-- ITS FALSE NEIGHBOUR: 'it returns false'. Refute it at one input. -/
def natStaticWrong : ChangeSpec := { name := "natStatic", fn := fun _ => fun
  | [d1, d2, d3, d4] => { results := [.lit (.bool false)], args := [d1, d2, d3, d4] }
  | _ => none }
def NatStaticWrongFalsely : Prop := natStaticRow.holds Try.pinned (OpenSpec.ofChange natStaticWrong)

/-- 'sallyportlaw16.NatMakes': WHATEVER THE INPUT: true; the input reads as it did. -/
def natMakesSpec : ChangeSpec := { name := "natMakes", fn := fun _ => fun
  | [d1, d2, d3, d4] => { results := [.lit (.bool true)], args := [d1, d2, d3, d4] }
  | _ => none }
def natMakesRow : OpenClaim := { program := "ytgppfpfdoooijaa", sum := "20196b49e67d557e5cb3b90ee645b096251307ec7bc9e49331b3a1a21d1ecd69", func := "sallyport/sallyportlaw16.NatMakes", spec := "natMakes", unfollowed := true, recurses := true, apart := false }
def NatMakesSaid : Prop := natMakesRow.holds Try.pinned (OpenSpec.ofChange natMakesSpec)

/-- ITS FALSE NEIGHBOUR: 'it returns false'. Refute it at one input. -/
def natMakesWrong : ChangeSpec := { name := "natMakes", fn := fun _ => fun
  | [d1, d2, d3, d4] => { results := [.lit (.bool false)], args := [d1, d2, d3, d4] }
  | _ => none }
def NatMakesWrongFalsely : Prop := natMakesRow.holds Try.pinned (OpenSpec.ofChange natMakesWrong)

/-- 'sallyportlaw16.NatFree': WHATEVER THE INPUT: true; the input reads as it did. -/
def natFreeSpec : ChangeSpec := { name := "natFree", fn := fun _ => fun
  | [d1, d2, d3, d4] => { results := [.lit (.bool true)], args := [d1, d2, d3, d4] }
  | _ => none }
def natFreeRow : OpenClaim := { program := "ytgppfpfdoooijaa", sum := "20196b49e67d557e5cb3b90ee645b096251307ec7bc9e49331b3a1a21d1ecd69", func := "sallyport/sallyportlaw16.NatFree", spec := "natFree", unfollowed := true, recurses := true, apart := false }
def NatFreeSaid : Prop := natFreeRow.holds Try.pinned (OpenSpec.ofChange natFreeSpec)

/-- ITS FALSE NEIGHBOUR: 'it returns false'. Refute it at one input. -/
def natFreeWrong : ChangeSpec := { name := "natFree", fn := fun _ => fun
  | [d1, d2, d3, d4] => { results := [.lit (.bool false)], args := [d1, d2, d3, d4] }
  | _ => none }
def NatFreeWrongFalsely : Prop := natFreeRow.holds Try.pinned (OpenSpec.ofChange natFreeWrong)

/-- 'sallyportlaw16.NatTwo': WHATEVER THE INPUT: true; the input reads as it did. -/
def natTwoSpec : ChangeSpec := { name := "natTwo", fn := fun _ => fun
  | [d1, d2, d3] => { results := [.lit (.bool true)], args := [d1, d2, d3] }
  | _ => none }
def natTwoRow : OpenClaim := { program := "ytgppfpfdoooijaa", sum := "20196b49e67d557e5cb3b90ee645b096251307ec7bc9e49331b3a1a21d1ecd69", func := "sallyport/sallyportlaw16.NatTwo", spec := "natTwo", unfollowed := true, recurses := true, apart := false }
def NatTwoSaid : Prop := natTwoRow.holds Try.pinned (OpenSpec.ofChange natTwoSpec)

/-- ITS FALSE NEIGHBOUR: 'it returns false'. Refute it at one input. -/
def natTwoWrong : ChangeSpec := { name := "natTwo", fn := fun _ => fun
  | [d1, d2, d3] => { results := [.lit (.bool false)], args := [d1, d2, d3] }
  | _ => none }
def NatTwoWrongFalsely : Prop := natTwoRow.holds Try.pinned (OpenSpec.ofChange natTwoWrong)

/- THE SECOND FORM. 'bulk': how many values and letters a reading holds, each counted each time it is reached (what is shared counts as often as it is met; a slice's spare places count too). A statement '..UptoSaid' is the law's where the arguments, and the package variables that the reading takes, are together of bulk at most 1048576: NARROWER than '..Said'. Prove '..Said' where nothing that the law and all that it calls make is longer than what came in: it says more and counts as full. Else prove '..UptoSaid'. A law counts once. -/
mutual
def uptoBulk {H : Type} : DataW H → Nat
  | .lit (.string bytes) => bytes.length + 1
  | .lit _ => 1
  | .nil => 1
  | .ptr d => uptoBulk d + 1
  | .slice elems spare => uptoBulkAll elems + uptoBulkAll spare + 1
  | .agg parts => uptoBulkAll parts + 1
  | .iface _ d => uptoBulk d + 1
  | .map entries => uptoBulkEntries entries + 1
  | .held _ => 1
def uptoBulkAll {H : Type} : List (DataW H) → Nat
  | [] => 0
  | d :: r => uptoBulk d + uptoBulkAll r
def uptoBulkEntries {H : Type} : List (Lit × DataW H) → Nat
  | [] => 0
  | x :: r => uptoBulkEntry x + uptoBulkEntries r
def uptoBulkEntry {H : Type} : Lit × DataW H → Nat
  | (.string bytes, d) => bytes.length + uptoBulk d + 1
  | (_, d) => uptoBulk d + 1
 end
def uptoSmall : (H : Type) → List (DataW H) → Bool := fun _ ds => decide (uptoBulkAll ds ≤ 1048576)
def OpenSpec.upto (s : _root_.Go.ChangeSpec) : _root_.Go.OpenSpec := { _root_.Go.OpenSpec.ofChange s with cond := some uptoSmall }

/-- 'sallyportlaw16.NatPorts', WHERE WHAT IT READS IS OF BULK AT MOST 1048576: true; the input reads as it did. -/
def natPortsUptoRow : OpenClaim := { program := "ytgppfpfdoooijaa", sum := "20196b49e67d557e5cb3b90ee645b096251307ec7bc9e49331b3a1a21d1ecd69", func := "sallyport/sallyportlaw16.NatPorts", spec := "natPorts", apart := false, narrowed := true }
def NatPortsUptoSaid : Prop := natPortsUptoRow.holds Try.pinned (OpenSpec.upto natPortsSpec)

/-- 'sallyportlaw16.NatAll', WHERE WHAT IT READS IS OF BULK AT MOST 1048576: true; the input reads as it did. -/
def natAllUptoRow : OpenClaim := { program := "ytgppfpfdoooijaa", sum := "20196b49e67d557e5cb3b90ee645b096251307ec7bc9e49331b3a1a21d1ecd69", func := "sallyport/sallyportlaw16.NatAll", spec := "natAll", apart := false, narrowed := true }
def NatAllUptoSaid : Prop := natAllUptoRow.holds Try.pinned (OpenSpec.upto natAllSpec)

/-- 'sallyportlaw07.RulesRoutes', WHERE WHAT IT READS IS OF BULK AT MOST 1048576: true; the input reads as it did. -/
def rulesRoutesUptoRow : OpenClaim := { program := "ytgppfpfdoooijaa", sum := "20196b49e67d557e5cb3b90ee645b096251307ec7bc9e49331b3a1a21d1ecd69", func := "sallyport/sallyportlaw07.RulesRoutes", spec := "rulesRoutes", unfollowed := true, recurses := true, apart := false, narrowed := true }
def RulesRoutesUptoSaid : Prop := rulesRoutesUptoRow.holds Try.pinned (OpenSpec.upto rulesRoutesSpec)

/-- 'sallyportlaw07.RulesPlaces', WHERE WHAT IT READS IS OF BULK AT MOST 1048576: true; the input reads as it did. -/
def rulesPlacesUptoRow : OpenClaim := { program := "ytgppfpfdoooijaa", sum := "20196b49e67d557e5cb3b90ee645b096251307ec7bc9e49331b3a1a21d1ecd69", func := "sallyport/sallyportlaw07.RulesPlaces", spec := "rulesPlaces", unfollowed := true, recurses := true, apart := false, narrowed := true }
def RulesPlacesUptoSaid : Prop := rulesPlacesUptoRow.holds Try.pinned (OpenSpec.upto rulesPlacesSpec)

/-- 'sallyportlaw07.RulesStatic', WHERE WHAT IT READS IS OF BULK AT MOST 1048576: true; the input reads as it did. -/
def rulesStaticUptoRow : OpenClaim := { program := "ytgppfpfdoooijaa", sum := "20196b49e67d557e5cb3b90ee645b096251307ec7bc9e49331b3a1a21d1ecd69", func := "sallyport/sallyportlaw07.RulesStatic", spec := "rulesStatic", unfollowed := true, recurses := true, apart := false, narrowed := true }
def RulesStaticUptoSaid : Prop := rulesStaticUptoRow.holds Try.pinned (OpenSpec.upto rulesStaticSpec)

/-- 'sallyportlaw07.RulesFirst', WHERE WHAT IT READS IS OF BULK AT MOST 1048576: true; the input reads as it did. -/
def rulesFirstUptoRow : OpenClaim := { program := "ytgppfpfdoooijaa", sum := "20196b49e67d557e5cb3b90ee645b096251307ec7bc9e49331b3a1a21d1ecd69", func := "sallyport/sallyportlaw07.RulesFirst", spec := "rulesFirst", unfollowed := true, recurses := true, apart := false, narrowed := true }
def RulesFirstUptoSaid : Prop := rulesFirstUptoRow.holds Try.pinned (OpenSpec.upto rulesFirstSpec)

/-- 'sallyportlaw07.RulesAny', WHERE WHAT IT READS IS OF BULK AT MOST 1048576: true; the input reads as it did. -/
def rulesAnyUptoRow : OpenClaim := { program := "ytgppfpfdoooijaa", sum := "20196b49e67d557e5cb3b90ee645b096251307ec7bc9e49331b3a1a21d1ecd69", func := "sallyport/sallyportlaw07.RulesAny", spec := "rulesAny", unfollowed := true, recurses := true, apart := false, narrowed := true }
def RulesAnyUptoSaid : Prop := rulesAnyUptoRow.holds Try.pinned (OpenSpec.upto rulesAnySpec)

/-- 'sallyportlaw16.NatPlain', WHERE WHAT IT READS IS OF BULK AT MOST 1048576: true; the input reads as it did. -/
def natPlainUptoRow : OpenClaim := { program := "ytgppfpfdoooijaa", sum := "20196b49e67d557e5cb3b90ee645b096251307ec7bc9e49331b3a1a21d1ecd69", func := "sallyport/sallyportlaw16.NatPlain", spec := "natPlain", unfollowed := true, recurses := true, apart := false, narrowed := true }
def NatPlainUptoSaid : Prop := natPlainUptoRow.holds Try.pinned (OpenSpec.upto natPlainSpec)

/-- 'sallyportlaw16.NatStatic', WHERE WHAT IT READS IS OF BULK AT MOST 1048576: true; the input reads as it did. -/
def natStaticUptoRow : OpenClaim := { program := "ytgppfpfdoooijaa", sum := "20196b49e67d557e5cb3b90ee645b096251307ec7bc9e49331b3a1a21d1ecd69", func := "sallyport/sallyportlaw16.NatStatic", spec := "natStatic", unfollowed := true, recurses := true, apart := false, narrowed := true }
def NatStaticUptoSaid : Prop := natStaticUptoRow.holds Try.pinned (OpenSpec.upto natStaticSpec)

/-- 'sallyportlaw16.NatMakes', WHERE WHAT IT READS IS OF BULK AT MOST 1048576: true; the input reads as it did. -/
def natMakesUptoRow : OpenClaim := { program := "ytgppfpfdoooijaa", sum := "20196b49e67d557e5cb3b90ee645b096251307ec7bc9e49331b3a1a21d1ecd69", func := "sallyport/sallyportlaw16.NatMakes", spec := "natMakes", unfollowed := true, recurses := true, apart := false, narrowed := true }
def NatMakesUptoSaid : Prop := natMakesUptoRow.holds Try.pinned (OpenSpec.upto natMakesSpec)

/-- 'sallyportlaw16.NatFree', WHERE WHAT IT READS IS OF BULK AT MOST 1048576: true; the input reads as it did. -/
def natFreeUptoRow : OpenClaim := { program := "ytgppfpfdoooijaa", sum := "20196b49e67d557e5cb3b90ee645b096251307ec7bc9e49331b3a1a21d1ecd69", func := "sallyport/sallyportlaw16.NatFree", spec := "natFree", unfollowed := true, recurses := true, apart := false, narrowed := true }
def NatFreeUptoSaid : Prop := natFreeUptoRow.holds Try.pinned (OpenSpec.upto natFreeSpec)

/-- 'sallyportlaw16.NatTwo', WHERE WHAT IT READS IS OF BULK AT MOST 1048576: true; the input reads as it did. -/
def natTwoUptoRow : OpenClaim := { program := "ytgppfpfdoooijaa", sum := "20196b49e67d557e5cb3b90ee645b096251307ec7bc9e49331b3a1a21d1ecd69", func := "sallyport/sallyportlaw16.NatTwo", spec := "natTwo", unfollowed := true, recurses := true, apart := false, narrowed := true }
def NatTwoUptoSaid : Prop := natTwoUptoRow.holds Try.pinned (OpenSpec.upto natTwoSpec)

end Rows
end Go.Proofs.Ytgppfpfdoooijaa
