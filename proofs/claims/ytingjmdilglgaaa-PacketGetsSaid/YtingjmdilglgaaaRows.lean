/-
  No cell of these rows narrows 'for every input' (looked for: loops, veiled, ifaces, maps, wideKeys, modest, calm, conditions, laid).
  DERIVED. THE GIVEN ROWS OF THIS SEAT. 6 by the template 'for every input the law returns true; each argument reads behind the call as it read before'; 0 by the template 'total and deterministic' (their statements: YtingjmdilglgaaaTotals.lean).
  GIVEN WITH THE SEED: the statements are not yours to turn. If you find one false, say at which input.
  Laid BY PROGRAM, IN A SANDBOX (cutbox-rows.mjs): the forced cells as the released guide's own fill.sh prints them over the translation f683cf71e11ee127… (all of the seat's roots in one cut). By AI agents, Wed Nov 11 2026. No macro, syntax, notation, axiom, sorry.
-/
import Derived.Test.YtingjmdilglgaaaChecked
import GoSem.Claim
import GoSem.ClaimJoined
import GoSem.ClaimMapViews
import Derived.JoinedTies
import Derived.KernelRfl
namespace Go.Proofs.Ytingjmdilglgaaa
/- THE CELL 'sum', in the pinned program and in every row, IS THE sha256 OF THE DUMP (.gsa) THAT YtingjmdilglgaaaProg.lean LOADS. Nothing in Lean hashes anything: it is a label: what it is worth is what the hold of that sum in a sandbox is worth. -/
noncomputable def Try.pinned : Pinned := { name := "ytingjmdilglgaaa", sum := "f683cf71e11ee1276d1f1215ff9a94c6d5d64e10c6de8feabffac0abd4d4e50b", checked := Try.checked }
namespace Rows
def none {H : Type} : Left H := { results := [], args := [] }

/-- 'chronobatelaw03.PacketPuts': WHATEVER THE INPUT: true; the input reads as it did. -/
def packetPutsSpec : ChangeSpec := { name := "packetPuts", fn := fun _ => fun
  | [d] => { results := [.lit (.bool true)], args := [d] }
  | _ => none }
def packetPutsRow : OpenClaim := { program := "ytingjmdilglgaaa", sum := "f683cf71e11ee1276d1f1215ff9a94c6d5d64e10c6de8feabffac0abd4d4e50b", func := "chronobate/chronobatelaw03.PacketPuts", spec := "packetPuts", apart := false }
def PacketPutsSaid : Prop := packetPutsRow.holds Try.pinned (OpenSpec.ofChange packetPutsSpec)

/-- ITS FALSE NEIGHBOUR: 'it returns false'. Refute it at one input. -/
def packetPutsWrong : ChangeSpec := { name := "packetPuts", fn := fun _ => fun
  | [d] => { results := [.lit (.bool false)], args := [d] }
  | _ => none }
def PacketPutsWrongFalsely : Prop := packetPutsRow.holds Try.pinned (OpenSpec.ofChange packetPutsWrong)

/-- 'chronobatelaw03.PacketFields': WHATEVER THE INPUT: true; the input reads as it did. -/
def packetFieldsSpec : ChangeSpec := { name := "packetFields", fn := fun _ => fun
  | [d1, d2] => { results := [.lit (.bool true)], args := [d1, d2] }
  | _ => none }
def packetFieldsRow : OpenClaim := { program := "ytingjmdilglgaaa", sum := "f683cf71e11ee1276d1f1215ff9a94c6d5d64e10c6de8feabffac0abd4d4e50b", func := "chronobate/chronobatelaw03.PacketFields", spec := "packetFields", apart := false }
def PacketFieldsSaid : Prop := packetFieldsRow.holds Try.pinned (OpenSpec.ofChange packetFieldsSpec)

/-- ITS FALSE NEIGHBOUR: 'it returns false'. Refute it at one input. -/
def packetFieldsWrong : ChangeSpec := { name := "packetFields", fn := fun _ => fun
  | [d1, d2] => { results := [.lit (.bool false)], args := [d1, d2] }
  | _ => none }
def PacketFieldsWrongFalsely : Prop := packetFieldsRow.holds Try.pinned (OpenSpec.ofChange packetFieldsWrong)

/-- 'chronobatelaw03.PacketCookies': WHATEVER THE INPUT: true; the input reads as it did. -/
def packetCookiesSpec : ChangeSpec := { name := "packetCookies", fn := fun _ => fun
  | [d1, d2] => { results := [.lit (.bool true)], args := [d1, d2] }
  | _ => none }
def packetCookiesRow : OpenClaim := { program := "ytingjmdilglgaaa", sum := "f683cf71e11ee1276d1f1215ff9a94c6d5d64e10c6de8feabffac0abd4d4e50b", func := "chronobate/chronobatelaw03.PacketCookies", spec := "packetCookies", apart := false }
def PacketCookiesSaid : Prop := packetCookiesRow.holds Try.pinned (OpenSpec.ofChange packetCookiesSpec)

/-- ITS FALSE NEIGHBOUR: 'it returns false'. Refute it at one input. -/
def packetCookiesWrong : ChangeSpec := { name := "packetCookies", fn := fun _ => fun
  | [d1, d2] => { results := [.lit (.bool false)], args := [d1, d2] }
  | _ => none }
def PacketCookiesWrongFalsely : Prop := packetCookiesRow.holds Try.pinned (OpenSpec.ofChange packetCookiesWrong)

/-- 'chronobatelaw03.PacketGets': WHATEVER THE INPUT: true; the input reads as it did. -/
def packetGetsSpec : ChangeSpec := { name := "packetGets", fn := fun _ => fun
  | [d] => { results := [.lit (.bool true)], args := [d] }
  | _ => none }
def packetGetsRow : OpenClaim := { program := "ytingjmdilglgaaa", sum := "f683cf71e11ee1276d1f1215ff9a94c6d5d64e10c6de8feabffac0abd4d4e50b", func := "chronobate/chronobatelaw03.PacketGets", spec := "packetGets", apart := false }
def PacketGetsSaid : Prop := packetGetsRow.holds Try.pinned (OpenSpec.ofChange packetGetsSpec)

/-- ITS FALSE NEIGHBOUR: 'it returns false'. Refute it at one input. -/
def packetGetsWrong : ChangeSpec := { name := "packetGets", fn := fun _ => fun
  | [d] => { results := [.lit (.bool false)], args := [d] }
  | _ => none }
def PacketGetsWrongFalsely : Prop := packetGetsRow.holds Try.pinned (OpenSpec.ofChange packetGetsWrong)

/-- 'chronobatelaw03.PacketQueries': WHATEVER THE INPUT: true; the input reads as it did. -/
def packetQueriesSpec : ChangeSpec := { name := "packetQueries", fn := fun _ => fun
  | [d] => { results := [.lit (.bool true)], args := [d] }
  | _ => none }
def packetQueriesRow : OpenClaim := { program := "ytingjmdilglgaaa", sum := "f683cf71e11ee1276d1f1215ff9a94c6d5d64e10c6de8feabffac0abd4d4e50b", func := "chronobate/chronobatelaw03.PacketQueries", spec := "packetQueries", apart := false }
def PacketQueriesSaid : Prop := packetQueriesRow.holds Try.pinned (OpenSpec.ofChange packetQueriesSpec)

/-- ITS FALSE NEIGHBOUR: 'it returns false'. Refute it at one input. -/
def packetQueriesWrong : ChangeSpec := { name := "packetQueries", fn := fun _ => fun
  | [d] => { results := [.lit (.bool false)], args := [d] }
  | _ => none }
def PacketQueriesWrongFalsely : Prop := packetQueriesRow.holds Try.pinned (OpenSpec.ofChange packetQueriesWrong)

/-- 'chronobatelaw03.PacketBack': WHATEVER THE INPUT: true; the input reads as it did. -/
def packetBackSpec : ChangeSpec := { name := "packetBack", fn := fun _ => fun
  | [d1, d2, d3] => { results := [.lit (.bool true)], args := [d1, d2, d3] }
  | _ => none }
def packetBackRow : OpenClaim := { program := "ytingjmdilglgaaa", sum := "f683cf71e11ee1276d1f1215ff9a94c6d5d64e10c6de8feabffac0abd4d4e50b", func := "chronobate/chronobatelaw03.PacketBack", spec := "packetBack", apart := false }
def PacketBackSaid : Prop := packetBackRow.holds Try.pinned (OpenSpec.ofChange packetBackSpec)

/-- ITS FALSE NEIGHBOUR: 'it returns false'. Refute it at one input. -/
def packetBackWrong : ChangeSpec := { name := "packetBack", fn := fun _ => fun
  | [d1, d2, d3] => { results := [.lit (.bool false)], args := [d1, d2, d3] }
  | _ => none }
def PacketBackWrongFalsely : Prop := packetBackRow.holds Try.pinned (OpenSpec.ofChange packetBackWrong)

/- THE SECOND FORM. 'bulk': how many values and letters a reading holds, each counted each time it is reached (what is shared counts as often as it is met; a slice's spare places count too). A statement '..UptoSaid' is the law's where the arguments, and the package variables that the reading takes, are together of bulk at most 1048576: NARROWER than '..Said'. Prove '..Said' where nothing that the law and all that it calls make is longer than what came in: it says more and counts as full. Else prove '..UptoSaid'. A law counts once. -/
mutual
def uptoBulk {H : Type} : DataW H → Nat
  | .lit (.string bytes) => bytes.length + 1
  | .lit _ => 1
  | .nil => 1
  | .ptr d => uptoBulk d + 1
  | .slice elems spare => uptoBulkAll elems + uptoBulkAll spare + 1
  | .agg parts => uptoBulkAll parts + 1
  | .iface _ d => uptoBulk d + 1
  | .map entries => uptoBulkEntries entries + 1
  | .held _ => 1
def uptoBulkAll {H : Type} : List (DataW H) → Nat
  | [] => 0
  | d :: r => uptoBulk d + uptoBulkAll r
def uptoBulkEntries {H : Type} : List (Lit × DataW H) → Nat
  | [] => 0
  | x :: r => uptoBulkEntry x + uptoBulkEntries r
def uptoBulkEntry {H : Type} : Lit × DataW H → Nat
  | (.string bytes, d) => bytes.length + uptoBulk d + 1
  | (_, d) => uptoBulk d + 1
 end
def uptoSmall : (H : Type) → List (DataW H) → Bool := fun _ ds => decide (uptoBulkAll ds ≤ 1048576)
def OpenSpec.upto (s : _root_.Go.ChangeSpec) : _root_.Go.OpenSpec := { _root_.Go.OpenSpec.ofChange s with cond := some uptoSmall }

/-- 'chronobatelaw03.PacketPuts', WHERE WHAT IT READS IS OF BULK AT MOST 1048576: true; the input reads as it did. -/
def packetPutsUptoRow : OpenClaim := { program := "ytingjmdilglgaaa", sum := "f683cf71e11ee1276d1f1215ff9a94c6d5d64e10c6de8feabffac0abd4d4e50b", func := "chronobate/chronobatelaw03.PacketPuts", spec := "packetPuts", apart := false, narrowed := true }
def PacketPutsUptoSaid : Prop := packetPutsUptoRow.holds Try.pinned (OpenSpec.upto packetPutsSpec)

/-- 'chronobatelaw03.PacketFields', WHERE WHAT IT READS IS OF BULK AT MOST 1048576: true; the input reads as it did. -/
def packetFieldsUptoRow : OpenClaim := { program := "ytingjmdilglgaaa", sum := "f683cf71e11ee1276d1f1215ff9a94c6d5d64e10c6de8feabffac0abd4d4e50b", func := "chronobate/chronobatelaw03.PacketFields", spec := "packetFields", apart := false, narrowed := true }
def PacketFieldsUptoSaid : Prop := packetFieldsUptoRow.holds Try.pinned (OpenSpec.upto packetFieldsSpec)

/-- 'chronobatelaw03.PacketCookies', WHERE WHAT IT READS IS OF BULK AT MOST 1048576: true; the input reads as it did. -/
def packetCookiesUptoRow : OpenClaim := { program := "ytingjmdilglgaaa", sum := "f683cf71e11ee1276d1f1215ff9a94c6d5d64e10c6de8feabffac0abd4d4e50b", func := "chronobate/chronobatelaw03.PacketCookies", spec := "packetCookies", apart := false, narrowed := true }
def PacketCookiesUptoSaid : Prop := packetCookiesUptoRow.holds Try.pinned (OpenSpec.upto packetCookiesSpec)

/-- 'chronobatelaw03.PacketGets', WHERE WHAT IT READS IS OF BULK AT MOST 1048576: true; the input reads as it did. -/
def packetGetsUptoRow : OpenClaim := { program := "ytingjmdilglgaaa", sum := "f683cf71e11ee1276d1f1215ff9a94c6d5d64e10c6de8feabffac0abd4d4e50b", func := "chronobate/chronobatelaw03.PacketGets", spec := "packetGets", apart := false, narrowed := true }
def PacketGetsUptoSaid : Prop := packetGetsUptoRow.holds Try.pinned (OpenSpec.upto packetGetsSpec)

/-- 'chronobatelaw03.PacketQueries', WHERE WHAT IT READS IS OF BULK AT MOST 1048576: true; the input reads as it did. -/
def packetQueriesUptoRow : OpenClaim := { program := "ytingjmdilglgaaa", sum := "f683cf71e11ee1276d1f1215ff9a94c6d5d64e10c6de8feabffac0abd4d4e50b", func := "chronobate/chronobatelaw03.PacketQueries", spec := "packetQueries", apart := false, narrowed := true }
def PacketQueriesUptoSaid : Prop := packetQueriesUptoRow.holds Try.pinned (OpenSpec.upto packetQueriesSpec)

/-- 'chronobatelaw03.PacketBack', WHERE WHAT IT READS IS OF BULK AT MOST 1048576: true; the input reads as it did. -/
def packetBackUptoRow : OpenClaim := { program := "ytingjmdilglgaaa", sum := "f683cf71e11ee1276d1f1215ff9a94c6d5d64e10c6de8feabffac0abd4d4e50b", func := "chronobate/chronobatelaw03.PacketBack", spec := "packetBack", apart := false, narrowed := true }
def PacketBackUptoSaid : Prop := packetBackUptoRow.holds Try.pinned (OpenSpec.upto packetBackSpec)

end Rows
end Go.Proofs.Ytingjmdilglgaaa
