/-
  No cell of these rows narrows 'for every input' (looked for: loops, veiled, ifaces, maps, wideKeys, modest, calm, conditions, laid).
  DERIVED. THE GIVEN ROWS OF THIS SEAT. 5 by the template 'for every input the law returns true; each argument reads behind the call as it read before'; 0 by the template 'total and deterministic' (their statements: YtflghnkepoodkaaTotals.lean).
  GIVEN WITH THE SEED: the statements are not yours to turn. If you find one false, say at which input.
  Laid BY PROGRAM, IN A SANDBOX (cutbox-rows.mjs): the forced cells as the released guide's own fill.sh prints them over the translation 4cea703cd663abda… (all of the seat's roots in one cut). By AI agents, Wed Nov 11 2026. No macro, syntax, notation, axiom, sorry.
-/
import Derived.Test.YtflghnkepoodkaaChecked
import GoSem.Claim
import GoSem.ClaimJoined
import GoSem.ClaimMapViews
import Derived.JoinedTies
import Derived.KernelRfl
namespace Go.Proofs.Ytflghnkepoodkaa
/- THE CELL 'sum', in the pinned program and in every row, IS THE sha256 OF THE DUMP (.gsa) THAT YtflghnkepoodkaaProg.lean LOADS. Nothing in Lean hashes anything: it is a label: what it is worth is what the hold of that sum in a sandbox is worth. -/
noncomputable def Try.pinned : Pinned := { name := "ytflghnkepoodkaa", sum := "4cea703cd663abdafe73b711e75bb04efbfc13dd350646de984966be3d2b178f", checked := Try.checked }
namespace Rows
def none {H : Type} : Left H := { results := [], args := [] }

/-- 'groatlaw09.BerPuts': WHATEVER THE INPUT: true; the input reads as it did. -/
def berPutsSpec : ChangeSpec := { name := "berPuts", fn := fun _ => fun
  | [d] => { results := [.lit (.bool true)], args := [d] }
  | _ => none }
def berPutsRow : OpenClaim := { program := "ytflghnkepoodkaa", sum := "4cea703cd663abdafe73b711e75bb04efbfc13dd350646de984966be3d2b178f", func := "groat/groatlaw09.BerPuts", spec := "berPuts", apart := false }
def BerPutsSaid : Prop := berPutsRow.holds Try.pinned (OpenSpec.ofChange berPutsSpec)

/-- ITS FALSE NEIGHBOUR: 'it returns false'. Refute it at one input. -/
def berPutsWrong : ChangeSpec := { name := "berPuts", fn := fun _ => fun
  | [d] => { results := [.lit (.bool false)], args := [d] }
  | _ => none }
def BerPutsWrongFalsely : Prop := berPutsRow.holds Try.pinned (OpenSpec.ofChange berPutsWrong)

/-- 'groatlaw09.BerGets': WHATEVER THE INPUT: true; the input reads as it did. -/
def berGetsSpec : ChangeSpec := { name := "berGets", fn := fun _ => fun
  | [d1, d2] => { results := [.lit (.bool true)], args := [d1, d2] }
  | _ => none }
def berGetsRow : OpenClaim := { program := "ytflghnkepoodkaa", sum := "4cea703cd663abdafe73b711e75bb04efbfc13dd350646de984966be3d2b178f", func := "groat/groatlaw09.BerGets", spec := "berGets", apart := false }
def BerGetsSaid : Prop := berGetsRow.holds Try.pinned (OpenSpec.ofChange berGetsSpec)

/-- ITS FALSE NEIGHBOUR: 'it returns false'. Refute it at one input. -/
def berGetsWrong : ChangeSpec := { name := "berGets", fn := fun _ => fun
  | [d1, d2] => { results := [.lit (.bool false)], args := [d1, d2] }
  | _ => none }
def BerGetsWrongFalsely : Prop := berGetsRow.holds Try.pinned (OpenSpec.ofChange berGetsWrong)

/-- 'groatlaw09.BerBack': WHATEVER THE INPUT: true; the input reads as it did. -/
def berBackSpec : ChangeSpec := { name := "berBack", fn := fun _ => fun
  | [d1, d2] => { results := [.lit (.bool true)], args := [d1, d2] }
  | _ => none }
def berBackRow : OpenClaim := { program := "ytflghnkepoodkaa", sum := "4cea703cd663abdafe73b711e75bb04efbfc13dd350646de984966be3d2b178f", func := "groat/groatlaw09.BerBack", spec := "berBack", apart := false }
def BerBackSaid : Prop := berBackRow.holds Try.pinned (OpenSpec.ofChange berBackSpec)

/-- ITS FALSE NEIGHBOUR: 'it returns false'. Refute it at one input. -/
def berBackWrong : ChangeSpec := { name := "berBack", fn := fun _ => fun
  | [d1, d2] => { results := [.lit (.bool false)], args := [d1, d2] }
  | _ => none }
def BerBackWrongFalsely : Prop := berBackRow.holds Try.pinned (OpenSpec.ofChange berBackWrong)

/-- 'groatlaw09.BerOne': WHATEVER THE INPUT: true; the input reads as it did. -/
def berOneSpec : ChangeSpec := { name := "berOne", fn := fun _ => fun
  | [d] => { results := [.lit (.bool true)], args := [d] }
  | _ => none }
def berOneRow : OpenClaim := { program := "ytflghnkepoodkaa", sum := "4cea703cd663abdafe73b711e75bb04efbfc13dd350646de984966be3d2b178f", func := "groat/groatlaw09.BerOne", spec := "berOne", apart := false }
def BerOneSaid : Prop := berOneRow.holds Try.pinned (OpenSpec.ofChange berOneSpec)

/-- ITS FALSE NEIGHBOUR: 'it returns false'. Refute it at one input. -/
def berOneWrong : ChangeSpec := { name := "berOne", fn := fun _ => fun
  | [d] => { results := [.lit (.bool false)], args := [d] }
  | _ => none }
def BerOneWrongFalsely : Prop := berOneRow.holds Try.pinned (OpenSpec.ofChange berOneWrong)

/-- 'groatlaw09.BerOrder': WHATEVER THE INPUT: true; the input reads as it did. -/
def berOrderSpec : ChangeSpec := { name := "berOrder", fn := fun _ => fun
  | [d1, d2] => { results := [.lit (.bool true)], args := [d1, d2] }
  | _ => none }
def berOrderRow : OpenClaim := { program := "ytflghnkepoodkaa", sum := "4cea703cd663abdafe73b711e75bb04efbfc13dd350646de984966be3d2b178f", func := "groat/groatlaw09.BerOrder", spec := "berOrder", apart := false }
def BerOrderSaid : Prop := berOrderRow.holds Try.pinned (OpenSpec.ofChange berOrderSpec)

/-- ITS FALSE NEIGHBOUR: 'it returns false'. Refute it at one input. -/
def berOrderWrong : ChangeSpec := { name := "berOrder", fn := fun _ => fun
  | [d1, d2] => { results := [.lit (.bool false)], args := [d1, d2] }
  | _ => none }
def BerOrderWrongFalsely : Prop := berOrderRow.holds Try.pinned (OpenSpec.ofChange berOrderWrong)

/- THE SECOND FORM. 'bulk': how many values and letters a reading holds, each counted each time it is reached (what is shared counts as often as it is met; a slice's spare places count too). A statement '..UptoSaid' is the law's where the arguments, and the package variables that the reading takes, are together of bulk at most 1048576: NARROWER than '..Said'. Prove '..Said' where nothing that the law and all that it calls make is longer than what came in: it says more and counts as full. Else prove '..UptoSaid'. A law counts once. -/
mutual
def uptoBulk {H : Type} : DataW H → Nat
  | .lit (.string bytes) => bytes.length + 1
  | .lit _ => 1
  | .nil => 1
  | .ptr d => uptoBulk d + 1
  | .slice elems spare => uptoBulkAll elems + uptoBulkAll spare + 1
  | .agg parts => uptoBulkAll parts + 1
  | .iface _ d => uptoBulk d + 1
  | .map entries => uptoBulkEntries entries + 1
  | .held _ => 1
def uptoBulkAll {H : Type} : List (DataW H) → Nat
  | [] => 0
  | d :: r => uptoBulk d + uptoBulkAll r
def uptoBulkEntries {H : Type} : List (Lit × DataW H) → Nat
  | [] => 0
  | x :: r => uptoBulkEntry x + uptoBulkEntries r
def uptoBulkEntry {H : Type} : Lit × DataW H → Nat
  | (.string bytes, d) => bytes.length + uptoBulk d + 1
  | (_, d) => uptoBulk d + 1
 end
def uptoSmall : (H : Type) → List (DataW H) → Bool := fun _ ds => decide (uptoBulkAll ds ≤ 1048576)
def OpenSpec.upto (s : _root_.Go.ChangeSpec) : _root_.Go.OpenSpec := { _root_.Go.OpenSpec.ofChange s with cond := some uptoSmall }

/-- 'groatlaw09.BerPuts', WHERE WHAT IT READS IS OF BULK AT MOST 1048576: true; the input reads as it did. -/
def berPutsUptoRow : OpenClaim := { program := "ytflghnkepoodkaa", sum := "4cea703cd663abdafe73b711e75bb04efbfc13dd350646de984966be3d2b178f", func := "groat/groatlaw09.BerPuts", spec := "berPuts", apart := false, narrowed := true }
def BerPutsUptoSaid : Prop := berPutsUptoRow.holds Try.pinned (OpenSpec.upto berPutsSpec)

/-- 'groatlaw09.BerGets', WHERE WHAT IT READS IS OF BULK AT MOST 1048576: true; the input reads as it did. -/
def berGetsUptoRow : OpenClaim := { program := "ytflghnkepoodkaa", sum := "4cea703cd663abdafe73b711e75bb04efbfc13dd350646de984966be3d2b178f", func := "groat/groatlaw09.BerGets", spec := "berGets", apart := false, narrowed := true }
def BerGetsUptoSaid : Prop := berGetsUptoRow.holds Try.pinned (OpenSpec.upto berGetsSpec)

/-- 'groatlaw09.BerBack', WHERE WHAT IT READS IS OF BULK AT MOST 1048576: true; the input reads as it did. -/
def berBackUptoRow : OpenClaim := { program := "ytflghnkepoodkaa", sum := "4cea703cd663abdafe73b711e75bb04efbfc13dd350646de984966be3d2b178f", func := "groat/groatlaw09.BerBack", spec := "berBack", apart := false, narrowed := true }
def BerBackUptoSaid : Prop := berBackUptoRow.holds Try.pinned (OpenSpec.upto berBackSpec)

/-- 'groatlaw09.BerOne', WHERE WHAT IT READS IS OF BULK AT MOST 1048576: true; the input reads as it did. -/
def berOneUptoRow : OpenClaim := { program := "ytflghnkepoodkaa", sum := "4cea703cd663abdafe73b711e75bb04efbfc13dd350646de984966be3d2b178f", func := "groat/groatlaw09.BerOne", spec := "berOne", apart := false, narrowed := true }
def BerOneUptoSaid : Prop := berOneUptoRow.holds Try.pinned (OpenSpec.upto berOneSpec)

/-- 'groatlaw09.BerOrder', WHERE WHAT IT READS IS OF BULK AT MOST 1048576: true; the input reads as it did. -/
def berOrderUptoRow : OpenClaim := { program := "ytflghnkepoodkaa", sum := "4cea703cd663abdafe73b711e75bb04efbfc13dd350646de984966be3d2b178f", func := "groat/groatlaw09.BerOrder", spec := "berOrder", apart := false, narrowed := true }
def BerOrderUptoSaid : Prop := berOrderUptoRow.holds Try.pinned (OpenSpec.upto berOrderSpec)

end Rows
end Go.Proofs.Ytflghnkepoodkaa
