/-
  No cell of these rows narrows 'for every input' (looked for: loops, veiled, ifaces, maps, wideKeys, modest, calm, conditions, laid).
  DERIVED. THE GIVEN ROWS OF THIS SEAT. 5 by the template 'for every input the law returns true; each argument reads behind the call as it read before'; 0 by the template 'total and deterministic' (their statements: YtjbhdfnicbamoaaTotals.lean).
  GIVEN WITH THE SEED: the statements are not yours to turn. If you find one false, say at which input.
  Laid BY PROGRAM, IN A SANDBOX (cutbox-rows.mjs): the forced cells as the released guide's own fill.sh prints them over the translation 5b430f408b73402a… (all of the seat's roots in one cut). By AI agents, Wed Nov 11 2026. No macro, syntax, notation, axiom, sorry.
-/
import Derived.Test.YtjbhdfnicbamoaaChecked
import GoSem.Claim
import GoSem.ClaimJoined
import GoSem.ClaimMapViews
import Derived.JoinedTies
import Derived.KernelRfl
namespace Go.Proofs.Ytjbhdfnicbamoaa
/- THE CELL 'sum', in the pinned program and in every row, IS THE sha256 OF THE DUMP (.gsa) THAT YtjbhdfnicbamoaaProg.lean LOADS. Nothing in Lean hashes anything: it is a label: what it is worth is what the hold of that sum in a sandbox is worth. -/
noncomputable def Try.pinned : Pinned := { name := "ytjbhdfnicbamoaa", sum := "5b430f408b73402a8b7f8c2acca002c85a4cd6b7ac116efc8ffd1fe4549be842", checked := Try.checked }
namespace Rows
def none {H : Type} : Left H := { results := [], args := [] }

/-- 'groatlaw08.TagRights': WHATEVER THE INPUT: true; the input reads as it did. -/
def tagRightsSpec : ChangeSpec := { name := "tagRights", fn := fun _ => fun
  | [d] => { results := [.lit (.bool true)], args := [d] }
  | _ => none }
def tagRightsRow : OpenClaim := { program := "ytjbhdfnicbamoaa", sum := "5b430f408b73402a8b7f8c2acca002c85a4cd6b7ac116efc8ffd1fe4549be842", func := "groat/groatlaw08.TagRights", spec := "tagRights", apart := false }
def TagRightsSaid : Prop := tagRightsRow.holds Try.pinned (OpenSpec.ofChange tagRightsSpec)

/-- ITS FALSE NEIGHBOUR: 'it returns false'. Refute it at one input. -/
def tagRightsWrong : ChangeSpec := { name := "tagRights", fn := fun _ => fun
  | [d] => { results := [.lit (.bool false)], args := [d] }
  | _ => none }
def TagRightsWrongFalsely : Prop := tagRightsRow.holds Try.pinned (OpenSpec.ofChange tagRightsWrong)

/-- 'groatlaw08.TagGets': WHATEVER THE INPUT: true; the input reads as it did. -/
def tagGetsSpec : ChangeSpec := { name := "tagGets", fn := fun _ => fun
  | [d1, d2] => { results := [.lit (.bool true)], args := [d1, d2] }
  | _ => none }
def tagGetsRow : OpenClaim := { program := "ytjbhdfnicbamoaa", sum := "5b430f408b73402a8b7f8c2acca002c85a4cd6b7ac116efc8ffd1fe4549be842", func := "groat/groatlaw08.TagGets", spec := "tagGets", apart := false }
def TagGetsSaid : Prop := tagGetsRow.holds Try.pinned (OpenSpec.ofChange tagGetsSpec)

/-- ITS FALSE NEIGHBOUR: 'it returns false'. Refute it at one input. -/
def tagGetsWrong : ChangeSpec := { name := "tagGets", fn := fun _ => fun
  | [d1, d2] => { results := [.lit (.bool false)], args := [d1, d2] }
  | _ => none }
def TagGetsWrongFalsely : Prop := tagGetsRow.holds Try.pinned (OpenSpec.ofChange tagGetsWrong)

/-- 'groatlaw08.TagBack': WHATEVER THE INPUT: true; the input reads as it did. -/
def tagBackSpec : ChangeSpec := { name := "tagBack", fn := fun _ => fun
  | [d1, d2] => { results := [.lit (.bool true)], args := [d1, d2] }
  | _ => none }
def tagBackRow : OpenClaim := { program := "ytjbhdfnicbamoaa", sum := "5b430f408b73402a8b7f8c2acca002c85a4cd6b7ac116efc8ffd1fe4549be842", func := "groat/groatlaw08.TagBack", spec := "tagBack", apart := false }
def TagBackSaid : Prop := tagBackRow.holds Try.pinned (OpenSpec.ofChange tagBackSpec)

/-- ITS FALSE NEIGHBOUR: 'it returns false'. Refute it at one input. -/
def tagBackWrong : ChangeSpec := { name := "tagBack", fn := fun _ => fun
  | [d1, d2] => { results := [.lit (.bool false)], args := [d1, d2] }
  | _ => none }
def TagBackWrongFalsely : Prop := tagBackRow.holds Try.pinned (OpenSpec.ofChange tagBackWrong)

/-- 'groatlaw08.TagOne': WHATEVER THE INPUT: true; the input reads as it did. -/
def tagOneSpec : ChangeSpec := { name := "tagOne", fn := fun _ => fun
  | [d] => { results := [.lit (.bool true)], args := [d] }
  | _ => none }
def tagOneRow : OpenClaim := { program := "ytjbhdfnicbamoaa", sum := "5b430f408b73402a8b7f8c2acca002c85a4cd6b7ac116efc8ffd1fe4549be842", func := "groat/groatlaw08.TagOne", spec := "tagOne", apart := false }
def TagOneSaid : Prop := tagOneRow.holds Try.pinned (OpenSpec.ofChange tagOneSpec)

/-- ITS FALSE NEIGHBOUR: 'it returns false'. Refute it at one input. -/
def tagOneWrong : ChangeSpec := { name := "tagOne", fn := fun _ => fun
  | [d] => { results := [.lit (.bool false)], args := [d] }
  | _ => none }
def TagOneWrongFalsely : Prop := tagOneRow.holds Try.pinned (OpenSpec.ofChange tagOneWrong)

/-- 'groatlaw08.TagKinds': WHATEVER THE INPUT: true; the input reads as it did. -/
def tagKindsSpec : ChangeSpec := { name := "tagKinds", fn := fun _ => fun
  | [d1, d2] => { results := [.lit (.bool true)], args := [d1, d2] }
  | _ => none }
def tagKindsRow : OpenClaim := { program := "ytjbhdfnicbamoaa", sum := "5b430f408b73402a8b7f8c2acca002c85a4cd6b7ac116efc8ffd1fe4549be842", func := "groat/groatlaw08.TagKinds", spec := "tagKinds", apart := false }
def TagKindsSaid : Prop := tagKindsRow.holds Try.pinned (OpenSpec.ofChange tagKindsSpec)

/-- ITS FALSE NEIGHBOUR: 'it returns false'. Refute it at one input. -/
def tagKindsWrong : ChangeSpec := { name := "tagKinds", fn := fun _ => fun
  | [d1, d2] => { results := [.lit (.bool false)], args := [d1, d2] }
  | _ => none }
def TagKindsWrongFalsely : Prop := tagKindsRow.holds Try.pinned (OpenSpec.ofChange tagKindsWrong)

/- THE SECOND FORM. 'bulk': how many values and letters a reading holds, each counted each time it is reached (what is shared counts as often as it is met; a slice's spare places count too). A statement '..UptoSaid' is the law's where the arguments, and the package variables that the reading takes, are together of bulk at most 1048576: NARROWER than '..Said'. Prove '..Said' where nothing that the law and all that it calls make is longer than what came in: it says more and counts as full. Else prove '..UptoSaid'. A law counts once. -/
mutual
def uptoBulk {H : Type} : DataW H → Nat
  | .lit (.string bytes) => bytes.length + 1
  | .lit _ => 1
  | .nil => 1
  | .ptr d => uptoBulk d + 1
  | .slice elems spare => uptoBulkAll elems + uptoBulkAll spare + 1
  | .agg parts => uptoBulkAll parts + 1
  | .iface _ d => uptoBulk d + 1
  | .map entries => uptoBulkEntries entries + 1
  | .held _ => 1
def uptoBulkAll {H : Type} : List (DataW H) → Nat
  | [] => 0
  | d :: r => uptoBulk d + uptoBulkAll r
def uptoBulkEntries {H : Type} : List (Lit × DataW H) → Nat
  | [] => 0
  | x :: r => uptoBulkEntry x + uptoBulkEntries r
def uptoBulkEntry {H : Type} : Lit × DataW H → Nat
  | (.string bytes, d) => bytes.length + uptoBulk d + 1
  | (_, d) => uptoBulk d + 1
 end
def uptoSmall : (H : Type) → List (DataW H) → Bool := fun _ ds => decide (uptoBulkAll ds ≤ 1048576)
def OpenSpec.upto (s : _root_.Go.ChangeSpec) : _root_.Go.OpenSpec := { _root_.Go.OpenSpec.ofChange s with cond := some uptoSmall }

/-- 'groatlaw08.TagRights', WHERE WHAT IT READS IS OF BULK AT MOST 1048576: true; the input reads as it did. -/
def tagRightsUptoRow : OpenClaim := { program := "ytjbhdfnicbamoaa", sum := "5b430f408b73402a8b7f8c2acca002c85a4cd6b7ac116efc8ffd1fe4549be842", func := "groat/groatlaw08.TagRights", spec := "tagRights", apart := false, narrowed := true }
def TagRightsUptoSaid : Prop := tagRightsUptoRow.holds Try.pinned (OpenSpec.upto tagRightsSpec)

/-- 'groatlaw08.TagGets', WHERE WHAT IT READS IS OF BULK AT MOST 1048576: true; the input reads as it did. -/
def tagGetsUptoRow : OpenClaim := { program := "ytjbhdfnicbamoaa", sum := "5b430f408b73402a8b7f8c2acca002c85a4cd6b7ac116efc8ffd1fe4549be842", func := "groat/groatlaw08.TagGets", spec := "tagGets", apart := false, narrowed := true }
def TagGetsUptoSaid : Prop := tagGetsUptoRow.holds Try.pinned (OpenSpec.upto tagGetsSpec)

/-- 'groatlaw08.TagBack', WHERE WHAT IT READS IS OF BULK AT MOST 1048576: true; the input reads as it did. -/
def tagBackUptoRow : OpenClaim := { program := "ytjbhdfnicbamoaa", sum := "5b430f408b73402a8b7f8c2acca002c85a4cd6b7ac116efc8ffd1fe4549be842", func := "groat/groatlaw08.TagBack", spec := "tagBack", apart := false, narrowed := true }
def TagBackUptoSaid : Prop := tagBackUptoRow.holds Try.pinned (OpenSpec.upto tagBackSpec)

/-- 'groatlaw08.TagOne', WHERE WHAT IT READS IS OF BULK AT MOST 1048576: true; the input reads as it did. -/
def tagOneUptoRow : OpenClaim := { program := "ytjbhdfnicbamoaa", sum := "5b430f408b73402a8b7f8c2acca002c85a4cd6b7ac116efc8ffd1fe4549be842", func := "groat/groatlaw08.TagOne", spec := "tagOne", apart := false, narrowed := true }
def TagOneUptoSaid : Prop := tagOneUptoRow.holds Try.pinned (OpenSpec.upto tagOneSpec)

/-- 'groatlaw08.TagKinds', WHERE WHAT IT READS IS OF BULK AT MOST 1048576: true; the input reads as it did. -/
def tagKindsUptoRow : OpenClaim := { program := "ytjbhdfnicbamoaa", sum := "5b430f408b73402a8b7f8c2acca002c85a4cd6b7ac116efc8ffd1fe4549be842", func := "groat/groatlaw08.TagKinds", spec := "tagKinds", apart := false, narrowed := true }
def TagKindsUptoSaid : Prop := tagKindsUptoRow.holds Try.pinned (OpenSpec.upto tagKindsSpec)

end Rows
end Go.Proofs.Ytjbhdfnicbamoaa
