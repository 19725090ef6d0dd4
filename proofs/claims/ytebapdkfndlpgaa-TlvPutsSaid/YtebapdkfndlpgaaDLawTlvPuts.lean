/- The law TlvPuts holds of every input: any values are put as the reference puts them, or refused as it refuses them. No conditions. -/
import Derived.Test.YtebapdkfndlpgaaRows
import Derived.Test.YtebapdkfndlpgaaDPure
import Derived.Test.YtebapdkfndlpgaaGOpens
import Derived.WalkKit
import Derived.ProofKit
import Derived.OpenShut
import Derived.ShutString
import Derived.ChangeOld
import Derived.Below
import Derived.SizedLaws
namespace Go.Proofs.Ytebapdkfndlpgaa.tlvPuts
open Go.ChangeShapes Go.WideShapes Go.ChangeAt Go.RowKit Go.Proofs.YtebapdkfndlpgaaW.PrintWords
open Go.ChangeMaps (open_string shut_string)
set_option linter.unusedVariables false
theorem own : ownKnob Try.prog.godebug = none := by kernel_rfl
theorem laidOut : laidOutB Try.prog = true := by kernel_rfl
theorem opensP : Go.Proofs.Ytebapdkfndlpgaa.G.Opens Try.prog 42 D.k42 (fun x => (Lit.int .i64 x.f0).wf = true ∧ x.f1.size ≤ 9223372036854775807) := by
  refine Go.Proofs.Ytebapdkfndlpgaa.G.opens_struct (k := Kd.pair (Kd.int .i64) Kd.string) (good := fun y => (Lit.int .i64 y.1).wf = true ∧ y.2.size ≤ 9223372036854775807) (n := 2) (fun x : D.S42 => (x.f0, x.f1)) (fun y => ⟨y.1, y.2⟩) (fun _ => rfl) Try.underlying42 (by kernel_rfl) ?_
  refine Go.Proofs.Ytebapdkfndlpgaa.G.piece_cons (o := 0) (a := 1) (b := 1) (k := Kd.int .i64) (k2 := Kd.string) (g := fun n => (Lit.int .i64 n).wf = true) (g2 := fun s => s.size ≤ 9223372036854775807) ?_ ?_ ?_ ?_
  · exact Go.Proofs.Ytebapdkfndlpgaa.G.opens_int Try.underlying3
  · rfl
  · kernel_rfl
  refine Go.Proofs.Ytebapdkfndlpgaa.G.piece_one ?_ ?_ ?_
  · exact Go.Proofs.Ytebapdkfndlpgaa.G.opens_string Try.underlying9
  · rfl
  · kernel_rfl
theorem opensL : Go.Proofs.Ytebapdkfndlpgaa.G.Opens Try.prog 22 (Kd.slice 42 D.k42) (fun xs => ∀ y ∈ xs, (fun x => (Lit.int .i64 x.f0).wf = true ∧ x.f1.size ≤ 9223372036854775807) y) := Go.Proofs.Ytebapdkfndlpgaa.G.opens_slice Try.underlying22 (by kernel_rfl) opensP
set_option maxRecDepth 100000 in
theorem lifted (os : Os) (started : os.Started) (H : Type) (enc : TypeId × Value → H) :
    ReturnsInHanded {} Try.checked os 3 .any (Rows.tlvPutsSpec.pre6 enc Try.prog Try.f3 Rows.tlvPutsRow.domain false) (Rows.tlvPutsSpec.post enc Try.prog Try.f3 false true false false) := by
  refine returnsInHanded_of_change_sized (C := Try.checked) own started (by kernel_rfl) Try.func3
    (ChangeSpec.witness6 (enc := enc) (C := Try.checked) false ⟨#[], #[.slice none 0 0], []⟩ 8 (by kernel_rfl) (by kernel_rfl) (by kernel_rfl) (by kernel_rfl)) ?_
  intro W base args ds gs before hval0 hW hcnd hsz0 _
  have hval : ∀ (j : Nat) t v, Try.f3.params[j]? = some t → args[j]? = some v → Value.okWide Try.prog W .any base t v := hval0
  have hW' := hW
  obtain ⟨p, q, hA0, hV, rfl, hfz, hnd⟩ := hW
  have hA : DataW.TrodAll enc Try.prog W 0 (fun _ => true) true Try.f3.params.toList args.toList ds p := hA0
  rw [Try.params3] at hA hval
  obtain ⟨v0, vs0, d0, ds0, p0, q0, hargs, rfl, rfl, h0, r0⟩ := trodAll_cons hA
  obtain ⟨rfl, rfl, rfl⟩ := trodAll_nil r0
  obtain rfl : args = #[v0] := by cases args; simp_all
  obtain ⟨rfl, rfl⟩ := trodVars_none hV
  obtain ⟨A0, len0, c0, rfl⟩ := okWide_slice Try.underlying22 (hval 0 22 v0 rfl rfl)
  have lt0 : ∀ x ∈ p0, x.block < W.heap.size := by obtain ⟨m, hm⟩ := h0; exact DataW.trod_lt m _ _ _ hm
  obtain ⟨l0, rfl, hc0, hr0, hg0⟩ := Go.Proofs.Ytebapdkfndlpgaa.G.open_arg opensL h0
  clear hA0 hval0 hsz0
  obtain ⟨k, hk⟩ := Pure.TlvPuts l0 (fun p hp => (hg0 p hp).1)
  refine (D.groatlaw10_TlvPuts.calls k A0 c0 l0 true W hr0 hc0 hk).mono fun e W' ⟨he, bel⟩ => ?_
  subst he
  exact ⟨_, rfl, _, _, _, [], _, [], hW', trodAll_mk1 (shut_bool Try.underlying4 _), (trodAll_cons_mk (Below.trod laidOut (by kernel_rfl) (of_decide_eq_true (by kernel_rfl)) h0 bel lt0) trodAll_mk0), rfl, bel.frame _, fun h => by cases h⟩
theorem over : Rows.tlvPutsRow.holds Try.pinned (OpenSpec.ofChange Rows.tlvPutsSpec) :=
  OpenClaim.holds_of_wide 3 Try.f3 rfl rfl rfl rfl rfl rfl rfl ⟨rfl, rfl, rfl, rfl, rfl⟩ rfl rfl rfl rfl rfl (by kernel_rfl) Try.func3 (by kernel_rfl)
    (of_decide_eq_true (by kernel_rfl)) (by unfold Func.isWrapper; first | (rw [if_pos (by decide +kernel)]; kernel_rfl) | (rw [if_neg (by decide +kernel)]; exact ⟨rfl, rfl⟩))
    (fun os started H enc _ => lifted os started H enc)
theorem proved : Rows.TlvPutsSaid := over
#print axioms proved
end Go.Proofs.Ytebapdkfndlpgaa.tlvPuts
namespace Go.Proofs.Ytebapdkfndlpgaa
/-- The row, under a short name, for the claim. -/
theorem tlvPuts_holds : Rows.TlvPutsSaid := tlvPuts.proved
end Go.Proofs.Ytebapdkfndlpgaa
