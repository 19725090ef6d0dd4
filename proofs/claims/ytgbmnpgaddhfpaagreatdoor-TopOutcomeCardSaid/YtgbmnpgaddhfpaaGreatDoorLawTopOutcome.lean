/- The law TopOutcome holds of every input: for every payload and every configuration that may be it goes on, is answered or is dropped just as its layers say. No conditions. -/
import Derived.Below
import Derived.ChangeOld
import Derived.LaidMore
import Derived.Lay
import Derived.OpenShut
import Derived.ProofKit
import Derived.SevenTiedAt
import Derived.ShutString
import Derived.SizedLaws
import Derived.Stop.Joined
import Derived.WalkKit
import Derived.Test.YtgbmnpgaddhfpaaGreatDoorCards
import Derived.Test.YtgbmnpgaddhfpaaGreatDoorRows
import Derived.Test.YtgbmnpgaddhfpaaGreatDoorTie
import Derived.Test.YtgbmnpgaddhfpaaGreatDoorM18
namespace Go.Proofs.YtgbmnpgaddhfpaaGreatDoor.topOutcome
open Go.ChangeShapes Go.WideShapes Go.ChangeAt Go.RowKit Go.Proofs.YtgbmnpgaddhfpaaGreatDoorW.PrintWords Go.Proofs.YtgbmnpgaddhfpaaGreatDoor.T
open Go.ChangeMaps (open_string shut_string)
set_option linter.unusedVariables false
theorem own : ownKnob Tryz.prog.godebug = none := by kernel_rfl
theorem laidOut : laidOutB Tryz.prog = true := by kernel_rfl
def zeroCfg : Value := .agg #[.int .i64 0, .int .i64 0, .slice none 0 0, .slice none 0 0, .slice none 0 0, .slice none 0 0, .slice none 0 0, .int .i64 0, .int .i64 0, .slice none 0 0, .slice none 0 0, .slice none 0 0, .slice none 0 0, .slice none 0 0, .int .i64 0]
theorem law_at (s t : Sd) (p q : Ad) (most lk : Int) (b : ByteArray) (w : World) (h1 : SdAt0 w s p) (h2 : SdAt0 w t q) :
  Calls Tryz.prog 3 #[.agg #[.int .i64 s.st, .int .i64 s.ver, .slice p.A1 s.l.length p.c1, .slice p.Am s.ms.length p.cm, .slice p.Ar s.rs.length p.cr, .slice p.Ae s.echo.length p.ce, .slice p.Ac s.cs.length p.cc, .int .i64 t.st, .int .i64 t.ver, .slice q.A1 t.l.length q.c1, .slice q.Am t.ms.length q.cm, .slice q.Ar t.rs.length q.cr, .slice q.Ae t.echo.length q.ce, .slice q.Ac t.cs.length q.cc, .int .i64 most], .int .i64 lk, .string b] w fun e w' => e = .returned (.bool true) ∧ Below w.heap.size w w' := by
 rcases Decidable.em (lk < 0 ∨ 1 < lk) with h | h
 ·exact topOutcome_bad.at s t p q most lk b w h h1 h2
 ·rcases (show lk = 0 ∨ lk = 1 by omega) with rfl | rfl
  ·exact topOutcome_0.at s t p q most b w h1 h2
  ·exact topOutcome_1.at t s q p most b w h2 h1
set_option maxRecDepth 100000 in
theorem lifted (os : Os) (started : os.Started) (H : Type) (enc : TypeId × Value → H) :
  ReturnsInHanded {} Tryz.checked os 3 .any (fun w args => (Rows.topOutcomeSpec.pre enc Tryz.prog Tryz.f3 Rows.topOutcomeRow.domain false w args ∧ laidMetH Tryz.prog Rows.topOutcomeRow.laid w) ∧ sizedMet enc Tryz.prog Tryz.f3 (OpenSpec.ofChange Rows.topOutcomeSpec) false w args)
   (Rows.topOutcomeSpec.post enc Tryz.prog Tryz.f3 false true false false) := by
 refine returnsInHanded_of_change_and (C := Tryz.checked) (X := fun w _ => laidMetH Tryz.prog Rows.topOutcomeRow.laid w) (fun _ _ _ hh h => h.of_heap hh) own started (by kernel_rfl) Tryz.func3
  (ChangeSpec.witness_shaped (enc := enc) (C := Tryz.checked) (os := os) (X := fun w _ => laidMetH Tryz.prog Rows.topOutcomeRow.laid w) false (World.laidAll Tryz.prog os Rows.topOutcomeRow.laid) #[zeroCfg, .int .i64 0, .string ByteArray.empty] 8 (World.laidAll_os _ _ _)
   (World.shaped_of_ZipB (by kernel_rfl) (by kernel_rfl)) (by kernel_rfl) (by kernel_rfl) (by kernel_rfl)
   (by rw [MakeChecks.laidMetH_plain _ _ _ (by kernel_rfl)]; exact laidMet_laidAll _ (by kernel_rfl) (by kernel_rfl))) ?_
 intro W base args ds gs before hval0 hW hcnd _ hL _
 have hval : ∀ (j : Nat) t v, Tryz.f3.params[j]? = some t → args[j]? = some v → Value.okWide Tryz.prog W .any base t v := hval0
 have hW' := hW
 obtain ⟨p, q, hA0, hV, rfl, hfz, hnd⟩ := hW
 have hA : DataW.TrodAll enc Tryz.prog W 0 (fun _ => true) true Tryz.f3.params.toList args.toList ds p := hA0
 rw [Tryz.params3] at hA hval
 obtain ⟨v0, vs0, d0, ds0, p0, q0, hargs, rfl, rfl, h0, r0⟩ := trodAll_cons hA
 obtain ⟨v1, vs1, d1, ds1, p1, q1, rfl, rfl, rfl, h1, r1⟩ := trodAll_cons r0
 obtain ⟨v2, vs2, d2, ds2, p2, q2, rfl, rfl, rfl, h2, r2⟩ := trodAll_cons r1
 obtain ⟨rfl, rfl, rfl⟩ := trodAll_nil r2
 obtain rfl : args = #[v0, v1, v2] := by cases args; simp_all
 obtain ⟨rfl, rfl⟩ := trodVars_none hV
 have lt0 : ∀ x ∈ p0, x.block < W.heap.size := by obtain ⟨m, hm⟩ := h0; exact DataW.trod_lt m _ _ _ hm
 obtain ⟨s, t, pa, qa, most, rfl, hs, ht⟩ := open_cfg (hval 0 35 v0 rfl rfl) h0
 obtain ⟨a1, rfl, rfl, rfl, w1⟩ := open_int Tryz.underlying3 (hval 1 3 v1 rfl rfl) h1
 obtain ⟨a2, rfl, rfl, rfl, y2⟩ := open_string Tryz.underlying9 (hval 2 9 v2 rfl rfl) h2
 clear hA0 hval0 hL
 refine (law_at s t pa qa most a1 a2 W hs ht).mono fun e W' ⟨he, bel⟩ => ?_
 subst he
 exact ⟨_, rfl, _, _, _, [], _, [], hW', trodAll_mk1 (shut_bool Tryz.underlying4 _), (trodAll_cons_mk (Below.trod laidOut (by kernel_rfl) (of_decide_eq_true (by kernel_rfl)) h0 bel lt0) (trodAll_cons_mk (shut_int Tryz.underlying3 w1) (trodAll_cons_mk (shut_string Tryz.underlying9 y2) trodAll_mk0))), rfl, bel.frame _, fun h => by cases h⟩
theorem over : Rows.topOutcomeRow.holds Tryz.pinned (OpenSpec.ofChange Rows.topOutcomeSpec) :=
 OpenClaim.holds_of_wide 3 Tryz.f3 rfl rfl rfl rfl rfl rfl rfl ⟨rfl, rfl, rfl, rfl, rfl⟩ rfl rfl rfl rfl rfl (by kernel_rfl) Tryz.func3 (by kernel_rfl)
  (of_decide_eq_true (by kernel_rfl)) (by unfold Func.isWrapper; first | (rw [if_pos (by decide +kernel)]; kernel_rfl) | (rw [if_neg (by decide +kernel)]; exact ⟨rfl, rfl⟩))
  (fun os started H enc _ => lifted os started H enc)
theorem card_holds : Rows.TopOutcomeCardSaid :=
 Claim7.holds_tied_plain_at .later [] [.data, .pinned] true (true, "cd85fe993565ac1dbca8bcfc0f38a83d985b5c923950fb919ba784c26bf583b2") false over (fun _ h => by cases h) (by kernel_rfl) (fun _ h => by cases h) topOutcome_row_tie rfl ⟨rfl, rfl⟩ (by kernel_rfl) rfl
  (fun f fn hf hfn => by
   obtain rfl : f = 3 := Option.some.inj ((show Tryz.prog.funcNamed "groat/groattop.TopOutcome" = some 3 by kernel_rfl).symm.trans hf) |>.symm
   obtain rfl : fn = Tryz.f3 := (Option.some.inj (Tryz.func3.symm.trans hfn)).symm
   exact ⟨by kernel_rfl, fun j t ht => by
    rw [Tryz.params3] at ht
    have hm : t ∈ [35, 3, 9] := by simpa using Array.mem_of_getElem? ht
    have hall : ([35, 3, 9].all fun u => !Tryz.prog.wantsStandIn u) = true := by kernel_rfl
    exact (show Tryz.prog.wantsStandIn t = false by simpa using List.all_eq_true.1 hall t hm)⟩)
  (by kernel_rfl)
#print axioms card_holds
end Go.Proofs.YtgbmnpgaddhfpaaGreatDoor.topOutcome
namespace Go.Proofs.YtgbmnpgaddhfpaaGreatDoor
theorem topOutcome_holds : Rows.TopOutcomeCardSaid := topOutcome.card_holds
end Go.Proofs.YtgbmnpgaddhfpaaGreatDoor
