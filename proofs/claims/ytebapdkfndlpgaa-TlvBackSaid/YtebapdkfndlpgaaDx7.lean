/- Walks of the functions that the laws of layer 10 (tlv) reach: each call comes to the answer of its plain function, which stands beside it. No conditions. -/
import Derived.Test.YtebapdkfndlpgaaDx0
import Derived.Test.YtebapdkfndlpgaaDx2
import Derived.Test.YtebapdkfndlpgaaDx3
import Derived.Test.YtebapdkfndlpgaaDx4
import Derived.Test.YtebapdkfndlpgaaDx5
import Derived.Test.YtebapdkfndlpgaaDx6
namespace Go.Proofs.Ytebapdkfndlpgaa.D
open Go.RowKit Go.Proofs.YtebapdkfndlpgaaW.PrintWords Go.Proofs.YtebapdkfndlpgaaW.PrintLast Go.Proofs.YtebapdkfndlpgaaW.PrintMore
attribute [local go_sem] max2_int min2_int max_two min_two max_three min_three max_four min_four   -- for this text's walks alone
set_option linter.unusedVariables false
set_option linter.unusedSimpArgs false

/-! ### groatref10_Get: function 15 -/
def groatref10_Get.l0 : Nat → ByteArray → List (S42) → Int → Option ((List (S42)) × Int × Int)
  | 0, _, _, _ => none
  | k + 1, x0, x5, x6 => if x6 < (x0.size : Int) then ((groatref08_Get.f k x0 x6).bind fun bt201 => (if bt201.2.2 = 0 then ((groatref09_Get.f k x0 bt201.2.1).bind fun bt204 => (if bt204.2.2 = 0 then (if (wrap64 ((x0.size : Int) - bt204.2.1)) < bt204.1 then (some (([] : List (S42)), 2, (x0.size : Int))) else ((groatref10_has.f k x5 (x5.length : Int) bt201.1).bind fun t207 => (if t207 = true then (some (([] : List (S42)), 10, x6)) else (if 0 ≤ bt204.2.1 then (if bt204.2.1 ≤ (wrap64 (bt204.2.1 + bt204.1)) then (if (wrap64 (bt204.2.1 + bt204.1)) ≤ (x0.size : Int) then (if x5.length < 5864062014805 then (groatref10_Get.l0 k x0 (x5 ++ [(⟨bt201.1, x0.extract (bt204.2.1 : Int).toNat ((wrap64 (bt204.2.1 + bt204.1)) : Int).toNat⟩ : S42)]) (wrap64 (bt204.2.1 + bt204.1))) else (none)) else (none)) else (none)) else (none))))) else (some (([] : List (S42)), bt204.2.2, bt201.2.1)))) else (some (([] : List (S42)), bt201.2.2, x6)))) else (some (x5, 0, 0))
def groatref10_Get.f (k : Nat) (a0 : ByteArray) : Option ((List (S42)) × Int × Int) := groatref10_Get.l0 k a0 (([] : List (S42))) 0
theorem groatref10_Get.mono_l : ∀ k, (∀ y0 y1 y2, LeO (groatref10_Get.l0 k y0 y1 y2) (groatref10_Get.l0 (k + 1) y0 y1 y2))
  | 0 => fun _ _ _ r h => by simp [groatref10_Get.l0] at h
  | k + 1 => by
    have ih0 := groatref10_Get.mono_l k
    · intro y0 y1 y2
      unfold groatref10_Get.l0
      repeat' first
      | (with_reducible exact ih0 _ _ _)
      | (with_reducible exact groatref08_Get.mono _ _ _)
      | (with_reducible exact groatref09_Get.mono _ _ _)
      | (with_reducible exact groatref10_has.mono _ _ _ _)
      | (with_reducible exact LeO.refl _)
      | (with_reducible exact LeO.none _)
      | (with_reducible refine LeO.ite ?_ ?_)
      | (with_reducible refine LeO.bind ?_ (fun _ => ?_))
      | exact ih0 _ _ _
      | exact groatref08_Get.mono _ _ _
      | exact groatref09_Get.mono _ _ _
      | exact groatref10_has.mono _ _ _ _
      | exact LeO.none _
      | refine LeO.ite ?_ ?_
      | refine LeO.bind ?_ (fun _ => ?_)
theorem groatref10_Get.mono : ∀ a0 k, LeO (groatref10_Get.f k a0) (groatref10_Get.f (k + 1) a0) := by
  intro a0 k
  have ih0 := groatref10_Get.mono_l k
  unfold groatref10_Get.f
  repeat' first
      | (with_reducible exact ih0 _ _ _)
      | (with_reducible exact groatref08_Get.mono _ _ _)
      | (with_reducible exact groatref09_Get.mono _ _ _)
      | (with_reducible exact groatref10_has.mono _ _ _ _)
      | (with_reducible exact LeO.refl _)
      | (with_reducible exact LeO.none _)
      | (with_reducible refine LeO.ite ?_ ?_)
      | (with_reducible refine LeO.bind ?_ (fun _ => ?_))
      | exact ih0 _ _ _
      | exact groatref08_Get.mono _ _ _
      | exact groatref09_Get.mono _ _ _
      | exact groatref10_has.mono _ _ _ _
      | exact LeO.none _
      | refine LeO.ite ?_ ?_
      | refine LeO.bind ?_ (fun _ => ?_)
set_option maxHeartbeats 8000000 in
set_option maxRecDepth 100000 in
theorem groatref10_Get.calls (k : Nat) (a0 : ByteArray) (r1 : List (S42)) (r2 : Int) (r3 : Int) (w : World) (h : groatref10_Get.f k a0 = some (r1, r2, r3)) :
    Calls Try.prog 15 #[.string a0] w fun e w' => ∃ v0_ : Value, e = .returned (.tuple #[v0_, .int .i64 r2, .int .i64 r3]) ∧ Kd.R k42 42 w' w.heap.size (fun _ => True) v0_ r1 ∧ Below w.heap.size w w' := by
  have hu42 := Try.underlying42
  have HB := Aside0.mk (Below.refl w.heap.size w)
  have H : (groatref10_Get.l0 k a0 (([] : List (S42))) 0) = some (r1, r2, r3) := h
  clear h
  obtain ⟨y198, hy198⟩ : ∃ y_ : List (S42), y_ = (([] : List (S42))) := ⟨_, rfl⟩
  replace H : (groatref10_Get.l0 k a0 y198 0) = some (r1, r2, r3) := by first | (rw [hy198]; with_reducible exact H) | (have H2_ := (Option.bind_some _ _).symm.trans H; rw [hy198]; with_reducible exact H2_) | (have H2_ := (Option.bind_some _ _).symm.trans H; with_reducible exact H2_) | with_reducible exact H | (rw [hy198]; exact H) | exact H
  have Ny198 := Aside0.mk hy198
  clear hy198
  have H' := Aside0.mk H
  clear H
  go_enter Try.func15, Try.ntmps15
  go_wp2_with (first | ((with_reducible refine gate_dst (N := 12) rfl ?_); refine Kd.R_lit k42 _ 42 ?hg (N := 12) ?hd (xs := ([] : List (S42))) (inner := []) (ok := fun _ => True) (okp := fun _ => True) ?hr ?hp (fun _ hk => hk) trivial (Below.refl _ _) (Nat.le_refl _) (by simp) ?_; (case hd => rfl); (case hg => rfl); (case hr => first | (go_simp; done) | (go_simp; rfl)); (case hp => exact (Reps.none _ _)); intro v199 w2 ho3 hb hg_ hnew_; clear hg_ hnew_; (first | rw [← Ny198.out] at ho3 | (simp only [Int.reduceToNat] at ho3; rw [← Ny198.out] at ho3)); have n0_ := Aside0.mk (Kd.R_lower ho3 (below_size (by repeat (first | (with_reducible first | exact HB.out | apply below_alloc | apply pw_below_drewN | apply below_drew1) | exact HB.out)))); have n1_ := Aside0.mk (below_step (by repeat (first | (with_reducible first | exact HB.out | apply below_alloc | apply pw_below_drewN | apply below_drew1) | exact HB.out)) hb); clear HB; have HO200 := n0_; have HB := n1_; clear n0_ n1_; clear hb ho3))
  go_loopg [5, 6] k (fun kq v5 v6 w' => ∃ (x5_1 : List (S42)) (x6_1 : Int), v6 = .int .i64 x6_1 ∧ Aside0 (groatref10_Get.l0 kq a0 x5_1 x6_1 = some (r1, r2, r3)) ∧ Aside0 (kq ≤ k) ∧ Aside0 (Kd.R k42 42 w' w.heap.size (fun _ => True) v5 x5_1) ∧ Aside0 (Below w.heap.size w w'))
  case atStart => exact ⟨(y198), (0), (by first | rfl | (simp; done) | (simp [*]; done)), H', ⟨Nat.le_refl _⟩, ⟨by (with_reducible repeat (first | apply Kd.R_alloc | apply Kd.R_drewN | apply Kd.R_drew)); exact HO200.out⟩, ⟨by repeat (first | (with_reducible first | exact HB.out | apply below_alloc | apply pw_below_drewN | apply below_drew1) | exact HB.out)⟩⟩
  case round =>
    clear H'
    try clear c1
    try clear p2
    obtain ⟨x5_1, x6_1, rfl, HA, HK1, HO_5, HB⟩ := hrel
    cases gk with
    | zero => exact absurd HA.out (by simp [groatref10_Get.l0])
    | succ k1 =>
      have H := HA.out
      clear HA
      simp only [groatref10_Get.l0] at H
      by_cases c4 : x6_1 < (a0.size : Int)
      · rw [if_pos c4] at H
        have c4b0 : decide (x6_1 < (a0.size : Int)) = true := decide_eq_true c4
        clear c4
        replace H := Option.bind_eq_some_iff.mp H
        obtain ⟨⟨t201, t202, t203⟩, A50, H⟩ := H
        replace H : (if t203 = 0 then ((groatref09_Get.f k1 a0 t202).bind fun bt204 => (if bt204.2.2 = 0 then (if (wrap64 ((a0.size : Int) - bt204.2.1)) < bt204.1 then (some (([] : List (S42)), 2, (a0.size : Int))) else ((groatref10_has.f k1 x5_1 (x5_1.length : Int) t201).bind fun t207 => (if t207 = true then (some (([] : List (S42)), 10, x6_1)) else (if 0 ≤ bt204.2.1 then (if bt204.2.1 ≤ (wrap64 (bt204.2.1 + bt204.1)) then (if (wrap64 (bt204.2.1 + bt204.1)) ≤ (a0.size : Int) then (if x5_1.length < 5864062014805 then (groatref10_Get.l0 k1 a0 (x5_1 ++ [(⟨t201, a0.extract (bt204.2.1 : Int).toNat ((wrap64 (bt204.2.1 + bt204.1)) : Int).toNat⟩ : S42)]) (wrap64 (bt204.2.1 + bt204.1))) else (none)) else (none)) else (none)) else (none))))) else (some (([] : List (S42)), bt204.2.2, t202)))) else (some (([] : List (S42)), t203, x6_1))) = some (r1, r2, r3) := H
        have A5 := Aside0.mk A50
        clear A50
        by_cases c6 : t203 = 0
        · rw [if_pos c6] at H
          have c6b0 : (t203 == 0) = true := beq_iff_eq.mpr c6
          have c6b1 : (t203 != 0) = false := bne_eq_false_iff_eq.mpr c6
          clear c6
          replace H := Option.bind_eq_some_iff.mp H
          obtain ⟨⟨t204, t205, t206⟩, A70, H⟩ := H
          replace H : (if t206 = 0 then (if (wrap64 ((a0.size : Int) - t205)) < t204 then (some (([] : List (S42)), 2, (a0.size : Int))) else ((groatref10_has.f k1 x5_1 (x5_1.length : Int) t201).bind fun t207 => (if t207 = true then (some (([] : List (S42)), 10, x6_1)) else (if 0 ≤ t205 then (if t205 ≤ (wrap64 (t205 + t204)) then (if (wrap64 (t205 + t204)) ≤ (a0.size : Int) then (if x5_1.length < 5864062014805 then (groatref10_Get.l0 k1 a0 (x5_1 ++ [(⟨t201, a0.extract (t205 : Int).toNat ((wrap64 (t205 + t204)) : Int).toNat⟩ : S42)]) (wrap64 (t205 + t204))) else (none)) else (none)) else (none)) else (none))))) else (some (([] : List (S42)), t206, t202))) = some (r1, r2, r3) := H
          have A7 := Aside0.mk A70
          clear A70
          by_cases c8 : t206 = 0
          · rw [if_pos c8] at H
            have c8b0 : (t206 == 0) = true := beq_iff_eq.mpr c8
            have c8b1 : (t206 != 0) = false := bne_eq_false_iff_eq.mpr c8
            clear c8
            by_cases c9 : (wrap64 ((a0.size : Int) - t205)) < t204
            · rw [if_pos c9] at H
              have c9b0 : decide ((wrap64 ((a0.size : Int) - t205)) < t204) = true := decide_eq_true c9
              clear c9
              simp only [Option.some.injEq, Prod.mk.injEq] at H
              obtain ⟨rfl, rfl, rfl⟩ := H
              go_wp2_with (first | ((with_reducible refine gate_callee (f := 29) rfl ?_); refine goesL_ (some 20) rfl rfl Try.func29 (by kernel_rfl) rfl #[.string a0, .int .i64 x6_1] rfl (by (try simp only [List.map_toArray, List.map_cons, List.map_nil]); first | done | rfl | (simp only [List.length_drop, List.length_take]; rfl)) ?_; (with_reducible refine (groatref08_Get.calls k1 a0 x6_1 t201 t202 t203 _ A5.out).mono ?_); rintro e w' ⟨rfl, ⟨nd, rfl⟩⟩; refine ⟨_, rfl, ?_⟩) | ((with_reducible refine gate_callee (f := 30) rfl ?_); refine goesL_ (some 31) rfl rfl Try.func30 (by kernel_rfl) rfl #[.string a0, .int .i64 t202] rfl (by (try simp only [List.map_toArray, List.map_cons, List.map_nil]); first | done | rfl | (simp only [List.length_drop, List.length_take]; rfl)) ?_; (with_reducible refine (groatref09_Get.calls k1 a0 t202 t204 t205 t206 _ A7.out).mono ?_); rintro e w' ⟨rfl, ⟨nd, rfl⟩⟩; refine ⟨_, rfl, ?_⟩))
              go_ret3
              exact ⟨_, by first | rfl | (simp [errW_none, errW_some] <;> rfl) | (simp [*, errW_none, errW_some] <;> rfl), by first | exact Kd.R_nil _ _ _ _ _ | exact Kd.N_nil _ _ _ _ _ | exact Kd.V_nil _ _ _ _ _ | exact Kd.Q_nil _ _ _ _ _ | exact Kd.S_nil _ _ _ _ _, by repeat (first | (with_reducible first | exact HB.out | apply below_alloc | apply pw_below_drewN | apply below_drew1) | exact HB.out)⟩
            · rw [if_neg c9] at H
              have c9b0 : decide ((wrap64 ((a0.size : Int) - t205)) < t204) = false := decide_eq_false c9
              clear c9
              replace H := Option.bind_eq_some_iff.mp H
              obtain ⟨t207, A100, H⟩ := H
              replace H : (if t207 = true then (some (([] : List (S42)), 10, x6_1)) else (if 0 ≤ t205 then (if t205 ≤ (wrap64 (t205 + t204)) then (if (wrap64 (t205 + t204)) ≤ (a0.size : Int) then (if x5_1.length < 5864062014805 then (groatref10_Get.l0 k1 a0 (x5_1 ++ [(⟨t201, a0.extract (t205 : Int).toNat ((wrap64 (t205 + t204)) : Int).toNat⟩ : S42)]) (wrap64 (t205 + t204))) else (none)) else (none)) else (none)) else (none))) = some (r1, r2, r3) := H
              have A10 := Aside0.mk A100
              clear A100
              by_cases c11 : t207 = true
              · subst c11
                have H1 : (some (([] : List (S42)), 10, x6_1)) = some (r1, r2, r3) := by rw [if_pos rfl] at H; exact H
                clear H
                have H := H1
                clear H1
                simp only [Option.some.injEq, Prod.mk.injEq] at H
                obtain ⟨rfl, rfl, rfl⟩ := H
                go_wp2_with (first | ((with_reducible refine gate_callee (f := 29) rfl ?_); refine goesL_ (some 20) rfl rfl Try.func29 (by kernel_rfl) rfl #[.string a0, .int .i64 x6_1] rfl (by (try simp only [List.map_toArray, List.map_cons, List.map_nil]); first | done | rfl | (simp only [List.length_drop, List.length_take]; rfl)) ?_; (with_reducible refine (groatref08_Get.calls k1 a0 x6_1 t201 t202 t203 _ A5.out).mono ?_); rintro e w' ⟨rfl, ⟨nd, rfl⟩⟩; refine ⟨_, rfl, ?_⟩) | ((with_reducible refine gate_callee (f := 30) rfl ?_); refine goesL_ (some 31) rfl rfl Try.func30 (by kernel_rfl) rfl #[.string a0, .int .i64 t202] rfl (by (try simp only [List.map_toArray, List.map_cons, List.map_nil]); first | done | rfl | (simp only [List.length_drop, List.length_take]; rfl)) ?_; (with_reducible refine (groatref09_Get.calls k1 a0 t202 t204 t205 t206 _ A7.out).mono ?_); rintro e w' ⟨rfl, ⟨nd, rfl⟩⟩; refine ⟨_, rfl, ?_⟩; obtain ⟨Ao12, co12, eo12⟩ := Kd.R_slice HO_5.out; subst eo12) | ((with_reducible refine gate_callee (f := 20) rfl ?_); refine goesL_ (some 51) rfl rfl Try.func20 (by kernel_rfl) rfl #[.slice Ao12 x5_1.length co12, .int .i64 (x5_1.length : Int), .int .i64 t201] rfl (by (try simp only [List.map_toArray, List.map_cons, List.map_nil]); first | done | rfl | (simp only [List.length_drop, List.length_take]; rfl)) ?_; (with_reducible refine (groatref10_has.calls k1 _ _ x5_1 (x5_1.length : Int) t201 true _ ?side1 ?side2 A10.out).mono ?_); (case side1 => repeat (first | exact (Kd.R_reads' HO_5.out).2.2 | (with_reducible refine Kd.C_alloc ?_ _) | (with_reducible refine Kd.C_drewN ?_ _) | (with_reducible refine Kd.C_drew ?_))); (case side2 => exact (Kd.R_reads' HO_5.out).2.1); rintro e w' ⟨rfl, ⟨nd, rfl⟩⟩; refine ⟨_, rfl, ?_⟩))
                go_ret3
                exact ⟨_, by first | rfl | (simp [errW_none, errW_some] <;> rfl) | (simp [*, errW_none, errW_some] <;> rfl), by first | exact Kd.R_nil _ _ _ _ _ | exact Kd.N_nil _ _ _ _ _ | exact Kd.V_nil _ _ _ _ _ | exact Kd.Q_nil _ _ _ _ _ | exact Kd.S_nil _ _ _ _ _, by repeat (first | (with_reducible first | exact HB.out | apply below_alloc | apply pw_below_drewN | apply below_drew1) | exact HB.out)⟩
              · replace c11 := Bool.eq_false_iff.mpr c11
                subst c11
                have H1 : (if 0 ≤ t205 then (if t205 ≤ (wrap64 (t205 + t204)) then (if (wrap64 (t205 + t204)) ≤ (a0.size : Int) then (if x5_1.length < 5864062014805 then (groatref10_Get.l0 k1 a0 (x5_1 ++ [(⟨t201, a0.extract (t205 : Int).toNat ((wrap64 (t205 + t204)) : Int).toNat⟩ : S42)]) (wrap64 (t205 + t204))) else (none)) else (none)) else (none)) else (none)) = some (r1, r2, r3) := by rw [if_neg (show ¬ (false = true) by decide)] at H; exact H
                clear H
                have H := H1
                clear H1
                by_cases c13 : 0 ≤ t205
                · rw [if_pos c13] at H
                  have c13b0 := eq_true c13
                  have c13b1 : decide (0 ≤ t205) = true := decide_eq_true c13
                  clear c13
                  by_cases c14 : t205 ≤ (wrap64 (t205 + t204))
                  · rw [if_pos c14] at H
                    have c14b0 := eq_true c14
                    have c14b1 : decide (t205 ≤ (wrap64 (t205 + t204))) = true := decide_eq_true c14
                    by_cases c15 : (wrap64 (t205 + t204)) ≤ (a0.size : Int)
                    · rw [if_pos c15] at H
                      have c15b0 := eq_true c15
                      have c15b1 : decide ((wrap64 (t205 + t204)) ≤ (a0.size : Int)) = true := decide_eq_true c15
                      by_cases c16 : x5_1.length < 5864062014805
                      · rw [if_pos c16] at H
                        have LMc16 := Aside0.mk c16
                        clear c16
                        obtain ⟨y208, hy208⟩ : ∃ y_ : List (S42), y_ = (x5_1 ++ [(⟨t201, a0.extract (t205 : Int).toNat ((wrap64 (t205 + t204)) : Int).toNat⟩ : S42)]) := ⟨_, rfl⟩
                        replace H : (groatref10_Get.l0 k1 a0 y208 (wrap64 (t205 + t204))) = some (r1, r2, r3) := by first | (rw [hy208]; with_reducible exact H) | (have H2_ := (Option.bind_some _ _).symm.trans H; rw [hy208]; with_reducible exact H2_) | (have H2_ := (Option.bind_some _ _).symm.trans H; with_reducible exact H2_) | with_reducible exact H | (rw [hy208]; exact H) | exact H
                        have Ny208 := Aside0.mk hy208
                        clear hy208
                        have H' := Aside0.mk H
                        clear H
                        go_wp2_with (first | ((with_reducible refine gate_callee (f := 29) rfl ?_); refine goesL_ (some 20) rfl rfl Try.func29 (by kernel_rfl) rfl #[.string a0, .int .i64 x6_1] rfl (by (try simp only [List.map_toArray, List.map_cons, List.map_nil]); first | done | rfl | (simp only [List.length_drop, List.length_take]; rfl)) ?_; (with_reducible refine (groatref08_Get.calls k1 a0 x6_1 t201 t202 t203 _ A5.out).mono ?_); rintro e w' ⟨rfl, ⟨nd, rfl⟩⟩; refine ⟨_, rfl, ?_⟩) | ((with_reducible refine gate_callee (f := 30) rfl ?_); refine goesL_ (some 31) rfl rfl Try.func30 (by kernel_rfl) rfl #[.string a0, .int .i64 t202] rfl (by (try simp only [List.map_toArray, List.map_cons, List.map_nil]); first | done | rfl | (simp only [List.length_drop, List.length_take]; rfl)) ?_; (with_reducible refine (groatref09_Get.calls k1 a0 t202 t204 t205 t206 _ A7.out).mono ?_); rintro e w' ⟨rfl, ⟨nd, rfl⟩⟩; refine ⟨_, rfl, ?_⟩; obtain ⟨Ao17, co17, eo17⟩ := Kd.R_slice HO_5.out; subst eo17) | ((with_reducible refine gate_callee (f := 20) rfl ?_); refine goesL_ (some 51) rfl rfl Try.func20 (by kernel_rfl) rfl #[.slice Ao17 x5_1.length co17, .int .i64 (x5_1.length : Int), .int .i64 t201] rfl (by (try simp only [List.map_toArray, List.map_cons, List.map_nil]); first | done | rfl | (simp only [List.length_drop, List.length_take]; rfl)) ?_; (with_reducible refine (groatref10_has.calls k1 _ _ x5_1 (x5_1.length : Int) t201 false _ ?side1 ?side2 A10.out).mono ?_); (case side1 => repeat (first | exact (Kd.R_reads' HO_5.out).2.2 | (with_reducible refine Kd.C_alloc ?_ _) | (with_reducible refine Kd.C_drewN ?_ _) | (with_reducible refine Kd.C_drew ?_))); (case side2 => exact (Kd.R_reads' HO_5.out).2.1); rintro e w' ⟨rfl, ⟨nd, rfl⟩⟩; refine ⟨_, rfl, ?_⟩) | ((with_reducible refine gate_builtin (b := .append) (xs := #[.tmp 53, .tmp 62]) rfl ?_); at_builtin; refine Kd.R_append k42 (w0 := w) w.heap.size rfl (.tmp 53) (.tmp 62) 22 42 (.agg #[(.int .i64 0), (.string ⟨#[]⟩)]) 24 rfl Try.underlying22 info42 rfl (by decide) (by omega) (.slice Ao17 x5_1.length co17) x5_1 (⟨t201, a0.extract (t205 : Int).toNat ((wrap64 (t205 + t204)) : Int).toNat⟩ : S42) [.int .i64 t201, .string (a0.extract (t205 : Int).toNat ((wrap64 (t205 + t204)) : Int).toNat)] (fun _ => True) (fun _ => False) rfl rfl ?aP (fun _ hk => hk.elim) ?aF ?aO ?aB ?aS ?aL ?_; (case aP => exact k42_mkM _ _ _ (⟨t201, a0.extract (t205 : Int).toNat ((wrap64 (t205 + t204)) : Int).toNat⟩ : S42)); (case aB => exact (by repeat (first | (with_reducible first | exact HB.out | apply below_alloc | apply pw_below_drewN | apply below_drew1) | exact HB.out))); (case aF => exact (fun _ _ => trivial)); (case aO => exact (by (with_reducible repeat (first | apply Kd.R_alloc | apply Kd.R_drewN | apply Kd.R_drew)); exact HO_5.out)); (case aS => exact (below_size (by repeat (first | (with_reducible first | exact HB.out | apply below_alloc | apply pw_below_drewN | apply below_drew1) | exact HB.out)))); (case aL => have := LMc16.out; omega); intro v209 w18 ho hb hg hat; rw [← Ny208.out] at ho; have n0_ := Aside0.mk (hb); have n1_ := Aside0.mk (ho); clear HB; clear HO_5; have HB := n0_; have HO210 := n1_; clear n0_ n1_; clear ho hb hg hat))
                        go_roundg k1
                        case measure => have := HK1.out; omega
                        case rel => exact ⟨(y208), (wrap64 (t205 + t204)), (by first | rfl | (simp; done) | (simp [*]; done)), H', ⟨by have := HK1.out; omega⟩, ⟨by (with_reducible repeat (first | apply Kd.R_alloc | apply Kd.R_drewN | apply Kd.R_drew)); exact HO210.out⟩, ⟨by repeat (first | (with_reducible first | exact HB.out | apply below_alloc | apply pw_below_drewN | apply below_drew1) | exact HB.out)⟩⟩
                      · rw [if_neg c16] at H
                        exact absurd H (by simp)
                    · rw [if_neg c15] at H
                      exact absurd H (by simp)
                  · rw [if_neg c14] at H
                    exact absurd H (by simp)
                · rw [if_neg c13] at H
                  exact absurd H (by simp)
          · rw [if_neg c8] at H
            have c8b0 : (t206 == 0) = false := beq_eq_false_iff_ne.mpr c8
            have c8b1 : (t206 != 0) = true := bne_iff_ne.mpr c8
            simp only [Option.some.injEq, Prod.mk.injEq] at H
            obtain ⟨rfl, rfl, rfl⟩ := H
            go_wp2_with (first | ((with_reducible refine gate_callee (f := 29) rfl ?_); refine goesL_ (some 20) rfl rfl Try.func29 (by kernel_rfl) rfl #[.string a0, .int .i64 x6_1] rfl (by (try simp only [List.map_toArray, List.map_cons, List.map_nil]); first | done | rfl | (simp only [List.length_drop, List.length_take]; rfl)) ?_; (with_reducible refine (groatref08_Get.calls k1 a0 x6_1 t201 t202 t203 _ A5.out).mono ?_); rintro e w' ⟨rfl, ⟨nd, rfl⟩⟩; refine ⟨_, rfl, ?_⟩) | ((with_reducible refine gate_callee (f := 30) rfl ?_); refine goesL_ (some 31) rfl rfl Try.func30 (by kernel_rfl) rfl #[.string a0, .int .i64 t202] rfl (by (try simp only [List.map_toArray, List.map_cons, List.map_nil]); first | done | rfl | (simp only [List.length_drop, List.length_take]; rfl)) ?_; (with_reducible refine (groatref09_Get.calls k1 a0 t202 t204 t205 t206 _ A7.out).mono ?_); rintro e w' ⟨rfl, ⟨nd, rfl⟩⟩; refine ⟨_, rfl, ?_⟩))
            go_ret3
            exact ⟨_, by first | rfl | (simp [errW_none, errW_some] <;> rfl) | (simp [*, errW_none, errW_some] <;> rfl), by first | exact Kd.R_nil _ _ _ _ _ | exact Kd.N_nil _ _ _ _ _ | exact Kd.V_nil _ _ _ _ _ | exact Kd.Q_nil _ _ _ _ _ | exact Kd.S_nil _ _ _ _ _, by repeat (first | (with_reducible first | exact HB.out | apply below_alloc | apply pw_below_drewN | apply below_drew1) | exact HB.out)⟩
        · rw [if_neg c6] at H
          have c6b0 : (t203 == 0) = false := beq_eq_false_iff_ne.mpr c6
          have c6b1 : (t203 != 0) = true := bne_iff_ne.mpr c6
          simp only [Option.some.injEq, Prod.mk.injEq] at H
          obtain ⟨rfl, rfl, rfl⟩ := H
          go_wp2_with (first | ((with_reducible refine gate_callee (f := 29) rfl ?_); refine goesL_ (some 20) rfl rfl Try.func29 (by kernel_rfl) rfl #[.string a0, .int .i64 x6_1] rfl (by (try simp only [List.map_toArray, List.map_cons, List.map_nil]); first | done | rfl | (simp only [List.length_drop, List.length_take]; rfl)) ?_; (with_reducible refine (groatref08_Get.calls k1 a0 x6_1 t201 t202 t203 _ A5.out).mono ?_); rintro e w' ⟨rfl, ⟨nd, rfl⟩⟩; refine ⟨_, rfl, ?_⟩))
          go_ret3
          exact ⟨_, by first | rfl | (simp [errW_none, errW_some] <;> rfl) | (simp [*, errW_none, errW_some] <;> rfl), by first | exact Kd.R_nil _ _ _ _ _ | exact Kd.N_nil _ _ _ _ _ | exact Kd.V_nil _ _ _ _ _ | exact Kd.Q_nil _ _ _ _ _ | exact Kd.S_nil _ _ _ _ _, by repeat (first | (with_reducible first | exact HB.out | apply below_alloc | apply pw_below_drewN | apply below_drew1) | exact HB.out)⟩
      · rw [if_neg c4] at H
        have c4b0 : decide (x6_1 < (a0.size : Int)) = false := decide_eq_false c4
        clear c4
        simp only [Option.some.injEq, Prod.mk.injEq] at H
        obtain ⟨rfl, rfl, rfl⟩ := H
        go_wp2
        go_ret3
        exact ⟨_, by first | rfl | (simp [errW_none, errW_some] <;> rfl) | (simp [*, errW_none, errW_some] <;> rfl), by (with_reducible repeat (first | apply Kd.R_alloc | apply Kd.R_drewN | apply Kd.R_drew)); exact HO_5.out, by repeat (first | (with_reducible first | exact HB.out | apply below_alloc | apply pw_below_drewN | apply below_drew1) | exact HB.out)⟩

/-! ### groatlaw10_TlvGets: function 4 -/
def groatlaw10_TlvGets.j0 : Nat → ByteArray → Bool → Option (Bool)
  | 0, _, _ => none
  | k + 1, x0, x15 => if x15 = true then ((groatlaw10_awake.f k).bind fun t212 => (some t212)) else ((tlv_Get.f k x0).bind fun bt213 => ((groatref10_Get.f k x0).bind fun bt218 => ((groatref10_Same.f k bt213.1 bt218.1).bind fun t223 => (if t223 = true then (if bt213.2.1 = bt218.2.1 then (some (bt213.2.2 == bt218.2.2)) else (none)) else (none)))))
def groatlaw10_TlvGets.f (k : Nat) (a0 : ByteArray) : Option (Bool) := (groatlaw10_awake.f k).bind fun t211 => (if t211 = true then (groatlaw10_TlvGets.j0 k a0 (decide ((a0.size : Int) > 2000))) else (groatlaw10_TlvGets.j0 k a0 true))
theorem groatlaw10_TlvGets.mono_l : ∀ k, (∀ y0 y1, LeO (groatlaw10_TlvGets.j0 k y0 y1) (groatlaw10_TlvGets.j0 (k + 1) y0 y1))
  | 0 => fun _ _ r h => by simp [groatlaw10_TlvGets.j0] at h
  | k + 1 => by
    have ih0 := groatlaw10_TlvGets.mono_l k
    · intro y0 y1
      unfold groatlaw10_TlvGets.j0
      repeat' first
      | (with_reducible exact ih0 _ _)
      | (with_reducible exact groatlaw10_awake.mono _)
      | (with_reducible exact groatref10_Get.mono _ _)
      | (with_reducible exact groatref10_Same.mono _ _ _)
      | (with_reducible exact tlv_Get.mono _ _)
      | (with_reducible exact LeO.refl _)
      | (with_reducible exact LeO.none _)
      | (with_reducible refine LeO.ite ?_ ?_)
      | (with_reducible refine LeO.bind ?_ (fun _ => ?_))
      | exact ih0 _ _
      | exact groatlaw10_awake.mono _
      | exact groatref10_Get.mono _ _
      | exact groatref10_Same.mono _ _ _
      | exact tlv_Get.mono _ _
      | exact LeO.none _
      | refine LeO.ite ?_ ?_
      | refine LeO.bind ?_ (fun _ => ?_)
theorem groatlaw10_TlvGets.mono : ∀ a0 k, LeO (groatlaw10_TlvGets.f k a0) (groatlaw10_TlvGets.f (k + 1) a0) := by
  intro a0 k
  have ih0 := groatlaw10_TlvGets.mono_l k
  unfold groatlaw10_TlvGets.f
  repeat' first
      | (with_reducible exact ih0 _ _)
      | (with_reducible exact groatlaw10_awake.mono _)
      | (with_reducible exact groatref10_Get.mono _ _)
      | (with_reducible exact groatref10_Same.mono _ _ _)
      | (with_reducible exact tlv_Get.mono _ _)
      | (with_reducible exact LeO.refl _)
      | (with_reducible exact LeO.none _)
      | (with_reducible refine LeO.ite ?_ ?_)
      | (with_reducible refine LeO.bind ?_ (fun _ => ?_))
      | exact ih0 _ _
      | exact groatlaw10_awake.mono _
      | exact groatref10_Get.mono _ _
      | exact groatref10_Same.mono _ _ _
      | exact tlv_Get.mono _ _
      | exact LeO.none _
      | refine LeO.ite ?_ ?_
      | refine LeO.bind ?_ (fun _ => ?_)
set_option maxHeartbeats 8000000 in
set_option maxRecDepth 100000 in
theorem groatlaw10_TlvGets.calls (k : Nat) (a0 : ByteArray) (r : Bool) (w : World) (h : groatlaw10_TlvGets.f k a0 = some r) :
    Calls Try.prog 4 #[.string a0] w fun e w' => e = .returned (.bool r) ∧ Below w.heap.size w w' := by
  have HB := Aside0.mk (Below.refl w.heap.size w)
  have H : ((groatlaw10_awake.f k).bind fun t211 => (if t211 = true then (groatlaw10_TlvGets.j0 k a0 (decide ((a0.size : Int) > 2000))) else (groatlaw10_TlvGets.j0 k a0 true))) = some r := h
  clear h
  have HC2 := Aside0.mk H
  clear H
  go_enter Try.func4, Try.ntmps4
  go_upto_region 1 with (fail)
  go_cut [15] (fun v15 wc => ∃ (kq : Nat) (x15_1 : Bool), v15 = .bool x15_1 ∧ Aside0 (groatlaw10_TlvGets.j0 kq a0 x15_1 = some r) ∧ Aside0 (kq ≤ k) ∧ Aside0 (Below w.heap.size w wc))
  case first =>
    have H := HC2.out
    clear HC2
    replace H := Option.bind_eq_some_iff.mp H
    obtain ⟨t211, A30, H⟩ := H
    replace H : (if t211 = true then (groatlaw10_TlvGets.j0 k a0 (decide ((a0.size : Int) > 2000))) else (groatlaw10_TlvGets.j0 k a0 true)) = some r := H
    have A3 := Aside0.mk A30
    clear A30
    by_cases c4 : t211 = true
    · subst c4
      have H1 : (groatlaw10_TlvGets.j0 k a0 (decide ((a0.size : Int) > 2000))) = some r := by rw [if_pos rfl] at H; exact H
      clear H
      have H := H1
      clear H1
      have H' := Aside0.mk H
      clear H
      go_wp2_with (first | ((with_reducible refine gate_callee (f := 8) rfl ?_); refine goesL_ (some 9) rfl rfl Try.func8 (by kernel_rfl) rfl #[] rfl (by (try simp only [List.map_toArray, List.map_cons, List.map_nil]); first | done | rfl | (simp only [List.length_drop, List.length_take]; rfl)) ?_; (with_reducible refine (groatlaw10_awake.calls k  true _ A3.out).mono ?_); rintro e w5 ⟨rfl, hb⟩; refine ⟨_, rfl, ?_⟩; have n0_ := Aside0.mk (below_step (by repeat (first | (with_reducible first | exact HB.out | apply below_alloc | apply pw_below_drewN | apply below_drew1) | exact HB.out)) hb); clear HB; have HB := n0_; clear n0_; (try clear hb); (try clear hb2); (try clear hk); (try clear hi)))
      go_meet
      case rel => exact ⟨_, (decide ((a0.size : Int) > 2000)), (by first | rfl | (simp; done) | (simp [*]; done)), H', ⟨by first | omega | exact Nat.le_refl _⟩, ⟨by repeat (first | (with_reducible first | exact HB.out | apply below_alloc | apply pw_below_drewN | apply below_drew1) | exact HB.out)⟩⟩
    · replace c4 := Bool.eq_false_iff.mpr c4
      subst c4
      have H1 : (groatlaw10_TlvGets.j0 k a0 true) = some r := by rw [if_neg (show ¬ (false = true) by decide)] at H; exact H
      clear H
      have H := H1
      clear H1
      have H' := Aside0.mk H
      clear H
      go_wp2_with (first | ((with_reducible refine gate_callee (f := 8) rfl ?_); refine goesL_ (some 9) rfl rfl Try.func8 (by kernel_rfl) rfl #[] rfl (by (try simp only [List.map_toArray, List.map_cons, List.map_nil]); first | done | rfl | (simp only [List.length_drop, List.length_take]; rfl)) ?_; (with_reducible refine (groatlaw10_awake.calls k  false _ A3.out).mono ?_); rintro e w6 ⟨rfl, hb⟩; refine ⟨_, rfl, ?_⟩; have n0_ := Aside0.mk (below_step (by repeat (first | (with_reducible first | exact HB.out | apply below_alloc | apply pw_below_drewN | apply below_drew1) | exact HB.out)) hb); clear HB; have HB := n0_; clear n0_; (try clear hb); (try clear hb2); (try clear hk); (try clear hi)))
      go_meet
      case rel => exact ⟨_, (true), (by first | rfl | (simp; done) | (simp [*]; done)), H', ⟨by first | omega | exact Nat.le_refl _⟩, ⟨by repeat (first | (with_reducible first | exact HB.out | apply below_alloc | apply pw_below_drewN | apply below_drew1) | exact HB.out)⟩⟩
  case rest =>
    clear HC2
    try clear p2
    try clear c4
    obtain ⟨kq, x15_1, rfl, HA, HJ1, HB⟩ := hcut
    cases kq with
    | zero => exact absurd HA.out (by simp [groatlaw10_TlvGets.j0])
    | succ kj1 =>
      have H := HA.out
      clear HA
      simp only [groatlaw10_TlvGets.j0] at H
      by_cases c7 : x15_1 = true
      · subst c7
        have H1 : ((groatlaw10_awake.f kj1).bind fun t212 => (some t212)) = some r := by rw [if_pos rfl] at H; exact H
        clear H
        have H := H1
        clear H1
        replace H := Option.bind_eq_some_iff.mp H
        obtain ⟨t212, A80, H⟩ := H
        replace H : (some t212) = some r := H
        have A8 := Aside0.mk A80
        clear A80
        obtain rfl := Option.some.inj H
        go_wp2_with (first | ((with_reducible refine gate_callee (f := 8) rfl ?_); refine goesL_ (some 16) rfl rfl Try.func8 (by kernel_rfl) rfl #[] rfl (by (try simp only [List.map_toArray, List.map_cons, List.map_nil]); first | done | rfl | (simp only [List.length_drop, List.length_take]; rfl)) ?_; (with_reducible refine (groatlaw10_awake.calls kj1  t212 _ A8.out).mono ?_); rintro e w9 ⟨rfl, hb⟩; refine ⟨_, rfl, ?_⟩; have n0_ := Aside0.mk (below_step (by repeat (first | (with_reducible first | exact HB.out | apply below_alloc | apply pw_below_drewN | apply below_drew1) | exact HB.out)) hb); clear HB; have HB := n0_; clear n0_; (try clear hb); (try clear hb2); (try clear hk); (try clear hi)))
        go_ret
        exact ⟨by first | rfl | (simp [errW_none, errW_some] <;> rfl) | (simp [*, errW_none, errW_some] <;> rfl), by repeat (first | (with_reducible first | exact HB.out | apply below_alloc | apply pw_below_drewN | apply below_drew1) | exact HB.out)⟩
      · replace c7 := Bool.eq_false_iff.mpr c7
        subst c7
        have H1 : ((tlv_Get.f kj1 a0).bind fun bt213 => ((groatref10_Get.f kj1 a0).bind fun bt218 => ((groatref10_Same.f kj1 bt213.1 bt218.1).bind fun t223 => (if t223 = true then (if bt213.2.1 = bt218.2.1 then (some (bt213.2.2 == bt218.2.2)) else (none)) else (none))))) = some r := by rw [if_neg (show ¬ (false = true) by decide)] at H; exact H
        clear H
        have H := H1
        clear H1
        replace H := Option.bind_eq_some_iff.mp H
        obtain ⟨⟨t213, t214, t215⟩, A100, H⟩ := H
        replace H : ((groatref10_Get.f kj1 a0).bind fun bt218 => ((groatref10_Same.f kj1 t213 bt218.1).bind fun t223 => (if t223 = true then (if t214 = bt218.2.1 then (some (t215 == bt218.2.2)) else (none)) else (none)))) = some r := H
        have A10 := Aside0.mk A100
        clear A100
        replace H := Option.bind_eq_some_iff.mp H
        obtain ⟨⟨t218, t219, t220⟩, A110, H⟩ := H
        replace H : ((groatref10_Same.f kj1 t213 t218).bind fun t223 => (if t223 = true then (if t214 = t219 then (some (t215 == t220)) else (none)) else (none))) = some r := H
        have A11 := Aside0.mk A110
        clear A110
        replace H := Option.bind_eq_some_iff.mp H
        obtain ⟨t223, A120, H⟩ := H
        replace H : (if t223 = true then (if t214 = t219 then (some (t215 == t220)) else (none)) else (none)) = some r := H
        have A12 := Aside0.mk A120
        clear A120
        by_cases c13 : t223 = true
        · subst c13
          have H1 : (if t214 = t219 then (some (t215 == t220)) else (none)) = some r := by rw [if_pos rfl] at H; exact H
          clear H
          have H := H1
          clear H1
          by_cases c14 : t214 = t219
          · rw [if_pos c14] at H
            have c14b0 : (t214 == t219) = true := beq_iff_eq.mpr c14
            have c14b1 : (t214 != t219) = false := bne_eq_false_iff_eq.mpr c14
            clear c14
            obtain rfl := Option.some.inj H
            go_wp2_with (first | ((with_reducible refine gate_callee (f := 14) rfl ?_); refine goesL_ (some 19) rfl rfl Try.func14 (by kernel_rfl) rfl #[.string a0] rfl (by (try simp only [List.map_toArray, List.map_cons, List.map_nil]); first | done | rfl | (simp only [List.length_drop, List.length_take]; rfl)) ?_; (with_reducible refine (tlv_Get.calls kj1 a0 t213 t214 t215 _ A10.out).mono ?_); rintro e w15 ⟨v216, rfl, ho0, hb⟩; refine ⟨_, rfl, ?_⟩; have n0_ := Aside0.mk (Kd.R_lower ho0 (below_size (by repeat (first | (with_reducible first | exact HB.out | apply below_alloc | apply pw_below_drewN | apply below_drew1) | exact HB.out)))); have n1_ := Aside0.mk (below_step (by repeat (first | (with_reducible first | exact HB.out | apply below_alloc | apply pw_below_drewN | apply below_drew1) | exact HB.out)) hb); clear HB; have HO217 := n0_; have HB := n1_; clear n0_ n1_; (try clear hb); (try clear hb2); (try clear hk); (try clear hi); (try clear ho0)) | ((with_reducible refine gate_callee (f := 15) rfl ?_); refine goesL_ (some 25) rfl rfl Try.func15 (by kernel_rfl) rfl #[.string a0] rfl (by (try simp only [List.map_toArray, List.map_cons, List.map_nil]); first | done | rfl | (simp only [List.length_drop, List.length_take]; rfl)) ?_; (with_reducible refine (groatref10_Get.calls kj1 a0 t218 t219 t220 _ A11.out).mono ?_); rintro e w16 ⟨v221, rfl, ho0, hb⟩; refine ⟨_, rfl, ?_⟩; have n0_ := Aside0.mk (Kd.R_elder' (by (with_reducible repeat (first | apply Kd.R_alloc | apply Kd.R_drewN | apply Kd.R_drew)); exact HO217.out) (Kd.R_base ho0) hb); have n1_ := Aside0.mk (Kd.R_lower (Kd.R_new' ho0 (Kd.R_lt (by (with_reducible repeat (first | apply Kd.R_alloc | apply Kd.R_drewN | apply Kd.R_drew)); exact HO217.out))) (below_size (by repeat (first | (with_reducible first | exact HB.out | apply below_alloc | apply pw_below_drewN | apply below_drew1) | exact HB.out)))); have n2_ := Aside0.mk (below_step (by repeat (first | (with_reducible first | exact HB.out | apply below_alloc | apply pw_below_drewN | apply below_drew1) | exact HB.out)) hb); clear HO217; clear HB; have HO217 := n0_; have HO222 := n1_; have HB := n2_; clear n0_ n1_ n2_; (try clear hb); (try clear hb2); (try clear hk); (try clear hi); (try clear ho0); obtain ⟨Ao17, co17, eo17⟩ := Kd.R_slice HO217.out; subst eo17; obtain ⟨Ao18, co18, eo18⟩ := Kd.R_slice HO222.out; subst eo18) | ((with_reducible refine gate_callee (f := 16) rfl ?_); refine goesL_ (some 31) rfl rfl Try.func16 (by kernel_rfl) rfl #[.slice Ao17 t213.length co17, .slice Ao18 t218.length co18] rfl (by (try simp only [List.map_toArray, List.map_cons, List.map_nil]); first | done | rfl | (simp only [List.length_drop, List.length_take]; rfl)) ?_; (with_reducible refine (groatref10_Same.calls kj1 _ _ t213 _ _ t218 true _ ?side1 ?side2 ?side3 ?side4 A12.out).mono ?_); (case side1 => repeat (first | exact (Kd.R_reads' HO217.out).2.2 | (with_reducible refine Kd.C_alloc ?_ _) | (with_reducible refine Kd.C_drewN ?_ _) | (with_reducible refine Kd.C_drew ?_))); (case side2 => exact (Kd.R_reads' HO217.out).2.1); (case side3 => repeat (first | exact (Kd.R_reads' HO222.out).2.2 | (with_reducible refine Kd.C_alloc ?_ _) | (with_reducible refine Kd.C_drewN ?_ _) | (with_reducible refine Kd.C_drew ?_))); (case side4 => exact (Kd.R_reads' HO222.out).2.1); rintro e w' ⟨rfl, ⟨nd, rfl⟩⟩; refine ⟨_, rfl, ?_⟩))
            go_ret
            exact ⟨by first | rfl | (simp [errW_none, errW_some] <;> rfl) | (simp [*, errW_none, errW_some] <;> rfl), by repeat (first | (with_reducible first | exact HB.out | apply below_alloc | apply pw_below_drewN | apply below_drew1) | exact HB.out)⟩
          · rw [if_neg c14] at H
            exact absurd H (by simp)
        · replace c13 := Bool.eq_false_iff.mpr c13
          subst c13
          have H1 : (none) = some r := by rw [if_neg (show ¬ (false = true) by decide)] at H; exact H
          clear H
          have H := H1
          clear H1
          exact absurd H (by simp)

/-- THE ONE PURE STATEMENT of groatlaw10_TlvGets: yours. -/
def groatlaw10_TlvGets.Pure : Prop := ∀ (a0 : ByteArray), a0.size ≤ 140737488351232 → ∃ k, groatlaw10_TlvGets.f k a0 = some true
theorem groatlaw10_TlvGets.walk (P : groatlaw10_TlvGets.Pure) (a0 : ByteArray) (w : World) (w0 : a0.size ≤ 140737488351232) :
    Calls Try.prog 4 #[.string a0] w fun e w' => e = .returned (.bool true) ∧ Below w.heap.size w w' := by
  obtain ⟨k, h⟩ := P a0 w0
  refine (groatlaw10_TlvGets.calls k a0 true w h).mono ?_
  rintro e w' ⟨rfl, hd⟩
  exact ⟨rfl, hd⟩

/-! ### groatlaw10_TlvBack: function 5 -/
def groatlaw10_TlvBack.j0 : Nat → List (S42) → Bool → Option (Bool)
  | 0, _, _ => none
  | k + 1, x0, x13 => if x13 = true then ((groatlaw10_awake.f k).bind fun t226 => (some t226)) else ((some (([] : List (S42)) : List (S42))).bind fun y227 => (if y227.length + x0.length < 5864062014805 then ((tlv_Put.f k (y227 ++ x0)).bind fun bt233 => (if bt233.2 = 0 then ((tlv_Get.f k bt233.1).bind fun bt235 => (if bt235.2.1 = 0 then (if bt235.2.2 = 0 then ((groatref10_Same.f k x0 bt235.1).bind fun t240 => (some t240)) else (none)) else (none))) else (some (bt233.1.toList == ([] : List UInt8))))) else (none)))
def groatlaw10_TlvBack.f (k : Nat) (l0 : List (S42)) : Option (Bool) := (groatlaw10_awake.f k).bind fun t224 => (if t224 = true then ((groatlaw10_great.f k l0).bind fun t225 => (groatlaw10_TlvBack.j0 k l0 t225)) else (groatlaw10_TlvBack.j0 k l0 true))
theorem groatlaw10_TlvBack.mono_l : ∀ k, (∀ y0 y1, LeO (groatlaw10_TlvBack.j0 k y0 y1) (groatlaw10_TlvBack.j0 (k + 1) y0 y1))
  | 0 => fun _ _ r h => by simp [groatlaw10_TlvBack.j0] at h
  | k + 1 => by
    have ih0 := groatlaw10_TlvBack.mono_l k
    · intro y0 y1
      unfold groatlaw10_TlvBack.j0
      repeat' first
      | (with_reducible exact ih0 _ _)
      | (with_reducible exact groatlaw10_awake.mono _)
      | (with_reducible exact groatlaw10_great.mono _ _)
      | (with_reducible exact groatref10_Same.mono _ _ _)
      | (with_reducible exact tlv_Get.mono _ _)
      | (with_reducible exact tlv_Put.mono _ _)
      | (with_reducible exact LeO.refl _)
      | (with_reducible exact LeO.none _)
      | (with_reducible refine LeO.ite ?_ ?_)
      | (with_reducible refine LeO.bind ?_ (fun _ => ?_))
      | exact ih0 _ _
      | exact groatlaw10_awake.mono _
      | exact groatlaw10_great.mono _ _
      | exact groatref10_Same.mono _ _ _
      | exact tlv_Get.mono _ _
      | exact tlv_Put.mono _ _
      | exact LeO.none _
      | refine LeO.ite ?_ ?_
      | refine LeO.bind ?_ (fun _ => ?_)
theorem groatlaw10_TlvBack.mono : ∀ a0 k, LeO (groatlaw10_TlvBack.f k a0) (groatlaw10_TlvBack.f (k + 1) a0) := by
  intro a0 k
  have ih0 := groatlaw10_TlvBack.mono_l k
  unfold groatlaw10_TlvBack.f
  repeat' first
      | (with_reducible exact ih0 _ _)
      | (with_reducible exact groatlaw10_awake.mono _)
      | (with_reducible exact groatlaw10_great.mono _ _)
      | (with_reducible exact groatref10_Same.mono _ _ _)
      | (with_reducible exact tlv_Get.mono _ _)
      | (with_reducible exact tlv_Put.mono _ _)
      | (with_reducible exact LeO.refl _)
      | (with_reducible exact LeO.none _)
      | (with_reducible refine LeO.ite ?_ ?_)
      | (with_reducible refine LeO.bind ?_ (fun _ => ?_))
      | exact ih0 _ _
      | exact groatlaw10_awake.mono _
      | exact groatlaw10_great.mono _ _
      | exact groatref10_Same.mono _ _ _
      | exact tlv_Get.mono _ _
      | exact tlv_Put.mono _ _
      | exact LeO.none _
      | refine LeO.ite ?_ ?_
      | refine LeO.bind ?_ (fun _ => ?_)
set_option maxHeartbeats 8000000 in
set_option maxRecDepth 100000 in
theorem groatlaw10_TlvBack.calls (k : Nat) (A0 : Option Addr) (c0 : Nat) (l0 : List (S42)) (r : Bool) (w : World) (hr0 : Kd.C k42 w A0 l0.length l0) (hc0 : l0.length ≤ c0) (h : groatlaw10_TlvBack.f k l0 = some r) :
    Calls Try.prog 5 #[.slice A0 l0.length c0] w fun e w' => e = .returned (.bool r) ∧ Below w.heap.size w w' := by
  have HR0 := Aside0.mk hr0
  have HC0 := Aside0.mk hc0
  clear hr0 hc0
  have HB := Aside0.mk (Below.refl w.heap.size w)
  have H : ((groatlaw10_awake.f k).bind fun t224 => (if t224 = true then ((groatlaw10_great.f k l0).bind fun t225 => (groatlaw10_TlvBack.j0 k l0 t225)) else (groatlaw10_TlvBack.j0 k l0 true))) = some r := h
  clear h
  have HC2 := Aside0.mk H
  clear H
  go_enter Try.func5, Try.ntmps5
  go_upto_region 1 with (fail)
  go_cut [13] (fun v13 wc => ∃ (kq : Nat) (x13_1 : Bool), v13 = .bool x13_1 ∧ Aside0 (groatlaw10_TlvBack.j0 kq l0 x13_1 = some r) ∧ Aside0 (kq ≤ k) ∧ Aside0 (Below w.heap.size w wc))
  case first =>
    have H := HC2.out
    clear HC2
    replace H := Option.bind_eq_some_iff.mp H
    obtain ⟨t224, A30, H⟩ := H
    replace H : (if t224 = true then ((groatlaw10_great.f k l0).bind fun t225 => (groatlaw10_TlvBack.j0 k l0 t225)) else (groatlaw10_TlvBack.j0 k l0 true)) = some r := H
    have A3 := Aside0.mk A30
    clear A30
    by_cases c4 : t224 = true
    · subst c4
      have H1 : ((groatlaw10_great.f k l0).bind fun t225 => (groatlaw10_TlvBack.j0 k l0 t225)) = some r := by rw [if_pos rfl] at H; exact H
      clear H
      have H := H1
      clear H1
      replace H := Option.bind_eq_some_iff.mp H
      obtain ⟨t225, A50, H⟩ := H
      replace H : (groatlaw10_TlvBack.j0 k l0 t225) = some r := H
      have A5 := Aside0.mk A50
      clear A50
      have H' := Aside0.mk H
      clear H
      go_wp2_with (first | ((with_reducible refine gate_callee (f := 8) rfl ?_); refine goesL_ (some 8) rfl rfl Try.func8 (by kernel_rfl) rfl #[] rfl (by (try simp only [List.map_toArray, List.map_cons, List.map_nil]); first | done | rfl | (simp only [List.length_drop, List.length_take]; rfl)) ?_; (with_reducible refine (groatlaw10_awake.calls k  true _ A3.out).mono ?_); rintro e w6 ⟨rfl, hb⟩; refine ⟨_, rfl, ?_⟩; have n0_ := Aside0.mk (below_step (by repeat (first | (with_reducible first | exact HB.out | apply below_alloc | apply pw_below_drewN | apply below_drew1) | exact HB.out)) hb); clear HB; have HB := n0_; clear n0_; (try clear hb); (try clear hb2); (try clear hk); (try clear hi)) | (go_at_call 9; (with_reducible refine (groatlaw10_great.calls k _ _ l0 t225 _ ?side1 ?side2 A5.out).mono ?_); (case side1 => repeat (first | exact (Kd.C_below HR0.out HB.out) | (with_reducible refine Kd.C_alloc ?_ _) | (with_reducible refine Kd.C_drewN ?_ _) | (with_reducible refine Kd.C_drew ?_))); (case side2 => exact HC0.out); rintro e w7 ⟨rfl, hb⟩; have n0_ := Aside0.mk (below_step (by repeat (first | (with_reducible first | exact HB.out | apply below_alloc | apply pw_below_drewN | apply below_drew1) | exact HB.out)) hb); clear HB; have HB := n0_; clear n0_; (try clear hb); (try clear hb2); (try clear hk); (try clear hi)))
      go_meet
      case rel => exact ⟨_, (t225), (by first | rfl | (simp; done) | (simp [*]; done)), H', ⟨by first | omega | exact Nat.le_refl _⟩, ⟨by repeat (first | (with_reducible first | exact HB.out | apply below_alloc | apply pw_below_drewN | apply below_drew1) | exact HB.out)⟩⟩
    · replace c4 := Bool.eq_false_iff.mpr c4
      subst c4
      have H1 : (groatlaw10_TlvBack.j0 k l0 true) = some r := by rw [if_neg (show ¬ (false = true) by decide)] at H; exact H
      clear H
      have H := H1
      clear H1
      have H' := Aside0.mk H
      clear H
      go_wp2_with (first | ((with_reducible refine gate_callee (f := 8) rfl ?_); refine goesL_ (some 8) rfl rfl Try.func8 (by kernel_rfl) rfl #[] rfl (by (try simp only [List.map_toArray, List.map_cons, List.map_nil]); first | done | rfl | (simp only [List.length_drop, List.length_take]; rfl)) ?_; (with_reducible refine (groatlaw10_awake.calls k  false _ A3.out).mono ?_); rintro e w8 ⟨rfl, hb⟩; refine ⟨_, rfl, ?_⟩; have n0_ := Aside0.mk (below_step (by repeat (first | (with_reducible first | exact HB.out | apply below_alloc | apply pw_below_drewN | apply below_drew1) | exact HB.out)) hb); clear HB; have HB := n0_; clear n0_; (try clear hb); (try clear hb2); (try clear hk); (try clear hi)))
      go_meet
      case rel => exact ⟨_, (true), (by first | rfl | (simp; done) | (simp [*]; done)), H', ⟨by first | omega | exact Nat.le_refl _⟩, ⟨by repeat (first | (with_reducible first | exact HB.out | apply below_alloc | apply pw_below_drewN | apply below_drew1) | exact HB.out)⟩⟩
  case rest =>
    clear HC2
    try clear p2
    try clear c4
    try clear c5
    try clear c8
    obtain ⟨kq, x13_1, rfl, HA, HJ1, HB⟩ := hcut
    cases kq with
    | zero => exact absurd HA.out (by simp [groatlaw10_TlvBack.j0])
    | succ kj1 =>
      have H := HA.out
      clear HA
      simp only [groatlaw10_TlvBack.j0] at H
      by_cases c9 : x13_1 = true
      · subst c9
        have H1 : ((groatlaw10_awake.f kj1).bind fun t226 => (some t226)) = some r := by rw [if_pos rfl] at H; exact H
        clear H
        have H := H1
        clear H1
        replace H := Option.bind_eq_some_iff.mp H
        obtain ⟨t226, A100, H⟩ := H
        replace H : (some t226) = some r := H
        have A10 := Aside0.mk A100
        clear A100
        obtain rfl := Option.some.inj H
        go_wp2_with (first | ((with_reducible refine gate_callee (f := 8) rfl ?_); refine goesL_ (some 14) rfl rfl Try.func8 (by kernel_rfl) rfl #[] rfl (by (try simp only [List.map_toArray, List.map_cons, List.map_nil]); first | done | rfl | (simp only [List.length_drop, List.length_take]; rfl)) ?_; (with_reducible refine (groatlaw10_awake.calls kj1  t226 _ A10.out).mono ?_); rintro e w11 ⟨rfl, hb⟩; refine ⟨_, rfl, ?_⟩; have n0_ := Aside0.mk (below_step (by repeat (first | (with_reducible first | exact HB.out | apply below_alloc | apply pw_below_drewN | apply below_drew1) | exact HB.out)) hb); clear HB; have HB := n0_; clear n0_; (try clear hb); (try clear hb2); (try clear hk); (try clear hi)))
        go_ret
        exact ⟨by first | rfl | (simp [errW_none, errW_some] <;> rfl) | (simp [*, errW_none, errW_some] <;> rfl), by repeat (first | (with_reducible first | exact HB.out | apply below_alloc | apply pw_below_drewN | apply below_drew1) | exact HB.out)⟩
      · replace c9 := Bool.eq_false_iff.mpr c9
        subst c9
        have H1 : ((some (([] : List (S42)) : List (S42))).bind fun y227 => (if y227.length + l0.length < 5864062014805 then ((tlv_Put.f kj1 (y227 ++ l0)).bind fun bt233 => (if bt233.2 = 0 then ((tlv_Get.f kj1 bt233.1).bind fun bt235 => (if bt235.2.1 = 0 then (if bt235.2.2 = 0 then ((groatref10_Same.f kj1 l0 bt235.1).bind fun t240 => (some t240)) else (none)) else (none))) else (some (bt233.1.toList == ([] : List UInt8))))) else (none))) = some r := by rw [if_neg (show ¬ (false = true) by decide)] at H; exact H
        clear H
        have H := H1
        clear H1
        obtain ⟨y227, hy227⟩ : ∃ y_ : List (S42), y_ = (([] : List (S42))) := ⟨_, rfl⟩
        replace H : (if y227.length + l0.length < 5864062014805 then ((tlv_Put.f kj1 (y227 ++ l0)).bind fun bt233 => (if bt233.2 = 0 then ((tlv_Get.f kj1 bt233.1).bind fun bt235 => (if bt235.2.1 = 0 then (if bt235.2.2 = 0 then ((groatref10_Same.f kj1 l0 bt235.1).bind fun t240 => (some t240)) else (none)) else (none))) else (some (bt233.1.toList == ([] : List UInt8))))) else (none)) = some r := by first | (rw [hy227]; with_reducible exact H) | (have H2_ := (Option.bind_some _ _).symm.trans H; rw [hy227]; with_reducible exact H2_) | (have H2_ := (Option.bind_some _ _).symm.trans H; with_reducible exact H2_) | with_reducible exact H | (rw [hy227]; exact H) | exact H
        have Ny227 := Aside0.mk hy227
        clear hy227
        by_cases c12 : y227.length + l0.length < 5864062014805
        · rw [if_pos c12] at H
          have LMc12 := Aside0.mk c12
          clear c12
          obtain ⟨y230, hy230⟩ : ∃ y_ : List (S42), y_ = (y227 ++ l0) := ⟨_, rfl⟩
          replace H : ((tlv_Put.f kj1 y230).bind fun bt233 => (if bt233.2 = 0 then ((tlv_Get.f kj1 bt233.1).bind fun bt235 => (if bt235.2.1 = 0 then (if bt235.2.2 = 0 then ((groatref10_Same.f kj1 l0 bt235.1).bind fun t240 => (some t240)) else (none)) else (none))) else (some (bt233.1.toList == ([] : List UInt8))))) = some r := by first | (rw [hy230]; with_reducible exact H) | (have H2_ := (Option.bind_some _ _).symm.trans H; rw [hy230]; with_reducible exact H2_) | (have H2_ := (Option.bind_some _ _).symm.trans H; with_reducible exact H2_) | with_reducible exact H | (rw [hy230]; exact H) | exact H
          have Ny230 := Aside0.mk hy230
          clear hy230
          replace H := Option.bind_eq_some_iff.mp H
          obtain ⟨⟨t233, t234⟩, A130, H⟩ := H
          replace H : (if t234 = 0 then ((tlv_Get.f kj1 t233).bind fun bt235 => (if bt235.2.1 = 0 then (if bt235.2.2 = 0 then ((groatref10_Same.f kj1 l0 bt235.1).bind fun t240 => (some t240)) else (none)) else (none))) else (some (t233.toList == ([] : List UInt8)))) = some r := H
          have A13 := Aside0.mk A130
          clear A130
          by_cases c14 : t234 = 0
          · rw [if_pos c14] at H
            have c14b0 : (t234 == 0) = true := beq_iff_eq.mpr c14
            have c14b1 : (t234 != 0) = false := bne_eq_false_iff_eq.mpr c14
            clear c14
            replace H := Option.bind_eq_some_iff.mp H
            obtain ⟨⟨t235, t236, t237⟩, A150, H⟩ := H
            replace H : (if t236 = 0 then (if t237 = 0 then ((groatref10_Same.f kj1 l0 t235).bind fun t240 => (some t240)) else (none)) else (none)) = some r := H
            have A15 := Aside0.mk A150
            clear A150
            by_cases c16 : t236 = 0
            · rw [if_pos c16] at H
              have c16b0 : (t236 == 0) = true := beq_iff_eq.mpr c16
              have c16b1 : (t236 != 0) = false := bne_eq_false_iff_eq.mpr c16
              clear c16
              by_cases c17 : t237 = 0
              · rw [if_pos c17] at H
                have c17b0 : (t237 == 0) = true := beq_iff_eq.mpr c17
                have c17b1 : (t237 != 0) = false := bne_eq_false_iff_eq.mpr c17
                clear c17
                replace H := Option.bind_eq_some_iff.mp H
                obtain ⟨t240, A180, H⟩ := H
                replace H : (some t240) = some r := H
                have A18 := Aside0.mk A180
                clear A180
                obtain rfl := Option.some.inj H
                go_wp2_with (first | ((with_reducible refine gate_dst (N := 16) rfl ?_); refine Kd.R_lit k42 _ 42 ?hg (N := 16) ?hd (xs := ([] : List (S42))) (inner := []) (ok := fun _ => True) (okp := fun _ => True) ?hr ?hp (fun _ hk => hk) trivial (Below.refl _ _) (Nat.le_refl _) (by simp) ?_; (case hd => rfl); (case hg => rfl); (case hr => first | (go_simp; done) | (go_simp; rfl)); (case hp => exact (Reps.none _ _)); intro v228 w19 ho20 hb hg_ hnew_; clear hg_ hnew_; (first | rw [← Ny227.out] at ho20 | (simp only [Int.reduceToNat] at ho20; rw [← Ny227.out] at ho20)); have n0_ := Aside0.mk (Kd.R_lower ho20 (below_size (by repeat (first | (with_reducible first | exact HB.out | apply below_alloc | apply pw_below_drewN | apply below_drew1) | exact HB.out)))); have n1_ := Aside0.mk (below_step (by repeat (first | (with_reducible first | exact HB.out | apply below_alloc | apply pw_below_drewN | apply below_drew1) | exact HB.out)) hb); clear HB; have HO229 := n0_; have HB := n1_; clear n0_ n1_; clear hb ho20) | ((with_reducible refine gate_builtin (b := .append) (xs := #[.tmp 16, .tmp 17]) rfl ?_); at_builtin; refine Kd.R_append_rows k42 (w0 := w) w.heap.size rfl (.tmp 16) (.tmp 17) 22 42 (.agg #[(.int .i64 0), (.string ⟨#[]⟩)]) 24 rfl Try.underlying22 info42 rfl (by decide) (by omega) v228 y227 l0 _ _ _ (fun _ => True) (fun _ => False) rfl rfl ?aO ?aR (fun _ _ h => h) (fun _ h => h.elim) ?aF ?aB ?aS ?aL ?_; (case aR => repeat (first | exact (Kd.C_below HR0.out HB.out) | (with_reducible refine Kd.C_alloc ?_ _) | (with_reducible refine Kd.C_drewN ?_ _) | (with_reducible refine Kd.C_drew ?_))); (case aB => exact (by repeat (first | (with_reducible first | exact HB.out | apply below_alloc | apply pw_below_drewN | apply below_drew1) | exact HB.out))); (case aF => exact (fun _ _ => trivial)); (case aO => exact (by (with_reducible repeat (first | apply Kd.R_alloc | apply Kd.R_drewN | apply Kd.R_drew)); exact HO229.out)); (case aS => exact (below_size (by repeat (first | (with_reducible first | exact HB.out | apply below_alloc | apply pw_below_drewN | apply below_drew1) | exact HB.out)))); (case aL => have := LMc12.out; omega); intro v231 w21 ho hb hg hat; rw [← Ny230.out] at ho; have n0_ := Aside0.mk (hb); have n1_ := Aside0.mk (ho); clear HB; clear HO229; have HB := n0_; have HO232 := n1_; clear n0_ n1_; clear ho hb hg hat; obtain ⟨Ao22, co22, eo22⟩ := Kd.R_slice HO232.out; subst eo22) | ((with_reducible refine gate_callee (f := 12) rfl ?_); refine goesL_ (some 19) rfl rfl Try.func12 (by kernel_rfl) rfl #[.slice Ao22 y230.length co22] rfl (by (try simp only [List.map_toArray, List.map_cons, List.map_nil]); first | done | rfl | (simp only [List.length_drop, List.length_take]; rfl)) ?_; (with_reducible refine (tlv_Put.calls kj1 _ _ y230 t233 t234 _ ?side1 ?side2 A13.out).mono ?_); (case side1 => repeat (first | exact (Kd.R_reads' HO232.out).2.2 | (with_reducible refine Kd.C_alloc ?_ _) | (with_reducible refine Kd.C_drewN ?_ _) | (with_reducible refine Kd.C_drew ?_))); (case side2 => exact (Kd.R_reads' HO232.out).2.1); rintro e w23 ⟨rfl, hb⟩; refine ⟨_, rfl, ?_⟩; have n0_ := Aside0.mk (Kd.R_below (by (with_reducible repeat (first | apply Kd.R_alloc | apply Kd.R_drewN | apply Kd.R_drew)); exact HO232.out) hb); have n1_ := Aside0.mk (below_step (by repeat (first | (with_reducible first | exact HB.out | apply below_alloc | apply pw_below_drewN | apply below_drew1) | exact HB.out)) hb); clear HO232; clear HB; have HO232 := n0_; have HB := n1_; clear n0_ n1_; (try clear hb); (try clear hb2); (try clear hk); (try clear hi)) | ((with_reducible refine gate_callee (f := 14) rfl ?_); refine goesL_ (some 28) rfl rfl Try.func14 (by kernel_rfl) rfl #[.string t233] rfl (by (try simp only [List.map_toArray, List.map_cons, List.map_nil]); first | done | rfl | (simp only [List.length_drop, List.length_take]; rfl)) ?_; (with_reducible refine (tlv_Get.calls kj1 t233 t235 t236 t237 _ A15.out).mono ?_); rintro e w24 ⟨v238, rfl, ho0, hb⟩; refine ⟨_, rfl, ?_⟩; have n0_ := Aside0.mk (Kd.R_elder' (by (with_reducible repeat (first | apply Kd.R_alloc | apply Kd.R_drewN | apply Kd.R_drew)); exact HO232.out) (Kd.R_base ho0) hb); have n1_ := Aside0.mk (Kd.R_lower (Kd.R_new' ho0 (Kd.R_lt (by (with_reducible repeat (first | apply Kd.R_alloc | apply Kd.R_drewN | apply Kd.R_drew)); exact HO232.out))) (below_size (by repeat (first | (with_reducible first | exact HB.out | apply below_alloc | apply pw_below_drewN | apply below_drew1) | exact HB.out)))); have n2_ := Aside0.mk (below_step (by repeat (first | (with_reducible first | exact HB.out | apply below_alloc | apply pw_below_drewN | apply below_drew1) | exact HB.out)) hb); clear HO232; clear HB; have HO232 := n0_; have HO239 := n1_; have HB := n2_; clear n0_ n1_ n2_; (try clear hb); (try clear hb2); (try clear hk); (try clear hi); (try clear ho0); obtain ⟨Ao25, co25, eo25⟩ := Kd.R_slice HO239.out; subst eo25) | (go_at_call 16; (with_reducible refine (groatref10_Same.calls kj1 _ _ l0 _ _ t235 t240 _ ?side1 ?side2 ?side3 ?side4 A18.out).mono ?_); (case side1 => repeat (first | exact (Kd.C_below HR0.out HB.out) | (with_reducible refine Kd.C_alloc ?_ _) | (with_reducible refine Kd.C_drewN ?_ _) | (with_reducible refine Kd.C_drew ?_))); (case side2 => exact HC0.out); (case side3 => repeat (first | exact (Kd.R_reads' HO239.out).2.2 | (with_reducible refine Kd.C_alloc ?_ _) | (with_reducible refine Kd.C_drewN ?_ _) | (with_reducible refine Kd.C_drew ?_))); (case side4 => exact (Kd.R_reads' HO239.out).2.1); rintro e w' ⟨rfl, ⟨nd, rfl⟩⟩))
                go_ret
                exact ⟨by first | rfl | (simp [errW_none, errW_some] <;> rfl) | (simp [*, errW_none, errW_some] <;> rfl), by repeat (first | (with_reducible first | exact HB.out | apply below_alloc | apply pw_below_drewN | apply below_drew1) | exact HB.out)⟩
              · rw [if_neg c17] at H
                exact absurd H (by simp)
            · rw [if_neg c16] at H
              exact absurd H (by simp)
          · rw [if_neg c14] at H
            have c14b0 : (t234 == 0) = false := beq_eq_false_iff_ne.mpr c14
            have c14b1 : (t234 != 0) = true := bne_iff_ne.mpr c14
            obtain rfl := Option.some.inj H
            go_wp2_with (first | ((with_reducible refine gate_dst (N := 16) rfl ?_); refine Kd.R_lit k42 _ 42 ?hg (N := 16) ?hd (xs := ([] : List (S42))) (inner := []) (ok := fun _ => True) (okp := fun _ => True) ?hr ?hp (fun _ hk => hk) trivial (Below.refl _ _) (Nat.le_refl _) (by simp) ?_; (case hd => rfl); (case hg => rfl); (case hr => first | (go_simp; done) | (go_simp; rfl)); (case hp => exact (Reps.none _ _)); intro v228 w26 ho27 hb hg_ hnew_; clear hg_ hnew_; (first | rw [← Ny227.out] at ho27 | (simp only [Int.reduceToNat] at ho27; rw [← Ny227.out] at ho27)); have n0_ := Aside0.mk (Kd.R_lower ho27 (below_size (by repeat (first | (with_reducible first | exact HB.out | apply below_alloc | apply pw_below_drewN | apply below_drew1) | exact HB.out)))); have n1_ := Aside0.mk (below_step (by repeat (first | (with_reducible first | exact HB.out | apply below_alloc | apply pw_below_drewN | apply below_drew1) | exact HB.out)) hb); clear HB; have HO229 := n0_; have HB := n1_; clear n0_ n1_; clear hb ho27) | ((with_reducible refine gate_builtin (b := .append) (xs := #[.tmp 16, .tmp 17]) rfl ?_); at_builtin; refine Kd.R_append_rows k42 (w0 := w) w.heap.size rfl (.tmp 16) (.tmp 17) 22 42 (.agg #[(.int .i64 0), (.string ⟨#[]⟩)]) 24 rfl Try.underlying22 info42 rfl (by decide) (by omega) v228 y227 l0 _ _ _ (fun _ => True) (fun _ => False) rfl rfl ?aO ?aR (fun _ _ h => h) (fun _ h => h.elim) ?aF ?aB ?aS ?aL ?_; (case aR => repeat (first | exact (Kd.C_below HR0.out HB.out) | (with_reducible refine Kd.C_alloc ?_ _) | (with_reducible refine Kd.C_drewN ?_ _) | (with_reducible refine Kd.C_drew ?_))); (case aB => exact (by repeat (first | (with_reducible first | exact HB.out | apply below_alloc | apply pw_below_drewN | apply below_drew1) | exact HB.out))); (case aF => exact (fun _ _ => trivial)); (case aO => exact (by (with_reducible repeat (first | apply Kd.R_alloc | apply Kd.R_drewN | apply Kd.R_drew)); exact HO229.out)); (case aS => exact (below_size (by repeat (first | (with_reducible first | exact HB.out | apply below_alloc | apply pw_below_drewN | apply below_drew1) | exact HB.out)))); (case aL => have := LMc12.out; omega); intro v231 w28 ho hb hg hat; rw [← Ny230.out] at ho; have n0_ := Aside0.mk (hb); have n1_ := Aside0.mk (ho); clear HB; clear HO229; have HB := n0_; have HO232 := n1_; clear n0_ n1_; clear ho hb hg hat; obtain ⟨Ao29, co29, eo29⟩ := Kd.R_slice HO232.out; subst eo29) | ((with_reducible refine gate_callee (f := 12) rfl ?_); refine goesL_ (some 19) rfl rfl Try.func12 (by kernel_rfl) rfl #[.slice Ao29 y230.length co29] rfl (by (try simp only [List.map_toArray, List.map_cons, List.map_nil]); first | done | rfl | (simp only [List.length_drop, List.length_take]; rfl)) ?_; (with_reducible refine (tlv_Put.calls kj1 _ _ y230 t233 t234 _ ?side1 ?side2 A13.out).mono ?_); (case side1 => repeat (first | exact (Kd.R_reads' HO232.out).2.2 | (with_reducible refine Kd.C_alloc ?_ _) | (with_reducible refine Kd.C_drewN ?_ _) | (with_reducible refine Kd.C_drew ?_))); (case side2 => exact (Kd.R_reads' HO232.out).2.1); rintro e w30 ⟨rfl, hb⟩; refine ⟨_, rfl, ?_⟩; have n0_ := Aside0.mk (Kd.R_below (by (with_reducible repeat (first | apply Kd.R_alloc | apply Kd.R_drewN | apply Kd.R_drew)); exact HO232.out) hb); have n1_ := Aside0.mk (below_step (by repeat (first | (with_reducible first | exact HB.out | apply below_alloc | apply pw_below_drewN | apply below_drew1) | exact HB.out)) hb); clear HO232; clear HB; have HO232 := n0_; have HB := n1_; clear n0_ n1_; (try clear hb); (try clear hb2); (try clear hk); (try clear hi)))
            go_ret
            exact ⟨by first | rfl | (simp [errW_none, errW_some] <;> rfl) | (simp [*, errW_none, errW_some] <;> rfl), by repeat (first | (with_reducible first | exact HB.out | apply below_alloc | apply pw_below_drewN | apply below_drew1) | exact HB.out)⟩
        · rw [if_neg c12] at H
          exact absurd H (by simp)

/-! ### groatlaw10_TlvOne: function 6 -/
def groatlaw10_TlvOne.j0 : Nat → ByteArray → Bool → Option (Bool)
  | 0, _, _ => none
  | k + 1, x0, x14 => if x14 = true then ((groatlaw10_awake.f k).bind fun t242 => (some t242)) else ((tlv_Get.f k x0).bind fun bt243 => (if bt243.2.1 = 0 then ((tlv_Put.f k bt243.1).bind fun bt248 => (if bt248.2 = 0 then (some (bt248.1.toList == x0.toList)) else (none))) else (some ((bt243.1.length : Int) == 0))))
def groatlaw10_TlvOne.f (k : Nat) (a0 : ByteArray) : Option (Bool) := (groatlaw10_awake.f k).bind fun t241 => (if t241 = true then (groatlaw10_TlvOne.j0 k a0 (decide ((a0.size : Int) > 2000))) else (groatlaw10_TlvOne.j0 k a0 true))
theorem groatlaw10_TlvOne.mono_l : ∀ k, (∀ y0 y1, LeO (groatlaw10_TlvOne.j0 k y0 y1) (groatlaw10_TlvOne.j0 (k + 1) y0 y1))
  | 0 => fun _ _ r h => by simp [groatlaw10_TlvOne.j0] at h
  | k + 1 => by
    have ih0 := groatlaw10_TlvOne.mono_l k
    · intro y0 y1
      unfold groatlaw10_TlvOne.j0
      repeat' first
      | (with_reducible exact ih0 _ _)
      | (with_reducible exact groatlaw10_awake.mono _)
      | (with_reducible exact tlv_Get.mono _ _)
      | (with_reducible exact tlv_Put.mono _ _)
      | (with_reducible exact LeO.refl _)
      | (with_reducible exact LeO.none _)
      | (with_reducible refine LeO.ite ?_ ?_)
      | (with_reducible refine LeO.bind ?_ (fun _ => ?_))
      | exact ih0 _ _
      | exact groatlaw10_awake.mono _
      | exact tlv_Get.mono _ _
      | exact tlv_Put.mono _ _
      | exact LeO.none _
      | refine LeO.ite ?_ ?_
      | refine LeO.bind ?_ (fun _ => ?_)
theorem groatlaw10_TlvOne.mono : ∀ a0 k, LeO (groatlaw10_TlvOne.f k a0) (groatlaw10_TlvOne.f (k + 1) a0) := by
  intro a0 k
  have ih0 := groatlaw10_TlvOne.mono_l k
  unfold groatlaw10_TlvOne.f
  repeat' first
      | (with_reducible exact ih0 _ _)
      | (with_reducible exact groatlaw10_awake.mono _)
      | (with_reducible exact tlv_Get.mono _ _)
      | (with_reducible exact tlv_Put.mono _ _)
      | (with_reducible exact LeO.refl _)
      | (with_reducible exact LeO.none _)
      | (with_reducible refine LeO.ite ?_ ?_)
      | (with_reducible refine LeO.bind ?_ (fun _ => ?_))
      | exact ih0 _ _
      | exact groatlaw10_awake.mono _
      | exact tlv_Get.mono _ _
      | exact tlv_Put.mono _ _
      | exact LeO.none _
      | refine LeO.ite ?_ ?_
      | refine LeO.bind ?_ (fun _ => ?_)
set_option maxHeartbeats 8000000 in
set_option maxRecDepth 100000 in
theorem groatlaw10_TlvOne.calls (k : Nat) (a0 : ByteArray) (r : Bool) (w : World) (h : groatlaw10_TlvOne.f k a0 = some r) :
    Calls Try.prog 6 #[.string a0] w fun e w' => e = .returned (.bool r) ∧ Below w.heap.size w w' := by
  have HB := Aside0.mk (Below.refl w.heap.size w)
  have H : ((groatlaw10_awake.f k).bind fun t241 => (if t241 = true then (groatlaw10_TlvOne.j0 k a0 (decide ((a0.size : Int) > 2000))) else (groatlaw10_TlvOne.j0 k a0 true))) = some r := h
  clear h
  have HC2 := Aside0.mk H
  clear H
  go_enter Try.func6, Try.ntmps6
  go_upto_region 1 with (fail)
  go_cut [14] (fun v14 wc => ∃ (kq : Nat) (x14_1 : Bool), v14 = .bool x14_1 ∧ Aside0 (groatlaw10_TlvOne.j0 kq a0 x14_1 = some r) ∧ Aside0 (kq ≤ k) ∧ Aside0 (Below w.heap.size w wc))
  case first =>
    have H := HC2.out
    clear HC2
    replace H := Option.bind_eq_some_iff.mp H
    obtain ⟨t241, A30, H⟩ := H
    replace H : (if t241 = true then (groatlaw10_TlvOne.j0 k a0 (decide ((a0.size : Int) > 2000))) else (groatlaw10_TlvOne.j0 k a0 true)) = some r := H
    have A3 := Aside0.mk A30
    clear A30
    by_cases c4 : t241 = true
    · subst c4
      have H1 : (groatlaw10_TlvOne.j0 k a0 (decide ((a0.size : Int) > 2000))) = some r := by rw [if_pos rfl] at H; exact H
      clear H
      have H := H1
      clear H1
      have H' := Aside0.mk H
      clear H
      go_wp2_with (first | ((with_reducible refine gate_callee (f := 8) rfl ?_); refine goesL_ (some 8) rfl rfl Try.func8 (by kernel_rfl) rfl #[] rfl (by (try simp only [List.map_toArray, List.map_cons, List.map_nil]); first | done | rfl | (simp only [List.length_drop, List.length_take]; rfl)) ?_; (with_reducible refine (groatlaw10_awake.calls k  true _ A3.out).mono ?_); rintro e w5 ⟨rfl, hb⟩; refine ⟨_, rfl, ?_⟩; have n0_ := Aside0.mk (below_step (by repeat (first | (with_reducible first | exact HB.out | apply below_alloc | apply pw_below_drewN | apply below_drew1) | exact HB.out)) hb); clear HB; have HB := n0_; clear n0_; (try clear hb); (try clear hb2); (try clear hk); (try clear hi)))
      go_meet
      case rel => exact ⟨_, (decide ((a0.size : Int) > 2000)), (by first | rfl | (simp; done) | (simp [*]; done)), H', ⟨by first | omega | exact Nat.le_refl _⟩, ⟨by repeat (first | (with_reducible first | exact HB.out | apply below_alloc | apply pw_below_drewN | apply below_drew1) | exact HB.out)⟩⟩
    · replace c4 := Bool.eq_false_iff.mpr c4
      subst c4
      have H1 : (groatlaw10_TlvOne.j0 k a0 true) = some r := by rw [if_neg (show ¬ (false = true) by decide)] at H; exact H
      clear H
      have H := H1
      clear H1
      have H' := Aside0.mk H
      clear H
      go_wp2_with (first | ((with_reducible refine gate_callee (f := 8) rfl ?_); refine goesL_ (some 8) rfl rfl Try.func8 (by kernel_rfl) rfl #[] rfl (by (try simp only [List.map_toArray, List.map_cons, List.map_nil]); first | done | rfl | (simp only [List.length_drop, List.length_take]; rfl)) ?_; (with_reducible refine (groatlaw10_awake.calls k  false _ A3.out).mono ?_); rintro e w6 ⟨rfl, hb⟩; refine ⟨_, rfl, ?_⟩; have n0_ := Aside0.mk (below_step (by repeat (first | (with_reducible first | exact HB.out | apply below_alloc | apply pw_below_drewN | apply below_drew1) | exact HB.out)) hb); clear HB; have HB := n0_; clear n0_; (try clear hb); (try clear hb2); (try clear hk); (try clear hi)))
      go_meet
      case rel => exact ⟨_, (true), (by first | rfl | (simp; done) | (simp [*]; done)), H', ⟨by first | omega | exact Nat.le_refl _⟩, ⟨by repeat (first | (with_reducible first | exact HB.out | apply below_alloc | apply pw_below_drewN | apply below_drew1) | exact HB.out)⟩⟩
  case rest =>
    clear HC2
    try clear p2
    try clear c4
    try clear c6
    obtain ⟨kq, x14_1, rfl, HA, HJ1, HB⟩ := hcut
    cases kq with
    | zero => exact absurd HA.out (by simp [groatlaw10_TlvOne.j0])
    | succ kj1 =>
      have H := HA.out
      clear HA
      simp only [groatlaw10_TlvOne.j0] at H
      by_cases c7 : x14_1 = true
      · subst c7
        have H1 : ((groatlaw10_awake.f kj1).bind fun t242 => (some t242)) = some r := by rw [if_pos rfl] at H; exact H
        clear H
        have H := H1
        clear H1
        replace H := Option.bind_eq_some_iff.mp H
        obtain ⟨t242, A80, H⟩ := H
        replace H : (some t242) = some r := H
        have A8 := Aside0.mk A80
        clear A80
        obtain rfl := Option.some.inj H
        go_wp2_with (first | ((with_reducible refine gate_callee (f := 8) rfl ?_); refine goesL_ (some 15) rfl rfl Try.func8 (by kernel_rfl) rfl #[] rfl (by (try simp only [List.map_toArray, List.map_cons, List.map_nil]); first | done | rfl | (simp only [List.length_drop, List.length_take]; rfl)) ?_; (with_reducible refine (groatlaw10_awake.calls kj1  t242 _ A8.out).mono ?_); rintro e w9 ⟨rfl, hb⟩; refine ⟨_, rfl, ?_⟩; have n0_ := Aside0.mk (below_step (by repeat (first | (with_reducible first | exact HB.out | apply below_alloc | apply pw_below_drewN | apply below_drew1) | exact HB.out)) hb); clear HB; have HB := n0_; clear n0_; (try clear hb); (try clear hb2); (try clear hk); (try clear hi)))
        go_ret
        exact ⟨by first | rfl | (simp [errW_none, errW_some] <;> rfl) | (simp [*, errW_none, errW_some] <;> rfl), by repeat (first | (with_reducible first | exact HB.out | apply below_alloc | apply pw_below_drewN | apply below_drew1) | exact HB.out)⟩
      · replace c7 := Bool.eq_false_iff.mpr c7
        subst c7
        have H1 : ((tlv_Get.f kj1 a0).bind fun bt243 => (if bt243.2.1 = 0 then ((tlv_Put.f kj1 bt243.1).bind fun bt248 => (if bt248.2 = 0 then (some (bt248.1.toList == a0.toList)) else (none))) else (some ((bt243.1.length : Int) == 0)))) = some r := by rw [if_neg (show ¬ (false = true) by decide)] at H; exact H
        clear H
        have H := H1
        clear H1
        replace H := Option.bind_eq_some_iff.mp H
        obtain ⟨⟨t243, t244, t245⟩, A100, H⟩ := H
        replace H : (if t244 = 0 then ((tlv_Put.f kj1 t243).bind fun bt248 => (if bt248.2 = 0 then (some (bt248.1.toList == a0.toList)) else (none))) else (some ((t243.length : Int) == 0))) = some r := H
        have A10 := Aside0.mk A100
        clear A100
        by_cases c11 : t244 = 0
        · rw [if_pos c11] at H
          have c11b0 : (t244 == 0) = true := beq_iff_eq.mpr c11
          have c11b1 : (t244 != 0) = false := bne_eq_false_iff_eq.mpr c11
          clear c11
          replace H := Option.bind_eq_some_iff.mp H
          obtain ⟨⟨t248, t249⟩, A120, H⟩ := H
          replace H : (if t249 = 0 then (some (t248.toList == a0.toList)) else (none)) = some r := H
          have A12 := Aside0.mk A120
          clear A120
          by_cases c13 : t249 = 0
          · rw [if_pos c13] at H
            have c13b0 : (t249 == 0) = true := beq_iff_eq.mpr c13
            have c13b1 : (t249 != 0) = false := bne_eq_false_iff_eq.mpr c13
            clear c13
            obtain rfl := Option.some.inj H
            go_wp2_with (first | ((with_reducible refine gate_callee (f := 14) rfl ?_); refine goesL_ (some 18) rfl rfl Try.func14 (by kernel_rfl) rfl #[.string a0] rfl (by (try simp only [List.map_toArray, List.map_cons, List.map_nil]); first | done | rfl | (simp only [List.length_drop, List.length_take]; rfl)) ?_; (with_reducible refine (tlv_Get.calls kj1 a0 t243 t244 t245 _ A10.out).mono ?_); rintro e w14 ⟨v246, rfl, ho0, hb⟩; refine ⟨_, rfl, ?_⟩; have n0_ := Aside0.mk (Kd.R_lower ho0 (below_size (by repeat (first | (with_reducible first | exact HB.out | apply below_alloc | apply pw_below_drewN | apply below_drew1) | exact HB.out)))); have n1_ := Aside0.mk (below_step (by repeat (first | (with_reducible first | exact HB.out | apply below_alloc | apply pw_below_drewN | apply below_drew1) | exact HB.out)) hb); clear HB; have HO247 := n0_; have HB := n1_; clear n0_ n1_; (try clear hb); (try clear hb2); (try clear hk); (try clear hi); (try clear ho0); obtain ⟨Ao15, co15, eo15⟩ := Kd.R_slice HO247.out; subst eo15) | ((with_reducible refine gate_callee (f := 12) rfl ?_); refine goesL_ (some 29) rfl rfl Try.func12 (by kernel_rfl) rfl #[.slice Ao15 t243.length co15] rfl (by (try simp only [List.map_toArray, List.map_cons, List.map_nil]); first | done | rfl | (simp only [List.length_drop, List.length_take]; rfl)) ?_; (with_reducible refine (tlv_Put.calls kj1 _ _ t243 t248 t249 _ ?side1 ?side2 A12.out).mono ?_); (case side1 => repeat (first | exact (Kd.R_reads' HO247.out).2.2 | (with_reducible refine Kd.C_alloc ?_ _) | (with_reducible refine Kd.C_drewN ?_ _) | (with_reducible refine Kd.C_drew ?_))); (case side2 => exact (Kd.R_reads' HO247.out).2.1); rintro e w16 ⟨rfl, hb⟩; refine ⟨_, rfl, ?_⟩; have n0_ := Aside0.mk (Kd.R_below (by (with_reducible repeat (first | apply Kd.R_alloc | apply Kd.R_drewN | apply Kd.R_drew)); exact HO247.out) hb); have n1_ := Aside0.mk (below_step (by repeat (first | (with_reducible first | exact HB.out | apply below_alloc | apply pw_below_drewN | apply below_drew1) | exact HB.out)) hb); clear HO247; clear HB; have HO247 := n0_; have HB := n1_; clear n0_ n1_; (try clear hb); (try clear hb2); (try clear hk); (try clear hi)))
            go_ret
            exact ⟨by first | rfl | (simp [errW_none, errW_some] <;> rfl) | (simp [*, errW_none, errW_some] <;> rfl), by repeat (first | (with_reducible first | exact HB.out | apply below_alloc | apply pw_below_drewN | apply below_drew1) | exact HB.out)⟩
          · rw [if_neg c13] at H
            exact absurd H (by simp)
        · rw [if_neg c11] at H
          have c11b0 : (t244 == 0) = false := beq_eq_false_iff_ne.mpr c11
          have c11b1 : (t244 != 0) = true := bne_iff_ne.mpr c11
          obtain rfl := Option.some.inj H
          go_wp2_with (first | ((with_reducible refine gate_callee (f := 14) rfl ?_); refine goesL_ (some 18) rfl rfl Try.func14 (by kernel_rfl) rfl #[.string a0] rfl (by (try simp only [List.map_toArray, List.map_cons, List.map_nil]); first | done | rfl | (simp only [List.length_drop, List.length_take]; rfl)) ?_; (with_reducible refine (tlv_Get.calls kj1 a0 t243 t244 t245 _ A10.out).mono ?_); rintro e w17 ⟨v246, rfl, ho0, hb⟩; refine ⟨_, rfl, ?_⟩; have n0_ := Aside0.mk (Kd.R_lower ho0 (below_size (by repeat (first | (with_reducible first | exact HB.out | apply below_alloc | apply pw_below_drewN | apply below_drew1) | exact HB.out)))); have n1_ := Aside0.mk (below_step (by repeat (first | (with_reducible first | exact HB.out | apply below_alloc | apply pw_below_drewN | apply below_drew1) | exact HB.out)) hb); clear HB; have HO247 := n0_; have HB := n1_; clear n0_ n1_; (try clear hb); (try clear hb2); (try clear hk); (try clear hi); (try clear ho0); obtain ⟨Ao18, co18, eo18⟩ := Kd.R_slice HO247.out; subst eo18))
          go_ret
          exact ⟨by first | rfl | (simp [errW_none, errW_some] <;> rfl) | (simp [*, errW_none, errW_some] <;> rfl), by repeat (first | (with_reducible first | exact HB.out | apply below_alloc | apply pw_below_drewN | apply below_drew1) | exact HB.out)⟩

/-- THE ONE PURE STATEMENT of groatlaw10_TlvOne: yours. -/
def groatlaw10_TlvOne.Pure : Prop := ∀ (a0 : ByteArray), a0.size ≤ 140737488351232 → ∃ k, groatlaw10_TlvOne.f k a0 = some true
theorem groatlaw10_TlvOne.walk (P : groatlaw10_TlvOne.Pure) (a0 : ByteArray) (w : World) (w0 : a0.size ≤ 140737488351232) :
    Calls Try.prog 6 #[.string a0] w fun e w' => e = .returned (.bool true) ∧ Below w.heap.size w w' := by
  obtain ⟨k, h⟩ := P a0 w0
  refine (groatlaw10_TlvOne.calls k a0 true w h).mono ?_
  rintro e w' ⟨rfl, hd⟩
  exact ⟨rfl, hd⟩

end Go.Proofs.Ytebapdkfndlpgaa.D
