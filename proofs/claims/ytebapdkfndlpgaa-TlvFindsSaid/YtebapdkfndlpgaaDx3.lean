/- Walks of the functions that the laws of layer 10 (tlv) reach: each call comes to the answer of its plain function, which stands beside it. No conditions. -/
import Derived.Test.YtebapdkfndlpgaaDx0
import Derived.Test.YtebapdkfndlpgaaDx2
namespace Go.Proofs.Ytebapdkfndlpgaa.D
open Go.RowKit Go.Proofs.YtebapdkfndlpgaaW.PrintWords Go.Proofs.YtebapdkfndlpgaaW.PrintLast Go.Proofs.YtebapdkfndlpgaaW.PrintMore
attribute [local go_sem] max2_int min2_int max_two min_two max_three min_three max_four min_four   -- for this text's walks alone
set_option linter.unusedVariables false
set_option linter.unusedSimpArgs false

/-! ### tag_Get: function 27 -/
def tag_Get.j0 : Nat → ByteArray → Int → Bool → Option (Int × Int × Int)
  | 0, _, _, _ => none
  | k + 1, x0, x1, x15 => if x15 = true then (some (0, 0, 1)) else (if x1 = (x0.size : Int) then (some (0, 0, 2)) else (if 0 ≤ x1 then (if x1 < (x0.size : Int) then ((tag_first.f (wrap64 (bt x0 x1))).bind fun t120 => (if t120 = true then (if (Go.bits .and .i64 (wrap64 (bt x0 x1)) 31) = 31 then (if (wrap64 (x1 + 1)) = (x0.size : Int) then (some (0, 0, 2)) else (if 0 ≤ (wrap64 (x1 + 1)) then (if (wrap64 (x1 + 1)) < (x0.size : Int) then ((tag_Right.f (Go.bits .or .i64 (wrap64 ((wrap64 (bt x0 x1)) * 256)) (wrap64 (bt x0 (wrap64 (x1 + 1)))))).bind fun t121 => (if t121 = true then (some (Go.bits .or .i64 (wrap64 ((wrap64 (bt x0 x1)) * 256)) (wrap64 (bt x0 (wrap64 (x1 + 1)))), wrap64 (x1 + 2), 0)) else (some (0, 0, 13)))) else (none)) else (none))) else (some (wrap64 (bt x0 x1), wrap64 (x1 + 1), 0))) else (some (0, 0, 13)))) else (none)) else (none)))
def tag_Get.f (k : Nat) (a0 : ByteArray) (a1 : Int) : Option (Int × Int × Int) := if a1 < 0 then (tag_Get.j0 k a0 a1 true) else (tag_Get.j0 k a0 a1 (decide (a1 > (a0.size : Int))))
theorem tag_Get.mono_l : ∀ k, (∀ y0 y1 y2, LeO (tag_Get.j0 k y0 y1 y2) (tag_Get.j0 (k + 1) y0 y1 y2))
  | 0 => fun _ _ _ r h => by simp [tag_Get.j0] at h
  | k + 1 => by
    have ih0 := tag_Get.mono_l k
    · intro y0 y1 y2
      unfold tag_Get.j0
      repeat' first
      | (with_reducible exact ih0 _ _ _)
      | (with_reducible exact LeO.refl _)
      | (with_reducible exact LeO.none _)
      | (with_reducible refine LeO.ite ?_ ?_)
      | (with_reducible refine LeO.bind ?_ (fun _ => ?_))
      | exact ih0 _ _ _
      | exact LeO.none _
      | refine LeO.ite ?_ ?_
      | refine LeO.bind ?_ (fun _ => ?_)
theorem tag_Get.mono : ∀ a0 a1 k, LeO (tag_Get.f k a0 a1) (tag_Get.f (k + 1) a0 a1) := by
  intro a0 a1 k
  have ih0 := tag_Get.mono_l k
  unfold tag_Get.f
  repeat' first
      | (with_reducible exact ih0 _ _ _)
      | (with_reducible exact LeO.refl _)
      | (with_reducible exact LeO.none _)
      | (with_reducible refine LeO.ite ?_ ?_)
      | (with_reducible refine LeO.bind ?_ (fun _ => ?_))
      | exact ih0 _ _ _
      | exact LeO.none _
      | refine LeO.ite ?_ ?_
      | refine LeO.bind ?_ (fun _ => ?_)
set_option maxHeartbeats 8000000 in
set_option maxRecDepth 100000 in
theorem tag_Get.calls (k : Nat) (a0 : ByteArray) (a1 : Int) (r1 : Int) (r2 : Int) (r3 : Int) (w : World) (h : tag_Get.f k a0 a1 = some (r1, r2, r3)) :
    Calls Try.prog 27 #[.string a0, .int .i64 a1] w fun e w' => e = .returned (.tuple #[.int .i64 r1, .int .i64 r2, .int .i64 r3]) ∧ Drawn0 w w' := by
  have H : (if a1 < 0 then (tag_Get.j0 k a0 a1 true) else (tag_Get.j0 k a0 a1 (decide (a1 > (a0.size : Int))))) = some (r1, r2, r3) := h
  clear h
  have HC3 := Aside0.mk H
  clear H
  go_enter Try.func27, Try.ntmps27
  go_upto_region 1 with (fail)
  go_cut [15] (fun v15 wc => ∃ (kq : Nat) (x15_2 : Bool), v15 = .bool x15_2 ∧ Aside0 (tag_Get.j0 kq a0 a1 x15_2 = some (r1, r2, r3)) ∧ Aside0 (kq ≤ k) ∧ Drawn0 w wc)
  case first =>
    have H := HC3.out
    clear HC3
    by_cases c4 : a1 < 0
    · rw [if_pos c4] at H
      have c4b0 : decide (a1 < 0) = true := decide_eq_true c4
      clear c4
      (first | rw [c4b0] | (simp only [i64_w, i32_w]; rw [c4b0]) | skip)
      have H' := Aside0.mk H
      clear H
      go_wp2
      go_meet
      case rel => exact ⟨_, (true), (by first | rfl | (simp; done) | (simp [*]; done)), H', ⟨by first | omega | exact Nat.le_refl _⟩, by repeat (first | exact Drawn0.refl _ | apply Drawn0.step)⟩
    · rw [if_neg c4] at H
      have c4b0 : decide (a1 < 0) = false := decide_eq_false c4
      clear c4
      (first | rw [c4b0] | (simp only [i64_w, i32_w]; rw [c4b0]) | skip)
      have H' := Aside0.mk H
      clear H
      go_wp2
      go_meet
      case rel => exact ⟨_, (decide (a1 > (a0.size : Int))), (by first | rfl | (simp; done) | (simp [*]; done)), H', ⟨by first | omega | exact Nat.le_refl _⟩, by repeat (first | exact Drawn0.refl _ | apply Drawn0.step)⟩
  case rest =>
    clear HC3
    try clear c2
    try clear p2
    try clear c4
    try clear c4b0
    obtain ⟨kq, x15_2, rfl, HA, HJ2, ⟨mc2, rfl⟩⟩ := hcut
    cases kq with
    | zero => exact absurd HA.out (by simp [tag_Get.j0])
    | succ kj2 =>
      have H := HA.out
      clear HA
      simp only [tag_Get.j0] at H
      by_cases c5 : x15_2 = true
      · subst c5
        have H1 : (some (0, 0, 1)) = some (r1, r2, r3) := by rw [if_pos rfl] at H; exact H
        clear H
        have H := H1
        clear H1
        simp only [Option.some.injEq, Prod.mk.injEq] at H
        obtain ⟨rfl, rfl, rfl⟩ := H
        go_wp2
        go_ret3
        exact ⟨by first | rfl | (simp; done) | (simp [*]; done) | (simp [wrap64]; done), by repeat (first | exact Drawn0.refl _ | apply Drawn0.step)⟩
      · replace c5 := Bool.eq_false_iff.mpr c5
        subst c5
        have H1 : (if a1 = (a0.size : Int) then (some (0, 0, 2)) else (if 0 ≤ a1 then (if a1 < (a0.size : Int) then ((tag_first.f (wrap64 (bt a0 a1))).bind fun t120 => (if t120 = true then (if (Go.bits .and .i64 (wrap64 (bt a0 a1)) 31) = 31 then (if (wrap64 (a1 + 1)) = (a0.size : Int) then (some (0, 0, 2)) else (if 0 ≤ (wrap64 (a1 + 1)) then (if (wrap64 (a1 + 1)) < (a0.size : Int) then ((tag_Right.f (Go.bits .or .i64 (wrap64 ((wrap64 (bt a0 a1)) * 256)) (wrap64 (bt a0 (wrap64 (a1 + 1)))))).bind fun t121 => (if t121 = true then (some (Go.bits .or .i64 (wrap64 ((wrap64 (bt a0 a1)) * 256)) (wrap64 (bt a0 (wrap64 (a1 + 1)))), wrap64 (a1 + 2), 0)) else (some (0, 0, 13)))) else (none)) else (none))) else (some (wrap64 (bt a0 a1), wrap64 (a1 + 1), 0))) else (some (0, 0, 13)))) else (none)) else (none))) = some (r1, r2, r3) := by rw [if_neg (show ¬ (false = true) by decide)] at H; exact H
        clear H
        have H := H1
        clear H1
        by_cases c6 : a1 = (a0.size : Int)
        · rw [if_pos c6] at H
          have c6b0 : (a1 == (a0.size : Int)) = true := beq_iff_eq.mpr c6
          have c6b1 : (a1 != (a0.size : Int)) = false := bne_eq_false_iff_eq.mpr c6
          clear c6
          simp only [Option.some.injEq, Prod.mk.injEq] at H
          obtain ⟨rfl, rfl, rfl⟩ := H
          go_wp2
          go_ret3
          exact ⟨by first | rfl | (simp; done) | (simp [*]; done) | (simp [wrap64]; done), by repeat (first | exact Drawn0.refl _ | apply Drawn0.step)⟩
        · rw [if_neg c6] at H
          have c6b0 : (a1 == (a0.size : Int)) = false := beq_eq_false_iff_ne.mpr c6
          have c6b1 : (a1 != (a0.size : Int)) = true := bne_iff_ne.mpr c6
          by_cases c7 : 0 ≤ a1
          · rw [if_pos c7] at H
            have c7b0 : decide (0 ≤ a1) = true := decide_eq_true c7
            clear c7
            by_cases c8 : a1 < (a0.size : Int)
            · rw [if_pos c8] at H
              have c8b0 : decide (a1 < (a0.size : Int)) = true := decide_eq_true c8
              clear c8
              replace H := Option.bind_eq_some_iff.mp H
              obtain ⟨t120, A100, H⟩ := H
              replace H : (if t120 = true then (if (Go.bits .and .i64 (wrap64 (bt a0 a1)) 31) = 31 then (if (wrap64 (a1 + 1)) = (a0.size : Int) then (some (0, 0, 2)) else (if 0 ≤ (wrap64 (a1 + 1)) then (if (wrap64 (a1 + 1)) < (a0.size : Int) then ((tag_Right.f (Go.bits .or .i64 (wrap64 ((wrap64 (bt a0 a1)) * 256)) (wrap64 (bt a0 (wrap64 (a1 + 1)))))).bind fun t121 => (if t121 = true then (some (Go.bits .or .i64 (wrap64 ((wrap64 (bt a0 a1)) * 256)) (wrap64 (bt a0 (wrap64 (a1 + 1)))), wrap64 (a1 + 2), 0)) else (some (0, 0, 13)))) else (none)) else (none))) else (some (wrap64 (bt a0 a1), wrap64 (a1 + 1), 0))) else (some (0, 0, 13))) = some (r1, r2, r3) := H
              have A10 := Aside0.mk A100
              clear A100
              by_cases c11 : t120 = true
              · subst c11
                have H1 : (if (Go.bits .and .i64 (wrap64 (bt a0 a1)) 31) = 31 then (if (wrap64 (a1 + 1)) = (a0.size : Int) then (some (0, 0, 2)) else (if 0 ≤ (wrap64 (a1 + 1)) then (if (wrap64 (a1 + 1)) < (a0.size : Int) then ((tag_Right.f (Go.bits .or .i64 (wrap64 ((wrap64 (bt a0 a1)) * 256)) (wrap64 (bt a0 (wrap64 (a1 + 1)))))).bind fun t121 => (if t121 = true then (some (Go.bits .or .i64 (wrap64 ((wrap64 (bt a0 a1)) * 256)) (wrap64 (bt a0 (wrap64 (a1 + 1)))), wrap64 (a1 + 2), 0)) else (some (0, 0, 13)))) else (none)) else (none))) else (some (wrap64 (bt a0 a1), wrap64 (a1 + 1), 0))) = some (r1, r2, r3) := by rw [if_pos rfl] at H; exact H
                clear H
                have H := H1
                clear H1
                by_cases c12 : (Go.bits .and .i64 (wrap64 (bt a0 a1)) 31) = 31
                · rw [if_pos c12] at H
                  have c12b0 : ((Go.bits .and .i64 (wrap64 (bt a0 a1)) 31) == 31) = true := beq_iff_eq.mpr c12
                  have c12b1 : ((Go.bits .and .i64 (wrap64 (bt a0 a1)) 31) != 31) = false := bne_eq_false_iff_eq.mpr c12
                  clear c12
                  by_cases c13 : (wrap64 (a1 + 1)) = (a0.size : Int)
                  · rw [if_pos c13] at H
                    have c13b0 : ((wrap64 (a1 + 1)) == (a0.size : Int)) = true := beq_iff_eq.mpr c13
                    have c13b1 : ((wrap64 (a1 + 1)) != (a0.size : Int)) = false := bne_eq_false_iff_eq.mpr c13
                    clear c13
                    simp only [Option.some.injEq, Prod.mk.injEq] at H
                    obtain ⟨rfl, rfl, rfl⟩ := H
                    have p9 : 0 ≤ (a1 : Int) := of_decide_eq_true (by first | (with_reducible assumption) | assumption)
                    have q9 : a1 < (a0.size : Int) := of_decide_eq_true (by first | (with_reducible assumption) | assumption)
                    have hx9 := bt_at a0 a1
                    replace p9 := eq_true p9
                    replace q9 := eq_true q9
                    go_wp2_with (first | ((with_reducible refine gate_callee (f := 31) rfl ?_); refine goesL_ (some 26) rfl rfl Try.func31 (by kernel_rfl) rfl #[.int .i64 (wrap64 (bt a0 a1))] rfl (by (try simp only [List.map_toArray, List.map_cons, List.map_nil]); first | done | rfl | (simp only [List.length_drop, List.length_take]; rfl)) ?_; (with_reducible refine (tag_first.calls (wrap64 (bt a0 a1)) true _ A10.out).mono ?_); rintro e w' ⟨rfl, ⟨nd, rfl⟩⟩; refine ⟨_, rfl, ?_⟩))
                    go_ret3
                    exact ⟨by first | rfl | (simp; done) | (simp [*]; done) | (simp [wrap64]; done), by repeat (first | exact Drawn0.refl _ | apply Drawn0.step)⟩
                  · rw [if_neg c13] at H
                    have c13b0 : ((wrap64 (a1 + 1)) == (a0.size : Int)) = false := beq_eq_false_iff_ne.mpr c13
                    have c13b1 : ((wrap64 (a1 + 1)) != (a0.size : Int)) = true := bne_iff_ne.mpr c13
                    obtain ⟨ji14, hji14⟩ : ∃ j_ : Int, (wrap64 (a1 + 1)) = j_ := ⟨_, rfl⟩
                    replace H : (if 0 ≤ (ji14) then (if (ji14) < (a0.size : Int) then ((tag_Right.f (Go.bits .or .i64 (wrap64 ((wrap64 (bt a0 a1)) * 256)) (wrap64 (bt a0 (ji14))))).bind fun t121 => (if t121 = true then (some (Go.bits .or .i64 (wrap64 ((wrap64 (bt a0 a1)) * 256)) (wrap64 (bt a0 (ji14))), wrap64 (a1 + 2), 0)) else (some (0, 0, 13)))) else (none)) else (none)) = some (r1, r2, r3) := by first | (rw [hji14] at H; exact H) | (simp only [hji14] at H ⊢; exact H)
                    (try rw [hji14] at c13b0)
                    (try rw [hji14] at c13b1)
                    (try rw [hji14] at A10)
                    have hji14w : (IntKind.i64.wrap (a1 + 1)) = ji14 := (i64_w _).trans hji14
                    by_cases c15 : 0 ≤ (ji14)
                    · rw [if_pos c15] at H
                      have c15b0 : decide (0 ≤ (ji14)) = true := decide_eq_true c15
                      clear c15
                      by_cases c16 : (ji14) < (a0.size : Int)
                      · rw [if_pos c16] at H
                        have c16b0 : decide ((ji14) < (a0.size : Int)) = true := decide_eq_true c16
                        clear c16
                        replace H := Option.bind_eq_some_iff.mp H
                        obtain ⟨t121, A180, H⟩ := H
                        replace H : (if t121 = true then (some (Go.bits .or .i64 (wrap64 ((wrap64 (bt a0 a1)) * 256)) (wrap64 (bt a0 (ji14))), wrap64 (a1 + 2), 0)) else (some (0, 0, 13))) = some (r1, r2, r3) := H
                        have A18 := Aside0.mk A180
                        clear A180
                        by_cases c19 : t121 = true
                        · subst c19
                          have H1 : (some (Go.bits .or .i64 (wrap64 ((wrap64 (bt a0 a1)) * 256)) (wrap64 (bt a0 (ji14))), wrap64 (a1 + 2), 0)) = some (r1, r2, r3) := by rw [if_pos rfl] at H; exact H
                          clear H
                          have H := H1
                          clear H1
                          simp only [Option.some.injEq, Prod.mk.injEq] at H
                          obtain ⟨rfl, rfl, rfl⟩ := H
                          have p9 : 0 ≤ (a1 : Int) := of_decide_eq_true (by first | (with_reducible assumption) | assumption)
                          have q9 : a1 < (a0.size : Int) := of_decide_eq_true (by first | (with_reducible assumption) | assumption)
                          have hx9 := bt_at a0 a1
                          replace p9 := eq_true p9
                          replace q9 := eq_true q9
                          go_wp2_with (first | ((with_reducible refine gate_callee (f := 31) rfl ?_); refine goesL_ (some 26) rfl rfl Try.func31 (by kernel_rfl) rfl #[.int .i64 (wrap64 (bt a0 a1))] rfl (by (try simp only [List.map_toArray, List.map_cons, List.map_nil]); first | done | rfl | (simp only [List.length_drop, List.length_take]; rfl)) ?_; (with_reducible refine (tag_first.calls (wrap64 (bt a0 a1)) true _ A10.out).mono ?_); rintro e w' ⟨rfl, ⟨nd, rfl⟩⟩; refine ⟨_, rfl, ?_⟩; have p17 : 0 ≤ ((ji14) : Int) := of_decide_eq_true (by first | (with_reducible assumption) | assumption); have q17 : (ji14) < (a0.size : Int) := of_decide_eq_true (by first | (with_reducible assumption) | assumption); have hx17 := bt_at a0 (ji14); replace p17 := eq_true p17; replace q17 := eq_true q17) | ((with_reducible refine gate_callee (f := 18) rfl ?_); refine goesL_ (some 50) rfl rfl Try.func18 (by kernel_rfl) rfl #[.int .i64 (Go.bits .or .i64 (wrap64 ((wrap64 (bt a0 a1)) * 256)) (wrap64 (bt a0 (ji14))))] rfl (by (try simp only [List.map_toArray, List.map_cons, List.map_nil]); first | done | (simp only [hji14]; rfl) | rfl | (simp only [List.length_drop, List.length_take]; rfl)) ?_; (with_reducible refine (tag_Right.calls (Go.bits .or .i64 (wrap64 ((wrap64 (bt a0 a1)) * 256)) (wrap64 (bt a0 (ji14)))) true _ A18.out).mono ?_); rintro e w' ⟨rfl, ⟨nd, rfl⟩⟩; refine ⟨_, rfl, ?_⟩))
                          go_ret3
                          exact ⟨by first | rfl | (simp; done) | (simp only [← hji14] <;> (first | rfl | simp)) | (simp [*]; done), by repeat (first | exact Drawn0.refl _ | apply Drawn0.step)⟩
                        · replace c19 := Bool.eq_false_iff.mpr c19
                          subst c19
                          have H1 : (some (0, 0, 13)) = some (r1, r2, r3) := by rw [if_neg (show ¬ (false = true) by decide)] at H; exact H
                          clear H
                          have H := H1
                          clear H1
                          simp only [Option.some.injEq, Prod.mk.injEq] at H
                          obtain ⟨rfl, rfl, rfl⟩ := H
                          have p9 : 0 ≤ (a1 : Int) := of_decide_eq_true (by first | (with_reducible assumption) | assumption)
                          have q9 : a1 < (a0.size : Int) := of_decide_eq_true (by first | (with_reducible assumption) | assumption)
                          have hx9 := bt_at a0 a1
                          replace p9 := eq_true p9
                          replace q9 := eq_true q9
                          go_wp2_with (first | ((with_reducible refine gate_callee (f := 31) rfl ?_); refine goesL_ (some 26) rfl rfl Try.func31 (by kernel_rfl) rfl #[.int .i64 (wrap64 (bt a0 a1))] rfl (by (try simp only [List.map_toArray, List.map_cons, List.map_nil]); first | done | rfl | (simp only [List.length_drop, List.length_take]; rfl)) ?_; (with_reducible refine (tag_first.calls (wrap64 (bt a0 a1)) true _ A10.out).mono ?_); rintro e w' ⟨rfl, ⟨nd, rfl⟩⟩; refine ⟨_, rfl, ?_⟩; have p17 : 0 ≤ ((ji14) : Int) := of_decide_eq_true (by first | (with_reducible assumption) | assumption); have q17 : (ji14) < (a0.size : Int) := of_decide_eq_true (by first | (with_reducible assumption) | assumption); have hx17 := bt_at a0 (ji14); replace p17 := eq_true p17; replace q17 := eq_true q17) | ((with_reducible refine gate_callee (f := 18) rfl ?_); refine goesL_ (some 50) rfl rfl Try.func18 (by kernel_rfl) rfl #[.int .i64 (Go.bits .or .i64 (wrap64 ((wrap64 (bt a0 a1)) * 256)) (wrap64 (bt a0 (ji14))))] rfl (by (try simp only [List.map_toArray, List.map_cons, List.map_nil]); first | done | (simp only [hji14]; rfl) | rfl | (simp only [List.length_drop, List.length_take]; rfl)) ?_; (with_reducible refine (tag_Right.calls (Go.bits .or .i64 (wrap64 ((wrap64 (bt a0 a1)) * 256)) (wrap64 (bt a0 (ji14)))) false _ A18.out).mono ?_); rintro e w' ⟨rfl, ⟨nd, rfl⟩⟩; refine ⟨_, rfl, ?_⟩))
                          go_ret3
                          exact ⟨by first | rfl | (simp; done) | (simp only [← hji14] <;> (first | rfl | simp)) | (simp [*]; done), by repeat (first | exact Drawn0.refl _ | apply Drawn0.step)⟩
                      · rw [if_neg c16] at H
                        exact absurd H (by simp)
                    · rw [if_neg c15] at H
                      exact absurd H (by simp)
                · rw [if_neg c12] at H
                  have c12b0 : ((Go.bits .and .i64 (wrap64 (bt a0 a1)) 31) == 31) = false := beq_eq_false_iff_ne.mpr c12
                  have c12b1 : ((Go.bits .and .i64 (wrap64 (bt a0 a1)) 31) != 31) = true := bne_iff_ne.mpr c12
                  simp only [Option.some.injEq, Prod.mk.injEq] at H
                  obtain ⟨rfl, rfl, rfl⟩ := H
                  have p9 : 0 ≤ (a1 : Int) := of_decide_eq_true (by first | (with_reducible assumption) | assumption)
                  have q9 : a1 < (a0.size : Int) := of_decide_eq_true (by first | (with_reducible assumption) | assumption)
                  have hx9 := bt_at a0 a1
                  replace p9 := eq_true p9
                  replace q9 := eq_true q9
                  go_wp2_with (first | ((with_reducible refine gate_callee (f := 31) rfl ?_); refine goesL_ (some 26) rfl rfl Try.func31 (by kernel_rfl) rfl #[.int .i64 (wrap64 (bt a0 a1))] rfl (by (try simp only [List.map_toArray, List.map_cons, List.map_nil]); first | done | rfl | (simp only [List.length_drop, List.length_take]; rfl)) ?_; (with_reducible refine (tag_first.calls (wrap64 (bt a0 a1)) true _ A10.out).mono ?_); rintro e w' ⟨rfl, ⟨nd, rfl⟩⟩; refine ⟨_, rfl, ?_⟩))
                  go_ret3
                  exact ⟨by first | rfl | (simp; done) | (simp [*]; done) | (simp [wrap64]; done), by repeat (first | exact Drawn0.refl _ | apply Drawn0.step)⟩
              · replace c11 := Bool.eq_false_iff.mpr c11
                subst c11
                have H1 : (some (0, 0, 13)) = some (r1, r2, r3) := by rw [if_neg (show ¬ (false = true) by decide)] at H; exact H
                clear H
                have H := H1
                clear H1
                simp only [Option.some.injEq, Prod.mk.injEq] at H
                obtain ⟨rfl, rfl, rfl⟩ := H
                have p9 : 0 ≤ (a1 : Int) := of_decide_eq_true (by first | (with_reducible assumption) | assumption)
                have q9 : a1 < (a0.size : Int) := of_decide_eq_true (by first | (with_reducible assumption) | assumption)
                have hx9 := bt_at a0 a1
                replace p9 := eq_true p9
                replace q9 := eq_true q9
                go_wp2_with (first | ((with_reducible refine gate_callee (f := 31) rfl ?_); refine goesL_ (some 26) rfl rfl Try.func31 (by kernel_rfl) rfl #[.int .i64 (wrap64 (bt a0 a1))] rfl (by (try simp only [List.map_toArray, List.map_cons, List.map_nil]); first | done | rfl | (simp only [List.length_drop, List.length_take]; rfl)) ?_; (with_reducible refine (tag_first.calls (wrap64 (bt a0 a1)) false _ A10.out).mono ?_); rintro e w' ⟨rfl, ⟨nd, rfl⟩⟩; refine ⟨_, rfl, ?_⟩))
                go_ret3
                exact ⟨by first | rfl | (simp; done) | (simp [*]; done) | (simp [wrap64]; done), by repeat (first | exact Drawn0.refl _ | apply Drawn0.step)⟩
            · rw [if_neg c8] at H
              exact absurd H (by simp)
          · rw [if_neg c7] at H
            exact absurd H (by simp)

/-! ### ber_Get: function 28 -/
mutual
def ber_Get.j0 : Nat → ByteArray → Int → Bool → Option (Int × Int × Int)
  | 0, _, _, _ => none
  | k + 1, x0, x1, x17 => if x17 = true then (some (0, 0, 1)) else (if x1 = (x0.size : Int) then (some (0, 0, 2)) else (if 0 ≤ x1 then (if x1 < (x0.size : Int) then (if (wrap64 (bt x0 x1)) > 127 then (if (wrap64 (bt x0 x1)) = 128 then (some (0, 0, 14)) else (if (wrap64 (bt x0 x1)) > 130 then (some (0, 0, 14)) else (ber_Get.j1 k x0 (wrap64 (x1 + 1)) 0 (wrap64 ((wrap64 (bt x0 x1)) - 128))))) else (ber_Get.j1 k x0 (wrap64 (x1 + 1)) (wrap64 (bt x0 x1)) 0)) else (none)) else (none)))
def ber_Get.j1 : Nat → ByteArray → Int → Int → Int → Option (Int × Int × Int)
  | 0, _, _, _, _ => none
  | k + 1, x0, x1, x7, x8 => if (wrap64 ((x0.size : Int) - x1)) < x8 then (some (0, 0, 2)) else (ber_Get.l0 k x0 x1 x7 x8 x8 0)
def ber_Get.l0 : Nat → ByteArray → Int → Int → Int → Int → Int → Option (Int × Int × Int)
  | 0, _, _, _, _, _, _ => none
  | k + 1, x0, x1, x7, x8, x44, x45 => if x45 < x44 then (if 0 ≤ (wrap64 (x1 + x45)) then (if (wrap64 (x1 + x45)) < (x0.size : Int) then (ber_Get.l0 k x0 x1 (Go.bits .or .i64 (wrap64 (x7 * 256)) (wrap64 (bt x0 (wrap64 (x1 + x45))))) x8 x44 (wrap64 (x45 + 1))) else (none)) else (none)) else ((ber_Size.f k x7).bind fun t122 => (if t122 = (wrap64 (x8 + 1)) then (some (x7, wrap64 (x1 + x8), 0)) else (some (0, 0, 14))))
end
def ber_Get.f (k : Nat) (a0 : ByteArray) (a1 : Int) : Option (Int × Int × Int) := if a1 < 0 then (ber_Get.j0 k a0 a1 true) else (ber_Get.j0 k a0 a1 (decide (a1 > (a0.size : Int))))
theorem ber_Get.mono_l : ∀ k, (∀ y0 y1 y2, LeO (ber_Get.j0 k y0 y1 y2) (ber_Get.j0 (k + 1) y0 y1 y2)) ∧ (∀ y0 y1 y2 y3, LeO (ber_Get.j1 k y0 y1 y2 y3) (ber_Get.j1 (k + 1) y0 y1 y2 y3)) ∧ (∀ y0 y1 y2 y3 y4 y5, LeO (ber_Get.l0 k y0 y1 y2 y3 y4 y5) (ber_Get.l0 (k + 1) y0 y1 y2 y3 y4 y5))
  | 0 => ⟨fun _ _ _ r h => by simp [ber_Get.j0] at h, fun _ _ _ _ r h => by simp [ber_Get.j1] at h, fun _ _ _ _ _ _ r h => by simp [ber_Get.l0] at h⟩
  | k + 1 => by
    obtain ⟨ih0, ih1, ih2⟩ := ber_Get.mono_l k
    refine ⟨?_, ?_, ?_⟩
    · intro y0 y1 y2
      unfold ber_Get.j0
      repeat' first
      | (with_reducible exact ih0 _ _ _)
      | (with_reducible exact ih1 _ _ _ _)
      | (with_reducible exact ih2 _ _ _ _ _ _)
      | (with_reducible exact ber_Size.mono _ _)
      | (with_reducible exact LeO.refl _)
      | (with_reducible exact LeO.none _)
      | (with_reducible refine LeO.ite ?_ ?_)
      | (with_reducible refine LeO.bind ?_ (fun _ => ?_))
      | exact ih0 _ _ _
      | exact ih1 _ _ _ _
      | exact ih2 _ _ _ _ _ _
      | exact ber_Size.mono _ _
      | exact LeO.none _
      | refine LeO.ite ?_ ?_
      | refine LeO.bind ?_ (fun _ => ?_)
    · intro y0 y1 y2 y3
      unfold ber_Get.j1
      repeat' first
      | (with_reducible exact ih0 _ _ _)
      | (with_reducible exact ih1 _ _ _ _)
      | (with_reducible exact ih2 _ _ _ _ _ _)
      | (with_reducible exact ber_Size.mono _ _)
      | (with_reducible exact LeO.refl _)
      | (with_reducible exact LeO.none _)
      | (with_reducible refine LeO.ite ?_ ?_)
      | (with_reducible refine LeO.bind ?_ (fun _ => ?_))
      | exact ih0 _ _ _
      | exact ih1 _ _ _ _
      | exact ih2 _ _ _ _ _ _
      | exact ber_Size.mono _ _
      | exact LeO.none _
      | refine LeO.ite ?_ ?_
      | refine LeO.bind ?_ (fun _ => ?_)
    · intro y0 y1 y2 y3 y4 y5
      unfold ber_Get.l0
      repeat' first
      | (with_reducible exact ih0 _ _ _)
      | (with_reducible exact ih1 _ _ _ _)
      | (with_reducible exact ih2 _ _ _ _ _ _)
      | (with_reducible exact ber_Size.mono _ _)
      | (with_reducible exact LeO.refl _)
      | (with_reducible exact LeO.none _)
      | (with_reducible refine LeO.ite ?_ ?_)
      | (with_reducible refine LeO.bind ?_ (fun _ => ?_))
      | exact ih0 _ _ _
      | exact ih1 _ _ _ _
      | exact ih2 _ _ _ _ _ _
      | exact ber_Size.mono _ _
      | exact LeO.none _
      | refine LeO.ite ?_ ?_
      | refine LeO.bind ?_ (fun _ => ?_)
theorem ber_Get.mono : ∀ a0 a1 k, LeO (ber_Get.f k a0 a1) (ber_Get.f (k + 1) a0 a1) := by
  intro a0 a1 k
  obtain ⟨ih0, ih1, ih2⟩ := ber_Get.mono_l k
  unfold ber_Get.f
  repeat' first
      | (with_reducible exact ih0 _ _ _)
      | (with_reducible exact ih1 _ _ _ _)
      | (with_reducible exact ih2 _ _ _ _ _ _)
      | (with_reducible exact ber_Size.mono _ _)
      | (with_reducible exact LeO.refl _)
      | (with_reducible exact LeO.none _)
      | (with_reducible refine LeO.ite ?_ ?_)
      | (with_reducible refine LeO.bind ?_ (fun _ => ?_))
      | exact ih0 _ _ _
      | exact ih1 _ _ _ _
      | exact ih2 _ _ _ _ _ _
      | exact ber_Size.mono _ _
      | exact LeO.none _
      | refine LeO.ite ?_ ?_
      | refine LeO.bind ?_ (fun _ => ?_)
set_option maxHeartbeats 8000000 in
set_option maxRecDepth 100000 in
theorem ber_Get.calls (k : Nat) (a0 : ByteArray) (a1 : Int) (r1 : Int) (r2 : Int) (r3 : Int) (w : World) (h : ber_Get.f k a0 a1 = some (r1, r2, r3)) :
    Calls Try.prog 28 #[.string a0, .int .i64 a1] w fun e w' => e = .returned (.tuple #[.int .i64 r1, .int .i64 r2, .int .i64 r3]) ∧ Drawn0 w w' := by
  have H : (if a1 < 0 then (ber_Get.j0 k a0 a1 true) else (ber_Get.j0 k a0 a1 (decide (a1 > (a0.size : Int))))) = some (r1, r2, r3) := h
  clear h
  have HC3 := Aside0.mk H
  clear H
  go_enter Try.func28, Try.ntmps28
  go_upto_region 1 with (fail)
  go_cut [17] (fun v17 wc => ∃ (kq : Nat) (x17_2 : Bool), v17 = .bool x17_2 ∧ Aside0 (ber_Get.j0 kq a0 a1 x17_2 = some (r1, r2, r3)) ∧ Aside0 (kq ≤ k) ∧ Drawn0 w wc)
  case first =>
    have H := HC3.out
    clear HC3
    by_cases c4 : a1 < 0
    · rw [if_pos c4] at H
      have c4b0 : decide (a1 < 0) = true := decide_eq_true c4
      clear c4
      (first | rw [c4b0] | (simp only [i64_w, i32_w]; rw [c4b0]) | skip)
      have H' := Aside0.mk H
      clear H
      go_wp2
      go_meet
      case rel => exact ⟨_, (true), (by first | rfl | (simp; done) | (simp [*]; done)), H', ⟨by first | omega | exact Nat.le_refl _⟩, by repeat (first | exact Drawn0.refl _ | apply Drawn0.step)⟩
    · rw [if_neg c4] at H
      have c4b0 : decide (a1 < 0) = false := decide_eq_false c4
      clear c4
      (first | rw [c4b0] | (simp only [i64_w, i32_w]; rw [c4b0]) | skip)
      have H' := Aside0.mk H
      clear H
      go_wp2
      go_meet
      case rel => exact ⟨_, (decide (a1 > (a0.size : Int))), (by first | rfl | (simp; done) | (simp [*]; done)), H', ⟨by first | omega | exact Nat.le_refl _⟩, by repeat (first | exact Drawn0.refl _ | apply Drawn0.step)⟩
  case rest =>
    clear HC3
    try clear c2
    try clear p2
    try clear c4
    try clear c4b0
    obtain ⟨kq, x17_2, rfl, HA, HJ2, ⟨mc2, rfl⟩⟩ := hcut
    cases kq with
    | zero => exact absurd HA.out (by simp [ber_Get.j0])
    | succ kj2 =>
      have H := HA.out
      clear HA
      simp only [ber_Get.j0] at H
      by_cases c5 : x17_2 = true
      · subst c5
        have H1 : (some (0, 0, 1)) = some (r1, r2, r3) := by rw [if_pos rfl] at H; exact H
        clear H
        have H := H1
        clear H1
        simp only [Option.some.injEq, Prod.mk.injEq] at H
        obtain ⟨rfl, rfl, rfl⟩ := H
        go_wp2
        go_ret3
        exact ⟨by first | rfl | (simp; done) | (simp [*]; done) | (simp [wrap64]; done), by repeat (first | exact Drawn0.refl _ | apply Drawn0.step)⟩
      · replace c5 := Bool.eq_false_iff.mpr c5
        subst c5
        have H1 : (if a1 = (a0.size : Int) then (some (0, 0, 2)) else (if 0 ≤ a1 then (if a1 < (a0.size : Int) then (if (wrap64 (bt a0 a1)) > 127 then (if (wrap64 (bt a0 a1)) = 128 then (some (0, 0, 14)) else (if (wrap64 (bt a0 a1)) > 130 then (some (0, 0, 14)) else (ber_Get.j1 kj2 a0 (wrap64 (a1 + 1)) 0 (wrap64 ((wrap64 (bt a0 a1)) - 128))))) else (ber_Get.j1 kj2 a0 (wrap64 (a1 + 1)) (wrap64 (bt a0 a1)) 0)) else (none)) else (none))) = some (r1, r2, r3) := by rw [if_neg (show ¬ (false = true) by decide)] at H; exact H
        clear H
        have H := H1
        clear H1
        by_cases c6 : a1 = (a0.size : Int)
        · rw [if_pos c6] at H
          have c6b0 : (a1 == (a0.size : Int)) = true := beq_iff_eq.mpr c6
          have c6b1 : (a1 != (a0.size : Int)) = false := bne_eq_false_iff_eq.mpr c6
          clear c6
          simp only [Option.some.injEq, Prod.mk.injEq] at H
          obtain ⟨rfl, rfl, rfl⟩ := H
          go_wp2
          go_ret3
          exact ⟨by first | rfl | (simp; done) | (simp [*]; done) | (simp [wrap64]; done), by repeat (first | exact Drawn0.refl _ | apply Drawn0.step)⟩
        · rw [if_neg c6] at H
          have c6b0 : (a1 == (a0.size : Int)) = false := beq_eq_false_iff_ne.mpr c6
          have c6b1 : (a1 != (a0.size : Int)) = true := bne_iff_ne.mpr c6
          by_cases c7 : 0 ≤ a1
          · rw [if_pos c7] at H
            have c7b0 : decide (0 ≤ a1) = true := decide_eq_true c7
            clear c7
            by_cases c8 : a1 < (a0.size : Int)
            · rw [if_pos c8] at H
              have c8b0 : decide (a1 < (a0.size : Int)) = true := decide_eq_true c8
              clear c8
              have HC10 := Aside0.mk H
              clear H
              have p9 : 0 ≤ (a1 : Int) := of_decide_eq_true (by first | (with_reducible assumption) | assumption)
              have q9 : a1 < (a0.size : Int) := of_decide_eq_true (by first | (with_reducible assumption) | assumption)
              have hx9 := bt_at a0 a1
              replace p9 := eq_true p9
              replace q9 := eq_true q9
              go_upto_if 29 with (fail)
              go_cut [7, 8] (fun v7 v8 wc => ∃ (kq : Nat) (x7_9 : Int) (x8_9 : Int), v7 = .int .i64 x7_9 ∧ v8 = .int .i64 x8_9 ∧ Aside0 (ber_Get.j1 kq a0 (wrap64 (a1 + 1)) x7_9 x8_9 = some (r1, r2, r3)) ∧ Aside0 (kq ≤ kj2) ∧ Drawn0 w wc)
              case first =>
                have H := HC10.out
                clear HC10
                by_cases c11 : (wrap64 (bt a0 a1)) > 127
                · rw [if_pos c11] at H
                  have c11b0 : decide (127 < (wrap64 (bt a0 a1))) = true := decide_eq_true c11
                  clear c11
                  (first | rw [c11b0] | (simp only [i64_w, i32_w]; rw [c11b0]) | skip)
                  by_cases c12 : (wrap64 (bt a0 a1)) = 128
                  · rw [if_pos c12] at H
                    have c12b0 : ((wrap64 (bt a0 a1)) == 128) = true := beq_iff_eq.mpr c12
                    have c12b1 : ((wrap64 (bt a0 a1)) != 128) = false := bne_eq_false_iff_eq.mpr c12
                    clear c12
                    simp only [Option.some.injEq, Prod.mk.injEq] at H
                    obtain ⟨rfl, rfl, rfl⟩ := H
                    go_wp2
                    go_ret3
                    exact ⟨by first | rfl | (simp; done) | (simp [*]; done) | (simp [wrap64]; done), by repeat (first | exact Drawn0.refl _ | apply Drawn0.step)⟩
                  · rw [if_neg c12] at H
                    have c12b0 : ((wrap64 (bt a0 a1)) == 128) = false := beq_eq_false_iff_ne.mpr c12
                    have c12b1 : ((wrap64 (bt a0 a1)) != 128) = true := bne_iff_ne.mpr c12
                    by_cases c13 : (wrap64 (bt a0 a1)) > 130
                    · rw [if_pos c13] at H
                      have c13b0 : decide (130 < (wrap64 (bt a0 a1))) = true := decide_eq_true c13
                      clear c13
                      simp only [Option.some.injEq, Prod.mk.injEq] at H
                      obtain ⟨rfl, rfl, rfl⟩ := H
                      go_wp2
                      go_ret3
                      exact ⟨by first | rfl | (simp; done) | (simp [*]; done) | (simp [wrap64]; done), by repeat (first | exact Drawn0.refl _ | apply Drawn0.step)⟩
                    · rw [if_neg c13] at H
                      have c13b0 : decide (130 < (wrap64 (bt a0 a1))) = false := decide_eq_false c13
                      clear c13
                      have H' := Aside0.mk H
                      clear H
                      go_wp2
                      go_meet
                      case rel => exact ⟨_, (0), (wrap64 ((wrap64 (bt a0 a1)) - 128)), (by first | rfl | (simp; done) | (simp [*]; done)), (by first | rfl | (simp; done) | (simp [*]; done)), H', ⟨by have := HJ2.out; first | omega | exact Nat.le_refl _⟩, by repeat (first | exact Drawn0.refl _ | apply Drawn0.step)⟩
                · rw [if_neg c11] at H
                  have c11b0 : decide (127 < (wrap64 (bt a0 a1))) = false := decide_eq_false c11
                  clear c11
                  (first | rw [c11b0] | (simp only [i64_w, i32_w]; rw [c11b0]) | skip)
                  have H' := Aside0.mk H
                  clear H
                  go_wp2
                  go_meet
                  case rel => exact ⟨_, (wrap64 (bt a0 a1)), (0), (by first | rfl | (simp; done) | (simp [*]; done)), (by first | rfl | (simp; done) | (simp [*]; done)), H', ⟨by have := HJ2.out; first | omega | exact Nat.le_refl _⟩, by repeat (first | exact Drawn0.refl _ | apply Drawn0.step)⟩
              case rest =>
                clear HC10
                try clear c1
                try clear c2
                try clear p2
                try clear c4
                try clear c4b0
                try clear c5
                try clear c6
                try clear c6b0
                try clear c6b1
                try clear p6
                try clear c7
                try clear c7b0
                try clear c8
                try clear c8b0
                try clear p9
                try clear q9
                try clear hx9
                try clear c11
                try clear c11b0
                try clear c12
                try clear c12b0
                try clear c12b1
                try clear c13
                try clear c13b0
                try clear p2
                try clear p9
                try clear q9
                obtain ⟨kq, x7_9, x8_9, rfl, rfl, HA, HJ9, ⟨mc9, rfl⟩⟩ := hcut
                cases kq with
                | zero => exact absurd HA.out (by simp [ber_Get.j1])
                | succ kj9 =>
                  have H := HA.out
                  clear HA
                  simp only [ber_Get.j1] at H
                  by_cases c14 : (wrap64 ((a0.size : Int) - (wrap64 (a1 + 1)))) < x8_9
                  · rw [if_pos c14] at H
                    have c14b0 : decide ((wrap64 ((a0.size : Int) - (wrap64 (a1 + 1)))) < x8_9) = true := decide_eq_true c14
                    clear c14
                    simp only [Option.some.injEq, Prod.mk.injEq] at H
                    obtain ⟨rfl, rfl, rfl⟩ := H
                    go_wp2
                    go_ret3
                    exact ⟨by first | rfl | (simp; done) | (simp [*]; done) | (simp [wrap64]; done), by repeat (first | exact Drawn0.refl _ | apply Drawn0.step)⟩
                  · rw [if_neg c14] at H
                    have c14b0 : decide ((wrap64 ((a0.size : Int) - (wrap64 (a1 + 1)))) < x8_9) = false := decide_eq_false c14
                    clear c14
                    have H' := Aside0.mk H
                    clear H
                    go_wp2
                    go_loopg [7, 45] kj9 (fun kq v7 v45 w' => ∃ (x7_3 : Int) (x45_3 : Int), v7 = .int .i64 x7_3 ∧ v45 = .int .i64 x45_3 ∧ Aside0 (ber_Get.l0 kq a0 (wrap64 (a1 + 1)) x7_3 x8_9 x8_9 x45_3 = some (r1, r2, r3)) ∧ Aside0 (kq ≤ kj9) ∧ Drawn0 w w')
                    case atStart => exact ⟨(x7_9), (0), (by first | rfl | (simp; done) | (simp [*]; done)), (by first | rfl | (simp; done) | (simp [*]; done)), H', ⟨Nat.le_refl _⟩, by repeat (first | exact Drawn0.refl _ | apply Drawn0.step)⟩
                    case round =>
                      clear H'
                      try clear c1
                      try clear c2
                      try clear p2
                      try clear c4
                      try clear c4b0
                      try clear c5
                      try clear c6
                      try clear c6b0
                      try clear c6b1
                      try clear p6
                      try clear c7
                      try clear c7b0
                      try clear c8
                      try clear c8b0
                      try clear c9
                      try clear p9
                      try clear q9
                      try clear hx9
                      try clear c11
                      try clear c11b0
                      try clear c12
                      try clear c12b0
                      try clear c12b1
                      try clear c13
                      try clear c13b0
                      try clear c14
                      try clear c14b0
                      try clear p2
                      try clear p6
                      try clear p9
                      try clear q9
                      obtain ⟨x7_3, x45_3, rfl, rfl, HA, HK3, ⟨m3, rfl⟩⟩ := hrel
                      cases gk with
                      | zero => exact absurd HA.out (by simp [ber_Get.l0])
                      | succ k3 =>
                        have H := HA.out
                        clear HA
                        simp only [ber_Get.l0] at H
                        by_cases c15 : x45_3 < x8_9
                        · rw [if_pos c15] at H
                          have c15b0 : decide (x45_3 < x8_9) = true := decide_eq_true c15
                          clear c15
                          obtain ⟨ji16, hji16⟩ : ∃ j_ : Int, (wrap64 ((wrap64 (a1 + 1)) + x45_3)) = j_ := ⟨_, rfl⟩
                          replace H : (if 0 ≤ (ji16) then (if (ji16) < (a0.size : Int) then (ber_Get.l0 k3 a0 (wrap64 (a1 + 1)) (Go.bits .or .i64 (wrap64 (x7_3 * 256)) (wrap64 (bt a0 (ji16)))) x8_9 x8_9 (wrap64 (x45_3 + 1))) else (none)) else (none)) = some (r1, r2, r3) := by first | (rw [hji16] at H; exact H) | (simp only [hji16] at H ⊢; exact H)
                          have hji16w : (IntKind.i64.wrap ((wrap64 (a1 + 1)) + x45_3)) = ji16 := (i64_w _).trans hji16
                          by_cases c17 : 0 ≤ (ji16)
                          · rw [if_pos c17] at H
                            have c17b0 : decide (0 ≤ (ji16)) = true := decide_eq_true c17
                            clear c17
                            by_cases c18 : (ji16) < (a0.size : Int)
                            · rw [if_pos c18] at H
                              have c18b0 : decide ((ji16) < (a0.size : Int)) = true := decide_eq_true c18
                              clear c18
                              have H' := Aside0.mk H
                              clear H
                              have p19 : 0 ≤ ((ji16) : Int) := of_decide_eq_true (by first | (with_reducible assumption) | assumption)
                              have q19 : (ji16) < (a0.size : Int) := of_decide_eq_true (by first | (with_reducible assumption) | assumption)
                              have hx19 := bt_at a0 (ji16)
                              replace p19 := eq_true p19
                              replace q19 := eq_true q19
                              go_wp2
                              go_roundg k3
                              case measure => have := HJ2.out; have := HJ9.out; have := HK3.out; omega
                              case rel => exact ⟨(Go.bits .or .i64 (wrap64 (x7_3 * 256)) (wrap64 (bt a0 (ji16)))), (wrap64 (x45_3 + 1)), (by first | rfl | (simp; done) | (simp only [← hji16] <;> (first | rfl | simp)) | (simp [*]; done)), (by first | rfl | (simp; done) | (simp [*]; done)), H', ⟨by have := HJ2.out; have := HJ9.out; have := HK3.out; omega⟩, by repeat (first | exact Drawn0.refl _ | apply Drawn0.step)⟩
                            · rw [if_neg c18] at H
                              exact absurd H (by simp)
                          · rw [if_neg c17] at H
                            exact absurd H (by simp)
                        · rw [if_neg c15] at H
                          have c15b0 : decide (x45_3 < x8_9) = false := decide_eq_false c15
                          clear c15
                          replace H := Option.bind_eq_some_iff.mp H
                          obtain ⟨t122, A200, H⟩ := H
                          replace H : (if t122 = (wrap64 (x8_9 + 1)) then (some (x7_3, wrap64 ((wrap64 (a1 + 1)) + x8_9), 0)) else (some (0, 0, 14))) = some (r1, r2, r3) := H
                          have A20 := Aside0.mk A200
                          clear A200
                          by_cases c21 : t122 = (wrap64 (x8_9 + 1))
                          · rw [if_pos c21] at H
                            have c21b0 : (t122 == (wrap64 (x8_9 + 1))) = true := beq_iff_eq.mpr c21
                            have c21b1 : (t122 != (wrap64 (x8_9 + 1))) = false := bne_eq_false_iff_eq.mpr c21
                            clear c21
                            simp only [Option.some.injEq, Prod.mk.injEq] at H
                            obtain ⟨rfl, rfl, rfl⟩ := H
                            go_wp2_with (first | ((with_reducible refine gate_callee (f := 33) rfl ?_); refine goesL_ (some 59) rfl rfl Try.func33 (by kernel_rfl) rfl #[.int .i64 x7_3] rfl (by (try simp only [List.map_toArray, List.map_cons, List.map_nil]); first | done | rfl | (simp only [List.length_drop, List.length_take]; rfl)) ?_; (with_reducible refine (ber_Size.calls k3 x7_3 t122 _ A20.out).mono ?_); rintro e w' ⟨rfl, ⟨nd, rfl⟩⟩; refine ⟨_, rfl, ?_⟩))
                            go_ret3
                            exact ⟨by first | rfl | (simp; done) | (simp [*]; done) | (simp [wrap64]; done), by repeat (first | exact Drawn0.refl _ | apply Drawn0.step)⟩
                          · rw [if_neg c21] at H
                            have c21b0 : (t122 == (wrap64 (x8_9 + 1))) = false := beq_eq_false_iff_ne.mpr c21
                            have c21b1 : (t122 != (wrap64 (x8_9 + 1))) = true := bne_iff_ne.mpr c21
                            simp only [Option.some.injEq, Prod.mk.injEq] at H
                            obtain ⟨rfl, rfl, rfl⟩ := H
                            go_wp2_with (first | ((with_reducible refine gate_callee (f := 33) rfl ?_); refine goesL_ (some 59) rfl rfl Try.func33 (by kernel_rfl) rfl #[.int .i64 x7_3] rfl (by (try simp only [List.map_toArray, List.map_cons, List.map_nil]); first | done | rfl | (simp only [List.length_drop, List.length_take]; rfl)) ?_; (with_reducible refine (ber_Size.calls k3 x7_3 t122 _ A20.out).mono ?_); rintro e w' ⟨rfl, ⟨nd, rfl⟩⟩; refine ⟨_, rfl, ?_⟩))
                            go_ret3
                            exact ⟨by first | rfl | (simp; done) | (simp [*]; done) | (simp [wrap64]; done), by repeat (first | exact Drawn0.refl _ | apply Drawn0.step)⟩
            · rw [if_neg c8] at H
              exact absurd H (by simp)
          · rw [if_neg c7] at H
            exact absurd H (by simp)

/-! ### tlv_Get: function 14 -/
def tlv_Get.l0 : Nat → ByteArray → List (S42) → Int → Option ((List (S42)) × Int × Int)
  | 0, _, _, _ => none
  | k + 1, x0, x5, x7 => if x7 < (x0.size : Int) then ((tag_Get.f k x0 x7).bind fun bt123 => (if bt123.2.2 = 0 then ((ber_Get.f k x0 bt123.2.1).bind fun bt126 => (if bt126.2.2 = 0 then (if (wrap64 ((x0.size : Int) - bt126.2.1)) < bt126.1 then (some (([] : List (S42)), 2, (x0.size : Int))) else (if bt123.1 ∈ x5.map S42.f0 then (some (([] : List (S42)), 10, x7)) else (if 0 ≤ bt126.2.1 then (if bt126.2.1 ≤ (wrap64 (bt126.2.1 + bt126.1)) then (if (wrap64 (bt126.2.1 + bt126.1)) ≤ (x0.size : Int) then (if x5.length < 5864062014805 ∧ (Lit.int .i64 bt123.1).wf = true then (tlv_Get.l0 k x0 (x5 ++ [(⟨bt123.1, x0.extract (bt126.2.1 : Int).toNat ((wrap64 (bt126.2.1 + bt126.1)) : Int).toNat⟩ : S42)]) (wrap64 (bt126.2.1 + bt126.1))) else (none)) else (none)) else (none)) else (none)))) else (some (([] : List (S42)), bt126.2.2, bt123.2.1)))) else (some (([] : List (S42)), bt123.2.2, x7)))) else (some (x5, 0, 0))
def tlv_Get.f (k : Nat) (a0 : ByteArray) : Option ((List (S42)) × Int × Int) := tlv_Get.l0 k a0 ([] : List (S42)) 0
theorem tlv_Get.mono_l : ∀ k, (∀ y0 y1 y2, LeO (tlv_Get.l0 k y0 y1 y2) (tlv_Get.l0 (k + 1) y0 y1 y2))
  | 0 => fun _ _ _ r h => by simp [tlv_Get.l0] at h
  | k + 1 => by
    have ih0 := tlv_Get.mono_l k
    · intro y0 y1 y2
      unfold tlv_Get.l0
      repeat' first
      | (with_reducible exact ih0 _ _ _)
      | (with_reducible exact ber_Get.mono _ _ _)
      | (with_reducible exact tag_Get.mono _ _ _)
      | (with_reducible exact LeO.refl _)
      | (with_reducible exact LeO.none _)
      | (with_reducible refine LeO.ite ?_ ?_)
      | (with_reducible refine LeO.bind ?_ (fun _ => ?_))
      | exact ih0 _ _ _
      | exact ber_Get.mono _ _ _
      | exact tag_Get.mono _ _ _
      | exact LeO.none _
      | refine LeO.ite ?_ ?_
      | refine LeO.bind ?_ (fun _ => ?_)
theorem tlv_Get.mono : ∀ a0 k, LeO (tlv_Get.f k a0) (tlv_Get.f (k + 1) a0) := by
  intro a0 k
  have ih0 := tlv_Get.mono_l k
  unfold tlv_Get.f
  repeat' first
      | (with_reducible exact ih0 _ _ _)
      | (with_reducible exact ber_Get.mono _ _ _)
      | (with_reducible exact tag_Get.mono _ _ _)
      | (with_reducible exact LeO.refl _)
      | (with_reducible exact LeO.none _)
      | (with_reducible refine LeO.ite ?_ ?_)
      | (with_reducible refine LeO.bind ?_ (fun _ => ?_))
      | exact ih0 _ _ _
      | exact ber_Get.mono _ _ _
      | exact tag_Get.mono _ _ _
      | exact LeO.none _
      | refine LeO.ite ?_ ?_
      | refine LeO.bind ?_ (fun _ => ?_)
set_option maxHeartbeats 8000000 in
set_option maxRecDepth 100000 in
theorem tlv_Get.calls (k : Nat) (a0 : ByteArray) (r1 : List (S42)) (r2 : Int) (r3 : Int) (w : World) (h : tlv_Get.f k a0 = some (r1, r2, r3)) :
    Calls Try.prog 14 #[.string a0] w fun e w' => ∃ v0_ : Value, e = .returned (.tuple #[v0_, .int .i64 r2, .int .i64 r3]) ∧ Kd.R k42 42 w' w.heap.size (fun _ => True) v0_ r1 ∧ Below w.heap.size w w' := by
  have hu42 := Try.underlying42
  have HB := Aside0.mk (Below.refl w.heap.size w)
  have hmm := @run_makeMap Try.prog
  have H : (tlv_Get.l0 k a0 ([] : List (S42)) 0) = some (r1, r2, r3) := h
  clear h
  have H' := Aside0.mk H
  clear H
  go_enter Try.func14, Try.ntmps14
  go_wp2
  have HM0 := Aside0.mk (AskedI.made Try.prog 3 4 w)
  have HB0 := Aside0.mk (below_alloc HB.out (.map #[] 0))
  go_loopg [5, 7] k (fun kq v5 v7 w' => ∃ (x5_1 : List (S42)) (x7_1 : Int), v7 = .int .i64 x7_1 ∧ Aside0 (tlv_Get.l0 kq a0 x5_1 x7_1 = some (r1, r2, r3)) ∧ Aside0 (kq ≤ k) ∧ Aside0 (Kd.R k42 42 w' w.heap.size (fun k_ => k_ ≠ w.heap.size) v5 x5_1) ∧ Aside0 (Below w.heap.size w w') ∧ Aside0 (AskedI Try.prog 3 4 w' w.heap.size x5_1.length (x5_1.map S42.f0)) ∧ Aside0 (∀ p ∈ x5_1, (Lit.int .i64 p.f0).wf = true))
  case atStart => exact ⟨([] : List (S42)), 0, rfl, H', ⟨Nat.le_refl _⟩, ⟨Kd.R_nil _ _ _ _ _⟩, HB0, HM0, ⟨fun p hp => by cases hp⟩⟩
  case round =>
    clear H' HM0 HB0 hmm HB
    try clear c1
    obtain ⟨x5_1, x7_1, rfl, HA, HK1, HO_5, HB, HS, HW⟩ := hrel
    cases gk with
    | zero => exact absurd HA.out (by simp [tlv_Get.l0])
    | succ k1 =>
      have H := HA.out
      clear HA
      simp only [tlv_Get.l0] at H
      by_cases c2 : x7_1 < (a0.size : Int)
      · rw [if_pos c2] at H
        have c2b0 : decide (x7_1 < (a0.size : Int)) = true := decide_eq_true c2
        clear c2
        replace H := Option.bind_eq_some_iff.mp H
        obtain ⟨⟨t123, t124, t125⟩, A30, H⟩ := H
        replace H : (if t125 = 0 then ((ber_Get.f k1 a0 t124).bind fun bt126 => (if bt126.2.2 = 0 then (if (wrap64 ((a0.size : Int) - bt126.2.1)) < bt126.1 then (some (([] : List (S42)), 2, (a0.size : Int))) else (if t123 ∈ x5_1.map S42.f0 then (some (([] : List (S42)), 10, x7_1)) else (if 0 ≤ bt126.2.1 then (if bt126.2.1 ≤ (wrap64 (bt126.2.1 + bt126.1)) then (if (wrap64 (bt126.2.1 + bt126.1)) ≤ (a0.size : Int) then (if x5_1.length < 5864062014805 ∧ (Lit.int .i64 t123).wf = true then (tlv_Get.l0 k1 a0 (x5_1 ++ [(⟨t123, a0.extract (bt126.2.1 : Int).toNat ((wrap64 (bt126.2.1 + bt126.1)) : Int).toNat⟩ : S42)]) (wrap64 (bt126.2.1 + bt126.1))) else (none)) else (none)) else (none)) else (none)))) else (some (([] : List (S42)), bt126.2.2, t124)))) else (some (([] : List (S42)), t125, x7_1))) = some (r1, r2, r3) := H
        have A3 := Aside0.mk A30
        clear A30
        by_cases c4 : t125 = 0
        · rw [if_pos c4] at H
          have c4b0 : (t125 == 0) = true := beq_iff_eq.mpr c4
          have c4b1 : (t125 != 0) = false := bne_eq_false_iff_eq.mpr c4
          clear c4
          replace H := Option.bind_eq_some_iff.mp H
          obtain ⟨⟨t126, t127, t128⟩, A50, H⟩ := H
          replace H : (if t128 = 0 then (if (wrap64 ((a0.size : Int) - t127)) < t126 then (some (([] : List (S42)), 2, (a0.size : Int))) else (if t123 ∈ x5_1.map S42.f0 then (some (([] : List (S42)), 10, x7_1)) else (if 0 ≤ t127 then (if t127 ≤ (wrap64 (t127 + t126)) then (if (wrap64 (t127 + t126)) ≤ (a0.size : Int) then (if x5_1.length < 5864062014805 ∧ (Lit.int .i64 t123).wf = true then (tlv_Get.l0 k1 a0 (x5_1 ++ [(⟨t123, a0.extract (t127 : Int).toNat ((wrap64 (t127 + t126)) : Int).toNat⟩ : S42)]) (wrap64 (t127 + t126))) else (none)) else (none)) else (none)) else (none)))) else (some (([] : List (S42)), t128, t124))) = some (r1, r2, r3) := H
          have A5 := Aside0.mk A50
          clear A50
          by_cases c6 : t128 = 0
          · rw [if_pos c6] at H
            have c6b0 : (t128 == 0) = true := beq_iff_eq.mpr c6
            have c6b1 : (t128 != 0) = false := bne_eq_false_iff_eq.mpr c6
            clear c6
            by_cases c7 : (wrap64 ((a0.size : Int) - t127)) < t126
            · rw [if_pos c7] at H
              have c7b0 : decide ((wrap64 ((a0.size : Int) - t127)) < t126) = true := decide_eq_true c7
              clear c7
              simp only [Option.some.injEq, Prod.mk.injEq] at H
              obtain ⟨rfl, rfl, rfl⟩ := H
              go_wp2_with (first | ((with_reducible refine gate_callee (f := 27) rfl ?_); refine goesL_ (some 21) rfl rfl Try.func27 (by kernel_rfl) rfl #[.string a0, .int .i64 x7_1] rfl (by (try simp only [List.map_toArray, List.map_cons, List.map_nil]); first | done | rfl | (simp only [List.length_drop, List.length_take]; rfl)) ?_; (with_reducible refine (tag_Get.calls k1 a0 x7_1 t123 t124 t125 _ A3.out).mono ?_); rintro e w' ⟨rfl, ⟨nd, rfl⟩⟩; refine ⟨_, rfl, ?_⟩) | ((with_reducible refine gate_callee (f := 28) rfl ?_); refine goesL_ (some 32) rfl rfl Try.func28 (by kernel_rfl) rfl #[.string a0, .int .i64 t124] rfl (by (try simp only [List.map_toArray, List.map_cons, List.map_nil]); first | done | rfl | (simp only [List.length_drop, List.length_take]; rfl)) ?_; (with_reducible refine (ber_Get.calls k1 a0 t124 t126 t127 t128 _ A5.out).mono ?_); rintro e w' ⟨rfl, ⟨nd, rfl⟩⟩; refine ⟨_, rfl, ?_⟩))
              go_ret3
              exact ⟨_, by first | rfl | (simp [errW_none, errW_some] <;> rfl) | (simp [*, errW_none, errW_some] <;> rfl), by first | exact Kd.R_nil _ _ _ _ _ | exact Kd.N_nil _ _ _ _ _ | exact Kd.V_nil _ _ _ _ _ | exact Kd.Q_nil _ _ _ _ _ | exact Kd.S_nil _ _ _ _ _, by repeat (first | (with_reducible first | exact HB.out | apply below_alloc | apply pw_below_drewN | apply below_drew1) | exact HB.out)⟩
            · rw [if_neg c7] at H
              have c7b0 : decide ((wrap64 ((a0.size : Int) - t127)) < t126) = false := decide_eq_false c7
              clear c7
              by_cases c8 : t123 ∈ x5_1.map S42.f0
              · rw [if_pos c8] at H
                have CM := Aside0.mk c8
                clear c8
                simp only [Option.some.injEq, Prod.mk.injEq] at H
                obtain ⟨rfl, rfl, rfl⟩ := H
                obtain ⟨f, hf, hmem⟩ := HS.out
                have HF := Aside0.mk (fun n : Nat => hf.drewN n)
                have HA1 := Aside0.mk hmem
                have HKY : Aside0 (keyOf Try.prog 3 (.int .i64 t123) = some (Lit.int .i64 t123)) := ⟨Go.Maps.keyOf_int_mk Try.underlying3 (by obtain ⟨p, hp, e⟩ := List.mem_map.1 CM.out; rw [← e]; exact HW.out p hp)⟩
                have hl := fun n : Nat => (HF.out n).lookup law3 Try.underlying44 Try.underlying4 (zero4 _) HKY.out
                rw [HA1.out t123, decide_eq_true CM.out] at hl
                clear hf hmem
                go_wp2_with (first | ((with_reducible refine gate_callee (f := 27) rfl ?_); refine goesL_ (some 21) rfl rfl Try.func27 (by kernel_rfl) rfl #[.string a0, .int .i64 x7_1] rfl (by (try simp only [List.map_toArray, List.map_cons, List.map_nil]); first | done | rfl | (simp only [List.length_drop, List.length_take]; rfl)) ?_; (with_reducible refine (tag_Get.calls k1 a0 x7_1 t123 t124 t125 _ A3.out).mono ?_); rintro e w' ⟨rfl, ⟨nd, rfl⟩⟩; refine ⟨_, rfl, ?_⟩) | ((with_reducible refine gate_callee (f := 28) rfl ?_); refine goesL_ (some 32) rfl rfl Try.func28 (by kernel_rfl) rfl #[.string a0, .int .i64 t124] rfl (by (try simp only [List.map_toArray, List.map_cons, List.map_nil]); first | done | rfl | (simp only [List.length_drop, List.length_take]; rfl)) ?_; (with_reducible refine (ber_Get.calls k1 a0 t124 t126 t127 t128 _ A5.out).mono ?_); rintro e w' ⟨rfl, ⟨nd, rfl⟩⟩; refine ⟨_, rfl, ?_⟩))
                go_ret3
                exact ⟨_, by first | rfl | (simp [errW_none, errW_some] <;> rfl) | (simp [*, errW_none, errW_some] <;> rfl), by first | exact Kd.R_nil _ _ _ _ _ | exact Kd.N_nil _ _ _ _ _ | exact Kd.V_nil _ _ _ _ _ | exact Kd.Q_nil _ _ _ _ _ | exact Kd.S_nil _ _ _ _ _, by repeat (first | (with_reducible first | exact HB.out | apply below_alloc | apply pw_below_drewN | apply below_drew1) | exact HB.out)⟩
              · rw [if_neg c8] at H
                have CM := Aside0.mk c8
                clear c8
                by_cases c9 : 0 ≤ t127
                · rw [if_pos c9] at H
                  have c9b0 := eq_true c9
                  have c9b1 : decide (0 ≤ t127) = true := decide_eq_true c9
                  clear c9
                  by_cases c10 : t127 ≤ (wrap64 (t127 + t126))
                  · rw [if_pos c10] at H
                    have c10b0 := eq_true c10
                    have c10b1 : decide (t127 ≤ (wrap64 (t127 + t126))) = true := decide_eq_true c10
                    by_cases c11 : (wrap64 (t127 + t126)) ≤ (a0.size : Int)
                    · rw [if_pos c11] at H
                      have c11b0 := eq_true c11
                      have c11b1 : decide ((wrap64 (t127 + t126)) ≤ (a0.size : Int)) = true := decide_eq_true c11
                      by_cases c12 : x5_1.length < 5864062014805 ∧ (Lit.int .i64 t123).wf = true
                      · rw [if_pos c12] at H
                        have LMc12 := Aside0.mk c12.1
                        have WF12 := Aside0.mk c12.2
                        clear c12
                        obtain ⟨y129, hy129⟩ : ∃ y_ : List (S42), y_ = (x5_1 ++ [(⟨t123, a0.extract (t127 : Int).toNat ((wrap64 (t127 + t126)) : Int).toNat⟩ : S42)]) := ⟨_, rfl⟩
                        replace H : (tlv_Get.l0 k1 a0 y129 (wrap64 (t127 + t126))) = some (r1, r2, r3) := by first | (rw [hy129]; with_reducible exact H) | (have H2_ := (Option.bind_some _ _).symm.trans H; rw [hy129]; with_reducible exact H2_) | (have H2_ := (Option.bind_some _ _).symm.trans H; with_reducible exact H2_) | with_reducible exact H | (rw [hy129]; exact H) | exact H
                        have Ny129 := Aside0.mk hy129
                        clear hy129
                        have H' := Aside0.mk H
                        clear H
                        obtain ⟨f, hf, hmem⟩ := HS.out
                        have HF := Aside0.mk (fun n : Nat => hf.drewN n)
                        have HA1 := Aside0.mk hmem
                        have HKY : Aside0 (keyOf Try.prog 3 (.int .i64 t123) = some (Lit.int .i64 t123)) := ⟨Go.Maps.keyOf_int_mk Try.underlying3 (WF12.out)⟩
                        have hl := fun n : Nat => (HF.out n).lookup law3 Try.underlying44 Try.underlying4 (zero4 _) HKY.out
                        rw [HA1.out t123, decide_eq_false CM.out] at hl
                        clear hf hmem
                        have HX : Aside0 (x5_1.length < maxLen) := ⟨by have := LMc12.out; unfold maxLen; omega⟩
                        go_wp2_with (first | ((with_reducible refine gate_callee (f := 27) rfl ?_); refine goesL_ (some 21) rfl rfl Try.func27 (by kernel_rfl) rfl #[.string a0, .int .i64 x7_1] rfl (by (try simp only [List.map_toArray, List.map_cons, List.map_nil]); first | done | rfl | (simp only [List.length_drop, List.length_take]; rfl)) ?_; (with_reducible refine (tag_Get.calls k1 a0 x7_1 t123 t124 t125 _ A3.out).mono ?_); rintro e w' ⟨rfl, ⟨nd, rfl⟩⟩; refine ⟨_, rfl, ?_⟩) | ((with_reducible refine gate_callee (f := 28) rfl ?_); refine goesL_ (some 32) rfl rfl Try.func28 (by kernel_rfl) rfl #[.string a0, .int .i64 t124] rfl (by (try simp only [List.map_toArray, List.map_cons, List.map_nil]); first | done | rfl | (simp only [List.length_drop, List.length_take]; rfl)) ?_; (with_reducible refine (ber_Get.calls k1 a0 t124 t126 t127 t128 _ A5.out).mono ?_); rintro e w' ⟨rfl, ⟨nd, rfl⟩⟩; refine ⟨_, rfl, ?_⟩) | (at_mapUpdate; refine Go.Proofs.Ytebapdkfndlpgaa.G.wp_seen_put (P := Try.prog) (K := 3) (E := 4) _ rfl _ _ _ 44 rfl law3 Try.underlying44 Try.underlying4 _ x5_1.length f rfl (HF.out _) HX.out _ _ rfl rfl HKY.out (by exact trivial) ?_; intro wm hs1 hg1; have n0_ := Aside0.mk (Below.grown (pw_below_drewN HB.out _) hg1 (below_size (pw_below_drewN HB.out _)) (fun k hk => by cases hk; exact Nat.le_refl _)); have n1_ := Aside0.mk (Kd.R_grown (Kd.R_drewN HO_5.out _) hg1 (fun k hk e => hk (by injection e))); have HS1 := Aside0.mk hs1; clear HB HO_5; have HB := n0_; have HO_5 := n1_; clear n0_ n1_ hs1 hg1) | ((with_reducible refine gate_builtin (b := .append) (xs := #[.tmp 57, .tmp 66]) rfl ?_); at_builtin; refine Kd.R_append k42 (w0 := w) w.heap.size rfl (.tmp 57) (.tmp 66) 22 42 (.agg #[(.int .i64 0), (.string ⟨#[]⟩)]) 24 rfl Try.underlying22 info42 rfl (by decide) (by omega) u5 x5_1 (⟨t123, a0.extract (t127 : Int).toNat ((wrap64 (t127 + t126)) : Int).toNat⟩ : S42) [.int .i64 t123, .string (a0.extract (t127 : Int).toNat ((wrap64 (t127 + t126)) : Int).toNat)] (fun k_ => k_ ≠ w.heap.size) (fun _ => False) rfl rfl ?aP (fun _ hk => hk.elim) ?aF ?aO ?aB ?aS ?aL ?_; (case aP => exact k42_mkM _ _ _ (⟨t123, a0.extract (t127 : Int).toNat ((wrap64 (t127 + t126)) : Int).toNat⟩ : S42)); (case aB => exact (by repeat (first | (with_reducible first | exact HB.out | apply below_alloc | apply pw_below_drewN | apply below_drew1) | exact HB.out))); (case aF => exact (fun k_ hk_ => by have := HS1.out.lt; omega)); (case aO => exact (by (with_reducible repeat (first | apply Kd.R_alloc | apply Kd.R_drewN | apply Kd.R_drew)); exact HO_5.out)); (case aS => exact (below_size (by repeat (first | (with_reducible first | exact HB.out | apply below_alloc | apply pw_below_drewN | apply below_drew1) | exact HB.out)))); (case aL => have := LMc12.out; omega); intro v130 w13 ho hb hg hat; rw [← Ny129.out] at ho; have n0_ := Aside0.mk (hb); have n1_ := Aside0.mk (ho); have n2_ := Aside0.mk (Go.Proofs.Ytebapdkfndlpgaa.G.Seen.grown HS1.out hg (Kd.R_away HO_5.out (fun k hk => hk))); clear HB; clear HO_5; have HB := n0_; have HO131 := n1_; have HS2 := n2_; clear n0_ n1_ n2_; clear ho hb hg hat))
                        go_roundg k1
                        case measure => have := HK1.out; omega
                        case rel =>
                          refine ⟨y129, wrap64 (t127 + t126), (by first | rfl | (simp; done) | (simp [*]; done)), H', ⟨by have := HK1.out; omega⟩, ⟨HO131.out⟩, HB, ⟨?_⟩, ⟨?_⟩⟩
                          · refine ⟨Go.Proofs.Ytebapdkfndlpgaa.G.more (Lit.int .i64 t123) f, ?_, fun s => ?_⟩
                            · rw [Ny129.out, List.length_append]; exact HS2.out
                            · rw [Ny129.out]
                              by_cases e : s = t123
                              · subst e
                                rw [Go.Proofs.Ytebapdkfndlpgaa.G.more_same]
                                simp
                              · rw [Go.Proofs.Ytebapdkfndlpgaa.G.more_other _ (by intro c; cases c; exact e rfl), HA1.out s]
                                simp [e]
                          · rw [Ny129.out]
                            intro p hp
                            rcases List.mem_append.1 hp with hp | hp
                            · exact HW.out p hp
                            · rw [List.mem_singleton.1 hp]; exact WF12.out
                      · rw [if_neg c12] at H
                        exact absurd H (by simp)
                    · rw [if_neg c11] at H
                      exact absurd H (by simp)
                  · rw [if_neg c10] at H
                    exact absurd H (by simp)
                · rw [if_neg c9] at H
                  exact absurd H (by simp)
          · rw [if_neg c6] at H
            have c6b0 : (t128 == 0) = false := beq_eq_false_iff_ne.mpr c6
            have c6b1 : (t128 != 0) = true := bne_iff_ne.mpr c6
            simp only [Option.some.injEq, Prod.mk.injEq] at H
            obtain ⟨rfl, rfl, rfl⟩ := H
            go_wp2_with (first | ((with_reducible refine gate_callee (f := 27) rfl ?_); refine goesL_ (some 21) rfl rfl Try.func27 (by kernel_rfl) rfl #[.string a0, .int .i64 x7_1] rfl (by (try simp only [List.map_toArray, List.map_cons, List.map_nil]); first | done | rfl | (simp only [List.length_drop, List.length_take]; rfl)) ?_; (with_reducible refine (tag_Get.calls k1 a0 x7_1 t123 t124 t125 _ A3.out).mono ?_); rintro e w' ⟨rfl, ⟨nd, rfl⟩⟩; refine ⟨_, rfl, ?_⟩) | ((with_reducible refine gate_callee (f := 28) rfl ?_); refine goesL_ (some 32) rfl rfl Try.func28 (by kernel_rfl) rfl #[.string a0, .int .i64 t124] rfl (by (try simp only [List.map_toArray, List.map_cons, List.map_nil]); first | done | rfl | (simp only [List.length_drop, List.length_take]; rfl)) ?_; (with_reducible refine (ber_Get.calls k1 a0 t124 t126 t127 t128 _ A5.out).mono ?_); rintro e w' ⟨rfl, ⟨nd, rfl⟩⟩; refine ⟨_, rfl, ?_⟩))
            go_ret3
            exact ⟨_, by first | rfl | (simp [errW_none, errW_some] <;> rfl) | (simp [*, errW_none, errW_some] <;> rfl), by first | exact Kd.R_nil _ _ _ _ _ | exact Kd.N_nil _ _ _ _ _ | exact Kd.V_nil _ _ _ _ _ | exact Kd.Q_nil _ _ _ _ _ | exact Kd.S_nil _ _ _ _ _, by repeat (first | (with_reducible first | exact HB.out | apply below_alloc | apply pw_below_drewN | apply below_drew1) | exact HB.out)⟩
        · rw [if_neg c4] at H
          have c4b0 : (t125 == 0) = false := beq_eq_false_iff_ne.mpr c4
          have c4b1 : (t125 != 0) = true := bne_iff_ne.mpr c4
          simp only [Option.some.injEq, Prod.mk.injEq] at H
          obtain ⟨rfl, rfl, rfl⟩ := H
          go_wp2_with (first | ((with_reducible refine gate_callee (f := 27) rfl ?_); refine goesL_ (some 21) rfl rfl Try.func27 (by kernel_rfl) rfl #[.string a0, .int .i64 x7_1] rfl (by (try simp only [List.map_toArray, List.map_cons, List.map_nil]); first | done | rfl | (simp only [List.length_drop, List.length_take]; rfl)) ?_; (with_reducible refine (tag_Get.calls k1 a0 x7_1 t123 t124 t125 _ A3.out).mono ?_); rintro e w' ⟨rfl, ⟨nd, rfl⟩⟩; refine ⟨_, rfl, ?_⟩))
          go_ret3
          exact ⟨_, by first | rfl | (simp [errW_none, errW_some] <;> rfl) | (simp [*, errW_none, errW_some] <;> rfl), by first | exact Kd.R_nil _ _ _ _ _ | exact Kd.N_nil _ _ _ _ _ | exact Kd.V_nil _ _ _ _ _ | exact Kd.Q_nil _ _ _ _ _ | exact Kd.S_nil _ _ _ _ _, by repeat (first | (with_reducible first | exact HB.out | apply below_alloc | apply pw_below_drewN | apply below_drew1) | exact HB.out)⟩
      · rw [if_neg c2] at H
        have c2b0 : decide (x7_1 < (a0.size : Int)) = false := decide_eq_false c2
        clear c2
        simp only [Option.some.injEq, Prod.mk.injEq] at H
        obtain ⟨rfl, rfl, rfl⟩ := H
        go_wp2
        go_ret3
        exact ⟨_, by first | rfl | (simp [errW_none, errW_some] <;> rfl) | (simp [*, errW_none, errW_some] <;> rfl), Kd.R_mono HO_5.out (fun _ _ => trivial), by repeat (first | (with_reducible first | exact HB.out | apply below_alloc | apply pw_below_drewN | apply below_drew1) | exact HB.out)⟩



end Go.Proofs.Ytebapdkfndlpgaa.D
