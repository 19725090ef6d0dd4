/- Walks of the functions that the law BerBack reaches: each call comes to the answer of its plain function, which stands beside it. No conditions. (Turned by wip/qtext.py out of what the kit's print wrote for this law, whose own text falls in Lean.) -/
import Derived.Test.YtflghnkepoodkaaQBerBackx0
import Derived.Test.YtflghnkepoodkaaQBerBackx1
namespace Go.Proofs.Ytflghnkepoodkaa.QBerBack
open Go.RowKit Go.Proofs.YtflghnkepoodkaaW.PrintWords Go.Proofs.YtflghnkepoodkaaW.PrintLast Go.Proofs.YtflghnkepoodkaaW.PrintMore
attribute [local go_sem] max2_int min2_int max_two min_two max_three min_three max_four min_four   -- for this text's walks alone
set_option linter.unusedVariables false
set_option linter.unusedSimpArgs false

/-! ### groatlaw09_BerBack: function 5 -/
def groatlaw09_BerBack.j0 : Nat → Int → ByteArray → ByteArray → Bool → Option (Bool)
  | 0, _, _, _, _ => none
  | k + 1, x0, x1, x5, x25 => if x25 = true then ((groatlaw09_awake.f k).bind fun t127 => (some t127)) else (if x1.size + x5.size ≤ 9223372036854775807 then (if (x1 ++ x5).size + x1.size ≤ 9223372036854775807 then ((ber_Get.f k ((x1 ++ x5) ++ x1) (x1.size : Int)).bind fun bt128 => (if bt128.1 = x0 then (if bt128.2.1 = (wrap64 ((x1.size : Int) + (x5.size : Int))) then (some (bt128.2.2 == 0)) else (some false)) else (some false))) else (none)) else (none))
def groatlaw09_BerBack.f (k : Nat) (a0 : Int) (a1 : ByteArray) : Option (Bool) := (ber_Put.f k a0).bind fun bt124 => ((groatlaw09_awake.f k).bind fun t126 => (if t126 = true then (if bt124.2 = true then (groatlaw09_BerBack.j0 k a0 a1 bt124.1 (decide ((a1.size : Int) > 100))) else (groatlaw09_BerBack.j0 k a0 a1 bt124.1 true)) else (groatlaw09_BerBack.j0 k a0 a1 bt124.1 true)))
theorem groatlaw09_BerBack.mono_l : ∀ k, (∀ y0 y1 y2 y3, LeO (groatlaw09_BerBack.j0 k y0 y1 y2 y3) (groatlaw09_BerBack.j0 (k + 1) y0 y1 y2 y3))
  | 0 => fun _ _ _ _ r h => by simp [groatlaw09_BerBack.j0] at h
  | k + 1 => by
    have ih0 := groatlaw09_BerBack.mono_l k
    · intro y0 y1 y2 y3
      unfold groatlaw09_BerBack.j0
      repeat' first
      | (with_reducible exact ih0 _ _ _ _)
      | (with_reducible exact ber_Get.mono _ _ _)
      | (with_reducible exact ber_Put.mono _ _)
      | (with_reducible exact groatlaw09_awake.mono _)
      | (with_reducible exact LeO.refl _)
      | (with_reducible exact LeO.none _)
      | (with_reducible refine LeO.ite ?_ ?_)
      | (with_reducible refine LeO.bind ?_ (fun _ => ?_))
      | exact ih0 _ _ _ _
      | exact ber_Get.mono _ _ _
      | exact ber_Put.mono _ _
      | exact groatlaw09_awake.mono _
      | exact LeO.none _
      | refine LeO.ite ?_ ?_
      | refine LeO.bind ?_ (fun _ => ?_)
theorem groatlaw09_BerBack.mono : ∀ a0 a1 k, LeO (groatlaw09_BerBack.f k a0 a1) (groatlaw09_BerBack.f (k + 1) a0 a1) := by
  intro a0 a1 k
  have ih0 := groatlaw09_BerBack.mono_l k
  unfold groatlaw09_BerBack.f
  repeat' first
      | (with_reducible exact ih0 _ _ _ _)
      | (with_reducible exact ber_Get.mono _ _ _)
      | (with_reducible exact ber_Put.mono _ _)
      | (with_reducible exact groatlaw09_awake.mono _)
      | (with_reducible exact LeO.refl _)
      | (with_reducible exact LeO.none _)
      | (with_reducible refine LeO.ite ?_ ?_)
      | (with_reducible refine LeO.bind ?_ (fun _ => ?_))
      | exact ih0 _ _ _ _
      | exact ber_Get.mono _ _ _
      | exact ber_Put.mono _ _
      | exact groatlaw09_awake.mono _
      | exact LeO.none _
      | refine LeO.ite ?_ ?_
      | refine LeO.bind ?_ (fun _ => ?_)
set_option maxHeartbeats 8000000 in
set_option maxRecDepth 100000 in
theorem groatlaw09_BerBack.calls (k : Nat) (a0 : Int) (a1 : ByteArray) (r : Bool) (w : World) (h : groatlaw09_BerBack.f k a0 a1 = some r) :
    Calls Try.prog 5 #[.int .i64 a0, .string a1] w fun e w' => e = .returned (.bool r) ∧ Below w.heap.size w w' := by
  have HB := Aside0.mk (Below.refl w.heap.size w)
  have H : ((ber_Put.f k a0).bind fun bt124 => ((groatlaw09_awake.f k).bind fun t126 => (if t126 = true then (if bt124.2 = true then (groatlaw09_BerBack.j0 k a0 a1 bt124.1 (decide ((a1.size : Int) > 100))) else (groatlaw09_BerBack.j0 k a0 a1 bt124.1 true)) else (groatlaw09_BerBack.j0 k a0 a1 bt124.1 true)))) = some r := h
  clear h
  replace H := Option.bind_eq_some_iff.mp H
  obtain ⟨⟨t124, t125⟩, A30, H⟩ := H
  replace H : ((groatlaw09_awake.f k).bind fun t126 => (if t126 = true then (if t125 = true then (groatlaw09_BerBack.j0 k a0 a1 t124 (decide ((a1.size : Int) > 100))) else (groatlaw09_BerBack.j0 k a0 a1 t124 true)) else (groatlaw09_BerBack.j0 k a0 a1 t124 true))) = some r := H
  have A3 := Aside0.mk A30
  clear A30
  have HC4 := Aside0.mk H
  clear H
  go_enter Try.func5, Try.ntmps5
  go_upto_region 2 with (first | ((with_reducible refine gate_callee (f := 8) rfl ?_); refine goesL_ (some 12) rfl rfl Try.func8 (by kernel_rfl) rfl #[.int .i64 a0] rfl (by (try simp only [List.map_toArray, List.map_cons, List.map_nil]); first | done | rfl | (simp only [List.length_drop, List.length_take]; rfl)) ?_; (with_reducible refine (ber_Put.calls k a0 t124 t125 _ A3.out).mono ?_); rintro e w5 ⟨rfl, hb⟩; refine ⟨_, rfl, ?_⟩; have n0_ := Aside0.mk (below_step (by repeat (first | (with_reducible first | exact HB.out | apply below_alloc | apply pw_below_drewN | apply below_drew1) | exact HB.out)) hb); clear HB; have HB := n0_; clear n0_; (try clear hb); (try clear hb2); (try clear hk); (try clear hi)))
  (try simp only [Act.put, List.setIfInBounds_toArray, List.set_cons_zero, List.set_cons_succ])
  go_cut [25] (fun v25 wc => ∃ (kq : Nat) (x25_3 : Bool), v25 = .bool x25_3 ∧ Aside0 (groatlaw09_BerBack.j0 kq a0 a1 t124 x25_3 = some r) ∧ Aside0 (kq ≤ k) ∧ Aside0 (Below w.heap.size w wc))
  case first =>
    have H := HC4.out
    clear HC4
    replace H := Option.bind_eq_some_iff.mp H
    obtain ⟨t126, A60, H⟩ := H
    replace H : (if t126 = true then (if t125 = true then (groatlaw09_BerBack.j0 k a0 a1 t124 (decide ((a1.size : Int) > 100))) else (groatlaw09_BerBack.j0 k a0 a1 t124 true)) else (groatlaw09_BerBack.j0 k a0 a1 t124 true)) = some r := H
    have A6 := Aside0.mk A60
    clear A60
    by_cases c7 : t126 = true
    · subst c7
      have H1 : (if t125 = true then (groatlaw09_BerBack.j0 k a0 a1 t124 (decide ((a1.size : Int) > 100))) else (groatlaw09_BerBack.j0 k a0 a1 t124 true)) = some r := by rw [if_pos rfl] at H; exact H
      clear H
      have H := H1
      clear H1
      by_cases c8 : t125 = true
      · subst c8
        have H1 : (groatlaw09_BerBack.j0 k a0 a1 t124 (decide ((a1.size : Int) > 100))) = some r := by rw [if_pos rfl] at H; exact H
        clear H
        have H := H1
        clear H1
        have H' := Aside0.mk H
        clear H
        go_wp2_with (first | ((with_reducible refine gate_callee (f := 10) rfl ?_); refine goesL_ (some 15) rfl rfl Try.func10 (by kernel_rfl) rfl #[] rfl (by (try simp only [List.map_toArray, List.map_cons, List.map_nil]); first | done | rfl | (simp only [List.length_drop, List.length_take]; rfl)) ?_; (with_reducible refine (groatlaw09_awake.calls k  true _ A6.out).mono ?_); rintro e w9 ⟨rfl, hb⟩; refine ⟨_, rfl, ?_⟩; have n0_ := Aside0.mk (below_step (by repeat (first | (with_reducible first | exact HB.out | apply below_alloc | apply pw_below_drewN | apply below_drew1) | exact HB.out)) hb); clear HB; have HB := n0_; clear n0_; (try clear hb); (try clear hb2); (try clear hk); (try clear hi)))
        go_meet
        case rel => exact ⟨_, (decide ((a1.size : Int) > 100)), (by first | rfl | (simp; done) | (simp [*]; done)), H', ⟨by first | omega | exact Nat.le_refl _⟩, ⟨by repeat (first | (with_reducible first | exact HB.out | apply below_alloc | apply pw_below_drewN | apply below_drew1) | exact HB.out)⟩⟩
      · replace c8 := Bool.eq_false_iff.mpr c8
        subst c8
        have H1 : (groatlaw09_BerBack.j0 k a0 a1 t124 true) = some r := by rw [if_neg (show ¬ (false = true) by decide)] at H; exact H
        clear H
        have H := H1
        clear H1
        have H' := Aside0.mk H
        clear H
        go_wp2_with (first | ((with_reducible refine gate_callee (f := 10) rfl ?_); refine goesL_ (some 15) rfl rfl Try.func10 (by kernel_rfl) rfl #[] rfl (by (try simp only [List.map_toArray, List.map_cons, List.map_nil]); first | done | rfl | (simp only [List.length_drop, List.length_take]; rfl)) ?_; (with_reducible refine (groatlaw09_awake.calls k  true _ A6.out).mono ?_); rintro e w10 ⟨rfl, hb⟩; refine ⟨_, rfl, ?_⟩; have n0_ := Aside0.mk (below_step (by repeat (first | (with_reducible first | exact HB.out | apply below_alloc | apply pw_below_drewN | apply below_drew1) | exact HB.out)) hb); clear HB; have HB := n0_; clear n0_; (try clear hb); (try clear hb2); (try clear hk); (try clear hi)))
        go_meet
        case rel => exact ⟨_, (true), (by first | rfl | (simp; done) | (simp [*]; done)), H', ⟨by first | omega | exact Nat.le_refl _⟩, ⟨by repeat (first | (with_reducible first | exact HB.out | apply below_alloc | apply pw_below_drewN | apply below_drew1) | exact HB.out)⟩⟩
    · replace c7 := Bool.eq_false_iff.mpr c7
      subst c7
      have H1 : (groatlaw09_BerBack.j0 k a0 a1 t124 true) = some r := by rw [if_neg (show ¬ (false = true) by decide)] at H; exact H
      clear H
      have H := H1
      clear H1
      have H' := Aside0.mk H
      clear H
      go_wp2_with (first | ((with_reducible refine gate_callee (f := 10) rfl ?_); refine goesL_ (some 15) rfl rfl Try.func10 (by kernel_rfl) rfl #[] rfl (by (try simp only [List.map_toArray, List.map_cons, List.map_nil]); first | done | rfl | (simp only [List.length_drop, List.length_take]; rfl)) ?_; (with_reducible refine (groatlaw09_awake.calls k  false _ A6.out).mono ?_); rintro e w11 ⟨rfl, hb⟩; refine ⟨_, rfl, ?_⟩; have n0_ := Aside0.mk (below_step (by repeat (first | (with_reducible first | exact HB.out | apply below_alloc | apply pw_below_drewN | apply below_drew1) | exact HB.out)) hb); clear HB; have HB := n0_; clear n0_; (try clear hb); (try clear hb2); (try clear hk); (try clear hi)))
      go_meet
      case rel => exact ⟨_, (true), (by first | rfl | (simp; done) | (simp [*]; done)), H', ⟨by first | omega | exact Nat.le_refl _⟩, ⟨by repeat (first | (with_reducible first | exact HB.out | apply below_alloc | apply pw_below_drewN | apply below_drew1) | exact HB.out)⟩⟩
  case rest =>
    clear HC4
    try clear c1
    try clear p2
    try clear c5
    try clear c7
    try clear c8
    try clear c10
    obtain ⟨kq, x25_3, rfl, HA, HJ3, HB⟩ := hcut
    cases kq with
    | zero => exact absurd HA.out (by simp [groatlaw09_BerBack.j0])
    | succ kj3 =>
      have H := HA.out
      clear HA
      simp only [groatlaw09_BerBack.j0] at H
      by_cases c12 : x25_3 = true
      · subst c12
        have H1 : ((groatlaw09_awake.f kj3).bind fun t127 => (some t127)) = some r := by rw [if_pos rfl] at H; exact H
        clear H
        have H := H1
        clear H1
        replace H := Option.bind_eq_some_iff.mp H
        obtain ⟨t127, A130, H⟩ := H
        replace H : (some t127) = some r := H
        have A13 := Aside0.mk A130
        clear A130
        obtain rfl := Option.some.inj H
        go_wp2_with (first | ((with_reducible refine gate_callee (f := 10) rfl ?_); refine goesL_ (some 26) rfl rfl Try.func10 (by kernel_rfl) rfl #[] rfl (by (try simp only [List.map_toArray, List.map_cons, List.map_nil]); first | done | rfl | (simp only [List.length_drop, List.length_take]; rfl)) ?_; (with_reducible refine (groatlaw09_awake.calls kj3  t127 _ A13.out).mono ?_); rintro e w14 ⟨rfl, hb⟩; refine ⟨_, rfl, ?_⟩; have n0_ := Aside0.mk (below_step (by repeat (first | (with_reducible first | exact HB.out | apply below_alloc | apply pw_below_drewN | apply below_drew1) | exact HB.out)) hb); clear HB; have HB := n0_; clear n0_; (try clear hb); (try clear hb2); (try clear hk); (try clear hi)))
        go_ret
        exact ⟨by first | rfl | (simp [errW_none, errW_some] <;> rfl) | (simp [*, errW_none, errW_some] <;> rfl), by repeat (first | (with_reducible first | exact HB.out | apply below_alloc | apply pw_below_drewN | apply below_drew1) | exact HB.out)⟩
      · replace c12 := Bool.eq_false_iff.mpr c12
        subst c12
        have H1 : (if a1.size + t124.size ≤ 9223372036854775807 then (if (a1 ++ t124).size + a1.size ≤ 9223372036854775807 then ((ber_Get.f kj3 ((a1 ++ t124) ++ a1) (a1.size : Int)).bind fun bt128 => (if bt128.1 = a0 then (if bt128.2.1 = (wrap64 ((a1.size : Int) + (t124.size : Int))) then (some (bt128.2.2 == 0)) else (some false)) else (some false))) else (none)) else (none)) = some r := by rw [if_neg (show ¬ (false = true) by decide)] at H; exact H
        clear H
        have H := H1
        clear H1
        by_cases c15 : a1.size + t124.size ≤ 9223372036854775807
        · rw [if_pos c15] at H
          have c15b0 := eq_true c15
          have c15b1 : decide (a1.size + t124.size ≤ 9223372036854775807) = true := decide_eq_true c15
          try have c15b2 : (9223372036854775807 < a1.size + t124.size) = False := eq_false (Nat.not_lt.2 c15)
          by_cases c16 : (a1 ++ t124).size + a1.size ≤ 9223372036854775807
          · rw [if_pos c16] at H
            have c16b0 := eq_true c16
            have c16b1 : decide ((a1 ++ t124).size + a1.size ≤ 9223372036854775807) = true := decide_eq_true c16
            try have c16b2 : (9223372036854775807 < (a1 ++ t124).size + a1.size) = False := eq_false (Nat.not_lt.2 c16)
            replace H := Option.bind_eq_some_iff.mp H
            obtain ⟨⟨t128, t129, t130⟩, A170, H⟩ := H
            replace H : (if t128 = a0 then (if t129 = (wrap64 ((a1.size : Int) + (t124.size : Int))) then (some (t130 == 0)) else (some false)) else (some false)) = some r := H
            have A17 := Aside0.mk A170
            clear A170
            by_cases c18 : t128 = a0
            · rw [if_pos c18] at H
              have c18b0 : (t128 == a0) = true := beq_iff_eq.mpr c18
              have c18b1 : (t128 != a0) = false := bne_eq_false_iff_eq.mpr c18
              clear c18
              by_cases c19 : t129 = (wrap64 ((a1.size : Int) + (t124.size : Int)))
              · rw [if_pos c19] at H
                rw [show wrap64 ((a1.size : Int) + (t124.size : Int)) = (a1.size : Int) + (t124.size : Int) by unfold wrap64; omega] at c19
                have c19b0 : (t129 == ((a1.size : Int) + (t124.size : Int))) = true := beq_iff_eq.mpr c19
                have c19b1 : (t129 != ((a1.size : Int) + (t124.size : Int))) = false := bne_eq_false_iff_eq.mpr c19
                clear c19
                obtain rfl := Option.some.inj H
                go_wp2_with (first | ((with_reducible refine gate_callee (f := 12) rfl ?_); refine goesL_ (some 35) rfl rfl Try.func12 (by kernel_rfl) rfl #[.string ((a1 ++ t124) ++ a1), .int .i64 (a1.size : Int)] rfl (by (try simp only [List.map_toArray, List.map_cons, List.map_nil]); first | done | rfl | (simp only [List.length_drop, List.length_take]; rfl)) ?_; (with_reducible refine (ber_Get.calls kj3 ((a1 ++ t124) ++ a1) (a1.size : Int) t128 t129 t130 _ A17.out).mono ?_); rintro e w' ⟨rfl, ⟨nd, rfl⟩⟩; refine ⟨_, rfl, ?_⟩))
                go_ret
                exact ⟨by first | rfl | (simp [errW_none, errW_some] <;> rfl) | (simp [*, errW_none, errW_some] <;> rfl), by repeat (first | (with_reducible first | exact HB.out | apply below_alloc | apply pw_below_drewN | apply below_drew1) | exact HB.out)⟩
              · rw [if_neg c19] at H
                rw [show wrap64 ((a1.size : Int) + (t124.size : Int)) = (a1.size : Int) + (t124.size : Int) by unfold wrap64; omega] at c19
                have c19b0 : (t129 == ((a1.size : Int) + (t124.size : Int))) = false := beq_eq_false_iff_ne.mpr c19
                have c19b1 : (t129 != ((a1.size : Int) + (t124.size : Int))) = true := bne_iff_ne.mpr c19
                obtain rfl := Option.some.inj H
                go_wp2_with (first | ((with_reducible refine gate_callee (f := 12) rfl ?_); refine goesL_ (some 35) rfl rfl Try.func12 (by kernel_rfl) rfl #[.string ((a1 ++ t124) ++ a1), .int .i64 (a1.size : Int)] rfl (by (try simp only [List.map_toArray, List.map_cons, List.map_nil]); first | done | rfl | (simp only [List.length_drop, List.length_take]; rfl)) ?_; (with_reducible refine (ber_Get.calls kj3 ((a1 ++ t124) ++ a1) (a1.size : Int) t128 t129 t130 _ A17.out).mono ?_); rintro e w' ⟨rfl, ⟨nd, rfl⟩⟩; refine ⟨_, rfl, ?_⟩))
                go_ret
                exact ⟨by first | rfl | (simp [errW_none, errW_some] <;> rfl) | (simp [*, errW_none, errW_some] <;> rfl), by repeat (first | (with_reducible first | exact HB.out | apply below_alloc | apply pw_below_drewN | apply below_drew1) | exact HB.out)⟩
            · rw [if_neg c18] at H
              have c18b0 : (t128 == a0) = false := beq_eq_false_iff_ne.mpr c18
              have c18b1 : (t128 != a0) = true := bne_iff_ne.mpr c18
              obtain rfl := Option.some.inj H
              go_wp2_with (first | ((with_reducible refine gate_callee (f := 12) rfl ?_); refine goesL_ (some 35) rfl rfl Try.func12 (by kernel_rfl) rfl #[.string ((a1 ++ t124) ++ a1), .int .i64 (a1.size : Int)] rfl (by (try simp only [List.map_toArray, List.map_cons, List.map_nil]); first | done | rfl | (simp only [List.length_drop, List.length_take]; rfl)) ?_; (with_reducible refine (ber_Get.calls kj3 ((a1 ++ t124) ++ a1) (a1.size : Int) t128 t129 t130 _ A17.out).mono ?_); rintro e w' ⟨rfl, ⟨nd, rfl⟩⟩; refine ⟨_, rfl, ?_⟩))
              go_ret
              exact ⟨by first | rfl | (simp [errW_none, errW_some] <;> rfl) | (simp [*, errW_none, errW_some] <;> rfl), by repeat (first | (with_reducible first | exact HB.out | apply below_alloc | apply pw_below_drewN | apply below_drew1) | exact HB.out)⟩
          · rw [if_neg c16] at H
            exact absurd H (by simp)
        · rw [if_neg c15] at H
          exact absurd H (by simp)

/-- THE ONE PURE STATEMENT of groatlaw09_BerBack: yours. -/
def groatlaw09_BerBack.Pure : Prop := ∀ (a0 : Int) (a1 : ByteArray), (Lit.int .i64 a0).wf = true → a1.size ≤ 140737488351232 → ∃ k, groatlaw09_BerBack.f k a0 a1 = some true
theorem groatlaw09_BerBack.walk (P : groatlaw09_BerBack.Pure) (a0 : Int) (a1 : ByteArray) (w : World) (w0 : (Lit.int .i64 a0).wf = true) (w1 : a1.size ≤ 140737488351232) :
    Calls Try.prog 5 #[.int .i64 a0, .string a1] w fun e w' => e = .returned (.bool true) ∧ Below w.heap.size w w' := by
  obtain ⟨k, h⟩ := P a0 a1 w0 w1
  refine (groatlaw09_BerBack.calls k a0 a1 true w h).mono ?_
  rintro e w' ⟨rfl, hd⟩
  exact ⟨rfl, hd⟩

end Go.Proofs.Ytflghnkepoodkaa.QBerBack
