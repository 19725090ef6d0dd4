/- Walks of the functions that the laws of layer 19 (codes) reach: each call comes to the answer of its plain function, which stands beside it. No conditions. -/
import Derived.Test.YtbknihgibcbdaaaDx0
import Derived.Test.YtbknihgibcbdaaaDx2
import Derived.Test.YtbknihgibcbdaaaDx3
namespace Go.Proofs.Ytbknihgibcbdaaa.D
open Go.RowKit Go.Proofs.YtbknihgibcbdaaaW.PrintWords Go.Proofs.YtbknihgibcbdaaaW.PrintLast Go.Proofs.YtbknihgibcbdaaaW.PrintMore
attribute [local go_sem] max2_int min2_int max_two min_two max_three min_three max_four min_four   -- for this text's walks alone
set_option linter.unusedVariables false
set_option linter.unusedSimpArgs false

/-! ### groatlaw19_CodesBack: function 6 -/
mutual
def groatlaw19_CodesBack.j0 : Nat → List (S40) → ByteArray → Bool → Option (Bool)
  | 0, _, _, _ => none
  | k + 1, x0, x1, x29 => if x29 = true then ((groatlaw19_awake.f k).bind fun t221 => (some t221)) else ((codes_Turn.f k x0).bind fun t222 => ((codes_Apply.f k x0 x1).bind fun bt225 => (if bt225.2 = true then ((codes_Apply.f k t222 bt225.1).bind fun bt227 => (if bt227.2 = true then (if bt227.1.toList = x1.toList then (groatlaw19_CodesBack.j1 k x0 x1 t222) else (none)) else (none))) else (groatlaw19_CodesBack.j1 k x0 x1 t222))))
def groatlaw19_CodesBack.j1 : Nat → List (S40) → ByteArray → List (S40) → Option (Bool)
  | 0, _, _, _ => none
  | k + 1, x0, x1, x5 => (codes_Apply.f k x5 x1).bind fun bt229 => (if bt229.2 = true then ((codes_Apply.f k x0 bt229.1).bind fun bt231 => (if bt231.2 = true then (some (bt231.1.toList == x1.toList)) else (none))) else (some (bt229.1.toList == ([] : List UInt8))))
end
def groatlaw19_CodesBack.f (k : Nat) (l0 : List (S40)) (a1 : ByteArray) : Option (Bool) := (groatlaw19_awake.f k).bind fun t218 => (if t218 = true then ((groatlaw19_great.f k l0).bind fun t219 => (if t219 = true then (groatlaw19_CodesBack.j0 k l0 a1 true) else (if (a1.size : Int) > 1000 then (groatlaw19_CodesBack.j0 k l0 a1 true) else ((codes_Bijective.f k l0).bind fun t220 => (groatlaw19_CodesBack.j0 k l0 a1 (!t220)))))) else (groatlaw19_CodesBack.j0 k l0 a1 true))
theorem groatlaw19_CodesBack.mono_l : ∀ k, (∀ y0 y1 y2, LeO (groatlaw19_CodesBack.j0 k y0 y1 y2) (groatlaw19_CodesBack.j0 (k + 1) y0 y1 y2)) ∧ (∀ y0 y1 y2, LeO (groatlaw19_CodesBack.j1 k y0 y1 y2) (groatlaw19_CodesBack.j1 (k + 1) y0 y1 y2))
  | 0 => ⟨fun _ _ _ r h => by simp [groatlaw19_CodesBack.j0] at h, fun _ _ _ r h => by simp [groatlaw19_CodesBack.j1] at h⟩
  | k + 1 => by
    obtain ⟨ih0, ih1⟩ := groatlaw19_CodesBack.mono_l k
    refine ⟨?_, ?_⟩
    · intro y0 y1 y2
      unfold groatlaw19_CodesBack.j0
      repeat' first
      | (with_reducible exact ih0 _ _ _)
      | (with_reducible exact ih1 _ _ _)
      | (with_reducible exact codes_Apply.mono _ _ _)
      | (with_reducible exact codes_Bijective.mono _ _)
      | (with_reducible exact codes_Turn.mono _ _)
      | (with_reducible exact groatlaw19_awake.mono _)
      | (with_reducible exact groatlaw19_great.mono _ _)
      | (with_reducible exact LeO.refl _)
      | (with_reducible exact LeO.none _)
      | (with_reducible refine LeO.ite ?_ ?_)
      | (with_reducible refine LeO.bind ?_ (fun _ => ?_))
      | exact ih0 _ _ _
      | exact ih1 _ _ _
      | exact codes_Apply.mono _ _ _
      | exact codes_Bijective.mono _ _
      | exact codes_Turn.mono _ _
      | exact groatlaw19_awake.mono _
      | exact groatlaw19_great.mono _ _
      | exact LeO.none _
      | refine LeO.ite ?_ ?_
      | refine LeO.bind ?_ (fun _ => ?_)
    · intro y0 y1 y2
      unfold groatlaw19_CodesBack.j1
      repeat' first
      | (with_reducible exact ih0 _ _ _)
      | (with_reducible exact ih1 _ _ _)
      | (with_reducible exact codes_Apply.mono _ _ _)
      | (with_reducible exact codes_Bijective.mono _ _)
      | (with_reducible exact codes_Turn.mono _ _)
      | (with_reducible exact groatlaw19_awake.mono _)
      | (with_reducible exact groatlaw19_great.mono _ _)
      | (with_reducible exact LeO.refl _)
      | (with_reducible exact LeO.none _)
      | (with_reducible refine LeO.ite ?_ ?_)
      | (with_reducible refine LeO.bind ?_ (fun _ => ?_))
      | exact ih0 _ _ _
      | exact ih1 _ _ _
      | exact codes_Apply.mono _ _ _
      | exact codes_Bijective.mono _ _
      | exact codes_Turn.mono _ _
      | exact groatlaw19_awake.mono _
      | exact groatlaw19_great.mono _ _
      | exact LeO.none _
      | refine LeO.ite ?_ ?_
      | refine LeO.bind ?_ (fun _ => ?_)
theorem groatlaw19_CodesBack.mono : ∀ a0 a1 k, LeO (groatlaw19_CodesBack.f k a0 a1) (groatlaw19_CodesBack.f (k + 1) a0 a1) := by
  intro a0 a1 k
  obtain ⟨ih0, ih1⟩ := groatlaw19_CodesBack.mono_l k
  unfold groatlaw19_CodesBack.f
  repeat' first
      | (with_reducible exact ih0 _ _ _)
      | (with_reducible exact ih1 _ _ _)
      | (with_reducible exact codes_Apply.mono _ _ _)
      | (with_reducible exact codes_Bijective.mono _ _)
      | (with_reducible exact codes_Turn.mono _ _)
      | (with_reducible exact groatlaw19_awake.mono _)
      | (with_reducible exact groatlaw19_great.mono _ _)
      | (with_reducible exact LeO.refl _)
      | (with_reducible exact LeO.none _)
      | (with_reducible refine LeO.ite ?_ ?_)
      | (with_reducible refine LeO.bind ?_ (fun _ => ?_))
      | exact ih0 _ _ _
      | exact ih1 _ _ _
      | exact codes_Apply.mono _ _ _
      | exact codes_Bijective.mono _ _
      | exact codes_Turn.mono _ _
      | exact groatlaw19_awake.mono _
      | exact groatlaw19_great.mono _ _
      | exact LeO.none _
      | refine LeO.ite ?_ ?_
      | refine LeO.bind ?_ (fun _ => ?_)
set_option maxHeartbeats 8000000 in
set_option maxRecDepth 100000 in
theorem groatlaw19_CodesBack.calls (k : Nat) (A0 : Option Addr) (c0 : Nat) (l0 : List (S40)) (a1 : ByteArray) (r : Bool) (w : World) (hr0 : Kd.C k40 w A0 l0.length l0) (hc0 : l0.length ≤ c0) (h : groatlaw19_CodesBack.f k l0 a1 = some r) :
    Calls Try.prog 6 #[.slice A0 l0.length c0, .string a1] w fun e w' => e = .returned (.bool r) ∧ Below w.heap.size w w' := by
  have HR0 := Aside0.mk hr0
  have HC0 := Aside0.mk hc0
  clear hr0 hc0
  have HB := Aside0.mk (Below.refl w.heap.size w)
  have H : ((groatlaw19_awake.f k).bind fun t218 => (if t218 = true then ((groatlaw19_great.f k l0).bind fun t219 => (if t219 = true then (groatlaw19_CodesBack.j0 k l0 a1 true) else (if (a1.size : Int) > 1000 then (groatlaw19_CodesBack.j0 k l0 a1 true) else ((codes_Bijective.f k l0).bind fun t220 => (groatlaw19_CodesBack.j0 k l0 a1 (!t220)))))) else (groatlaw19_CodesBack.j0 k l0 a1 true))) = some r := h
  clear h
  have HC3 := Aside0.mk H
  clear H
  go_enter Try.func6, Try.ntmps6
  go_upto_region 1 with (fail)
  go_cut [29] (fun v29 wc => ∃ (kq : Nat) (x29_2 : Bool), v29 = .bool x29_2 ∧ Aside0 (groatlaw19_CodesBack.j0 kq l0 a1 x29_2 = some r) ∧ Aside0 (kq ≤ k) ∧ Aside0 (Below w.heap.size w wc))
  case first =>
    have H := HC3.out
    clear HC3
    replace H := Option.bind_eq_some_iff.mp H
    obtain ⟨t218, A40, H⟩ := H
    replace H : (if t218 = true then ((groatlaw19_great.f k l0).bind fun t219 => (if t219 = true then (groatlaw19_CodesBack.j0 k l0 a1 true) else (if (a1.size : Int) > 1000 then (groatlaw19_CodesBack.j0 k l0 a1 true) else ((codes_Bijective.f k l0).bind fun t220 => (groatlaw19_CodesBack.j0 k l0 a1 (!t220)))))) else (groatlaw19_CodesBack.j0 k l0 a1 true)) = some r := H
    have A4 := Aside0.mk A40
    clear A40
    by_cases c5 : t218 = true
    · subst c5
      have H1 : ((groatlaw19_great.f k l0).bind fun t219 => (if t219 = true then (groatlaw19_CodesBack.j0 k l0 a1 true) else (if (a1.size : Int) > 1000 then (groatlaw19_CodesBack.j0 k l0 a1 true) else ((codes_Bijective.f k l0).bind fun t220 => (groatlaw19_CodesBack.j0 k l0 a1 (!t220)))))) = some r := by rw [if_pos rfl] at H; exact H
      clear H
      have H := H1
      clear H1
      replace H := Option.bind_eq_some_iff.mp H
      obtain ⟨t219, A60, H⟩ := H
      replace H : (if t219 = true then (groatlaw19_CodesBack.j0 k l0 a1 true) else (if (a1.size : Int) > 1000 then (groatlaw19_CodesBack.j0 k l0 a1 true) else ((codes_Bijective.f k l0).bind fun t220 => (groatlaw19_CodesBack.j0 k l0 a1 (!t220))))) = some r := H
      have A6 := Aside0.mk A60
      clear A60
      by_cases c7 : t219 = true
      · subst c7
        have H1 : (groatlaw19_CodesBack.j0 k l0 a1 true) = some r := by rw [if_pos rfl] at H; exact H
        clear H
        have H := H1
        clear H1
        have H' := Aside0.mk H
        clear H
        go_wp2_with (first | ((with_reducible refine gate_callee (f := 8) rfl ?_); refine goesL_ (some 14) rfl rfl Try.func8 (by kernel_rfl) rfl #[] rfl (by (try simp only [List.map_toArray, List.map_cons, List.map_nil]); first | done | rfl | (simp only [List.length_drop, List.length_take]; rfl)) ?_; (with_reducible refine (groatlaw19_awake.calls k  true _ A4.out).mono ?_); rintro e w8 ⟨rfl, hb⟩; refine ⟨_, rfl, ?_⟩; have n0_ := Aside0.mk (below_step (by repeat (first | (with_reducible first | exact HB.out | apply below_alloc | apply pw_below_drewN | apply below_drew1) | exact HB.out)) hb); clear HB; have HB := n0_; clear n0_; (try clear hb); (try clear hb2); (try clear hk); (try clear hi)) | (go_at_call 9; (with_reducible refine (groatlaw19_great.calls k _ _ l0 true _ ?side1 ?side2 A6.out).mono ?_); (case side1 => repeat (first | exact (Kd.C_below HR0.out HB.out) | (with_reducible refine Kd.C_alloc ?_ _) | (with_reducible refine Kd.C_drewN ?_ _) | (with_reducible refine Kd.C_drew ?_))); (case side2 => exact HC0.out); rintro e w9 ⟨rfl, hb⟩; have n0_ := Aside0.mk (below_step (by repeat (first | (with_reducible first | exact HB.out | apply below_alloc | apply pw_below_drewN | apply below_drew1) | exact HB.out)) hb); clear HB; have HB := n0_; clear n0_; (try clear hb); (try clear hb2); (try clear hk); (try clear hi)))
        go_meet
        case rel => exact ⟨_, (true), (by first | rfl | (simp; done) | (simp [*]; done)), H', ⟨by first | omega | exact Nat.le_refl _⟩, ⟨by repeat (first | (with_reducible first | exact HB.out | apply below_alloc | apply pw_below_drewN | apply below_drew1) | exact HB.out)⟩⟩
      · replace c7 := Bool.eq_false_iff.mpr c7
        subst c7
        have H1 : (if (a1.size : Int) > 1000 then (groatlaw19_CodesBack.j0 k l0 a1 true) else ((codes_Bijective.f k l0).bind fun t220 => (groatlaw19_CodesBack.j0 k l0 a1 (!t220)))) = some r := by rw [if_neg (show ¬ (false = true) by decide)] at H; exact H
        clear H
        have H := H1
        clear H1
        by_cases c10 : (a1.size : Int) > 1000
        · rw [if_pos c10] at H
          have c10b0 : decide (1000 < (a1.size : Int)) = true := decide_eq_true c10
          have c10b1 : decide (1000 < a1.size) = true := decide_eq_true (by omega)
          clear c10
          (first | rw [c10b0] | (simp only [i64_w, i32_w]; rw [c10b0]) | skip)
          have H' := Aside0.mk H
          clear H
          go_wp2_with (first | ((with_reducible refine gate_callee (f := 8) rfl ?_); refine goesL_ (some 14) rfl rfl Try.func8 (by kernel_rfl) rfl #[] rfl (by (try simp only [List.map_toArray, List.map_cons, List.map_nil]); first | done | rfl | (simp only [List.length_drop, List.length_take]; rfl)) ?_; (with_reducible refine (groatlaw19_awake.calls k  true _ A4.out).mono ?_); rintro e w11 ⟨rfl, hb⟩; refine ⟨_, rfl, ?_⟩; have n0_ := Aside0.mk (below_step (by repeat (first | (with_reducible first | exact HB.out | apply below_alloc | apply pw_below_drewN | apply below_drew1) | exact HB.out)) hb); clear HB; have HB := n0_; clear n0_; (try clear hb); (try clear hb2); (try clear hk); (try clear hi)) | (go_at_call 9; (with_reducible refine (groatlaw19_great.calls k _ _ l0 false _ ?side1 ?side2 A6.out).mono ?_); (case side1 => repeat (first | exact (Kd.C_below HR0.out HB.out) | (with_reducible refine Kd.C_alloc ?_ _) | (with_reducible refine Kd.C_drewN ?_ _) | (with_reducible refine Kd.C_drew ?_))); (case side2 => exact HC0.out); rintro e w12 ⟨rfl, hb⟩; have n0_ := Aside0.mk (below_step (by repeat (first | (with_reducible first | exact HB.out | apply below_alloc | apply pw_below_drewN | apply below_drew1) | exact HB.out)) hb); clear HB; have HB := n0_; clear n0_; (try clear hb); (try clear hb2); (try clear hk); (try clear hi)))
          go_meet
          case rel => exact ⟨_, (true), (by first | rfl | (simp; done) | (simp [*]; done)), H', ⟨by first | omega | exact Nat.le_refl _⟩, ⟨by repeat (first | (with_reducible first | exact HB.out | apply below_alloc | apply pw_below_drewN | apply below_drew1) | exact HB.out)⟩⟩
        · rw [if_neg c10] at H
          have c10b0 : decide (1000 < (a1.size : Int)) = false := decide_eq_false c10
          have c10b1 : decide (1000 < a1.size) = false := decide_eq_false (by omega)
          clear c10
          (first | rw [c10b0] | (simp only [i64_w, i32_w]; rw [c10b0]) | skip)
          replace H := Option.bind_eq_some_iff.mp H
          obtain ⟨t220, A130, H⟩ := H
          replace H : (groatlaw19_CodesBack.j0 k l0 a1 (!t220)) = some r := H
          have A13 := Aside0.mk A130
          clear A130
          have H' := Aside0.mk H
          clear H
          go_wp2_with (first | ((with_reducible refine gate_callee (f := 8) rfl ?_); refine goesL_ (some 14) rfl rfl Try.func8 (by kernel_rfl) rfl #[] rfl (by (try simp only [List.map_toArray, List.map_cons, List.map_nil]); first | done | rfl | (simp only [List.length_drop, List.length_take]; rfl)) ?_; (with_reducible refine (groatlaw19_awake.calls k  true _ A4.out).mono ?_); rintro e w14 ⟨rfl, hb⟩; refine ⟨_, rfl, ?_⟩; have n0_ := Aside0.mk (below_step (by repeat (first | (with_reducible first | exact HB.out | apply below_alloc | apply pw_below_drewN | apply below_drew1) | exact HB.out)) hb); clear HB; have HB := n0_; clear n0_; (try clear hb); (try clear hb2); (try clear hk); (try clear hi)) | (go_at_call 9; (with_reducible refine (groatlaw19_great.calls k _ _ l0 false _ ?side1 ?side2 A6.out).mono ?_); (case side1 => repeat (first | exact (Kd.C_below HR0.out HB.out) | (with_reducible refine Kd.C_alloc ?_ _) | (with_reducible refine Kd.C_drewN ?_ _) | (with_reducible refine Kd.C_drew ?_))); (case side2 => exact HC0.out); rintro e w15 ⟨rfl, hb⟩; have n0_ := Aside0.mk (below_step (by repeat (first | (with_reducible first | exact HB.out | apply below_alloc | apply pw_below_drewN | apply below_drew1) | exact HB.out)) hb); clear HB; have HB := n0_; clear n0_; (try clear hb); (try clear hb2); (try clear hk); (try clear hi)) | (go_at_call 13; (with_reducible refine (codes_Bijective.calls k _ _ l0 t220 _ ?side1 ?side2 A13.out).mono ?_); (case side1 => repeat (first | exact (Kd.C_below HR0.out HB.out) | (with_reducible refine Kd.C_alloc ?_ _) | (with_reducible refine Kd.C_drewN ?_ _) | (with_reducible refine Kd.C_drew ?_))); (case side2 => exact HC0.out); rintro e w16 ⟨rfl, hb⟩; have n0_ := Aside0.mk (below_step (by repeat (first | (with_reducible first | exact HB.out | apply below_alloc | apply pw_below_drewN | apply below_drew1) | exact HB.out)) hb); clear HB; have HB := n0_; clear n0_; (try clear hb); (try clear hb2); (try clear hk); (try clear hi)))
          go_meet
          case rel => exact ⟨_, (!t220), (by first | rfl | (simp; done) | (simp [*]; done)), H', ⟨by first | omega | exact Nat.le_refl _⟩, ⟨by repeat (first | (with_reducible first | exact HB.out | apply below_alloc | apply pw_below_drewN | apply below_drew1) | exact HB.out)⟩⟩
    · replace c5 := Bool.eq_false_iff.mpr c5
      subst c5
      have H1 : (groatlaw19_CodesBack.j0 k l0 a1 true) = some r := by rw [if_neg (show ¬ (false = true) by decide)] at H; exact H
      clear H
      have H := H1
      clear H1
      have H' := Aside0.mk H
      clear H
      go_wp2_with (first | ((with_reducible refine gate_callee (f := 8) rfl ?_); refine goesL_ (some 14) rfl rfl Try.func8 (by kernel_rfl) rfl #[] rfl (by (try simp only [List.map_toArray, List.map_cons, List.map_nil]); first | done | rfl | (simp only [List.length_drop, List.length_take]; rfl)) ?_; (with_reducible refine (groatlaw19_awake.calls k  false _ A4.out).mono ?_); rintro e w17 ⟨rfl, hb⟩; refine ⟨_, rfl, ?_⟩; have n0_ := Aside0.mk (below_step (by repeat (first | (with_reducible first | exact HB.out | apply below_alloc | apply pw_below_drewN | apply below_drew1) | exact HB.out)) hb); clear HB; have HB := n0_; clear n0_; (try clear hb); (try clear hb2); (try clear hk); (try clear hi)))
      go_meet
      case rel => exact ⟨_, (true), (by first | rfl | (simp; done) | (simp [*]; done)), H', ⟨by first | omega | exact Nat.le_refl _⟩, ⟨by repeat (first | (with_reducible first | exact HB.out | apply below_alloc | apply pw_below_drewN | apply below_drew1) | exact HB.out)⟩⟩
  case rest =>
    clear HC3
    try clear c1
    try clear p2
    try clear c5
    try clear c6
    try clear c7
    try clear c8
    try clear c10
    try clear c10b0
    try clear c10b1
    obtain ⟨kq, x29_2, rfl, HA, HJ2, HB⟩ := hcut
    cases kq with
    | zero => exact absurd HA.out (by simp [groatlaw19_CodesBack.j0])
    | succ kj2 =>
      have H := HA.out
      clear HA
      simp only [groatlaw19_CodesBack.j0] at H
      by_cases c18 : x29_2 = true
      · subst c18
        have H1 : ((groatlaw19_awake.f kj2).bind fun t221 => (some t221)) = some r := by rw [if_pos rfl] at H; exact H
        clear H
        have H := H1
        clear H1
        replace H := Option.bind_eq_some_iff.mp H
        obtain ⟨t221, A190, H⟩ := H
        replace H : (some t221) = some r := H
        have A19 := Aside0.mk A190
        clear A190
        obtain rfl := Option.some.inj H
        go_wp2_with (first | ((with_reducible refine gate_callee (f := 8) rfl ?_); refine goesL_ (some 30) rfl rfl Try.func8 (by kernel_rfl) rfl #[] rfl (by (try simp only [List.map_toArray, List.map_cons, List.map_nil]); first | done | rfl | (simp only [List.length_drop, List.length_take]; rfl)) ?_; (with_reducible refine (groatlaw19_awake.calls kj2  t221 _ A19.out).mono ?_); rintro e w20 ⟨rfl, hb⟩; refine ⟨_, rfl, ?_⟩; have n0_ := Aside0.mk (below_step (by repeat (first | (with_reducible first | exact HB.out | apply below_alloc | apply pw_below_drewN | apply below_drew1) | exact HB.out)) hb); clear HB; have HB := n0_; clear n0_; (try clear hb); (try clear hb2); (try clear hk); (try clear hi)))
        go_ret
        exact ⟨by first | rfl | (simp [errW_none, errW_some] <;> rfl) | (simp [*, errW_none, errW_some] <;> rfl), by repeat (first | (with_reducible first | exact HB.out | apply below_alloc | apply pw_below_drewN | apply below_drew1) | exact HB.out)⟩
      · replace c18 := Bool.eq_false_iff.mpr c18
        subst c18
        have H1 : ((codes_Turn.f kj2 l0).bind fun t222 => ((codes_Apply.f kj2 l0 a1).bind fun bt225 => (if bt225.2 = true then ((codes_Apply.f kj2 t222 bt225.1).bind fun bt227 => (if bt227.2 = true then (if bt227.1.toList = a1.toList then (groatlaw19_CodesBack.j1 kj2 l0 a1 t222) else (none)) else (none))) else (groatlaw19_CodesBack.j1 kj2 l0 a1 t222)))) = some r := by rw [if_neg (show ¬ (false = true) by decide)] at H; exact H
        clear H
        have H := H1
        clear H1
        replace H := Option.bind_eq_some_iff.mp H
        obtain ⟨t222, A210, H⟩ := H
        replace H : ((codes_Apply.f kj2 l0 a1).bind fun bt225 => (if bt225.2 = true then ((codes_Apply.f kj2 t222 bt225.1).bind fun bt227 => (if bt227.2 = true then (if bt227.1.toList = a1.toList then (groatlaw19_CodesBack.j1 kj2 l0 a1 t222) else (none)) else (none))) else (groatlaw19_CodesBack.j1 kj2 l0 a1 t222))) = some r := H
        have A21 := Aside0.mk A210
        clear A210
        replace H := Option.bind_eq_some_iff.mp H
        obtain ⟨⟨t225, t226⟩, A220, H⟩ := H
        replace H : (if t226 = true then ((codes_Apply.f kj2 t222 t225).bind fun bt227 => (if bt227.2 = true then (if bt227.1.toList = a1.toList then (groatlaw19_CodesBack.j1 kj2 l0 a1 t222) else (none)) else (none))) else (groatlaw19_CodesBack.j1 kj2 l0 a1 t222)) = some r := H
        have A22 := Aside0.mk A220
        clear A220
        have HC23 := Aside0.mk H
        clear H
        go_upto_if 39 with (first | ((with_reducible refine gate_callee (f := 17) rfl ?_); refine goesL_ (some 32) rfl rfl Try.func17 (by kernel_rfl) rfl #[.slice A0 l0.length c0] rfl (by (try simp only [List.map_toArray, List.map_cons, List.map_nil]); first | done | rfl | (simp only [List.length_drop, List.length_take]; rfl)) ?_; (with_reducible refine (codes_Turn.calls kj2 _ _ l0 t222 _ ?side1 ?side2 A21.out).mono ?_); (case side1 => repeat (first | exact (Kd.C_below HR0.out HB.out) | (with_reducible refine Kd.C_alloc ?_ _) | (with_reducible refine Kd.C_drewN ?_ _) | (with_reducible refine Kd.C_drew ?_))); (case side2 => exact HC0.out); rintro e w24 ⟨v223, rfl, ho0, hb⟩; refine ⟨_, rfl, ?_⟩; have n0_ := Aside0.mk (Kd.R_lower ho0 (below_size (by repeat (first | (with_reducible first | exact HB.out | apply below_alloc | apply pw_below_drewN | apply below_drew1) | exact HB.out)))); have n1_ := Aside0.mk (below_step (by repeat (first | (with_reducible first | exact HB.out | apply below_alloc | apply pw_below_drewN | apply below_drew1) | exact HB.out)) hb); clear HB; have HO224 := n0_; have HB := n1_; clear n0_ n1_; (try clear hb); (try clear hb2); (try clear hk); (try clear hi); (try clear ho0)) | ((with_reducible refine gate_callee (f := 15) rfl ?_); refine goesL_ (some 36) rfl rfl Try.func15 (by kernel_rfl) rfl #[.slice A0 l0.length c0, .string a1] rfl (by (try simp only [List.map_toArray, List.map_cons, List.map_nil]); first | done | rfl | (simp only [List.length_drop, List.length_take]; rfl)) ?_; (with_reducible refine (codes_Apply.calls kj2 _ _ l0 a1 t225 t226 _ ?side1 ?side2 A22.out).mono ?_); (case side1 => repeat (first | exact (Kd.C_below HR0.out HB.out) | (with_reducible refine Kd.C_alloc ?_ _) | (with_reducible refine Kd.C_drewN ?_ _) | (with_reducible refine Kd.C_drew ?_))); (case side2 => exact HC0.out); rintro e w25 ⟨rfl, hb⟩; refine ⟨_, rfl, ?_⟩; have n0_ := Aside0.mk (Kd.R_below (by (with_reducible repeat (first | apply Kd.R_alloc | apply Kd.R_drewN | apply Kd.R_drew)); exact HO224.out) hb); have n1_ := Aside0.mk (below_step (by repeat (first | (with_reducible first | exact HB.out | apply below_alloc | apply pw_below_drewN | apply below_drew1) | exact HB.out)) hb); clear HO224; clear HB; have HO224 := n0_; have HB := n1_; clear n0_ n1_; (try clear hb); (try clear hb2); (try clear hk); (try clear hi)))
        (try simp only [Act.put, List.setIfInBounds_toArray, List.set_cons_zero, List.set_cons_succ])
        go_cut [] (fun wc => ∃ (kq : Nat), Aside0 (groatlaw19_CodesBack.j1 kq l0 a1 t222 = some r) ∧ Aside0 (kq ≤ kj2) ∧ Aside0 (Kd.R k40 40 wc w.heap.size (fun _ => True) v223 t222) ∧ Aside0 (Below w.heap.size w wc))
        case first =>
          have H := HC23.out
          clear HC23
          by_cases c26 : t226 = true
          · subst c26
            have H1 : ((codes_Apply.f kj2 t222 t225).bind fun bt227 => (if bt227.2 = true then (if bt227.1.toList = a1.toList then (groatlaw19_CodesBack.j1 kj2 l0 a1 t222) else (none)) else (none))) = some r := by rw [if_pos rfl] at H; exact H
            clear H
            have H := H1
            clear H1
            replace H := Option.bind_eq_some_iff.mp H
            obtain ⟨⟨t227, t228⟩, A270, H⟩ := H
            replace H : (if t228 = true then (if t227.toList = a1.toList then (groatlaw19_CodesBack.j1 kj2 l0 a1 t222) else (none)) else (none)) = some r := H
            have A27 := Aside0.mk A270
            clear A270
            by_cases c28 : t228 = true
            · subst c28
              have H1 : (if t227.toList = a1.toList then (groatlaw19_CodesBack.j1 kj2 l0 a1 t222) else (none)) = some r := by rw [if_pos rfl] at H; exact H
              clear H
              have H := H1
              clear H1
              by_cases c29 : t227.toList = a1.toList
              · rw [if_pos c29] at H
                have c29b0 : (t227.toList == a1.toList) = true := beq_iff_eq.mpr c29
                have c29b1 : (t227.toList != a1.toList) = false := bne_eq_false_iff_eq.mpr c29
                clear c29
                (first | rw [c29b0] | (simp only [i64_w, i32_w]; rw [c29b0]) | skip)
                have H' := Aside0.mk H
                clear H
                obtain ⟨Ao30, co30, eo30⟩ := Kd.R_slice HO224.out
                subst eo30
                go_wp2_with (first | ((with_reducible refine gate_callee (f := 15) rfl ?_); refine goesL_ (some 43) rfl rfl Try.func15 (by kernel_rfl) rfl #[.slice Ao30 t222.length co30, .string t225] rfl (by (try simp only [List.map_toArray, List.map_cons, List.map_nil]); first | done | rfl | (simp only [List.length_drop, List.length_take]; rfl)) ?_; (with_reducible refine (codes_Apply.calls kj2 _ _ t222 t225 t227 true _ ?side1 ?side2 A27.out).mono ?_); (case side1 => repeat (first | exact (Kd.R_reads' HO224.out).2.2 | (with_reducible refine Kd.C_alloc ?_ _) | (with_reducible refine Kd.C_drewN ?_ _) | (with_reducible refine Kd.C_drew ?_))); (case side2 => exact (Kd.R_reads' HO224.out).2.1); rintro e w31 ⟨rfl, hb⟩; refine ⟨_, rfl, ?_⟩; have n0_ := Aside0.mk (Kd.R_below (by (with_reducible repeat (first | apply Kd.R_alloc | apply Kd.R_drewN | apply Kd.R_drew)); exact HO224.out) hb); have n1_ := Aside0.mk (below_step (by repeat (first | (with_reducible first | exact HB.out | apply below_alloc | apply pw_below_drewN | apply below_drew1) | exact HB.out)) hb); clear HO224; clear HB; have HO224 := n0_; have HB := n1_; clear n0_ n1_; (try clear hb); (try clear hb2); (try clear hk); (try clear hi)))
                go_meet
                case rel => exact ⟨_, H', ⟨by have := HJ2.out; first | omega | exact Nat.le_refl _⟩, ⟨by (with_reducible repeat (first | apply Kd.R_alloc | apply Kd.R_drewN | apply Kd.R_drew)); exact HO224.out⟩, ⟨by repeat (first | (with_reducible first | exact HB.out | apply below_alloc | apply pw_below_drewN | apply below_drew1) | exact HB.out)⟩⟩
              · rw [if_neg c29] at H
                exact absurd H (by simp)
            · replace c28 := Bool.eq_false_iff.mpr c28
              subst c28
              have H1 : (none) = some r := by rw [if_neg (show ¬ (false = true) by decide)] at H; exact H
              clear H
              have H := H1
              clear H1
              exact absurd H (by simp)
          · replace c26 := Bool.eq_false_iff.mpr c26
            subst c26
            have H1 : (groatlaw19_CodesBack.j1 kj2 l0 a1 t222) = some r := by rw [if_neg (show ¬ (false = true) by decide)] at H; exact H
            clear H
            have H := H1
            clear H1
            have H' := Aside0.mk H
            clear H
            go_wp2
            go_meet
            case rel => exact ⟨_, H', ⟨by have := HJ2.out; first | omega | exact Nat.le_refl _⟩, ⟨by (with_reducible repeat (first | apply Kd.R_alloc | apply Kd.R_drewN | apply Kd.R_drew)); exact HO224.out⟩, ⟨by repeat (first | (with_reducible first | exact HB.out | apply below_alloc | apply pw_below_drewN | apply below_drew1) | exact HB.out)⟩⟩
        case rest =>
          clear HC23
          try clear c1
          try clear c2
          try clear p2
          try clear c5
          try clear c6
          try clear c7
          try clear c8
          try clear c10
          try clear c10b0
          try clear c10b1
          try clear c15
          try clear c17
          try clear c18
          try clear c26
          try clear c28
          try clear c29
          try clear c29b0
          try clear c29b1
          try clear p2
          obtain ⟨kq, HA, HJ22, HO_5, HB⟩ := hcut
          cases kq with
          | zero => exact absurd HA.out (by simp [groatlaw19_CodesBack.j1])
          | succ kj22 =>
            have H := HA.out
            clear HA
            simp only [groatlaw19_CodesBack.j1] at H
            replace H := Option.bind_eq_some_iff.mp H
            obtain ⟨⟨t229, t230⟩, A320, H⟩ := H
            replace H : (if t230 = true then ((codes_Apply.f kj22 l0 t229).bind fun bt231 => (if bt231.2 = true then (some (bt231.1.toList == a1.toList)) else (none))) else (some (t229.toList == ([] : List UInt8)))) = some r := H
            have A32 := Aside0.mk A320
            clear A320
            by_cases c33 : t230 = true
            · subst c33
              have H1 : ((codes_Apply.f kj22 l0 t229).bind fun bt231 => (if bt231.2 = true then (some (bt231.1.toList == a1.toList)) else (none))) = some r := by rw [if_pos rfl] at H; exact H
              clear H
              have H := H1
              clear H1
              replace H := Option.bind_eq_some_iff.mp H
              obtain ⟨⟨t231, t232⟩, A340, H⟩ := H
              replace H : (if t232 = true then (some (t231.toList == a1.toList)) else (none)) = some r := H
              have A34 := Aside0.mk A340
              clear A340
              by_cases c35 : t232 = true
              · subst c35
                have H1 : (some (t231.toList == a1.toList)) = some r := by rw [if_pos rfl] at H; exact H
                clear H
                have H := H1
                clear H1
                obtain rfl := Option.some.inj H
                obtain ⟨Ao36, co36, eo36⟩ := Kd.R_slice HO_5.out
                subst eo36
                go_wp2_with (first | ((with_reducible refine gate_callee (f := 15) rfl ?_); refine goesL_ (some 56) rfl rfl Try.func15 (by kernel_rfl) rfl #[.slice Ao36 t222.length co36, .string a1] rfl (by (try simp only [List.map_toArray, List.map_cons, List.map_nil]); first | done | rfl | (simp only [List.length_drop, List.length_take]; rfl)) ?_; (with_reducible refine (codes_Apply.calls kj22 _ _ t222 a1 t229 true _ ?side1 ?side2 A32.out).mono ?_); (case side1 => repeat (first | exact (Kd.R_reads' HO_5.out).2.2 | (with_reducible refine Kd.C_alloc ?_ _) | (with_reducible refine Kd.C_drewN ?_ _) | (with_reducible refine Kd.C_drew ?_))); (case side2 => exact (Kd.R_reads' HO_5.out).2.1); rintro e w37 ⟨rfl, hb⟩; refine ⟨_, rfl, ?_⟩; have n0_ := Aside0.mk (Kd.R_below (by (with_reducible repeat (first | apply Kd.R_alloc | apply Kd.R_drewN | apply Kd.R_drew)); exact HO_5.out) hb); have n1_ := Aside0.mk (below_step (by repeat (first | (with_reducible first | exact HB.out | apply below_alloc | apply pw_below_drewN | apply below_drew1) | exact HB.out)) hb); clear HO_5; clear HB; have HO_5 := n0_; have HB := n1_; clear n0_ n1_; (try clear hb); (try clear hb2); (try clear hk); (try clear hi)) | ((with_reducible refine gate_callee (f := 15) rfl ?_); refine goesL_ (some 66) rfl rfl Try.func15 (by kernel_rfl) rfl #[.slice A0 l0.length c0, .string t229] rfl (by (try simp only [List.map_toArray, List.map_cons, List.map_nil]); first | done | rfl | (simp only [List.length_drop, List.length_take]; rfl)) ?_; (with_reducible refine (codes_Apply.calls kj22 _ _ l0 t229 t231 true _ ?side1 ?side2 A34.out).mono ?_); (case side1 => repeat (first | exact (Kd.C_below HR0.out HB.out) | (with_reducible refine Kd.C_alloc ?_ _) | (with_reducible refine Kd.C_drewN ?_ _) | (with_reducible refine Kd.C_drew ?_))); (case side2 => exact HC0.out); rintro e w38 ⟨rfl, hb⟩; refine ⟨_, rfl, ?_⟩; have n0_ := Aside0.mk (Kd.R_below (by (with_reducible repeat (first | apply Kd.R_alloc | apply Kd.R_drewN | apply Kd.R_drew)); exact HO_5.out) hb); have n1_ := Aside0.mk (below_step (by repeat (first | (with_reducible first | exact HB.out | apply below_alloc | apply pw_below_drewN | apply below_drew1) | exact HB.out)) hb); clear HO_5; clear HB; have HO_5 := n0_; have HB := n1_; clear n0_ n1_; (try clear hb); (try clear hb2); (try clear hk); (try clear hi)))
                go_ret
                exact ⟨by first | rfl | (simp [errW_none, errW_some] <;> rfl) | (simp [*, errW_none, errW_some] <;> rfl), by repeat (first | (with_reducible first | exact HB.out | apply below_alloc | apply pw_below_drewN | apply below_drew1) | exact HB.out)⟩
              · replace c35 := Bool.eq_false_iff.mpr c35
                subst c35
                have H1 : (none) = some r := by rw [if_neg (show ¬ (false = true) by decide)] at H; exact H
                clear H
                have H := H1
                clear H1
                exact absurd H (by simp)
            · replace c33 := Bool.eq_false_iff.mpr c33
              subst c33
              have H1 : (some (t229.toList == ([] : List UInt8))) = some r := by rw [if_neg (show ¬ (false = true) by decide)] at H; exact H
              clear H
              have H := H1
              clear H1
              obtain rfl := Option.some.inj H
              obtain ⟨Ao39, co39, eo39⟩ := Kd.R_slice HO_5.out
              subst eo39
              go_wp2_with (first | ((with_reducible refine gate_callee (f := 15) rfl ?_); refine goesL_ (some 56) rfl rfl Try.func15 (by kernel_rfl) rfl #[.slice Ao39 t222.length co39, .string a1] rfl (by (try simp only [List.map_toArray, List.map_cons, List.map_nil]); first | done | rfl | (simp only [List.length_drop, List.length_take]; rfl)) ?_; (with_reducible refine (codes_Apply.calls kj22 _ _ t222 a1 t229 false _ ?side1 ?side2 A32.out).mono ?_); (case side1 => repeat (first | exact (Kd.R_reads' HO_5.out).2.2 | (with_reducible refine Kd.C_alloc ?_ _) | (with_reducible refine Kd.C_drewN ?_ _) | (with_reducible refine Kd.C_drew ?_))); (case side2 => exact (Kd.R_reads' HO_5.out).2.1); rintro e w40 ⟨rfl, hb⟩; refine ⟨_, rfl, ?_⟩; have n0_ := Aside0.mk (Kd.R_below (by (with_reducible repeat (first | apply Kd.R_alloc | apply Kd.R_drewN | apply Kd.R_drew)); exact HO_5.out) hb); have n1_ := Aside0.mk (below_step (by repeat (first | (with_reducible first | exact HB.out | apply below_alloc | apply pw_below_drewN | apply below_drew1) | exact HB.out)) hb); clear HO_5; clear HB; have HO_5 := n0_; have HB := n1_; clear n0_ n1_; (try clear hb); (try clear hb2); (try clear hk); (try clear hi)))
              go_ret
              exact ⟨by first | rfl | (simp [errW_none, errW_some] <;> rfl) | (simp [*, errW_none, errW_some] <;> rfl), by repeat (first | (with_reducible first | exact HB.out | apply below_alloc | apply pw_below_drewN | apply below_drew1) | exact HB.out)⟩

/-! ### groatlaw19_CodesSame: function 7 -/
def groatlaw19_CodesSame.j0 : Nat → List (S40) → ByteArray → Int → Bool → Option (Bool)
  | 0, _, _, _, _ => none
  | k + 1, x0, x1, x2, x41 => if x41 = true then ((groatlaw19_awake.f k).bind fun t237 => (some t237)) else (if (IntKind.u64.wrap ((x0.length : Int))) = 0 then (none) else (if 0 ≤ (wrap64 (Int.tmod (IntKind.u64.wrap (x2)) (IntKind.u64.wrap ((x0.length : Int))))) then (if (wrap64 (Int.tmod (IntKind.u64.wrap (x2)) (IntKind.u64.wrap ((x0.length : Int))))) ≤ (x0.length : Int) then ((groatref19_Copy.f (x0.drop ((wrap64 (Int.tmod (IntKind.u64.wrap (x2)) (IntKind.u64.wrap ((x0.length : Int))))) : Int).toNat)).bind fun t242 => ((some (x0.take ((wrap64 (Int.tmod (IntKind.u64.wrap (x2)) (IntKind.u64.wrap ((x0.length : Int))))) : Int).toNat : List (S40))).bind fun y245 => (if t242.length + y245.length < 4398046511104 then ((some (t242 ++ y245 : List (S40))).bind fun y249 => ((codes_Apply.f k x0 x1).bind fun bt252 => ((codes_Apply.f k y249 x1).bind fun bt254 => ((codes_Check.f y249).bind fun bt256 => (if bt252.1.toList = bt254.1.toList then (if (bt252.2 == bt254.2) = true then (some (bt256.1 == 0)) else (none)) else (none)))))) else (none)))) else (none)) else (none)))
def groatlaw19_CodesSame.f (k : Nat) (l0 : List (S40)) (a1 : ByteArray) (a2 : Int) : Option (Bool) := (codes_Check.f l0).bind fun bt233 => ((groatlaw19_awake.f k).bind fun t235 => (if t235 = true then ((groatlaw19_great.f k l0).bind fun t236 => (if t236 = true then (groatlaw19_CodesSame.j0 k l0 a1 a2 true) else (if (a1.size : Int) > 1000 then (groatlaw19_CodesSame.j0 k l0 a1 a2 true) else (if bt233.1 = 0 then (groatlaw19_CodesSame.j0 k l0 a1 a2 ((l0.length : Int) == 0)) else (groatlaw19_CodesSame.j0 k l0 a1 a2 true))))) else (groatlaw19_CodesSame.j0 k l0 a1 a2 true)))
theorem groatlaw19_CodesSame.mono_l : ∀ k, (∀ y0 y1 y2 y3, LeO (groatlaw19_CodesSame.j0 k y0 y1 y2 y3) (groatlaw19_CodesSame.j0 (k + 1) y0 y1 y2 y3))
  | 0 => fun _ _ _ _ r h => by simp [groatlaw19_CodesSame.j0] at h
  | k + 1 => by
    have ih0 := groatlaw19_CodesSame.mono_l k
    · intro y0 y1 y2 y3
      unfold groatlaw19_CodesSame.j0
      repeat' first
      | (with_reducible exact ih0 _ _ _ _)
      | (with_reducible exact codes_Apply.mono _ _ _)
      | (with_reducible exact groatlaw19_awake.mono _)
      | (with_reducible exact groatlaw19_great.mono _ _)
      | (with_reducible exact LeO.refl _)
      | (with_reducible exact LeO.none _)
      | (with_reducible refine LeO.ite ?_ ?_)
      | (with_reducible refine LeO.bind ?_ (fun _ => ?_))
      | exact ih0 _ _ _ _
      | exact codes_Apply.mono _ _ _
      | exact groatlaw19_awake.mono _
      | exact groatlaw19_great.mono _ _
      | exact LeO.none _
      | refine LeO.ite ?_ ?_
      | refine LeO.bind ?_ (fun _ => ?_)
theorem groatlaw19_CodesSame.mono : ∀ a0 a1 a2 k, LeO (groatlaw19_CodesSame.f k a0 a1 a2) (groatlaw19_CodesSame.f (k + 1) a0 a1 a2) := by
  intro a0 a1 a2 k
  have ih0 := groatlaw19_CodesSame.mono_l k
  unfold groatlaw19_CodesSame.f
  repeat' first
      | (with_reducible exact ih0 _ _ _ _)
      | (with_reducible exact codes_Apply.mono _ _ _)
      | (with_reducible exact groatlaw19_awake.mono _)
      | (with_reducible exact groatlaw19_great.mono _ _)
      | (with_reducible exact LeO.refl _)
      | (with_reducible exact LeO.none _)
      | (with_reducible refine LeO.ite ?_ ?_)
      | (with_reducible refine LeO.bind ?_ (fun _ => ?_))
      | exact ih0 _ _ _ _
      | exact codes_Apply.mono _ _ _
      | exact groatlaw19_awake.mono _
      | exact groatlaw19_great.mono _ _
      | exact LeO.none _
      | refine LeO.ite ?_ ?_
      | refine LeO.bind ?_ (fun _ => ?_)
def groatlaw19_CodesSame.T5 : Bool × List (List Nat × List Nat) := (true, [([], []), ([], []), ([0, 1], [0, 1]), ([2], [2]), ([], []), ([], []), ([4, 5], [4, 5]), ([3, 6, 3], [3, 6]), ([7, 7, 0, 1, 2, 3, 4, 5, 6, 7], [7])])
def groatlaw19_CodesSame.B5 : List Nat := [0, 0, 3, 7, 0, 0, 48, 127, 255]
theorem groatlaw19_CodesSame.tab5 : rtab .any (opsOf Try.f7 5) = groatlaw19_CodesSame.T5 := by kernel_rfl
theorem groatlaw19_CodesSame.bits5 : waitsOk groatlaw19_CodesSame.T5.2 groatlaw19_CodesSame.B5 = true := by kernel_rfl
set_option maxHeartbeats 8000000 in
set_option maxRecDepth 100000 in
theorem groatlaw19_CodesSame.calls (k : Nat) (A0 : Option Addr) (c0 : Nat) (l0 : List (S40)) (a1 : ByteArray) (a2 : Int) (r : Bool) (w : World) (hr0 : Kd.C k40 w A0 l0.length l0) (hc0 : l0.length ≤ c0) (h : groatlaw19_CodesSame.f k l0 a1 a2 = some r) :
    Calls Try.prog 7 #[.slice A0 l0.length c0, .string a1, .int .i64 a2] w fun e w' => e = .returned (.bool r) ∧ Below w.heap.size w w' := by
  have HR0 := Aside0.mk hr0
  have HC0 := Aside0.mk hc0
  clear hr0 hc0
  have HB := Aside0.mk (Below.refl w.heap.size w)
  have H : ((codes_Check.f l0).bind fun bt233 => ((groatlaw19_awake.f k).bind fun t235 => (if t235 = true then ((groatlaw19_great.f k l0).bind fun t236 => (if t236 = true then (groatlaw19_CodesSame.j0 k l0 a1 a2 true) else (if (a1.size : Int) > 1000 then (groatlaw19_CodesSame.j0 k l0 a1 a2 true) else (if bt233.1 = 0 then (groatlaw19_CodesSame.j0 k l0 a1 a2 ((l0.length : Int) == 0)) else (groatlaw19_CodesSame.j0 k l0 a1 a2 true))))) else (groatlaw19_CodesSame.j0 k l0 a1 a2 true)))) = some r := h
  clear h
  replace H := Option.bind_eq_some_iff.mp H
  obtain ⟨⟨t233, t234⟩, A40, H⟩ := H
  replace H : ((groatlaw19_awake.f k).bind fun t235 => (if t235 = true then ((groatlaw19_great.f k l0).bind fun t236 => (if t236 = true then (groatlaw19_CodesSame.j0 k l0 a1 a2 true) else (if (a1.size : Int) > 1000 then (groatlaw19_CodesSame.j0 k l0 a1 a2 true) else (if t233 = 0 then (groatlaw19_CodesSame.j0 k l0 a1 a2 ((l0.length : Int) == 0)) else (groatlaw19_CodesSame.j0 k l0 a1 a2 true))))) else (groatlaw19_CodesSame.j0 k l0 a1 a2 true))) = some r := H
  have A4 := Aside0.mk A40
  clear A40
  have HC5 := Aside0.mk H
  clear H
  go_enter Try.func7, Try.ntmps7
  go_upto_region 2 with (first | ((with_reducible refine gate_callee (f := 10) rfl ?_); refine goesL_ (some 19) rfl rfl Try.func10 (by kernel_rfl) rfl #[.slice A0 l0.length c0] rfl (by (try simp only [List.map_toArray, List.map_cons, List.map_nil]); first | done | rfl | (simp only [List.length_drop, List.length_take]; rfl)) ?_; (with_reducible refine (codes_Check.calls _ _ l0 t233 t234 _ ?side1 ?side2 A4.out).mono ?_); (case side1 => repeat (first | exact HR0.out | (with_reducible refine Kd.C_alloc ?_ _) | (with_reducible refine Kd.C_drewN ?_ _) | (with_reducible refine Kd.C_drew ?_))); (case side2 => exact HC0.out); rintro e w6 ⟨rfl, hb⟩; refine ⟨_, rfl, ?_⟩; have n0_ := Aside0.mk (below_step (by repeat (first | (with_reducible first | exact HB.out | apply below_alloc | apply pw_below_drewN | apply below_drew1) | exact HB.out)) hb); clear HB; have HB := n0_; clear n0_; (try clear hb); (try clear hb2); (try clear hk); (try clear hi)))
  (try simp only [Act.put, List.setIfInBounds_toArray, List.set_cons_zero, List.set_cons_succ])
  go_cut [41] (fun v41 wc => ∃ (kq : Nat) (x41_4 : Bool), v41 = .bool x41_4 ∧ Aside0 (groatlaw19_CodesSame.j0 kq l0 a1 a2 x41_4 = some r) ∧ Aside0 (kq ≤ k) ∧ Aside0 (Below w.heap.size w wc))
  case first =>
    have H := HC5.out
    clear HC5
    replace H := Option.bind_eq_some_iff.mp H
    obtain ⟨t235, A70, H⟩ := H
    replace H : (if t235 = true then ((groatlaw19_great.f k l0).bind fun t236 => (if t236 = true then (groatlaw19_CodesSame.j0 k l0 a1 a2 true) else (if (a1.size : Int) > 1000 then (groatlaw19_CodesSame.j0 k l0 a1 a2 true) else (if t233 = 0 then (groatlaw19_CodesSame.j0 k l0 a1 a2 ((l0.length : Int) == 0)) else (groatlaw19_CodesSame.j0 k l0 a1 a2 true))))) else (groatlaw19_CodesSame.j0 k l0 a1 a2 true)) = some r := H
    have A7 := Aside0.mk A70
    clear A70
    by_cases c8 : t235 = true
    · subst c8
      have H1 : ((groatlaw19_great.f k l0).bind fun t236 => (if t236 = true then (groatlaw19_CodesSame.j0 k l0 a1 a2 true) else (if (a1.size : Int) > 1000 then (groatlaw19_CodesSame.j0 k l0 a1 a2 true) else (if t233 = 0 then (groatlaw19_CodesSame.j0 k l0 a1 a2 ((l0.length : Int) == 0)) else (groatlaw19_CodesSame.j0 k l0 a1 a2 true))))) = some r := by rw [if_pos rfl] at H; exact H
      clear H
      have H := H1
      clear H1
      replace H := Option.bind_eq_some_iff.mp H
      obtain ⟨t236, A90, H⟩ := H
      replace H : (if t236 = true then (groatlaw19_CodesSame.j0 k l0 a1 a2 true) else (if (a1.size : Int) > 1000 then (groatlaw19_CodesSame.j0 k l0 a1 a2 true) else (if t233 = 0 then (groatlaw19_CodesSame.j0 k l0 a1 a2 ((l0.length : Int) == 0)) else (groatlaw19_CodesSame.j0 k l0 a1 a2 true)))) = some r := H
      have A9 := Aside0.mk A90
      clear A90
      by_cases c10 : t236 = true
      · subst c10
        have H1 : (groatlaw19_CodesSame.j0 k l0 a1 a2 true) = some r := by rw [if_pos rfl] at H; exact H
        clear H
        have H := H1
        clear H1
        have H' := Aside0.mk H
        clear H
        go_wp2_with (first | ((with_reducible refine gate_callee (f := 8) rfl ?_); refine goesL_ (some 22) rfl rfl Try.func8 (by kernel_rfl) rfl #[] rfl (by (try simp only [List.map_toArray, List.map_cons, List.map_nil]); first | done | rfl | (simp only [List.length_drop, List.length_take]; rfl)) ?_; (with_reducible refine (groatlaw19_awake.calls k  true _ A7.out).mono ?_); rintro e w11 ⟨rfl, hb⟩; refine ⟨_, rfl, ?_⟩; have n0_ := Aside0.mk (below_step (by repeat (first | (with_reducible first | exact HB.out | apply below_alloc | apply pw_below_drewN | apply below_drew1) | exact HB.out)) hb); clear HB; have HB := n0_; clear n0_; (try clear hb); (try clear hb2); (try clear hk); (try clear hi)) | (go_at_call 9; (with_reducible refine (groatlaw19_great.calls k _ _ l0 true _ ?side1 ?side2 A9.out).mono ?_); (case side1 => repeat (first | exact (Kd.C_below HR0.out HB.out) | (with_reducible refine Kd.C_alloc ?_ _) | (with_reducible refine Kd.C_drewN ?_ _) | (with_reducible refine Kd.C_drew ?_))); (case side2 => exact HC0.out); rintro e w12 ⟨rfl, hb⟩; have n0_ := Aside0.mk (below_step (by repeat (first | (with_reducible first | exact HB.out | apply below_alloc | apply pw_below_drewN | apply below_drew1) | exact HB.out)) hb); clear HB; have HB := n0_; clear n0_; (try clear hb); (try clear hb2); (try clear hk); (try clear hi)))
        go_meet
        case rel => exact ⟨_, (true), (by first | rfl | (simp; done) | (simp [*]; done)), H', ⟨by first | omega | exact Nat.le_refl _⟩, ⟨by repeat (first | (with_reducible first | exact HB.out | apply below_alloc | apply pw_below_drewN | apply below_drew1) | exact HB.out)⟩⟩
      · replace c10 := Bool.eq_false_iff.mpr c10
        subst c10
        have H1 : (if (a1.size : Int) > 1000 then (groatlaw19_CodesSame.j0 k l0 a1 a2 true) else (if t233 = 0 then (groatlaw19_CodesSame.j0 k l0 a1 a2 ((l0.length : Int) == 0)) else (groatlaw19_CodesSame.j0 k l0 a1 a2 true))) = some r := by rw [if_neg (show ¬ (false = true) by decide)] at H; exact H
        clear H
        have H := H1
        clear H1
        by_cases c13 : (a1.size : Int) > 1000
        · rw [if_pos c13] at H
          have c13b0 : decide (1000 < (a1.size : Int)) = true := decide_eq_true c13
          have c13b1 : decide (1000 < a1.size) = true := decide_eq_true (by omega)
          clear c13
          (first | rw [c13b0] | (simp only [i64_w, i32_w]; rw [c13b0]) | skip)
          have H' := Aside0.mk H
          clear H
          go_wp2_with (first | ((with_reducible refine gate_callee (f := 8) rfl ?_); refine goesL_ (some 22) rfl rfl Try.func8 (by kernel_rfl) rfl #[] rfl (by (try simp only [List.map_toArray, List.map_cons, List.map_nil]); first | done | rfl | (simp only [List.length_drop, List.length_take]; rfl)) ?_; (with_reducible refine (groatlaw19_awake.calls k  true _ A7.out).mono ?_); rintro e w14 ⟨rfl, hb⟩; refine ⟨_, rfl, ?_⟩; have n0_ := Aside0.mk (below_step (by repeat (first | (with_reducible first | exact HB.out | apply below_alloc | apply pw_below_drewN | apply below_drew1) | exact HB.out)) hb); clear HB; have HB := n0_; clear n0_; (try clear hb); (try clear hb2); (try clear hk); (try clear hi)) | (go_at_call 9; (with_reducible refine (groatlaw19_great.calls k _ _ l0 false _ ?side1 ?side2 A9.out).mono ?_); (case side1 => repeat (first | exact (Kd.C_below HR0.out HB.out) | (with_reducible refine Kd.C_alloc ?_ _) | (with_reducible refine Kd.C_drewN ?_ _) | (with_reducible refine Kd.C_drew ?_))); (case side2 => exact HC0.out); rintro e w15 ⟨rfl, hb⟩; have n0_ := Aside0.mk (below_step (by repeat (first | (with_reducible first | exact HB.out | apply below_alloc | apply pw_below_drewN | apply below_drew1) | exact HB.out)) hb); clear HB; have HB := n0_; clear n0_; (try clear hb); (try clear hb2); (try clear hk); (try clear hi)))
          go_meet
          case rel => exact ⟨_, (true), (by first | rfl | (simp; done) | (simp [*]; done)), H', ⟨by first | omega | exact Nat.le_refl _⟩, ⟨by repeat (first | (with_reducible first | exact HB.out | apply below_alloc | apply pw_below_drewN | apply below_drew1) | exact HB.out)⟩⟩
        · rw [if_neg c13] at H
          have c13b0 : decide (1000 < (a1.size : Int)) = false := decide_eq_false c13
          have c13b1 : decide (1000 < a1.size) = false := decide_eq_false (by omega)
          clear c13
          (first | rw [c13b0] | (simp only [i64_w, i32_w]; rw [c13b0]) | skip)
          by_cases c16 : t233 = 0
          · rw [if_pos c16] at H
            have c16b0 : (t233 == 0) = true := beq_iff_eq.mpr c16
            have c16b1 : (t233 != 0) = false := bne_eq_false_iff_eq.mpr c16
            clear c16
            have H' := Aside0.mk H
            clear H
            go_wp2_with (first | ((with_reducible refine gate_callee (f := 8) rfl ?_); refine goesL_ (some 22) rfl rfl Try.func8 (by kernel_rfl) rfl #[] rfl (by (try simp only [List.map_toArray, List.map_cons, List.map_nil]); first | done | rfl | (simp only [List.length_drop, List.length_take]; rfl)) ?_; (with_reducible refine (groatlaw19_awake.calls k  true _ A7.out).mono ?_); rintro e w17 ⟨rfl, hb⟩; refine ⟨_, rfl, ?_⟩; have n0_ := Aside0.mk (below_step (by repeat (first | (with_reducible first | exact HB.out | apply below_alloc | apply pw_below_drewN | apply below_drew1) | exact HB.out)) hb); clear HB; have HB := n0_; clear n0_; (try clear hb); (try clear hb2); (try clear hk); (try clear hi)) | (go_at_call 9; (with_reducible refine (groatlaw19_great.calls k _ _ l0 false _ ?side1 ?side2 A9.out).mono ?_); (case side1 => repeat (first | exact (Kd.C_below HR0.out HB.out) | (with_reducible refine Kd.C_alloc ?_ _) | (with_reducible refine Kd.C_drewN ?_ _) | (with_reducible refine Kd.C_drew ?_))); (case side2 => exact HC0.out); rintro e w18 ⟨rfl, hb⟩; have n0_ := Aside0.mk (below_step (by repeat (first | (with_reducible first | exact HB.out | apply below_alloc | apply pw_below_drewN | apply below_drew1) | exact HB.out)) hb); clear HB; have HB := n0_; clear n0_; (try clear hb); (try clear hb2); (try clear hk); (try clear hi)))
            go_meet
            case rel => exact ⟨_, (((l0.length : Int) == 0)), (by first | rfl | (simp; done) | (simp [*]; done)), H', ⟨by first | omega | exact Nat.le_refl _⟩, ⟨by repeat (first | (with_reducible first | exact HB.out | apply below_alloc | apply pw_below_drewN | apply below_drew1) | exact HB.out)⟩⟩
          · rw [if_neg c16] at H
            have c16b0 : (t233 == 0) = false := beq_eq_false_iff_ne.mpr c16
            have c16b1 : (t233 != 0) = true := bne_iff_ne.mpr c16
            have H' := Aside0.mk H
            clear H
            go_wp2_with (first | ((with_reducible refine gate_callee (f := 8) rfl ?_); refine goesL_ (some 22) rfl rfl Try.func8 (by kernel_rfl) rfl #[] rfl (by (try simp only [List.map_toArray, List.map_cons, List.map_nil]); first | done | rfl | (simp only [List.length_drop, List.length_take]; rfl)) ?_; (with_reducible refine (groatlaw19_awake.calls k  true _ A7.out).mono ?_); rintro e w19 ⟨rfl, hb⟩; refine ⟨_, rfl, ?_⟩; have n0_ := Aside0.mk (below_step (by repeat (first | (with_reducible first | exact HB.out | apply below_alloc | apply pw_below_drewN | apply below_drew1) | exact HB.out)) hb); clear HB; have HB := n0_; clear n0_; (try clear hb); (try clear hb2); (try clear hk); (try clear hi)) | (go_at_call 9; (with_reducible refine (groatlaw19_great.calls k _ _ l0 false _ ?side1 ?side2 A9.out).mono ?_); (case side1 => repeat (first | exact (Kd.C_below HR0.out HB.out) | (with_reducible refine Kd.C_alloc ?_ _) | (with_reducible refine Kd.C_drewN ?_ _) | (with_reducible refine Kd.C_drew ?_))); (case side2 => exact HC0.out); rintro e w20 ⟨rfl, hb⟩; have n0_ := Aside0.mk (below_step (by repeat (first | (with_reducible first | exact HB.out | apply below_alloc | apply pw_below_drewN | apply below_drew1) | exact HB.out)) hb); clear HB; have HB := n0_; clear n0_; (try clear hb); (try clear hb2); (try clear hk); (try clear hi)))
            go_meet
            case rel => exact ⟨_, (true), (by first | rfl | (simp; done) | (simp [*]; done)), H', ⟨by first | omega | exact Nat.le_refl _⟩, ⟨by repeat (first | (with_reducible first | exact HB.out | apply below_alloc | apply pw_below_drewN | apply below_drew1) | exact HB.out)⟩⟩
    · replace c8 := Bool.eq_false_iff.mpr c8
      subst c8
      have H1 : (groatlaw19_CodesSame.j0 k l0 a1 a2 true) = some r := by rw [if_neg (show ¬ (false = true) by decide)] at H; exact H
      clear H
      have H := H1
      clear H1
      have H' := Aside0.mk H
      clear H
      go_wp2_with (first | ((with_reducible refine gate_callee (f := 8) rfl ?_); refine goesL_ (some 22) rfl rfl Try.func8 (by kernel_rfl) rfl #[] rfl (by (try simp only [List.map_toArray, List.map_cons, List.map_nil]); first | done | rfl | (simp only [List.length_drop, List.length_take]; rfl)) ?_; (with_reducible refine (groatlaw19_awake.calls k  false _ A7.out).mono ?_); rintro e w21 ⟨rfl, hb⟩; refine ⟨_, rfl, ?_⟩; have n0_ := Aside0.mk (below_step (by repeat (first | (with_reducible first | exact HB.out | apply below_alloc | apply pw_below_drewN | apply below_drew1) | exact HB.out)) hb); clear HB; have HB := n0_; clear n0_; (try clear hb); (try clear hb2); (try clear hk); (try clear hi)))
      go_meet
      case rel => exact ⟨_, (true), (by first | rfl | (simp; done) | (simp [*]; done)), H', ⟨by first | omega | exact Nat.le_refl _⟩, ⟨by repeat (first | (with_reducible first | exact HB.out | apply below_alloc | apply pw_below_drewN | apply below_drew1) | exact HB.out)⟩⟩
  case rest =>
    clear HC5
    try clear c1
    try clear p2
    try clear c7
    try clear c8
    try clear c10
    try clear c13
    try clear c13b0
    try clear c13b1
    try clear c16
    try clear c16b0
    try clear c16b1
    obtain ⟨kq, x41_4, rfl, HA, HJ4, HB⟩ := hcut
    cases kq with
    | zero => exact absurd HA.out (by simp [groatlaw19_CodesSame.j0])
    | succ kj4 =>
      have H := HA.out
      clear HA
      simp only [groatlaw19_CodesSame.j0] at H
      by_cases c22 : x41_4 = true
      · subst c22
        have H1 : ((groatlaw19_awake.f kj4).bind fun t237 => (some t237)) = some r := by rw [if_pos rfl] at H; exact H
        clear H
        have H := H1
        clear H1
        replace H := Option.bind_eq_some_iff.mp H
        obtain ⟨t237, A230, H⟩ := H
        replace H : (some t237) = some r := H
        have A23 := Aside0.mk A230
        clear A230
        obtain rfl := Option.some.inj H
        go_wp2_with (first | ((with_reducible refine gate_callee (f := 8) rfl ?_); refine goesL_ (some 42) rfl rfl Try.func8 (by kernel_rfl) rfl #[] rfl (by (try simp only [List.map_toArray, List.map_cons, List.map_nil]); first | done | rfl | (simp only [List.length_drop, List.length_take]; rfl)) ?_; (with_reducible refine (groatlaw19_awake.calls kj4  t237 _ A23.out).mono ?_); rintro e w24 ⟨rfl, hb⟩; refine ⟨_, rfl, ?_⟩; have n0_ := Aside0.mk (below_step (by repeat (first | (with_reducible first | exact HB.out | apply below_alloc | apply pw_below_drewN | apply below_drew1) | exact HB.out)) hb); clear HB; have HB := n0_; clear n0_; (try clear hb); (try clear hb2); (try clear hk); (try clear hi)))
        go_ret
        exact ⟨by first | rfl | (simp [errW_none, errW_some] <;> rfl) | (simp [*, errW_none, errW_some] <;> rfl), by repeat (first | (with_reducible first | exact HB.out | apply below_alloc | apply pw_below_drewN | apply below_drew1) | exact HB.out)⟩
      · replace c22 := Bool.eq_false_iff.mpr c22
        subst c22
        have H1 : (if (IntKind.u64.wrap ((l0.length : Int))) = 0 then (none) else (if 0 ≤ (wrap64 (Int.tmod (IntKind.u64.wrap (a2)) (IntKind.u64.wrap ((l0.length : Int))))) then (if (wrap64 (Int.tmod (IntKind.u64.wrap (a2)) (IntKind.u64.wrap ((l0.length : Int))))) ≤ (l0.length : Int) then ((groatref19_Copy.f (l0.drop ((wrap64 (Int.tmod (IntKind.u64.wrap (a2)) (IntKind.u64.wrap ((l0.length : Int))))) : Int).toNat)).bind fun t242 => ((some (l0.take ((wrap64 (Int.tmod (IntKind.u64.wrap (a2)) (IntKind.u64.wrap ((l0.length : Int))))) : Int).toNat : List (S40))).bind fun y245 => (if t242.length + y245.length < 4398046511104 then ((some (t242 ++ y245 : List (S40))).bind fun y249 => ((codes_Apply.f kj4 l0 a1).bind fun bt252 => ((codes_Apply.f kj4 y249 a1).bind fun bt254 => ((codes_Check.f y249).bind fun bt256 => (if bt252.1.toList = bt254.1.toList then (if (bt252.2 == bt254.2) = true then (some (bt256.1 == 0)) else (none)) else (none)))))) else (none)))) else (none)) else (none))) = some r := by rw [if_neg (show ¬ (false = true) by decide)] at H; exact H
        clear H
        have H := H1
        clear H1
        by_cases c25 : (IntKind.u64.wrap ((l0.length : Int))) = 0
        · rw [if_pos c25] at H
          exact absurd H (by simp)
        · rw [if_neg c25] at H
          have c25b0 : ((IntKind.u64.wrap ((l0.length : Int))) == 0) = false := beq_eq_false_iff_ne.mpr c25
          have c25b1 : ((IntKind.u64.wrap ((l0.length : Int))) != 0) = true := bne_iff_ne.mpr c25
          obtain ⟨ji26, hji26⟩ : ∃ j_ : Int, (wrap64 (Int.tmod (IntKind.u64.wrap (a2)) (IntKind.u64.wrap ((l0.length : Int))))) = j_ := ⟨_, rfl⟩
          replace H : (if 0 ≤ (ji26) then (if (ji26) ≤ (l0.length : Int) then ((groatref19_Copy.f (l0.drop ((ji26) : Int).toNat)).bind fun t242 => ((some (l0.take ((ji26) : Int).toNat : List (S40))).bind fun y245 => (if t242.length + y245.length < 4398046511104 then ((some (t242 ++ y245 : List (S40))).bind fun y249 => ((codes_Apply.f kj4 l0 a1).bind fun bt252 => ((codes_Apply.f kj4 y249 a1).bind fun bt254 => ((codes_Check.f y249).bind fun bt256 => (if bt252.1.toList = bt254.1.toList then (if (bt252.2 == bt254.2) = true then (some (bt256.1 == 0)) else (none)) else (none)))))) else (none)))) else (none)) else (none)) = some r := by first | (rw [hji26] at H; exact H) | (simp only [hji26] at H ⊢; exact H)
          have hji26w : (IntKind.i64.wrap (Int.tmod (IntKind.u64.wrap (a2)) (IntKind.u64.wrap ((l0.length : Int))))) = ji26 := (i64_w _).trans hji26
          by_cases c27 : 0 ≤ (ji26)
          · rw [if_pos c27] at H
            have c27b0 := eq_true c27
            have c27b1 : decide (0 ≤ (ji26)) = true := decide_eq_true c27
            clear c27
            by_cases c28 : (ji26) ≤ (l0.length : Int)
            · rw [if_pos c28] at H
              have c28b0 := eq_true c28
              have c28b1 : decide ((ji26) ≤ (l0.length : Int)) = true := decide_eq_true c28
              clear c28
              obtain ⟨y238, hy238⟩ : ∃ y_ : List (S40), y_ = (l0.drop ((ji26) : Int).toNat) := ⟨_, rfl⟩
              replace H : ((groatref19_Copy.f y238).bind fun t242 => ((some (l0.take ((ji26) : Int).toNat : List (S40))).bind fun y245 => (if t242.length + y245.length < 4398046511104 then ((some (t242 ++ y245 : List (S40))).bind fun y249 => ((codes_Apply.f kj4 l0 a1).bind fun bt252 => ((codes_Apply.f kj4 y249 a1).bind fun bt254 => ((codes_Check.f y249).bind fun bt256 => (if bt252.1.toList = bt254.1.toList then (if (bt252.2 == bt254.2) = true then (some (bt256.1 == 0)) else (none)) else (none)))))) else (none)))) = some r := by first | (rw [hy238]; with_reducible exact H) | (have H2_ := (Option.bind_some _ _).symm.trans H; rw [hy238]; with_reducible exact H2_) | (have H2_ := (Option.bind_some _ _).symm.trans H; with_reducible exact H2_) | with_reducible exact H | (rw [hy238]; exact H) | exact H
              have Ny238 := Aside0.mk hy238
              clear hy238
              replace H := Option.bind_eq_some_iff.mp H
              obtain ⟨t242, A290, H⟩ := H
              replace H : ((some (l0.take ((ji26) : Int).toNat : List (S40))).bind fun y245 => (if t242.length + y245.length < 4398046511104 then ((some (t242 ++ y245 : List (S40))).bind fun y249 => ((codes_Apply.f kj4 l0 a1).bind fun bt252 => ((codes_Apply.f kj4 y249 a1).bind fun bt254 => ((codes_Check.f y249).bind fun bt256 => (if bt252.1.toList = bt254.1.toList then (if (bt252.2 == bt254.2) = true then (some (bt256.1 == 0)) else (none)) else (none)))))) else (none))) = some r := H
              have A29 := Aside0.mk A290
              clear A290
              have c30b0 := eq_true (of_decide_eq_true (by first | (with_reducible assumption) | assumption) : 0 ≤ (ji26))
              have c31b0 := eq_true (of_decide_eq_true (by first | (with_reducible assumption) | assumption) : (ji26) ≤ (l0.length : Int))
              obtain ⟨y245, hy245⟩ : ∃ y_ : List (S40), y_ = (l0.take ((ji26) : Int).toNat) := ⟨_, rfl⟩
              replace H : (if t242.length + y245.length < 4398046511104 then ((some (t242 ++ y245 : List (S40))).bind fun y249 => ((codes_Apply.f kj4 l0 a1).bind fun bt252 => ((codes_Apply.f kj4 y249 a1).bind fun bt254 => ((codes_Check.f y249).bind fun bt256 => (if bt252.1.toList = bt254.1.toList then (if (bt252.2 == bt254.2) = true then (some (bt256.1 == 0)) else (none)) else (none)))))) else (none)) = some r := by first | (rw [hy245]; with_reducible exact H) | (have H2_ := (Option.bind_some _ _).symm.trans H; rw [hy245]; with_reducible exact H2_) | (have H2_ := (Option.bind_some _ _).symm.trans H; with_reducible exact H2_) | with_reducible exact H | (rw [hy245]; exact H) | exact H
              have Ny245 := Aside0.mk hy245
              clear hy245
              by_cases c32 : t242.length + y245.length < 4398046511104
              · rw [if_pos c32] at H
                have LMc32 := Aside0.mk c32
                clear c32
                obtain ⟨y249, hy249⟩ : ∃ y_ : List (S40), y_ = (t242 ++ y245) := ⟨_, rfl⟩
                replace H : ((codes_Apply.f kj4 l0 a1).bind fun bt252 => ((codes_Apply.f kj4 y249 a1).bind fun bt254 => ((codes_Check.f y249).bind fun bt256 => (if bt252.1.toList = bt254.1.toList then (if (bt252.2 == bt254.2) = true then (some (bt256.1 == 0)) else (none)) else (none))))) = some r := by first | (rw [hy249]; with_reducible exact H) | (have H2_ := (Option.bind_some _ _).symm.trans H; rw [hy249]; with_reducible exact H2_) | (have H2_ := (Option.bind_some _ _).symm.trans H; with_reducible exact H2_) | with_reducible exact H | (rw [hy249]; exact H) | exact H
                have Ny249 := Aside0.mk hy249
                clear hy249
                replace H := Option.bind_eq_some_iff.mp H
                obtain ⟨⟨t252, t253⟩, A330, H⟩ := H
                replace H : ((codes_Apply.f kj4 y249 a1).bind fun bt254 => ((codes_Check.f y249).bind fun bt256 => (if t252.toList = bt254.1.toList then (if (t253 == bt254.2) = true then (some (bt256.1 == 0)) else (none)) else (none)))) = some r := H
                have A33 := Aside0.mk A330
                clear A330
                replace H := Option.bind_eq_some_iff.mp H
                obtain ⟨⟨t254, t255⟩, A340, H⟩ := H
                replace H : ((codes_Check.f y249).bind fun bt256 => (if t252.toList = t254.toList then (if (t253 == t255) = true then (some (bt256.1 == 0)) else (none)) else (none))) = some r := H
                have A34 := Aside0.mk A340
                clear A340
                replace H := Option.bind_eq_some_iff.mp H
                obtain ⟨⟨t256, t257⟩, A350, H⟩ := H
                replace H : (if t252.toList = t254.toList then (if (t253 == t255) = true then (some (t256 == 0)) else (none)) else (none)) = some r := H
                have A35 := Aside0.mk A350
                clear A350
                by_cases c36 : t252.toList = t254.toList
                · rw [if_pos c36] at H
                  have c36b0 : (t252.toList == t254.toList) = true := beq_iff_eq.mpr c36
                  have c36b1 : (t252.toList != t254.toList) = false := bne_eq_false_iff_eq.mpr c36
                  clear c36
                  by_cases c37 : (t253 == t255) = true
                  · rw [if_pos c37] at H
                    have c37b0 : (t253 == t255) = true := c37
                    (try (have c37b1 : decide (t253 = t255) = true := by simpa using c37))
                    (try (have c37b2 : (t253 == t255) = true := by simpa using c37))
                    clear c37
                    obtain rfl := Option.some.inj H
                    try go_wp2
                    have n0_ := Aside0.mk (below_drew1 HB.out)
                    clear HB
                    have HB := n0_
                    clear n0_
                    have q39 : ((ji26) : Int) ≤ ((l0.length : Int) : Int) := of_decide_eq_true (by first | (with_reducible assumption) | assumption)
                    obtain ⟨i039, hi039, _, hsz39, _⟩ := info_parts info40
                    have hroom39 : l0.length ≤ c0 := HC0.out
                    have hC39 : Kd.C k40 _ A0 l0.length l0 := HR0.out
                    have q039 : (0 : Int) ≤ ((ji26) : Int) := of_decide_eq_true (by first | (with_reducible assumption) | assumption)
                    have hcut39 := cut_from (P := Try.prog) 22 40 .i64 Try.underlying22 hi039 2 hsz39 A0 l0.length c0 (ji26) q039 q39
                    have hr39 := Kd.C_drop (m := ((ji26) : Int).toNat) (c := c0) hC39 (by omega) hroom39
                    obtain ⟨A39, hA39⟩ : ∃ A1, A1 = (if c0 = ((ji26) : Int).toNat then A0 else (A0 : Option Addr).map (·.add (((ji26) : Int).toNat * 2))) := ⟨_, rfl⟩
                    obtain ⟨c39, hc39⟩ : ∃ c1, c1 = c0 - ((ji26) : Int).toNat := ⟨_, rfl⟩
                    have hy39 : y238.length = l0.length - ((ji26) : Int).toNat := (by rw [Ny238.out, List.length_drop] <;> omega)
                    rw [show (l0).drop ((ji26) : Int).toNat = y238 from Ny238.out.symm] at hr39
                    replace hr39 : Kd.C k40 _ A39 y238.length y238 := (by rw [hA39]; exact hr39)
                    rw [← hy39, ← hA39, ← hc39] at hcut39
                    have HR241 := Aside0.mk hr39
                    have HC241 := Aside0.mk (show y238.length ≤ c39 from by rw [hy39, hc39]; exact Nat.sub_le_sub_right hroom39 _)
                    clear hr39 hC39 hroom39 hi039 hsz39 hc39
                    have KY39 := Aside0.mk hy39
                    have KA39 := Aside0.mk hA39
                    clear hy39 hA39
                    replace q39 := eq_true q39
                    have q40 : ((ji26) : Int) ≤ ((l0.length : Int) : Int) := of_decide_eq_true (by first | (with_reducible assumption) | assumption)
                    obtain ⟨i040, hi040, _, hsz40, _⟩ := info_parts info40
                    have hroom40 : l0.length ≤ c0 := HC0.out
                    have hC40 : Kd.C k40 _ A0 l0.length l0 := HR0.out
                    have hcut40 := cut_to (P := Try.prog) 22 40 .i64 Try.underlying22 hi040 A0 l0.length c0 (ji26) (of_decide_eq_true (by first | (with_reducible assumption) | assumption)) q40 hroom40
                    have hr40 := Kd.C_take (m := ((ji26) : Int).toNat) hC40 (by omega)
                    have hy40 : y245.length = ((ji26) : Int).toNat := (by rw [Ny245.out, List.length_take]; omega)
                    rw [← Ny245.out] at hr40
                    rw [← hy40] at hcut40
                    have HR248 := Aside0.mk hr40
                    have HC248 := Aside0.mk (show y245.length ≤ c0 from by omega)
                    clear hr40 hC40 hroom40 hi040 hsz40
                    have KY40 := Aside0.mk hy40
                    clear hy40
                    replace q40 := eq_true q40
                    refine start_ (n := 9) (S := fun w' => True) (ds := []) #[false, false, false, false, false, false, false, false, false] (by kernel_rfl) rfl rfl trivial (fun hHeld => ?_); refine with_tabW groatlaw19_CodesSame.tab5 groatlaw19_CodesSame.bits5 (fun HT_ HW_ => ?_)
                    generalize wc.drew = w38 at HB HR241 HR248 hHeld ⊢
                    refine pure_ (i := 0) (N := some 50) (v := ?_) (a' := ?_) #[true, false, false, false, false, false, false, false, false] rfl rfl (any_of HT_.out (by kernel_rfl)) (fun _ _ _ h => h) (Or.inl ⟨by rfl, ?_⟩) ?_ ?_
                    rotate_left
                    · intro w'
                      go_simp
                      with_reducible rfl
                    rotate_left
                    · simp only [Act.put, List.setIfInBounds_toArray, List.set_cons_zero, List.set_cons_succ, i64_w, i32_w]
                      rfl
                    refine pure_ (i := 1) (N := some 51) (v := ?_) (a' := ?_) #[true, true, false, false, false, false, false, false, false] rfl rfl (any_of HT_.out (by kernel_rfl)) (fun _ _ _ h => h) (Or.inl ⟨by rfl, ?_⟩) ?_ ?_
                    rotate_left
                    · intro w'
                      go_simp
                      with_reducible rfl
                    rotate_left
                    · simp only [Act.put, List.setIfInBounds_toArray, List.set_cons_zero, List.set_cons_succ, i64_w, i32_w]
                      rfl
                    refine pure_ (i := 2) (N := some 52) (v := ?_) (a' := ?_) #[true, true, true, false, false, false, false, false, false] rfl rfl (any_of HT_.out (by kernel_rfl)) (fun _ _ _ h => h) (Or.inl ⟨by rfl, ?_⟩) ?_ ?_
                    rotate_left
                    · intro w'
                      go_simp
                      with_reducible rfl
                    rotate_left
                    · simp only [Act.put, List.setIfInBounds_toArray, List.set_cons_zero, List.set_cons_succ, i64_w, i32_w]
                      rfl
                    refine pure_ (i := 4) (N := some 54) (v := ?_) (a' := ?_) #[true, true, true, false, true, false, false, false, false] rfl rfl (any_of HT_.out (by kernel_rfl)) (fun _ _ _ h => h) (Or.inl ⟨by rfl, ?_⟩) ?_ ?_
                    rotate_left
                    · intro w'
                      go_simp
                      with_reducible rfl
                    rotate_left
                    · simp only [Act.put, List.setIfInBounds_toArray, List.set_cons_zero, List.set_cons_succ, i64_w, i32_w]
                      rfl
                    refine pure_ (i := 5) (N := some 55) (v := ?_) (a' := ?_) #[true, true, true, false, true, true, false, false, false] rfl rfl (any_of HT_.out (by kernel_rfl)) (fun _ _ _ h => h) (Or.inl ⟨by rfl, ?_⟩) ?_ ?_
                    rotate_left
                    · intro w'
                      go_simp
                      with_reducible rfl
                    rotate_left
                    · simp only [Act.put, List.setIfInBounds_toArray, List.set_cons_zero, List.set_cons_succ, i64_w, i32_w]
                      rfl
                    refine pure_ (i := 6) (N := some 56) (v := ?_) (a' := ?_) #[true, true, true, false, true, true, true, false, false] rfl rfl (any_of HT_.out (by kernel_rfl)) (fun _ _ _ h => h) (Or.inl ⟨by rfl, ?_⟩) ?_ ?_
                    rotate_left
                    · intro w'
                      go_simp
                      with_reducible rfl
                    rotate_left
                    · simp only [Act.put, List.setIfInBounds_toArray, List.set_cons_zero, List.set_cons_succ, i64_w, i32_w]
                      rfl
                    refine one_ (i := 3) (N := some 53) #[true, true, true, true, true, true, true, false, false] rfl rfl (one_of HT_.out (by kernel_rfl)) (by decide) (fun K hK => ?_)
                    refine goes_ Try.func11 (by kernel_rfl) rfl #[.slice A39 y238.length c39] (by rfl) rfl rfl (by (try simp only [List.map_toArray, List.map_cons, List.map_nil]); first | done | rfl | (simp only [List.length_drop, List.length_take]; rfl)) ?_
                    with_reducible refine (groatref19_Copy.calls _ _ y238 t242 _ ?side1 ?side2 A29.out).mono ?_
                    (case side1 => repeat (first | exact (Kd.C_below HR241.out HB.out) | (with_reducible refine Kd.C_alloc ?_ _) | (with_reducible refine Kd.C_drewN ?_ _) | (with_reducible refine Kd.C_drew ?_)))
                    (case side2 => exact HC241.out)
                    rintro e w41 ⟨v243, rfl, ho0, hb⟩
                    refine ⟨_, rfl, ?_⟩
                    have n0_ := Aside0.mk (Kd.R_lower ho0 (below_size (by repeat (first | (with_reducible first | exact HB.out | apply below_alloc | apply pw_below_drewN | apply below_drew1) | exact HB.out))))
                    have n1_ := Aside0.mk (below_step (by repeat (first | (with_reducible first | exact HB.out | apply below_alloc | apply pw_below_drewN | apply below_drew1) | exact HB.out)) hb)
                    clear HB
                    have HO244 := n0_
                    have HB := n1_
                    clear n0_ n1_
                    (try clear hb)
                    (try clear hb2)
                    (try clear hk)
                    (try clear hi)
                    (try clear ho0)
                    refine hK.out _ _ trivial (fun hHeld => ?_)
                    clear hK K
                    refine norm_ (a' := ?_) ?_ ?_
                    rotate_left
                    · show Act.put _ (some 53) _ = _
                      simp only [Act.put, List.setIfInBounds_toArray, List.set_cons_zero, List.set_cons_succ, i64_w, i32_w]
                      rfl
                    refine one_ (i := 7) (N := some 57) #[true, true, true, true, true, true, true, true, false] rfl rfl (one_of HT_.out (by kernel_rfl)) (by decide) (fun K hK => ?_)
                    refine Kd.R_append_rows_step k40 (w0 := w) w.heap.size (by rfl) (.tmp 53) (.tmp 56) 22 40 (.agg #[(.string ⟨#[]⟩), (.string ⟨#[]⟩)]) 32 rfl Try.underlying22 info40 rfl (by decide) (by omega) v243 t242 y245 _ _ _ (fun _ => True) (fun _ => False) rfl rfl ?aO ?aR (fun _ _ h => h) (fun _ h => h.elim) ?aF ?aB ?aS ?aL ?_
                    (case aR => repeat (first | exact (Kd.C_below HR248.out HB.out) | (with_reducible refine Kd.C_alloc ?_ _) | (with_reducible refine Kd.C_drewN ?_ _) | (with_reducible refine Kd.C_drew ?_)))
                    (case aB => exact (by repeat (first | (with_reducible first | exact HB.out | apply below_alloc | apply pw_below_drewN | apply below_drew1) | exact HB.out)))
                    (case aF => exact (fun _ _ => trivial))
                    (case aO => exact (by (with_reducible repeat (first | apply Kd.R_alloc | apply Kd.R_drewN | apply Kd.R_drew)); exact HO244.out))
                    (case aS => exact (below_size (by repeat (first | (with_reducible first | exact HB.out | apply below_alloc | apply pw_below_drewN | apply below_drew1) | exact HB.out))))
                    (case aL => have := LMc32.out; omega)
                    intro v250 w42 ho hb hg hat
                    rw [← Ny249.out] at ho
                    have n0_ := Aside0.mk (hb)
                    have n1_ := Aside0.mk (ho)
                    clear HB
                    clear HO244
                    have HB := n0_
                    have HO251 := n1_
                    clear n0_ n1_
                    clear ho hb hg hat
                    refine hK.out _ _ trivial (fun hHeld => ?_)
                    clear hK K
                    refine norm_ (a' := ?_) ?_ ?_
                    rotate_left
                    · show Act.put _ (some 57) _ = _
                      simp only [Act.put, List.setIfInBounds_toArray, List.set_cons_zero, List.set_cons_succ, i64_w, i32_w]
                      rfl
                    refine pure_ (i := 8) (N := some 10) (v := ?_) (a' := ?_) #[true, true, true, true, true, true, true, true, true] rfl rfl (any_of HT_.out (by kernel_rfl)) (fun _ _ _ h => h) (Or.inl ⟨by rfl, ?_⟩) ?_ ?_
                    rotate_left
                    · intro w'
                      go_simp
                      with_reducible rfl
                    rotate_left
                    · simp only [Act.put, List.setIfInBounds_toArray, List.set_cons_zero, List.set_cons_succ, i64_w, i32_w]
                      rfl
                    refine done_ (done_of HT_.out (by kernel_rfl)) ?_
                    try go_wp2_with (first | ((with_reducible refine gate_callee (f := 15) rfl ?_); refine goesL_ (some 61) rfl rfl Try.func15 (by kernel_rfl) rfl #[.slice A0 l0.length c0, .string a1] rfl (by (try simp only [List.map_toArray, List.map_cons, List.map_nil]); first | done | rfl | (simp only [List.length_drop, List.length_take]; rfl)) ?_; (with_reducible refine (codes_Apply.calls kj4 _ _ l0 a1 t252 t253 _ ?side1 ?side2 A33.out).mono ?_); (case side1 => repeat (first | exact (Kd.C_below HR0.out HB.out) | (with_reducible refine Kd.C_alloc ?_ _) | (with_reducible refine Kd.C_drewN ?_ _) | (with_reducible refine Kd.C_drew ?_))); (case side2 => exact HC0.out); rintro e w43 ⟨rfl, hb⟩; refine ⟨_, rfl, ?_⟩; have n0_ := Aside0.mk (Kd.R_below (by (with_reducible repeat (first | apply Kd.R_alloc | apply Kd.R_drewN | apply Kd.R_drew)); exact HO251.out) hb); have n1_ := Aside0.mk (below_step (by repeat (first | (with_reducible first | exact HB.out | apply below_alloc | apply pw_below_drewN | apply below_drew1) | exact HB.out)) hb); clear HO251; clear HB; have HO251 := n0_; have HB := n1_; clear n0_ n1_; (try clear hb); (try clear hb2); (try clear hk); (try clear hi); obtain ⟨Ao44, co44, eo44⟩ := Kd.R_slice HO251.out; subst eo44) | ((with_reducible refine gate_callee (f := 15) rfl ?_); refine goesL_ (some 67) rfl rfl Try.func15 (by kernel_rfl) rfl #[.slice Ao44 y249.length co44, .string a1] rfl (by (try simp only [List.map_toArray, List.map_cons, List.map_nil]); first | done | rfl | (simp only [List.length_drop, List.length_take]; rfl)) ?_; (with_reducible refine (codes_Apply.calls kj4 _ _ y249 a1 t254 t255 _ ?side1 ?side2 A34.out).mono ?_); (case side1 => repeat (first | exact (Kd.R_reads' HO251.out).2.2 | (with_reducible refine Kd.C_alloc ?_ _) | (with_reducible refine Kd.C_drewN ?_ _) | (with_reducible refine Kd.C_drew ?_))); (case side2 => exact (Kd.R_reads' HO251.out).2.1); rintro e w45 ⟨rfl, hb⟩; refine ⟨_, rfl, ?_⟩; have n0_ := Aside0.mk (Kd.R_below (by (with_reducible repeat (first | apply Kd.R_alloc | apply Kd.R_drewN | apply Kd.R_drew)); exact HO251.out) hb); have n1_ := Aside0.mk (below_step (by repeat (first | (with_reducible first | exact HB.out | apply below_alloc | apply pw_below_drewN | apply below_drew1) | exact HB.out)) hb); clear HO251; clear HB; have HO251 := n0_; have HB := n1_; clear n0_ n1_; (try clear hb); (try clear hb2); (try clear hk); (try clear hi)) | ((with_reducible refine gate_callee (f := 10) rfl ?_); refine goesL_ (some 72) rfl rfl Try.func10 (by kernel_rfl) rfl #[.slice Ao44 y249.length co44] rfl (by (try simp only [List.map_toArray, List.map_cons, List.map_nil]); first | done | rfl | (simp only [List.length_drop, List.length_take]; rfl)) ?_; (with_reducible refine (codes_Check.calls _ _ y249 t256 t257 _ ?side1 ?side2 A35.out).mono ?_); (case side1 => repeat (first | exact (Kd.R_reads' HO251.out).2.2 | (with_reducible refine Kd.C_alloc ?_ _) | (with_reducible refine Kd.C_drewN ?_ _) | (with_reducible refine Kd.C_drew ?_))); (case side2 => exact (Kd.R_reads' HO251.out).2.1); rintro e w46 ⟨rfl, hb⟩; refine ⟨_, rfl, ?_⟩; have n0_ := Aside0.mk (Kd.R_below (by (with_reducible repeat (first | apply Kd.R_alloc | apply Kd.R_drewN | apply Kd.R_drew)); exact HO251.out) hb); have n1_ := Aside0.mk (below_step (by repeat (first | (with_reducible first | exact HB.out | apply below_alloc | apply pw_below_drewN | apply below_drew1) | exact HB.out)) hb); clear HO251; clear HB; have HO251 := n0_; have HB := n1_; clear n0_ n1_; (try clear hb); (try clear hb2); (try clear hk); (try clear hi)))
                    go_ret
                    exact ⟨by first | rfl | (simp [errW_none, errW_some] <;> rfl) | (simp only [← hji26]; first | rfl | (simp [errW_none, errW_some] <;> rfl)) | (simp [*, errW_none, errW_some] <;> rfl), by repeat (first | (with_reducible first | exact HB.out | apply below_alloc | apply pw_below_drewN | apply below_drew1) | exact HB.out)⟩
                  · rw [if_neg c37] at H
                    exact absurd H (by simp)
                · rw [if_neg c36] at H
                  exact absurd H (by simp)
              · rw [if_neg c32] at H
                exact absurd H (by simp)
            · rw [if_neg c28] at H
              exact absurd H (by simp)
          · rw [if_neg c27] at H
            exact absurd H (by simp)

end Go.Proofs.Ytbknihgibcbdaaa.D
