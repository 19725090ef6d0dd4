/- Walks and plain laws beneath the law TopOutcome. No conditions but what each statement names. -/
import Derived.Test.YtgbmnpgaddhfpaaGreatDoorM5
set_option linter.unusedVariables false
set_option linter.unusedSimpArgs false
namespace Go.Proofs.YtgbmnpgaddhfpaaGreatDoor.T
open Go.RowKit Go.Proofs.YtgbmnpgaddhfpaaGreatDoorW.PrintWords Go.Proofs.YtgbmnpgaddhfpaaGreatDoorW.PrintLast Go.Proofs.YtgbmnpgaddhfpaaGreatDoorW.PrintMore
attribute [local go_sem] max2_int min2_int max_two min_two
open Go.Proofs.YtgbmnpgaddhfpaaGreatDoor.G
open Tryz
set_option maxRecDepth 100000
def idxS (no : Int) : List S63 → Int → Int
 | [],_ => -1
 | x :: xs,i => if no < x.f0 then i else idxS no xs (i + 1)
theorem msg_With1.at (x : S63) (B : Nat) (no : Int) (w : World) (h : w.cell? ⟨B,0,none⟩ = some (.int .i64 no)) :
  Calls prog 98 #[.agg #[.int .i64 x.f0,.string x.f1],.pointer (some ⟨B,0,none⟩)] w fun e w' => e = .returned (.bool (decide (no < x.f0))) ∧ Below w.heap.size w w' := by
 have hu63 := underlying63
 have h2 : ∀ o,(w.alloc o).cell? ⟨B,0,none⟩ = some (.int .i64 no) := fun o => (below_cells (b_l (Below.refl _ _) o) _ (by rw [h];rfl)).trans h
 go_enter func98,ntmps98
 go_wp2
 all_goals go_ret
 all_goals exact ⟨rfl,b_l (Below.refl _ _) _⟩
set_option maxHeartbeats 1000000 in
theorem IndexFunc63.at (A : Option Addr) (c : Nat) (xs : List S63) (no : Int) (B : Nat) (w : World) (hl : xs.length ≤ 4611686018427387904) (hr : Kd.C k63 w A xs.length xs) (h : w.cell? ⟨B,0,none⟩ = some (.int .i64 no)) :
  Calls prog 97 #[.slice A xs.length c,.func (.func 98) #[] #[.pointer (some ⟨B,0,none⟩)]] w fun e w' => e = .returned (.int .i64 (idxS no xs 0)) ∧ Below w.heap.size w w' := by
 have hu63 := underlying63
 have HR := aS hr
 have HB := aS h
 clear hr h
 go_enter func97,ntmps97
 go_wp2
 go_loopg [8] xs.length (fun g v8 w' => ∃ i : Nat,v8 = .int .i64 i ∧ i + g = xs.length ∧ Aside0 (idxS no (xs.drop i) i = idxS no xs 0) ∧ Aside0 (Below w.heap.size w w'))
 case atStart => exact ⟨0,rfl,Nat.zero_add _,⟨rfl⟩,⟨Below.refl _ _⟩⟩
 case round =>
  obtain ⟨i,rfl,hi,HF,H⟩ := hrel
  by_cases h : i < xs.length
  ·have e0 : decide ((i : Int) < xs.length) = true := d_T (by omega)
   obtain ⟨ad,rfl,hx0,hx1⟩ := at63 HR.out H.out i h
   have q0 : (0 ≤ (i : Int)) = True := eq_true (by omega)
   have q1 : ((i : Int) < xs.length) = True := eq_true (by omega)
   have hf := HF.out
   rw [drop63 h,idxS] at hf
   clear HF
   generalize rd_T63 xs (i : Int) = x at *
   have hcl : Aside0 (wr.cell? ⟨B,0,none⟩ = some (.int .i64 no)) := ⟨(below_cells H.out _ (by rw [HB.out];rfl)).trans HB.out⟩
   by_cases e : no < x.f0
   ·rw [if_pos e] at hf
    have HF := aS hf
    have e1 : decide (no < x.f0) = true := d_T e
    clear hf e
    go_wp2_with (first | (go_at_call 98;refine (msg_With1.at x B no _ hcl.out).mono ?_;rintro e w1 ⟨rfl,hb1⟩;rw [e1];have H_ := aS (b_s H.out hb1);clear H hb1;have H := H_;clear H_))
    go_ret
    exact ⟨by rw [← HF.out];rfl,H.out⟩
   ·rw [if_neg e] at hf
    have HF := aS hf
    have e1 : decide (no < x.f0) = false := d_F e
    clear hf e
    go_wp2_with (first | (go_at_call 98;refine (msg_With1.at x B no _ hcl.out).mono ?_;rintro e w1 ⟨rfl,hb1⟩;rw [e1];have H_ := aS (b_s H.out hb1);clear H hb1;have H := H_;clear H_))
    obtain ⟨g,rfl⟩ : ∃ g,gk = g + 1 := ⟨gk - 1,by omega⟩
    go_roundg g
    case rel => exact ⟨i + 1,rfl,by omega,HF,H⟩
    case measure => omega
  ·have e0 : decide ((i : Int) < xs.length) = false := d_F (by omega)
   have hf := HF.out
   rw [List.drop_of_length_le (by omega),idxS] at hf
   have HF := aS hf
   clear hf
   go_wp2
   go_ret
   exact ⟨by rw [← HF.out];rfl,H.out⟩
def preSz (st f : Int) : Int := if st = 2 then bcdSize (width f) else width f
def prefG (st f : Int) (b : ByteArray) (i : Int) : Int × Int × Int :=
 if (b.size : Int) - i < preSz st f then (0,0,2) else
 if st = 2 then
  if (bcdG (b.extract i.toNat (i + preSz st f).toNat) (width f)).2 ≠ 0 then (0,0,3) else
  if (digG (bcdG (b.extract i.toNat (i + preSz st f).toNat) (width f)).1).2 = false then (0,0,3) else ((digG (bcdG (b.extract i.toNat (i + preSz st f).toNat) (width f)).1).1,i + preSz st f,0)
 else if (digG (b.extract i.toNat (i + preSz st f).toNat)).2 = false then (0,0,3) else ((digG (b.extract i.toNat (i + preSz st f).toNat)).1,i + preSz st f,0)
set_option maxHeartbeats 1000000 in
theorem prefix_Get.at (st f : Int) (b : ByteArray) (i : Int) (w : World) (hst : st = 1 ∨ st = 2) (hf : f = 2 ∨ f = 3) (h0 : 0 ≤ i) (h1 : i ≤ b.size) (hb : b.size ≤ 1000000) :
  Calls prog 87 #[.int .i64 st,.int .i64 f,.string b,.int .i64 i] w fun e w' => e = .returned (.tuple #[.int .i64 (prefG st f b i).1,.int .i64 (prefG st f b i).2.1,.int .i64 (prefG st f b i).2.2]) ∧ Below w.heap.size w w' := by
 have hk : (known st && decide (0 < width f)) = true := by rcases hst with rfl | rfl <;> rcases hf with rfl | rfl <;> decide
 have hw : width f = 2 ∨ width f = 3 := by rcases hf with rfl | rfl <;> decide
 have a0 : decide (i < 0) = false := d_F (by omega)
 have a1 : decide ((b.size : Int) < i) = false := d_F (by omega)
 have hz : bcdSize (width f) ≤ 2 ∧ 0 ≤ bcdSize (width f) := by rcases hf with rfl | rfl <;> decide
 have HZ : Aside0 (0 ≤ preSz st f ∧ preSz st f ≤ 3) := ⟨by unfold preSz;split <;> omega⟩
 obtain ⟨r,hg⟩ : ∃ r,prefG st f b i = r := ⟨_,rfl⟩
 rw [hg]
 rw [prefG] at hg
 have p0 : (0 ≤ i) = True := eq_true h0
 rcases hst with rfl | rfl
 ·have hz1 : preSz 1 f = width f := if_neg (by decide)
  rw [if_neg (show ¬ ((1 : Int) = 2) by decide)] at hg
  rw [hz1] at hg HZ
  by_cases c : (b.size : Int) - i < width f
  ·rw [if_pos c] at hg
   have HG := aS hg
   have c0 : decide ((b.size : Int) - i < width f) = true := d_T c
   clear hg c hz1
   go_enter func87,ntmps87
   go_wp2_with (first | (go_at_call 136;refine (prefix_known.at _ _ _).mono ?_;rintro e w1 ⟨rfl,rfl⟩;rw [hk]) | (go_at_call 137;refine (prefix_width.at _ _).mono ?_;rintro e w1 ⟨rfl,rfl⟩))
   go_ret3
   obtain rfl := HG.out
   exact ⟨rfl,Below.refl _ _⟩
  ·rw [if_neg c] at hg
   have HG := aS hg
   have c0 : decide ((b.size : Int) - i < width f) = false := d_F c
   have p1 : (i ≤ i + width f) = True := eq_true (by omega)
   have p2 : (i + width f ≤ (b.size : Int)) = True := eq_true (by omega)
   clear hg c hz1
   generalize hu : digG (b.extract i.toNat (i + width f).toNat) = u at *
   rcases u with ⟨u1,u2⟩
   go_enter func87,ntmps87
   go_wp2_with (first | (go_at_call 136;refine (prefix_known.at _ _ _).mono ?_;rintro e w1 ⟨rfl,rfl⟩;rw [hk]) | (go_at_call 137;refine (prefix_width.at _ _).mono ?_;rintro e w1 ⟨rfl,rfl⟩) | (go_at_call 138;refine (digits_Get.at _ _).mono ?_;rintro e w2 ⟨rfl,hb2⟩;rw [hu]))
   all_goals go_ret3
   all_goals obtain rfl := HG.out
   all_goals cases u2 <;> first | exact ⟨rfl,hb2⟩ | simp_all
 ·have hz1 : preSz 2 f = bcdSize (width f) := if_pos rfl
  rw [if_pos (show (2 : Int) = 2 by decide)] at hg
  rw [hz1] at hg HZ
  by_cases c : (b.size : Int) - i < bcdSize (width f)
  ·rw [if_pos c] at hg
   have HG := aS hg
   have c0 : decide ((b.size : Int) - i < bcdSize (width f)) = true := d_T c
   clear hg c hz1
   go_enter func87,ntmps87
   go_wp2_with (first | (go_at_call 136;refine (prefix_known.at _ _ _).mono ?_;rintro e w1 ⟨rfl,rfl⟩;rw [hk]) | (go_at_call 137;refine (prefix_width.at _ _).mono ?_;rintro e w1 ⟨rfl,rfl⟩) | (go_at_call 78;refine (bcd_Size.at _ _ (by omega)).mono ?_;rintro e w1 ⟨rfl,rfl⟩))
   go_ret3
   obtain rfl := HG.out
   exact ⟨rfl,Below.refl _ _⟩
  ·rw [if_neg c] at hg
   have c0 : decide ((b.size : Int) - i < bcdSize (width f)) = false := d_F c
   have p1 : (i ≤ i + bcdSize (width f)) = True := eq_true (by omega)
   have p2 : (i + bcdSize (width f) ≤ (b.size : Int)) = True := eq_true (by omega)
   have hz9 : (b.extract i.toNat (i + bcdSize (width f)).toNat).size ≤ 1000000 := by rw [ByteArray.size_extract];omega
   clear c hz1
   obtain ⟨v1,v2,hv⟩ : ∃ v1 v2,bcdG (b.extract i.toNat (i + bcdSize (width f)).toNat) (width f) = (v1,v2) := ⟨_,_,rfl⟩
   obtain ⟨u1,u2,hu⟩ : ∃ u1 u2,digG v1 = (u1,u2) := ⟨_,_,rfl⟩
   rw [hv,hu] at hg
   have HG := aS hg
   clear hg
   go_enter func87,ntmps87
   go_wp2_with (first | (go_at_call 136;refine (prefix_known.at _ _ _).mono ?_;rintro e w1 ⟨rfl,rfl⟩;rw [hk]) | (go_at_call 137;refine (prefix_width.at _ _).mono ?_;rintro e w1 ⟨rfl,rfl⟩) | (go_at_call 78;refine (bcd_Size.at _ _ (by omega)).mono ?_;rintro e w1 ⟨rfl,rfl⟩) | (go_at_call 79;refine (bcd_Get.at _ _ _ (by omega) hz9).mono ?_;rintro e w2 ⟨⟨pq,rfl⟩,hb2⟩;rw [hv]) | (go_at_call 138;refine (digits_Get.at _ _).mono ?_;rintro e w3 ⟨rfl,hb3⟩;rw [hu]))
   all_goals go_ret3
   all_goals obtain rfl := HG.out
   all_goals refine ⟨?_,by first | exact b_s hb2 hb3 | exact hb2⟩
   all_goals (repeat' split) <;> first | rfl | simp_all
theorem width_cases {f : Int} (hf : f = 2 ∨ f = 3) : (width f = 2 ∧ bcdSize (width f) = 1) ∨ (width f = 3 ∧ bcdSize (width f) = 2) := by rcases hf with rfl | rfl <;> decide
theorem prefG_ok {st f : Int} {b : ByteArray} {i : Int} (hst : st = 1 ∨ st = 2) (hf : f = 2 ∨ f = 3) (h0 : 0 ≤ i) (h1 : i ≤ b.size) (h : (prefG st f b i).2.2 = 0) : i < (prefG st f b i).2.1 ∧ (prefG st f b i).2.1 ≤ b.size := by
 have hz : 1 ≤ preSz st f := by
  unfold preSz
  rcases width_cases hf with ⟨a,c⟩ | ⟨a,c⟩ <;> (rw [a] at *;split <;> omega)
 unfold prefG at h ⊢
 (repeat' split at h) <;> first | (exact absurd h (by decide)) | skip
 ·rename_i a c d e
  rw [if_neg a,if_pos c,if_neg d,if_neg e]
  exact ⟨by show i < i + _;omega,by show i + _ ≤ _;omega⟩
 ·rename_i a c d
  rw [if_neg a,if_neg c,if_neg d]
  exact ⟨by show i < i + _;omega,by show i + _ ≤ _;omega⟩
def preP (st f n : Int) : ByteArray × Int := if (digP n (width f)).2 = false then (⟨#[]⟩,5) else if st = 2 then ((bcdP (digP n (width f)).1).1,0) else ((digP n (width f)).1,0)
set_option maxHeartbeats 1000000 in
theorem prefix_Put.at (st f n : Int) (w : World) (hst : st = 1 ∨ st = 2) (hf : f = 2 ∨ f = 3) :
  Calls prog 108 #[.int .i64 st,.int .i64 f,.int .i64 n] w fun e w' => e = .returned (.tuple #[.string (preP st f n).1,.int .i64 (preP st f n).2]) ∧ Below w.heap.size w w' := by
 have hk : (known st && decide (0 < width f)) = true := by rcases hst with rfl | rfl <;> rcases hf with rfl | rfl <;> decide
 obtain ⟨r,hg⟩ : ∃ r,preP st f n = r := ⟨_,rfl⟩
 rw [hg]
 rw [preP] at hg
 obtain ⟨u1,u2,hu⟩ : ∃ u1 u2,digP n (width f) = (u1,u2) := ⟨_,_,rfl⟩
 obtain ⟨v1,v2,hv⟩ : ∃ v1 v2,bcdP u1 = (v1,v2) := ⟨_,_,rfl⟩
 rw [hu,hv] at hg
 have HG := aS hg
 clear hg
 rcases hst with rfl | rfl
 all_goals go_enter func108,ntmps108
 all_goals go_wp2_with (first | (go_at_call 136;refine (prefix_known.at _ _ _).mono ?_;rintro e w1 ⟨rfl,rfl⟩;rw [hk]) | (go_at_call 137;refine (prefix_width.at _ _).mono ?_;rintro e w1 ⟨rfl,rfl⟩) | (go_at_call 150;refine (digits_Put.at _ _ _).mono ?_;rintro e w2 ⟨rfl,hb2⟩;rw [hu]) | (go_at_call 102;refine (bcd_Put.at _ _).mono ?_;rintro e w3 ⟨rfl,hb3⟩;rw [hv]))
 all_goals go_ret2
 all_goals obtain rfl := HG.out
 all_goals refine ⟨?_,by first | exact b_s hb2 hb3 | exact hb2⟩
 all_goals (repeat' split) <;> first | rfl | simp_all
def wl (a b : Int) (k : Nat) : Bool := ((List.range 256).drop k).all (fun (j : Nat) => !(inCls b j && !inCls a j))
theorem wl_step {a b : Int} {k : Nat} (h : k < 256) : wl a b k = (!(inCls b k && !inCls a k) && wl a b (k + 1)) := by
 unfold wl
 rw [List.drop_eq_getElem_cons (by rw [List.length_range];exact h),List.all_cons,List.getElem_range]
theorem wl_eq {a b : Int} (ha : 1 ≤ a ∧ a ≤ 6) (hb : 1 ≤ b ∧ b ≤ 6) : wl a b 0 = widerC a b := by
 have h1 : a = 1 ∨ a = 2 ∨ a = 3 ∨ a = 4 ∨ a = 5 ∨ a = 6 := by omega
 have h2 : b = 1 ∨ b = 2 ∨ b = 3 ∨ b = 4 ∨ b = 5 ∨ b = 6 := by omega
 rcases h1 with rfl | rfl | rfl | rfl | rfl | rfl <;> rcases h2 with rfl | rfl | rfl | rfl | rfl | rfl <;> decide +kernel
set_option maxHeartbeats 1000000 in
theorem groatref04_Wider.at (a b : Int) (w : World) : Calls prog 184 #[.int .i64 a,.int .i64 b] w fun e w' => e = .returned (.bool (widerC a b)) ∧ w' = w := by
 by_cases hr : (1 ≤ a ∧ a ≤ 6) ∧ (1 ≤ b ∧ b ≤ 6)
 ·have HW := aS (wl_eq hr.1 hr.2)
  have a1 : decide (a < 1) = false := d_F (by omega)
  have a2 : decide (6 < a) = false := d_F (by omega)
  have b1 : decide (b < 1) = false := d_F (by omega)
  have b2 : decide (6 < b) = false := d_F (by omega)
  clear hr
  go_enter func184,ntmps184
  go_wp2
  go_loopg [5] 256 (fun g v5 w' => ∃ i : Nat,v5 = .int .i64 i ∧ i + g = 256 ∧ Aside0 (wl a b i = widerC a b) ∧ w' = w)
  case atStart => exact ⟨0,rfl,rfl,HW,rfl⟩
  case round =>
   obtain ⟨i,rfl,hi,HF,rfl⟩ := hrel
   by_cases h : i < 256
   ·have c0 : decide ((i : Int) < 256) = true := d_T (by omega)
    have m : (i : Int) % 256 = i := by omega
    have hf := HF.out
    rw [wl_step h] at hf
    clear HF HW
    cases hb : inCls b (i : Int) with
    | false =>
     rw [hb,Bool.false_and,Bool.not_false,Bool.true_and] at hf
     have HF := aS hf
     clear hf
     go_wp2_with (first | (go_at_call 155;refine (groatref04_Is.at _ _ _).mono ?_;rintro e w1 ⟨rfl,rfl⟩))
     obtain ⟨g,rfl⟩ : ∃ g,gk = g + 1 := ⟨gk - 1,by omega⟩
     go_roundg g
     case rel => exact ⟨i + 1,rfl,by omega,HF,rfl⟩
     case measure => omega
    | true =>
     cases ha : inCls a (i : Int) with
     | true =>
      rw [hb,ha,Bool.not_true,Bool.and_false,Bool.not_false,Bool.true_and] at hf
      have HF := aS hf
      clear hf
      go_wp2_with (first | (go_at_call 155;refine (groatref04_Is.at _ _ _).mono ?_;rintro e w1 ⟨rfl,rfl⟩))
      obtain ⟨g,rfl⟩ : ∃ g,gk = g + 1 := ⟨gk - 1,by omega⟩
      go_roundg g
      case rel => exact ⟨i + 1,rfl,by omega,HF,rfl⟩
      case measure => omega
     | false =>
      rw [hb,ha,Bool.not_false,Bool.and_true,Bool.not_true,Bool.false_and] at hf
      have HF := aS hf
      clear hf
      go_wp2_with (first | (go_at_call 155;refine (groatref04_Is.at _ _ _).mono ?_;rintro e w1 ⟨rfl,rfl⟩))
      go_ret
      exact ⟨by rw [← HF.out];rfl,rfl⟩
   ·have c0 : decide ((i : Int) < 256) = false := d_F (by omega)
    obtain rfl : i = 256 := by omega
    go_wp2
    go_ret
    exact ⟨by rw [← HF.out];rfl,rfl⟩
 ·have HW : Aside0 (widerC a b = false) := ⟨by
   unfold widerC
   by_cases h1 : 1 ≤ a ∧ a ≤ 6
   ·rw [d_F (fun c => hr ⟨h1,c⟩),Bool.false_and,Bool.and_false]
   ·rw [d_F h1,Bool.false_and]⟩
  have hd : a < 1 ∨ (decide (a < 1) = false ∧ (6 < a ∨ (decide (6 < a) = false ∧ (b < 1 ∨ (decide (b < 1) = false ∧ 6 < b))))) := by simp only [decide_eq_false_iff_not];omega
  clear hr
  rcases hd with h | ⟨h1,h | ⟨h2,h | ⟨h3,h⟩⟩⟩
  all_goals have h9 := d_T h
  all_goals go_enter func184,ntmps184
  all_goals go_wp2
  all_goals go_ret
  all_goals exact ⟨by rw [HW.out];rfl,rfl⟩
set_option maxHeartbeats 2000000 in
theorem spec_Wider.at (x y : S87) (w : World) (h : widerS x y = true) : Calls prog 143 #[v87 x,v87 y] w fun e w' => e = .returned (.bool true) ∧ Below w.heap.size w w' := by
 have hu87 := underlying87
 unfold widerS at h
 simp only [Bool.and_eq_true,decide_eq_true_eq] at h
 obtain ⟨h1,h2,h3,h4,h5⟩ := h
 have e3 : decide (x.f3 ≤ y.f3) = true := d_T h3
 have e4 : decide (y.f4 ≤ x.f4) = true := d_T h4
 have H1 := aS h1
 have H2 := aS h2
 clear h1 h2 h3 h4
 unfold v87
 go_enter func143,ntmps143
 go_wp2_with (first | (go_at_call 77;have D0 := D;clear D0;refine (spec_Check.at y _).mono ?_;rintro e w2 ⟨rfl,hb1⟩;rw [H2.out];have D_ := aS (D.out.step hb1);clear D a0 a1 a2 a3 a4 b0 b1 b2 b3 b4 hb1;have D := D_;clear D_;obtain ⟨a0,a1,a2,a3,a4⟩ := cells_5 D.out.h1;obtain ⟨b0,b1,b2,b3,b4⟩ := cells_5 D.out.h2) | (go_at_call 77;refine (spec_Check.at x _).mono ?_;rintro e w1 ⟨rfl,hb1⟩;rw [H1.out];have D := aS (Box2.init hb1);clear hb1;obtain ⟨a0,a1,a2,a3,a4⟩ := cells_5 D.out.h1;obtain ⟨b0,b1,b2,b3,b4⟩ := cells_5 D.out.h2) | (go_at_call 170;refine (spec_classes.at _ _ _).mono ?_;rintro e w3 ⟨rfl,rfl⟩))
 go_ret
 exact ⟨rfl,D.out.below⟩
def paddedS (x : S87) : Bool := decide (x.f1 = 1) && decide (x.f2 = 1)
set_option maxHeartbeats 2000000 in
theorem rule_padded.at (x : S87) (w : World) (h : paddedS x = true) : Calls prog 144 #[v87 x] w fun e w' => e = .returned (.bool true) ∧ Below w.heap.size w w' := by
 have hu87 := underlying87
 unfold paddedS at h
 simp only [Bool.and_eq_true,decide_eq_true_eq] at h
 obtain ⟨h1,h2⟩ := h
 have e1 : (x.f1 == 1) = true := beq_iff_eq.mpr h1
 have e2 : (x.f2 == 1) = true := beq_iff_eq.mpr h2
 clear h1 h2
 unfold v87
 go_enter func144,ntmps144
 go_wp2
 go_ret
 exact ⟨rfl,b_l (Below.refl _ _) _⟩
def firstN (x : Int) : Int := if isFirst x = false then 0 else if x % 32 = 31 then 2 else 1
theorem groatref08_First.at (x : Int) (w : World) (h0 : 0 ≤ x) (h1 : x ≤ 255) : Calls prog 183 #[.int .u8 x] w fun e w' => e = .returned (.int .i64 (firstN x)) ∧ w' = w := by
 go_enter func183,ntmps183
 go_wp2
 all_goals go_ret
 all_goals refine ⟨ret_int ?_,rfl⟩
 all_goals try simp only [beq_eq_false_iff_ne,beq_iff_eq,ne_eq] at *
 all_goals (unfold firstN isFirst;(repeat' split) <;> first | rfl | (simp only [decide_eq_false_iff_not,decide_eq_true_eq,Bool.not_eq_false] at *;omega))
set_option maxHeartbeats 1000000 in
theorem groatref08_Get.at (s : ByteArray) (i : Int) (w : World) (hs : s.size ≤ 4611686018427387904) : Calls prog 156 #[.string s,.int .i64 i] w fun e w' => e = .returned (.tuple #[.int .i64 (getTag s i).1,.int .i64 (getTag s i).2.1,.int .i64 (getTag s i).2.2]) ∧ ∃ n,w' = w.drewN n := by
 unfold getTag
 by_cases h0 : i < 0
 ·rw [if_pos (.inl h0)]
  go_enter func156,ntmps156
  go_wp2
  go_ret3
  exact ⟨rfl,0,rfl⟩
 by_cases h1 : i > s.size
 ·rw [if_pos (.inr h1)]
  have d0 : decide (i < 0) = false := d_F h0
  have d1 : decide ((s.size : Int) < i) = true := d_T h1
  go_enter func156,ntmps156
  go_wp2
  go_ret3
  exact ⟨rfl,0,rfl⟩
 rw [if_neg (by omega : ¬ (i < 0 ∨ i > s.size))]
 obtain ⟨n,rfl⟩ : ∃ n : Nat,i = n := ⟨i.toNat,by omega⟩
 have d0 : decide ((n : Int) < 0) = false := d_F h0
 have d1 : decide ((s.size : Int) < n) = false := d_F h1
 by_cases h2 : n = s.size
 ·have d2 : ((n : Int) == (s.size : Int)) = true := beq_iff_eq.mpr (by omega)
  rw [if_pos (by omega)]
  go_enter func156,ntmps156
  go_wp2
  go_ret3
  exact ⟨rfl,0,rfl⟩
 have d2 : ((n : Int) == (s.size : Int)) = false := beq_eq_false_iff_ne.mpr (by omega)
 have hn : n < s.size := by omega
 have p : (0 ≤ (n : Int)) = True := eq_true (by omega)
 have q : ((n : Int) < s.size) = True := eq_true (by omega)
 have hb := bt_get hn
 have hr := bt_range s n
 rw [if_neg (by omega)]
 rw [hb] at hr ⊢
 have HF : Aside0 (firstN ((s[n]'hn).toNat : Int) = if isFirst ((s[n]'hn).toNat : Int) = false then 0 else if ((s[n]'hn).toNat : Int) % 32 = 31 then 2 else 1) := ⟨rfl⟩
 by_cases hf : isFirst ((s[n]'hn).toNat : Int) = false
 ·rw [if_pos hf]
  have H1 : Aside0 (firstN ((s[n]'hn).toNat : Int) = 0) := ⟨by rw [HF.out,if_pos hf]⟩
  clear HF hf
  go_enter func156,ntmps156
  go_wp2_with (first | (go_at_call 183;refine (groatref08_First.at _ _ (by omega) (by omega)).mono ?_;rintro e w1 ⟨rfl,rfl⟩;try rw [H1.out]))
  go_ret3
  exact ⟨rfl,0,rfl⟩
 rw [if_neg hf]
 by_cases h4 : ((s[n]'hn).toNat : Int) % 32 = 31
 ·rw [if_neg (by omega)]
  have H1 : Aside0 (firstN ((s[n]'hn).toNat : Int) = 2) := ⟨by rw [HF.out,if_neg hf,if_pos h4]⟩
  have hf1 : isFirst ((s[n]'hn).toNat : Int) = true := by simpa using hf
  unfold isFirst at hf1
  have hf2 := of_decide_eq_true hf1
  clear HF hf hf1
  by_cases h5 : n + 1 = s.size
  ·rw [if_pos (by omega)]
   have d3 : decide ((s.size : Int) - n < 2) = true := d_T (by omega)
   clear h4 hf2
   go_enter func156,ntmps156
   go_wp2_with (first | (go_at_call 183;refine (groatref08_First.at _ _ (by omega) (by omega)).mono ?_;rintro e w1 ⟨rfl,rfl⟩;try rw [H1.out]))
   go_ret3
   exact ⟨rfl,0,rfl⟩
  ·have hm : n + 1 < s.size := by omega
   have d3 : decide ((s.size : Int) - n < 2) = false := d_F (by omega)
   have p2 : (0 ≤ (n : Int) + 1) = True := eq_true (by omega)
   have q2 : ((n : Int) + 1 < s.size) = True := eq_true (by omega)
   have hb2 := bt_get hm
   have hr2 := bt_range s (n + 1 : Nat)
   rw [hb2] at hr2
   rw [if_neg (by omega),show (n : Int) + 1 = ((n + 1 : Nat) : Int) from rfl,hb2]
   have HT : Aside0 (isTag (((s[n]'hn).toNat : Int) * 256 + ((s[n + 1]'hm).toNat : Int)) = decide (1 ≤ ((s[n + 1]'hm).toNat : Int) ∧ ((s[n + 1]'hm).toNat : Int) ≤ 127)) := ⟨by
    unfold isTag
    rw [Bool.eq_iff_iff,decide_eq_true_eq,decide_eq_true_eq]
    omega⟩
   rw [HT.out]
   clear HT hf2 h4
   by_cases h6 : ((s[n + 1]'hm).toNat : Int) = 0
   ·rw [if_neg (by rw [h6];decide)]
    have d6 : (((s[n + 1]'hm).toNat : Int) == 0) = true := beq_iff_eq.mpr h6
    clear h6
    go_enter func156,ntmps156
    go_wp2_with (first | (go_at_call 183;refine (groatref08_First.at _ _ (by omega) (by omega)).mono ?_;rintro e w1 ⟨rfl,rfl⟩;try rw [H1.out]))
    go_ret3
    exact ⟨rfl,0,rfl⟩
   have d6 : (((s[n + 1]'hm).toNat : Int) == 0) = false := beq_eq_false_iff_ne.mpr h6
   by_cases h7 : 127 < ((s[n + 1]'hm).toNat : Int)
   ·rw [if_neg (by simp only [decide_eq_true_eq];omega)]
    have d7 : decide (127 < ((s[n + 1]'hm).toNat : Int)) = true := d_T h7
    go_enter func156,ntmps156
    go_wp2_with (first | (go_at_call 183;refine (groatref08_First.at _ _ (by omega) (by omega)).mono ?_;rintro e w1 ⟨rfl,rfl⟩;try rw [H1.out]))
    go_ret3
    exact ⟨rfl,0,rfl⟩
   have d7 : decide (127 < ((s[n + 1]'hm).toNat : Int)) = false := d_F h7
   rw [if_pos (by simp only [decide_eq_true_eq];omega)]
   clear h6 h7
   go_enter func156,ntmps156
   go_wp2_with (first | (go_at_call 183;refine (groatref08_First.at _ _ (by omega) (by omega)).mono ?_;rintro e w1 ⟨rfl,rfl⟩;try rw [H1.out]))
   go_quiet (fail)
   go_wp2
   go_ret3
   refine ⟨?_,_,rfl⟩
   rw [Int.mul_comm]
   rfl
 ·rw [if_pos h4]
  have H1 : Aside0 (firstN ((s[n]'hn).toNat : Int) = 1) := ⟨by rw [HF.out,if_neg hf,if_neg h4]⟩
  clear HF hf h4
  go_enter func156,ntmps156
  go_wp2_with (first | (go_at_call 183;refine (groatref08_First.at _ _ (by omega) (by omega)).mono ?_;rintro e w1 ⟨rfl,rfl⟩;try rw [H1.out]))
  go_ret3
  exact ⟨rfl,0,rfl⟩
set_option maxHeartbeats 1000000 in
theorem groatref09_Get.at (s : ByteArray) (i : Int) (w : World) (hs : s.size ≤ 4611686018427387904) : Calls prog 157 #[.string s,.int .i64 i] w fun e w' => e = .returned (.tuple #[.int .i64 (getLen s i).1,.int .i64 (getLen s i).2.1,.int .i64 (getLen s i).2.2]) ∧ ∃ n,w' = w.drewN n := by
 unfold getLen
 by_cases h0 : i < 0
 ·rw [if_pos (.inl h0)]
  go_enter func157,ntmps157
  go_wp2
  go_ret3
  exact ⟨rfl,0,rfl⟩
 by_cases h1 : i > s.size
 ·rw [if_pos (.inr h1)]
  have d0 : decide (i < 0) = false := d_F h0
  have d1 : decide ((s.size : Int) < i) = true := d_T h1
  go_enter func157,ntmps157
  go_wp2
  go_ret3
  exact ⟨rfl,0,rfl⟩
 rw [if_neg (by omega : ¬ (i < 0 ∨ i > s.size))]
 obtain ⟨n,rfl⟩ : ∃ n : Nat,i = n := ⟨i.toNat,by omega⟩
 have d0 : decide ((n : Int) < 0) = false := d_F h0
 have d1 : decide ((s.size : Int) < n) = false := d_F h1
 by_cases h2 : n = s.size
 ·have d2 : ((n : Int) == (s.size : Int)) = true := beq_iff_eq.mpr (by omega)
  rw [if_pos (by omega)]
  go_enter func157,ntmps157
  go_wp2
  go_ret3
  exact ⟨rfl,0,rfl⟩
 have d2 : ((n : Int) == (s.size : Int)) = false := beq_eq_false_iff_ne.mpr (by omega)
 have hn : n < s.size := by omega
 have p : (0 ≤ (n : Int)) = True := eq_true (by omega)
 have q : ((n : Int) < s.size) = True := eq_true (by omega)
 have hb := bt_get hn
 have hr := bt_range s n
 rw [if_neg (by omega)]
 rw [hb] at hr ⊢
 by_cases h3 : ((s[n]'hn).toNat : Int) ≤ 127
 ·have d3 : decide (((s[n]'hn).toNat : Int) < 128) = true := d_T (by omega)
  rw [if_pos h3]
  go_enter func157,ntmps157
  go_wp2
  go_ret3
  exact ⟨rfl,0,rfl⟩
 have d3 : decide (((s[n]'hn).toNat : Int) < 128) = false := d_F (by omega)
 rw [if_neg h3]
 by_cases h4 : ((s[n]'hn).toNat : Int) = 129
 ·have d4 : (((s[n]'hn).toNat : Int) != 129) = false := by rw [bne_eq_false_iff_eq];exact h4
  have d4' : (((s[n]'hn).toNat : Int) == 129) = true := beq_iff_eq.mpr h4
  rw [if_pos h4]
  by_cases h5 : (s.size : Int) - n < 2
  ·have d5 : decide ((s.size : Int) - n < ((s[n]'hn).toNat : Int) - 127) = true := d_T (by omega)
   rw [if_pos h5]
   clear h4
   go_enter func157,ntmps157
   go_wp2
   go_ret3
   exact ⟨rfl,0,rfl⟩
  ·have d5 : decide ((s.size : Int) - n < ((s[n]'hn).toNat : Int) - 127) = false := d_F (by omega)
   rw [if_neg h5]
   have hm : n + 1 < s.size := by omega
   have p2 : (0 ≤ (n : Int) + 1) = True := eq_true (by omega)
   have q2 : ((n : Int) + 1 < s.size) = True := eq_true (by omega)
   have hb2 := bt_get hm
   have hr2 := bt_range s (n + 1 : Nat)
   rw [hb2] at hr2
   rw [show (n : Int) + 1 = ((n + 1 : Nat) : Int) from rfl,hb2]
   clear h4
   by_cases h6 : ((s[n + 1]'hm).toNat : Int) ≤ 127
   ·have d6 : decide (((s[n + 1]'hm).toNat : Int) < 128) = true := d_T (by omega)
    rw [if_pos h6]
    go_enter func157,ntmps157
    go_wp2
    go_ret3
    exact ⟨rfl,0,rfl⟩
   ·have d6 : decide (((s[n + 1]'hm).toNat : Int) < 128) = false := d_F (by omega)
    rw [if_neg h6]
    go_enter func157,ntmps157
    go_wp2
    go_ret3
    exact ⟨rfl,0,rfl⟩
 have d4 : (((s[n]'hn).toNat : Int) != 129) = true := by rw [bne_iff_ne];exact h4
 have d4' : (((s[n]'hn).toNat : Int) == 129) = false := beq_eq_false_iff_ne.mpr h4
 rw [if_neg h4]
 by_cases h7 : ((s[n]'hn).toNat : Int) = 130
 ·have d7 : (((s[n]'hn).toNat : Int) != 130) = false := by rw [bne_eq_false_iff_eq];exact h7
  rw [if_pos h7]
  by_cases h5 : (s.size : Int) - n < 3
  ·have d5 : decide ((s.size : Int) - n < ((s[n]'hn).toNat : Int) - 127) = true := d_T (by omega)
   rw [if_pos h5]
   clear h7
   go_enter func157,ntmps157
   go_wp2
   go_ret3
   exact ⟨rfl,0,rfl⟩
  ·have d5 : decide ((s.size : Int) - n < ((s[n]'hn).toNat : Int) - 127) = false := d_F (by omega)
   rw [if_neg h5]
   have hm : n + 1 < s.size := by omega
   have p2 : (0 ≤ (n : Int) + 1) = True := eq_true (by omega)
   have q2 : ((n : Int) + 1 < s.size) = True := eq_true (by omega)
   have hb2 := bt_get hm
   have hr2 := bt_range s (n + 1 : Nat)
   rw [hb2] at hr2
   have hm3 : n + 2 < s.size := by omega
   have p3 : (0 ≤ (n : Int) + 2) = True := eq_true (by omega)
   have q3 : ((n : Int) + 2 < s.size) = True := eq_true (by omega)
   have hb3 := bt_get hm3
   have hr3 := bt_range s (n + 2 : Nat)
   rw [hb3] at hr3
   rw [show (n : Int) + 1 = ((n + 1 : Nat) : Int) from rfl,show (n : Int) + 2 = ((n + 2 : Nat) : Int) from rfl,hb2,hb3]
   clear h7
   by_cases h6 : ((s[n + 1]'hm).toNat : Int) = 0
   ·have d6 : (((s[n + 1]'hm).toNat : Int) == 0) = true := beq_iff_eq.mpr h6
    rw [if_pos h6]
    clear h6
    go_enter func157,ntmps157
    go_wp2
    go_ret3
    exact ⟨rfl,0,rfl⟩
   ·have d6 : (((s[n + 1]'hm).toNat : Int) == 0) = false := beq_eq_false_iff_ne.mpr h6
    rw [if_neg h6]
    go_enter func157,ntmps157
    go_wp2
    go_quiet (fail)
    go_wp2
    go_ret3
    refine ⟨?_,_,rfl⟩
    rw [Int.mul_comm]
    rfl
 have d7 : (((s[n]'hn).toNat : Int) != 130) = true := by rw [bne_iff_ne];exact h7
 rw [if_neg h7]
 go_enter func157,ntmps157
 go_wp2
 go_ret3
 exact ⟨rfl,0,rfl⟩
theorem results_cct {fn : Func} {p p' u : Tmp} {ty ty' : TypeId} {P : Program} (h : fn.results = #[.cell p ty,.cell p' ty',.tmp u]) (tmps : Array Value) (w : World) (g g' : Nat) (t t' : TypeId) (cs cs' : Array Value) (fr fr' : Nat × Nat) (d d' : TypeDesc)
  (hp : tmps.getD p undef = .pointer (some ⟨g,0,none⟩)) (hg : w.heap[g]? = some (.cells cs t fr))
  (hd : (match d with | .struct _ | .array _ _ => true | _ => false) = true) (hu : P.underlying ty = some d) (hi : (P.info? ty).map (·.size) = some cs.size)
  (hp' : tmps.getD p' undef = .pointer (some ⟨g',0,none⟩)) (hg' : w.heap[g']? = some (.cells cs' t' fr'))
  (hd' : (match d' with | .struct _ | .array _ _ => true | _ => false) = true) (hu' : P.underlying ty' = some d') (hi' : (P.info? ty').map (·.size) = some cs'.size) :
  (results fn tmps).run P w = .ok (.tuple #[.agg cs,.agg cs',tmps.getD u undef]) w := by
 have h1 : tmps[p]?.getD undef = .pointer (some ⟨g,0,none⟩) := by simpa using hp
 have h2 : tmps[p']?.getD undef = .pointer (some ⟨g',0,none⟩) := by simpa using hp'
 have r1 := run_loadVar_row w g t ty cs fr d hg hu (by revert hd;cases d <;> exact id) hi
 have r2 := run_loadVar_row w g' t' ty' cs' fr' d' hg' hu' (by revert hd';cases d' <;> exact id) hi'
 simp [results,h,h1,h2,asAddr,r1,r2]
structure Box5 (w W : World) (a b c d e : Obj) : Prop where
 h1 : W.heap[w.heap.size]? = some a
 h2 : W.heap[w.heap.size + 1]? = some b
 h3 : W.heap[w.heap.size + 1 + 1]? = some c
 h4 : W.heap[w.heap.size + 1 + 1 + 1]? = some d
 h5 : W.heap[w.heap.size + 1 + 1 + 1 + 1]? = some e
 below : Below w.heap.size w W
theorem Box5.start (w : World) (a b c d e : Obj) : Box5 w (((((w.alloc a).alloc b).alloc c).alloc d).alloc e) a b c d e := by
 have D := Box4.start w a b c d
 exact ⟨blk_alloc D.h1 _,blk_alloc D.h2 _,blk_alloc D.h3 _,blk_alloc D.h4 _,blk_top (by rw [size_alloc,size_alloc,size_alloc,size_alloc]),b_l D.below _⟩
theorem Box5.step {w W W' : World} {a b c d e : Obj} (D : Box5 w W a b c d e) (hb : Below W.heap.size W W') : Box5 w W' a b c d e :=
 ⟨k_B D.h1 hb,k_B D.h2 hb,k_B D.h3 hb,k_B D.h4 hb,k_B D.h5 hb,b_s D.below hb⟩
theorem Box5.init {w w1 : World} {a b c d e : Obj} (hb : Below (((((w.alloc a).alloc b).alloc c).alloc d).alloc e).heap.size (((((w.alloc a).alloc b).alloc c).alloc d).alloc e) w1) : Box5 w w1 a b c d e := (Box5.start w a b c d e).step hb
def st5 (W : World) (g : Nat) (v0 v1 v2 v3 v4 : Value) : World := ((((W.setCell ⟨g,0,none⟩ v0).setCell ⟨g,1,none⟩ v1).setCell ⟨g,2,none⟩ v2).setCell ⟨g,3,none⟩ v3).setCell ⟨g,4,none⟩ v4
theorem far5 {W : World} {k : Nat} {o : Obj} {g : Nat} (v0 v1 v2 v3 v4 : Value) (h : W.heap[k]? = some o) (hk : k ≠ g) : (st5 W g v0 v1 v2 v3 v4).heap[k]? = some o :=
 T.far _ _ (T.far _ _ (T.far _ _ (T.far _ _ (T.far _ _ h hk) hk) hk) hk) hk
theorem Box5.put4 {w W : World} {a b c e : Obj} {t : TypeId} {u0 u1 u2 u3 u4 : Value} (D : Box5 w W a b c (.cells #[u0,u1,u2,u3,u4] t) e) (v0 v1 v2 v3 v4 : Value) :
  Box5 w (st5 W (w.heap.size + 1 + 1 + 1) v0 v1 v2 v3 v4) a b c (.cells #[v0,v1,v2,v3,v4] t) e :=
 ⟨far5 _ _ _ _ _ D.h1 (by omega),far5 _ _ _ _ _ D.h2 (by omega),far5 _ _ _ _ _ D.h3 (by omega),put5 D.h4,far5 _ _ _ _ _ D.h5 (by omega),below5 D.below (by omega)⟩
theorem Box5.put5 {w W : World} {a b c d : Obj} {t : TypeId} {u0 u1 u2 u3 u4 : Value} (D : Box5 w W a b c d (.cells #[u0,u1,u2,u3,u4] t)) (v0 v1 v2 v3 v4 : Value) :
  Box5 w (st5 W (w.heap.size + 1 + 1 + 1 + 1) v0 v1 v2 v3 v4) a b c d (.cells #[v0,v1,v2,v3,v4] t) :=
 ⟨far5 _ _ _ _ _ D.h1 (by omega),far5 _ _ _ _ _ D.h2 (by omega),far5 _ _ _ _ _ D.h3 (by omega),far5 _ _ _ _ _ D.h4 (by omega),T.put5 D.h5,below5 D.below (by omega)⟩
theorem Box5.drew {w W : World} {a b c d e : Obj} (D : Box5 w W a b c d e) : Box5 w W.drew a b c d e := ⟨D.h1,D.h2,D.h3,D.h4,D.h5,below_drew1 D.below⟩
theorem froz_5 {w : World} {g : Nat} {t : TypeId} {cs : Array Value} (h : w.heap[g]? = some (.cells cs t (0,0))) : w.frozen? ⟨g,0,none⟩ = false ∧ w.frozen? ⟨g,1,none⟩ = false ∧ w.frozen? ⟨g,2,none⟩ = false ∧ w.frozen? ⟨g,3,none⟩ = false ∧ w.frozen? ⟨g,4,none⟩ = false := ⟨blk_frozen h 0,blk_frozen h 1,blk_frozen h 2,blk_frozen h 3,blk_frozen h 4⟩
def endsOk (r : S94) (a b : List S87) : Prop := (r.f0 = 3 → r.f1 = 0) ∧ (r.f0 ≠ 3 → (findS r.f1 a).2 = true) ∧ (r.f0 = 2 → r.f2 = 0) ∧ (r.f0 ≠ 2 → (findS r.f2 b).2 = true)
set_option maxHeartbeats 4000000 in
theorem rule_ends.at (r : S94) (B : Option Addr) (d : Nat) (st1 ver1 : Int) (A1 : Option Addr) (c1 : Nat) (l1 : List S87) (st2 ver2 : Int) (A2 : Option Addr) (c2 : Nat) (l2 : List S87) (w : World) (hl1 : l1.length ≤ 4611686018427387904) (hl2 : l2.length ≤ 4611686018427387904)
  (hr1 : Kd.C k87 w A1 l1.length l1) (hc1 : l1.length ≤ c1) (hr2 : Kd.C k87 w A2 l2.length l2) (hc2 : l2.length ≤ c2) (he : endsOk r l1 l2) :
  Calls prog 142 #[v94 r B d,.agg #[.int .i64 st1,.int .i64 ver1,.slice A1 l1.length c1],.agg #[.int .i64 st2,.int .i64 ver2,.slice A2 l2.length c2]] w fun e w' => e = .returned (.tuple #[v87 (findS r.f1 l1).1,v87 (findS r.f2 l2).1,.int .i64 0]) ∧ Below w.heap.size w w' := by
 have hu24 := underlying24
 have hu87 := underlying87
 have hu94 := underlying94
 have HR1 := aS hr1
 have HC1 := aS hc1
 have HR2 := aS hr2
 have HC2 := aS hc2
 obtain ⟨x,b1,hF1⟩ : ∃ x b1,findS r.f1 l1 = (x,b1) := ⟨_,_,rfl⟩
 obtain ⟨y,b2,hF2⟩ : ∃ y b2,findS r.f2 l2 = (y,b2) := ⟨_,_,rfl⟩
 have HF1 := aS hF1
 have HF2 := aS hF2
 obtain ⟨k1,k2,k3,k4⟩ := he
 rw [hF1] at k2 ⊢
 rw [hF2] at k4 ⊢
 clear hr1 hc1 hr2 hc2 hF1 hF2
 unfold v94 v87
 by_cases q3 : r.f0 = 3
 ·have e1 : (r.f0 == 3) = true := beq_iff_eq.mpr q3
  have e2 : (r.f1 == 0) = true := beq_iff_eq.mpr (k1 q3)
  have e3 : (r.f0 == 2) = false := beq_eq_false_iff_ne.mpr (by omega)
  have e4 : b2 = true := k4 (by omega)
  clear k1 k2 k3 k4 q3
  subst e4
  go_enter func142,ntmps142
  go_wp2_with (first | (go_at_call 36;have D0 := D;clear D0;refine (schema_Find.at st2 ver2 A2 c2 l2 r.f2 _ hl2 (c_B HR2.out (D.out.put4 _ _ _ _ _).below) HC2.out).mono ?_;rintro e w2 ⟨rfl,hb1⟩;rw [HF2.out];have D_ := aS ((D.out.put4 (.int .i64 x.f0) (.int .i64 x.f1) (.int .i64 x.f2) (.int .i64 x.f3) (.int .i64 x.f4)).step hb1);clear D hb1;clear a0 a1 a2 a3 a4 p0 p1 p2 q0 q1 q2 d0 d1 d2 d3 d4 f0 f1 f2 f3 f4 dd0 dd1 dd2 dd3 dd4 ff0 ff1 ff2 ff3 ff4;have D := D_;clear D_;unfold v87;obtain ⟨a0,a1,a2,a3,a4⟩ := cells_5 D.out.h1;obtain ⟨p0,p1,p2⟩ := cells_3 D.out.h2;obtain ⟨q0,q1,q2⟩ := cells_3 D.out.h3;obtain ⟨d0,d1,d2,d3,d4⟩ := cells_5 D.out.h4;obtain ⟨f0,f1,f2,f3,f4⟩ := cells_5 D.out.h5;obtain ⟨dd0,dd1,dd2,dd3,dd4⟩ := froz_5 D.out.h4;obtain ⟨ff0,ff1,ff2,ff3,ff4⟩ := froz_5 D.out.h5) | (go_at_call 36;refine (schema_Find.at st1 ver1 A1 c1 l1 r.f1 _ hl1 (c_B HR1.out (Box5.start w _ _ _ _ _).below) HC1.out).mono ?_;rintro e w1 ⟨rfl,hb1⟩;rw [HF1.out];have D := aS (Box5.init hb1);clear hb1;unfold v87;obtain ⟨a0,a1,a2,a3,a4⟩ := cells_5 D.out.h1;obtain ⟨p0,p1,p2⟩ := cells_3 D.out.h2;obtain ⟨q0,q1,q2⟩ := cells_3 D.out.h3;obtain ⟨d0,d1,d2,d3,d4⟩ := cells_5 D.out.h4;obtain ⟨f0,f1,f2,f3,f4⟩ := cells_5 D.out.h5;obtain ⟨dd0,dd1,dd2,dd3,dd4⟩ := froz_5 D.out.h4;obtain ⟨ff0,ff1,ff2,ff3,ff4⟩ := froz_5 D.out.h5))
  go_region
  all_goals go_wp2
  have Z := (((D.out.put5 (.int .i64 y.f0) (.int .i64 y.f1) (.int .i64 y.f2) (.int .i64 y.f3) (.int .i64 y.f4)).put4 (.int .i64 x.f0) (.int .i64 x.f1) (.int .i64 x.f2) (.int .i64 x.f3) (.int .i64 x.f4)).put5 (.int .i64 y.f0) (.int .i64 y.f1) (.int .i64 y.f2) (.int .i64 y.f3) (.int .i64 y.f4)).drew
  refine bodyPost_ret (results_cct rfl _ _ (w.heap.size + 1 + 1 + 1) (w.heap.size + 1 + 1 + 1 + 1) 87 87 _ _ (0,0) (0,0) _ _ rfl Z.h4 rfl hu87 (by kernel_rfl) rfl Z.h5 rfl hu87 (by kernel_rfl)) rfl ?_
  exact ⟨rfl,Z.below⟩
 ·have e1 : (r.f0 == 3) = false := beq_eq_false_iff_ne.mpr q3
  have e4 : b1 = true := k2 q3
  subst e4
  by_cases q2 : r.f0 = 2
  ·have e3 : (r.f0 == 2) = true := beq_iff_eq.mpr q2
   have e2 : (r.f2 == 0) = true := beq_iff_eq.mpr (k3 q2)
   clear k1 k2 k3 k4 q3 q2
   go_enter func142,ntmps142
   go_wp2_with (first | (go_at_call 36;have D0 := D;clear D0;refine (schema_Find.at st2 ver2 A2 c2 l2 r.f2 _ hl2 (c_B HR2.out (D.out.put4 _ _ _ _ _).below) HC2.out).mono ?_;rintro e w2 ⟨rfl,hb1⟩;rw [HF2.out];have D_ := aS ((D.out.put4 (.int .i64 x.f0) (.int .i64 x.f1) (.int .i64 x.f2) (.int .i64 x.f3) (.int .i64 x.f4)).step hb1);clear D hb1;clear a0 a1 a2 a3 a4 p0 p1 p2 q0 q1 q2 d0 d1 d2 d3 d4 f0 f1 f2 f3 f4 dd0 dd1 dd2 dd3 dd4 ff0 ff1 ff2 ff3 ff4;have D := D_;clear D_;unfold v87;obtain ⟨a0,a1,a2,a3,a4⟩ := cells_5 D.out.h1;obtain ⟨p0,p1,p2⟩ := cells_3 D.out.h2;obtain ⟨q0,q1,q2⟩ := cells_3 D.out.h3;obtain ⟨d0,d1,d2,d3,d4⟩ := cells_5 D.out.h4;obtain ⟨f0,f1,f2,f3,f4⟩ := cells_5 D.out.h5;obtain ⟨dd0,dd1,dd2,dd3,dd4⟩ := froz_5 D.out.h4;obtain ⟨ff0,ff1,ff2,ff3,ff4⟩ := froz_5 D.out.h5) | (go_at_call 36;refine (schema_Find.at st1 ver1 A1 c1 l1 r.f1 _ hl1 (c_B HR1.out (Box5.start w _ _ _ _ _).below) HC1.out).mono ?_;rintro e w1 ⟨rfl,hb1⟩;rw [HF1.out];have D := aS (Box5.init hb1);clear hb1;unfold v87;obtain ⟨a0,a1,a2,a3,a4⟩ := cells_5 D.out.h1;obtain ⟨p0,p1,p2⟩ := cells_3 D.out.h2;obtain ⟨q0,q1,q2⟩ := cells_3 D.out.h3;obtain ⟨d0,d1,d2,d3,d4⟩ := cells_5 D.out.h4;obtain ⟨f0,f1,f2,f3,f4⟩ := cells_5 D.out.h5;obtain ⟨dd0,dd1,dd2,dd3,dd4⟩ := froz_5 D.out.h4;obtain ⟨ff0,ff1,ff2,ff3,ff4⟩ := froz_5 D.out.h5))
   go_region
   all_goals go_wp2
   have Z := (((D.out.put5 (.int .i64 y.f0) (.int .i64 y.f1) (.int .i64 y.f2) (.int .i64 y.f3) (.int .i64 y.f4)).put4 (.int .i64 x.f0) (.int .i64 x.f1) (.int .i64 x.f2) (.int .i64 x.f3) (.int .i64 x.f4)).put5 (.int .i64 y.f0) (.int .i64 y.f1) (.int .i64 y.f2) (.int .i64 y.f3) (.int .i64 y.f4)).drew
   refine bodyPost_ret (results_cct rfl _ _ (w.heap.size + 1 + 1 + 1) (w.heap.size + 1 + 1 + 1 + 1) 87 87 _ _ (0,0) (0,0) _ _ rfl Z.h4 rfl hu87 (by kernel_rfl) rfl Z.h5 rfl hu87 (by kernel_rfl)) rfl ?_
   exact ⟨rfl,Z.below⟩
  ·have e3 : (r.f0 == 2) = false := beq_eq_false_iff_ne.mpr q2
   have e2 : b2 = true := k4 q2
   subst e2
   clear k1 k2 k3 k4 q3 q2
   go_enter func142,ntmps142
   go_wp2_with (first | (go_at_call 36;have D0 := D;clear D0;refine (schema_Find.at st2 ver2 A2 c2 l2 r.f2 _ hl2 (c_B HR2.out (D.out.put4 _ _ _ _ _).below) HC2.out).mono ?_;rintro e w2 ⟨rfl,hb1⟩;rw [HF2.out];have D_ := aS ((D.out.put4 (.int .i64 x.f0) (.int .i64 x.f1) (.int .i64 x.f2) (.int .i64 x.f3) (.int .i64 x.f4)).step hb1);clear D hb1;clear a0 a1 a2 a3 a4 p0 p1 p2 q0 q1 q2 d0 d1 d2 d3 d4 f0 f1 f2 f3 f4 dd0 dd1 dd2 dd3 dd4 ff0 ff1 ff2 ff3 ff4;have D := D_;clear D_;unfold v87;obtain ⟨a0,a1,a2,a3,a4⟩ := cells_5 D.out.h1;obtain ⟨p0,p1,p2⟩ := cells_3 D.out.h2;obtain ⟨q0,q1,q2⟩ := cells_3 D.out.h3;obtain ⟨d0,d1,d2,d3,d4⟩ := cells_5 D.out.h4;obtain ⟨f0,f1,f2,f3,f4⟩ := cells_5 D.out.h5;obtain ⟨dd0,dd1,dd2,dd3,dd4⟩ := froz_5 D.out.h4;obtain ⟨ff0,ff1,ff2,ff3,ff4⟩ := froz_5 D.out.h5) | (go_at_call 36;refine (schema_Find.at st1 ver1 A1 c1 l1 r.f1 _ hl1 (c_B HR1.out (Box5.start w _ _ _ _ _).below) HC1.out).mono ?_;rintro e w1 ⟨rfl,hb1⟩;rw [HF1.out];have D := aS (Box5.init hb1);clear hb1;unfold v87;obtain ⟨a0,a1,a2,a3,a4⟩ := cells_5 D.out.h1;obtain ⟨p0,p1,p2⟩ := cells_3 D.out.h2;obtain ⟨q0,q1,q2⟩ := cells_3 D.out.h3;obtain ⟨d0,d1,d2,d3,d4⟩ := cells_5 D.out.h4;obtain ⟨f0,f1,f2,f3,f4⟩ := cells_5 D.out.h5;obtain ⟨dd0,dd1,dd2,dd3,dd4⟩ := froz_5 D.out.h4;obtain ⟨ff0,ff1,ff2,ff3,ff4⟩ := froz_5 D.out.h5))
   go_region
   all_goals go_wp2
   have Z := (((D.out.put5 (.int .i64 y.f0) (.int .i64 y.f1) (.int .i64 y.f2) (.int .i64 y.f3) (.int .i64 y.f4)).put4 (.int .i64 x.f0) (.int .i64 x.f1) (.int .i64 x.f2) (.int .i64 x.f3) (.int .i64 x.f4)).put5 (.int .i64 y.f0) (.int .i64 y.f1) (.int .i64 y.f2) (.int .i64 y.f3) (.int .i64 y.f4)).drew
   refine bodyPost_ret (results_cct rfl _ _ (w.heap.size + 1 + 1 + 1) (w.heap.size + 1 + 1 + 1 + 1) 87 87 _ _ (0,0) (0,0) _ _ rfl Z.h4 rfl hu87 (by kernel_rfl) rfl Z.h5 rfl hu87 (by kernel_rfl)) rfl ?_
   exact ⟨rfl,Z.below⟩
def takeG (st : Int) (b : ByteArray) (i : Int) : ByteArray × Int × Int :=
 if st = 1 then
  if (b.size : Int) - i < 16 then (⟨#[]⟩,0,2) else
  if (hexG (b.extract i.toNat (i + 16).toNat)).2 = false then (⟨#[]⟩,0,3) else ((hexG (b.extract i.toNat (i + 16).toNat)).1,i + 16,0)
 else if (b.size : Int) - i < 8 then (⟨#[]⟩,0,2) else (b.extract i.toNat (i + 8).toNat,i + 8,0)
theorem hexa_Get.exact (s : ByteArray) : ∀ (k : Nat) (xs : List Int) (h : Int) (i : Nat) (r : ByteArray × Int × Bool),s.size ≤ 1000000 → i ≤ s.size → 2 * xs.length + i % 2 = i → hexa_Get.l0 k s xs h i = some r → r.2.2 = true → 2 * r.1.size = s.size
 | 0,_,_,_,_,_,_,_,h,_ => by simp [hexa_Get.l0] at h
 | k + 1,xs,h,i,r,hs,hi,hx,he,ht => by
  rw [hexa_Get.l0] at he
  have hw : wrap64 ((i : Int) + 1) = ((i + 1 : Nat) : Int) := by unfold wrap64;omega
  by_cases c : (i : Int) < s.size
  ·rw [if_pos c,if_pos (by omega)] at he
   obtain ⟨d,hd,he⟩ := Option.bind_eq_some_iff.mp he
   by_cases c2 : d.2 = true
   ·rw [if_pos c2] at he
    have htm : Int.tmod (i : Int) 2 = ((i % 2 : Nat) : Int) := by rw [Int.tmod_eq_emod_of_nonneg (by omega)];omega
    by_cases c3 : Int.tmod (i : Int) 2 = 0
    ·rw [if_pos c3,hw] at he
     rw [htm] at c3
     exact hexa_Get.exact s k _ _ _ r hs (by omega) (by omega) he ht
    ·rw [if_neg c3,if_pos (by omega),hw] at he
     rw [htm] at c3
     exact hexa_Get.exact s k _ _ _ r hs (by omega) (by rw [List.length_append,List.length_singleton];omega) he ht
   ·rw [if_neg c2] at he
    cases he
    cases ht
  ·rw [if_neg c] at he
   split at he
   ·cases he
    have hl := data_length (strOfNums xs)
    rw [strOfNums_data,List.length_map] at hl
    show 2 * (strOfNums xs).size = _
    omega
   ·cases he
    cases ht
theorem hexG_exact (s : ByteArray) (hs : s.size ≤ 1000000) (h : (hexG s).2 = true) : 2 * (hexG s).1.size = s.size := by
 unfold hexG at h ⊢
 cases e : hexa_Get.f (s.size + 3) s with
 | none => rw [e] at h;cases h
 | some r => rw [e] at h;exact hexa_Get.exact s _ [] 0 0 r hs (by omega) (by simp) e h
set_option maxHeartbeats 2000000 in
theorem bitmap_take.at (st : Int) (b : ByteArray) (i : Int) (w : World) (hst : st = 1 ∨ st = 2) (h0 : 0 ≤ i) (h1 : i ≤ b.size) (hb : b.size ≤ 100000) :
  Calls prog 82 #[.int .i64 st,.string b,.int .i64 i] w fun e w' => e = .returned (.tuple #[.agg (cells8 (takeG st b i).1),.int .i64 (takeG st b i).2.1,.int .i64 (takeG st b i).2.2]) ∧ Below w.heap.size w w' := by
 have hu154 := underlying154
 obtain ⟨r,hg⟩ : ∃ r,takeG st b i = r := ⟨_,rfl⟩
 rw [hg]
 rw [takeG] at hg
 have p0 : (0 ≤ i) = True := eq_true h0
 have HE : Aside0 ((#[.int .u8 0,.int .u8 0,.int .u8 0,.int .u8 0,.int .u8 0,.int .u8 0,.int .u8 0,.int .u8 0] : Array Value) = cells8 ⟨#[]⟩) := ⟨zero8⟩
 rcases hst with rfl | rfl
 ·rw [if_pos rfl] at hg
  by_cases c : (b.size : Int) - i < 16
  ·have c0 : decide ((b.size : Int) - i < 16) = true := d_T c
   rw [if_pos c] at hg
   have HG := aS hg
   clear hg c
   go_enter func82,ntmps82
   go_wp2
   refine bodyPost_ret (results_ctt rfl _ _ w.heap.size 154 _ (0,0) _ rfl (blk_alloc (blk_new _ _) _) hu154 rfl (by kernel_rfl)) rfl ?_
   obtain rfl := HG.out
   exact ⟨by rw [HE.out];rfl,b_l (bO _) _⟩
  ·have c0 : decide ((b.size : Int) - i < 16) = false := d_F c
   have p1 : (i ≤ i + 16) = True := eq_true (by omega)
   have p2 : (i + 16 ≤ (b.size : Int)) = True := eq_true (by omega)
   rw [if_neg c] at hg
   have hz : (b.extract i.toNat (i + 16).toNat).size = 16 := by rw [ByteArray.size_extract];omega
   have HZ : Aside0 ((b.extract i.toNat (i + 16).toNat).size ≤ 1000000) := ⟨by omega⟩
   have hzt := hexG_exact (b.extract i.toNat (i + 16).toNat) HZ.out
   obtain ⟨v1,v2,hv⟩ : ∃ v1 v2,hexG (b.extract i.toNat (i + 16).toNat) = (v1,v2) := ⟨_,_,rfl⟩
   rw [hv] at hg hzt
   rw [hz] at hzt
   clear hz c
   cases v2 with
   | false =>
    have HG := aS hg
    clear hg hzt
    go_enter func82,ntmps82
    go_wp2_with (first | (go_at_call 89;refine (hexa_Get.at _ _ HZ.out).mono ?_;rintro e w1 ⟨⟨pq,rfl⟩,hb1⟩;rw [hv];have B1 := aS (blk_nb1 hb1);have B2 := aS (blk_nb2 hb1);have H := aS (below_a2 hb1);clear hb1;obtain ⟨k0,k1,k2,k3,k4,k5,k6,k7⟩ := cells_8 B2.out;obtain ⟨l0,l1,l2,l3,l4,l5,l6,l7⟩ := cells_8 B1.out;obtain ⟨f0,f1,f2,f3,f4,f5,f6,f7⟩ := frozen_8 B1.out))
    refine bodyPost_ret (results_ctt rfl _ _ w.heap.size 154 _ (0,0) _ rfl (put8 B1.out) hu154 rfl (by kernel_rfl)) rfl ?_
    obtain rfl := HG.out
    exact ⟨by rw [HE.out];rfl,below8 H.out (Nat.le_refl _)⟩
   | true =>
    have hzt := hzt rfl
    have HG := aS hg
    clear hg
    go_enter func82,ntmps82
    go_wp2_with (first | (go_at_call 89;refine (hexa_Get.at _ _ HZ.out).mono ?_;rintro e w1 ⟨⟨pq,rfl⟩,hb1⟩;rw [hv];have B1 := aS (blk_nb1 hb1);have B2 := aS (blk_nb2 hb1);have H := aS (below_a2 hb1);clear hb1;obtain ⟨l0,l1,l2,l3,l4,l5,l6,l7⟩ := cells_8 B1.out;obtain ⟨f0,f1,f2,f3,f4,f5,f6,f7⟩ := frozen_8 B1.out) | ((with_reducible refine gate_builtin (b := .copy) (xs := #[.tmp 44,.tmp 45]) rfl ?_);refine wp_copy8 rfl (.tmp 44) (.tmp 45) rfl (w.heap.size + 1) rfl v1 rfl (by omega) _ rfl B2.out H.out (Nat.le_succ _) ?_;intro w2 g2 hk hb2;have B1_ := aS ((hk w.heap.size (by omega)).trans B1.out);have B2_ := aS g2;clear B1 B2 H hk g2 l0 l1 l2 l3 l4 l5 l6 l7 f0 f1 f2 f3 f4 f5 f6 f7;have B1 := B1_;have B2 := B2_;have H := aS hb2;clear B1_ B2_ hb2;obtain ⟨k0,k1,k2,k3,k4,k5,k6,k7⟩ := cells_8 B2.out;obtain ⟨l0,l1,l2,l3,l4,l5,l6,l7⟩ := cells_8 B1.out;obtain ⟨f0,f1,f2,f3,f4,f5,f6,f7⟩ := frozen_8 B1.out))
    refine bodyPost_ret (results_ctt rfl _ _ w.heap.size 154 _ (0,0) _ rfl (put8 B1.out) hu154 rfl (by kernel_rfl)) rfl ?_
    obtain rfl := HG.out
    exact ⟨rfl,below8 H.out (Nat.le_refl _)⟩
 ·rw [if_neg (by decide)] at hg
  by_cases c : (b.size : Int) - i < 8
  ·have c0 : decide ((b.size : Int) - i < 8) = true := d_T c
   rw [if_pos c] at hg
   have HG := aS hg
   clear hg c
   go_enter func82,ntmps82
   go_wp2
   refine bodyPost_ret (results_ctt rfl _ _ w.heap.size 154 _ (0,0) _ rfl (blk_alloc (blk_new _ _) _) hu154 rfl (by kernel_rfl)) rfl ?_
   obtain rfl := HG.out
   exact ⟨by rw [HE.out];rfl,b_l (bO _) _⟩
  ·have c0 : decide ((b.size : Int) - i < 8) = false := d_F c
   have p1 : (i ≤ i + 8) = True := eq_true (by omega)
   have p2 : (i + 8 ≤ (b.size : Int)) = True := eq_true (by omega)
   rw [if_neg c] at hg
   have HZ : Aside0 ((b.extract i.toNat (i + 8).toNat).size = 8) := ⟨by rw [ByteArray.size_extract];omega⟩
   have HG := aS hg
   clear hg c
   go_enter func82,ntmps82
   go_wp2_with (first | ((with_reducible refine gate_builtin (b := .copy) (xs := #[.tmp 44,.tmp 45]) rfl ?_);refine wp_copy8 rfl (.tmp 44) (.tmp 45) rfl (w.heap.size + 1) rfl (b.extract i.toNat (i + 8).toNat) rfl HZ.out _ rfl (alloc2 w _ _) (bA _ _) (Nat.le_succ _) ?_;intro w2 g2 hk hb2;have B1 := aS ((hk w.heap.size (by omega)).trans (blk_alloc (blk_new w _) _));have B2 := aS g2;clear hk g2;have H := aS hb2;clear hb2;obtain ⟨k0,k1,k2,k3,k4,k5,k6,k7⟩ := cells_8 B2.out;obtain ⟨l0,l1,l2,l3,l4,l5,l6,l7⟩ := cells_8 B1.out;obtain ⟨f0,f1,f2,f3,f4,f5,f6,f7⟩ := frozen_8 B1.out))
   refine bodyPost_ret (results_ctt rfl _ _ w.heap.size 154 _ (0,0) _ rfl (put8 B1.out) hu154 rfl (by kernel_rfl)) rfl ?_
   obtain rfl := HG.out
   exact ⟨rfl,below8 H.out (Nat.le_refl _)⟩
def bytV (x : Int) (j : Nat) : Int := (x / 2 ^ (8 * (7 - j))) % 256
def byA (x : Int) (i : Nat) : Array Value := #[.int .u8 (if 0 < i then bytV x 0 else 0),.int .u8 (if 1 < i then bytV x 1 else 0),.int .u8 (if 2 < i then bytV x 2 else 0),.int .u8 (if 3 < i then bytV x 3 else 0),.int .u8 (if 4 < i then bytV x 4 else 0),.int .u8 (if 5 < i then bytV x 5 else 0),.int .u8 (if 6 < i then bytV x 6 else 0),.int .u8 (if 7 < i then bytV x 7 else 0)]
def b8 (x : Int) : ByteArray := strOfNums [bytV x 0,bytV x 1,bytV x 2,bytV x 3,bytV x 4,bytV x 5,bytV x 6,bytV x 7]
theorem byA_8 (x : Int) : byA x 8 = cells8 (b8 x) := by
 have hr : ∀ j,0 ≤ bytV x j ∧ bytV x j < 256 := fun j => by unfold bytV;omega
 have hb : ∀ i : Nat,bt (b8 x) (i : Int) = [bytV x 0,bytV x 1,bytV x 2,bytV x 3,bytV x 4,bytV x 5,bytV x 6,bytV x 7].getD i 0 := fun i => bt_of _ i (by
  intro y hy
  simp only [List.mem_cons,List.not_mem_nil,or_false] at hy
  rcases hy with rfl | rfl | rfl | rfl | rfl | rfl | rfl | rfl <;> exact hr _)
 unfold cells8
 have h0 := hb 0
 have h1 := hb 1
 have h2 := hb 2
 have h3 := hb 3
 have h4 := hb 4
 have h5 := hb 5
 have h6 := hb 6
 have h7 := hb 7
 show _ = #[Value.int .u8 (bt (b8 x) ((0 : Nat) : Int)),Value.int .u8 (bt (b8 x) ((1 : Nat) : Int)),Value.int .u8 (bt (b8 x) ((2 : Nat) : Int)),Value.int .u8 (bt (b8 x) ((3 : Nat) : Int)),Value.int .u8 (bt (b8 x) ((4 : Nat) : Int)),Value.int .u8 (bt (b8 x) ((5 : Nat) : Int)),Value.int .u8 (bt (b8 x) ((6 : Nat) : Int)),Value.int .u8 (bt (b8 x) ((7 : Nat) : Int))]
 rw [h0,h1,h2,h3,h4,h5,h6,h7]
 rfl
set_option maxHeartbeats 2000000 in
theorem bitmap_bytes.at (x : Int) (w : World) (h0 : 0 ≤ x) (h1 : x < 18446744073709551616) : Calls prog 105 #[.int .u64 x] w fun e w' => e = .returned (.agg (cells8 (b8 x))) ∧ Below w.heap.size w w' := by
 have hu154 := underlying154
 rw [← byA_8]
 go_enter func105,ntmps105
 go_wp2
 have G0 : Aside0 (((w.alloc (.cells #[.int .u8 0,.int .u8 0,.int .u8 0,.int .u8 0,.int .u8 0,.int .u8 0,.int .u8 0,.int .u8 0] 154)).alloc (.cells #[.int .u8 0,.int .u8 0,.int .u8 0,.int .u8 0,.int .u8 0,.int .u8 0,.int .u8 0,.int .u8 0] 154)).heap[w.heap.size + 1]? = some (.cells (byA x 0) 154 (0,0))) := ⟨alloc2 w _ _⟩
 have G1 : Aside0 (((w.alloc (.cells #[.int .u8 0,.int .u8 0,.int .u8 0,.int .u8 0,.int .u8 0,.int .u8 0,.int .u8 0,.int .u8 0] 154)).alloc (.cells #[.int .u8 0,.int .u8 0,.int .u8 0,.int .u8 0,.int .u8 0,.int .u8 0,.int .u8 0,.int .u8 0] 154)).heap[w.heap.size]? = some (.cells #[.int .u8 0,.int .u8 0,.int .u8 0,.int .u8 0,.int .u8 0,.int .u8 0,.int .u8 0,.int .u8 0] 154 (0,0))) := ⟨blk_alloc (blk_new w _) _⟩
 go_loopg [5] 8 (fun g v5 w' => ∃ i : Nat,v5 = .int .i64 i ∧ i + g = 8 ∧ Aside0 (w'.heap[w.heap.size + 1]? = some (.cells (byA x i) 154 (0,0))) ∧ Aside0 (w'.heap[w.heap.size]? = some (.cells #[.int .u8 0,.int .u8 0,.int .u8 0,.int .u8 0,.int .u8 0,.int .u8 0,.int .u8 0,.int .u8 0] 154 (0,0))) ∧ Aside0 (Below w.heap.size w w'))
 case atStart => exact ⟨0,rfl,rfl,G0,G1,⟨b_l (bO _) _⟩⟩
 case round =>
  clear G0 G1
  obtain ⟨i,rfl,hi,B2,B1,H⟩ := hrel
  by_cases h : i < 8
  ·obtain ⟨g,rfl⟩ : ∃ g,gk = g + 1 := ⟨gk - 1,by omega⟩
   rcases (show i = 0 ∨ i = 1 ∨ i = 2 ∨ i = 3 ∨ i = 4 ∨ i = 5 ∨ i = 6 ∨ i = 7 by omega) with rfl | rfl | rfl | rfl | rfl | rfl | rfl | rfl
   ·obtain ⟨k0,k1,k2,k3,k4,k5,k6,k7⟩ := cells_8 B2.out
    obtain ⟨f0,f1,f2,f3,f4,f5,f6,f7⟩ := frozen_8 B2.out
    have e : Aside0 (x / 72057594037927936 = bytV x 0) := ⟨by unfold bytV;omega⟩
    go_wp2
    go_roundg g
    case measure => omega
    case rel => exact ⟨0 + 1,rfl,by omega,⟨blk_put B2.out 0 _ (by rw [e.out];rfl)⟩,⟨(Below.heap_setCell _ _ _ _ (by show w.heap.size ≠ w.heap.size + 1;omega)).trans B1.out⟩,⟨H.out.setCell (p := ⟨w.heap.size + 1,0,none⟩) (Nat.le_succ _) _⟩⟩
   ·obtain ⟨k0,k1,k2,k3,k4,k5,k6,k7⟩ := cells_8 B2.out
    obtain ⟨f0,f1,f2,f3,f4,f5,f6,f7⟩ := frozen_8 B2.out
    have e : Aside0 (x / 281474976710656 % 256 = bytV x 1) := ⟨by unfold bytV;omega⟩
    go_wp2
    go_roundg g
    case measure => omega
    case rel => exact ⟨1 + 1,rfl,by omega,⟨blk_put B2.out 1 _ (by rw [e.out];rfl)⟩,⟨(Below.heap_setCell _ _ _ _ (by show w.heap.size ≠ w.heap.size + 1;omega)).trans B1.out⟩,⟨H.out.setCell (p := ⟨w.heap.size + 1,1,none⟩) (Nat.le_succ _) _⟩⟩
   ·obtain ⟨k0,k1,k2,k3,k4,k5,k6,k7⟩ := cells_8 B2.out
    obtain ⟨f0,f1,f2,f3,f4,f5,f6,f7⟩ := frozen_8 B2.out
    have e : Aside0 (x / 1099511627776 % 256 = bytV x 2) := ⟨by unfold bytV;omega⟩
    go_wp2
    go_roundg g
    case measure => omega
    case rel => exact ⟨2 + 1,rfl,by omega,⟨blk_put B2.out 2 _ (by rw [e.out];rfl)⟩,⟨(Below.heap_setCell _ _ _ _ (by show w.heap.size ≠ w.heap.size + 1;omega)).trans B1.out⟩,⟨H.out.setCell (p := ⟨w.heap.size + 1,2,none⟩) (Nat.le_succ _) _⟩⟩
   ·obtain ⟨k0,k1,k2,k3,k4,k5,k6,k7⟩ := cells_8 B2.out
    obtain ⟨f0,f1,f2,f3,f4,f5,f6,f7⟩ := frozen_8 B2.out
    have e : Aside0 (x / 4294967296 % 256 = bytV x 3) := ⟨by unfold bytV;omega⟩
    go_wp2
    go_roundg g
    case measure => omega
    case rel => exact ⟨3 + 1,rfl,by omega,⟨blk_put B2.out 3 _ (by rw [e.out];rfl)⟩,⟨(Below.heap_setCell _ _ _ _ (by show w.heap.size ≠ w.heap.size + 1;omega)).trans B1.out⟩,⟨H.out.setCell (p := ⟨w.heap.size + 1,3,none⟩) (Nat.le_succ _) _⟩⟩
   ·obtain ⟨k0,k1,k2,k3,k4,k5,k6,k7⟩ := cells_8 B2.out
    obtain ⟨f0,f1,f2,f3,f4,f5,f6,f7⟩ := frozen_8 B2.out
    have e : Aside0 (x / 16777216 % 256 = bytV x 4) := ⟨by unfold bytV;omega⟩
    go_wp2
    go_roundg g
    case measure => omega
    case rel => exact ⟨4 + 1,rfl,by omega,⟨blk_put B2.out 4 _ (by rw [e.out];rfl)⟩,⟨(Below.heap_setCell _ _ _ _ (by show w.heap.size ≠ w.heap.size + 1;omega)).trans B1.out⟩,⟨H.out.setCell (p := ⟨w.heap.size + 1,4,none⟩) (Nat.le_succ _) _⟩⟩
   ·obtain ⟨k0,k1,k2,k3,k4,k5,k6,k7⟩ := cells_8 B2.out
    obtain ⟨f0,f1,f2,f3,f4,f5,f6,f7⟩ := frozen_8 B2.out
    have e : Aside0 (x / 65536 % 256 = bytV x 5) := ⟨by unfold bytV;omega⟩
    go_wp2
    go_roundg g
    case measure => omega
    case rel => exact ⟨5 + 1,rfl,by omega,⟨blk_put B2.out 5 _ (by rw [e.out];rfl)⟩,⟨(Below.heap_setCell _ _ _ _ (by show w.heap.size ≠ w.heap.size + 1;omega)).trans B1.out⟩,⟨H.out.setCell (p := ⟨w.heap.size + 1,5,none⟩) (Nat.le_succ _) _⟩⟩
   ·obtain ⟨k0,k1,k2,k3,k4,k5,k6,k7⟩ := cells_8 B2.out
    obtain ⟨f0,f1,f2,f3,f4,f5,f6,f7⟩ := frozen_8 B2.out
    have e : Aside0 (x / 256 % 256 = bytV x 6) := ⟨by unfold bytV;omega⟩
    go_wp2
    go_roundg g
    case measure => omega
    case rel => exact ⟨6 + 1,rfl,by omega,⟨blk_put B2.out 6 _ (by rw [e.out];rfl)⟩,⟨(Below.heap_setCell _ _ _ _ (by show w.heap.size ≠ w.heap.size + 1;omega)).trans B1.out⟩,⟨H.out.setCell (p := ⟨w.heap.size + 1,6,none⟩) (Nat.le_succ _) _⟩⟩
   ·obtain ⟨k0,k1,k2,k3,k4,k5,k6,k7⟩ := cells_8 B2.out
    obtain ⟨f0,f1,f2,f3,f4,f5,f6,f7⟩ := frozen_8 B2.out
    have e : Aside0 (x % 256 = bytV x 7) := ⟨by unfold bytV;omega⟩
    go_wp2
    go_roundg g
    case measure => omega
    case rel => exact ⟨7 + 1,rfl,by omega,⟨blk_put B2.out 7 _ (by rw [e.out];rfl)⟩,⟨(Below.heap_setCell _ _ _ _ (by show w.heap.size ≠ w.heap.size + 1;omega)).trans B1.out⟩,⟨H.out.setCell (p := ⟨w.heap.size + 1,7,none⟩) (Nat.le_succ _) _⟩⟩
  ·obtain rfl : i = 8 := by omega
   obtain ⟨k0,k1,k2,k3,k4,k5,k6,k7⟩ := cells_8 B2.out
   obtain ⟨l0,l1,l2,l3,l4,l5,l6,l7⟩ := cells_8 B1.out
   obtain ⟨f0,f1,f2,f3,f4,f5,f6,f7⟩ := frozen_8 B1.out
   go_wp2
   refine bodyPost_ret (results_cell_row rfl _ _ w.heap.size 154 _ (0,0) _ rfl (put8 B1.out) hu154 rfl (by kernel_rfl)) rfl ?_
   exact ⟨rfl,below8 H.out (Nat.le_refl _)⟩
def typG (st ver : Int) (b : ByteArray) : ByteArray × Int × Int :=
 if st = 2 then
  if (b.size : Int) < 2 then (⟨#[]⟩,0,2) else
  if (verV (bcdG (b.extract 0 2) 4).1).2 = false then (⟨#[]⟩,0,7) else if (verV (bcdG (b.extract 0 2) 4).1).1 ≠ ver then (⟨#[]⟩,0,7) else ((bcdG (b.extract 0 2) 4).1,2,0)
 else
  if (b.size : Int) < 4 then (⟨#[]⟩,0,2) else
  if (verV (b.extract 0 4)).2 = false then (⟨#[]⟩,0,7) else if (verV (b.extract 0 4)).1 ≠ ver then (⟨#[]⟩,0,7) else (b.extract 0 4,4,0)
set_option maxHeartbeats 1000000 in
theorem strict_typed.at (st ver : Int) (sl : Value) (b : ByteArray) (w : World) (hst : st = 1 ∨ st = 2) (hb : b.size ≤ 100000) (hsl : ∃ A n c,sl = .slice A n c) :
  Calls prog 33 #[.agg #[.int .i64 st,.int .i64 ver,sl],.string b] w fun e w' => e = .returned (.tuple #[.string (typG st ver b).1,.int .i64 (typG st ver b).2.1,.int .i64 (typG st ver b).2.2]) ∧ Below w.heap.size w w' := by
 have hu24 := underlying24
 obtain ⟨A,n,c,rfl⟩ := hsl
 have hb4 : bcdSize 4 = 2 := by decide
 obtain ⟨r,hg⟩ : ∃ r,typG st ver b = r := ⟨_,rfl⟩
 rw [hg]
 rw [typG] at hg
 rcases hst with rfl | rfl
 ·rw [if_neg (by decide)] at hg
  by_cases c1 : (b.size : Int) < 4
  ·have c0 : decide ((b.size : Int) < 4) = true := d_T (by omega)
   rw [if_pos c1] at hg
   have HG := aS hg
   clear hg c1
   go_enter func33,ntmps33
   go_wp2
   go_ret3
   obtain rfl := HG.out
   exact ⟨rfl,b_l (Below.refl _ _) _⟩
  ·have c0 : decide ((b.size : Int) < 4) = false := d_F (by omega)
   have p2 : ((4 : Int) ≤ (b.size : Int)) = True := eq_true (by omega)
   have p3 : (4 ≤ b.size) = True := eq_true (by omega)
   rw [if_neg c1] at hg
   obtain ⟨v1,v2,hv⟩ : ∃ v1 v2,verV (b.extract 0 4) = (v1,v2) := ⟨_,_,rfl⟩
   rw [hv] at hg
   have HG := aS hg
   clear hg c1
   go_enter func33,ntmps33
   go_wp2_with (first | (go_at_call 80;refine (mti_Version.at _ _).mono ?_;rintro e w2 ⟨rfl,hb1⟩;rw [hv];have B := aS (blk_nb hb1);have H := aS (below_a1 hb1);clear hb1;have k0 := blk_cell B.out 0;have k1 := blk_cell B.out 1;have k2 := blk_cell B.out 2))
   all_goals go_ret3
   all_goals obtain rfl := HG.out
   all_goals refine ⟨?_,H.out⟩
   all_goals (repeat' split) <;> first | rfl | simp_all
 ·rw [if_pos rfl] at hg
  by_cases c1 : (b.size : Int) < 2
  ·have c0 : decide ((b.size : Int) < 2) = true := d_T (by omega)
   rw [if_pos c1] at hg
   have HG := aS hg
   clear hg c1
   go_enter func33,ntmps33
   go_wp2_with (first | (go_at_call 78;refine (bcd_Size.at _ _ (by omega)).mono ?_;rintro e w1 ⟨rfl,rfl⟩;rw [hb4]))
   go_ret3
   obtain rfl := HG.out
   exact ⟨rfl,b_l (Below.refl _ _) _⟩
  ·have c0 : decide ((b.size : Int) < 2) = false := d_F (by omega)
   have p2 : ((2 : Int) ≤ (b.size : Int)) = True := eq_true (by omega)
   have p3 : (2 ≤ b.size) = True := eq_true (by omega)
   have HZ : Aside0 ((b.extract 0 2).size ≤ 1000000) := ⟨by rw [ByteArray.size_extract];omega⟩
   rw [if_neg c1] at hg
   obtain ⟨t1,t2,ht⟩ : ∃ t1 t2,bcdG (b.extract 0 2) 4 = (t1,t2) := ⟨_,_,rfl⟩
   obtain ⟨v1,v2,hv⟩ : ∃ v1 v2,verV t1 = (v1,v2) := ⟨_,_,rfl⟩
   rw [ht,hv] at hg
   have HG := aS hg
   clear hg c1
   go_enter func33,ntmps33
   go_wp2_with (first | (go_at_call 78;refine (bcd_Size.at _ _ (by omega)).mono ?_;rintro e w1 ⟨rfl,rfl⟩;rw [hb4]) | (go_at_call 79;refine (bcd_Get.at _ _ _ (by omega) HZ.out).mono ?_;rintro e w2 ⟨⟨pq,rfl⟩,hb1⟩;rw [ht];have B := aS (blk_nb hb1);have H := aS (below_a1 hb1);clear hb1;have k0 := blk_cell B.out 0;have k1 := blk_cell B.out 1;have k2 := blk_cell B.out 2) | (go_at_call 80;refine (mti_Version.at _ _).mono ?_;rintro e w2 ⟨rfl,hb1⟩;rw [hv];have B_ := aS (k_B B.out hb1);have H_ := aS (b_s H.out hb1);clear B H k0 k1 k2 hb1;have B := B_;have H := H_;clear B_ H_;have k0 := blk_cell B.out 0;have k1 := blk_cell B.out 1;have k2 := blk_cell B.out 2))
   all_goals go_ret3
   all_goals obtain rfl := HG.out
   all_goals refine ⟨?_,H.out⟩
   all_goals (repeat' split) <;> first | rfl | simp_all
def applyS (b : List S87) (r : S94) (t : ByteArray) : S63 × Int :=
 if r.f0 = 1 then (⟨r.f2,t⟩,0) else if r.f0 = 2 then (⟨0,⟨#[]⟩⟩,0) else if r.f0 = 3 then (⟨r.f2,r.f3⟩,0) else
 if r.f0 = 4 then (if (padS t (findS r.f2 b).1.f3).2 = false then (⟨0,⟨#[]⟩⟩,5) else (⟨r.f2,(padS t (findS r.f2 b).1.f3).1⟩,0)) else
 if (headS t r.f4).2 = false then (⟨0,⟨#[]⟩⟩,15) else (⟨r.f2,(headS t r.f4).1⟩,0)
def applyOk (b : List S87) (r : S94) (t : ByteArray) : Prop := (1 ≤ r.f0 ∧ r.f0 ≤ 5) ∧ (r.f0 = 4 → (findS r.f2 b).2 = true ∧ 1 ≤ (findS r.f2 b).1.f3 ∧ (findS r.f2 b).1.f3 ≤ 999 ∧ 1 ≤ t.size ∧ t.size ≤ 999 ∧ allD t = true)
set_option maxHeartbeats 2000000 in
theorem rule_Apply.at (r : S94) (B : Option Addr) (d : Nat) (st ver : Int) (A : Option Addr) (c : Nat) (l : List S87) (t : ByteArray) (w : World) (hl : l.length ≤ 4611686018427387904) (hr : Kd.C k87 w A l.length l) (hc : l.length ≤ c)
  (hl4 : r.f4.length ≤ 4611686018427387904) (hr4 : Kd.C k66 w B r.f4.length r.f4) (hc4 : r.f4.length ≤ d) (hok : applyOk l r t) :
  Calls prog 43 #[v94 r B d,.agg #[.int .i64 st,.int .i64 ver,.slice A l.length c],.string t] w fun e w' => e = .returned (.tuple #[.agg #[.int .i64 (applyS l r t).1.f0,.string (applyS l r t).1.f1],.int .i64 (applyS l r t).2]) ∧ Below w.heap.size w w' := by
 have hu24 := underlying24
 have hu94 := underlying94
 have hu63 := underlying63
 have hu87 := underlying87
 have HR := aS hr
 have HC := aS hc
 have HR4 := aS hr4
 have HC4 := aS hc4
 have HL4 := aS hl4
 obtain ⟨⟨hk1,hk2⟩,h4⟩ := hok
 clear hr hc hr4 hc4 hl4
 obtain ⟨q,hg⟩ : ∃ q,applyS l r t = q := ⟨_,rfl⟩
 rw [hg]
 rw [applyS] at hg
 unfold v94
 rcases r with ⟨kd,fr,t2,tx,ps⟩
 simp only at *
 rcases (show kd = 1 ∨ kd = 2 ∨ kd = 3 ∨ kd = 4 ∨ kd = 5 by omega) with rfl | rfl | rfl | rfl | rfl
 ·simp only [reduceIte,Int.reduceEq] at hg
  have HG := aS hg
  clear hg h4
  go_enter func43,ntmps43
  go_wp2
  refine bodyPost_ret (results_ct rfl _ _ (w.heap.size + 1 + 1) 63 _ (0,0) _ rfl (alloc3 w _ _ _) hu63 rfl (by kernel_rfl)) rfl ?_
  obtain rfl := HG.out
  exact ⟨rfl,b_l (bA _ _) _⟩
 ·simp only [reduceIte,Int.reduceEq] at hg
  have HG := aS hg
  clear hg h4
  go_enter func43,ntmps43
  go_wp2
  refine bodyPost_ret (results_ct rfl _ _ (w.heap.size + 1 + 1) 63 _ (0,0) _ rfl (alloc3 w _ _ _) hu63 rfl (by kernel_rfl)) rfl ?_
  obtain rfl := HG.out
  exact ⟨rfl,b_l (bA _ _) _⟩
 ·simp only [reduceIte,Int.reduceEq] at hg
  have HG := aS hg
  clear hg h4
  go_enter func43,ntmps43
  go_wp2
  refine bodyPost_ret (results_ct rfl _ _ (w.heap.size + 1 + 1) 63 _ (0,0) _ rfl (alloc3 w _ _ _) hu63 rfl (by kernel_rfl)) rfl ?_
  obtain rfl := HG.out
  exact ⟨rfl,b_l (bA _ _) _⟩
 ·simp only [reduceIte,Int.reduceEq] at hg
  obtain ⟨g1,g2,g3,g4,g5,g6⟩ := h4 rfl
  obtain ⟨y,hF⟩ : ∃ y,findS t2 l = (y,true) := ⟨_,by rw [← g1]⟩
  rw [hF] at hg g2 g3
  simp only at hg g2 g3
  have hp : Aside0 (1 ≤ y.f3 ∧ y.f3 ≤ 999 ∧ 1 ≤ t.size ∧ t.size ≤ 999 ∧ allD t = true) := ⟨⟨g2,g3,g4,g5,g6⟩⟩
  obtain ⟨p1,p2,hP⟩ : ∃ p1 p2,padS t y.f3 = (p1,p2) := ⟨_,_,rfl⟩
  rw [hP] at hg
  have HG := aS hg
  clear hg h4 g1 g2 g3 g4 g5 g6
  cases p2 with
  | false =>
   go_enter func43,ntmps43
   go_wp2_with (first | (go_at_call 36;refine (schema_Find.at st ver A c l _ _ hl (c_B HR.out (Box3.start w _ _ _).below) HC.out).mono ?_;rintro e w3 ⟨rfl,hb1⟩;rw [hF];have D := aS (Box3.init hb1);clear hb1;obtain ⟨a0,a1,a2,a3,a4⟩ := cells_5 D.out.h1;obtain ⟨b0,b1,b2⟩ := cells_3 D.out.h2;obtain ⟨c0,c1⟩ := cells_2 D.out.h3;obtain ⟨f0,f1⟩ := froz_2 D.out.h3;have AA := cells_5a D.out.h1;have BA := cells_3a D.out.h2;have CA := cells_2a D.out.h3;have FA := froz_2a D.out.h3;simp only [v87]) | (go_at_call 99;refine (digits_Pad.at _ _ _ hp.out.2.2.1 hp.out.2.2.2.1 hp.out.2.2.2.2 ⟨hp.out.1,hp.out.2.1⟩).mono ?_;rintro e w4 ⟨rfl,hb1⟩;rw [hP];have D_ := aS (D.out.step (below_a1 hb1));clear a0 a1 a2 a3 a4 b0 b1 b2 c0 c1 f0 f1 AA BA CA FA;clear D hb1;have D := D_;clear D_;obtain ⟨a0,a1,a2,a3,a4⟩ := cells_5 D.out.h1;obtain ⟨b0,b1,b2⟩ := cells_3 D.out.h2;obtain ⟨c0,c1⟩ := cells_2 D.out.h3;obtain ⟨f0,f1⟩ := froz_2 D.out.h3;have AA := cells_5a D.out.h1;have BA := cells_3a D.out.h2;have CA := cells_2a D.out.h3;have FA := froz_2a D.out.h3))
   refine bodyPost_ret (results_ct rfl _ _ (w.heap.size + 1 + 1) 63 _ (0,0) _ rfl (blk_put (blk_put D.out.h3 0 _ rfl) 1 _ rfl) hu63 rfl (by kernel_rfl)) rfl ?_
   obtain rfl := HG.out
   exact ⟨rfl,(D.out.below.setCell (p := ⟨w.heap.size + 1 + 1,0,none⟩) (by show w.heap.size ≤ w.heap.size + 1 + 1;omega) _).setCell (p := ⟨w.heap.size + 1 + 1,1,none⟩) (by show w.heap.size ≤ w.heap.size + 1 + 1;omega) _⟩
  | true =>
   go_enter func43,ntmps43
   go_wp2_with (first | (go_at_call 36;refine (schema_Find.at st ver A c l _ _ hl (c_B HR.out (Box3.start w _ _ _).below) HC.out).mono ?_;rintro e w3 ⟨rfl,hb1⟩;rw [hF];have D := aS (Box3.init hb1);clear hb1;obtain ⟨a0,a1,a2,a3,a4⟩ := cells_5 D.out.h1;obtain ⟨b0,b1,b2⟩ := cells_3 D.out.h2;obtain ⟨c0,c1⟩ := cells_2 D.out.h3;obtain ⟨f0,f1⟩ := froz_2 D.out.h3;have AA := cells_5a D.out.h1;have BA := cells_3a D.out.h2;have CA := cells_2a D.out.h3;have FA := froz_2a D.out.h3;simp only [v87]) | (go_at_call 99;refine (digits_Pad.at _ _ _ hp.out.2.2.1 hp.out.2.2.2.1 hp.out.2.2.2.2 ⟨hp.out.1,hp.out.2.1⟩).mono ?_;rintro e w4 ⟨rfl,hb1⟩;rw [hP];have D_ := aS (D.out.step (below_a1 hb1));clear a0 a1 a2 a3 a4 b0 b1 b2 c0 c1 f0 f1 AA BA CA FA;clear D hb1;have D := D_;clear D_;obtain ⟨a0,a1,a2,a3,a4⟩ := cells_5 D.out.h1;obtain ⟨b0,b1,b2⟩ := cells_3 D.out.h2;obtain ⟨c0,c1⟩ := cells_2 D.out.h3;obtain ⟨f0,f1⟩ := froz_2 D.out.h3;have AA := cells_5a D.out.h1;have BA := cells_3a D.out.h2;have CA := cells_2a D.out.h3;have FA := froz_2a D.out.h3))
   refine bodyPost_ret (results_ct rfl _ _ (w.heap.size + 1 + 1) 63 _ (0,0) _ rfl (blk_put (blk_put D.out.h3 0 _ rfl) 1 _ rfl) hu63 rfl (by kernel_rfl)) rfl ?_
   obtain rfl := HG.out
   exact ⟨rfl,(D.out.below.setCell (p := ⟨w.heap.size + 1 + 1,0,none⟩) (by show w.heap.size ≤ w.heap.size + 1 + 1;omega) _).setCell (p := ⟨w.heap.size + 1 + 1,1,none⟩) (by show w.heap.size ≤ w.heap.size + 1 + 1;omega) _⟩
 ·simp only [reduceIte,Int.reduceEq] at hg
  obtain ⟨p1,p2,hP⟩ : ∃ p1 p2,headS t ps = (p1,p2) := ⟨_,_,rfl⟩
  rw [hP] at hg
  have HG := aS hg
  clear hg h4
  cases p2 with
  | false =>
   go_enter func43,ntmps43
   go_wp2_with (first | (go_at_call 100;refine (codes_Apply.at _ _ ps _ _ HL4.out (c_B HR4.out (Box3.start w _ _ _).below) HC4.out).mono ?_;rintro e w3 ⟨rfl,hb1⟩;rw [hP];have D := aS (Box3.init hb1);clear hb1;obtain ⟨a0,a1,a2,a3,a4⟩ := cells_5 D.out.h1;obtain ⟨b0,b1,b2⟩ := cells_3 D.out.h2;obtain ⟨c0,c1⟩ := cells_2 D.out.h3;obtain ⟨f0,f1⟩ := froz_2 D.out.h3;have AA := cells_5a D.out.h1;have BA := cells_3a D.out.h2;have CA := cells_2a D.out.h3;have FA := froz_2a D.out.h3))
   refine bodyPost_ret (results_ct rfl _ _ (w.heap.size + 1 + 1) 63 _ (0,0) _ rfl (blk_put (blk_put D.out.h3 0 _ rfl) 1 _ rfl) hu63 rfl (by kernel_rfl)) rfl ?_
   obtain rfl := HG.out
   exact ⟨rfl,(D.out.below.setCell (p := ⟨w.heap.size + 1 + 1,0,none⟩) (by show w.heap.size ≤ w.heap.size + 1 + 1;omega) _).setCell (p := ⟨w.heap.size + 1 + 1,1,none⟩) (by show w.heap.size ≤ w.heap.size + 1 + 1;omega) _⟩
  | true =>
   go_enter func43,ntmps43
   go_wp2_with (first | (go_at_call 100;refine (codes_Apply.at _ _ ps _ _ HL4.out (c_B HR4.out (Box3.start w _ _ _).below) HC4.out).mono ?_;rintro e w3 ⟨rfl,hb1⟩;rw [hP];have D := aS (Box3.init hb1);clear hb1;obtain ⟨a0,a1,a2,a3,a4⟩ := cells_5 D.out.h1;obtain ⟨b0,b1,b2⟩ := cells_3 D.out.h2;obtain ⟨c0,c1⟩ := cells_2 D.out.h3;obtain ⟨f0,f1⟩ := froz_2 D.out.h3;have AA := cells_5a D.out.h1;have BA := cells_3a D.out.h2;have CA := cells_2a D.out.h3;have FA := froz_2a D.out.h3))
   refine bodyPost_ret (results_ct rfl _ _ (w.heap.size + 1 + 1) 63 _ (0,0) _ rfl (blk_put (blk_put D.out.h3 0 _ rfl) 1 _ rfl) hu63 rfl (by kernel_rfl)) rfl ?_
   obtain rfl := HG.out
   exact ⟨rfl,(D.out.below.setCell (p := ⟨w.heap.size + 1 + 1,0,none⟩) (by show w.heap.size ≤ w.heap.size + 1 + 1;omega) _).setCell (p := ⟨w.heap.size + 1 + 1,1,none⟩) (by show w.heap.size ≤ w.heap.size + 1 + 1;omega) _⟩
section
section
variable {P : Program} {ops : Array Oper} {Q : Exit → Act → World → Prop}
theorem region_grow {id : Nat} {a0 : Act} {w : World} (hm : P.follows .mixedOrders = true) (k : Nat) (dst : Nat → Tmp) (post : Nat → Value → World → Prop) (R : Nat → Nat → Value → Value → Prop) (hk : k < ops.size)
  (hsym : ∀ i j u v,R i j u v → R j i v u) (hst : ∀ i u w w',post i u w → Below w.heap.size w w' → post i u w')
  (hlow : ∀ i o,i < k → ops[i]? = some o → o.guard = none ∧ o.dst = some (dst i) ∧ ∀ e ∈ o.after,Region.binds .any e = true → e.on < i)
  (hgrow : ∀ i o,i < k → ops[i]? = some o → ∀ (a : Act) (w1 : World),Below w.heap.size w w1 → Fr k dst a0 a → (∀ e ∈ o.after,Region.binds .any e = true → post e.on (a.eval (.tmp (dst e.on))) w1) → ∀ K' : Act → World → Prop,(∀ u w',Below w1.heap.size w1 w' → post i u w' → (∀ j v,j < k → j ≠ i → post j v w1 → R i j u v) → K' (a.put (some (dst i)) u) w') → o.wp P a w1 K' Q)
  (hinj : ∀ i j,i < k → j < k → dst i = dst j → i = j) (hsz : ∀ i,i < k → dst i < a0.tmps.size)
  (hlate : ∀ listed : Array Bool,(∀ i o,i < k → ops[i]? = some o → listed.getD i false = true → ∀ e ∈ o.after,Region.binds .any e = true → listed.getD e.on false = true) → ∀ i,k ≤ i → i ∈ Region.ready .any ops listed → (∀ j,k ≤ j → listed.getD j false = false) → ∀ j,j < k → listed.getD j false = true)
  (htail : ∀ a w' fuel,ops.size - k ≤ fuel → Below w.heap.size w w' → putL a0 ((List.range k).map fun i => (dst i,a.eval (.tmp (dst i)))) = a → (∀ i,i < k → post i (a.eval (.tmp (dst i))) w') → (∀ i j,i < k → j < k → j ≠ i → R i j (a.eval (.tmp (dst i))) (a.eval (.tmp (dst j)))) → wpAny P .any ops Q fuel (Array.replicate k true ++ Array.replicate (ops.size - k) false) a w') :
  (Code.region id ops true).wp P Q a0 w := by
 refine wp_region_any hm ?_
 refine wpAny_grow k dst post R a0 w hk hsym hst hlow hgrow hinj hsz hlate ?_ ops.size _ a0 _ (by simp) (fun j _ => ?_) (fun i o _ _ h => ?_) (by simp) ⟨rfl,rfl,fun _ _ => rfl⟩ ⟨rfl,rfl,rfl,Nat.le_refl _,fun _ _ => rfl⟩ (fun i _ h => ?_) (fun i j _ _ _ h => ?_)
 ·intro listed a w' fuel hs hl hall hn hf hb hp hr
  have e : listed = Array.replicate k true ++ Array.replicate (ops.size - k) false := by
   refine Array.ext (by simp [hs];omega) (fun i h1 h2 => ?_)
   by_cases c : i < k
   ·have := hall i c
    rw [Array.getElem_append_left (by simpa using c)]
    simpa [h1] using this
   ·have := hl i (by omega)
    rw [Array.getElem_append_right (by simp;omega)]
    simpa [h1] using this
  subst e
  refine htail a w' fuel ?_ hb (Fr.eq hf) hp hr
  refine Nat.le_trans ?_ hn
  simp
 ·simp only [Array.getD_eq_getD_getElem?,Array.getElem?_replicate];split <;> rfl
 all_goals
  exfalso
  have h' := h
  simp only [Array.getD_eq_getD_getElem?,Array.getElem?_replicate] at h'
  split at h' <;> exact absurd h' (by decide)
end
section
variable {P : Program} {ops : Array Oper} {Q : Exit → Act → World → Prop}
theorem region_vals {id : Nat} {a0 : Act} {w : World} (hm : P.follows .mixedOrders = true) (k : Nat) (dst : Nat → Tmp) (vals : Nat → Value) (hk : k < ops.size)
  (hlow : ∀ i o,i < k → ops[i]? = some o → o.guard = none ∧ o.dst = some (dst i) ∧ ∀ e ∈ o.after,Region.binds .any e = true → e.on < i)
  (hgrow : ∀ i o,i < k → ops[i]? = some o → ∀ (a : Act) (w1 : World),Below w.heap.size w w1 → Fr k dst a0 a → (∀ e ∈ o.after,Region.binds .any e = true → a.eval (.tmp (dst e.on)) = vals e.on) → ∀ K' : Act → World → Prop,(∀ w',Below w1.heap.size w1 w' → K' (a.put (some (dst i)) (vals i)) w') → o.wp P a w1 K' Q)
  (hinj : ∀ i j,i < k → j < k → dst i = dst j → i = j) (hsz : ∀ i,i < k → dst i < a0.tmps.size)
  (hlate : ∀ listed : Array Bool,(∀ i o,i < k → ops[i]? = some o → listed.getD i false = true → ∀ e ∈ o.after,Region.binds .any e = true → listed.getD e.on false = true) → ∀ i,k ≤ i → i ∈ Region.ready .any ops listed → (∀ j,k ≤ j → listed.getD j false = false) → ∀ j,j < k → listed.getD j false = true)
  (htail : ∀ w' fuel,ops.size - k ≤ fuel → Below w.heap.size w w' → wpAny P .any ops Q fuel (Array.replicate k true ++ Array.replicate (ops.size - k) false) (putL a0 ((List.range k).map fun i => (dst i,vals i))) w') :
  (Code.region id ops true).wp P Q a0 w := by
 refine region_grow hm k dst (fun i v _ => v = vals i) (fun _ _ _ _ => True) hk (fun _ _ _ _ _ => trivial) (fun _ _ _ _ h _ => h) hlow ?_ hinj hsz hlate ?_
 ·intro i o hi ho a w1 hb hf hp K' hK
  exact hgrow i o hi ho a w1 hb hf hp K' (fun w' hb' => hK _ w' hb' rfl (fun _ _ _ _ _ => trivial))
 ·intro a w' fuel hfl hb he hp _
  rw [← he]
  have e : ((List.range k).map fun i => (dst i,a.eval (.tmp (dst i)))) = ((List.range k).map fun i => (dst i,vals i)) :=
   List.map_congr_left (fun i hi => by rw [hp i (List.mem_range.1 hi)])
  rw [e]
  exact htail w' fuel hfl hb
end
theorem mem_ready' {md : Region.Mode} {ops : Array Oper} {listed : Array Bool} {i : Nat} (h : i ∈ Region.ready md ops listed) {o : Oper} (ho : ops[i]? = some o) : ∀ e ∈ o.after,Region.binds md e = true → listed.getD e.on false = true := by
 obtain ⟨_,o',ho',h'⟩ := mem_ready.1 h
 rw [ho] at ho';cases ho';exact h'
theorem two_boxes {W : World} {B0 B1 B2 : Nat} {t : TypeId} {a b c d : Value} (h1 : W.heap[B1]? = some (.cells #[a,b] t (0,0))) (h2 : W.heap[B2]? = some (.cells #[c,d] t (0,0))) (hne : B1 ≠ B2) (g1 : B0 ≤ B1) (g2 : B0 ≤ B2) (u0 u1 v0 v1 : Value) :
  ((((W.setCell ⟨B1,0,none⟩ u0).setCell ⟨B1,1,none⟩ u1).setCell ⟨B2,0,none⟩ v0).setCell ⟨B2,1,none⟩ v1).heap[B1]? = some (.cells #[u0,u1] t (0,0)) ∧ ((((W.setCell ⟨B1,0,none⟩ u0).setCell ⟨B1,1,none⟩ u1).setCell ⟨B2,0,none⟩ v0).setCell ⟨B2,1,none⟩ v1).heap[B2]? = some (.cells #[v0,v1] t (0,0)) ∧
  Below B0 W ((((W.setCell ⟨B1,0,none⟩ u0).setCell ⟨B1,1,none⟩ u1).setCell ⟨B2,0,none⟩ v0).setCell ⟨B2,1,none⟩ v1) :=
 ⟨T.far _ _ (T.far _ _ (blk_put (blk_put h1 0 _ rfl) 1 _ rfl) hne) hne,blk_put (blk_put (T.far _ _ (T.far _ _ h2 hne.symm) hne.symm) 0 _ rfl) 1 _ rfl,
 ((((Below.refl _ _).setCell (p := ⟨B1,0,none⟩) g1 _).setCell (p := ⟨B1,1,none⟩) g1 _).setCell (p := ⟨B2,0,none⟩) g2 _).setCell (p := ⟨B2,1,none⟩) g2 _⟩
end
end Go.Proofs.YtgbmnpgaddhfpaaGreatDoor.T
