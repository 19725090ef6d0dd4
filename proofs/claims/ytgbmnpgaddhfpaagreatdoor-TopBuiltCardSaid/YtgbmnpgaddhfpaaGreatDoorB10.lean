/- Walks and plain laws beneath the law TopBuilt. No conditions but what each statement names. -/
import Derived.Stop.BytesEq
import Derived.Test.YtgbmnpgaddhfpaaGreatDoorB9
set_option linter.unusedVariables false
set_option linter.unusedSimpArgs false
namespace Go.Proofs.YtgbmnpgaddhfpaaGreatDoor.T
open Go.RowKit Go.Proofs.YtgbmnpgaddhfpaaGreatDoorW.PrintWords Go.Proofs.YtgbmnpgaddhfpaaGreatDoorW.PrintLast Go.Proofs.YtgbmnpgaddhfpaaGreatDoorW.PrintMore
attribute [local go_sem] max2_int min2_int max_two min_two
open Go.Proofs.YtgbmnpgaddhfpaaGreatDoor.G
open Tryz
set_option maxRecDepth 100000
def preSz (st f : Int) : Int := if st = 2 then bcdSize (width f) else width f
def prefG (st f : Int) (b : ByteArray) (i : Int) : Int × Int × Int :=
 if (b.size : Int) - i < preSz st f then (0,0,2) else
 if st = 2 then
  if (bcdG (b.extract i.toNat (i + preSz st f).toNat) (width f)).2 ≠ 0 then (0,0,3) else
  if (digG (bcdG (b.extract i.toNat (i + preSz st f).toNat) (width f)).1).2 = false then (0,0,3) else ((digG (bcdG (b.extract i.toNat (i + preSz st f).toNat) (width f)).1).1,i + preSz st f,0)
 else if (digG (b.extract i.toNat (i + preSz st f).toNat)).2 = false then (0,0,3) else ((digG (b.extract i.toNat (i + preSz st f).toNat)).1,i + preSz st f,0)
set_option maxHeartbeats 1000000 in
theorem prefix_Get.at (st f : Int) (b : ByteArray) (i : Int) (w : World) (hst : st = 1 ∨ st = 2) (hf : f = 2 ∨ f = 3) (h0 : 0 ≤ i) (h1 : i ≤ b.size) (hb : b.size ≤ 1000000) :
  Calls prog 87 #[.int .i64 st,.int .i64 f,.string b,.int .i64 i] w fun e w' => e = .returned (.tuple #[.int .i64 (prefG st f b i).1,.int .i64 (prefG st f b i).2.1,.int .i64 (prefG st f b i).2.2]) ∧ Below w.heap.size w w' := by
 have hk : (known st && decide (0 < width f)) = true := by rcases hst with rfl | rfl <;> rcases hf with rfl | rfl <;> decide
 have hw : width f = 2 ∨ width f = 3 := by rcases hf with rfl | rfl <;> decide
 have a0 : decide (i < 0) = false := d_F (by omega)
 have a1 : decide ((b.size : Int) < i) = false := d_F (by omega)
 have hz : bcdSize (width f) ≤ 2 ∧ 0 ≤ bcdSize (width f) := by rcases hf with rfl | rfl <;> decide
 have HZ : Aside0 (0 ≤ preSz st f ∧ preSz st f ≤ 3) := ⟨by unfold preSz;split <;> omega⟩
 obtain ⟨r,hg⟩ : ∃ r,prefG st f b i = r := ⟨_,rfl⟩
 rw [hg]
 rw [prefG] at hg
 have p0 : (0 ≤ i) = True := eq_true h0
 rcases hst with rfl | rfl
 ·have hz1 : preSz 1 f = width f := if_neg (by decide)
  rw [if_neg (show ¬ ((1 : Int) = 2) by decide)] at hg
  rw [hz1] at hg HZ
  by_cases c : (b.size : Int) - i < width f
  ·rw [if_pos c] at hg
   have HG := aS hg
   have c0 : decide ((b.size : Int) - i < width f) = true := d_T c
   clear hg c hz1
   go_enter func87,ntmps87
   go_wp2_with (first | (go_at_call 136;refine (prefix_known.at _ _ _).mono ?_;rintro e w1 ⟨rfl,rfl⟩;rw [hk]) | (go_at_call 137;refine (prefix_width.at _ _).mono ?_;rintro e w1 ⟨rfl,rfl⟩))
   go_ret3
   obtain rfl := HG.out
   exact ⟨rfl,Below.refl _ _⟩
  ·rw [if_neg c] at hg
   have HG := aS hg
   have c0 : decide ((b.size : Int) - i < width f) = false := d_F c
   have p1 : (i ≤ i + width f) = True := eq_true (by omega)
   have p2 : (i + width f ≤ (b.size : Int)) = True := eq_true (by omega)
   clear hg c hz1
   generalize hu : digG (b.extract i.toNat (i + width f).toNat) = u at *
   rcases u with ⟨u1,u2⟩
   go_enter func87,ntmps87
   go_wp2_with (first | (go_at_call 136;refine (prefix_known.at _ _ _).mono ?_;rintro e w1 ⟨rfl,rfl⟩;rw [hk]) | (go_at_call 137;refine (prefix_width.at _ _).mono ?_;rintro e w1 ⟨rfl,rfl⟩) | (go_at_call 138;refine (digits_Get.at _ _).mono ?_;rintro e w2 ⟨rfl,hb2⟩;rw [hu]))
   all_goals go_ret3
   all_goals obtain rfl := HG.out
   all_goals cases u2 <;> first | exact ⟨rfl,hb2⟩ | simp_all
 ·have hz1 : preSz 2 f = bcdSize (width f) := if_pos rfl
  rw [if_pos (show (2 : Int) = 2 by decide)] at hg
  rw [hz1] at hg HZ
  by_cases c : (b.size : Int) - i < bcdSize (width f)
  ·rw [if_pos c] at hg
   have HG := aS hg
   have c0 : decide ((b.size : Int) - i < bcdSize (width f)) = true := d_T c
   clear hg c hz1
   go_enter func87,ntmps87
   go_wp2_with (first | (go_at_call 136;refine (prefix_known.at _ _ _).mono ?_;rintro e w1 ⟨rfl,rfl⟩;rw [hk]) | (go_at_call 137;refine (prefix_width.at _ _).mono ?_;rintro e w1 ⟨rfl,rfl⟩) | (go_at_call 78;refine (bcd_Size.at _ _ (by omega)).mono ?_;rintro e w1 ⟨rfl,rfl⟩))
   go_ret3
   obtain rfl := HG.out
   exact ⟨rfl,Below.refl _ _⟩
  ·rw [if_neg c] at hg
   have c0 : decide ((b.size : Int) - i < bcdSize (width f)) = false := d_F c
   have p1 : (i ≤ i + bcdSize (width f)) = True := eq_true (by omega)
   have p2 : (i + bcdSize (width f) ≤ (b.size : Int)) = True := eq_true (by omega)
   have hz9 : (b.extract i.toNat (i + bcdSize (width f)).toNat).size ≤ 1000000 := by rw [ByteArray.size_extract];omega
   clear c hz1
   obtain ⟨v1,v2,hv⟩ : ∃ v1 v2,bcdG (b.extract i.toNat (i + bcdSize (width f)).toNat) (width f) = (v1,v2) := ⟨_,_,rfl⟩
   obtain ⟨u1,u2,hu⟩ : ∃ u1 u2,digG v1 = (u1,u2) := ⟨_,_,rfl⟩
   rw [hv,hu] at hg
   have HG := aS hg
   clear hg
   go_enter func87,ntmps87
   go_wp2_with (first | (go_at_call 136;refine (prefix_known.at _ _ _).mono ?_;rintro e w1 ⟨rfl,rfl⟩;rw [hk]) | (go_at_call 137;refine (prefix_width.at _ _).mono ?_;rintro e w1 ⟨rfl,rfl⟩) | (go_at_call 78;refine (bcd_Size.at _ _ (by omega)).mono ?_;rintro e w1 ⟨rfl,rfl⟩) | (go_at_call 79;refine (bcd_Get.at _ _ _ (by omega) hz9).mono ?_;rintro e w2 ⟨⟨pq,rfl⟩,hb2⟩;rw [hv]) | (go_at_call 138;refine (digits_Get.at _ _).mono ?_;rintro e w3 ⟨rfl,hb3⟩;rw [hu]))
   all_goals go_ret3
   all_goals obtain rfl := HG.out
   all_goals refine ⟨?_,by first | exact b_s hb2 hb3 | exact hb2⟩
   all_goals (repeat' split) <;> first | rfl | simp_all
theorem width_cases {f : Int} (hf : f = 2 ∨ f = 3) : (width f = 2 ∧ bcdSize (width f) = 1) ∨ (width f = 3 ∧ bcdSize (width f) = 2) := by rcases hf with rfl | rfl <;> decide
theorem prefG_ok {st f : Int} {b : ByteArray} {i : Int} (hst : st = 1 ∨ st = 2) (hf : f = 2 ∨ f = 3) (h0 : 0 ≤ i) (h1 : i ≤ b.size) (h : (prefG st f b i).2.2 = 0) : i < (prefG st f b i).2.1 ∧ (prefG st f b i).2.1 ≤ b.size := by
 have hz : 1 ≤ preSz st f := by
  unfold preSz
  rcases width_cases hf with ⟨a,c⟩ | ⟨a,c⟩ <;> (rw [a] at *;split <;> omega)
 unfold prefG at h ⊢
 (repeat' split at h) <;> first | (exact absurd h (by decide)) | skip
 ·rename_i a c d e
  rw [if_neg a,if_pos c,if_neg d,if_neg e]
  exact ⟨by show i < i + _;omega,by show i + _ ≤ _;omega⟩
 ·rename_i a c d
  rw [if_neg a,if_neg c,if_neg d]
  exact ⟨by show i < i + _;omega,by show i + _ ≤ _;omega⟩
def preP (st f n : Int) : ByteArray × Int := if (digP n (width f)).2 = false then (⟨#[]⟩,5) else if st = 2 then ((bcdP (digP n (width f)).1).1,0) else ((digP n (width f)).1,0)
set_option maxHeartbeats 1000000 in
theorem prefix_Put.at (st f n : Int) (w : World) (hst : st = 1 ∨ st = 2) (hf : f = 2 ∨ f = 3) (hn : n ≤ 4611686018427387904) :
  Calls prog 108 #[.int .i64 st,.int .i64 f,.int .i64 n] w fun e w' => e = .returned (.tuple #[.string (preP st f n).1,.int .i64 (preP st f n).2]) ∧ Below w.heap.size w w' := by
 have hk : (known st && decide (0 < width f)) = true := by rcases hst with rfl | rfl <;> rcases hf with rfl | rfl <;> decide
 obtain ⟨r,hg⟩ : ∃ r,preP st f n = r := ⟨_,rfl⟩
 rw [hg]
 rw [preP] at hg
 obtain ⟨u1,u2,hu⟩ : ∃ u1 u2,digP n (width f) = (u1,u2) := ⟨_,_,rfl⟩
 obtain ⟨v1,v2,hv⟩ : ∃ v1 v2,bcdP u1 = (v1,v2) := ⟨_,_,rfl⟩
 rw [hu,hv] at hg
 have HG := aS hg
 clear hg
 rcases hst with rfl | rfl
 all_goals go_enter func108,ntmps108
 all_goals go_wp2_with (first | (go_at_call 136;refine (prefix_known.at _ _ _).mono ?_;rintro e w1 ⟨rfl,rfl⟩;rw [hk]) | (go_at_call 137;refine (prefix_width.at _ _).mono ?_;rintro e w1 ⟨rfl,rfl⟩) | (go_at_call 150;refine (digits_Put.at _ _ _ hn).mono ?_;rintro e w2 ⟨rfl,hb2⟩;rw [hu]) | (go_at_call 102;refine (bcd_Put.at _ _).mono ?_;rintro e w3 ⟨rfl,hb3⟩;rw [hv]))
 all_goals go_ret2
 all_goals obtain rfl := HG.out
 all_goals refine ⟨?_,by first | exact b_s hb2 hb3 | exact hb2⟩
 all_goals (repeat' split) <;> first | rfl | simp_all
def takeG (st : Int) (b : ByteArray) (i : Int) : ByteArray × Int × Int :=
 if st = 1 then
  if (b.size : Int) - i < 16 then (⟨#[]⟩,0,2) else
  if (hexG (b.extract i.toNat (i + 16).toNat)).2 = false then (⟨#[]⟩,0,3) else ((hexG (b.extract i.toNat (i + 16).toNat)).1,i + 16,0)
 else if (b.size : Int) - i < 8 then (⟨#[]⟩,0,2) else (b.extract i.toNat (i + 8).toNat,i + 8,0)
set_option maxHeartbeats 2000000 in
theorem bitmap_take.at (st : Int) (b : ByteArray) (i : Int) (w : World) (hst : st = 1 ∨ st = 2) (h0 : 0 ≤ i) (h1 : i ≤ b.size) (hb : b.size ≤ 100000) :
  Calls prog 82 #[.int .i64 st,.string b,.int .i64 i] w fun e w' => e = .returned (.tuple #[.agg (cells8 (takeG st b i).1),.int .i64 (takeG st b i).2.1,.int .i64 (takeG st b i).2.2]) ∧ Below w.heap.size w w' := by
 have hu154 := underlying154
 obtain ⟨r,hg⟩ : ∃ r,takeG st b i = r := ⟨_,rfl⟩
 rw [hg]
 rw [takeG] at hg
 have p0 : (0 ≤ i) = True := eq_true h0
 have HE : Aside0 ((#[.int .u8 0,.int .u8 0,.int .u8 0,.int .u8 0,.int .u8 0,.int .u8 0,.int .u8 0,.int .u8 0] : Array Value) = cells8 ⟨#[]⟩) := ⟨zero8⟩
 rcases hst with rfl | rfl
 ·rw [if_pos rfl] at hg
  by_cases c : (b.size : Int) - i < 16
  ·have c0 : decide ((b.size : Int) - i < 16) = true := d_T c
   rw [if_pos c] at hg
   have HG := aS hg
   clear hg c
   go_enter func82,ntmps82
   go_wp2
   refine bodyPost_ret (results_ctt rfl _ _ w.heap.size 154 _ (0,0) _ rfl (blk_alloc (blk_new _ _) _) hu154 rfl (by kernel_rfl)) rfl ?_
   obtain rfl := HG.out
   exact ⟨by rw [HE.out];rfl,b_l (bO _) _⟩
  ·have c0 : decide ((b.size : Int) - i < 16) = false := d_F c
   have p1 : (i ≤ i + 16) = True := eq_true (by omega)
   have p2 : (i + 16 ≤ (b.size : Int)) = True := eq_true (by omega)
   rw [if_neg c] at hg
   have hz : (b.extract i.toNat (i + 16).toNat).size = 16 := by rw [ByteArray.size_extract];omega
   have HZ : Aside0 ((b.extract i.toNat (i + 16).toNat).size ≤ 1000000) := ⟨by omega⟩
   have hzt := @hexG_sz (b.extract i.toNat (i + 16).toNat)
   obtain ⟨v1,v2,hv⟩ : ∃ v1 v2,hexG (b.extract i.toNat (i + 16).toNat) = (v1,v2) := ⟨_,_,rfl⟩
   rw [hv] at hg hzt
   rw [hz] at hzt
   clear hz c
   cases v2 with
   | false =>
    have HG := aS hg
    clear hg hzt
    go_enter func82,ntmps82
    go_wp2_with (first | (go_at_call 89;refine (hexa_Get.at _ _ HZ.out).mono ?_;rintro e w1 ⟨⟨pq,rfl⟩,hb1⟩;rw [hv];have B1 := aS (blk_nb1 hb1);have B2 := aS (blk_nb2 hb1);have H := aS (below_a2 hb1);clear hb1;obtain ⟨k0,k1,k2,k3,k4,k5,k6,k7⟩ := cells_8 B2.out;obtain ⟨l0,l1,l2,l3,l4,l5,l6,l7⟩ := cells_8 B1.out;obtain ⟨f0,f1,f2,f3,f4,f5,f6,f7⟩ := frozen_8 B1.out))
    refine bodyPost_ret (results_ctt rfl _ _ w.heap.size 154 _ (0,0) _ rfl (put8 B1.out) hu154 rfl (by kernel_rfl)) rfl ?_
    obtain rfl := HG.out
    exact ⟨by rw [HE.out];rfl,below8 H.out (Nat.le_refl _)⟩
   | true =>
    have hzt := hzt rfl
    have HG := aS hg
    clear hg
    go_enter func82,ntmps82
    go_wp2_with (first | (go_at_call 89;refine (hexa_Get.at _ _ HZ.out).mono ?_;rintro e w1 ⟨⟨pq,rfl⟩,hb1⟩;rw [hv];have B1 := aS (blk_nb1 hb1);have B2 := aS (blk_nb2 hb1);have H := aS (below_a2 hb1);clear hb1;obtain ⟨l0,l1,l2,l3,l4,l5,l6,l7⟩ := cells_8 B1.out;obtain ⟨f0,f1,f2,f3,f4,f5,f6,f7⟩ := frozen_8 B1.out) | ((with_reducible refine gate_builtin (b := .copy) (xs := #[.tmp 44,.tmp 45]) rfl ?_);refine wp_copy8 rfl (.tmp 44) (.tmp 45) rfl (w.heap.size + 1) rfl v1 rfl (by omega) _ rfl B2.out H.out (Nat.le_succ _) ?_;intro w2 g2 hk hb2;have B1_ := aS ((hk w.heap.size (by omega)).trans B1.out);have B2_ := aS g2;clear B1 B2 H hk g2 l0 l1 l2 l3 l4 l5 l6 l7 f0 f1 f2 f3 f4 f5 f6 f7;have B1 := B1_;have B2 := B2_;have H := aS hb2;clear B1_ B2_ hb2;obtain ⟨k0,k1,k2,k3,k4,k5,k6,k7⟩ := cells_8 B2.out;obtain ⟨l0,l1,l2,l3,l4,l5,l6,l7⟩ := cells_8 B1.out;obtain ⟨f0,f1,f2,f3,f4,f5,f6,f7⟩ := frozen_8 B1.out))
    refine bodyPost_ret (results_ctt rfl _ _ w.heap.size 154 _ (0,0) _ rfl (put8 B1.out) hu154 rfl (by kernel_rfl)) rfl ?_
    obtain rfl := HG.out
    exact ⟨rfl,below8 H.out (Nat.le_refl _)⟩
 ·rw [if_neg (by decide)] at hg
  by_cases c : (b.size : Int) - i < 8
  ·have c0 : decide ((b.size : Int) - i < 8) = true := d_T c
   rw [if_pos c] at hg
   have HG := aS hg
   clear hg c
   go_enter func82,ntmps82
   go_wp2
   refine bodyPost_ret (results_ctt rfl _ _ w.heap.size 154 _ (0,0) _ rfl (blk_alloc (blk_new _ _) _) hu154 rfl (by kernel_rfl)) rfl ?_
   obtain rfl := HG.out
   exact ⟨by rw [HE.out];rfl,b_l (bO _) _⟩
  ·have c0 : decide ((b.size : Int) - i < 8) = false := d_F c
   have p1 : (i ≤ i + 8) = True := eq_true (by omega)
   have p2 : (i + 8 ≤ (b.size : Int)) = True := eq_true (by omega)
   rw [if_neg c] at hg
   have HZ : Aside0 ((b.extract i.toNat (i + 8).toNat).size = 8) := ⟨by rw [ByteArray.size_extract];omega⟩
   have HG := aS hg
   clear hg c
   go_enter func82,ntmps82
   go_wp2_with (first | ((with_reducible refine gate_builtin (b := .copy) (xs := #[.tmp 44,.tmp 45]) rfl ?_);refine wp_copy8 rfl (.tmp 44) (.tmp 45) rfl (w.heap.size + 1) rfl (b.extract i.toNat (i + 8).toNat) rfl HZ.out _ rfl (alloc2 w _ _) (bA _ _) (Nat.le_succ _) ?_;intro w2 g2 hk hb2;have B1 := aS ((hk w.heap.size (by omega)).trans (blk_alloc (blk_new w _) _));have B2 := aS g2;clear hk g2;have H := aS hb2;clear hb2;obtain ⟨k0,k1,k2,k3,k4,k5,k6,k7⟩ := cells_8 B2.out;obtain ⟨l0,l1,l2,l3,l4,l5,l6,l7⟩ := cells_8 B1.out;obtain ⟨f0,f1,f2,f3,f4,f5,f6,f7⟩ := frozen_8 B1.out))
   refine bodyPost_ret (results_ctt rfl _ _ w.heap.size 154 _ (0,0) _ rfl (put8 B1.out) hu154 rfl (by kernel_rfl)) rfl ?_
   obtain rfl := HG.out
   exact ⟨rfl,below8 H.out (Nat.le_refl _)⟩
def bytV (x : Int) (j : Nat) : Int := (x / 2 ^ (8 * (7 - j))) % 256
def byA (x : Int) (i : Nat) : Array Value := #[.int .u8 (if 0 < i then bytV x 0 else 0),.int .u8 (if 1 < i then bytV x 1 else 0),.int .u8 (if 2 < i then bytV x 2 else 0),.int .u8 (if 3 < i then bytV x 3 else 0),.int .u8 (if 4 < i then bytV x 4 else 0),.int .u8 (if 5 < i then bytV x 5 else 0),.int .u8 (if 6 < i then bytV x 6 else 0),.int .u8 (if 7 < i then bytV x 7 else 0)]
def b8 (x : Int) : ByteArray := strOfNums [bytV x 0,bytV x 1,bytV x 2,bytV x 3,bytV x 4,bytV x 5,bytV x 6,bytV x 7]
theorem byA_8 (x : Int) : byA x 8 = cells8 (b8 x) := by
 have hr : ∀ j,0 ≤ bytV x j ∧ bytV x j < 256 := fun j => by unfold bytV;omega
 have hb : ∀ i : Nat,bt (b8 x) (i : Int) = [bytV x 0,bytV x 1,bytV x 2,bytV x 3,bytV x 4,bytV x 5,bytV x 6,bytV x 7].getD i 0 := fun i => bt_of _ i (by
  intro y hy
  simp only [List.mem_cons,List.not_mem_nil,or_false] at hy
  rcases hy with rfl | rfl | rfl | rfl | rfl | rfl | rfl | rfl <;> exact hr _)
 unfold cells8
 have h0 := hb 0
 have h1 := hb 1
 have h2 := hb 2
 have h3 := hb 3
 have h4 := hb 4
 have h5 := hb 5
 have h6 := hb 6
 have h7 := hb 7
 show _ = #[Value.int .u8 (bt (b8 x) ((0 : Nat) : Int)),Value.int .u8 (bt (b8 x) ((1 : Nat) : Int)),Value.int .u8 (bt (b8 x) ((2 : Nat) : Int)),Value.int .u8 (bt (b8 x) ((3 : Nat) : Int)),Value.int .u8 (bt (b8 x) ((4 : Nat) : Int)),Value.int .u8 (bt (b8 x) ((5 : Nat) : Int)),Value.int .u8 (bt (b8 x) ((6 : Nat) : Int)),Value.int .u8 (bt (b8 x) ((7 : Nat) : Int))]
 rw [h0,h1,h2,h3,h4,h5,h6,h7]
 rfl
set_option maxHeartbeats 2000000 in
theorem bitmap_bytes.at (x : Int) (w : World) (h0 : 0 ≤ x) (h1 : x < 18446744073709551616) : Calls prog 105 #[.int .u64 x] w fun e w' => e = .returned (.agg (cells8 (b8 x))) ∧ Below w.heap.size w w' := by
 have hu154 := underlying154
 rw [← byA_8]
 go_enter func105,ntmps105
 go_wp2
 have G0 : Aside0 (((w.alloc (.cells #[.int .u8 0,.int .u8 0,.int .u8 0,.int .u8 0,.int .u8 0,.int .u8 0,.int .u8 0,.int .u8 0] 154)).alloc (.cells #[.int .u8 0,.int .u8 0,.int .u8 0,.int .u8 0,.int .u8 0,.int .u8 0,.int .u8 0,.int .u8 0] 154)).heap[w.heap.size + 1]? = some (.cells (byA x 0) 154 (0,0))) := ⟨alloc2 w _ _⟩
 have G1 : Aside0 (((w.alloc (.cells #[.int .u8 0,.int .u8 0,.int .u8 0,.int .u8 0,.int .u8 0,.int .u8 0,.int .u8 0,.int .u8 0] 154)).alloc (.cells #[.int .u8 0,.int .u8 0,.int .u8 0,.int .u8 0,.int .u8 0,.int .u8 0,.int .u8 0,.int .u8 0] 154)).heap[w.heap.size]? = some (.cells #[.int .u8 0,.int .u8 0,.int .u8 0,.int .u8 0,.int .u8 0,.int .u8 0,.int .u8 0,.int .u8 0] 154 (0,0))) := ⟨blk_alloc (blk_new w _) _⟩
 go_loopg [5] 8 (fun g v5 w' => ∃ i : Nat,v5 = .int .i64 i ∧ i + g = 8 ∧ Aside0 (w'.heap[w.heap.size + 1]? = some (.cells (byA x i) 154 (0,0))) ∧ Aside0 (w'.heap[w.heap.size]? = some (.cells #[.int .u8 0,.int .u8 0,.int .u8 0,.int .u8 0,.int .u8 0,.int .u8 0,.int .u8 0,.int .u8 0] 154 (0,0))) ∧ Aside0 (Below w.heap.size w w'))
 case atStart => exact ⟨0,rfl,rfl,G0,G1,⟨b_l (bO _) _⟩⟩
 case round =>
  clear G0 G1
  obtain ⟨i,rfl,hi,B2,B1,H⟩ := hrel
  by_cases h : i < 8
  ·obtain ⟨g,rfl⟩ : ∃ g,gk = g + 1 := ⟨gk - 1,by omega⟩
   rcases (show i = 0 ∨ i = 1 ∨ i = 2 ∨ i = 3 ∨ i = 4 ∨ i = 5 ∨ i = 6 ∨ i = 7 by omega) with rfl | rfl | rfl | rfl | rfl | rfl | rfl | rfl
   ·obtain ⟨k0,k1,k2,k3,k4,k5,k6,k7⟩ := cells_8 B2.out
    obtain ⟨f0,f1,f2,f3,f4,f5,f6,f7⟩ := frozen_8 B2.out
    have e : Aside0 (x / 72057594037927936 = bytV x 0) := ⟨by unfold bytV;omega⟩
    go_wp2
    go_roundg g
    case measure => omega
    case rel => exact ⟨0 + 1,rfl,by omega,⟨blk_put B2.out 0 _ (by rw [e.out];rfl)⟩,⟨(Below.heap_setCell _ _ _ _ (by show w.heap.size ≠ w.heap.size + 1;omega)).trans B1.out⟩,⟨H.out.setCell (p := ⟨w.heap.size + 1,0,none⟩) (Nat.le_succ _) _⟩⟩
   ·obtain ⟨k0,k1,k2,k3,k4,k5,k6,k7⟩ := cells_8 B2.out
    obtain ⟨f0,f1,f2,f3,f4,f5,f6,f7⟩ := frozen_8 B2.out
    have e : Aside0 (x / 281474976710656 % 256 = bytV x 1) := ⟨by unfold bytV;omega⟩
    go_wp2
    go_roundg g
    case measure => omega
    case rel => exact ⟨1 + 1,rfl,by omega,⟨blk_put B2.out 1 _ (by rw [e.out];rfl)⟩,⟨(Below.heap_setCell _ _ _ _ (by show w.heap.size ≠ w.heap.size + 1;omega)).trans B1.out⟩,⟨H.out.setCell (p := ⟨w.heap.size + 1,1,none⟩) (Nat.le_succ _) _⟩⟩
   ·obtain ⟨k0,k1,k2,k3,k4,k5,k6,k7⟩ := cells_8 B2.out
    obtain ⟨f0,f1,f2,f3,f4,f5,f6,f7⟩ := frozen_8 B2.out
    have e : Aside0 (x / 1099511627776 % 256 = bytV x 2) := ⟨by unfold bytV;omega⟩
    go_wp2
    go_roundg g
    case measure => omega
    case rel => exact ⟨2 + 1,rfl,by omega,⟨blk_put B2.out 2 _ (by rw [e.out];rfl)⟩,⟨(Below.heap_setCell _ _ _ _ (by show w.heap.size ≠ w.heap.size + 1;omega)).trans B1.out⟩,⟨H.out.setCell (p := ⟨w.heap.size + 1,2,none⟩) (Nat.le_succ _) _⟩⟩
   ·obtain ⟨k0,k1,k2,k3,k4,k5,k6,k7⟩ := cells_8 B2.out
    obtain ⟨f0,f1,f2,f3,f4,f5,f6,f7⟩ := frozen_8 B2.out
    have e : Aside0 (x / 4294967296 % 256 = bytV x 3) := ⟨by unfold bytV;omega⟩
    go_wp2
    go_roundg g
    case measure => omega
    case rel => exact ⟨3 + 1,rfl,by omega,⟨blk_put B2.out 3 _ (by rw [e.out];rfl)⟩,⟨(Below.heap_setCell _ _ _ _ (by show w.heap.size ≠ w.heap.size + 1;omega)).trans B1.out⟩,⟨H.out.setCell (p := ⟨w.heap.size + 1,3,none⟩) (Nat.le_succ _) _⟩⟩
   ·obtain ⟨k0,k1,k2,k3,k4,k5,k6,k7⟩ := cells_8 B2.out
    obtain ⟨f0,f1,f2,f3,f4,f5,f6,f7⟩ := frozen_8 B2.out
    have e : Aside0 (x / 16777216 % 256 = bytV x 4) := ⟨by unfold bytV;omega⟩
    go_wp2
    go_roundg g
    case measure => omega
    case rel => exact ⟨4 + 1,rfl,by omega,⟨blk_put B2.out 4 _ (by rw [e.out];rfl)⟩,⟨(Below.heap_setCell _ _ _ _ (by show w.heap.size ≠ w.heap.size + 1;omega)).trans B1.out⟩,⟨H.out.setCell (p := ⟨w.heap.size + 1,4,none⟩) (Nat.le_succ _) _⟩⟩
   ·obtain ⟨k0,k1,k2,k3,k4,k5,k6,k7⟩ := cells_8 B2.out
    obtain ⟨f0,f1,f2,f3,f4,f5,f6,f7⟩ := frozen_8 B2.out
    have e : Aside0 (x / 65536 % 256 = bytV x 5) := ⟨by unfold bytV;omega⟩
    go_wp2
    go_roundg g
    case measure => omega
    case rel => exact ⟨5 + 1,rfl,by omega,⟨blk_put B2.out 5 _ (by rw [e.out];rfl)⟩,⟨(Below.heap_setCell _ _ _ _ (by show w.heap.size ≠ w.heap.size + 1;omega)).trans B1.out⟩,⟨H.out.setCell (p := ⟨w.heap.size + 1,5,none⟩) (Nat.le_succ _) _⟩⟩
   ·obtain ⟨k0,k1,k2,k3,k4,k5,k6,k7⟩ := cells_8 B2.out
    obtain ⟨f0,f1,f2,f3,f4,f5,f6,f7⟩ := frozen_8 B2.out
    have e : Aside0 (x / 256 % 256 = bytV x 6) := ⟨by unfold bytV;omega⟩
    go_wp2
    go_roundg g
    case measure => omega
    case rel => exact ⟨6 + 1,rfl,by omega,⟨blk_put B2.out 6 _ (by rw [e.out];rfl)⟩,⟨(Below.heap_setCell _ _ _ _ (by show w.heap.size ≠ w.heap.size + 1;omega)).trans B1.out⟩,⟨H.out.setCell (p := ⟨w.heap.size + 1,6,none⟩) (Nat.le_succ _) _⟩⟩
   ·obtain ⟨k0,k1,k2,k3,k4,k5,k6,k7⟩ := cells_8 B2.out
    obtain ⟨f0,f1,f2,f3,f4,f5,f6,f7⟩ := frozen_8 B2.out
    have e : Aside0 (x % 256 = bytV x 7) := ⟨by unfold bytV;omega⟩
    go_wp2
    go_roundg g
    case measure => omega
    case rel => exact ⟨7 + 1,rfl,by omega,⟨blk_put B2.out 7 _ (by rw [e.out];rfl)⟩,⟨(Below.heap_setCell _ _ _ _ (by show w.heap.size ≠ w.heap.size + 1;omega)).trans B1.out⟩,⟨H.out.setCell (p := ⟨w.heap.size + 1,7,none⟩) (Nat.le_succ _) _⟩⟩
  ·obtain rfl : i = 8 := by omega
   obtain ⟨k0,k1,k2,k3,k4,k5,k6,k7⟩ := cells_8 B2.out
   obtain ⟨l0,l1,l2,l3,l4,l5,l6,l7⟩ := cells_8 B1.out
   obtain ⟨f0,f1,f2,f3,f4,f5,f6,f7⟩ := frozen_8 B1.out
   go_wp2
   refine bodyPost_ret (results_cell_row rfl _ _ w.heap.size 154 _ (0,0) _ rfl (put8 B1.out) hu154 rfl (by kernel_rfl)) rfl ?_
   exact ⟨rfl,below8 H.out (Nat.le_refl _)⟩
def typP (st : Int) (m : ByteArray) : ByteArray := if st = 1 then m else (bcdP m).1
set_option maxHeartbeats 1000000 in
theorem wire_Type.at (st : Int) (m : ByteArray) (w : World) (hst : st = 1 ∨ st = 2) (hm : isMti m = true) :
  Calls prog 46 #[.int .i64 st,.string m] w fun e w' => (∃ ok,e = .returned (.tuple #[.string (typP st m),.bool ok])) ∧ Below w.heap.size w w' := by
 obtain ⟨r,hg⟩ : ∃ r,typP st m = r := ⟨_,rfl⟩
 rw [hg]
 rw [typP] at hg
 rcases hst with rfl | rfl
 ·have HG := aS hg
  clear hg
  go_enter func46,ntmps46
  go_wp2_with (first | (go_at_call 51;refine (mti_Right.at _ _).mono ?_;rintro e w1 ⟨rfl,hb⟩;rw [hm]))
  go_ret2
  obtain rfl := HG.out
  exact ⟨⟨_,rfl⟩,hb⟩
 ·obtain ⟨v1,v2,hv⟩ : ∃ v1 v2,bcdP m = (v1,v2) := ⟨_,_,rfl⟩
  rw [hv] at hg
  have HG := aS hg
  clear hg
  go_enter func46,ntmps46
  go_wp2_with (first | (go_at_call 51;refine (mti_Right.at _ _).mono ?_;rintro e w1 ⟨rfl,hb⟩;rw [hm]) | (go_at_call 102;refine (bcd_Put.at _ _).mono ?_;rintro e w2 ⟨rfl,hb2⟩;rw [hv]))
  go_ret2
  obtain rfl := HG.out
  exact ⟨⟨_,rfl⟩,b_s hb hb2⟩
def cellP (st : Int) (x : S87) (t : ByteArray) : ByteArray :=
 (if x.f2 = 1 then ⟨#[]⟩ else (preP st x.f2 t.size).1) ++ (if howV st x.f1 = 1 then (bcdP t).1 else if howV st x.f1 = 2 then hexP t else t)
theorem preP_size (st f n : Int) : (preP st f n).1.size ≤ 1000 := by
 unfold preP
 split
 ·exact Nat.zero_le _
 ·split
  ·exact bcdP_size _
  ·have := digP_size n (width f);show (digP n (width f)).1.size ≤ 1000;omega
theorem specValue_facts {x : S87} {t : ByteArray} (h : specValue x t = 0) : specCheck x = 0 ∧ (t.size : Int) ≥ x.f3 ∧ (t.size : Int) ≤ x.f4 ∧ t.size ≤ 999 := by
 unfold specValue at h
 (repeat' split at h) <;> first | (exact absurd h (by decide)) | skip
 rename_i a b c d
 have ha : specCheck x = 0 := by simpa using a
 have hf : x.f4 ≤ 999 := by
  unfold specCheck at ha
  (repeat' split at ha) <;> first | (exact absurd ha (by decide)) | omega
 exact ⟨ha,by omega,by omega,by omega⟩
theorem cellP_size (st : Int) (x : S87) (t : ByteArray) (ht : t.size ≤ 1000) : (cellP st x t).size ≤ 2002000 := by
 unfold cellP
 rw [app_size]
 have h1 := preP_size st x.f2 t.size
 have h2 := bcdP_size t
 have h3 := hexP_size t (by omega)
 have h4 : (if x.f2 = 1 then (⟨#[]⟩ : ByteArray) else (preP st x.f2 t.size).1).size ≤ 1000 := by split;exact Nat.zero_le _;exact h1
 have h5 : (if howV st x.f1 = 1 then (bcdP t).1 else if howV st x.f1 = 2 then hexP t else t).size ≤ 2000000 := by (repeat' split) <;> omega
 omega
set_option maxHeartbeats 2000000 in
theorem cell_Put.at (st : Int) (x : S87) (t : ByteArray) (w : World) (hst : st = 1 ∨ st = 2) (hv : specValue x t = 0) :
  Calls prog 49 #[.int .i64 st,v87 x,.string t] w fun e w' => e = .returned (.tuple #[.string (cellP st x t),.int .i64 0]) ∧ Below w.heap.size w w' := by
 have hu87 := underlying87
 have hk : known st = true := by rcases hst with rfl | rfl <;> decide
 obtain ⟨hx,hs1,hs2,hs3⟩ := specValue_facts hv
 have hfo : x.f2 = 1 ∨ x.f2 = 2 ∨ x.f2 = 3 := by
  unfold specCheck at hx
  (repeat' split at hx) <;> first | (exact absurd hx (by decide)) | omega
 have HT : Aside0 (t.size ≤ 1000000) := ⟨by omega⟩
 have hh : howV st x.f1 = 0 ∨ howV st x.f1 = 1 ∨ howV st x.f1 = 2 := by unfold howV;(repeat' split) <;> decide
 obtain ⟨r,hg⟩ : ∃ r,cellP st x t = r := ⟨_,rfl⟩
 rw [hg]
 rw [cellP] at hg
 have z1 := preP_size st x.f2 t.size
 have z2 := bcdP_size t
 have z3 := hexP_size t HT.out
 have z0 : t.size ≤ 999 := hs3
 clear hx hs1 hs2 hs3
 unfold v87
 by_cases hF : x.f2 = 1
 ·have e2 : (x.f2 != 1) = false := bne_eq_false_iff_eq.mpr hF
  rw [if_pos hF] at hg
  clear hF hfo z1
  rcases hh with hh | hh | hh
  all_goals
   rw [hh] at hg
   simp only [reduceIte,Int.reduceEq] at hg
   have HG := aS hg
   clear hg
   go_enter func49,ntmps49
   go_wp2_with (first | (go_at_call 86;refine (cell_known.at _ _).mono ?_;rintro e w1 ⟨rfl,rfl⟩;rw [hk]) | (go_at_call 90;refine (spec_Value.at x _ _ HT.out).mono ?_;rintro e w2 ⟨rfl,hb1⟩;rw [hv];have B := aS (blk_nb hb1);have H := aS (below_a1 hb1);clear hb1;obtain ⟨k0,k1,k2,k3,k4⟩ := cells_5 B.out) | (go_at_call 88;refine (cell_how.at _ _ _).mono ?_;rintro e w3 ⟨rfl,rfl⟩;rw [hh]) | (go_at_call 102;refine (bcd_Put.at _ _).mono ?_;rintro e w4 ⟨rfl,hb1⟩;have H_ := aS (b_s H.out hb1);clear B H k0 k1 k2 k3 k4 hb1;have H := H_;clear H_) | (go_at_call 106;refine (hexa_Put.at _ _ HT.out).mono ?_;rintro e w4 ⟨rfl,hb1⟩;have H_ := aS (b_s H.out hb1);clear B H k0 k1 k2 k3 k4 hb1;have H := H_;clear H_))
   go_ret2
   obtain rfl := HG.out
   exact ⟨rfl,H.out⟩
 ·have e2 : (x.f2 != 1) = true := bne_iff_ne.mpr hF
  have HFO : Aside0 (x.f2 = 2 ∨ x.f2 = 3) := ⟨by omega⟩
  rw [if_neg hF] at hg
  clear hF hfo
  obtain ⟨q1,q2,hp⟩ : ∃ q1 q2,preP st x.f2 t.size = (q1,q2) := ⟨_,_,rfl⟩
  rw [hp] at hg z1
  simp only at z1
  rcases hh with hh | hh | hh
  all_goals
   rw [hh] at hg
   simp only [reduceIte,Int.reduceEq] at hg
   have HG := aS hg
   clear hg
   go_enter func49,ntmps49
   go_wp2_with (first | (go_at_call 86;refine (cell_known.at _ _).mono ?_;rintro e w1 ⟨rfl,rfl⟩;rw [hk]) | (go_at_call 90;refine (spec_Value.at x _ _ HT.out).mono ?_;rintro e w2 ⟨rfl,hb1⟩;rw [hv];have B := aS (blk_nb hb1);have H := aS (below_a1 hb1);clear hb1;obtain ⟨k0,k1,k2,k3,k4⟩ := cells_5 B.out) | (go_at_call 108;refine (prefix_Put.at _ _ _ _ hst HFO.out (by have := HT.out;omega)).mono ?_;rintro e w3 ⟨rfl,hb1⟩;rw [hp];have B_ := aS (k_B B.out hb1);have H_ := aS (b_s H.out hb1);clear B H k0 k1 k2 k3 k4 hb1;have B := B_;have H := H_;clear B_ H_;obtain ⟨k0,k1,k2,k3,k4⟩ := cells_5 B.out) | (go_at_call 88;refine (cell_how.at _ _ _).mono ?_;rintro e w3 ⟨rfl,rfl⟩;rw [hh]) | (go_at_call 102;refine (bcd_Put.at _ _).mono ?_;rintro e w4 ⟨rfl,hb1⟩;have H_ := aS (b_s H.out hb1);clear B H k0 k1 k2 k3 k4 hb1;have H := H_;clear H_) | (go_at_call 106;refine (hexa_Put.at _ _ HT.out).mono ?_;rintro e w4 ⟨rfl,hb1⟩;have H_ := aS (b_s H.out hb1);clear B H k0 k1 k2 k3 k4 hb1;have H := H_;clear H_))
   go_ret2
   obtain rfl := HG.out
   exact ⟨rfl,H.out⟩
def cellSz (st : Int) (x : S87) (n : Int) : Int := if howV st x.f1 = 1 then bcdSize n else if howV st x.f1 = 2 then 2 * n else n
def cellF (x : S87) (t : ByteArray) (j : Int) : ByteArray × Int × Int := if specValue x t ≠ 0 then (⟨#[]⟩,0,specValue x t) else (t,j,0)
def cellT (st : Int) (x : S87) (t : ByteArray) (n j : Int) : ByteArray × Int × Int :=
 if howV st x.f1 = 1 then if (bcdG t n).2 ≠ 0 then (⟨#[]⟩,0,(bcdG t n).2) else cellF x (bcdG t n).1 j
 else if howV st x.f1 = 2 then if (hexG t).2 = false then (⟨#[]⟩,0,3) else cellF x (hexG t).1 j
 else cellF x t j
def cellM (st : Int) (x : S87) (b : ByteArray) (n i : Int) : ByteArray × Int × Int :=
 if (b.size : Int) - i < cellSz st x n then (⟨#[]⟩,0,2) else cellT st x (b.extract i.toNat (i + cellSz st x n).toNat) n (i + cellSz st x n)
def cellG (st : Int) (x : S87) (b : ByteArray) (i : Int) : ByteArray × Int × Int :=
 if x.f2 = 1 then cellM st x b x.f3 i else
 if (prefG st x.f2 b i).2.2 ≠ 0 then (⟨#[]⟩,0,(prefG st x.f2 b i).2.2) else
 if (prefG st x.f2 b i).1 < x.f3 ∨ (prefG st x.f2 b i).1 > x.f4 then (⟨#[]⟩,0,5) else
 cellM st x b (prefG st x.f2 b i).1 (prefG st x.f2 b i).2.1
theorem bcdLoop_size (b : ByteArray) (n : Int) : ∀ (d i : Nat) (xs : List Int),(bcdLoop b n d i xs).1.length ≤ xs.length + 2 * d
 | 0,_,xs => by rw [bcdLoop];simp
 | d + 1,i,xs => by
  rw [bcdLoop]
  split
  ·simp
  ·split
   ·simp
   ·have h := bcdLoop_size b n d (i + 1) (xs ++ [48 + bt b i / 16,48 + bt b i % 16])
    rw [List.length_append] at h
    simp at h
    omega
theorem bcdG_size (b : ByteArray) (n : Int) (hn : 0 ≤ n ∧ n ≤ 999) : (bcdG b n).1.size ≤ 1000000 := by
 unfold bcdG
 split
 ·exact Nat.zero_le _
 ·split
  ·have h := bcdLoop_size b n (bcdSize n).toNat 0 []
   have hz : (bcdSize n).toNat ≤ 1000 := by unfold bcdSize;split <;> omega
   have hl := data_length (strOfNums (List.drop (n % 2).toNat (bcdLoop b n (bcdSize n).toNat 0 []).1))
   rw [strOfNums_data,List.length_map,List.length_drop] at hl
   simp at h
   show (strOfNums (List.drop (n % 2).toNat (bcdLoop b n (bcdSize n).toNat 0 []).1)).size ≤ 1000000
   omega
  ·exact Nat.zero_le _
set_option maxHeartbeats 4000000 in
theorem cell_Get.at (st : Int) (x : S87) (b : ByteArray) (i : Int) (w : World) (hst : st = 1 ∨ st = 2) (hx : specCheck x = 0) (h0 : 0 ≤ i) (h1 : i ≤ b.size) (hb : b.size ≤ 100000) :
  Calls prog 37 #[.int .i64 st,v87 x,.string b,.int .i64 i] w fun e w' => e = .returned (.tuple #[.string (cellG st x b i).1,.int .i64 (cellG st x b i).2.1,.int .i64 (cellG st x b i).2.2]) ∧ Below w.heap.size w w' := by
 have hu87 := underlying87
 have hk : known st = true := by rcases hst with rfl | rfl <;> decide
 have a0 : decide (i < 0) = false := d_F (by omega)
 have a1 : decide ((b.size : Int) < i) = false := d_F (by omega)
 have e1 : (specCheck x != 0) = false := bne_eq_false_iff_eq.mpr hx
 have hn : 1 ≤ x.f3 ∧ x.f3 ≤ x.f4 ∧ x.f4 ≤ 999 ∧ (x.f2 = 1 ∨ x.f2 = 2 ∨ x.f2 = 3) := by unfold specCheck at hx;(repeat' split at hx) <;> first | (exact absurd hx (by decide)) | omega
 obtain ⟨r,hg⟩ : ∃ r,cellG st x b i = r := ⟨_,rfl⟩
 rw [hg]
 rw [cellG] at hg
 have hh : howV st x.f1 = 0 ∨ howV st x.f1 = 1 ∨ howV st x.f1 = 2 := by unfold howV;(repeat' split) <;> decide
 clear hx
 obtain ⟨hn3,hn4,hn5,hf⟩ := hn
 unfold v87
 by_cases hF : x.f2 = 1
 ·have e2 : (x.f2 != 1) = false := bne_eq_false_iff_eq.mpr hF
  rw [if_pos hF] at hg
  clear hF hf
  obtain ⟨sz,hsz⟩ : ∃ sz,cellSz st x x.f3 = sz := ⟨_,rfl⟩
  have hszr : 0 ≤ sz ∧ sz ≤ 2000 := by rw [← hsz];unfold cellSz bcdSize;(repeat' split) <;> omega
  rw [cellM,hsz] at hg
  have e3 : wrap64 (2 * x.f3) = 2 * x.f3 := by unfold wrap64;omega
  have hn9 : 0 ≤ x.f3 ∧ x.f3 ≤ 999 := by omega
  by_cases c : (b.size : Int) - i < sz
  ·rw [if_pos c] at hg
   have HG := aS hg
   clear hg
   have c0 : decide ((b.size : Int) - i < sz) = true := d_T c
   unfold cellSz at hsz
   rcases hh with hh | hh | hh
   all_goals
    rw [hh] at hsz
    simp only [reduceIte,Int.reduceEq] at hsz
    try subst hsz
    go_enter func37,ntmps37
    go_wp2_with (first | (go_at_call 86;refine (cell_known.at _ _).mono ?_;rintro e w1 ⟨rfl,rfl⟩;rw [hk]) | (go_at_call 77;refine (spec_Check.at x _).mono ?_;rintro e w2 ⟨rfl,hb1⟩;have B := aS (blk_nb hb1);have H := aS (below_a1 hb1);clear hb1;have k0 := blk_cell B.out 0;have k1 := blk_cell B.out 1;have k2 := blk_cell B.out 2;have k3 := blk_cell B.out 3;have k4 := blk_cell B.out 4) | (go_at_call 88;refine (cell_how.at _ _ _).mono ?_;rintro e w3 ⟨rfl,rfl⟩;rw [hh]) | (go_at_call 78;refine (bcd_Size.at _ _ (by omega)).mono ?_;rintro e w3 ⟨rfl,rfl⟩))
    go_ret3
    obtain rfl := HG.out
    exact ⟨rfl,H.out⟩
  ·rw [if_neg c,cellT] at hg
   have c0 : decide ((b.size : Int) - i < sz) = false := d_F c
   have p0 : (0 ≤ i) = True := eq_true (by omega)
   have p1 : (i ≤ i + sz) = True := eq_true (by omega)
   have p2 : (i + sz ≤ (b.size : Int)) = True := eq_true (by omega)
   have hz9 : Aside0 ((b.extract i.toNat (i + sz).toNat).size ≤ 1000000) := ⟨by rw [ByteArray.size_extract];omega⟩
   unfold cellSz at hsz
   rcases hh with hh | hh | hh
   ·rw [hh] at hsz hg
    simp only [reduceIte,Int.reduceEq] at hsz hg
    subst hsz
    have hzt := hz9
    obtain ⟨sv,hs⟩ : ∃ sv,specValue x (b.extract i.toNat (i + x.f3).toNat) = sv := ⟨_,rfl⟩
    rw [cellF,hs] at hg
    have HG := aS hg
    clear hg
    go_enter func37,ntmps37
    go_wp2_with (first | (go_at_call 86;refine (cell_known.at _ _).mono ?_;rintro e w1 ⟨rfl,rfl⟩;rw [hk]) | (go_at_call 77;refine (spec_Check.at x _).mono ?_;rintro e w2 ⟨rfl,hb1⟩;have B := aS (blk_nb hb1);have H := aS (below_a1 hb1);clear hb1;have k0 := blk_cell B.out 0;have k1 := blk_cell B.out 1;have k2 := blk_cell B.out 2;have k3 := blk_cell B.out 3;have k4 := blk_cell B.out 4) | (go_at_call 88;refine (cell_how.at _ _ _).mono ?_;rintro e w3 ⟨rfl,rfl⟩;rw [hh]) | (go_at_call 78;refine (bcd_Size.at _ _ (by omega)).mono ?_;rintro e w3 ⟨rfl,rfl⟩) | (go_at_call 90;refine (spec_Value.at x _ _ hzt.out).mono ?_;rintro e w3 ⟨rfl,hb3⟩;rw [hs];have B_ := aS (k_B B.out hb3);have H_ := aS (b_s H.out hb3);clear B H k0 k1 k2 k3 k4 hb3;have B := B_;have H := H_;clear B_ H_;have k0 := blk_cell B.out 0;have k1 := blk_cell B.out 1;have k2 := blk_cell B.out 2;have k3 := blk_cell B.out 3;have k4 := blk_cell B.out 4))
    all_goals go_ret3
    all_goals obtain rfl := HG.out
    all_goals refine ⟨?_,H.out⟩
    all_goals (repeat' split) <;> first | rfl | simp_all
   ·rw [hh] at hsz hg
    simp only [reduceIte,Int.reduceEq] at hsz hg
    subst hsz
    obtain ⟨v1,v2,hv⟩ : ∃ v1 v2,bcdG (b.extract i.toNat (i + bcdSize x.f3).toNat) x.f3 = (v1,v2) := ⟨_,_,rfl⟩
    have hzt : Aside0 (v1.size ≤ 1000000) := ⟨by have := bcdG_size (b.extract i.toNat (i + bcdSize x.f3).toNat) x.f3 hn9;rw [hv] at this;exact this⟩
    obtain ⟨sv,hs⟩ : ∃ sv,specValue x v1 = sv := ⟨_,rfl⟩
    rw [hv,cellF,hs] at hg
    have HG := aS hg
    clear hg
    go_enter func37,ntmps37
    go_wp2_with (first | (go_at_call 86;refine (cell_known.at _ _).mono ?_;rintro e w1 ⟨rfl,rfl⟩;rw [hk]) | (go_at_call 77;refine (spec_Check.at x _).mono ?_;rintro e w2 ⟨rfl,hb1⟩;have B := aS (blk_nb hb1);have H := aS (below_a1 hb1);clear hb1;have k0 := blk_cell B.out 0;have k1 := blk_cell B.out 1;have k2 := blk_cell B.out 2;have k3 := blk_cell B.out 3;have k4 := blk_cell B.out 4) | (go_at_call 88;refine (cell_how.at _ _ _).mono ?_;rintro e w3 ⟨rfl,rfl⟩;rw [hh]) | (go_at_call 78;refine (bcd_Size.at _ _ (by omega)).mono ?_;rintro e w3 ⟨rfl,rfl⟩) | (go_at_call 79;refine (bcd_Get.at _ _ _ hn9 hz9.out).mono ?_;rintro e w3 ⟨⟨pq,rfl⟩,hb3⟩;rw [hv];have B_ := aS (k_B B.out hb3);have H_ := aS (b_s H.out hb3);clear B H k0 k1 k2 k3 k4 hb3;have B := B_;have H := H_;clear B_ H_;have k0 := blk_cell B.out 0;have k1 := blk_cell B.out 1;have k2 := blk_cell B.out 2;have k3 := blk_cell B.out 3;have k4 := blk_cell B.out 4) | (go_at_call 90;refine (spec_Value.at x _ _ hzt.out).mono ?_;rintro e w3 ⟨rfl,hb3⟩;rw [hs];have B_ := aS (k_B B.out hb3);have H_ := aS (b_s H.out hb3);clear B H k0 k1 k2 k3 k4 hb3;have B := B_;have H := H_;clear B_ H_;have k0 := blk_cell B.out 0;have k1 := blk_cell B.out 1;have k2 := blk_cell B.out 2;have k3 := blk_cell B.out 3;have k4 := blk_cell B.out 4))
    all_goals go_ret3
    all_goals obtain rfl := HG.out
    all_goals refine ⟨?_,H.out⟩
    all_goals (repeat' split) <;> first | rfl | simp_all
   ·rw [hh] at hsz hg
    simp only [reduceIte,Int.reduceEq] at hsz hg
    subst hsz
    obtain ⟨v1,v2,hv⟩ : ∃ v1 v2,hexG (b.extract i.toNat (i + 2 * x.f3).toNat) = (v1,v2) := ⟨_,_,rfl⟩
    have hzt : Aside0 (v1.size ≤ 1000000) := ⟨by have := hexG_size (b.extract i.toNat (i + 2 * x.f3).toNat) hz9.out;rw [hv] at this;exact this⟩
    obtain ⟨sv,hs⟩ : ∃ sv,specValue x v1 = sv := ⟨_,rfl⟩
    rw [hv,cellF,hs] at hg
    have HG := aS hg
    clear hg
    go_enter func37,ntmps37
    go_wp2_with (first | (go_at_call 86;refine (cell_known.at _ _).mono ?_;rintro e w1 ⟨rfl,rfl⟩;rw [hk]) | (go_at_call 77;refine (spec_Check.at x _).mono ?_;rintro e w2 ⟨rfl,hb1⟩;have B := aS (blk_nb hb1);have H := aS (below_a1 hb1);clear hb1;have k0 := blk_cell B.out 0;have k1 := blk_cell B.out 1;have k2 := blk_cell B.out 2;have k3 := blk_cell B.out 3;have k4 := blk_cell B.out 4) | (go_at_call 88;refine (cell_how.at _ _ _).mono ?_;rintro e w3 ⟨rfl,rfl⟩;rw [hh]) | (go_at_call 78;refine (bcd_Size.at _ _ (by omega)).mono ?_;rintro e w3 ⟨rfl,rfl⟩) | (go_at_call 89;refine (hexa_Get.at _ _ hz9.out).mono ?_;rintro e w3 ⟨⟨pq,rfl⟩,hb3⟩;rw [hv];have B_ := aS (k_B B.out hb3);have H_ := aS (b_s H.out hb3);clear B H k0 k1 k2 k3 k4 hb3;have B := B_;have H := H_;clear B_ H_;have k0 := blk_cell B.out 0;have k1 := blk_cell B.out 1;have k2 := blk_cell B.out 2;have k3 := blk_cell B.out 3;have k4 := blk_cell B.out 4) | (go_at_call 90;refine (spec_Value.at x _ _ hzt.out).mono ?_;rintro e w3 ⟨rfl,hb3⟩;rw [hs];have B_ := aS (k_B B.out hb3);have H_ := aS (b_s H.out hb3);clear B H k0 k1 k2 k3 k4 hb3;have B := B_;have H := H_;clear B_ H_;have k0 := blk_cell B.out 0;have k1 := blk_cell B.out 1;have k2 := blk_cell B.out 2;have k3 := blk_cell B.out 3;have k4 := blk_cell B.out 4))
    all_goals go_ret3
    all_goals obtain rfl := HG.out
    all_goals refine ⟨?_,H.out⟩
    all_goals (repeat' split) <;> first | rfl | simp_all
 ·have e2 : (x.f2 != 1) = true := bne_iff_ne.mpr hF
  have hfo : Aside0 (x.f2 = 2 ∨ x.f2 = 3) := ⟨by omega⟩
  rw [if_neg hF] at hg
  have hok := prefG_ok hst hfo.out h0 h1
  obtain ⟨pn,pj,pe,hp⟩ : ∃ pn pj pe,prefG st x.f2 b i = (pn,pj,pe) := ⟨_,_,_,rfl⟩
  rw [hp] at hg hok
  simp only at hg hok
  have h0 := aS h0
  have h1 := aS h1
  clear hF hf
  by_cases c1 : pe = 0
  ·have e5 : (pe != 0) = false := bne_eq_false_iff_eq.mpr c1
   rw [if_neg (by omega)] at hg
   have hj := hok c1
   have hj0 := h0.out
   clear hok c1
   by_cases c2 : pn < x.f3 ∨ pn > x.f4
   ·rw [if_pos c2] at hg
    have HG := aS hg
    have hu : decide (pn < x.f3) = true ∨ decide (pn < x.f3) = false ∧ decide (x.f4 < pn) = true := by
     by_cases k : pn < x.f3
     ·exact .inl (d_T k)
     ·exact .inr ⟨d_F k,d_T (by omega)⟩
    clear hg c2
    rcases hu with f5 | ⟨f5,f6⟩
    all_goals
     go_enter func37,ntmps37
     go_wp2_with (first | (go_at_call 86;refine (cell_known.at _ _).mono ?_;rintro e w1 ⟨rfl,rfl⟩;rw [hk]) | (go_at_call 77;refine (spec_Check.at x _).mono ?_;rintro e w2 ⟨rfl,hb1⟩;have B := aS (blk_nb hb1);have H := aS (below_a1 hb1);clear hb1;have k0 := blk_cell B.out 0;have k1 := blk_cell B.out 1;have k2 := blk_cell B.out 2;have k3 := blk_cell B.out 3;have k4 := blk_cell B.out 4) | (go_at_call 88;refine (cell_how.at _ _ _).mono ?_;rintro e w3 ⟨rfl,rfl⟩;rw [hh]) | (go_at_call 78;refine (bcd_Size.at _ _ (by omega)).mono ?_;rintro e w3 ⟨rfl,rfl⟩) | (go_at_call 87;refine (prefix_Get.at _ _ _ _ _ hst hfo.out h0.out h1.out (by omega)).mono ?_;rintro e w3 ⟨rfl,hb3⟩;rw [hp];have B_ := aS (k_B B.out hb3);have H_ := aS (b_s H.out hb3);clear B H k0 k1 k2 k3 k4 hb3;have B := B_;have H := H_;clear B_ H_;have k0 := blk_cell B.out 0;have k1 := blk_cell B.out 1;have k2 := blk_cell B.out 2;have k3 := blk_cell B.out 3;have k4 := blk_cell B.out 4))
     go_ret3
     obtain rfl := HG.out
     exact ⟨rfl,H.out⟩
   ·rw [if_neg c2] at hg
    have f5 : decide (pn < x.f3) = false := d_F (by omega)
    have f6 : decide (x.f4 < pn) = false := d_F (by omega)
    have hr : x.f3 ≤ pn ∧ pn ≤ x.f4 := by omega
    clear c2
    obtain ⟨sz,hsz⟩ : ∃ sz,cellSz st x pn = sz := ⟨_,rfl⟩
    have hszr : 0 ≤ sz ∧ sz ≤ 2000 := by rw [← hsz];unfold cellSz bcdSize;(repeat' split) <;> omega
    rw [cellM,hsz] at hg
    have e3 : wrap64 (2 * pn) = 2 * pn := by unfold wrap64;omega
    have hn9 : 0 ≤ pn ∧ pn ≤ 999 := by omega
    by_cases c : (b.size : Int) - pj < sz
    ·rw [if_pos c] at hg
     have HG := aS hg
     clear hg
     have c0 : decide ((b.size : Int) - pj < sz) = true := d_T c
     unfold cellSz at hsz
     rcases hh with hh | hh | hh
     all_goals
      rw [hh] at hsz
      simp only [reduceIte,Int.reduceEq] at hsz
      try subst hsz
      go_enter func37,ntmps37
      go_wp2_with (first | (go_at_call 86;refine (cell_known.at _ _).mono ?_;rintro e w1 ⟨rfl,rfl⟩;rw [hk]) | (go_at_call 77;refine (spec_Check.at x _).mono ?_;rintro e w2 ⟨rfl,hb1⟩;have B := aS (blk_nb hb1);have H := aS (below_a1 hb1);clear hb1;have k0 := blk_cell B.out 0;have k1 := blk_cell B.out 1;have k2 := blk_cell B.out 2;have k3 := blk_cell B.out 3;have k4 := blk_cell B.out 4) | (go_at_call 88;refine (cell_how.at _ _ _).mono ?_;rintro e w3 ⟨rfl,rfl⟩;rw [hh]) | (go_at_call 78;refine (bcd_Size.at _ _ (by omega)).mono ?_;rintro e w3 ⟨rfl,rfl⟩) | (go_at_call 87;refine (prefix_Get.at _ _ _ _ _ hst hfo.out h0.out h1.out (by omega)).mono ?_;rintro e w3 ⟨rfl,hb3⟩;rw [hp];have B_ := aS (k_B B.out hb3);have H_ := aS (b_s H.out hb3);clear B H k0 k1 k2 k3 k4 hb3;have B := B_;have H := H_;clear B_ H_;have k0 := blk_cell B.out 0;have k1 := blk_cell B.out 1;have k2 := blk_cell B.out 2;have k3 := blk_cell B.out 3;have k4 := blk_cell B.out 4))
      go_ret3
      obtain rfl := HG.out
      exact ⟨rfl,H.out⟩
    ·rw [if_neg c,cellT] at hg
     have c0 : decide ((b.size : Int) - pj < sz) = false := d_F c
     have p0 : (0 ≤ pj) = True := eq_true (by omega)
     have p1 : (pj ≤ pj + sz) = True := eq_true (by omega)
     have p2 : (pj + sz ≤ (b.size : Int)) = True := eq_true (by omega)
     have hz9 : Aside0 ((b.extract pj.toNat (pj + sz).toNat).size ≤ 1000000) := ⟨by rw [ByteArray.size_extract];omega⟩
     unfold cellSz at hsz
     rcases hh with hh | hh | hh
     ·rw [hh] at hsz hg
      simp only [reduceIte,Int.reduceEq] at hsz hg
      subst hsz
      have hzt := hz9
      obtain ⟨sv,hs⟩ : ∃ sv,specValue x (b.extract pj.toNat (pj + pn).toNat) = sv := ⟨_,rfl⟩
      rw [cellF,hs] at hg
      have HG := aS hg
      clear hg
      go_enter func37,ntmps37
      go_wp2_with (first | (go_at_call 86;refine (cell_known.at _ _).mono ?_;rintro e w1 ⟨rfl,rfl⟩;rw [hk]) | (go_at_call 77;refine (spec_Check.at x _).mono ?_;rintro e w2 ⟨rfl,hb1⟩;have B := aS (blk_nb hb1);have H := aS (below_a1 hb1);clear hb1;have k0 := blk_cell B.out 0;have k1 := blk_cell B.out 1;have k2 := blk_cell B.out 2;have k3 := blk_cell B.out 3;have k4 := blk_cell B.out 4) | (go_at_call 88;refine (cell_how.at _ _ _).mono ?_;rintro e w3 ⟨rfl,rfl⟩;rw [hh]) | (go_at_call 78;refine (bcd_Size.at _ _ (by omega)).mono ?_;rintro e w3 ⟨rfl,rfl⟩) | (go_at_call 87;refine (prefix_Get.at _ _ _ _ _ hst hfo.out h0.out h1.out (by omega)).mono ?_;rintro e w3 ⟨rfl,hb3⟩;rw [hp];have B_ := aS (k_B B.out hb3);have H_ := aS (b_s H.out hb3);clear B H k0 k1 k2 k3 k4 hb3;have B := B_;have H := H_;clear B_ H_;have k0 := blk_cell B.out 0;have k1 := blk_cell B.out 1;have k2 := blk_cell B.out 2;have k3 := blk_cell B.out 3;have k4 := blk_cell B.out 4) | (go_at_call 90;refine (spec_Value.at x _ _ hzt.out).mono ?_;rintro e w3 ⟨rfl,hb3⟩;rw [hs];have B_ := aS (k_B B.out hb3);have H_ := aS (b_s H.out hb3);clear B H k0 k1 k2 k3 k4 hb3;have B := B_;have H := H_;clear B_ H_;have k0 := blk_cell B.out 0;have k1 := blk_cell B.out 1;have k2 := blk_cell B.out 2;have k3 := blk_cell B.out 3;have k4 := blk_cell B.out 4))
      all_goals go_ret3
      all_goals obtain rfl := HG.out
      all_goals refine ⟨?_,H.out⟩
      all_goals (repeat' split) <;> first | rfl | simp_all
     ·rw [hh] at hsz hg
      simp only [reduceIte,Int.reduceEq] at hsz hg
      subst hsz
      obtain ⟨v1,v2,hv⟩ : ∃ v1 v2,bcdG (b.extract pj.toNat (pj + bcdSize pn).toNat) pn = (v1,v2) := ⟨_,_,rfl⟩
      have hzt : Aside0 (v1.size ≤ 1000000) := ⟨by have := bcdG_size (b.extract pj.toNat (pj + bcdSize pn).toNat) pn hn9;rw [hv] at this;exact this⟩
      obtain ⟨sv,hs⟩ : ∃ sv,specValue x v1 = sv := ⟨_,rfl⟩
      rw [hv,cellF,hs] at hg
      have HG := aS hg
      clear hg
      go_enter func37,ntmps37
      go_wp2_with (first | (go_at_call 86;refine (cell_known.at _ _).mono ?_;rintro e w1 ⟨rfl,rfl⟩;rw [hk]) | (go_at_call 77;refine (spec_Check.at x _).mono ?_;rintro e w2 ⟨rfl,hb1⟩;have B := aS (blk_nb hb1);have H := aS (below_a1 hb1);clear hb1;have k0 := blk_cell B.out 0;have k1 := blk_cell B.out 1;have k2 := blk_cell B.out 2;have k3 := blk_cell B.out 3;have k4 := blk_cell B.out 4) | (go_at_call 88;refine (cell_how.at _ _ _).mono ?_;rintro e w3 ⟨rfl,rfl⟩;rw [hh]) | (go_at_call 78;refine (bcd_Size.at _ _ (by omega)).mono ?_;rintro e w3 ⟨rfl,rfl⟩) | (go_at_call 87;refine (prefix_Get.at _ _ _ _ _ hst hfo.out h0.out h1.out (by omega)).mono ?_;rintro e w3 ⟨rfl,hb3⟩;rw [hp];have B_ := aS (k_B B.out hb3);have H_ := aS (b_s H.out hb3);clear B H k0 k1 k2 k3 k4 hb3;have B := B_;have H := H_;clear B_ H_;have k0 := blk_cell B.out 0;have k1 := blk_cell B.out 1;have k2 := blk_cell B.out 2;have k3 := blk_cell B.out 3;have k4 := blk_cell B.out 4) | (go_at_call 79;refine (bcd_Get.at _ _ _ hn9 hz9.out).mono ?_;rintro e w3 ⟨⟨pq,rfl⟩,hb3⟩;rw [hv];have B_ := aS (k_B B.out hb3);have H_ := aS (b_s H.out hb3);clear B H k0 k1 k2 k3 k4 hb3;have B := B_;have H := H_;clear B_ H_;have k0 := blk_cell B.out 0;have k1 := blk_cell B.out 1;have k2 := blk_cell B.out 2;have k3 := blk_cell B.out 3;have k4 := blk_cell B.out 4) | (go_at_call 90;refine (spec_Value.at x _ _ hzt.out).mono ?_;rintro e w3 ⟨rfl,hb3⟩;rw [hs];have B_ := aS (k_B B.out hb3);have H_ := aS (b_s H.out hb3);clear B H k0 k1 k2 k3 k4 hb3;have B := B_;have H := H_;clear B_ H_;have k0 := blk_cell B.out 0;have k1 := blk_cell B.out 1;have k2 := blk_cell B.out 2;have k3 := blk_cell B.out 3;have k4 := blk_cell B.out 4))
      all_goals go_ret3
      all_goals obtain rfl := HG.out
      all_goals refine ⟨?_,H.out⟩
      all_goals (repeat' split) <;> first | rfl | simp_all
     ·rw [hh] at hsz hg
      simp only [reduceIte,Int.reduceEq] at hsz hg
      subst hsz
      obtain ⟨v1,v2,hv⟩ : ∃ v1 v2,hexG (b.extract pj.toNat (pj + 2 * pn).toNat) = (v1,v2) := ⟨_,_,rfl⟩
      have hzt : Aside0 (v1.size ≤ 1000000) := ⟨by have := hexG_size (b.extract pj.toNat (pj + 2 * pn).toNat) hz9.out;rw [hv] at this;exact this⟩
      obtain ⟨sv,hs⟩ : ∃ sv,specValue x v1 = sv := ⟨_,rfl⟩
      rw [hv,cellF,hs] at hg
      have HG := aS hg
      clear hg
      go_enter func37,ntmps37
      go_wp2_with (first | (go_at_call 86;refine (cell_known.at _ _).mono ?_;rintro e w1 ⟨rfl,rfl⟩;rw [hk]) | (go_at_call 77;refine (spec_Check.at x _).mono ?_;rintro e w2 ⟨rfl,hb1⟩;have B := aS (blk_nb hb1);have H := aS (below_a1 hb1);clear hb1;have k0 := blk_cell B.out 0;have k1 := blk_cell B.out 1;have k2 := blk_cell B.out 2;have k3 := blk_cell B.out 3;have k4 := blk_cell B.out 4) | (go_at_call 88;refine (cell_how.at _ _ _).mono ?_;rintro e w3 ⟨rfl,rfl⟩;rw [hh]) | (go_at_call 78;refine (bcd_Size.at _ _ (by omega)).mono ?_;rintro e w3 ⟨rfl,rfl⟩) | (go_at_call 87;refine (prefix_Get.at _ _ _ _ _ hst hfo.out h0.out h1.out (by omega)).mono ?_;rintro e w3 ⟨rfl,hb3⟩;rw [hp];have B_ := aS (k_B B.out hb3);have H_ := aS (b_s H.out hb3);clear B H k0 k1 k2 k3 k4 hb3;have B := B_;have H := H_;clear B_ H_;have k0 := blk_cell B.out 0;have k1 := blk_cell B.out 1;have k2 := blk_cell B.out 2;have k3 := blk_cell B.out 3;have k4 := blk_cell B.out 4) | (go_at_call 89;refine (hexa_Get.at _ _ hz9.out).mono ?_;rintro e w3 ⟨⟨pq,rfl⟩,hb3⟩;rw [hv];have B_ := aS (k_B B.out hb3);have H_ := aS (b_s H.out hb3);clear B H k0 k1 k2 k3 k4 hb3;have B := B_;have H := H_;clear B_ H_;have k0 := blk_cell B.out 0;have k1 := blk_cell B.out 1;have k2 := blk_cell B.out 2;have k3 := blk_cell B.out 3;have k4 := blk_cell B.out 4) | (go_at_call 90;refine (spec_Value.at x _ _ hzt.out).mono ?_;rintro e w3 ⟨rfl,hb3⟩;rw [hs];have B_ := aS (k_B B.out hb3);have H_ := aS (b_s H.out hb3);clear B H k0 k1 k2 k3 k4 hb3;have B := B_;have H := H_;clear B_ H_;have k0 := blk_cell B.out 0;have k1 := blk_cell B.out 1;have k2 := blk_cell B.out 2;have k3 := blk_cell B.out 3;have k4 := blk_cell B.out 4))
      all_goals go_ret3
      all_goals obtain rfl := HG.out
      all_goals refine ⟨?_,H.out⟩
      all_goals (repeat' split) <;> first | rfl | simp_all
  ·have e5 : (pe != 0) = true := bne_iff_ne.mpr c1
   rw [if_pos c1] at hg
   have HG := aS hg
   clear hg hok c1
   go_enter func37,ntmps37
   go_wp2_with (first | (go_at_call 86;refine (cell_known.at _ _).mono ?_;rintro e w1 ⟨rfl,rfl⟩;rw [hk]) | (go_at_call 77;refine (spec_Check.at x _).mono ?_;rintro e w2 ⟨rfl,hb1⟩;have B := aS (blk_nb hb1);have H := aS (below_a1 hb1);clear hb1;have k0 := blk_cell B.out 0;have k1 := blk_cell B.out 1;have k2 := blk_cell B.out 2;have k3 := blk_cell B.out 3;have k4 := blk_cell B.out 4) | (go_at_call 88;refine (cell_how.at _ _ _).mono ?_;rintro e w3 ⟨rfl,rfl⟩;rw [hh]) | (go_at_call 78;refine (bcd_Size.at _ _ (by omega)).mono ?_;rintro e w3 ⟨rfl,rfl⟩) | (go_at_call 87;refine (prefix_Get.at _ _ _ _ _ hst hfo.out h0.out h1.out (by omega)).mono ?_;rintro e w3 ⟨rfl,hb3⟩;rw [hp];have B_ := aS (k_B B.out hb3);have H_ := aS (b_s H.out hb3);clear B H k0 k1 k2 k3 k4 hb3;have B := B_;have H := H_;clear B_ H_;have k0 := blk_cell B.out 0;have k1 := blk_cell B.out 1;have k2 := blk_cell B.out 2;have k3 := blk_cell B.out 3;have k4 := blk_cell B.out 4))
   go_ret3
   obtain rfl := HG.out
   exact ⟨rfl,H.out⟩
end Go.Proofs.YtgbmnpgaddhfpaaGreatDoor.T
namespace Go.Proofs.YtgbmnpgaddhfpaaGreatDoor.T
open Go.RowKit Go.Proofs.YtgbmnpgaddhfpaaGreatDoorW.PrintWords Go.Proofs.YtgbmnpgaddhfpaaGreatDoorW.PrintLast Go.Proofs.YtgbmnpgaddhfpaaGreatDoorW.PrintMore
attribute [local go_sem] max2_int min2_int max_two min_two
open Go.Proofs.YtgbmnpgaddhfpaaGreatDoor.G
open Extern.Stop (cell)
open Tryz
set_option maxRecDepth 100000
def bs8 (t : ByteArray) : List UInt8 := [t.data.toList[0]?.getD 0,t.data.toList[1]?.getD 0,t.data.toList[2]?.getD 0,t.data.toList[3]?.getD 0,t.data.toList[4]?.getD 0,t.data.toList[5]?.getD 0,t.data.toList[6]?.getD 0,t.data.toList[7]?.getD 0]
def zero8q (t : ByteArray) : Bool := bs8 t == [0,0,0,0,0,0,0,0]
theorem cells8_bs (t : ByteArray) : cells8 t = ((bs8 t).map cell).toArray := by
 have hb := bt_data t
 have h0 := hb 0
 have h1 := hb 1
 have h2 := hb 2
 have h3 := hb 3
 have h4 := hb 4
 have h5 := hb 5
 have h6 := hb 6
 have h7 := hb 7
 show #[Value.int .u8 (bt t ((0 : Nat) : Int)),Value.int .u8 (bt t ((1 : Nat) : Int)),Value.int .u8 (bt t ((2 : Nat) : Int)),Value.int .u8 (bt t ((3 : Nat) : Int)),Value.int .u8 (bt t ((4 : Nat) : Int)),Value.int .u8 (bt t ((5 : Nat) : Int)),Value.int .u8 (bt t ((6 : Nat) : Int)),Value.int .u8 (bt t ((7 : Nat) : Int))] = _
 rw [h0,h1,h2,h3,h4,h5,h6,h7]
 rfl
theorem bitmap_bits.at' (t : ByteArray) (w : World) : Calls prog 83 #[.agg #[.int .u8 (bt t 0),.int .u8 (bt t 1),.int .u8 (bt t 2),.int .u8 (bt t 3),.int .u8 (bt t 4),.int .u8 (bt t 5),.int .u8 (bt t 6),.int .u8 (bt t 7)]] w fun e w' => e = .returned (.int .u64 (bitsAt t 8)) ∧ Below w.heap.size w w' := bitmap_bits.at t w
theorem eql8 (t : ByteArray) (W : World) : (Op.equalIn 10000 154 (.agg #[.int .u8 (bt t 0),.int .u8 (bt t 1),.int .u8 (bt t 2),.int .u8 (bt t 3),.int .u8 (bt t 4),.int .u8 (bt t 5),.int .u8 (bt t 6),.int .u8 (bt t 7)]) (.agg #[.int .u8 0,.int .u8 0,.int .u8 0,.int .u8 0,.int .u8 0,.int .u8 0,.int .u8 0,.int .u8 0])).run prog W = .ok (zero8q t) W := by
 have h := run_equalIn_bytes (P := prog) W 9998 154 5 8 underlying154 underlying5 (by intro w;kernel_rfl) (bs8 t) [0,0,0,0,0,0,0,0] rfl rfl
 rw [← cells8_bs] at h
 exact h
def bmG (st : Int) (b : ByteArray) (i : Int) : (Int × Int) × Int × Int :=
 if (takeG st b i).2.2 ≠ 0 then ((0,0),0,(takeG st b i).2.2) else
 if Go.bits .and .u64 (bitsAt (takeG st b i).1 8) 9223372036854775808 = 0 then ((bitsAt (takeG st b i).1 8,0),(takeG st b i).2.1,0) else
 if (takeG st b (takeG st b i).2.1).2.2 ≠ 0 then ((0,0),0,(takeG st b (takeG st b i).2.1).2.2) else
 if zero8q (takeG st b (takeG st b i).2.1).1 = true then ((0,0),0,8) else
 ((Go.bits .andNot .u64 (bitsAt (takeG st b i).1 8) 9223372036854775808,bitsAt (takeG st b (takeG st b i).2.1).1 8),(takeG st b (takeG st b i).2.1).2.1,0)
theorem takeG_ok {st : Int} {b : ByteArray} {i : Int} (h0 : 0 ≤ i) (h1 : i ≤ b.size) (h : (takeG st b i).2.2 = 0) : i < (takeG st b i).2.1 ∧ (takeG st b i).2.1 ≤ b.size := by
 unfold takeG at h ⊢
 (repeat' split at h) <;> first | (exact absurd h (by decide)) | skip
 ·rename_i a c d
  rw [if_pos a,if_neg c,if_neg d]
  exact ⟨by show i < i + _;omega,by show i + _ ≤ _;omega⟩
 ·rename_i a c
  rw [if_neg a,if_neg c]
  exact ⟨by show i < i + _;omega,by show i + _ ≤ _;omega⟩
theorem setRow_fresh (W : World) (a b : Array Value) (t : TypeId) : (W.alloc (.cells a t)).setRow W.heap.size b = W.alloc (.cells b t) := by
 have h : (W.heap.push (Obj.cells a t)).modify W.heap.size (fun x => match x with | Obj.cells c elem frozen => Obj.cells b elem frozen | o => o) = W.heap.push (Obj.cells b t) := by
  apply Array.ext_getElem?
  intro i
  rw [Array.getElem?_modify,Array.getElem?_push,Array.getElem?_push]
  by_cases e : W.heap.size = i
  ·subst e;simp
  ·rw [if_neg e,if_neg (fun c => e c.symm),if_neg (fun c => e c.symm)]
 unfold World.setRow
 unfold World.alloc
 exact congrArg (fun q => ({ W with heap := q } : World)) h
theorem store_fresh8 (t : ByteArray) (W : World) : (storeCells { block := W.heap.size,off := 0 } (cells8 t).toList).run prog (W.alloc (.cells #[.int .u8 0,.int .u8 0,.int .u8 0,.int .u8 0,.int .u8 0,.int .u8 0,.int .u8 0,.int .u8 0] 154)) = .ok () (W.alloc (.cells (cells8 t) 154)) := by
 have h := run_storeCells_at (P := prog) W.heap.size 0 154 (cells8 t).toList 0 _ (W.alloc (.cells #[.int .u8 0,.int .u8 0,.int .u8 0,.int .u8 0,.int .u8 0,.int .u8 0,.int .u8 0,.int .u8 0] 154)) (blk_new W _) (by simp [cells8]) (by
  intro v hv
  simp only [cells8,List.mem_cons,List.not_mem_nil,or_false] at hv
  rcases hv with rfl | rfl | rfl | rfl | rfl | rfl | rfl | rfl <;> rfl)
 refine h.trans ?_
 rw [setRow_fresh]
 rfl
set_option maxHeartbeats 2000000 in
theorem bitmap_Get.at (st : Int) (b : ByteArray) (i : Int) (w : World) (hst : st = 1 ∨ st = 2) (h0 : 0 ≤ i) (h1 : i ≤ b.size) (hb : b.size ≤ 100000) :
  Calls prog 34 #[.int .i64 st,.string b,.int .i64 i] w fun e w' => e = .returned (.tuple #[vSet (bmG st b i).1,.int .i64 (bmG st b i).2.1,.int .i64 (bmG st b i).2.2]) ∧ Below w.heap.size w w' := by
 have hu82 := underlying82
 have hu154 := underlying154
 have hk : known st = true := by rcases hst with rfl | rfl <;> decide
 have a0 : decide (i < 0) = false := d_F (by omega)
 have a1 : decide ((b.size : Int) < i) = false := d_F (by omega)
 obtain ⟨r,hg⟩ : ∃ r,bmG st b i = r := ⟨_,rfl⟩
 rw [hg]
 rw [bmG] at hg
 have hok := takeG_ok (st := st) h0 h1
 obtain ⟨x1,x2,x3,hx⟩ : ∃ x1 x2 x3,takeG st b i = (x1,x2,x3) := ⟨_,_,_,rfl⟩
 rw [hx] at hg hok
 simp only at hg hok
 have st1 := store_fresh8 x1
 have z0 : ∀ h : 0 < (cells8 x1).size,(cells8 x1)[0] = .int .u8 (bt x1 0) := fun _ => rfl
 have z1 : ∀ h : 1 < (cells8 x1).size,(cells8 x1)[1] = .int .u8 (bt x1 1) := fun _ => rfl
 have z2 : ∀ h : 2 < (cells8 x1).size,(cells8 x1)[2] = .int .u8 (bt x1 2) := fun _ => rfl
 have z3 : ∀ h : 3 < (cells8 x1).size,(cells8 x1)[3] = .int .u8 (bt x1 3) := fun _ => rfl
 have z4 : ∀ h : 4 < (cells8 x1).size,(cells8 x1)[4] = .int .u8 (bt x1 4) := fun _ => rfl
 have z5 : ∀ h : 5 < (cells8 x1).size,(cells8 x1)[5] = .int .u8 (bt x1 5) := fun _ => rfl
 have z6 : ∀ h : 6 < (cells8 x1).size,(cells8 x1)[6] = .int .u8 (bt x1 6) := fun _ => rfl
 have z7 : ∀ h : 7 < (cells8 x1).size,(cells8 x1)[7] = .int .u8 (bt x1 7) := fun _ => rfl
 by_cases c1 : x3 = 0
 ·have e1 : (x3 != 0) = false := bne_eq_false_iff_eq.mpr c1
  rw [if_neg (by omega)] at hg
  have hj := hok c1
  have h2 : Aside0 (0 ≤ x2) := ⟨by omega⟩
  have h3 : Aside0 (x2 ≤ b.size) := ⟨hj.2⟩
  clear hok c1 hj
  obtain ⟨X,hX⟩ : ∃ X,bitsAt x1 8 = X := ⟨_,rfl⟩
  rw [hX] at hg
  by_cases c2 : Go.bits .and .u64 X 9223372036854775808 = 0
  ·have e2 : (Go.bits .and .u64 X 9223372036854775808 == 0) = true := beq_iff_eq.mpr c2
   rw [if_pos c2] at hg
   have HG := aS hg
   clear hg c2
   go_enter func34,ntmps34
   go_wp2_with (first | (go_at_call 81;refine (bitmap_known.at _ _).mono ?_;rintro e w1 ⟨rfl,rfl⟩;rw [hk]) | (go_at_call 82;refine (bitmap_take.at _ _ _ _ hst h0 h1 hb).mono ?_;rintro e w2 ⟨rfl,hb1⟩;rw [hx];have B := aS (blk_nb hb1);have H := aS (below_a1 hb1);have k0 := blk_cell B.out 0;have k1 := blk_cell B.out 1;have f0 := blk_frozen B.out 0;have f1 := blk_frozen B.out 1;have g0 := fun o => blk_frozen (blk_alloc B.out o) 0;have g1 := fun o => blk_frozen (blk_alloc B.out o) 1;have l0 := fun o => blk_cell (blk_alloc B.out o) 0;have l1 := fun o => blk_cell (blk_alloc B.out o) 1;clear hb1) | (go_at_call 83;refine (bitmap_bits.at' _ _).mono ?_;rintro e w3 ⟨rfl,hb3⟩;rw [hX];have B_ := aS (k_B (blk_alloc B.out _) hb3);have H_ := aS (b_s (b_l H.out _) hb3);clear B H k0 k1 f0 f1 g0 g1 l0 l1;have B := B_;have H := H_;clear B_ H_;have k0 := blk_cell B.out 0;have k1 := blk_cell B.out 1;have f0 := blk_frozen B.out 0;have f1 := blk_frozen B.out 1;have g0 := fun o => blk_frozen (blk_alloc B.out o) 0;have g1 := fun o => blk_frozen (blk_alloc B.out o) 1;have l0 := fun o => blk_cell (blk_alloc B.out o) 0;have l1 := fun o => blk_cell (blk_alloc B.out o) 1;clear hb3) | (go_at_call 84;refine (fields_Bits.at _ _ _).mono ?_;rintro e w4 ⟨rfl,hb4⟩;have B_ := aS (k_B B.out hb4);have H_ := aS (b_s H.out hb4);clear B H k0 k1 f0 f1 g0 g1 l0 l1;have B := B_;have H := H_;clear B_ H_;have k0 := blk_cell B.out 0;have k1 := blk_cell B.out 1;have f0 := blk_frozen B.out 0;have f1 := blk_frozen B.out 1;have g0 := fun o => blk_frozen (blk_alloc B.out o) 0;have g1 := fun o => blk_frozen (blk_alloc B.out o) 1;have l0 := fun o => blk_cell (blk_alloc B.out o) 0;have l1 := fun o => blk_cell (blk_alloc B.out o) 1;clear hb4;simp only [vSet]))
   refine bodyPost_ret (results_ctt rfl _ _ w.heap.size 82 _ (0,0) _ rfl (blk_put (blk_put B.out 0 _ rfl) 1 _ rfl) hu82 rfl (by kernel_rfl)) rfl ?_
   obtain rfl := HG.out
   exact ⟨rfl,(H.out.setCell (p := ⟨w.heap.size,0,none⟩) (Nat.le_refl _) _).setCell (p := ⟨w.heap.size,1,none⟩) (Nat.le_refl _) _⟩
  ·have e2 : (Go.bits .and .u64 X 9223372036854775808 == 0) = false := beq_eq_false_iff_ne.mpr c2
   rw [if_neg c2] at hg
   obtain ⟨y1,y2,y3,hy⟩ : ∃ y1 y2 y3,takeG st b x2 = (y1,y2,y3) := ⟨_,_,_,rfl⟩
   rw [hy] at hg
   simp only at hg
   have st2 := store_fresh8 y1
   have y0z : ∀ h : 0 < (cells8 y1).size,(cells8 y1)[0] = .int .u8 (bt y1 0) := fun _ => rfl
   have y1z : ∀ h : 1 < (cells8 y1).size,(cells8 y1)[1] = .int .u8 (bt y1 1) := fun _ => rfl
   have y2z : ∀ h : 2 < (cells8 y1).size,(cells8 y1)[2] = .int .u8 (bt y1 2) := fun _ => rfl
   have y3z : ∀ h : 3 < (cells8 y1).size,(cells8 y1)[3] = .int .u8 (bt y1 3) := fun _ => rfl
   have y4z : ∀ h : 4 < (cells8 y1).size,(cells8 y1)[4] = .int .u8 (bt y1 4) := fun _ => rfl
   have y5z : ∀ h : 5 < (cells8 y1).size,(cells8 y1)[5] = .int .u8 (bt y1 5) := fun _ => rfl
   have y6z : ∀ h : 6 < (cells8 y1).size,(cells8 y1)[6] = .int .u8 (bt y1 6) := fun _ => rfl
   have y7z : ∀ h : 7 < (cells8 y1).size,(cells8 y1)[7] = .int .u8 (bt y1 7) := fun _ => rfl
   obtain ⟨Y,hY⟩ : ∃ Y,bitsAt y1 8 = Y := ⟨_,rfl⟩
   rw [hY] at hg
   clear c2
   by_cases c3 : y3 = 0
   ·have e3 : (y3 != 0) = false := bne_eq_false_iff_eq.mpr c3
    rw [if_neg (by omega)] at hg
    clear c3
    have hE := eql8 y1
    obtain ⟨q,hq⟩ : ∃ q,zero8q y1 = q := ⟨_,rfl⟩
    simp only [hq] at hE
    rw [hq] at hg
    have HG := aS hg
    clear hg hq
    cases q with
    | true =>
     go_enter func34,ntmps34
     go_wp2_with (first | (go_at_call 81;refine (bitmap_known.at _ _).mono ?_;rintro e w1 ⟨rfl,rfl⟩;rw [hk]) | (go_at_call 82;refine (bitmap_take.at _ _ _ _ hst ?ta ?tb hb).mono ?_;(case ta => first | exact h0 | exact h2.out);(case tb => first | exact h1 | exact h3.out);rintro e w2 ⟨rfl,hb1⟩;(first | rw [hx] | rw [hy]);(first | (have B_ := aS (k_B B.out hb1);have H_ := aS (b_s H.out hb1);clear B H k0 k1 f0 f1 g0 g1 l0 l1;have B := B_;have H := H_;clear B_ H_;have k0 := blk_cell B.out 0;have k1 := blk_cell B.out 1;have f0 := blk_frozen B.out 0;have f1 := blk_frozen B.out 1;have g0 := fun o => blk_frozen (blk_alloc B.out o) 0;have g1 := fun o => blk_frozen (blk_alloc B.out o) 1;have l0 := fun o => blk_cell (blk_alloc B.out o) 0;have l1 := fun o => blk_cell (blk_alloc B.out o) 1) | (have B := aS (blk_nb hb1);have H := aS (below_a1 hb1);have k0 := blk_cell B.out 0;have k1 := blk_cell B.out 1;have f0 := blk_frozen B.out 0;have f1 := blk_frozen B.out 1;have g0 := fun o => blk_frozen (blk_alloc B.out o) 0;have g1 := fun o => blk_frozen (blk_alloc B.out o) 1;have l0 := fun o => blk_cell (blk_alloc B.out o) 0;have l1 := fun o => blk_cell (blk_alloc B.out o) 1));clear hb1) | (go_at_call 83;refine (bitmap_bits.at' _ _).mono ?_;rintro e w3 ⟨rfl,hb3⟩;(first | rw [hX] | rw [hY]);have B_ := aS (k_B (blk_alloc B.out _) hb3);have H_ := aS (b_s (b_l H.out _) hb3);clear B H k0 k1 f0 f1 g0 g1 l0 l1;have B := B_;have H := H_;clear B_ H_;have k0 := blk_cell B.out 0;have k1 := blk_cell B.out 1;have f0 := blk_frozen B.out 0;have f1 := blk_frozen B.out 1;have g0 := fun o => blk_frozen (blk_alloc B.out o) 0;have g1 := fun o => blk_frozen (blk_alloc B.out o) 1;have l0 := fun o => blk_cell (blk_alloc B.out o) 0;have l1 := fun o => blk_cell (blk_alloc B.out o) 1;clear hb3))
     refine bodyPost_ret (results_ctt rfl _ _ w.heap.size 82 _ (0,0) _ rfl (blk_put (blk_put (blk_alloc B.out _) 0 _ rfl) 1 _ rfl) hu82 rfl (by kernel_rfl)) rfl ?_
     obtain rfl := HG.out
     exact ⟨rfl,((b_l H.out _).setCell (p := ⟨w.heap.size,0,none⟩) (Nat.le_refl _) _).setCell (p := ⟨w.heap.size,1,none⟩) (Nat.le_refl _) _⟩
    | false =>
     go_enter func34,ntmps34
     go_wp2_with (first | (go_at_call 81;refine (bitmap_known.at _ _).mono ?_;rintro e w1 ⟨rfl,rfl⟩;rw [hk]) | (go_at_call 82;refine (bitmap_take.at _ _ _ _ hst ?ta ?tb hb).mono ?_;(case ta => first | exact h0 | exact h2.out);(case tb => first | exact h1 | exact h3.out);rintro e w2 ⟨rfl,hb1⟩;(first | rw [hx] | rw [hy]);(first | (have B_ := aS (k_B B.out hb1);have H_ := aS (b_s H.out hb1);clear B H k0 k1 f0 f1 g0 g1 l0 l1;have B := B_;have H := H_;clear B_ H_;have k0 := blk_cell B.out 0;have k1 := blk_cell B.out 1;have f0 := blk_frozen B.out 0;have f1 := blk_frozen B.out 1;have g0 := fun o => blk_frozen (blk_alloc B.out o) 0;have g1 := fun o => blk_frozen (blk_alloc B.out o) 1;have l0 := fun o => blk_cell (blk_alloc B.out o) 0;have l1 := fun o => blk_cell (blk_alloc B.out o) 1) | (have B := aS (blk_nb hb1);have H := aS (below_a1 hb1);have k0 := blk_cell B.out 0;have k1 := blk_cell B.out 1;have f0 := blk_frozen B.out 0;have f1 := blk_frozen B.out 1;have g0 := fun o => blk_frozen (blk_alloc B.out o) 0;have g1 := fun o => blk_frozen (blk_alloc B.out o) 1;have l0 := fun o => blk_cell (blk_alloc B.out o) 0;have l1 := fun o => blk_cell (blk_alloc B.out o) 1));clear hb1) | (go_at_call 83;refine (bitmap_bits.at' _ _).mono ?_;rintro e w3 ⟨rfl,hb3⟩;(first | rw [hX] | rw [hY]);have B_ := aS (k_B (blk_alloc B.out _) hb3);have H_ := aS (b_s (b_l H.out _) hb3);clear B H k0 k1 f0 f1 g0 g1 l0 l1;have B := B_;have H := H_;clear B_ H_;have k0 := blk_cell B.out 0;have k1 := blk_cell B.out 1;have f0 := blk_frozen B.out 0;have f1 := blk_frozen B.out 1;have g0 := fun o => blk_frozen (blk_alloc B.out o) 0;have g1 := fun o => blk_frozen (blk_alloc B.out o) 1;have l0 := fun o => blk_cell (blk_alloc B.out o) 0;have l1 := fun o => blk_cell (blk_alloc B.out o) 1;clear hb3) | (go_at_call 84;refine (fields_Bits.at _ _ _).mono ?_;rintro e w4 ⟨rfl,hb4⟩;have B_ := aS (k_B B.out hb4);have H_ := aS (b_s H.out hb4);clear B H k0 k1 f0 f1 g0 g1 l0 l1;have B := B_;have H := H_;clear B_ H_;have k0 := blk_cell B.out 0;have k1 := blk_cell B.out 1;have f0 := blk_frozen B.out 0;have f1 := blk_frozen B.out 1;have g0 := fun o => blk_frozen (blk_alloc B.out o) 0;have g1 := fun o => blk_frozen (blk_alloc B.out o) 1;have l0 := fun o => blk_cell (blk_alloc B.out o) 0;have l1 := fun o => blk_cell (blk_alloc B.out o) 1;clear hb4;simp only [vSet]))
     refine bodyPost_ret (results_ctt rfl _ _ w.heap.size 82 _ (0,0) _ rfl (blk_put (blk_put B.out 0 _ rfl) 1 _ rfl) hu82 rfl (by kernel_rfl)) rfl ?_
     obtain rfl := HG.out
     exact ⟨rfl,(H.out.setCell (p := ⟨w.heap.size,0,none⟩) (Nat.le_refl _) _).setCell (p := ⟨w.heap.size,1,none⟩) (Nat.le_refl _) _⟩
   ·have e3 : (y3 != 0) = true := bne_iff_ne.mpr c3
    rw [if_pos c3] at hg
    have HG := aS hg
    clear hg c3
    go_enter func34,ntmps34
    go_wp2_with (first | (go_at_call 81;refine (bitmap_known.at _ _).mono ?_;rintro e w1 ⟨rfl,rfl⟩;rw [hk]) | (go_at_call 82;refine (bitmap_take.at _ _ _ _ hst ?ta ?tb hb).mono ?_;(case ta => first | exact h0 | exact h2.out);(case tb => first | exact h1 | exact h3.out);rintro e w2 ⟨rfl,hb1⟩;(first | rw [hx] | rw [hy]);(first | (have B_ := aS (k_B B.out hb1);have H_ := aS (b_s H.out hb1);clear B H k0 k1 f0 f1 g0 g1 l0 l1;have B := B_;have H := H_;clear B_ H_;have k0 := blk_cell B.out 0;have k1 := blk_cell B.out 1;have f0 := blk_frozen B.out 0;have f1 := blk_frozen B.out 1;have g0 := fun o => blk_frozen (blk_alloc B.out o) 0;have g1 := fun o => blk_frozen (blk_alloc B.out o) 1;have l0 := fun o => blk_cell (blk_alloc B.out o) 0;have l1 := fun o => blk_cell (blk_alloc B.out o) 1) | (have B := aS (blk_nb hb1);have H := aS (below_a1 hb1);have k0 := blk_cell B.out 0;have k1 := blk_cell B.out 1;have f0 := blk_frozen B.out 0;have f1 := blk_frozen B.out 1;have g0 := fun o => blk_frozen (blk_alloc B.out o) 0;have g1 := fun o => blk_frozen (blk_alloc B.out o) 1;have l0 := fun o => blk_cell (blk_alloc B.out o) 0;have l1 := fun o => blk_cell (blk_alloc B.out o) 1));clear hb1) | (go_at_call 83;refine (bitmap_bits.at' _ _).mono ?_;rintro e w3 ⟨rfl,hb3⟩;(first | rw [hX] | rw [hY]);have B_ := aS (k_B (blk_alloc B.out _) hb3);have H_ := aS (b_s (b_l H.out _) hb3);clear B H k0 k1 f0 f1 g0 g1 l0 l1;have B := B_;have H := H_;clear B_ H_;have k0 := blk_cell B.out 0;have k1 := blk_cell B.out 1;have f0 := blk_frozen B.out 0;have f1 := blk_frozen B.out 1;have g0 := fun o => blk_frozen (blk_alloc B.out o) 0;have g1 := fun o => blk_frozen (blk_alloc B.out o) 1;have l0 := fun o => blk_cell (blk_alloc B.out o) 0;have l1 := fun o => blk_cell (blk_alloc B.out o) 1;clear hb3))
    refine bodyPost_ret (results_ctt rfl _ _ w.heap.size 82 _ (0,0) _ rfl (blk_put (blk_put (blk_alloc B.out _) 0 _ rfl) 1 _ rfl) hu82 rfl (by kernel_rfl)) rfl ?_
    obtain rfl := HG.out
    exact ⟨rfl,((b_l H.out _).setCell (p := ⟨w.heap.size,0,none⟩) (Nat.le_refl _) _).setCell (p := ⟨w.heap.size,1,none⟩) (Nat.le_refl _) _⟩
 ·have e1 : (x3 != 0) = true := bne_iff_ne.mpr c1
  rw [if_pos c1] at hg
  have HG := aS hg
  clear hg c1
  go_enter func34,ntmps34
  go_wp2_with (first | (go_at_call 81;refine (bitmap_known.at _ _).mono ?_;rintro e w1 ⟨rfl,rfl⟩;rw [hk]) | (go_at_call 82;refine (bitmap_take.at _ _ _ _ hst h0 h1 hb).mono ?_;rintro e w2 ⟨rfl,hb1⟩;rw [hx];have B := aS (blk_nb hb1);have H := aS (below_a1 hb1);have k0 := blk_cell B.out 0;have k1 := blk_cell B.out 1;have f0 := blk_frozen B.out 0;have f1 := blk_frozen B.out 1;have g0 := fun o => blk_frozen (blk_alloc B.out o) 0;have g1 := fun o => blk_frozen (blk_alloc B.out o) 1;have l0 := fun o => blk_cell (blk_alloc B.out o) 0;have l1 := fun o => blk_cell (blk_alloc B.out o) 1;clear hb1))
  refine bodyPost_ret (results_ctt rfl _ _ w.heap.size 82 _ (0,0) _ rfl (blk_put (blk_put (blk_alloc B.out _) 0 _ rfl) 1 _ rfl) hu82 rfl (by kernel_rfl)) rfl ?_
  obtain rfl := HG.out
  exact ⟨rfl,((b_l H.out _).setCell (p := ⟨w.heap.size,0,none⟩) (Nat.le_refl _) _).setCell (p := ⟨w.heap.size,1,none⟩) (Nat.le_refl _) _⟩
end Go.Proofs.YtgbmnpgaddhfpaaGreatDoor.T
namespace Go.Proofs.YtgbmnpgaddhfpaaGreatDoor.T
open Go.RowKit Go.Proofs.YtgbmnpgaddhfpaaGreatDoorW.PrintWords Go.Proofs.YtgbmnpgaddhfpaaGreatDoorW.PrintLast Go.Proofs.YtgbmnpgaddhfpaaGreatDoorW.PrintMore
attribute [local go_sem] max2_int min2_int max_two min_two
open Go.Proofs.YtgbmnpgaddhfpaaGreatDoor.G
open Tryz
set_option maxRecDepth 100000
def respM (m : ByteArray) : ByteArray := (m.extract 0 2 ++ strOfNums [bt m 2 + 1]) ++ m.extract 3 4
theorem one8 (x : Int) (W : World) : (convert 101 9 (.slice (some ⟨W.heap.size,0,none⟩) 1 1)).run prog (W.alloc (.cells #[.int .u8 x] 5)) = .ok (.string (strOfNums [x])) (W.alloc (.cells #[.int .u8 x] 5)) := by
 refine Kd.C_string (P := prog) (xs := [x]) underlying101 underlying5 underlying9 ?_
 refine ⟨rfl,by omega,fun _ => ⟨_,rfl,fun j p hj => ⟨[.int .u8 p],rfl,rfl,fun i u hu => ?_⟩⟩⟩
 rcases i with _ | i
 ·rcases j with _ | j
  ·simp only [List.getElem?_cons_zero,Option.some.injEq] at hu hj
   subst hu hj
   exact blk_cell (blk_new W _) 0
  ·exact absurd hj (by simp)
 ·exact absurd hu (by simp)
theorem one8d (x : Int) (W : World) : (convert 101 9 (.slice (some ⟨W.heap.size,0,none⟩) 1 1)).run prog (W.alloc (.cells #[.int .u8 x] 5)).drew = .ok (.string (strOfNums [x])) (W.alloc (.cells #[.int .u8 x] 5)).drew := by
 refine Kd.C_string (P := prog) (xs := [x]) underlying101 underlying5 underlying9 ?_
 refine ⟨rfl,by omega,fun _ => ⟨_,rfl,fun j p hj => ⟨[.int .u8 p],rfl,rfl,fun i u hu => ?_⟩⟩⟩
 rcases i with _ | i
 ·rcases j with _ | j
  ·simp only [List.getElem?_cons_zero,Option.some.injEq] at hu hj
   subst hu hj
   exact blk_cell (w := (W.alloc (.cells #[.int .u8 _] 5)).drew) (blk_new W _) 0
  ·exact absurd hj (by simp)
 ·exact absurd hu (by simp)
set_option maxHeartbeats 1000000 in
theorem mti_Response.at (m : ByteArray) (w : World) (hm : reqM m = true) : Calls prog 16 #[.string m] w fun e w' => e = .returned (.tuple #[.string (respM m),.bool true]) ∧ Below w.heap.size w w' := by
 have h4 : m.size = 4 ∧ allD m = true := by
  unfold reqM at hm
  simp only [Bool.and_eq_true] at hm
  exact isMti_iff.1 hm.1
 have hb := bt_get (s := m) (i := 2) (by omega)
 have hr := allD_at h4.2 (i := 2) (by omega)
 have hz : m.size = 4 := h4.1
 have hcv := one8d
 have e5 : IntKind.u8.wrap (((m[2]'(by omega)).toNat : Int) + 1) = bt m 2 + 1 := by rw [show bt m 2 = _ from hb,IntKind.wrap_u8];omega
 have hs1 : (strOfNums [bt m 2 + 1]).size = 1 := nums_size _
 have hs2 : (m.extract 0 2).size = 2 := by rw [ByteArray.size_extract];omega
 have hs3 : (m.extract 3 4).size = 1 := by rw [ByteArray.size_extract];omega
 have q : ((2 : Int) < m.size) = True := eq_true (by omega)
 have q2 : (2 < m.size) = True := eq_true (by omega)
 have q3 : ((2 : Int) ≤ m.size) = True := eq_true (by omega)
 have q4 : ((3 : Int) ≤ m.size) = True := eq_true (by omega)
 go_enter func16,ntmps16
 go_wp2_with (first | (go_at_call 13;refine (mti_Request.at _ _).mono ?_;rintro e w1 ⟨rfl,hb1⟩;rw [hm]))
 go_region_with (fail)
 all_goals go_wp2
 all_goals go_ret2
 all_goals exact ⟨rfl,by repeat (first | exact hb1 | apply below_drew1 | apply b_l)⟩
def tableOk (f t : S87) (l : List S66) : Prop := ∀ p ∈ l,specValue f p.f0 = 0 ∧ specValue t p.f1 = 0
set_option maxHeartbeats 4000000 in
theorem rule_table.at (A : Option Addr) (c : Nat) (l : List S66) (x y : S87) (w : World) (h256 : l.length ≤ 256) (hne : l.length ≠ 0) (hfr : freshS [] l = true) (hr : Kd.C k66 w A l.length l) (hc : l.length ≤ c) (ht : tableOk x y l) :
  Calls prog 145 #[.slice A l.length c,v87 x,v87 y] w fun e w' => e = .returned (.int .i64 0) ∧ Below w.heap.size w w' := by
 have hu66 := underlying66
 have hu87 := underlying87
 have HSZ : Aside0 (∀ p ∈ l,p.f0.size ≤ 1000000) := ⟨fun p hp => by have := (specValue_facts (ht p hp).1).2.2.2;omega⟩
 have HR := aS hr
 have HC := aS hc
 have HT := aS ht
 have HFR := aS hfr
 have c1 : ((l.length : Int) == 0) = false := beq_eq_false_iff_ne.mpr (by omega)
 clear hr hc ht hfr hne
 unfold v87
 go_enter func145,ntmps145
 go_wp2_with (first | (go_at_call 171;refine (codes_Check.at A c l _ h256 HSZ.out HFR.out (c_B HR.out (Box2.start w _ _).below) HC.out).mono ?_;rintro e w1 ⟨rfl,hb1⟩;have D := aS (Box2.init hb1);clear hb1;obtain ⟨a0,a1,a2,a3,a4⟩ := cells_5 D.out.h1;obtain ⟨b0,b1,b2,b3,b4⟩ := cells_5 D.out.h2))
 clear a0 a1 a2 a3 a4 b0 b1 b2 b3 b4
 go_loopg [27] l.length (fun g v27 w' => ∃ (i : Nat),v27 = .int .i64 i ∧ i + g = l.length ∧ Aside0 (Box2 w w' (.cells #[.int .i64 x.f0,.int .i64 x.f1,.int .i64 x.f2,.int .i64 x.f3,.int .i64 x.f4] 87) (.cells #[.int .i64 y.f0,.int .i64 y.f1,.int .i64 y.f2,.int .i64 y.f3,.int .i64 y.f4] 87)))
 case atStart => exact ⟨0,rfl,Nat.zero_add _,D⟩
 case round =>
  clear D
  obtain ⟨i,rfl,hi,D⟩ := hrel
  by_cases h : i < l.length
  ·have e0 : decide ((i : Int) < l.length) = true := d_T (by omega)
   obtain ⟨ad,rfl,hx0,hx1⟩ := at66 HR.out D.out.below i h
   have q0 : (0 ≤ (i : Int)) = True := eq_true (by omega)
   have q1 : ((i : Int) < l.length) = True := eq_true (by omega)
   have k := HT.out _ (rd_mem66 h)
   generalize rd_T66 l (i : Int) = p at *
   have K1 := aS k.1
   have K2 := aS k.2
   have S1 : Aside0 (p.f0.size ≤ 1000000) := ⟨by have := (specValue_facts k.1).2.2.2;omega⟩
   have S2 : Aside0 (p.f1.size ≤ 1000000) := ⟨by have := (specValue_facts k.2).2.2.2;omega⟩
   obtain ⟨a0,a1,a2,a3,a4⟩ := cells_5 D.out.h1
   obtain ⟨b0,b1,b2,b3,b4⟩ := cells_5 D.out.h2
   have AA := cells_5a D.out.h1
   clear k
   go_wp2_with (first | (go_at_call 90;have D0 := P20;clear D0;refine (spec_Value.at y p.f1 _ S2.out).mono ?_;rintro e w2 ⟨rfl,hb1⟩;rw [K2.out];have D_ := aS (D.out.step hb1);clear D P20 a0 a1 a2 a3 a4 b0 b1 b2 b3 b4 zp0 zp1;have D := D_;clear D_;obtain ⟨b0,b1,b2,b3,b4⟩ := cells_5 D.out.h2) | (go_at_call 90;refine (spec_Value.at x p.f0 _ S1.out).mono ?_;rintro e w1 ⟨rfl,hb1⟩;rw [K1.out];have P20 := aS (blk_nb hb1);obtain ⟨zp0,zp1⟩ := cells_2 P20.out;have D_ := aS (D.out.step (below_a1 hb1));clear D a0 a1 a2 a3 a4 b0 b1 b2 b3 b4 AA hb1;have D := D_;clear D_;obtain ⟨a0,a1,a2,a3,a4⟩ := cells_5 D.out.h1;obtain ⟨b0,b1,b2,b3,b4⟩ := cells_5 D.out.h2))
   obtain ⟨g,rfl⟩ : ∃ g,gk = g + 1 := ⟨gk - 1,by omega⟩
   go_roundg g
   case rel => exact ⟨i + 1,rfl,by omega,D⟩
   case measure => omega
  ·have e0 : decide ((i : Int) < l.length) = false := d_F (by omega)
   go_wp2
   go_ret
   exact ⟨rfl,D.out.below⟩
def decLoop (st : Int) (l : List S87) (p : Int × Int) (b : ByteArray) : Nat → Int → Int → List S63 → List S63 × Int × Int × Int
 | 0,_,i,xs => (xs,0,0,i)
 | d + 1,no,i,xs => if no = 0 then (xs,0,0,i) else if (findS no l).2 = false then (xs,9,no,i) else
   if (cellG st (findS no l).1 b i).2.2 ≠ 0 then (xs,(cellG st (findS no l).1 b i).2.2,no,i) else
   decLoop st l p b d (nextS p no) (cellG st (findS no l).1 b i).2.1 (xs ++ [⟨no,(cellG st (findS no l).1 b i).1⟩])
def decB (st : Int) (l : List S87) (m b : ByteArray) (i : Int) : (ByteArray × List S63) × Int × Int :=
 if (bmG st b i).2.2 ≠ 0 then ((m,[]),(bmG st b i).2.2,1) else
 if (decLoop st l (bmG st b i).1 b 129 (nextS (bmG st b i).1 0) (bmG st b i).2.1 []).2.1 ≠ 0 then
  ((m,(decLoop st l (bmG st b i).1 b 129 (nextS (bmG st b i).1 0) (bmG st b i).2.1 []).1),(decLoop st l (bmG st b i).1 b 129 (nextS (bmG st b i).1 0) (bmG st b i).2.1 []).2.1,(decLoop st l (bmG st b i).1 b 129 (nextS (bmG st b i).1 0) (bmG st b i).2.1 []).2.2.1) else
 if (decLoop st l (bmG st b i).1 b 129 (nextS (bmG st b i).1 0) (bmG st b i).2.1 []).2.2.2 < b.size then
  ((m,(decLoop st l (bmG st b i).1 b 129 (nextS (bmG st b i).1 0) (bmG st b i).2.1 []).1),12,129) else
 ((m,(decLoop st l (bmG st b i).1 b 129 (nextS (bmG st b i).1 0) (bmG st b i).2.1 []).1),0,0)
def decG (st ver : Int) (l : List S87) (b : ByteArray) : (ByteArray × List S63) × Int × Int :=
 if (typG st ver b).2.2 ≠ 0 then ((⟨#[]⟩,[]),(typG st ver b).2.2,0) else decB st l (typG st ver b).1 b (typG st ver b).2.1
theorem typG_ok {st ver : Int} {b : ByteArray} (h : (typG st ver b).2.2 = 0) : 0 ≤ (typG st ver b).2.1 ∧ (typG st ver b).2.1 ≤ b.size := by
 unfold typG at h ⊢
 (repeat' split at h) <;> first | (exact absurd h (by decide)) | skip
 ·rename_i a c d e
  rw [if_pos a,if_neg c,if_neg d,if_neg e]
  exact ⟨by show (0 : Int) ≤ 2;omega,by show (2 : Int) ≤ _;omega⟩
 ·rename_i a c d e
  rw [if_neg a,if_neg c,if_neg d,if_neg e]
  exact ⟨by show (0 : Int) ≤ 4;omega,by show (4 : Int) ≤ _;omega⟩
theorem bmG_ok {st : Int} {b : ByteArray} {i : Int} (h0 : 0 ≤ i) (h1 : i ≤ b.size) (h : (bmG st b i).2.2 = 0) : 0 ≤ (bmG st b i).2.1 ∧ (bmG st b i).2.1 ≤ b.size := by
 unfold bmG at h ⊢
 by_cases c : (takeG st b i).2.2 = 0
 ·have h2 := takeG_ok h0 h1 c
  rw [if_neg (by simpa using c)] at h ⊢
  split
  ·exact ⟨by show 0 ≤ (takeG st b i).2.1;omega,by show (takeG st b i).2.1 ≤ _;omega⟩
  ·rename_i d
   rw [if_neg d] at h
   by_cases e : (takeG st b (takeG st b i).2.1).2.2 = 0
   ·have h3 := takeG_ok (by omega) h2.2 e
    rw [if_neg (by simpa using e)] at h ⊢
    split
    ·rename_i f
     rw [if_pos f] at h
     exact absurd h (by decide)
    ·exact ⟨by show 0 ≤ (takeG st b (takeG st b i).2.1).2.1;omega,by show (takeG st b (takeG st b i).2.1).2.1 ≤ _;omega⟩
   ·rw [if_pos e] at h
    exact absurd h e
 ·rw [if_pos c] at h
  exact absurd h c
theorem cellM_ok {st : Int} {x : S87} {b : ByteArray} {n i : Int} (hn : 0 ≤ n) (h0 : 0 ≤ i) (h1 : i ≤ b.size) (h : (cellM st x b n i).2.2 = 0) : 0 ≤ (cellM st x b n i).2.1 ∧ (cellM st x b n i).2.1 ≤ b.size ∧ specValue x (cellM st x b n i).1 = 0 := by
 have hz : 0 ≤ cellSz st x n := by unfold cellSz bcdSize;(repeat' split) <;> omega
 have hF : ∀ t j,(cellF x t j).2.2 = 0 → specValue x (cellF x t j).1 = 0 ∧ (cellF x t j).2.1 = j := by
  intro t j hh
  unfold cellF at hh ⊢
  split at hh
  ·rename_i c;exact absurd hh c
  ·rename_i c;rw [if_neg c];exact ⟨by simpa using c,rfl⟩
 unfold cellM at h ⊢
 split at h
 ·exact absurd h (by decide)
 ·rename_i c
  rw [if_neg c]
  unfold cellT at h ⊢
  (repeat' split at h) <;> first | (exact absurd h (by decide)) | skip
  ·rename_i a e
   exact absurd h e
  ·rename_i a e
   rw [if_pos a,if_neg e]
   have := hF _ _ h
   exact ⟨by omega,by omega,this.1⟩
  ·rename_i a e f
   rw [if_neg a,if_pos e,if_neg f]
   have := hF _ _ h
   exact ⟨by omega,by omega,this.1⟩
  ·rename_i a e
   rw [if_neg a,if_neg e]
   have := hF _ _ h
   exact ⟨by omega,by omega,this.1⟩
theorem specCheck_facts {x : S87} (hx : specCheck x = 0) : 2 ≤ x.f0 ∧ x.f0 ≤ 128 ∧ 1 ≤ x.f1 ∧ x.f1 ≤ 6 ∧ 1 ≤ x.f3 ∧ x.f3 ≤ x.f4 ∧ x.f4 ≤ 999 ∧ (x.f2 = 1 ∨ x.f2 = 2 ∨ x.f2 = 3) := by
 unfold specCheck at hx
 (repeat' split at hx) <;> first | (exact absurd hx (by decide)) | omega
theorem cellG_ok {st : Int} {x : S87} {b : ByteArray} {i : Int} (hst : st = 1 ∨ st = 2) (hx : specCheck x = 0) (h0 : 0 ≤ i) (h1 : i ≤ b.size) (h : (cellG st x b i).2.2 = 0) : 0 ≤ (cellG st x b i).2.1 ∧ (cellG st x b i).2.1 ≤ b.size ∧ specValue x (cellG st x b i).1 = 0 := by
 have hf := specCheck_facts hx
 unfold cellG at h ⊢
 by_cases c : x.f2 = 1
 ·rw [if_pos c] at h ⊢
  exact cellM_ok (by omega) h0 h1 h
 ·rw [if_neg c] at h ⊢
  by_cases d : (prefG st x.f2 b i).2.2 = 0
  ·have hp := prefG_ok hst (by omega) h0 h1 d
   rw [if_neg (by simpa using d)] at h ⊢
   by_cases e : (prefG st x.f2 b i).1 < x.f3 ∨ (prefG st x.f2 b i).1 > x.f4
   ·rw [if_pos e] at h
    exact absurd h (by decide)
   ·rw [if_neg e] at h ⊢
    exact cellM_ok (by omega) (by omega) hp.2 h
  ·rw [if_pos d] at h
   exact absurd h d
theorem scF_ok : ∀ (l : List S87) (prev i : Int),0 ≤ i → (scF l prev i).1 = 0 → ∀ x ∈ l,specCheck x = 0
 | [],_,_,_,_,_,hx => by cases hx
 | y :: ys,prev,i,hi,h,x,hx => by
  rw [scF] at h
  split at h
  ·rename_i c;exact absurd h c
  ·rename_i c
   split at h
   ·exact absurd h (by simp)
   ·rcases List.mem_cons.1 hx with rfl | hx
    ·simpa using c
    ·exact scF_ok ys _ _ (by omega) h x hx
theorem schemaCheck_ok {st ver : Int} {l : List S87} (h : (schemaCheck st ver l).1 = 0) : (st = 1 ∨ st = 2) ∧ (0 ≤ ver ∧ ver ≤ 9) ∧ ∀ x ∈ l,specCheck x = 0 := by
 unfold schemaCheck at h
 split at h
 ·exact absurd h (by decide)
 ·split at h
  ·exact absurd h (by decide)
  ·exact ⟨by omega,by omega,scF_ok l 0 0 (by omega) h⟩
theorem findS_ok {no : Int} : ∀ {l : List S87},(findS no l).2 = true → (findS no l).1 ∈ l ∧ (findS no l).1.f0 = no
 | [],h => by cases h
 | x :: xs,h => by
  rw [findS] at h ⊢
  split at h
  ·rename_i c;rw [if_pos c];exact ⟨List.mem_cons_self,c⟩
  ·rename_i c;rw [if_neg c];have := findS_ok h;exact ⟨List.mem_cons_of_mem _ this.1,this.2⟩
structure Dec4 (w W : World) (st ver : Int) (sl : Value) (m : ByteArray) (v : Value) : Prop where
 b2 : W.heap[w.heap.size]? = some (.cells #[.int .i64 st,.int .i64 ver,sl] 24 (0,0))
 b4 : W.heap[w.heap.size + 1]? = some (.cells #[.string ⟨#[]⟩,.slice none 0 0] 42 (0,0))
 b5 : W.heap[w.heap.size + 1 + 1]? = some (.cells #[.int .i64 0,.int .i64 0] 45 (0,0))
 b6 : W.heap[w.heap.size + 1 + 1 + 1]? = some (.cells #[.string m,v] 42 (0,0))
 below : Below w.heap.size w W
theorem Dec4.init {w w1 : World} {st ver : Int} {sl : Value} (hb : Below ((((w.alloc (.cells #[.int .i64 st,.int .i64 ver,sl] 24)).alloc (.cells #[.string ⟨#[]⟩,.slice none 0 0] 42)).alloc (.cells #[.int .i64 0,.int .i64 0] 45)).alloc (.cells #[.string ⟨#[]⟩,.slice none 0 0] 42)).heap.size ((((w.alloc (.cells #[.int .i64 st,.int .i64 ver,sl] 24)).alloc (.cells #[.string ⟨#[]⟩,.slice none 0 0] 42)).alloc (.cells #[.int .i64 0,.int .i64 0] 45)).alloc (.cells #[.string ⟨#[]⟩,.slice none 0 0] 42)) w1) :
  Dec4 w w1 st ver sl ⟨#[]⟩ (.slice none 0 0) := by
 obtain ⟨a,b,c,d,e⟩ := four hb
 exact ⟨a,b,c,d,e⟩
theorem Dec4.step {w W W' : World} {st ver : Int} {sl : Value} {m : ByteArray} {v : Value} (D : Dec4 w W st ver sl m v) (hb : Below W.heap.size W W') : Dec4 w W' st ver sl m v :=
 ⟨k_B D.b2 hb,k_B D.b4 hb,k_B D.b5 hb,k_B D.b6 hb,b_s D.below hb⟩
theorem Dec4.facts {w W : World} {st ver : Int} {sl : Value} {m : ByteArray} {v : Value} (D : Dec4 w W st ver sl m v) :
  (W.cell? ⟨w.heap.size,0,none⟩ = some (.int .i64 st) ∧ W.cell? ⟨w.heap.size,1,none⟩ = some (.int .i64 ver) ∧ W.cell? ⟨w.heap.size,2,none⟩ = some sl) ∧
  (W.cell? ⟨w.heap.size + 1,0,none⟩ = some (.string ⟨#[]⟩) ∧ W.cell? ⟨w.heap.size + 1,1,none⟩ = some (.slice none 0 0)) ∧
  (W.cell? ⟨w.heap.size + 1 + 1,0,none⟩ = some (.int .i64 0) ∧ W.cell? ⟨w.heap.size + 1 + 1,1,none⟩ = some (.int .i64 0)) ∧
  (W.cell? ⟨w.heap.size + 1 + 1 + 1,0,none⟩ = some (.string m) ∧ W.cell? ⟨w.heap.size + 1 + 1 + 1,1,none⟩ = some v) :=
 ⟨⟨blk_cell D.b2 0,blk_cell D.b2 1,blk_cell D.b2 2⟩,⟨blk_cell D.b4 0,blk_cell D.b4 1⟩,⟨blk_cell D.b5 0,blk_cell D.b5 1⟩,⟨blk_cell D.b6 0,blk_cell D.b6 1⟩⟩
theorem Dec4.frozen {w W : World} {st ver : Int} {sl : Value} {m : ByteArray} {v : Value} (D : Dec4 w W st ver sl m v) :
  (W.frozen? ⟨w.heap.size + 1,0,none⟩ = false ∧ W.frozen? ⟨w.heap.size + 1,1,none⟩ = false) ∧
  (W.frozen? ⟨w.heap.size + 1 + 1,0,none⟩ = false ∧ W.frozen? ⟨w.heap.size + 1 + 1,1,none⟩ = false) ∧
  (W.frozen? ⟨w.heap.size + 1 + 1 + 1,0,none⟩ = false ∧ W.frozen? ⟨w.heap.size + 1 + 1 + 1,1,none⟩ = false) :=
 ⟨⟨blk_frozen D.b4 0,blk_frozen D.b4 1⟩,⟨blk_frozen D.b5 0,blk_frozen D.b5 1⟩,⟨blk_frozen D.b6 0,blk_frozen D.b6 1⟩⟩
theorem Dec4.mti {w W : World} {st ver : Int} {sl : Value} {m : ByteArray} {v : Value} (D : Dec4 w W st ver sl m v) (m' : ByteArray) : Dec4 w (W.setCell ⟨w.heap.size + 1 + 1 + 1,0,none⟩ (.string m')) st ver sl m' v :=
 ⟨far _ _ D.b2 (by show w.heap.size ≠ w.heap.size + 1 + 1 + 1;omega),far _ _ D.b4 (by show w.heap.size + 1 ≠ w.heap.size + 1 + 1 + 1;omega),far _ _ D.b5 (by show w.heap.size + 1 + 1 ≠ w.heap.size + 1 + 1 + 1;omega),blk_put D.b6 0 _ rfl,D.below.setCell (p := ⟨w.heap.size + 1 + 1 + 1,0,none⟩) (by show w.heap.size ≤ w.heap.size + 1 + 1 + 1;omega) _⟩
theorem Dec4.fields {w W : World} {st ver : Int} {sl : Value} {m : ByteArray} {v : Value} (D : Dec4 w W st ver sl m v) (v' : Value) : Dec4 w (W.setCell ⟨w.heap.size + 1 + 1 + 1,1,none⟩ v') st ver sl m v' :=
 ⟨far _ _ D.b2 (by show w.heap.size ≠ w.heap.size + 1 + 1 + 1;omega),far _ _ D.b4 (by show w.heap.size + 1 ≠ w.heap.size + 1 + 1 + 1;omega),far _ _ D.b5 (by show w.heap.size + 1 + 1 ≠ w.heap.size + 1 + 1 + 1;omega),blk_put D.b6 1 _ rfl,D.below.setCell (p := ⟨w.heap.size + 1 + 1 + 1,1,none⟩) (by show w.heap.size ≤ w.heap.size + 1 + 1 + 1;omega) _⟩
theorem Dec4.fin {w W : World} {st ver : Int} {sl : Value} {m : ByteArray} {v : Value} (D : Dec4 w W st ver sl m v) (u0 u1 x0 x1 : Value) :
  ((((W.setCell ⟨w.heap.size + 1,0,none⟩ u0).setCell ⟨w.heap.size + 1,1,none⟩ u1).setCell ⟨w.heap.size + 1 + 1,0,none⟩ x0).setCell ⟨w.heap.size + 1 + 1,1,none⟩ x1).heap[w.heap.size + 1]? = some (.cells #[u0,u1] 42 (0,0)) ∧
  ((((W.setCell ⟨w.heap.size + 1,0,none⟩ u0).setCell ⟨w.heap.size + 1,1,none⟩ u1).setCell ⟨w.heap.size + 1 + 1,0,none⟩ x0).setCell ⟨w.heap.size + 1 + 1,1,none⟩ x1).heap[w.heap.size + 1 + 1]? = some (.cells #[x0,x1] 45 (0,0)) ∧
  Below w.heap.size w ((((W.setCell ⟨w.heap.size + 1,0,none⟩ u0).setCell ⟨w.heap.size + 1,1,none⟩ u1).setCell ⟨w.heap.size + 1 + 1,0,none⟩ x0).setCell ⟨w.heap.size + 1 + 1,1,none⟩ x1) := by
 have h4 : ((W.setCell ⟨w.heap.size + 1,0,none⟩ u0).setCell ⟨w.heap.size + 1,1,none⟩ u1).heap[w.heap.size + 1]? = some (.cells #[u0,u1] 42 (0,0)) := blk_put (blk_put D.b4 0 _ rfl) 1 _ rfl
 have h5 : ((W.setCell ⟨w.heap.size + 1,0,none⟩ u0).setCell ⟨w.heap.size + 1,1,none⟩ u1).heap[w.heap.size + 1 + 1]? = some (.cells #[.int .i64 0,.int .i64 0] 45 (0,0)) :=
  far _ _ (far _ _ D.b5 (by show w.heap.size + 1 + 1 ≠ w.heap.size + 1;omega)) (by show w.heap.size + 1 + 1 ≠ w.heap.size + 1;omega)
 refine ⟨far _ _ (far _ _ h4 (by show w.heap.size + 1 ≠ w.heap.size + 1 + 1;omega)) (by show w.heap.size + 1 ≠ w.heap.size + 1 + 1;omega),blk_put (blk_put h5 0 _ rfl) 1 _ rfl,?_⟩
 exact (((D.below.setCell (p := ⟨w.heap.size + 1,0,none⟩) (Nat.le_succ _) _).setCell (p := ⟨w.heap.size + 1,1,none⟩) (Nat.le_succ _) _).setCell (p := ⟨w.heap.size + 1 + 1,0,none⟩) (by show w.heap.size ≤ w.heap.size + 1 + 1;omega) _).setCell (p := ⟨w.heap.size + 1 + 1,1,none⟩) (by show w.heap.size ≤ w.heap.size + 1 + 1;omega) _
theorem Dec4.grown {w W W' : World} {st ver : Int} {sl : Value} {m : ByteArray} {v v' : Value} {base : Nat} {ok : Nat → Prop} {xs : List S63} (D : Dec4 w W st ver sl m v) (HO : Kd.R k63 63 W base ok v' xs) (hg : W.grownBy W' v'.ownBlock) (hb : Below w.heap.size w W') : Dec4 w W' st ver sl m v :=
 ⟨blk_grown D.b2 hg (Kd.R_ne HO D.b2 (by decide)),blk_grown D.b4 hg (Kd.R_ne HO D.b4 (by decide)),blk_grown D.b5 hg (Kd.R_ne HO D.b5 (by decide)),blk_grown D.b6 hg (Kd.R_ne HO D.b6 (by decide)),hb⟩
def okD (n k : Nat) : Prop := k ≠ n + 1 ∧ k ≠ n + 1 + 1 ∧ k ≠ n + 1 + 1 + 1
theorem okD_fresh {w W : World} {st ver : Int} {sl : Value} {m : ByteArray} {v : Value} (D : Dec4 w W st ver sl m v) : ∀ k,W.heap.size ≤ k → okD w.heap.size k := fun k hk => by
 have := blk_lt D.b6
 exact ⟨by omega,by omega,by omega⟩
theorem Dec4.row {w W : World} {v u0 u1 x0 x1 : Value} {xs : List S63} (HO : Kd.R k63 63 W w.heap.size (okD w.heap.size) v xs) :
  ∃ A c,v = .slice A xs.length c ∧ xs.length ≤ c ∧ Kd.C k63 ((((W.setCell ⟨w.heap.size + 1,0,none⟩ u0).setCell ⟨w.heap.size + 1,1,none⟩ u1).setCell ⟨w.heap.size + 1 + 1,0,none⟩ x0).setCell ⟨w.heap.size + 1 + 1,1,none⟩ x1) A xs.length xs := by
 obtain ⟨A,c,rfl⟩ := Kd.R_slice HO
 have h1 := Kd.R_far HO (p := ⟨w.heap.size + 1,0,none⟩) (fun k hk => hk.1) u0
 have h2 := Kd.R_far h1 (p := ⟨w.heap.size + 1,1,none⟩) (fun k hk => hk.1) u1
 have h3 := Kd.R_far h2 (p := ⟨w.heap.size + 1 + 1,0,none⟩) (fun k hk => hk.2.1) x0
 have h4 := Kd.R_far h3 (p := ⟨w.heap.size + 1 + 1,1,none⟩) (fun k hk => hk.2.1) x1
 obtain ⟨_,h5,h6⟩ := Kd.R_reads' h4
 exact ⟨A,c,rfl,h5,h6⟩
def fieldsOk (l : List S87) : Int → List S63 → Bool
 | _,[] => true
 | last,x :: xs => decide (last < x.f0) && ((findS x.f0 l).2 && (decide (specValue (findS x.f0 l).1 x.f1 = 0) && fieldsOk l x.f0 xs))
def msgOk (st ver : Int) (l : List S87) (m : ByteArray) (xs : List S63) : Bool := decide ((schemaCheck st ver l).1 = 0) && (decide (verV m = (ver,true)) && fieldsOk l 0 xs)
theorem fieldsOk_cons {l : List S87} {last : Int} {x : S63} {xs : List S63} (h : fieldsOk l last (x :: xs) = true) : last < x.f0 ∧ (findS x.f0 l).2 = true ∧ specValue (findS x.f0 l).1 x.f1 = 0 ∧ fieldsOk l x.f0 xs = true := by
 rw [fieldsOk] at h
 simp only [Bool.and_eq_true,decide_eq_true_eq] at h
 exact h
set_option maxHeartbeats 2000000 in
theorem msg_Check.at (st ver : Int) (A : Option Addr) (c : Nat) (l : List S87) (m : ByteArray) (A2 : Option Addr) (c2 : Nat) (xs : List S63) (w : World) (hl : l.length ≤ 4611686018427387904) (hr : Kd.C k87 w A l.length l) (hc : l.length ≤ c) (hl2 : xs.length ≤ 4611686018427387904) (hr2 : Kd.C k63 w A2 xs.length xs) (hc2 : xs.length ≤ c2) (hm : msgOk st ver l m xs = true) :
  Calls prog 39 #[.agg #[.int .i64 st,.int .i64 ver,.slice A l.length c],.agg #[.string m,.slice A2 xs.length c2]] w fun e w' => e = .returned (.agg #[.int .i64 0,.int .i64 0]) ∧ Below w.heap.size w w' := by
 have hu24 := underlying24
 have hu42 := underlying42
 have hu45 := underlying45
 have hu63 := underlying63
 have hu87 := underlying87
 have HR := aS hr
 have HC := aS hc
 have HR2 := aS hr2
 have HC2 := aS hc2
 unfold msgOk at hm
 simp only [Bool.and_eq_true,decide_eq_true_eq] at hm
 obtain ⟨hs,hv,hok⟩ := hm
 obtain ⟨s2,hsc⟩ : ∃ s2,schemaCheck st ver l = (0,s2) := ⟨_,by rw [← hs]⟩
 have HOK := aS hok
 clear hr hc hr2 hc2 hs hok
 go_enter func39,ntmps39
 go_wp2_with (first | (go_at_call 32;refine (schema_Check.at st ver A c l _ hl (c_B HR.out (Box3.start w _ _ _).below) HC.out).mono ?_;rintro e w1 ⟨rfl,hb1⟩;rw [hsc];have D := aS (Box3.init hb1);clear hb1;obtain ⟨a0,a1,a2⟩ := cells_3 D.out.h1;obtain ⟨b0,b1⟩ := cells_2 D.out.h2) | (go_at_call 80;refine (mti_Version.at _ _).mono ?_;rintro e w2 ⟨rfl,hb1⟩;rw [hv];have D_ := aS (D.out.step hb1);clear D a0 a1 a2 b0 b1 hb1;have D := D_;clear D_;obtain ⟨a0,a1,a2⟩ := cells_3 D.out.h1;obtain ⟨b0,b1⟩ := cells_2 D.out.h2))
 clear a0 a1 a2 b0 b1
 go_loopg [9,41] xs.length (fun g v9 v41 w' => ∃ (i : Nat) (last : Int),v9 = .int .i64 last ∧ v41 = .int .i64 i ∧ i + g = xs.length ∧ Aside0 (fieldsOk l last (xs.drop i) = true) ∧ Aside0 (Box3 w w' (.cells #[.int .i64 st,.int .i64 ver,.slice A l.length c] 24) (.cells #[.string m,.slice A2 xs.length c2] 42) (.cells #[.int .i64 0,.int .i64 0] 45)))
 case atStart => exact ⟨0,0,rfl,rfl,Nat.zero_add _,HOK,D⟩
 case round =>
  clear D HOK
  obtain ⟨i,last,rfl,rfl,hi,HOK,D⟩ := hrel
  obtain ⟨a0,a1,a2⟩ := cells_3 D.out.h1
  have AA := cells_3a D.out.h1
  by_cases h : i < xs.length
  ·have e0 : decide ((i : Int) < xs.length) = true := d_T (by omega)
   obtain ⟨ad,rfl,hx0,hx1⟩ := at63 HR2.out D.out.below i h
   have q0 : (0 ≤ (i : Int)) = True := eq_true (by omega)
   have q1 : ((i : Int) < xs.length) = True := eq_true (by omega)
   have hf := HOK.out
   rw [drop63 h] at hf
   clear HOK
   obtain ⟨k1,k2,k3,k4⟩ := fieldsOk_cons hf
   generalize rd_T63 xs (i : Int) = x at *
   have HOK := aS k4
   have e1 : decide (x.f0 ≤ last) = false := d_F (by omega)
   obtain ⟨y,hF⟩ : ∃ y,findS x.f0 l = (y,true) := ⟨_,by rw [← k2]⟩
   rw [hF] at k3
   simp only at k3
   have HT : Aside0 (x.f1.size ≤ 1000000) := ⟨by have := (specValue_facts k3).2.2.2;omega⟩
   clear hf k1 k2 k4
   go_wp2_with (first | (go_at_call 36;refine (schema_Find.at st ver A c l _ _ hl (c_B HR.out (b_s D.out.below (bO _))) HC.out).mono ?_;rintro e w3 ⟨rfl,hb1⟩;rw [hF];have B := aS (blk_nb hb1);have D_ := aS (D.out.step (below_a1 hb1));clear D a0 a1 a2 AA hb1;have D := D_;clear D_;obtain ⟨d0,d1⟩ := cells_2 B.out;have DA := cells_2a B.out;simp only [v87]) | (go_at_call 90;refine (spec_Value.at y _ _ HT.out).mono ?_;rintro e w4 ⟨rfl,hb1⟩;rw [k3];have D_ := aS (D.out.step (below_a1 hb1));clear D B d0 d1 DA hb1;have D := D_;clear D_))
   obtain ⟨g,rfl⟩ : ∃ g,gk = g + 1 := ⟨gk - 1,by omega⟩
   go_roundg g
   case rel => exact ⟨i + 1,x.f0,rfl,rfl,by omega,HOK,D⟩
   case measure => omega
  ·have e0 : decide ((i : Int) < xs.length) = false := d_F (by omega)
   obtain ⟨c0,c1⟩ := cells_2 D.out.h3
   obtain ⟨f0,f1⟩ := froz_2 D.out.h3
   go_wp2
   refine bodyPost_ret (results_cell_row rfl _ _ (w.heap.size + 1 + 1) 45 _ (0,0) _ rfl (blk_put (blk_put D.out.h3 0 _ rfl) 1 _ rfl) hu45 rfl (by kernel_rfl)) rfl ?_
   exact ⟨rfl,(D.out.below.setCell (p := ⟨w.heap.size + 1 + 1,0,none⟩) (by show w.heap.size ≤ w.heap.size + 1 + 1;omega) _).setCell (p := ⟨w.heap.size + 1 + 1,1,none⟩) (by show w.heap.size ≤ w.heap.size + 1 + 1;omega) _⟩
end Go.Proofs.YtgbmnpgaddhfpaaGreatDoor.T
namespace Go.Proofs.YtgbmnpgaddhfpaaGreatDoor.T
open Go.RowKit Go.Proofs.YtgbmnpgaddhfpaaGreatDoorW.PrintWords Go.Proofs.YtgbmnpgaddhfpaaGreatDoorW.PrintLast Go.Proofs.YtgbmnpgaddhfpaaGreatDoorW.PrintMore
attribute [local go_sem] max2_int min2_int max_two min_two
open Go.Proofs.YtgbmnpgaddhfpaaGreatDoor.G
open Extern.Stop (cell)
open Tryz
set_option maxRecDepth 100000
def str8 (t : ByteArray) : ByteArray := strOfNums [bt t 0,bt t 1,bt t 2,bt t 3,bt t 4,bt t 5,bt t 6,bt t 7]
def bmP (st : Int) (p : Int × Int) : ByteArray :=
 if zero8q (b8 p.2) = true then if st = 1 then hexP (str8 (b8 p.1)) else str8 (b8 p.1)
 else if st = 1 then hexP (str8 (b8 (Go.bits .or .u64 p.1 9223372036854775808)) ++ str8 (b8 p.2)) else str8 (b8 (Go.bits .or .u64 p.1 9223372036854775808)) ++ str8 (b8 p.2)
theorem arr_string {t : ByteArray} {W : World} {g : Nat} (h : W.heap[g]? = some (.cells (cells8 t) 154 (0,0))) : (convert 101 9 (.slice (some ⟨g,0,none⟩) 8 8)).run prog W = .ok (.string (str8 t)) W := by
 refine Kd.C_string (P := prog) (xs := [bt t 0,bt t 1,bt t 2,bt t 3,bt t 4,bt t 5,bt t 6,bt t 7]) underlying101 underlying5 underlying9 ?_
 refine ⟨rfl,by omega,fun _ => ⟨_,rfl,fun j p hj => ⟨[.int .u8 p],rfl,rfl,fun i u hu => ?_⟩⟩⟩
 rcases i with _ | i
 ·simp only [List.getElem?_cons_zero,Option.some.injEq] at hu
  subst hu
  rcases j with _ | _ | _ | _ | _ | _ | _ | _ | j
  all_goals first | (simp only [List.getElem?_cons_zero,List.getElem?_cons_succ,Option.some.injEq] at hj;subst hj;exact blk_cell h _) | (exact absurd hj (by simp))
 ·exact absurd hu (by simp)
theorem or63_range (x : Int) : 0 ≤ Go.bits .or .u64 x 9223372036854775808 ∧ Go.bits .or .u64 x 9223372036854775808 < 18446744073709551616 := by
 have h := fun y => IntKind.wrap_u64 y
 unfold Go.bits
 constructor <;> (try simp only [IntKind.wrap_u64]) <;> omega
theorem str8_size (t : ByteArray) : (str8 t).size = 8 := by
 have := data_length (str8 t)
 unfold str8 at this ⊢
 rw [strOfNums_data] at this
 simpa using this.symm
theorem cv8 (t : ByteArray) (W : World) : (convert 101 9 (.slice (some ⟨W.heap.size,0,none⟩) 8 8)).run prog (W.alloc (.cells (cells8 t) 154)) = .ok (.string (str8 t)) (W.alloc (.cells (cells8 t) 154)) := arr_string (blk_new W _)
set_option maxHeartbeats 2000000 in
theorem bitmap_Put.at (st : Int) (p : Int × Int) (w : World) (hst : st = 1 ∨ st = 2) (h1 : hasS p 1 = false) (hp : (0 ≤ p.1 ∧ p.1 < 18446744073709551616) ∧ (0 ≤ p.2 ∧ p.2 < 18446744073709551616)) :
  Calls prog 47 #[.int .i64 st,vSet p] w fun e w' => e = .returned (.tuple #[.string (bmP st p),.int .i64 0]) ∧ Below w.heap.size w w' := by
 have hu82 := underlying82
 have hu154 := underlying154
 have hk : known st = true := by rcases hst with rfl | rfl <;> decide
 have hor := or63_range p.1
 obtain ⟨r,hg⟩ : ∃ r,bmP st p = r := ⟨_,rfl⟩
 rw [hg]
 rw [bmP] at hg
 have st1 := store_fresh8 (b8 p.2)
 have st2 := store_fresh8 (b8 p.1)
 have st3 := store_fresh8 (b8 (Go.bits .or .u64 p.1 9223372036854775808))
 have z0 : ∀ h : 0 < (cells8 (b8 p.2)).size,(cells8 (b8 p.2))[0] = .int .u8 (bt (b8 p.2) 0) := fun _ => rfl
 have z1 : ∀ h : 1 < (cells8 (b8 p.2)).size,(cells8 (b8 p.2))[1] = .int .u8 (bt (b8 p.2) 1) := fun _ => rfl
 have z2 : ∀ h : 2 < (cells8 (b8 p.2)).size,(cells8 (b8 p.2))[2] = .int .u8 (bt (b8 p.2) 2) := fun _ => rfl
 have z3 : ∀ h : 3 < (cells8 (b8 p.2)).size,(cells8 (b8 p.2))[3] = .int .u8 (bt (b8 p.2) 3) := fun _ => rfl
 have z4 : ∀ h : 4 < (cells8 (b8 p.2)).size,(cells8 (b8 p.2))[4] = .int .u8 (bt (b8 p.2) 4) := fun _ => rfl
 have z5 : ∀ h : 5 < (cells8 (b8 p.2)).size,(cells8 (b8 p.2))[5] = .int .u8 (bt (b8 p.2) 5) := fun _ => rfl
 have z6 : ∀ h : 6 < (cells8 (b8 p.2)).size,(cells8 (b8 p.2))[6] = .int .u8 (bt (b8 p.2) 6) := fun _ => rfl
 have z7 : ∀ h : 7 < (cells8 (b8 p.2)).size,(cells8 (b8 p.2))[7] = .int .u8 (bt (b8 p.2) 7) := fun _ => rfl
 have cv1 := cv8 (b8 p.2)
 have cv2 := cv8 (b8 p.1)
 have cv3 := cv8 (b8 (Go.bits .or .u64 p.1 9223372036854775808))
 have hE := eql8 (b8 p.2)
 obtain ⟨q,hq⟩ : ∃ q,zero8q (b8 p.2) = q := ⟨_,rfl⟩
 simp only [hq] at hE
 rw [hq] at hg
 clear hq
 unfold vSet
 have HZ1 : Aside0 ((str8 (b8 p.1)).size ≤ 1000000) := ⟨by rw [str8_size];omega⟩
 have HZ2 : Aside0 ((str8 (b8 (Go.bits .or .u64 p.1 9223372036854775808)) ++ str8 (b8 p.2)).size ≤ 1000000) := ⟨by rw [app_size,str8_size,str8_size];omega⟩
 have sz1 := str8_size (b8 p.2)
 have sz2 := str8_size (b8 (Go.bits .or .u64 p.1 9223372036854775808))
 have HG := aS hg
 clear hg
 cases q with
 | true =>
  rcases hst with rfl | rfl
  all_goals
   go_enter func47,ntmps47
   go_wp2_with (first | (go_at_call 81;refine (bitmap_known.at _ _).mono ?_;rintro e w1 ⟨rfl,rfl⟩;rw [hk]) | (go_at_call 103;refine (fields_Has.at p _ _).mono ?_;rintro e w2 ⟨rfl,hb1⟩;rw [h1];have B := aS (blk_nb hb1);have H := aS (below_a1 hb1);clear hb1;have k0 := blk_cell B.out 0;have k1 := blk_cell B.out 1) | (go_at_call 104;refine (fields_Halves.at p _).mono ?_;rintro e w3 ⟨rfl,hb3⟩;have H_ := aS (b_s H.out hb3);clear B H k0 k1 hb3;have H := H_;clear H_) | (go_at_call 105;refine (bitmap_bytes.at _ _ (by omega) (by omega)).mono ?_;rintro e w4 ⟨rfl,hb4⟩;have H_ := aS (b_s (by repeat (first | exact H.out | apply b_l)) hb4);clear H hb4;have H := H_;clear H_) | (go_at_call 106;refine (hexa_Put.at _ _ HZ1.out).mono ?_;rintro e w5 ⟨rfl,hb5⟩;have H_ := aS (b_s (by repeat (first | exact H.out | apply b_l)) hb5);clear H hb5;have H := H_;clear H_))
  all_goals go_ret2
  all_goals obtain rfl := HG.out
  all_goals exact ⟨rfl,by repeat (first | exact H.out | apply b_l)⟩
 | false =>
  rcases hst with rfl | rfl
  all_goals
   go_enter func47,ntmps47
   go_wp2_with (first | (go_at_call 81;refine (bitmap_known.at _ _).mono ?_;rintro e w1 ⟨rfl,rfl⟩;rw [hk]) | (go_at_call 103;refine (fields_Has.at p _ _).mono ?_;rintro e w2 ⟨rfl,hb1⟩;rw [h1];have B := aS (blk_nb hb1);have H := aS (below_a1 hb1);clear hb1;have k0 := blk_cell B.out 0;have k1 := blk_cell B.out 1) | (go_at_call 104;refine (fields_Halves.at p _).mono ?_;rintro e w3 ⟨rfl,hb3⟩;have H_ := aS (b_s H.out hb3);clear B H k0 k1 hb3;have H := H_;clear H_) | (go_at_call 105;refine (bitmap_bytes.at _ _ (by omega) (by omega)).mono ?_;rintro e w4 ⟨rfl,hb4⟩;have H_ := aS (b_s (by repeat (first | exact H.out | apply b_l)) hb4);clear H hb4;have H := H_;clear H_) | (go_at_call 106;refine (hexa_Put.at _ _ HZ2.out).mono ?_;rintro e w5 ⟨rfl,hb5⟩;have H_ := aS (b_s (by repeat (first | exact H.out | apply b_l)) hb5);clear H hb5;have H := H_;clear H_))
  all_goals go_ret2
  all_goals obtain rfl := HG.out
  all_goals exact ⟨rfl,by repeat (first | exact H.out | apply b_l)⟩
end Go.Proofs.YtgbmnpgaddhfpaaGreatDoor.T
