/- The law BerOrder, over plain functions: lengths' bytes compare as the lengths do, and none begin others. No conditions. -/
import Derived.Test.YtflghnkepoodkaaQBerOrderx2
import Derived.Test.YtflghnkepoodkaaGWords
namespace Go.Proofs.Ytflghnkepoodkaa.Pure
open Go.RowKit Go.Proofs.Ytflghnkepoodkaa.QBerOrder Go.Proofs.YtflghnkepoodkaaW.PrintWords Go.Proofs.YtflghnkepoodkaaW.PrintLast Go.Proofs.Ytflghnkepoodkaa.G
/-! #### ber: what its functions compute -/
def sizeOf (n : Int) : Int := if n < 0 ∨ n > 65535 then 0 else if n > 255 then 3 else if n > 127 then 2 else 1
def lenNums (n : Int) : List Int := if n < 0 ∨ n > 65535 then [] else if n > 255 then [130, n / 256 % 256, n % 256] else if n > 127 then [129, n % 256] else [n % 256]
theorem lenNums_len (n : Int) : ((lenNums n).length : Int) = sizeOf n := by
  unfold lenNums sizeOf
  repeat' split
  all_goals first | rfl | omega
theorem size1 {n : Int} (h0 : 0 ≤ n) (h1 : n ≤ 127) : sizeOf n = 1 := by unfold sizeOf; rw [if_neg (by omega), if_neg (by omega), if_neg (by omega)]
theorem size2 {n : Int} (h0 : 127 < n) (h1 : n ≤ 255) : sizeOf n = 2 := by unfold sizeOf; rw [if_neg (by omega), if_neg (by omega), if_pos (by omega)]
theorem size3 {n : Int} (h0 : 255 < n) (h1 : n ≤ 65535) : sizeOf n = 3 := by unfold sizeOf; rw [if_neg (by omega), if_pos (by omega)]
theorem size_le {n : Int} (h1 : n ≤ 255) : sizeOf n ≤ 2 := by unfold sizeOf; (repeat' split) <;> omega
theorem wr1 : wrap64 (0 + 1) = 1 := w64 (by decide) (by decide)
theorem wr2 : wrap64 (1 + 1) = 2 := w64 (by decide) (by decide)
theorem wr3 : wrap64 (2 + 1) = 3 := w64 (by decide) (by decide)
theorem size_eq (k : Nat) (n : Int) : ber_Size.f (k + 1) n = some (sizeOf n) := by
  unfold ber_Size.f sizeOf
  by_cases h0 : n < 0
  · rw [if_pos h0, if_pos (Or.inl h0)]; simp only [ber_Size.j0, if_true]
  rw [if_neg h0]
  by_cases h1 : n > 65535
  · rw [if_pos (Or.inr h1), decide_eq_true h1]; simp only [ber_Size.j0, if_true]
  rw [if_neg (by omega), decide_eq_false h1]
  simp only [ber_Size.j0]
  rw [if_neg (by decide)]
  by_cases h2 : n > 255
  · rw [if_pos h2, if_pos h2, wr1, wr2, wr3]
  rw [if_neg h2, if_neg h2]
  by_cases h3 : n > 127
  · rw [if_pos h3, if_pos h3, wr1, wr2]
  rw [if_neg h3, if_neg h3, wr1]
theorem put_eq (k : Nat) (n : Int) : ber_Put.f (k + 1) n = some (strOfNums (lenNums n), decide (¬ (n < 0 ∨ n > 65535))) := by
  unfold ber_Put.f
  rw [size_eq, Option.bind_some]
  unfold sizeOf lenNums
  by_cases h : n < 0 ∨ n > 65535
  · simp only [h, if_true, not_true, decide_false]; rfl
  · by_cases h2 : n > 255
    · simp only [h, h2, if_true, if_false, not_false_eq_true, decide_true]; rfl
    · by_cases h3 : n > 127
      · simp only [h, h2, h3, if_true, if_false, not_false_eq_true, decide_true]; rfl
      · simp only [h, h2, h3, if_true, if_false, not_false_eq_true, decide_true]
/-- what ber.Get answers -/
def getLen (s : ByteArray) (i : Int) : Int × Int × Int :=
  if i < 0 ∨ i > s.size then (0, 0, 1) else if i = s.size then (0, 0, 2) else
  if bt s i ≤ 127 then (bt s i, i + 1, 0) else if bt s i = 129 then
    if (s.size : Int) - i < 2 then (0, 0, 2) else if bt s (i + 1) ≤ 127 then (0, 0, 14) else (bt s (i + 1), i + 2, 0)
  else if bt s i = 130 then
    if (s.size : Int) - i < 3 then (0, 0, 2) else if bt s (i + 1) = 0 then (0, 0, 14) else (bt s (i + 1) * 256 + bt s (i + 2), i + 3, 0)
  else (0, 0, 14)
theorem loop_step (k : Nat) (s : ByteArray) (at_ v m i : Int) (hs : s.size ≤ 140737488351232 * 3) (h0 : 0 ≤ at_) (h1 : 0 ≤ i) (h2 : i < m) (h3 : at_ + i < s.size) (h4 : 0 ≤ v) (h5 : v < 65536) :
    ber_Get.l0 (k + 1) s at_ v m m i = ber_Get.l0 k s at_ (v * 256 + bt s (at_ + i)) m m (i + 1) := by
  have hc := bt_range s (at_ + i)
  simp only [ber_Get.l0]
  rw [if_pos h2, w64 (n := at_ + i) (by omega) (by omega), if_pos (by omega), if_pos h3, w64 (n := bt s (at_ + i)) (by omega) (by omega), w64 (n := v * 256) (by omega) (by omega), or8 (by omega) (by omega) (by omega) (by omega), w64 (n := i + 1) (by omega) (by omega)]
theorem loop_end (k : Nat) (s : ByteArray) (at_ v m : Int) (hs : s.size ≤ 140737488351232 * 3) (h0 : 0 ≤ at_) (h1 : 0 ≤ m) (h3 : at_ + m ≤ s.size) :
    ber_Get.l0 (k + 2) s at_ v m m m = some (if sizeOf v = m + 1 then (v, at_ + m, 0) else (0, 0, 14)) := by
  simp only [ber_Get.l0]
  rw [if_neg (by omega), size_eq, Option.bind_some, w64 (n := m + 1) (by omega) (by omega), w64 (n := at_ + m) (by omega) (by omega)]
  split <;> rfl
theorem get_eq (k : Nat) (s : ByteArray) (i : Int) (hs : s.size ≤ 140737488351232 * 3) : ber_Get.f (k + 6) s i = some (getLen s i) := by
  unfold ber_Get.f getLen
  by_cases h0 : i < 0
  · rw [if_pos h0, if_pos (Or.inl h0)]; simp only [ber_Get.j0, if_true]
  rw [if_neg h0]
  by_cases h1 : i > s.size
  · rw [if_pos (Or.inr h1), decide_eq_true h1]; simp only [ber_Get.j0, if_true]
  rw [if_neg (by omega : ¬ (i < 0 ∨ i > s.size)), decide_eq_false h1]
  simp only [ber_Get.j0]
  rw [if_neg (by decide)]
  by_cases h2 : i = s.size
  · rw [if_pos h2, if_pos h2]
  have hb := bt_range s i
  rw [if_neg h2, if_neg h2, if_pos (by omega), if_pos (by omega), w64 (n := bt s i) (by omega) (by omega), w64 (n := i + 1) (by omega) (by omega)]
  by_cases h3 : bt s i > 127
  · rw [if_pos h3, if_neg (show ¬ bt s i ≤ 127 by omega), w64 (n := bt s i - 128) (by omega) (by omega)]
    by_cases h4 : bt s i = 129
    · rw [if_neg (by omega), if_neg (by omega), if_pos h4, show bt s i - 128 = 1 by omega]
      simp only [ber_Get.j1]
      rw [w64 (n := (s.size : Int) - (i + 1)) (by omega) (by omega)]
      by_cases h5 : (s.size : Int) - i < 2
      · rw [if_pos h5, if_pos (by omega)]
      · have hc := bt_range s (i + 1)
        rw [if_neg h5, if_neg (by omega), loop_step _ _ _ _ _ _ hs (by omega) (by omega) (by omega) (by omega) (by omega) (by omega), show (0 : Int) + 1 = 1 from rfl, loop_end _ _ _ _ _ hs (by omega) (by omega) (by omega), show i + 1 + 0 = i + 1 by omega, show (0 : Int) * 256 + bt s (i + 1) = bt s (i + 1) by omega, show i + 1 + 1 = i + 2 by omega]
        by_cases h6 : bt s (i + 1) ≤ 127
        · rw [if_pos h6, size1 (by omega) (by omega), if_neg (by decide)]
        · rw [if_neg h6, size2 (by omega) (by omega), if_pos (by decide)]
    · by_cases h7 : bt s i = 130
      · rw [if_neg (by omega), if_neg (by omega), if_neg h4, if_pos h7, show bt s i - 128 = 2 by omega]
        simp only [ber_Get.j1]
        rw [w64 (n := (s.size : Int) - (i + 1)) (by omega) (by omega)]
        by_cases h5 : (s.size : Int) - i < 3
        · rw [if_pos h5, if_pos (by omega)]
        · have hc := bt_range s (i + 1)
          have hd := bt_range s (i + 2)
          rw [if_neg h5, if_neg (by omega), loop_step _ _ _ _ _ _ hs (by omega) (by omega) (by omega) (by omega) (by omega) (by omega), show i + 1 + 0 = i + 1 by omega, show (0 : Int) * 256 + bt s (i + 1) = bt s (i + 1) by omega,
            loop_step _ _ _ _ _ _ hs (by omega) (by omega) (by omega) (by omega) (by omega) (by omega), show i + 1 + (0 + 1) = i + 2 by omega, show (0 : Int) + 1 + 1 = 2 from rfl, loop_end _ _ _ _ _ hs (by omega) (by omega) (by omega), show i + 1 + 2 = i + 3 by omega]
          by_cases h6 : bt s (i + 1) = 0
          · have hz : sizeOf (bt s (i + 1) * 256 + bt s (i + 2)) ≤ 2 := size_le (by omega)
            rw [if_pos h6, if_neg (by omega)]
          · rw [if_neg h6, size3 (by omega) (by omega), if_pos (by decide)]
      · rw [if_neg h4, if_neg h7]
        split
        · rfl
        · rw [if_pos (by omega)]
  · rw [if_neg h3]
    simp only [ber_Get.j1]
    rw [w64 (n := (s.size : Int) - (i + 1)) (by omega) (by omega), if_neg (by omega), loop_end _ _ _ _ _ hs (by omega) (by omega) (by omega)]
    rw [size1 (by omega) (by omega), if_pos (by decide), if_pos (by omega), Int.add_zero]
theorem awake_eq (k : Nat) : groatlaw09_awake.f (k + 6) = some true := by
  unfold groatlaw09_awake.f
  rw [get_eq k _ _ (by decide), get_eq k _ _ (by decide), size_eq, size_eq, put_eq, put_eq]
  decide +kernel
theorem u8_eq {x y : Int} (h0 : 0 ≤ x ∧ x < 256) (h2 : 0 ≤ y ∧ y < 256) : UInt8.ofNat x.toNat = UInt8.ofNat y.toNat ↔ x = y :=
  ⟨one_eq h0.1 h0.2 h2.1 h2.2, fun h => by rw [h]⟩
theorem u8_lt {x y : Int} (h0 : 0 ≤ x ∧ x < 256) (h2 : 0 ≤ y ∧ y < 256) : UInt8.ofNat x.toNat < UInt8.ofNat y.toNat ↔ x < y := by
  rw [UInt8.lt_iff_toNat_lt]
  have a := num_back h0.1 h0.2
  have b := num_back h2.1 h2.2
  omega
theorem cut_list (xs : List Int) (n : Nat) : ((strOfNums xs).extract 0 n).toList = (xs.take n).map fun v => UInt8.ofNat v.toNat := by
  rw [toL, ext_data, strOfNums_data, List.drop_zero, Nat.sub_zero, List.map_take]
theorem len_1 {n : Int} (h0 : 0 ≤ n) (h1 : n ≤ 127) : lenNums n = [n] := by
  unfold lenNums; rw [if_neg (by omega), if_neg (by omega), if_neg (by omega), Int.emod_eq_of_lt h0 (by omega)]
theorem len_2 {n : Int} (h0 : 127 < n) (h1 : n ≤ 255) : lenNums n = [129, n] := by
  unfold lenNums; rw [if_neg (by omega), if_neg (by omega), if_pos (by omega), Int.emod_eq_of_lt (by omega) (by omega)]
theorem len_3 {n : Int} (h0 : 255 < n) (h1 : n ≤ 65535) : lenNums n = [130, n / 256, n % 256] := by
  unfold lenNums; rw [if_neg (by omega), if_pos (by omega), show n / 256 % 256 = n / 256 by omega]
theorem cases3 {n : Int} (h0 : 0 ≤ n) (h1 : n ≤ 65535) : (n ≤ 127 ∧ lenNums n = [n]) ∨ (127 < n ∧ n ≤ 255 ∧ lenNums n = [129, n]) ∨ (255 < n ∧ lenNums n = [130, n / 256, n % 256]) := by
  by_cases c : n ≤ 127
  · exact .inl ⟨c, len_1 h0 c⟩
  · by_cases d : n ≤ 255
    · exact .inr (.inl ⟨by omega, d, len_2 (by omega) d⟩)
    · exact .inr (.inr ⟨by omega, len_3 (by omega) h1⟩)
theorem order {a b : Int} (a0 : 0 ≤ a) (a1 : a ≤ 65535) (b0 : 0 ≤ b) (b1 : b ≤ 65535) : Op.bytesLess (strOfNums (lenNums a)).toList (strOfNums (lenNums b)).toList = decide (a < b) := by
  rw [toL_of, toL_of, Bool.eq_iff_iff]
  rcases cases3 a0 a1 with ⟨h, e⟩ | ⟨h, h', e⟩ | ⟨h, e⟩ <;> rcases cases3 b0 b1 with ⟨g, f⟩ | ⟨g, g', f⟩ | ⟨g, f⟩
  all_goals
    rw [e, f]
    simp only [List.map_cons, List.map_nil, Op.bytesLess, Bool.or_eq_true, Bool.and_eq_true, decide_eq_true_eq, beq_iff_eq, Bool.or_false, Bool.and_false]
    repeat rw [u8_lt (by omega) (by omega)]
    repeat rw [u8_eq (by omega) (by omega)]
    all_goals try simp only [true_and, and_true]
    all_goals omega
theorem parts {a b : Int} (a0 : 0 ≤ a) (a1 : a ≤ 65535) (b0 : 0 ≤ b) (b1 : b ≤ 65535) : ((((strOfNums (lenNums a)).extract 0 (min (lenNums a).length (lenNums b).length)).toList == ((strOfNums (lenNums b)).extract 0 (min (lenNums a).length (lenNums b).length)).toList) == (a == b)) = true := by
  rw [cut_list, cut_list, beq_iff_eq, Bool.eq_iff_iff, beq_iff_eq, beq_iff_eq]
  rcases cases3 a0 a1 with ⟨h, e⟩ | ⟨h, h', e⟩ | ⟨h, e⟩ <;> rcases cases3 b0 b1 with ⟨g, f⟩ | ⟨g, g', f⟩ | ⟨g, f⟩
  all_goals
    rw [e, f]
    simp only [List.length_cons, List.length_nil, Nat.zero_add, Nat.reduceAdd, Nat.min_def, Nat.reduceLeDiff, if_true, if_false, List.take_succ_cons, List.take_zero, List.map_cons, List.map_nil, List.cons.injEq, and_true]
    repeat rw [u8_eq (by omega) (by omega)]
    all_goals try simp only [true_and]
    all_goals omega
theorem mn_nat (x y : Nat) : mn (x : Int) (y : Int) = ((min x y : Nat) : Int) := by
  unfold mn
  split <;> omega
theorem BerOrder : groatlaw09_BerOrder.Pure := by
  intro a b _ _
  refine ⟨8, ?_⟩
  unfold groatlaw09_BerOrder.f
  rw [put_eq, put_eq, awake_eq]
  simp only [Option.bind_some, if_true]
  by_cases h : a < 0 ∨ a > 65535
  · rw [if_neg (by simp; omega)]
  by_cases g : b < 0 ∨ b > 65535
  · rw [if_pos (decide_eq_true h), if_neg (by simp; omega)]
  rw [if_pos (decide_eq_true h), if_pos (decide_eq_true g), if_pos (by rw [order (by omega) (by omega) (by omega) (by omega)]; exact beq_iff_eq.2 rfl), strOfNums_size, strOfNums_size, mn_nat, if_pos (by omega), if_pos (by omega), if_pos (by omega)]
  congr 1
  exact parts (by omega) (by omega) (by omega) (by omega)
end Go.Proofs.Ytflghnkepoodkaa.Pure
