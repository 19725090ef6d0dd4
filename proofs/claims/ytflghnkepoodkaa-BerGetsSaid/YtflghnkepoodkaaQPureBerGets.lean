/- The law BerGets, over plain functions: at any place of any bytes stands the length that the document says, or none. No conditions. -/
import Derived.Test.YtflghnkepoodkaaQBerGetsx2
import Derived.Test.YtflghnkepoodkaaGWords
namespace Go.Proofs.Ytflghnkepoodkaa.Pure
open Go.RowKit Go.Proofs.Ytflghnkepoodkaa.QBerGets Go.Proofs.YtflghnkepoodkaaW.PrintWords Go.Proofs.YtflghnkepoodkaaW.PrintLast Go.Proofs.Ytflghnkepoodkaa.G
/-! #### ber: what its functions compute -/
def sizeOf (n : Int) : Int := if n < 0 ∨ n > 65535 then 0 else if n > 255 then 3 else if n > 127 then 2 else 1
def lenNums (n : Int) : List Int := if n < 0 ∨ n > 65535 then [] else if n > 255 then [130, n / 256 % 256, n % 256] else if n > 127 then [129, n % 256] else [n % 256]
theorem lenNums_len (n : Int) : ((lenNums n).length : Int) = sizeOf n := by
  unfold lenNums sizeOf
  repeat' split
  all_goals first | rfl | omega
theorem size1 {n : Int} (h0 : 0 ≤ n) (h1 : n ≤ 127) : sizeOf n = 1 := by unfold sizeOf; rw [if_neg (by omega), if_neg (by omega), if_neg (by omega)]
theorem size2 {n : Int} (h0 : 127 < n) (h1 : n ≤ 255) : sizeOf n = 2 := by unfold sizeOf; rw [if_neg (by omega), if_neg (by omega), if_pos (by omega)]
theorem size3 {n : Int} (h0 : 255 < n) (h1 : n ≤ 65535) : sizeOf n = 3 := by unfold sizeOf; rw [if_neg (by omega), if_pos (by omega)]
theorem size_le {n : Int} (h1 : n ≤ 255) : sizeOf n ≤ 2 := by unfold sizeOf; (repeat' split) <;> omega
theorem wr1 : wrap64 (0 + 1) = 1 := w64 (by decide) (by decide)
theorem wr2 : wrap64 (1 + 1) = 2 := w64 (by decide) (by decide)
theorem wr3 : wrap64 (2 + 1) = 3 := w64 (by decide) (by decide)
theorem size_eq (k : Nat) (n : Int) : ber_Size.f (k + 1) n = some (sizeOf n) := by
  unfold ber_Size.f sizeOf
  by_cases h0 : n < 0
  · rw [if_pos h0, if_pos (Or.inl h0)]; simp only [ber_Size.j0, if_true]
  rw [if_neg h0]
  by_cases h1 : n > 65535
  · rw [if_pos (Or.inr h1), decide_eq_true h1]; simp only [ber_Size.j0, if_true]
  rw [if_neg (by omega), decide_eq_false h1]
  simp only [ber_Size.j0]
  rw [if_neg (by decide)]
  by_cases h2 : n > 255
  · rw [if_pos h2, if_pos h2, wr1, wr2, wr3]
  rw [if_neg h2, if_neg h2]
  by_cases h3 : n > 127
  · rw [if_pos h3, if_pos h3, wr1, wr2]
  rw [if_neg h3, if_neg h3, wr1]
theorem put_eq (k : Nat) (n : Int) : ber_Put.f (k + 1) n = some (strOfNums (lenNums n), decide (¬ (n < 0 ∨ n > 65535))) := by
  unfold ber_Put.f
  rw [size_eq, Option.bind_some]
  unfold sizeOf lenNums
  by_cases h : n < 0 ∨ n > 65535
  · simp only [h, if_true, not_true, decide_false]; rfl
  · by_cases h2 : n > 255
    · simp only [h, h2, if_true, if_false, not_false_eq_true, decide_true]; rfl
    · by_cases h3 : n > 127
      · simp only [h, h2, h3, if_true, if_false, not_false_eq_true, decide_true]; rfl
      · simp only [h, h2, h3, if_true, if_false, not_false_eq_true, decide_true]
/-- what ber.Get answers -/
def getLen (s : ByteArray) (i : Int) : Int × Int × Int :=
  if i < 0 ∨ i > s.size then (0, 0, 1) else if i = s.size then (0, 0, 2) else
  if bt s i ≤ 127 then (bt s i, i + 1, 0) else if bt s i = 129 then
    if (s.size : Int) - i < 2 then (0, 0, 2) else if bt s (i + 1) ≤ 127 then (0, 0, 14) else (bt s (i + 1), i + 2, 0)
  else if bt s i = 130 then
    if (s.size : Int) - i < 3 then (0, 0, 2) else if bt s (i + 1) = 0 then (0, 0, 14) else (bt s (i + 1) * 256 + bt s (i + 2), i + 3, 0)
  else (0, 0, 14)
theorem loop_step (k : Nat) (s : ByteArray) (at_ v m i : Int) (hs : s.size ≤ 140737488351232 * 3) (h0 : 0 ≤ at_) (h1 : 0 ≤ i) (h2 : i < m) (h3 : at_ + i < s.size) (h4 : 0 ≤ v) (h5 : v < 65536) :
    ber_Get.l0 (k + 1) s at_ v m m i = ber_Get.l0 k s at_ (v * 256 + bt s (at_ + i)) m m (i + 1) := by
  have hc := bt_range s (at_ + i)
  simp only [ber_Get.l0]
  rw [if_pos h2, w64 (n := at_ + i) (by omega) (by omega), if_pos (by omega), if_pos h3, w64 (n := bt s (at_ + i)) (by omega) (by omega), w64 (n := v * 256) (by omega) (by omega), or8 (by omega) (by omega) (by omega) (by omega), w64 (n := i + 1) (by omega) (by omega)]
theorem loop_end (k : Nat) (s : ByteArray) (at_ v m : Int) (hs : s.size ≤ 140737488351232 * 3) (h0 : 0 ≤ at_) (h1 : 0 ≤ m) (h3 : at_ + m ≤ s.size) :
    ber_Get.l0 (k + 2) s at_ v m m m = some (if sizeOf v = m + 1 then (v, at_ + m, 0) else (0, 0, 14)) := by
  simp only [ber_Get.l0]
  rw [if_neg (by omega), size_eq, Option.bind_some, w64 (n := m + 1) (by omega) (by omega), w64 (n := at_ + m) (by omega) (by omega)]
  split <;> rfl
theorem get_eq (k : Nat) (s : ByteArray) (i : Int) (hs : s.size ≤ 140737488351232 * 3) : ber_Get.f (k + 6) s i = some (getLen s i) := by
  unfold ber_Get.f getLen
  by_cases h0 : i < 0
  · rw [if_pos h0, if_pos (Or.inl h0)]; simp only [ber_Get.j0, if_true]
  rw [if_neg h0]
  by_cases h1 : i > s.size
  · rw [if_pos (Or.inr h1), decide_eq_true h1]; simp only [ber_Get.j0, if_true]
  rw [if_neg (by omega : ¬ (i < 0 ∨ i > s.size)), decide_eq_false h1]
  simp only [ber_Get.j0]
  rw [if_neg (by decide)]
  by_cases h2 : i = s.size
  · rw [if_pos h2, if_pos h2]
  have hb := bt_range s i
  rw [if_neg h2, if_neg h2, if_pos (by omega), if_pos (by omega), w64 (n := bt s i) (by omega) (by omega), w64 (n := i + 1) (by omega) (by omega)]
  by_cases h3 : bt s i > 127
  · rw [if_pos h3, if_neg (show ¬ bt s i ≤ 127 by omega), w64 (n := bt s i - 128) (by omega) (by omega)]
    by_cases h4 : bt s i = 129
    · rw [if_neg (by omega), if_neg (by omega), if_pos h4, show bt s i - 128 = 1 by omega]
      simp only [ber_Get.j1]
      rw [w64 (n := (s.size : Int) - (i + 1)) (by omega) (by omega)]
      by_cases h5 : (s.size : Int) - i < 2
      · rw [if_pos h5, if_pos (by omega)]
      · have hc := bt_range s (i + 1)
        rw [if_neg h5, if_neg (by omega), loop_step _ _ _ _ _ _ hs (by omega) (by omega) (by omega) (by omega) (by omega) (by omega), show (0 : Int) + 1 = 1 from rfl, loop_end _ _ _ _ _ hs (by omega) (by omega) (by omega), show i + 1 + 0 = i + 1 by omega, show (0 : Int) * 256 + bt s (i + 1) = bt s (i + 1) by omega, show i + 1 + 1 = i + 2 by omega]
        by_cases h6 : bt s (i + 1) ≤ 127
        · rw [if_pos h6, size1 (by omega) (by omega), if_neg (by decide)]
        · rw [if_neg h6, size2 (by omega) (by omega), if_pos (by decide)]
    · by_cases h7 : bt s i = 130
      · rw [if_neg (by omega), if_neg (by omega), if_neg h4, if_pos h7, show bt s i - 128 = 2 by omega]
        simp only [ber_Get.j1]
        rw [w64 (n := (s.size : Int) - (i + 1)) (by omega) (by omega)]
        by_cases h5 : (s.size : Int) - i < 3
        · rw [if_pos h5, if_pos (by omega)]
        · have hc := bt_range s (i + 1)
          have hd := bt_range s (i + 2)
          rw [if_neg h5, if_neg (by omega), loop_step _ _ _ _ _ _ hs (by omega) (by omega) (by omega) (by omega) (by omega) (by omega), show i + 1 + 0 = i + 1 by omega, show (0 : Int) * 256 + bt s (i + 1) = bt s (i + 1) by omega,
            loop_step _ _ _ _ _ _ hs (by omega) (by omega) (by omega) (by omega) (by omega) (by omega), show i + 1 + (0 + 1) = i + 2 by omega, show (0 : Int) + 1 + 1 = 2 from rfl, loop_end _ _ _ _ _ hs (by omega) (by omega) (by omega), show i + 1 + 2 = i + 3 by omega]
          by_cases h6 : bt s (i + 1) = 0
          · have hz : sizeOf (bt s (i + 1) * 256 + bt s (i + 2)) ≤ 2 := size_le (by omega)
            rw [if_pos h6, if_neg (by omega)]
          · rw [if_neg h6, size3 (by omega) (by omega), if_pos (by decide)]
      · rw [if_neg h4, if_neg h7]
        split
        · rfl
        · rw [if_pos (by omega)]
  · rw [if_neg h3]
    simp only [ber_Get.j1]
    rw [w64 (n := (s.size : Int) - (i + 1)) (by omega) (by omega), if_neg (by omega), loop_end _ _ _ _ _ hs (by omega) (by omega) (by omega)]
    rw [size1 (by omega) (by omega), if_pos (by decide), if_pos (by omega), Int.add_zero]
theorem awake_eq (k : Nat) : groatlaw09_awake.f (k + 6) = some true := by
  unfold groatlaw09_awake.f
  rw [get_eq k _ _ (by decide), get_eq k _ _ (by decide), size_eq, size_eq, put_eq, put_eq]
  decide +kernel
theorem rget_eq (k : Nat) (s : ByteArray) (i : Int) (hs : s.size ≤ 140737488351232) : groatref09_Get.f (k + 6) s i = some (getLen s i) := by
  unfold groatref09_Get.f getLen
  by_cases h0 : i < 0
  · rw [if_pos h0, if_pos (Or.inl h0)]; simp only [groatref09_Get.j0, if_true]
  rw [if_neg h0]
  by_cases h1 : i > s.size
  · rw [if_pos (Or.inr h1), decide_eq_true h1]; simp only [groatref09_Get.j0, if_true]
  rw [if_neg (by omega : ¬ (i < 0 ∨ i > s.size)), decide_eq_false h1]
  simp only [groatref09_Get.j0]
  rw [if_neg (by decide)]
  by_cases h2 : i = s.size
  · rw [if_pos h2, if_pos h2]
  have hb := bt_range s i
  have hc := bt_range s (i + 1)
  have hd := bt_range s (i + 2)
  rw [if_neg h2, if_neg h2, if_pos (by omega), if_pos (by omega), w64 (n := bt s i) (by omega) (by omega), w64 (n := i + 1) (by omega) (by omega)]
  by_cases h3 : bt s i < 128
  · rw [if_pos h3, if_pos (by omega)]
  rw [if_neg h3, if_neg (show ¬ bt s i ≤ 127 by omega)]
  by_cases h4 : bt s i = 129
  · rw [if_pos h4, if_pos h4]
    simp only [groatref09_Get.j1]
    rw [if_neg (by decide), w64 (n := (s.size : Int) - i) (by omega) (by omega), w64 (n := bt s i - 127) (by omega) (by omega), w64 (n := i + 1) (by omega) (by omega), w64 (n := i + 2) (by omega) (by omega), w64 (n := i + 3) (by omega) (by omega), w64 (n := bt s (i + 1)) (by omega) (by omega)]
    by_cases h5 : (s.size : Int) - i < 2
    · rw [if_pos h5, if_pos (by omega)]
    rw [if_neg h5, if_neg (by omega), if_pos h4, if_pos (by omega), if_pos (by omega)]
    by_cases h6 : bt s (i + 1) < 128
    · rw [if_pos h6, if_pos (by omega)]
    · rw [if_neg h6, if_neg (show ¬ bt s (i + 1) ≤ 127 by omega)]
  rw [if_neg h4, if_neg h4]
  simp only [groatref09_Get.j1]
  by_cases h7 : bt s i = 130
  · rw [if_pos h7, show (bt s i != 130) = false from bne_eq_false_iff_eq.mpr h7, if_neg (by decide), w64 (n := (s.size : Int) - i) (by omega) (by omega), w64 (n := bt s i - 127) (by omega) (by omega), w64 (n := i + 1) (by omega) (by omega), w64 (n := i + 2) (by omega) (by omega), w64 (n := i + 3) (by omega) (by omega),
      w64 (n := bt s (i + 1)) (by omega) (by omega), w64 (n := bt s (i + 2)) (by omega) (by omega), w64 (n := 256 * bt s (i + 1)) (by omega) (by omega), w64 (n := 256 * bt s (i + 1) + bt s (i + 2)) (by omega) (by omega)]
    by_cases h5 : (s.size : Int) - i < 3
    · rw [if_pos h5, if_pos (by omega)]
    rw [if_neg h5, if_neg (by omega), if_neg h4, if_pos (by omega), if_pos (by omega)]
    by_cases h6 : bt s (i + 1) = 0
    · rw [if_pos h6, if_pos h6]
    · rw [if_neg h6, if_neg h6, if_pos (by omega), if_pos (by omega), Int.mul_comm]
  · rw [if_neg h7, show (bt s i != 130) = true from bne_iff_ne.mpr h7, if_pos rfl]
theorem BerGets : groatlaw09_BerGets.Pure := by
  intro s i hs _
  refine ⟨8, ?_⟩
  unfold groatlaw09_BerGets.f
  rw [awake_eq, Option.bind_some, if_pos rfl]
  simp only [groatlaw09_BerGets.j0]
  by_cases h : (s.size : Int) > 500
  · rw [if_pos (decide_eq_true h), awake_eq]; rfl
  · rw [if_neg (by simpa using h), get_eq _ _ _ (by omega), rget_eq _ _ _ (by omega)]
    simp
end Go.Proofs.Ytflghnkepoodkaa.Pure
