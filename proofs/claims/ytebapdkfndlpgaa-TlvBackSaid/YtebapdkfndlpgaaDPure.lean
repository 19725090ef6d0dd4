/- Layer 10 (tlv): what the walked functions compute answers as the laws say; plain lists and byte strings, no program in sight. No conditions but what each statement names. -/
import Derived.Test.YtebapdkfndlpgaaDx
import Derived.Test.YtebapdkfndlpgaaGWords
namespace Go.Proofs.Ytebapdkfndlpgaa.Pure
open Go.RowKit Go.Proofs.Ytebapdkfndlpgaa.D Go.Proofs.YtebapdkfndlpgaaW.PrintWords Go.Proofs.YtebapdkfndlpgaaW.PrintLast Go.Proofs.Ytebapdkfndlpgaa.G
namespace Tg
/-! #### tag: what its functions compute, and the document's answer -/
def isFirst (x : Int) : Bool := decide (0 < x ∧ x ≤ 255 ∧ x / 32 % 2 = 0)
def isTag (x : Int) : Bool := decide ((0 < x ∧ x ≤ 255 ∧ x / 32 % 2 = 0 ∧ x % 32 ≠ 31) ∨ (255 < x ∧ x ≤ 65535 ∧ x / 256 / 32 % 2 = 0 ∧ x / 256 % 32 = 31 ∧ 1 ≤ x % 256 ∧ x % 256 ≤ 127))
def tagBytes (x : Int) : ByteArray := if x ≤ 255 then strOfNums [x % 256] else strOfNums [x / 256 % 256, x % 256]
theorem first_eq (x : Int) : tag_first.f x = some (isFirst x) := by
  unfold tag_first.f isFirst
  by_cases h : x > 0
  · rw [if_pos h]
    by_cases h2 : x ≤ 255
    · rw [if_pos h2, and32 (by omega) (by omega)]
      congr 1
      rw [Bool.eq_iff_iff]
      simp only [decide_eq_true_eq]
      omega
    · rw [if_neg h2]
      congr 1
      rw [Bool.eq_iff_iff]
      simp only [decide_eq_true_eq]
      constructor
      · intro h; cases h
      · omega
  · rw [if_neg h]
    congr 1
    rw [Bool.eq_iff_iff]
    simp only [decide_eq_true_eq]
    constructor
    · intro h; cases h
    · omega
theorem right_eq (x : Int) : tag_Right.f x = some (isTag x) := by
  unfold tag_Right.f
  by_cases h : x ≤ 255
  · rw [if_pos h, first_eq, Option.bind_some]
    by_cases h2 : isFirst x = true
    · have h3 := of_decide_eq_true h2
      rw [if_pos h2, and31 (by omega) (by omega)]
      congr 1
      rw [Bool.eq_iff_iff]
      simp only [bne_iff_ne, isTag, decide_eq_true_eq]
      omega
    · have h3 : ¬ _ := fun c => h2 (decide_eq_true c)
      rw [if_neg h2]
      congr 1
      rw [Bool.eq_iff_iff]
      simp only [isTag, decide_eq_true_eq]
      constructor
      · intro h; cases h
      · omega
  · rw [if_neg h]
    by_cases h1 : x ≤ 65535
    · rw [if_pos h1, first_eq, Option.bind_some]
      by_cases h2 : isFirst (x / 256) = true
      · have h3 := of_decide_eq_true h2
        rw [if_pos h2, and31 (by omega) (by omega)]
        by_cases h4 : x / 256 % 32 = 31
        · rw [if_pos h4, and255 (by omega) (by omega)]
          by_cases h5 : x % 256 ≥ 1
          · rw [if_pos h5]
            congr 1
            rw [Bool.eq_iff_iff]
            simp only [isTag, decide_eq_true_eq]
            omega
          · rw [if_neg h5]
            congr 1
            rw [Bool.eq_iff_iff]
            simp only [isTag, decide_eq_true_eq]
            constructor
            · intro h; cases h
            · omega
        · rw [if_neg h4]
          congr 1
          rw [Bool.eq_iff_iff]
          simp only [isTag, decide_eq_true_eq]
          constructor
          · intro h; cases h
          · omega
      · have h3 : ¬ _ := fun c => h2 (decide_eq_true c)
        rw [if_neg h2]
        congr 1
        rw [Bool.eq_iff_iff]
        simp only [isTag, decide_eq_true_eq]
        constructor
        · intro h; cases h
        · omega
    · rw [if_neg h1]
      congr 1
      rw [Bool.eq_iff_iff]
      simp only [isTag, decide_eq_true_eq]
      constructor
      · intro h; cases h
      · omega
theorem put_yes {x : Int} (h : isTag x = true) : tag_Put.f x = some (tagBytes x, true) := by
  unfold tag_Put.f tagBytes
  rw [right_eq, Option.bind_some, if_pos h]
  split <;> rfl
theorem put_no {x : Int} (h : isTag x = false) : tag_Put.f x = some (⟨#[]⟩, false) := by
  unfold tag_Put.f
  rw [right_eq, Option.bind_some, h]
  rfl
/-- what tag.Get answers -/
def getTag (s : ByteArray) (i : Int) : Int × Int × Int :=
  if i < 0 ∨ i > s.size then (0, 0, 1) else if i = s.size then (0, 0, 2) else
  if isFirst (bt s i) = false then (0, 0, 13) else if bt s i % 32 ≠ 31 then (bt s i, i + 1, 0) else
  if i + 1 = s.size then (0, 0, 2) else if isTag (bt s i * 256 + bt s (i + 1)) then (bt s i * 256 + bt s (i + 1), i + 2, 0) else (0, 0, 13)
theorem get_eq (k : Nat) (s : ByteArray) (i : Int) (hs : s.size ≤ 140737488351232 * 3) : tag_Get.f (k + 1) s i = some (getTag s i) := by
  unfold tag_Get.f getTag
  by_cases h0 : i < 0
  · rw [if_pos h0, if_pos (Or.inl h0)]; simp only [tag_Get.j0, if_true]
  rw [if_neg h0]
  by_cases h1 : i > s.size
  · rw [if_pos (Or.inr h1), decide_eq_true h1]; simp only [tag_Get.j0, if_true]
  rw [if_neg (by omega : ¬ (i < 0 ∨ i > s.size)), decide_eq_false h1]
  simp only [tag_Get.j0]
  rw [if_neg (by decide)]
  by_cases h2 : i = s.size
  · rw [if_pos h2, if_pos h2]
  rw [if_neg h2, if_neg h2, if_pos (by omega), if_pos (by omega)]
  have hb := bt_range s i
  rw [w64 (by omega) (by omega), first_eq, Option.bind_some]
  by_cases h3 : isFirst (bt s i) = true
  · rw [if_pos h3, if_neg (show ¬ isFirst (bt s i) = false by rw [h3]; decide), and31 (by omega) (by omega)]
    by_cases h4 : bt s i % 32 = 31
    · rw [if_pos h4, if_neg (by omega : ¬ (bt s i % 32 ≠ 31)), w64 (n := i + 1) (by omega) (by omega)]
      by_cases h5 : i + 1 = s.size
      · rw [if_pos h5, if_pos h5]
      · have hc := bt_range s (i + 1)
        rw [if_neg h5, if_neg h5, if_pos (by omega), if_pos (by omega), w64 (n := bt s (i + 1)) (by omega) (by omega), w64 (n := bt s i * 256) (by omega) (by omega),
          or8 (by omega) (by omega) (by omega) (by omega), right_eq, Option.bind_some, w64 (n := i + 2) (by omega) (by omega)]
        split <;> rfl
    · rw [if_neg h4, if_pos (show bt s i % 32 ≠ 31 from h4), w64 (n := i + 1) (by omega) (by omega)]
  · rw [if_neg h3, if_pos (by simpa using h3)]
theorem tagBytes_size {x : Int} : (tagBytes x).size = if x ≤ 255 then 1 else 2 := by
  unfold tagBytes
  split <;> rw [strOfNums_size] <;> rfl
theorem bt_first (x : Int) : bt (tagBytes x) 0 = if x ≤ 255 then x % 256 else x / 256 % 256 := by
  unfold tagBytes
  split
  · exact bt_of _ 0 (by intro y hy; rw [List.mem_singleton.1 hy]; omega)
  · exact bt_of _ 0 (by intro y hy; simp at hy; omega)
theorem bt_second (x : Int) (h : ¬ x ≤ 255) : bt (tagBytes x) 1 = x % 256 := by
  unfold tagBytes
  rw [if_neg h]
  exact bt_of _ 1 (by intro y hy; simp at hy; omega)
theorem got {x : Int} (h : isTag x = true) (m q : ByteArray) : getTag ((m ++ tagBytes x) ++ q) m.size = (x, (m.size : Int) + (tagBytes x).size, 0) := by
  have ht := of_decide_eq_true h
  have hz := @tagBytes_size x
  have e0 : bt ((m ++ tagBytes x) ++ q) (m.size : Int) = bt (tagBytes x) 0 := bt_mid m (tagBytes x) q 0 (by rw [hz]; split <;> omega)
  have hn : (((m ++ tagBytes x) ++ q).size : Int) = m.size + (tagBytes x).size + q.size := by rw [app_size, app_size]; omega
  unfold getTag
  rw [hn, e0, bt_first]
  by_cases hx : x ≤ 255
  · rw [if_pos hx] at hz
    rw [hz, if_pos hx, if_neg (by omega), if_neg (by omega), show x % 256 = x by omega, show isFirst x = true from decide_eq_true (by omega), if_neg (by decide), if_pos (by omega)]
    rfl
  · rw [if_neg hx] at hz
    have e1 : bt ((m ++ tagBytes x) ++ q) ((m.size : Int) + 1) = bt (tagBytes x) 1 := bt_mid m (tagBytes x) q 1 (by omega)
    rw [hz, e1, bt_second x hx, if_neg hx, if_neg (by omega), if_neg (by omega), show x / 256 % 256 = x / 256 by omega, show isFirst (x / 256) = true from decide_eq_true (by omega), if_neg (by decide), if_neg (by omega), if_neg (by omega),
      show x / 256 * 256 + x % 256 = x by omega, if_pos h]
    rfl
theorem rfirst_eq (k : Nat) (x : Int) (h0 : 0 ≤ x) (h1 : x ≤ 255) : groatref08_First.f (k + 1) x = some (if isFirst x = false then 0 else if x % 32 = 31 then 2 else 1) := by
  unfold groatref08_First.f
  have e : Int.tdiv x 32 % 256 % 2 = x / 32 % 2 := by rw [Int.tdiv_eq_ediv_of_nonneg h0]; omega
  have e2 : Int.tmod x 32 = x % 32 := Int.tmod_eq_emod_of_nonneg h0
  by_cases hx : x = 0
  · subst hx
    rfl
  · rw [if_neg hx, e]
    by_cases h : x / 32 % 2 = 1
    · have hf : isFirst x = false := decide_eq_false (by omega)
      rw [show (x / 32 % 2 == 1) = true from beq_iff_eq.mpr h, if_pos hf]
      simp only [groatref08_First.j0, if_true]
    · have hf : isFirst x = true := decide_eq_true (by omega)
      rw [show (x / 32 % 2 == 1) = false from beq_eq_false_iff_ne.mpr h, if_neg (by rw [hf]; decide)]
      simp only [groatref08_First.j0]
      rw [if_neg (by decide), e2]
      split <;> rfl
theorem tag_two {x y : Int} (hf : isFirst x = true) (h : x % 32 = 31) (h0 : 0 ≤ y) (h1 : y ≤ 255) : isTag (x * 256 + y) = decide (1 ≤ y ∧ y ≤ 127) := by
  have := of_decide_eq_true hf
  unfold isTag
  rw [Bool.eq_iff_iff]
  simp only [decide_eq_true_eq]
  omega
theorem rget_eq (k : Nat) (s : ByteArray) (i : Int) (hs : s.size ≤ 140737488351232) : groatref08_Get.f (k + 2) s i = some (getTag s i) := by
  unfold groatref08_Get.f getTag
  by_cases h0 : i < 0
  · rw [if_pos h0, if_pos (Or.inl h0)]; simp only [groatref08_Get.j0, if_true]
  rw [if_neg h0]
  by_cases h1 : i > s.size
  · rw [if_pos (Or.inr h1), decide_eq_true h1]; simp only [groatref08_Get.j0, if_true]
  rw [if_neg (by omega : ¬ (i < 0 ∨ i > s.size)), decide_eq_false h1]
  simp only [groatref08_Get.j0]
  rw [if_neg (by decide)]
  by_cases h2 : i = s.size
  · rw [if_pos h2, if_pos h2]
  have hb := bt_range s i
  rw [if_neg h2, if_neg h2, if_pos (by omega), if_pos (by omega), rfirst_eq _ _ hb.1 hb.2, Option.bind_some, w64 (n := i + 1) (by omega) (by omega), w64 (n := bt s i) (by omega) (by omega), w64 (n := (s.size : Int) - i) (by omega) (by omega)]
  cases h3 : isFirst (bt s i) with
  | false => simp only [if_true]
  | true =>
    rw [if_neg (show ¬ true = false by decide)]
    by_cases h4 : bt s i % 32 = 31
    · have hc := bt_range s (i + 1)
      rw [if_pos h4, if_neg (by decide), if_neg (by decide), if_neg (show ¬ true = false by decide), if_neg (show ¬ bt s i % 32 ≠ 31 by omega), tag_two h3 h4 hc.1 hc.2, w64 (n := bt s (i + 1)) (by omega) (by omega), w64 (n := 256 * bt s i) (by omega) (by omega), w64 (n := 256 * bt s i + _) (by omega) (by omega), w64 (n := i + 2) (by omega) (by omega)]
      by_cases h5 : i + 1 = s.size
      · rw [if_pos h5, if_pos (by omega)]
      rw [if_neg h5, if_neg (show ¬ (s.size : Int) - i < 2 by omega), if_pos (by omega), if_pos (by omega)]
      by_cases h6 : bt s (i + 1) = 0
      · rw [if_pos h6, decide_eq_false (by omega)]; rfl
      rw [if_neg h6]
      by_cases h7 : bt s (i + 1) > 127
      · rw [if_pos h7, decide_eq_false (by omega)]; rfl
      · rw [if_neg h7, decide_eq_true (by omega), if_pos rfl, Int.mul_comm]
    · rw [if_neg h4, if_neg (by decide), if_pos rfl, if_neg (show ¬ true = false by decide), if_pos (show bt s i % 32 ≠ 31 from h4)]
theorem rright_eq (k : Nat) (x : Int) : groatref08_Right.f (k + 2) x = some (isTag x) := by
  unfold groatref08_Right.f
  by_cases h0 : x < 0
  · rw [if_pos h0]; simp only [groatref08_Right.j0, if_true]
    rw [show isTag x = false from decide_eq_false (by omega)]
  rw [if_neg h0]
  by_cases h1 : x > 65535
  · rw [decide_eq_true h1]; simp only [groatref08_Right.j0, if_true]
    rw [show isTag x = false from decide_eq_false (by omega)]
  rw [decide_eq_false h1]
  simp only [groatref08_Right.j0]
  rw [if_neg (by decide)]
  by_cases h2 : x < 256
  · rw [if_pos h2, rfirst_eq _ _ (by omega) (by omega), Option.bind_some, show x % 256 = x by omega]
    congr 1
    rw [Bool.eq_iff_iff]
    unfold isTag isFirst
    simp only [decide_eq_true_eq, beq_iff_eq, decide_eq_false_iff_not]
    split
    · omega
    · split <;> omega
  · rw [if_neg h2, Int.tdiv_eq_ediv_of_nonneg (by omega), Int.tmod_eq_emod_of_nonneg (by omega), w64 (by omega) (by omega), rfirst_eq _ _ (by omega) (by omega), Option.bind_some, show x / 256 % 256 = x / 256 by omega]
    unfold isTag isFirst
    by_cases hf : 0 < x / 256 ∧ x / 256 ≤ 255 ∧ x / 256 / 32 % 2 = 0
    · rw [decide_eq_true hf, if_neg (show ¬ (true = false) by decide)]
      by_cases h3 : x / 256 % 32 = 31
      · rw [if_pos h3, if_pos rfl]
        by_cases h4 : x % 256 ≥ 1
        · rw [if_pos h4]
          congr 1
          rw [Bool.eq_iff_iff]
          simp only [decide_eq_true_eq]
          omega
        · rw [if_neg h4, decide_eq_false (by omega)]
      · rw [if_neg h3, if_neg (by decide), decide_eq_false (by omega)]
    · rw [decide_eq_false hf, if_pos rfl, if_neg (by decide), decide_eq_false (by omega)]
theorem rput_eq (x : Int) (h : isTag x = true) : groatref08_Put.f x = some (tagBytes x) := by
  have ht := of_decide_eq_true h
  unfold groatref08_Put.f tagBytes
  by_cases h1 : x ≤ 255
  · rw [if_pos h1, if_pos (by omega)]
  · rw [if_neg h1, if_neg (by omega), Int.tdiv_eq_ediv_of_nonneg (by omega), Int.tmod_eq_emod_of_nonneg (by omega), w64 (by omega) (by omega), Int.emod_emod_of_dvd _ (by decide)]
end Tg
namespace Br
/-! #### ber: what its functions compute -/
def sizeOf (n : Int) : Int := if n < 0 ∨ n > 65535 then 0 else if n > 255 then 3 else if n > 127 then 2 else 1
def lenNums (n : Int) : List Int := if n < 0 ∨ n > 65535 then [] else if n > 255 then [130, n / 256 % 256, n % 256] else if n > 127 then [129, n % 256] else [n % 256]
theorem lenNums_len (n : Int) : ((lenNums n).length : Int) = sizeOf n := by
  unfold lenNums sizeOf
  repeat' split
  all_goals first | rfl | omega
theorem size1 {n : Int} (h0 : 0 ≤ n) (h1 : n ≤ 127) : sizeOf n = 1 := by unfold sizeOf; rw [if_neg (by omega), if_neg (by omega), if_neg (by omega)]
theorem size2 {n : Int} (h0 : 127 < n) (h1 : n ≤ 255) : sizeOf n = 2 := by unfold sizeOf; rw [if_neg (by omega), if_neg (by omega), if_pos (by omega)]
theorem size3 {n : Int} (h0 : 255 < n) (h1 : n ≤ 65535) : sizeOf n = 3 := by unfold sizeOf; rw [if_neg (by omega), if_pos (by omega)]
theorem size_le {n : Int} (h1 : n ≤ 255) : sizeOf n ≤ 2 := by unfold sizeOf; (repeat' split) <;> omega
theorem wr1 : wrap64 (0 + 1) = 1 := w64 (by decide) (by decide)
theorem wr2 : wrap64 (1 + 1) = 2 := w64 (by decide) (by decide)
theorem wr3 : wrap64 (2 + 1) = 3 := w64 (by decide) (by decide)
theorem size_eq (k : Nat) (n : Int) : ber_Size.f (k + 1) n = some (sizeOf n) := by
  unfold ber_Size.f sizeOf
  by_cases h0 : n < 0
  · rw [if_pos h0, if_pos (Or.inl h0)]; simp only [ber_Size.j0, if_true]
  rw [if_neg h0]
  by_cases h1 : n > 65535
  · rw [if_pos (Or.inr h1), decide_eq_true h1]; simp only [ber_Size.j0, if_true]
  rw [if_neg (by omega), decide_eq_false h1]
  simp only [ber_Size.j0]
  rw [if_neg (by decide)]
  by_cases h2 : n > 255
  · rw [if_pos h2, if_pos h2, wr1, wr2, wr3]
  rw [if_neg h2, if_neg h2]
  by_cases h3 : n > 127
  · rw [if_pos h3, if_pos h3, wr1, wr2]
  rw [if_neg h3, if_neg h3, wr1]
theorem put_eq (k : Nat) (n : Int) : ber_Put.f (k + 1) n = some (strOfNums (lenNums n), decide (¬ (n < 0 ∨ n > 65535))) := by
  unfold ber_Put.f
  rw [size_eq, Option.bind_some]
  unfold sizeOf lenNums
  by_cases h : n < 0 ∨ n > 65535
  · simp only [h, if_true, not_true, decide_false]; rfl
  · by_cases h2 : n > 255
    · simp only [h, h2, if_true, if_false, not_false_eq_true, decide_true]; rfl
    · by_cases h3 : n > 127
      · simp only [h, h2, h3, if_true, if_false, not_false_eq_true, decide_true]; rfl
      · simp only [h, h2, h3, if_true, if_false, not_false_eq_true, decide_true]
/-- what ber.Get answers -/
def getLen (s : ByteArray) (i : Int) : Int × Int × Int :=
  if i < 0 ∨ i > s.size then (0, 0, 1) else if i = s.size then (0, 0, 2) else
  if bt s i ≤ 127 then (bt s i, i + 1, 0) else if bt s i = 129 then
    if (s.size : Int) - i < 2 then (0, 0, 2) else if bt s (i + 1) ≤ 127 then (0, 0, 14) else (bt s (i + 1), i + 2, 0)
  else if bt s i = 130 then
    if (s.size : Int) - i < 3 then (0, 0, 2) else if bt s (i + 1) = 0 then (0, 0, 14) else (bt s (i + 1) * 256 + bt s (i + 2), i + 3, 0)
  else (0, 0, 14)
theorem loop_step (k : Nat) (s : ByteArray) (at_ v m i : Int) (hs : s.size ≤ 140737488351232 * 3) (h0 : 0 ≤ at_) (h1 : 0 ≤ i) (h2 : i < m) (h3 : at_ + i < s.size) (h4 : 0 ≤ v) (h5 : v < 65536) :
    ber_Get.l0 (k + 1) s at_ v m m i = ber_Get.l0 k s at_ (v * 256 + bt s (at_ + i)) m m (i + 1) := by
  have hc := bt_range s (at_ + i)
  simp only [ber_Get.l0]
  rw [if_pos h2, w64 (n := at_ + i) (by omega) (by omega), if_pos (by omega), if_pos h3, w64 (n := bt s (at_ + i)) (by omega) (by omega), w64 (n := v * 256) (by omega) (by omega), or8 (by omega) (by omega) (by omega) (by omega), w64 (n := i + 1) (by omega) (by omega)]
theorem loop_end (k : Nat) (s : ByteArray) (at_ v m : Int) (hs : s.size ≤ 140737488351232 * 3) (h0 : 0 ≤ at_) (h1 : 0 ≤ m) (h3 : at_ + m ≤ s.size) :
    ber_Get.l0 (k + 2) s at_ v m m m = some (if sizeOf v = m + 1 then (v, at_ + m, 0) else (0, 0, 14)) := by
  simp only [ber_Get.l0]
  rw [if_neg (by omega), size_eq, Option.bind_some, w64 (n := m + 1) (by omega) (by omega), w64 (n := at_ + m) (by omega) (by omega)]
  split <;> rfl
theorem get_eq (k : Nat) (s : ByteArray) (i : Int) (hs : s.size ≤ 140737488351232 * 3) : ber_Get.f (k + 6) s i = some (getLen s i) := by
  unfold ber_Get.f getLen
  by_cases h0 : i < 0
  · rw [if_pos h0, if_pos (Or.inl h0)]; simp only [ber_Get.j0, if_true]
  rw [if_neg h0]
  by_cases h1 : i > s.size
  · rw [if_pos (Or.inr h1), decide_eq_true h1]; simp only [ber_Get.j0, if_true]
  rw [if_neg (by omega : ¬ (i < 0 ∨ i > s.size)), decide_eq_false h1]
  simp only [ber_Get.j0]
  rw [if_neg (by decide)]
  by_cases h2 : i = s.size
  · rw [if_pos h2, if_pos h2]
  have hb := bt_range s i
  rw [if_neg h2, if_neg h2, if_pos (by omega), if_pos (by omega), w64 (n := bt s i) (by omega) (by omega), w64 (n := i + 1) (by omega) (by omega)]
  by_cases h3 : bt s i > 127
  · rw [if_pos h3, if_neg (show ¬ bt s i ≤ 127 by omega), w64 (n := bt s i - 128) (by omega) (by omega)]
    by_cases h4 : bt s i = 129
    · rw [if_neg (by omega), if_neg (by omega), if_pos h4, show bt s i - 128 = 1 by omega]
      simp only [ber_Get.j1]
      rw [w64 (n := (s.size : Int) - (i + 1)) (by omega) (by omega)]
      by_cases h5 : (s.size : Int) - i < 2
      · rw [if_pos h5, if_pos (by omega)]
      · have hc := bt_range s (i + 1)
        rw [if_neg h5, if_neg (by omega), loop_step _ _ _ _ _ _ hs (by omega) (by omega) (by omega) (by omega) (by omega) (by omega), show (0 : Int) + 1 = 1 from rfl, loop_end _ _ _ _ _ hs (by omega) (by omega) (by omega), show i + 1 + 0 = i + 1 by omega, show (0 : Int) * 256 + bt s (i + 1) = bt s (i + 1) by omega, show i + 1 + 1 = i + 2 by omega]
        by_cases h6 : bt s (i + 1) ≤ 127
        · rw [if_pos h6, size1 (by omega) (by omega), if_neg (by decide)]
        · rw [if_neg h6, size2 (by omega) (by omega), if_pos (by decide)]
    · by_cases h7 : bt s i = 130
      · rw [if_neg (by omega), if_neg (by omega), if_neg h4, if_pos h7, show bt s i - 128 = 2 by omega]
        simp only [ber_Get.j1]
        rw [w64 (n := (s.size : Int) - (i + 1)) (by omega) (by omega)]
        by_cases h5 : (s.size : Int) - i < 3
        · rw [if_pos h5, if_pos (by omega)]
        · have hc := bt_range s (i + 1)
          have hd := bt_range s (i + 2)
          rw [if_neg h5, if_neg (by omega), loop_step _ _ _ _ _ _ hs (by omega) (by omega) (by omega) (by omega) (by omega) (by omega), show i + 1 + 0 = i + 1 by omega, show (0 : Int) * 256 + bt s (i + 1) = bt s (i + 1) by omega,
            loop_step _ _ _ _ _ _ hs (by omega) (by omega) (by omega) (by omega) (by omega) (by omega), show i + 1 + (0 + 1) = i + 2 by omega, show (0 : Int) + 1 + 1 = 2 from rfl, loop_end _ _ _ _ _ hs (by omega) (by omega) (by omega), show i + 1 + 2 = i + 3 by omega]
          by_cases h6 : bt s (i + 1) = 0
          · have hz : sizeOf (bt s (i + 1) * 256 + bt s (i + 2)) ≤ 2 := size_le (by omega)
            rw [if_pos h6, if_neg (by omega)]
          · rw [if_neg h6, size3 (by omega) (by omega), if_pos (by decide)]
      · rw [if_neg h4, if_neg h7]
        split
        · rfl
        · rw [if_pos (by omega)]
  · rw [if_neg h3]
    simp only [ber_Get.j1]
    rw [w64 (n := (s.size : Int) - (i + 1)) (by omega) (by omega), if_neg (by omega), loop_end _ _ _ _ _ hs (by omega) (by omega) (by omega)]
    rw [size1 (by omega) (by omega), if_pos (by decide), if_pos (by omega), Int.add_zero]
theorem lenNums_byte (n : Int) : ∀ x ∈ lenNums n, 0 ≤ x ∧ x < 256 := by
  unfold lenNums
  intro x hx
  (repeat' split at hx) <;> simp at hx <;> omega
theorem got {n : Int} (h0 : 0 ≤ n) (h1 : n ≤ 65535) (m q : ByteArray) : getLen ((m ++ strOfNums (lenNums n)) ++ q) m.size = (n, (m.size : Int) + (strOfNums (lenNums n)).size, 0) := by
  have hz := strOfNums_size (lenNums n)
  have hl := lenNums_len n
  have at_ : ∀ (i : Nat) (v : Int), (lenNums n)[i]? = some v → bt ((m ++ strOfNums (lenNums n)) ++ q) ((m.size : Int) + (i : Int)) = v := by
    intro i v hi
    have hb := List.getElem?_eq_some_iff.1 hi
    have e := bt_mid m (strOfNums (lenNums n)) q i (by rw [hz]; exact hb.1)
    rw [bt_of _ _ (lenNums_byte n), List.getD_eq_getElem?_getD, hi] at e
    exact e
  have hn : (((m ++ strOfNums (lenNums n)) ++ q).size : Int) = m.size + (strOfNums (lenNums n)).size + q.size := by rw [app_size, app_size]; omega
  unfold getLen
  rw [hn, hz, hl]
  by_cases c1 : n > 255
  · have hx : lenNums n = [130, n / 256 % 256, n % 256] := by unfold lenNums; rw [if_neg (by omega), if_pos c1]
    have e0 : bt ((m ++ strOfNums (lenNums n)) ++ q) (m.size : Int) = 130 := at_ 0 _ (by rw [hx]; rfl)
    have e1 : bt ((m ++ strOfNums (lenNums n)) ++ q) ((m.size : Int) + 1) = _ := at_ 1 _ (by rw [hx]; rfl)
    have e2 : bt ((m ++ strOfNums (lenNums n)) ++ q) ((m.size : Int) + 2) = _ := at_ 2 _ (by rw [hx]; rfl)
    rw [size3 c1 h1, e0, e1, e2, if_neg (by omega), if_neg (by omega), if_neg (by omega), if_neg (by omega), if_pos rfl, if_neg (by omega), if_neg (by omega), show n / 256 % 256 * 256 + n % 256 = n by omega]
  by_cases c2 : n > 127
  · have hx : lenNums n = [129, n % 256] := by unfold lenNums; rw [if_neg (by omega), if_neg c1, if_pos c2]
    have e0 : bt ((m ++ strOfNums (lenNums n)) ++ q) (m.size : Int) = 129 := at_ 0 _ (by rw [hx]; rfl)
    have e1 : bt ((m ++ strOfNums (lenNums n)) ++ q) ((m.size : Int) + 1) = _ := at_ 1 _ (by rw [hx]; rfl)
    rw [size2 c2 (by omega), e0, e1, if_neg (by omega), if_neg (by omega), if_neg (by omega), if_pos rfl, if_neg (by omega), if_neg (by omega), show n % 256 = n by omega]
  · have hx : lenNums n = [n % 256] := by unfold lenNums; rw [if_neg (by omega), if_neg c1, if_neg c2]
    have e0 : bt ((m ++ strOfNums (lenNums n)) ++ q) (m.size : Int) = _ := at_ 0 _ (by rw [hx]; rfl)
    rw [size1 h0 (by omega), e0, if_neg (by omega), if_neg (by omega), show n % 256 = n by omega, if_pos (by omega)]
theorem rget_eq (k : Nat) (s : ByteArray) (i : Int) (hs : s.size ≤ 140737488351232) : groatref09_Get.f (k + 6) s i = some (getLen s i) := by
  unfold groatref09_Get.f getLen
  by_cases h0 : i < 0
  · rw [if_pos h0, if_pos (Or.inl h0)]; simp only [groatref09_Get.j0, if_true]
  rw [if_neg h0]
  by_cases h1 : i > s.size
  · rw [if_pos (Or.inr h1), decide_eq_true h1]; simp only [groatref09_Get.j0, if_true]
  rw [if_neg (by omega : ¬ (i < 0 ∨ i > s.size)), decide_eq_false h1]
  simp only [groatref09_Get.j0]
  rw [if_neg (by decide)]
  by_cases h2 : i = s.size
  · rw [if_pos h2, if_pos h2]
  have hb := bt_range s i
  have hc := bt_range s (i + 1)
  have hd := bt_range s (i + 2)
  rw [if_neg h2, if_neg h2, if_pos (by omega), if_pos (by omega), w64 (n := bt s i) (by omega) (by omega), w64 (n := i + 1) (by omega) (by omega)]
  by_cases h3 : bt s i < 128
  · rw [if_pos h3, if_pos (by omega)]
  rw [if_neg h3, if_neg (show ¬ bt s i ≤ 127 by omega)]
  by_cases h4 : bt s i = 129
  · rw [if_pos h4, if_pos h4]
    simp only [groatref09_Get.j1]
    rw [if_neg (by decide), w64 (n := (s.size : Int) - i) (by omega) (by omega), w64 (n := bt s i - 127) (by omega) (by omega), w64 (n := i + 1) (by omega) (by omega), w64 (n := i + 2) (by omega) (by omega), w64 (n := i + 3) (by omega) (by omega), w64 (n := bt s (i + 1)) (by omega) (by omega)]
    by_cases h5 : (s.size : Int) - i < 2
    · rw [if_pos h5, if_pos (by omega)]
    rw [if_neg h5, if_neg (by omega), if_pos h4, if_pos (by omega), if_pos (by omega)]
    by_cases h6 : bt s (i + 1) < 128
    · rw [if_pos h6, if_pos (by omega)]
    · rw [if_neg h6, if_neg (show ¬ bt s (i + 1) ≤ 127 by omega)]
  rw [if_neg h4, if_neg h4]
  simp only [groatref09_Get.j1]
  by_cases h7 : bt s i = 130
  · rw [if_pos h7, show (bt s i != 130) = false from bne_eq_false_iff_eq.mpr h7, if_neg (by decide), w64 (n := (s.size : Int) - i) (by omega) (by omega), w64 (n := bt s i - 127) (by omega) (by omega), w64 (n := i + 1) (by omega) (by omega), w64 (n := i + 2) (by omega) (by omega), w64 (n := i + 3) (by omega) (by omega),
      w64 (n := bt s (i + 1)) (by omega) (by omega), w64 (n := bt s (i + 2)) (by omega) (by omega), w64 (n := 256 * bt s (i + 1)) (by omega) (by omega), w64 (n := 256 * bt s (i + 1) + bt s (i + 2)) (by omega) (by omega)]
    by_cases h5 : (s.size : Int) - i < 3
    · rw [if_pos h5, if_pos (by omega)]
    rw [if_neg h5, if_neg (by omega), if_neg h4, if_pos (by omega), if_pos (by omega)]
    by_cases h6 : bt s (i + 1) = 0
    · rw [if_pos h6, if_pos h6]
    · rw [if_neg h6, if_neg h6, if_pos (by omega), if_pos (by omega), Int.mul_comm]
  · rw [if_neg h7, show (bt s i != 130) = true from bne_iff_ne.mpr h7, if_pos rfl]
theorem rput_eq (k : Nat) (n : Int) : groatref09_Put.f (k + 1) n = some (strOfNums (lenNums n)) := by
  unfold groatref09_Put.f lenNums
  by_cases h0 : n < 0
  · rw [if_pos h0, if_pos (Or.inl h0)]; simp only [groatref09_Put.j0, if_true]; rfl
  rw [if_neg h0]
  by_cases h1 : n > 65535
  · rw [if_pos (Or.inr h1), decide_eq_true h1]; simp only [groatref09_Put.j0, if_true]; rfl
  rw [if_neg (by omega), decide_eq_false h1]
  simp only [groatref09_Put.j0]
  rw [if_neg (by decide)]
  by_cases h2 : n < 128
  · rw [if_pos h2, if_neg (by omega), if_neg (by omega)]
  rw [if_neg h2]
  by_cases h3 : n < 256
  · rw [if_pos h3, if_neg (by omega), if_pos (by omega)]
  · rw [if_neg h3, if_pos (by omega), Int.tdiv_eq_ediv_of_nonneg (by omega), Int.tmod_eq_emod_of_nonneg (by omega), w64 (by omega) (by omega), Int.emod_emod_of_dvd _ (by decide)]
end Br
open Tg (isFirst isTag tagBytes getTag)
open Br (lenNums getLen)
/-! #### lists of tagged values -/
def ckl : List S42 → List Int → Int → Int × Int
  | [], _, _ => (0, 0)
  | x :: xs, seen, i => if isTag x.f0 = false then (13, i) else if (x.f1.size : Int) > 65535 then (5, i) else if x.f0 ∈ seen then (10, i) else ckl xs (x.f0 :: seen) (i + 1)
theorem inc {i n : Nat} (h : i < n) (hn : n ≤ 5864062014805) : wrap64 ((i : Int) + 1) = ((i + 1 : Nat) : Int) := by rw [w64 (by omega) (by omega)]; rfl
theorem drop_at {l : List S42} {i : Nat} (h : i < l.length) : l.drop i = rd_T42 l i :: l.drop (i + 1) := by
  rw [List.drop_eq_getElem_cons h]
  simp [rd_T42, List.getD_eq_getElem?_getD, List.getElem?_eq_getElem h]
theorem take_at {l : List S42} {i : Nat} (h : i < l.length) : l.take (i + 1) = l.take i ++ [rd_T42 l i] := by
  rw [List.take_succ_eq_append_getElem h]
  simp [rd_T42, List.getD_eq_getElem?_getD, List.getElem?_eq_getElem h]
theorem drop_end {l : List S42} {i : Nat} (h : ¬ i < l.length) : l.drop i = [] := List.drop_of_length_le (by omega)
theorem ckl_seen (a b : List Int) : ∀ (l : List S42) (i : Int), (∀ s, s ∈ a ↔ s ∈ b) → ckl l a i = ckl l b i := by
  intro l
  induction l generalizing a b with
  | nil => intro i _; rfl
  | cons p ps ih =>
    intro i h
    have key := ih (p.f0 :: a) (p.f0 :: b) (i + 1) (fun s => by simp [h s])
    simp only [ckl]
    rw [key]
    by_cases e : p.f0 ∈ a
    · rw [if_pos e, if_pos ((h _).1 e)]
    · rw [if_neg e, if_neg (fun c => e ((h _).2 c))]
def wfs (l : List S42) : Prop := ∀ p ∈ l, (Lit.int .i64 p.f0).wf = true
theorem check_loop (l : List S42) (hl : l.length ≤ 5864062014805) (d : Nat) : ∀ (k i : Nat), l.length - i = d → d < k → tlv_Check.l0 k l (l.length : Int) (i : Int) = some (ckl (l.drop i) ((l.take i).map S42.f0) i) := by
  induction d with
  | zero =>
    intro k i hd hk
    obtain ⟨k, rfl⟩ : ∃ m, k = m + 1 := ⟨k - 1, by omega⟩
    simp only [tlv_Check.l0]
    rw [if_neg (by omega), drop_end (by omega)]
    rfl
  | succ d ih =>
    intro k i hd hk
    obtain ⟨k, rfl⟩ : ∃ m, k = m + 1 := ⟨k - 1, by omega⟩
    simp only [tlv_Check.l0]
    rw [if_pos (by omega), if_pos (by omega), if_pos (by omega), Tg.right_eq, Option.bind_some, drop_at (l := l) (i := i) (by omega), inc (n := l.length) (by omega) hl, ih k (i + 1) (by omega) (by omega)]
    simp only [ckl]
    cases isTag (rd_T42 l (i : Int)).f0 with
    | false => rfl
    | true =>
      rw [if_pos rfl, if_neg (show ¬ (true = false) by decide)]
      by_cases h1 : ((rd_T42 l (i : Int)).f1.size : Int) > 65535
      · rw [if_pos h1, if_pos h1]
      · rw [if_neg h1, if_neg h1, Int.toNat_natCast]
        by_cases h2 : (rd_T42 l (i : Int)).f0 ∈ (l.take i).map S42.f0
        · rw [if_pos h2, if_pos h2]
        · rw [if_neg h2, if_neg h2, take_at (by omega)]
          congr 1
          exact ckl_seen _ _ _ _ (fun s => by simp [or_comm])
theorem check_eq {l : List S42} (hl : l.length ≤ 5864062014805) (hw : wfs l) {k : Nat} (hk : l.length < k) : tlv_Check.f k l = some (ckl l [] 0) := by
  unfold tlv_Check.f
  rw [if_pos (List.all_eq_true.2 hw)]
  exact check_loop l hl l.length k 0 (by omega) hk
theorem has_loop (t : Int) (l : List S42) (n : Nat) (hn : n ≤ l.length) (hl : l.length ≤ 5864062014805) (d : Nat) : ∀ (k i : Nat), n - i = d → d < k → groatref10_has.l0 k l (n : Int) t (i : Int) = some (decide (t ∈ ((l.take n).drop i).map S42.f0)) := by
  induction d with
  | zero =>
    intro k i hd hk
    obtain ⟨k, rfl⟩ : ∃ m, k = m + 1 := ⟨k - 1, by omega⟩
    simp only [groatref10_has.l0]
    rw [if_neg (by omega), List.drop_of_length_le (by rw [List.length_take]; omega)]
    rfl
  | succ d ih =>
    intro k i hd hk
    obtain ⟨k, rfl⟩ : ∃ m, k = m + 1 := ⟨k - 1, by omega⟩
    have hdr : (l.take n).drop i = rd_T42 l i :: (l.take n).drop (i + 1) := by
      rw [List.drop_eq_getElem_cons (by rw [List.length_take]; omega)]
      simp [rd_T42, List.getD_eq_getElem?_getD, List.getElem?_eq_getElem (show i < l.length by omega)]
    simp only [groatref10_has.l0]
    rw [if_pos (by omega), if_pos (by omega), if_pos (by omega), hdr, inc (n := l.length) (by omega) hl, ih k (i + 1) (by omega) (by omega)]
    by_cases e : (rd_T42 l (i : Int)).f0 = t
    · rw [if_pos e, decide_eq_true (by simp [e])]
    · rw [if_neg e]
      congr 1
      rw [Bool.eq_iff_iff]
      simp [Ne.symm e]
theorem has_eq {l : List S42} {n : Nat} (hn : n ≤ l.length) (hl : l.length ≤ 5864062014805) (t : Int) {k : Nat} (hk : n < k) : groatref10_has.f k l (n : Int) t = some (decide (t ∈ (l.take n).map S42.f0)) := by
  have := has_loop t l n hn hl n k 0 (by omega) hk
  simpa [groatref10_has.f] using this
theorem rcheck_loop (l : List S42) (hl : l.length ≤ 5864062014805) (d : Nat) : ∀ (k i : Nat), l.length - i = d → l.length + d + 2 < k → i ≤ l.length → groatref10_Check.l0 k l (i : Int) = some (ckl (l.drop i) ((l.take i).map S42.f0) i) := by
  induction d with
  | zero =>
    intro k i hd hk hi
    obtain ⟨k, rfl⟩ : ∃ m, k = m + 1 := ⟨k - 1, by omega⟩
    simp only [groatref10_Check.l0]
    rw [if_neg (by omega), drop_end (by omega)]
    rfl
  | succ d ih =>
    intro k i hd hk hi
    obtain ⟨k, rfl⟩ : ∃ m, k = m + 1 := ⟨k - 1, by omega⟩
    simp only [groatref10_Check.l0]
    obtain ⟨k, rfl⟩ : ∃ m, k = m + 2 := ⟨k - 2, by omega⟩
    rw [if_pos (by omega), if_pos (by omega), Tg.rright_eq, Option.bind_some, drop_at (l := l) (i := i) (by omega), inc (n := l.length) (by omega) hl, has_eq (by omega) hl _ (by omega), ih (k + 2) (i + 1) (by omega) (by omega) (by omega)]
    simp only [ckl]
    cases isTag (rd_T42 l (i : Int)).f0 with
    | false => rfl
    | true =>
      rw [if_pos rfl, if_neg (show ¬ (true = false) by decide)]
      by_cases h1 : ((rd_T42 l (i : Int)).f1.size : Int) > 65535
      · rw [if_pos h1, if_pos h1]
      · rw [if_neg h1, if_neg h1, Option.bind_some]
        by_cases h2 : (rd_T42 l (i : Int)).f0 ∈ (l.take i).map S42.f0
        · rw [if_pos (decide_eq_true h2), if_pos h2]
        · rw [if_neg (by simpa using h2), if_neg h2, take_at (by omega)]
          congr 1
          exact ckl_seen _ _ _ _ (fun s => by simp [or_comm])
theorem rcheck_eq {l : List S42} (hl : l.length ≤ 5864062014805) {k : Nat} (hk : 2 * l.length + 2 < k) : groatref10_Check.f k l = some (ckl l [] 0) := rcheck_loop l hl l.length k 0 (by omega) (by omega) (by omega)
/-- a list that may be -/
def fine (l : List S42) : Prop := (∀ x ∈ l, isTag x.f0 = true ∧ (x.f1.size : Int) ≤ 65535) ∧ (l.map S42.f0).Nodup
theorem ckl_zero : ∀ (l : List S42) (seen : List Int) (i : Int), (ckl l seen i).1 = 0 ↔ fine l ∧ ∀ s ∈ l.map S42.f0, s ∉ seen
  | [], seen, i => by simp [ckl, fine]
  | p :: ps, seen, i => by
    simp only [ckl, fine, List.map_cons, List.nodup_cons, List.mem_cons, forall_eq_or_imp]
    cases ht : isTag p.f0 with
    | false =>
      rw [if_pos rfl]
      refine ⟨fun h => absurd h (by simp), fun h => absurd h.1.1.1.1 (by simp)⟩
    | true =>
      rw [if_neg (show ¬ (true = false) by decide)]
      by_cases h1 : (p.f1.size : Int) > 65535
      · rw [if_pos h1]
        refine ⟨fun h => absurd h (by simp), fun h => absurd h.1.1.1.2 (by omega)⟩
      · rw [if_neg h1]
        by_cases h2 : p.f0 ∈ seen
        · rw [if_pos h2]
          refine ⟨fun h => absurd h (by simp), fun h => absurd h2 h.2.1⟩
        · rw [if_neg h2, ckl_zero ps _ (i + 1)]
          simp only [List.mem_cons, not_or, fine]
          constructor
          · rintro ⟨⟨h3, h4⟩, h5⟩
            exact ⟨⟨⟨⟨trivial, by omega⟩, h3⟩, fun c => (h5 _ c).1 rfl, h4⟩, h2, fun s hs => (h5 s hs).2⟩
          · rintro ⟨⟨⟨_, h3⟩, h4, h5⟩, _, h6⟩
            exact ⟨⟨h3, h5⟩, fun s hs => ⟨fun c => h4 (by rw [← c]; exact hs), h6 s hs⟩⟩
theorem ckl_pos : ∀ (l : List S42) (seen : List Int) (i : Int), (ckl l seen i).1 = 0 → (ckl l seen i).2 = 0
  | [], seen, i, _ => rfl
  | p :: ps, seen, i, h => by
    simp only [ckl] at h ⊢
    split at h
    · exact absurd h (by simp)
    · split at h
      · exact absurd h (by simp)
      · split at h
        · exact absurd h (by simp)
        · rename_i h1 h2 h3
          rw [if_neg h1, if_neg h2, if_neg h3]
          exact ckl_pos ps _ _ h
/-! #### the bytes of a list -/
def one (x : S42) : ByteArray := (tagBytes x.f0 ++ strOfNums (lenNums (x.f1.size : Int))) ++ x.f1
def pb : List S42 → ByteArray
  | [] => ⟨#[]⟩
  | x :: xs => one x ++ pb xs
theorem app_assoc (a b c : ByteArray) : (a ++ b) ++ c = a ++ (b ++ c) := str_ext (by simp only [app_data, List.append_assoc])
theorem app_nil (a : ByteArray) : a ++ ⟨#[]⟩ = a := str_ext (by rw [app_data]; simp)
theorem nil_app (a : ByteArray) : (⟨#[]⟩ : ByteArray) ++ a = a := str_ext (by rw [app_data]; simp)
theorem put_loop (l : List S42) (hl : l.length ≤ 5864062014805) (hf : ∀ x ∈ l, isTag x.f0 = true) (d : Nat) : ∀ (k i : Nat) (acc : ByteArray), l.length - i = d → d + 1 < k → acc.size + (pb (l.drop i)).size ≤ 140737488355328 →
    tlv_Put.l0 k acc l (l.length : Int) (i : Int) = some (acc ++ pb (l.drop i), 0) := by
  induction d with
  | zero =>
    intro k i acc hd hk hs
    obtain ⟨k, rfl⟩ : ∃ m, k = m + 1 := ⟨k - 1, by omega⟩
    simp only [tlv_Put.l0]
    rw [if_neg (by omega), drop_end (by omega), pb, app_nil]
  | succ d ih =>
    intro k i acc hd hk hs
    obtain ⟨k, rfl⟩ : ∃ m, k = m + 1 := ⟨k - 1, by omega⟩
    simp only [tlv_Put.l0]
    obtain ⟨k, rfl⟩ : ∃ m, k = m + 1 := ⟨k - 1, by omega⟩
    have hdr := drop_at (l := l) (i := i) (by omega)
    have hm : rd_T42 l (i : Int) ∈ l := List.mem_of_mem_drop (hdr ▸ List.mem_cons_self ..)
    rw [hdr, pb, app_size] at hs
    have ho : (one (rd_T42 l (i : Int))).size = ((tagBytes (rd_T42 l (i : Int)).f0 ++ strOfNums (lenNums ((rd_T42 l (i : Int)).f1.size : Int))) ++ (rd_T42 l (i : Int)).f1).size := rfl
    have ho2 := app_size (tagBytes (rd_T42 l (i : Int)).f0 ++ strOfNums (lenNums ((rd_T42 l (i : Int)).f1.size : Int))) (rd_T42 l (i : Int)).f1
    have ho3 := app_size (tagBytes (rd_T42 l (i : Int)).f0) (strOfNums (lenNums ((rd_T42 l (i : Int)).f1.size : Int)))
    have hi := ih (k + 1) (i + 1) (acc ++ one (rd_T42 l (i : Int))) (by omega) (by omega) (by rw [app_size]; omega)
    rw [if_pos (by omega), if_pos (by omega), if_pos (by omega), Tg.put_yes (hf _ hm), Option.bind_some, Br.put_eq, Option.bind_some]
    dsimp only
    rw [if_pos (by omega), if_pos (by omega), if_pos (by omega), inc (n := l.length) (by omega) hl]
    rw [hdr, pb]
    rw [app_assoc acc (one _)] at hi
    exact hi
theorem put_eq {l : List S42} (hl : l.length ≤ 5864062014805) (hw : wfs l) (hs : fine l → (pb l).size ≤ 140737488355328) {k : Nat} (hk : l.length + 1 < k) : tlv_Put.f k l = some (if (ckl l [] 0).1 = 0 then (pb l, 0) else (⟨#[]⟩, (ckl l [] 0).1)) := by
  unfold tlv_Put.f
  rw [check_eq hl hw (by omega), Option.bind_some]
  by_cases h : (ckl l [] 0).1 = 0
  · have hf := ((ckl_zero l [] 0).1 h).1
    have h0 := put_loop l hl (fun x hx => (hf.1 x hx).1) l.length k 0 ⟨#[]⟩ (by omega) hk (by have := hs hf; show 0 + (pb l).size ≤ _; omega)
    rw [if_pos h, if_pos h]
    rw [nil_app, List.drop_zero] at h0
    exact h0
  · rw [if_neg h, if_neg h]
theorem rput_loop (l : List S42) (hl : l.length ≤ 5864062014805) (hf : ∀ x ∈ l, isTag x.f0 = true) (d : Nat) : ∀ (k i : Nat) (acc : ByteArray), l.length - i = d → d + 1 < k → acc.size + (pb (l.drop i)).size ≤ 140737488355328 →
    groatref10_Put.l0 k l acc (i : Int) = some (acc ++ pb (l.drop i)) := by
  induction d with
  | zero =>
    intro k i acc hd hk hs
    obtain ⟨k, rfl⟩ : ∃ m, k = m + 1 := ⟨k - 1, by omega⟩
    simp only [groatref10_Put.l0]
    rw [if_neg (by omega), drop_end (by omega), pb, app_nil]
  | succ d ih =>
    intro k i acc hd hk hs
    obtain ⟨k, rfl⟩ : ∃ m, k = m + 1 := ⟨k - 1, by omega⟩
    simp only [groatref10_Put.l0]
    obtain ⟨k, rfl⟩ : ∃ m, k = m + 1 := ⟨k - 1, by omega⟩
    have hdr := drop_at (l := l) (i := i) (by omega)
    have hm : rd_T42 l (i : Int) ∈ l := List.mem_of_mem_drop (hdr ▸ List.mem_cons_self ..)
    rw [hdr, pb, app_size] at hs
    have ho : (one (rd_T42 l (i : Int))).size = ((tagBytes (rd_T42 l (i : Int)).f0 ++ strOfNums (lenNums ((rd_T42 l (i : Int)).f1.size : Int))) ++ (rd_T42 l (i : Int)).f1).size := rfl
    have ho2 := app_size (tagBytes (rd_T42 l (i : Int)).f0 ++ strOfNums (lenNums ((rd_T42 l (i : Int)).f1.size : Int))) (rd_T42 l (i : Int)).f1
    have ho3 := app_size (tagBytes (rd_T42 l (i : Int)).f0) (strOfNums (lenNums ((rd_T42 l (i : Int)).f1.size : Int)))
    have hi := ih (k + 1) (i + 1) (acc ++ one (rd_T42 l (i : Int))) (by omega) (by omega) (by rw [app_size]; omega)
    rw [if_pos (by omega), if_pos (by omega), Tg.rput_eq _ (hf _ hm), Option.bind_some, Br.rput_eq, Option.bind_some, if_pos (by omega), if_pos (by omega), if_pos (by omega), inc (n := l.length) (by omega) hl]
    rw [hdr, pb]
    rw [app_assoc acc (one _)] at hi
    exact hi
theorem rput_eq {l : List S42} (hl : l.length ≤ 5864062014805) (hf : fine l) (hs : (pb l).size ≤ 140737488355328) {k : Nat} (hk : l.length + 1 < k) : groatref10_Put.f k l = some (pb l) := by
  have h0 := rput_loop l hl (fun x hx => (hf.1 x hx).1) l.length k 0 ⟨#[]⟩ (by omega) hk (by show 0 + (pb l).size ≤ _; omega)
  rw [nil_app, List.drop_zero] at h0
  exact h0
theorem one_size {x : S42} (h1 : (x.f1.size : Int) ≤ 65535) : (one x).size ≤ 65540 := by
  have h2 := @Tg.tagBytes_size x.f0
  have h3 := Br.lenNums_len (x.f1.size : Int)
  have h4 : Br.sizeOf (x.f1.size : Int) ≤ 3 := by unfold Br.sizeOf; (repeat' split) <;> omega
  unfold one
  rw [app_size, app_size, strOfNums_size, h2]
  split <;> omega
theorem pb_size : ∀ (l : List S42), (∀ x ∈ l, isTag x.f0 = true ∧ (x.f1.size : Int) ≤ 65535) → (pb l).size ≤ 65540 * l.length
  | [], _ => Nat.zero_le _
  | x :: xs, h => by
    have h1 := one_size (h x (List.mem_cons_self ..)).2
    have h2 := pb_size xs (fun y hy => h y (List.mem_cons_of_mem _ hy))
    rw [pb, app_size, List.length_cons]
    omega
/-! #### bytes of a string from a place on -/
theorem take_n {s : ByteArray} (i : Int) (n : Nat) (h0 : 0 ≤ i) (h : i + n ≤ s.size) : (s.extract i.toNat (i + n).toNat).data.toList = (List.range n).map fun (j : Nat) => UInt8.ofNat (bt s (i + (j : Int))).toNat := by
  rw [ext_data]
  apply List.ext_getElem?
  intro j
  rw [List.getElem?_take, List.getElem?_drop]
  by_cases hj : j < n
  · rw [if_pos (by omega), byte_of_bt (by omega), show (((i.toNat + j : Nat)) : Int) = i + j by omega]
    simp [hj]
  · rw [if_neg (by omega)]
    simp [hj]
theorem tag_ok {s : ByteArray} {i : Int} (h : (getTag s i).2.2 = 0) : isTag (getTag s i).1 = true ∧ 0 ≤ i ∧ i < (getTag s i).2.1 ∧ (getTag s i).2.1 ≤ s.size ∧ tagBytes (getTag s i).1 = s.extract i.toNat (getTag s i).2.1.toNat := by
  unfold getTag at h ⊢
  have hb := bt_range s i
  have hc := bt_range s (i + 1)
  by_cases h0 : i < 0 ∨ i > s.size
  · rw [if_pos h0] at h; cases h
  rw [if_neg h0] at h ⊢
  by_cases h1 : i = s.size
  · rw [if_pos h1] at h; cases h
  rw [if_neg h1] at h ⊢
  by_cases h2 : isFirst (bt s i) = false
  · rw [if_pos h2] at h; cases h
  rw [if_neg h2] at h ⊢
  have hf := of_decide_eq_true (show isFirst (bt s i) = true by simpa using h2)
  by_cases h3 : bt s i % 32 ≠ 31
  · rw [if_pos h3]
    refine ⟨decide_eq_true (by omega), by omega, by show i < i + 1; omega, by show i + 1 ≤ (s.size : Int); omega, str_ext ?_⟩
    show (tagBytes (bt s i)).data.toList = (s.extract i.toNat (i + (1 : Nat)).toNat).data.toList
    rw [take_n i 1 (by omega) (by omega)]
    unfold tagBytes
    rw [if_pos (by omega), strOfNums_data, Int.emod_eq_of_lt (by omega) (by omega)]
    simp [List.range_succ]
  rw [if_neg h3] at h ⊢
  by_cases h4 : i + 1 = s.size
  · rw [if_pos h4] at h; cases h
  rw [if_neg h4] at h ⊢
  by_cases h5 : isTag (bt s i * 256 + bt s (i + 1)) = true
  · rw [if_pos h5]
    refine ⟨h5, by omega, by show i < i + 2; omega, by show i + 2 ≤ (s.size : Int); omega, str_ext ?_⟩
    show (tagBytes (bt s i * 256 + bt s (i + 1))).data.toList = (s.extract i.toNat (i + (2 : Nat)).toNat).data.toList
    rw [take_n i 2 (by omega) (by omega)]
    unfold tagBytes
    rw [if_neg (by omega), strOfNums_data, show (bt s i * 256 + bt s (i + 1)) / 256 % 256 = bt s i by omega, show (bt s i * 256 + bt s (i + 1)) % 256 = bt s (i + 1) by omega]
    simp [List.range_succ]
  · rw [if_neg h5] at h; cases h
theorem len_ok {s : ByteArray} {i : Int} (h : (getLen s i).2.2 = 0) : 0 ≤ (getLen s i).1 ∧ (getLen s i).1 ≤ 65535 ∧ 0 ≤ i ∧ i < (getLen s i).2.1 ∧ (getLen s i).2.1 ≤ s.size ∧ strOfNums (lenNums (getLen s i).1) = s.extract i.toNat (getLen s i).2.1.toNat := by
  have hb := bt_range s i
  have hc := bt_range s (i + 1)
  have hd := bt_range s (i + 2)
  have fin : ∀ (n : Int) (m : Nat), 0 ≤ n → n ≤ 65535 → 0 ≤ i → 0 < m → i + m ≤ s.size → (lenNums n).map (fun v => UInt8.ofNat v.toNat) = (List.range m).map (fun (j : Nat) => UInt8.ofNat (bt s (i + (j : Int))).toNat) →
      0 ≤ n ∧ n ≤ 65535 ∧ 0 ≤ i ∧ i < i + m ∧ i + m ≤ s.size ∧ strOfNums (lenNums n) = s.extract i.toNat (i + m).toNat := by
    intro n m h0 h1 h2 h3 h4 h5
    refine ⟨h0, h1, h2, by omega, h4, str_ext ?_⟩
    rw [take_n i m h2 h4, strOfNums_data, h5]
  unfold getLen at h ⊢
  by_cases h0 : i < 0 ∨ i > s.size
  · rw [if_pos h0] at h; cases h
  rw [if_neg h0] at h ⊢
  by_cases h1 : i = s.size
  · rw [if_pos h1] at h; cases h
  rw [if_neg h1] at h ⊢
  by_cases h2 : bt s i ≤ 127
  · rw [if_pos h2]
    refine fin (bt s i) 1 (by omega) (by omega) (by omega) (by omega) (by omega) ?_
    unfold lenNums
    rw [if_neg (by omega), if_neg (by omega), if_neg (by omega), Int.emod_eq_of_lt (by omega) (by omega)]
    simp [List.range_succ]
  rw [if_neg h2] at h ⊢
  by_cases h3 : bt s i = 129
  · rw [if_pos h3] at h ⊢
    by_cases h4 : (s.size : Int) - i < 2
    · rw [if_pos h4] at h; cases h
    rw [if_neg h4] at h ⊢
    by_cases h5 : bt s (i + 1) ≤ 127
    · rw [if_pos h5] at h; cases h
    rw [if_neg h5]
    refine fin (bt s (i + 1)) 2 (by omega) (by omega) (by omega) (by omega) (by omega) ?_
    unfold lenNums
    rw [if_neg (by omega), if_neg (by omega), if_pos (by omega), Int.emod_eq_of_lt (by omega) (by omega), ← h3]
    simp [List.range_succ]
  rw [if_neg h3] at h ⊢
  by_cases h6 : bt s i = 130
  · rw [if_pos h6] at h ⊢
    by_cases h4 : (s.size : Int) - i < 3
    · rw [if_pos h4] at h; cases h
    rw [if_neg h4] at h ⊢
    by_cases h5 : bt s (i + 1) = 0
    · rw [if_pos h5] at h; cases h
    rw [if_neg h5]
    refine fin (bt s (i + 1) * 256 + bt s (i + 2)) 3 (by omega) (by omega) (by omega) (by omega) (by omega) ?_
    unfold lenNums
    rw [if_neg (by omega), if_pos (by omega), show (bt s (i + 1) * 256 + bt s (i + 2)) / 256 % 256 = bt s (i + 1) by omega, show (bt s (i + 1) * 256 + bt s (i + 2)) % 256 = bt s (i + 2) by omega, ← h6]
    simp [List.range_succ]
  · rw [if_neg h6] at h; cases h
/-! #### what Get answers -/
def pg (b : ByteArray) : Nat → Int → List S42 → List S42 × Int × Int
  | 0, _, _ => ([], 0, 0)
  | d + 1, i, out => if i < b.size then
      if (getTag b i).2.2 = 0 then
        if (getLen b (getTag b i).2.1).2.2 = 0 then
          if (b.size : Int) - (getLen b (getTag b i).2.1).2.1 < (getLen b (getTag b i).2.1).1 then ([], 2, b.size)
          else if (getTag b i).1 ∈ out.map S42.f0 then ([], 10, i)
          else pg b d ((getLen b (getTag b i).2.1).2.1 + (getLen b (getTag b i).2.1).1) (out ++ [⟨(getTag b i).1, b.extract (getLen b (getTag b i).2.1).2.1.toNat ((getLen b (getTag b i).2.1).2.1 + (getLen b (getTag b i).2.1).1).toNat⟩])
        else ([], (getLen b (getTag b i).2.1).2.2, (getTag b i).2.1)
      else ([], (getTag b i).2.2, i)
    else (out, 0, 0)
theorem tag_wf {x : Int} (h : isTag x = true) : (Lit.int .i64 x).wf = true := by
  have := of_decide_eq_true h
  simp [Lit.wf]
  rw [show IntKind.i64.min = -9223372036854775808 by decide]
  omega
theorem get_loop (b : ByteArray) (hb : b.size ≤ 140737488351232) (d : Nat) : ∀ (k : Nat) (i : Int) (out : List S42), (b.size : Int) - i < d → 0 ≤ i → i ≤ b.size → d + 7 ≤ k → out.length + d ≤ 5864062014805 → tlv_Get.l0 k b out i = some (pg b d i out) := by
  induction d with
  | zero => intro k i out h0 h1 h2; omega
  | succ d ih =>
    intro k i out h0 h1 h2 hk ho
    obtain ⟨k, rfl⟩ : ∃ m, k = m + 1 := ⟨k - 1, by omega⟩
    simp only [tlv_Get.l0, pg]
    by_cases c0 : i < b.size
    · rw [if_pos c0, if_pos c0]
      obtain ⟨m, rfl⟩ : ∃ m, k = m + 6 := ⟨k - 6, by omega⟩
      rw [Tg.get_eq (m + 5) b i (by omega), Option.bind_some]
      by_cases c1 : (getTag b i).2.2 = 0
      · obtain ⟨t1, t2, t3, t4, t5⟩ := tag_ok c1
        rw [if_pos c1, if_pos c1, Br.get_eq m b _ (by omega), Option.bind_some]
        by_cases c2 : (getLen b (getTag b i).2.1).2.2 = 0
        · obtain ⟨l1, l2, l3, l4, l5, l6⟩ := len_ok c2
          rw [if_pos c2, if_pos c2, w64 (n := (b.size : Int) - _) (by omega) (by omega)]
          by_cases c3 : (b.size : Int) - (getLen b (getTag b i).2.1).2.1 < (getLen b (getTag b i).2.1).1
          · rw [if_pos c3, if_pos c3]
          · rw [if_neg c3, if_neg c3, w64 (n := (getLen b (getTag b i).2.1).2.1 + _) (by omega) (by omega)]
            by_cases c4 : (getTag b i).1 ∈ out.map S42.f0
            · rw [if_pos c4, if_pos c4]
            · rw [if_neg c4, if_neg c4, if_pos (by omega), if_pos (by omega), if_pos (by omega), if_pos ⟨by omega, tag_wf t1⟩]
              exact ih _ _ _ (by omega) (by omega) (by omega) (by omega) (by rw [List.length_append, List.length_singleton]; omega)
        · rw [if_neg c2, if_neg c2]
      · rw [if_neg c1, if_neg c1]
    · rw [if_neg c0, if_neg c0]
theorem get_eq {b : ByteArray} (hb : b.size ≤ 5000000) {k : Nat} (hk : b.size + 8 ≤ k) : tlv_Get.f k b = some (pg b (b.size + 1) 0 []) :=
  get_loop b (by omega) (b.size + 1) k 0 [] (by omega) (by omega) (by omega) (by omega) (by simp; omega)
theorem rget_loop (b : ByteArray) (hb : b.size ≤ 140737488351232) (d : Nat) : ∀ (k : Nat) (i : Int) (out : List S42), (b.size : Int) - i < d → 0 ≤ i → i ≤ b.size → 2 * d + out.length + 7 ≤ k → out.length + d ≤ 5864062014805 → groatref10_Get.l0 k b out i = some (pg b d i out) := by
  induction d with
  | zero => intro k i out h0 h1 h2; omega
  | succ d ih =>
    intro k i out h0 h1 h2 hk ho
    obtain ⟨k, rfl⟩ : ∃ m, k = m + 1 := ⟨k - 1, by omega⟩
    simp only [groatref10_Get.l0, pg]
    by_cases c0 : i < b.size
    · rw [if_pos c0, if_pos c0]
      obtain ⟨m, rfl⟩ : ∃ m, k = m + 6 := ⟨k - 6, by omega⟩
      rw [Tg.rget_eq (m + 4) b i (by omega), Option.bind_some]
      by_cases c1 : (getTag b i).2.2 = 0
      · obtain ⟨t1, t2, t3, t4, t5⟩ := tag_ok c1
        rw [if_pos c1, if_pos c1, Br.rget_eq m b _ (by omega), Option.bind_some]
        by_cases c2 : (getLen b (getTag b i).2.1).2.2 = 0
        · obtain ⟨l1, l2, l3, l4, l5, l6⟩ := len_ok c2
          rw [if_pos c2, if_pos c2, w64 (n := (b.size : Int) - _) (by omega) (by omega)]
          by_cases c3 : (b.size : Int) - (getLen b (getTag b i).2.1).2.1 < (getLen b (getTag b i).2.1).1
          · rw [if_pos c3, if_pos c3]
          · rw [if_neg c3, if_neg c3, has_eq (Nat.le_refl _) (by omega) _ (by omega), Option.bind_some, List.take_length, w64 (n := (getLen b (getTag b i).2.1).2.1 + _) (by omega) (by omega)]
            by_cases c4 : (getTag b i).1 ∈ out.map S42.f0
            · rw [if_pos (decide_eq_true c4), if_pos c4]
            · rw [if_neg (by simpa using c4), if_neg c4, if_pos (by omega), if_pos (by omega), if_pos (by omega), if_pos (by omega)]
              exact ih _ _ _ (by omega) (by omega) (by omega) (by rw [List.length_append, List.length_singleton]; omega) (by rw [List.length_append, List.length_singleton]; omega)
        · rw [if_neg c2, if_neg c2]
      · rw [if_neg c1, if_neg c1]
    · rw [if_neg c0, if_neg c0]
theorem rget_eq {b : ByteArray} (hb : b.size ≤ 5000000) {k : Nat} (hk : 2 * b.size + 9 ≤ k) : groatref10_Get.f k b = some (pg b (b.size + 1) 0 []) :=
  rget_loop b (by omega) (b.size + 1) k 0 [] (by omega) (by omega) (by omega) (by simp; omega) (by simp; omega)
theorem pg_len (b : ByteArray) (d : Nat) : ∀ (i : Int) (out : List S42), (pg b d i out).1.length ≤ out.length + d := by
  induction d with
  | zero => intro i out; simp [pg]
  | succ d ih =>
    intro i out
    simp only [pg]
    (repeat' split)
    all_goals first
      | (simp; done)
      | (refine Nat.le_trans (ih _ _) ?_
         rw [List.length_append, List.length_singleton]
         omega)
theorem pg_err (b : ByteArray) (d : Nat) : ∀ (i : Int) (out : List S42), (pg b d i out).2.1 ≠ 0 → (pg b d i out).1 = [] := by
  induction d with
  | zero => intro i out _; simp [pg]
  | succ d ih =>
    intro i out
    simp only [pg]
    (repeat' split) <;> first | (intro _; rfl) | exact ih _ _ | (intro h; exact absurd rfl h)
/-- what is put is got -/
theorem ext_mid (p s q : ByteArray) : ((p ++ s) ++ q).extract p.size (p.size + s.size) = s := by
  apply str_ext
  rw [ext_data, app_data, app_data, List.append_assoc]
  have h1 : p.data.toList.length = p.size := data_length p
  have h2 : s.data.toList.length = s.size := data_length s
  rw [← h1, List.drop_left, show p.data.toList.length + s.size - p.data.toList.length = s.data.toList.length by omega, List.take_left]
theorem back : ∀ (xs : List S42) (p : ByteArray) (out : List S42) (d : Nat), (∀ x ∈ xs, isTag x.f0 = true ∧ (x.f1.size : Int) ≤ 65535) → (xs.map S42.f0).Nodup → (∀ s ∈ xs.map S42.f0, s ∉ out.map S42.f0) → xs.length < d → pg (p ++ pb xs) d (p.size : Int) out = (out ++ xs, 0, 0)
  | [], p, out, d, _, _, _, hd => by
    obtain ⟨d, rfl⟩ : ∃ m, d = m + 1 := ⟨d - 1, by omega⟩
    rw [pb, app_nil, List.append_nil]
    simp only [pg]
    rw [if_neg (by omega)]
  | x :: xs, p, out, d, hf, hn, hs, hd => by
    obtain ⟨d, rfl⟩ : ∃ m, d = m + 1 := ⟨d - 1, by omega⟩
    have hx := hf x (List.mem_cons_self ..)
    have e1 : p ++ pb (x :: xs) = (p ++ tagBytes x.f0) ++ ((strOfNums (lenNums (x.f1.size : Int)) ++ x.f1) ++ pb xs) := by rw [pb, one]; simp only [app_assoc]
    have e2 : p ++ pb (x :: xs) = ((p ++ tagBytes x.f0) ++ strOfNums (lenNums (x.f1.size : Int))) ++ (x.f1 ++ pb xs) := by rw [e1]; simp only [app_assoc]
    have e3 : p ++ pb (x :: xs) = (((p ++ tagBytes x.f0) ++ strOfNums (lenNums (x.f1.size : Int))) ++ x.f1) ++ pb xs := by rw [e2]; simp only [app_assoc]
    have g1 : getTag (p ++ pb (x :: xs)) (p.size : Int) = (x.f0, (((p ++ tagBytes x.f0).size : Nat) : Int), 0) := by
      rw [e1, Tg.got hx.1, app_size]; simp
    have g2 : getLen (p ++ pb (x :: xs)) (((p ++ tagBytes x.f0).size : Nat) : Int) = ((x.f1.size : Int), ((((p ++ tagBytes x.f0) ++ strOfNums (lenNums (x.f1.size : Int))).size : Nat) : Int), 0) := by
      rw [e2, Br.got (by omega) hx.2, app_size (p ++ tagBytes x.f0)]; simp
    have hz : (p ++ pb (x :: xs)).size = ((p ++ tagBytes x.f0) ++ strOfNums (lenNums (x.f1.size : Int))).size + x.f1.size + (pb xs).size := by rw [e3, app_size, app_size]
    have hpos : p.size < (p ++ pb (x :: xs)).size := by
      have ht := @Tg.tagBytes_size x.f0
      rw [e1, app_size, app_size, ht]; split <;> omega
    have hq := back xs (((p ++ tagBytes x.f0) ++ strOfNums (lenNums (x.f1.size : Int))) ++ x.f1) (out ++ [x]) d (fun y hy => hf y (List.mem_cons_of_mem _ hy)) (by simp only [List.map_cons, List.nodup_cons] at hn; exact hn.2) (by
      intro s hs1 hs2
      simp only [List.map_append, List.map_cons, List.map_nil, List.mem_append, List.mem_singleton] at hs2
      rcases hs2 with c | c
      · exact hs s (by simp only [List.map_cons]; exact List.mem_cons_of_mem _ hs1) c
      · simp only [List.map_cons, List.nodup_cons] at hn
        exact hn.1 (c ▸ hs1)) (by rw [List.length_cons] at hd; omega)
    simp only [pg]
    rw [if_pos (by omega), g1]
    simp only []
    rw [if_pos trivial, g2]
    simp only []
    rw [if_pos trivial, if_neg (by omega), if_neg (hs x.f0 (by simp))]
    have hx1 : (p ++ pb (x :: xs)).extract ((((p ++ tagBytes x.f0) ++ strOfNums (lenNums (x.f1.size : Int))).size : Nat) : Int).toNat (((((p ++ tagBytes x.f0) ++ strOfNums (lenNums (x.f1.size : Int))).size : Nat) : Int) + (x.f1.size : Int)).toNat = x.f1 := by
      rw [show (((((p ++ tagBytes x.f0) ++ strOfNums (lenNums (x.f1.size : Int))).size : Nat) : Int) + (x.f1.size : Int)).toNat = ((p ++ tagBytes x.f0) ++ strOfNums (lenNums (x.f1.size : Int))).size + x.f1.size by omega, Int.toNat_natCast, e3]
      exact ext_mid _ _ _
    rw [hx1, show (((((p ++ tagBytes x.f0) ++ strOfNums (lenNums (x.f1.size : Int))).size : Nat) : Int) + (x.f1.size : Int)) = (((((p ++ tagBytes x.f0) ++ strOfNums (lenNums (x.f1.size : Int))) ++ x.f1).size : Nat) : Int) by rw [app_size _ x.f1]; omega, e3]
    rw [show (⟨x.f0, x.f1⟩ : S42) = x from rfl, hq, List.append_assoc]
    rfl
/-- what is got is put as it was -/
theorem ext_join {b : ByteArray} {i j n : Nat} (h0 : i ≤ j) (h1 : j ≤ n) (h2 : n ≤ b.size) : b.extract i j ++ b.extract j n = b.extract i n := by
  apply str_ext
  rw [app_data, ext_data, ext_data, ext_data]
  have hl : b.data.toList.length = b.size := data_length b
  apply List.ext_getElem?
  intro m
  rw [List.getElem?_append]
  have h3 : ((b.data.toList.drop i).take (j - i)).length = j - i := by rw [List.length_take, List.length_drop]; omega
  rw [h3]
  simp only [List.getElem?_take, List.getElem?_drop]
  by_cases c : m < j - i
  · rw [if_pos c, if_pos c, if_pos (by omega)]
  · rw [if_neg c]
    by_cases c2 : m - (j - i) < n - j
    · rw [if_pos c2, if_pos (by omega), show j + (m - (j - i)) = i + m by omega]
    · rw [if_neg c2, if_neg (by omega)]
theorem once (b : ByteArray) (d : Nat) : ∀ (i : Int) (out : List S42), (b.size : Int) - i < d → 0 ≤ i → i ≤ b.size → (pg b d i out).2.1 = 0 →
    ∃ xs, (pg b d i out).1 = out ++ xs ∧ (∀ x ∈ xs, isTag x.f0 = true ∧ (x.f1.size : Int) ≤ 65535) ∧ (xs.map S42.f0).Nodup ∧ (∀ s ∈ xs.map S42.f0, s ∉ out.map S42.f0) ∧ pb xs = b.extract i.toNat b.size := by
  induction d with
  | zero => intro i out h0 h1 h2; omega
  | succ d ih =>
    intro i out h0 h1 h2 h
    simp only [pg] at h ⊢
    by_cases c0 : i < b.size
    · rw [if_pos c0] at h ⊢
      by_cases c1 : (getTag b i).2.2 = 0
      · obtain ⟨t1, t2, t3, t4, t5⟩ := tag_ok c1
        rw [if_pos c1] at h ⊢
        by_cases c2 : (getLen b (getTag b i).2.1).2.2 = 0
        · obtain ⟨l1, l2, l3, l4, l5, l6⟩ := len_ok c2
          rw [if_pos c2] at h ⊢
          by_cases c3 : (b.size : Int) - (getLen b (getTag b i).2.1).2.1 < (getLen b (getTag b i).2.1).1
          · rw [if_pos c3] at h; cases h
          rw [if_neg c3] at h ⊢
          by_cases c4 : (getTag b i).1 ∈ out.map S42.f0
          · rw [if_pos c4] at h; cases h
          rw [if_neg c4] at h ⊢
          obtain ⟨xs, x1, x2, x3, x4, x5⟩ := ih _ _ (by omega) (by omega) (by omega) h
          generalize hT : getTag b i = T at *
          generalize hL : getLen b T.2.1 = L at *
          have hsz : (b.extract L.2.1.toNat (L.2.1 + L.1).toNat).size = L.1.toNat := by rw [ByteArray.size_extract]; omega
          refine ⟨⟨T.1, b.extract L.2.1.toNat (L.2.1 + L.1).toNat⟩ :: xs, ?_, ?_, ?_, ?_, ?_⟩
          · rw [x1, List.append_assoc]; rfl
          · intro x hx
            rcases List.mem_cons.1 hx with rfl | hx
            · exact ⟨t1, by show ((b.extract L.2.1.toNat (L.2.1 + L.1).toNat).size : Int) ≤ 65535; rw [hsz]; omega⟩
            · exact x2 x hx
          · simp only [List.map_cons, List.nodup_cons]
            exact ⟨fun c => x4 _ c (by simp), x3⟩
          · intro s hs
            simp only [List.map_cons, List.mem_cons] at hs
            rcases hs with rfl | hs
            · exact c4
            · exact fun c => x4 s hs (by simp only [List.map_append, List.mem_append]; exact .inl c)
          · rw [pb, one, x5]
            simp only []
            rw [hsz, Int.toNat_of_nonneg l1, t5, l6, ext_join (by omega) (by omega) (by omega), ext_join (by omega) (by omega) (by omega), ext_join (by omega) (by omega) (by omega)]
        · rw [if_neg c2] at h
          exact absurd h c2
      · rw [if_neg c1] at h
        exact absurd h c1
    · rw [if_neg c0]
      refine ⟨[], by rw [List.append_nil], by simp, by simp, by simp, ?_⟩
      apply str_ext
      rw [ext_data, pb, show b.size - i.toNat = 0 by omega]
      simp
/-! #### awake, great, Same, Find -/
theorem awake_at : groatlaw10_awake.f 30 = some true := by decide +kernel
theorem awake_eq {k : Nat} (hk : 30 ≤ k) : groatlaw10_awake.f k = some true := at_rounds groatlaw10_awake.mono hk awake_at
def gr (l : List S42) : Bool := decide (l.length > 60) || l.any (fun x => decide ((x.f1.size : Int) > 70000))
theorem great_loop (l : List S42) (hl : l.length ≤ 5864062014805) (d : Nat) : ∀ (k i : Nat), l.length - i = d → d < k → groatlaw10_great.l0 k l (l.length : Int) (i : Int) = some ((l.drop i).any (fun x => decide ((x.f1.size : Int) > 70000))) := by
  induction d with
  | zero =>
    intro k i hd hk
    obtain ⟨k, rfl⟩ : ∃ m, k = m + 1 := ⟨k - 1, by omega⟩
    simp only [groatlaw10_great.l0]
    rw [if_neg (by omega), drop_end (by omega)]
    rfl
  | succ d ih =>
    intro k i hd hk
    obtain ⟨k, rfl⟩ : ∃ m, k = m + 1 := ⟨k - 1, by omega⟩
    simp only [groatlaw10_great.l0]
    rw [if_pos (by omega), if_pos (by omega), if_pos (by omega), inc (n := l.length) (by omega) hl, ih k (i + 1) (by omega) (by omega), drop_at (l := l) (i := i) (by omega), List.any_cons]
    by_cases c : ((rd_T42 l (i : Int)).f1.size : Int) > 70000
    · rw [if_pos c, decide_eq_true c, Bool.true_or]
    · rw [if_neg c, decide_eq_false c, Bool.false_or]
theorem great_eq (l : List S42) {k : Nat} (hk : 61 < k) : groatlaw10_great.f k l = some (gr l) := by
  unfold groatlaw10_great.f gr
  by_cases h : (l.length : Int) > 60
  · rw [if_pos h, decide_eq_true (show l.length > 60 by omega), Bool.true_or]
  · rw [if_neg h, decide_eq_false (show ¬ l.length > 60 by omega), Bool.false_or]
    exact great_loop l (by omega) l.length k 0 (by omega) (by omega)
theorem great_small {l : List S42} (h : gr l = false) : l.length ≤ 60 := by
  unfold gr at h
  simp only [Bool.or_eq_false_iff, decide_eq_false_iff_not] at h
  omega
theorem same_loop (l : List S42) (hl : l.length ≤ 5864062014805) (d : Nat) : ∀ (k i : Nat), l.length - i = d → d < k → groatref10_Same.l0 k l l (i : Int) = some true := by
  induction d with
  | zero =>
    intro k i hd hk
    obtain ⟨k, rfl⟩ : ∃ m, k = m + 1 := ⟨k - 1, by omega⟩
    simp only [groatref10_Same.l0]
    rw [if_neg (by omega)]
  | succ d ih =>
    intro k i hd hk
    obtain ⟨k, rfl⟩ : ∃ m, k = m + 1 := ⟨k - 1, by omega⟩
    simp only [groatref10_Same.l0]
    rw [if_pos (by omega), if_pos (by omega), if_pos (by omega), beq_iff_eq.2 rfl, beq_iff_eq.2 rfl, if_neg (by decide), inc (n := l.length) (by omega) hl]
    exact ih k (i + 1) (by omega) (by omega)
theorem same_eq {l : List S42} (hl : l.length ≤ 5864062014805) {k : Nat} (hk : l.length < k) : groatref10_Same.f k l l = some true := by
  unfold groatref10_Same.f
  rw [if_pos rfl]
  exact same_loop l hl l.length k 0 (by omega) hk
def look (t : Int) : List S42 → ByteArray × Bool
  | [] => (⟨#[]⟩, false)
  | x :: xs => if x.f0 = t then (x.f1, true) else look t xs
theorem find_loop (t : Int) (l : List S42) (hl : l.length ≤ 5864062014805) (d : Nat) : ∀ (k i : Nat), l.length - i = d → d < k → tlv_Find.l0 k t l (l.length : Int) (i : Int) = some (look t (l.drop i)) := by
  induction d with
  | zero =>
    intro k i hd hk
    obtain ⟨k, rfl⟩ : ∃ m, k = m + 1 := ⟨k - 1, by omega⟩
    simp only [tlv_Find.l0]
    rw [if_neg (by omega), drop_end (by omega)]
    rfl
  | succ d ih =>
    intro k i hd hk
    obtain ⟨k, rfl⟩ : ∃ m, k = m + 1 := ⟨k - 1, by omega⟩
    simp only [tlv_Find.l0]
    rw [if_pos (by omega), if_pos (by omega), if_pos (by omega), inc (n := l.length) (by omega) hl, ih k (i + 1) (by omega) (by omega), drop_at (l := l) (i := i) (by omega)]
    simp only [look]
    split <;> rfl
theorem find_eq (t : Int) {l : List S42} (hl : l.length ≤ 5864062014805) {k : Nat} (hk : l.length < k) : tlv_Find.f k l t = some (look t l) := find_loop t l hl l.length k 0 (by omega) hk
theorem lawfind_loop (t : Int) (l : List S42) (hl : l.length ≤ 5864062014805) (d : Nat) : ∀ (k i : Nat), l.length - i = d → d < k → groatlaw10_TlvFinds.l0 k t (look t (l.drop i)).1 (look t (l.drop i)).2 l (l.length : Int) (i : Int) = some true := by
  induction d with
  | zero =>
    intro k i hd hk
    obtain ⟨k, rfl⟩ : ∃ m, k = m + 1 := ⟨k - 1, by omega⟩
    simp only [groatlaw10_TlvFinds.l0]
    rw [if_neg (by omega), drop_end (by omega)]
    rw [show look t [] = (⟨#[]⟩, false) from rfl, if_neg (by decide), toL]
    rfl
  | succ d ih =>
    intro k i hd hk
    obtain ⟨k, rfl⟩ : ∃ m, k = m + 1 := ⟨k - 1, by omega⟩
    have hi := ih k (i + 1) (by omega) (by omega)
    rw [drop_at (l := l) (i := i) (by omega)]
    by_cases e : (rd_T42 l (i : Int)).f0 = t
    · have hk : look t (rd_T42 l (i : Int) :: l.drop (i + 1)) = ((rd_T42 l (i : Int)).f1, true) := by simp only [look]; rw [if_pos e]
      rw [hk]
      simp only [groatlaw10_TlvFinds.l0]
      rw [if_pos (by omega), if_pos (by omega), if_pos (by omega), if_pos e, if_pos trivial, beq_iff_eq.2 rfl]
    · have hk : look t (rd_T42 l (i : Int) :: l.drop (i + 1)) = look t (l.drop (i + 1)) := by simp only [look]; rw [if_neg e]
      rw [hk]
      simp only [groatlaw10_TlvFinds.l0]
      rw [if_pos (by omega), if_pos (by omega), if_pos (by omega), if_neg e, inc (n := l.length) (by omega) hl]
      exact hi
/-! #### the five laws -/
theorem TlvPuts (l : List S42) (hw : wfs l) : ∃ k, groatlaw10_TlvPuts.f k l = some true := by
  refine ⟨300, ?_⟩
  unfold groatlaw10_TlvPuts.f
  rw [awake_eq (by omega), Option.bind_some, if_pos rfl, great_eq l (by omega), Option.bind_some]
  simp only [groatlaw10_TlvPuts.j0]
  cases hg : gr l with
  | true => rw [if_pos rfl, awake_eq (by omega)]; rfl
  | false =>
    have hl := great_small hg
    have hs : fine l → (pb l).size ≤ 140737488355328 := fun h => by have := pb_size l h.1; omega
    rw [if_neg (by decide), Option.bind_some, if_pos (by simp only [List.length_nil]; omega), List.nil_append, check_eq (by omega) hw (by omega), Option.bind_some, rcheck_eq (by omega) (by omega), Option.bind_some, Option.bind_some, if_pos (by simp only [List.length_nil]; omega), List.nil_append, put_eq (by omega) hw hs (by omega), Option.bind_some, if_pos rfl, if_pos rfl]
    by_cases h : (ckl l [] 0).1 = 0
    · rw [if_pos h]
      simp only []
      rw [if_pos h.symm, if_pos h, rput_eq (by omega) ((ckl_zero l [] 0).1 h).1 (hs ((ckl_zero l [] 0).1 h).1) (by omega), Option.bind_some, beq_iff_eq.2 rfl]
    · rw [if_neg h]
      simp only []
      rw [if_pos trivial, if_neg h, toL]
      rfl
theorem TlvGets : groatlaw10_TlvGets.Pure := by
  intro b hb
  refine ⟨5000, ?_⟩
  unfold groatlaw10_TlvGets.f
  rw [awake_eq (by omega), Option.bind_some, if_pos rfl]
  simp only [groatlaw10_TlvGets.j0]
  by_cases h : (b.size : Int) > 2000
  · rw [if_pos (decide_eq_true h), awake_eq (by omega)]; rfl
  have hn := pg_len b (b.size + 1) 0 []
  rw [if_neg (by simpa using h), get_eq (by omega) (by omega), Option.bind_some, rget_eq (by omega) (by omega), Option.bind_some, same_eq (by simp at hn; omega) (by simp at hn; omega), Option.bind_some, if_pos rfl, if_pos rfl, beq_iff_eq.2 rfl]
theorem TlvBack (l : List S42) (hw : wfs l) : ∃ k, groatlaw10_TlvBack.f k l = some true := by
  refine ⟨5000000, ?_⟩
  unfold groatlaw10_TlvBack.f
  rw [awake_eq (by omega), Option.bind_some, if_pos rfl, great_eq l (by omega), Option.bind_some]
  simp only [groatlaw10_TlvBack.j0]
  cases hg : gr l with
  | true => rw [if_pos rfl, awake_eq (by omega)]; rfl
  | false =>
    have hl := great_small hg
    have hs : fine l → (pb l).size ≤ 140737488355328 := fun h => by have := pb_size l h.1; omega
    rw [if_neg (by decide), Option.bind_some, if_pos (by simp only [List.length_nil]; omega), List.nil_append, put_eq (by omega) hw hs (by omega), Option.bind_some]
    by_cases h : (ckl l [] 0).1 = 0
    · have hf := ((ckl_zero l [] 0).1 h).1
      have hz := pb_size l hf.1
      have hk : l.length < (pb l).size + 1 := by
        have : ∀ xs : List S42, xs.length ≤ (pb xs).size := fun xs => by
          induction xs with
          | nil => simp
          | cons x xs ih =>
            have ht := @Tg.tagBytes_size x.f0
            rw [pb, one, app_size, app_size, app_size, ht, List.length_cons]; split <;> omega
        have := this l; omega
      have hb := back l ⟨#[]⟩ [] ((pb l).size + 1) hf.1 hf.2 (by simp) hk
      rw [nil_app, List.nil_append] at hb
      rw [if_pos h]
      simp only []
      rw [if_pos trivial, get_eq (by omega) (by omega), Option.bind_some]
      rw [show pg (pb l) ((pb l).size + 1) 0 [] = (l, 0, 0) from hb]
      simp only []
      rw [if_pos trivial, if_pos trivial, same_eq (by omega) (by omega), Option.bind_some]
    · rw [if_neg h]
      simp only []
      rw [if_neg h, toL]
      rfl
theorem TlvOne : groatlaw10_TlvOne.Pure := by
  intro b hb
  refine ⟨5000, ?_⟩
  unfold groatlaw10_TlvOne.f
  rw [awake_eq (by omega), Option.bind_some, if_pos rfl]
  simp only [groatlaw10_TlvOne.j0]
  by_cases h : (b.size : Int) > 2000
  · rw [if_pos (decide_eq_true h), awake_eq (by omega)]; rfl
  have hn := pg_len b (b.size + 1) 0 []
  rw [if_neg (by simpa using h), get_eq (by omega) (by omega), Option.bind_some]
  by_cases c : (pg b (b.size + 1) 0 []).2.1 = 0
  · obtain ⟨xs, x1, x2, x3, _, x5⟩ := once b (b.size + 1) 0 [] (by omega) (by omega) (by omega) c
    rw [List.nil_append] at x1
    rw [x1] at hn
    have hbs : pb xs = b := by
      rw [x5]
      apply str_ext
      rw [ext_data, ← data_length b]
      show (b.data.toList.drop 0).take (b.data.toList.length - 0) = _
      rw [List.drop_zero, Nat.sub_zero, List.take_length]
    have hck : (ckl xs [] 0).1 = 0 := (ckl_zero xs [] 0).2 ⟨⟨x2, x3⟩, by simp⟩
    rw [if_pos c, x1, put_eq (by simp at hn; omega) (fun p hp => tag_wf (x2 p hp).1) (fun _ => by rw [hbs]; omega) (by simp at hn; omega), Option.bind_some, if_pos hck]
    simp only []
    rw [if_pos trivial, hbs, beq_iff_eq.2 rfl]
  · rw [if_neg c, pg_err _ _ _ _ c]
    rfl
theorem TlvFinds (l : List S42) (t : Int) : ∃ k, groatlaw10_TlvFinds.f k l t = some true := by
  refine ⟨300, ?_⟩
  unfold groatlaw10_TlvFinds.f
  rw [awake_eq (by omega), Option.bind_some, if_pos rfl, great_eq l (by omega), Option.bind_some]
  simp only [groatlaw10_TlvFinds.j0]
  cases hg : gr l with
  | true => rw [if_pos rfl, awake_eq (by omega)]; rfl
  | false =>
    have hl := great_small hg
    rw [if_neg (by decide), Option.bind_some, if_pos (by simp only [List.length_nil]; omega), List.nil_append, find_eq t (by omega) (by omega), Option.bind_some]
    exact lawfind_loop t l (by omega) l.length 299 0 (by omega) (by omega)
end Go.Proofs.Ytebapdkfndlpgaa.Pure
