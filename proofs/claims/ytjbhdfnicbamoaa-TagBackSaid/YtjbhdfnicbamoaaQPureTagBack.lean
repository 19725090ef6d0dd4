/- The law TagBack, over plain functions: a tag that is put is got as it was, whatever stands ahead and behind. No conditions. -/
import Derived.Test.YtjbhdfnicbamoaaQTagBackx1
import Derived.Test.YtjbhdfnicbamoaaGWords
namespace Go.Proofs.Ytjbhdfnicbamoaa.Pure
open Go.RowKit Go.Proofs.Ytjbhdfnicbamoaa.QTagBack Go.Proofs.YtjbhdfnicbamoaaW.PrintWords Go.Proofs.YtjbhdfnicbamoaaW.PrintLast Go.Proofs.Ytjbhdfnicbamoaa.G
/-! #### tag: what its functions compute, and the document's answer -/
def isFirst (x : Int) : Bool := decide (0 < x ∧ x ≤ 255 ∧ x / 32 % 2 = 0)
def isTag (x : Int) : Bool := decide ((0 < x ∧ x ≤ 255 ∧ x / 32 % 2 = 0 ∧ x % 32 ≠ 31) ∨ (255 < x ∧ x ≤ 65535 ∧ x / 256 / 32 % 2 = 0 ∧ x / 256 % 32 = 31 ∧ 1 ≤ x % 256 ∧ x % 256 ≤ 127))
def tagBytes (x : Int) : ByteArray := if x ≤ 255 then strOfNums [x % 256] else strOfNums [x / 256 % 256, x % 256]
theorem first_eq (x : Int) : tag_first.f x = some (isFirst x) := by
  unfold tag_first.f isFirst
  by_cases h : x > 0
  · rw [if_pos h]
    by_cases h2 : x ≤ 255
    · rw [if_pos h2, and32 (by omega) (by omega)]
      congr 1
      rw [Bool.eq_iff_iff]
      simp only [decide_eq_true_eq]
      omega
    · rw [if_neg h2]
      congr 1
      rw [Bool.eq_iff_iff]
      simp only [decide_eq_true_eq]
      constructor
      · intro h; cases h
      · omega
  · rw [if_neg h]
    congr 1
    rw [Bool.eq_iff_iff]
    simp only [decide_eq_true_eq]
    constructor
    · intro h; cases h
    · omega
theorem right_eq (x : Int) : tag_Right.f x = some (isTag x) := by
  unfold tag_Right.f
  by_cases h : x ≤ 255
  · rw [if_pos h, first_eq, Option.bind_some]
    by_cases h2 : isFirst x = true
    · have h3 := of_decide_eq_true h2
      rw [if_pos h2, and31 (by omega) (by omega)]
      congr 1
      rw [Bool.eq_iff_iff]
      simp only [bne_iff_ne, isTag, decide_eq_true_eq]
      omega
    · have h3 : ¬ _ := fun c => h2 (decide_eq_true c)
      rw [if_neg h2]
      congr 1
      rw [Bool.eq_iff_iff]
      simp only [isTag, decide_eq_true_eq]
      constructor
      · intro h; cases h
      · omega
  · rw [if_neg h]
    by_cases h1 : x ≤ 65535
    · rw [if_pos h1, first_eq, Option.bind_some]
      by_cases h2 : isFirst (x / 256) = true
      · have h3 := of_decide_eq_true h2
        rw [if_pos h2, and31 (by omega) (by omega)]
        by_cases h4 : x / 256 % 32 = 31
        · rw [if_pos h4, and255 (by omega) (by omega)]
          by_cases h5 : x % 256 ≥ 1
          · rw [if_pos h5]
            congr 1
            rw [Bool.eq_iff_iff]
            simp only [isTag, decide_eq_true_eq]
            omega
          · rw [if_neg h5]
            congr 1
            rw [Bool.eq_iff_iff]
            simp only [isTag, decide_eq_true_eq]
            constructor
            · intro h; cases h
            · omega
        · rw [if_neg h4]
          congr 1
          rw [Bool.eq_iff_iff]
          simp only [isTag, decide_eq_true_eq]
          constructor
          · intro h; cases h
          · omega
      · have h3 : ¬ _ := fun c => h2 (decide_eq_true c)
        rw [if_neg h2]
        congr 1
        rw [Bool.eq_iff_iff]
        simp only [isTag, decide_eq_true_eq]
        constructor
        · intro h; cases h
        · omega
    · rw [if_neg h1]
      congr 1
      rw [Bool.eq_iff_iff]
      simp only [isTag, decide_eq_true_eq]
      constructor
      · intro h; cases h
      · omega
theorem put_yes {x : Int} (h : isTag x = true) : tag_Put.f x = some (tagBytes x, true) := by
  unfold tag_Put.f tagBytes
  rw [right_eq, Option.bind_some, if_pos h]
  split <;> rfl
theorem put_no {x : Int} (h : isTag x = false) : tag_Put.f x = some (⟨#[]⟩, false) := by
  unfold tag_Put.f
  rw [right_eq, Option.bind_some, h]
  rfl
/-- what tag.Get answers -/
def getTag (s : ByteArray) (i : Int) : Int × Int × Int :=
  if i < 0 ∨ i > s.size then (0, 0, 1) else if i = s.size then (0, 0, 2) else
  if isFirst (bt s i) = false then (0, 0, 13) else if bt s i % 32 ≠ 31 then (bt s i, i + 1, 0) else
  if i + 1 = s.size then (0, 0, 2) else if isTag (bt s i * 256 + bt s (i + 1)) then (bt s i * 256 + bt s (i + 1), i + 2, 0) else (0, 0, 13)
theorem get_eq (k : Nat) (s : ByteArray) (i : Int) (hs : s.size ≤ 140737488351232 * 3) : tag_Get.f (k + 1) s i = some (getTag s i) := by
  unfold tag_Get.f getTag
  by_cases h0 : i < 0
  · rw [if_pos h0, if_pos (Or.inl h0)]; simp only [tag_Get.j0, if_true]
  rw [if_neg h0]
  by_cases h1 : i > s.size
  · rw [if_pos (Or.inr h1), decide_eq_true h1]; simp only [tag_Get.j0, if_true]
  rw [if_neg (by omega : ¬ (i < 0 ∨ i > s.size)), decide_eq_false h1]
  simp only [tag_Get.j0]
  rw [if_neg (by decide)]
  by_cases h2 : i = s.size
  · rw [if_pos h2, if_pos h2]
  rw [if_neg h2, if_neg h2, if_pos (by omega), if_pos (by omega)]
  have hb := bt_range s i
  rw [w64 (by omega) (by omega), first_eq, Option.bind_some]
  by_cases h3 : isFirst (bt s i) = true
  · rw [if_pos h3, if_neg (show ¬ isFirst (bt s i) = false by rw [h3]; decide), and31 (by omega) (by omega)]
    by_cases h4 : bt s i % 32 = 31
    · rw [if_pos h4, if_neg (by omega : ¬ (bt s i % 32 ≠ 31)), w64 (n := i + 1) (by omega) (by omega)]
      by_cases h5 : i + 1 = s.size
      · rw [if_pos h5, if_pos h5]
      · have hc := bt_range s (i + 1)
        rw [if_neg h5, if_neg h5, if_pos (by omega), if_pos (by omega), w64 (n := bt s (i + 1)) (by omega) (by omega), w64 (n := bt s i * 256) (by omega) (by omega),
          or8 (by omega) (by omega) (by omega) (by omega), right_eq, Option.bind_some, w64 (n := i + 2) (by omega) (by omega)]
        split <;> rfl
    · rw [if_neg h4, if_pos (show bt s i % 32 ≠ 31 from h4), w64 (n := i + 1) (by omega) (by omega)]
  · rw [if_neg h3, if_pos (by simpa using h3)]
theorem awake_eq (k : Nat) : groatlaw08_awake.f (k + 1) = some true := by
  unfold groatlaw08_awake.f
  rw [get_eq k _ _ (by decide), get_eq k _ _ (by decide), get_eq k _ _ (by decide), get_eq k _ _ (by decide), right_eq, right_eq, put_yes (x := 40706) (by decide)]
  decide +kernel
theorem tagBytes_size {x : Int} : (tagBytes x).size = if x ≤ 255 then 1 else 2 := by
  unfold tagBytes
  split <;> rw [strOfNums_size] <;> rfl
theorem bt_first (x : Int) : bt (tagBytes x) 0 = if x ≤ 255 then x % 256 else x / 256 % 256 := by
  unfold tagBytes
  split
  · exact bt_of _ 0 (by intro y hy; rw [List.mem_singleton.1 hy]; omega)
  · exact bt_of _ 0 (by intro y hy; simp at hy; omega)
theorem bt_second (x : Int) (h : ¬ x ≤ 255) : bt (tagBytes x) 1 = x % 256 := by
  unfold tagBytes
  rw [if_neg h]
  exact bt_of _ 1 (by intro y hy; simp at hy; omega)
theorem got {x : Int} (h : isTag x = true) (m q : ByteArray) : getTag ((m ++ tagBytes x) ++ q) m.size = (x, (m.size : Int) + (tagBytes x).size, 0) := by
  have ht := of_decide_eq_true h
  have hz := @tagBytes_size x
  have e0 : bt ((m ++ tagBytes x) ++ q) (m.size : Int) = bt (tagBytes x) 0 := bt_mid m (tagBytes x) q 0 (by rw [hz]; split <;> omega)
  have hn : (((m ++ tagBytes x) ++ q).size : Int) = m.size + (tagBytes x).size + q.size := by rw [app_size, app_size]; omega
  unfold getTag
  rw [hn, e0, bt_first]
  by_cases hx : x ≤ 255
  · rw [if_pos hx] at hz
    rw [hz, if_pos hx, if_neg (by omega), if_neg (by omega), show x % 256 = x by omega, show isFirst x = true from decide_eq_true (by omega), if_neg (by decide), if_pos (by omega)]
    rfl
  · rw [if_neg hx] at hz
    have e1 : bt ((m ++ tagBytes x) ++ q) ((m.size : Int) + 1) = bt (tagBytes x) 1 := bt_mid m (tagBytes x) q 1 (by omega)
    rw [hz, e1, bt_second x hx, if_neg hx, if_neg (by omega), if_neg (by omega), show x / 256 % 256 = x / 256 by omega, show isFirst (x / 256) = true from decide_eq_true (by omega), if_neg (by decide), if_neg (by omega), if_neg (by omega),
      show x / 256 * 256 + x % 256 = x by omega, if_pos h]
    rfl
theorem TagBack : groatlaw08_TagBack.Pure := by
  intro x m hx hm
  refine ⟨4, ?_⟩
  unfold groatlaw08_TagBack.f
  cases h : isTag x with
  | false => rw [put_no h, Option.bind_some, awake_eq, Option.bind_some, if_pos rfl, if_neg (by decide)]; simp only [groatlaw08_TagBack.j0, if_true]; rw [awake_eq]; rfl
  | true =>
    rw [put_yes h, Option.bind_some, awake_eq, Option.bind_some, if_pos rfl, if_pos rfl]
    simp only [groatlaw08_TagBack.j0]
    by_cases h1 : (m.size : Int) > 100
    · rw [if_pos (decide_eq_true h1), awake_eq]; rfl
    have hz : (tagBytes x).size ≤ 2 := by rw [tagBytes_size]; split <;> omega
    have ha := app_size m (tagBytes x)
    have hb := app_size (m ++ tagBytes x) m
    rw [if_neg (by simpa using h1), if_pos (by omega), if_pos (by omega), get_eq _ _ _ (by omega), got h, Option.bind_some, if_pos rfl, w64 (by omega) (by omega), if_pos rfl]
    rfl
end Go.Proofs.Ytjbhdfnicbamoaa.Pure
