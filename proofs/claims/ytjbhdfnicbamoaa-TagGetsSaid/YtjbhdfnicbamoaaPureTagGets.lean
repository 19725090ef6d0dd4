/- The law TagGets, over the print's own plain functions: at any place of any bytes stands the tag that the document says, or none. No conditions. -/
import Derived.Test.YtjbhdfnicbamoaaPTagGetsx2
import Derived.Test.YtjbhdfnicbamoaaGWords
namespace Go.Proofs.Ytjbhdfnicbamoaa.Pure
open Go.RowKit Go.Proofs.Ytjbhdfnicbamoaa.PTagGets Go.Proofs.YtjbhdfnicbamoaaW.PrintWords Go.Proofs.YtjbhdfnicbamoaaW.PrintLast Go.Proofs.Ytjbhdfnicbamoaa.G
/-! #### tag: what its functions compute, and the document's answer -/
def isFirst (x : Int) : Bool := decide (0 < x ∧ x ≤ 255 ∧ x / 32 % 2 = 0)
def isTag (x : Int) : Bool := decide ((0 < x ∧ x ≤ 255 ∧ x / 32 % 2 = 0 ∧ x % 32 ≠ 31) ∨ (255 < x ∧ x ≤ 65535 ∧ x / 256 / 32 % 2 = 0 ∧ x / 256 % 32 = 31 ∧ 1 ≤ x % 256 ∧ x % 256 ≤ 127))
def tagBytes (x : Int) : ByteArray := if x ≤ 255 then strOfNums [x % 256] else strOfNums [x / 256 % 256, x % 256]
theorem first_eq (x : Int) : tag_first.f x = some (isFirst x) := by
  unfold tag_first.f isFirst
  by_cases h : x > 0
  · rw [if_pos h]
    by_cases h2 : x ≤ 255
    · rw [if_pos h2, and32 (by omega) (by omega)]
      congr 1
      rw [Bool.eq_iff_iff]
      simp only [decide_eq_true_eq]
      omega
    · rw [if_neg h2]
      congr 1
      rw [Bool.eq_iff_iff]
      simp only [decide_eq_true_eq]
      constructor
      · intro h; cases h
      · omega
  · rw [if_neg h]
    congr 1
    rw [Bool.eq_iff_iff]
    simp only [decide_eq_true_eq]
    constructor
    · intro h; cases h
    · omega
theorem right_eq (x : Int) : tag_Right.f x = some (isTag x) := by
  unfold tag_Right.f
  by_cases h : x ≤ 255
  · rw [if_pos h, first_eq, Option.bind_some]
    by_cases h2 : isFirst x = true
    · have h3 := of_decide_eq_true h2
      rw [if_pos h2, and31 (by omega) (by omega)]
      congr 1
      rw [Bool.eq_iff_iff]
      simp only [bne_iff_ne, isTag, decide_eq_true_eq]
      omega
    · have h3 : ¬ _ := fun c => h2 (decide_eq_true c)
      rw [if_neg h2]
      congr 1
      rw [Bool.eq_iff_iff]
      simp only [isTag, decide_eq_true_eq]
      constructor
      · intro h; cases h
      · omega
  · rw [if_neg h]
    by_cases h1 : x ≤ 65535
    · rw [if_pos h1, first_eq, Option.bind_some]
      by_cases h2 : isFirst (x / 256) = true
      · have h3 := of_decide_eq_true h2
        rw [if_pos h2, and31 (by omega) (by omega)]
        by_cases h4 : x / 256 % 32 = 31
        · rw [if_pos h4, and255 (by omega) (by omega)]
          by_cases h5 : x % 256 ≥ 1
          · rw [if_pos h5]
            congr 1
            rw [Bool.eq_iff_iff]
            simp only [isTag, decide_eq_true_eq]
            omega
          · rw [if_neg h5]
            congr 1
            rw [Bool.eq_iff_iff]
            simp only [isTag, decide_eq_true_eq]
            constructor
            · intro h; cases h
            · omega
        · rw [if_neg h4]
          congr 1
          rw [Bool.eq_iff_iff]
          simp only [isTag, decide_eq_true_eq]
          constructor
          · intro h; cases h
          · omega
      · have h3 : ¬ _ := fun c => h2 (decide_eq_true c)
        rw [if_neg h2]
        congr 1
        rw [Bool.eq_iff_iff]
        simp only [isTag, decide_eq_true_eq]
        constructor
        · intro h; cases h
        · omega
    · rw [if_neg h1]
      congr 1
      rw [Bool.eq_iff_iff]
      simp only [isTag, decide_eq_true_eq]
      constructor
      · intro h; cases h
      · omega
theorem put_yes {x : Int} (h : isTag x = true) : tag_Put.f x = some (tagBytes x, true) := by
  unfold tag_Put.f tagBytes
  rw [right_eq, Option.bind_some, if_pos h]
  split <;> rfl
theorem put_no {x : Int} (h : isTag x = false) : tag_Put.f x = some (⟨#[]⟩, false) := by
  unfold tag_Put.f
  rw [right_eq, Option.bind_some, h]
  rfl
/-- what tag.Get answers -/
def getTag (s : ByteArray) (i : Int) : Int × Int × Int :=
  if i < 0 ∨ i > s.size then (0, 0, 1) else if i = s.size then (0, 0, 2) else
  if isFirst (bt s i) = false then (0, 0, 13) else if bt s i % 32 ≠ 31 then (bt s i, i + 1, 0) else
  if i + 1 = s.size then (0, 0, 2) else if isTag (bt s i * 256 + bt s (i + 1)) then (bt s i * 256 + bt s (i + 1), i + 2, 0) else (0, 0, 13)
theorem get_eq (k : Nat) (s : ByteArray) (i : Int) (hs : s.size ≤ 140737488351232 * 3) : tag_Get.f (k + 1) s i = some (getTag s i) := by
  unfold tag_Get.f getTag
  by_cases h0 : i < 0
  · rw [if_pos h0, if_pos (Or.inl h0)]; simp only [tag_Get.j0, if_true]
  rw [if_neg h0]
  by_cases h1 : i > s.size
  · rw [if_pos (Or.inr h1), decide_eq_true h1]; simp only [tag_Get.j0, if_true]
  rw [if_neg (by omega : ¬ (i < 0 ∨ i > s.size)), decide_eq_false h1]
  simp only [tag_Get.j0]
  rw [if_neg (by decide)]
  by_cases h2 : i = s.size
  · rw [if_pos h2, if_pos h2]
  rw [if_neg h2, if_neg h2, if_pos (by omega), if_pos (by omega)]
  have hb := bt_range s i
  rw [w64 (by omega) (by omega), first_eq, Option.bind_some]
  by_cases h3 : isFirst (bt s i) = true
  · rw [if_pos h3, if_neg (show ¬ isFirst (bt s i) = false by rw [h3]; decide), and31 (by omega) (by omega)]
    by_cases h4 : bt s i % 32 = 31
    · rw [if_pos h4, if_neg (by omega : ¬ (bt s i % 32 ≠ 31)), w64 (n := i + 1) (by omega) (by omega)]
      by_cases h5 : i + 1 = s.size
      · rw [if_pos h5, if_pos h5]
      · have hc := bt_range s (i + 1)
        rw [if_neg h5, if_neg h5, if_pos (by omega), if_pos (by omega), w64 (n := bt s (i + 1)) (by omega) (by omega), w64 (n := bt s i * 256) (by omega) (by omega),
          or8 (by omega) (by omega) (by omega) (by omega), right_eq, Option.bind_some, w64 (n := i + 2) (by omega) (by omega)]
        split <;> rfl
    · rw [if_neg h4, if_pos (show bt s i % 32 ≠ 31 from h4), w64 (n := i + 1) (by omega) (by omega)]
  · rw [if_neg h3, if_pos (by simpa using h3)]
theorem awake_eq (k : Nat) : groatlaw08_awake.f (k + 1) = some true := by
  unfold groatlaw08_awake.f
  rw [get_eq k _ _ (by decide), get_eq k _ _ (by decide), get_eq k _ _ (by decide), get_eq k _ _ (by decide), right_eq, right_eq, put_yes (x := 40706) (by decide)]
  decide +kernel
theorem rfirst_eq (k : Nat) (x : Int) (h0 : 0 ≤ x) (h1 : x ≤ 255) : groatref08_First.f (k + 1) x = some (if isFirst x = false then 0 else if x % 32 = 31 then 2 else 1) := by
  unfold groatref08_First.f
  have e : Int.tdiv x 32 % 256 % 2 = x / 32 % 2 := by rw [Int.tdiv_eq_ediv_of_nonneg h0]; omega
  have e2 : Int.tmod x 32 = x % 32 := Int.tmod_eq_emod_of_nonneg h0
  by_cases hx : x = 0
  · subst hx
    rfl
  · rw [if_neg hx, e]
    by_cases h : x / 32 % 2 = 1
    · have hf : isFirst x = false := decide_eq_false (by omega)
      rw [show (x / 32 % 2 == 1) = true from beq_iff_eq.mpr h, if_pos hf]
      simp only [groatref08_First.j0, if_true]
    · have hf : isFirst x = true := decide_eq_true (by omega)
      rw [show (x / 32 % 2 == 1) = false from beq_eq_false_iff_ne.mpr h, if_neg (by rw [hf]; decide)]
      simp only [groatref08_First.j0]
      rw [if_neg (by decide), e2]
      split <;> rfl
theorem tag_two {x y : Int} (hf : isFirst x = true) (h : x % 32 = 31) (h0 : 0 ≤ y) (h1 : y ≤ 255) : isTag (x * 256 + y) = decide (1 ≤ y ∧ y ≤ 127) := by
  have := of_decide_eq_true hf
  unfold isTag
  rw [Bool.eq_iff_iff]
  simp only [decide_eq_true_eq]
  omega
theorem rget_eq (k : Nat) (s : ByteArray) (i : Int) (hs : s.size ≤ 140737488351232) : groatref08_Get.f (k + 2) s i = some (getTag s i) := by
  unfold groatref08_Get.f getTag
  by_cases h0 : i < 0
  · rw [if_pos h0, if_pos (Or.inl h0)]; simp only [groatref08_Get.j0, if_true]
  rw [if_neg h0]
  by_cases h1 : i > s.size
  · rw [if_pos (Or.inr h1), decide_eq_true h1]; simp only [groatref08_Get.j0, if_true]
  rw [if_neg (by omega : ¬ (i < 0 ∨ i > s.size)), decide_eq_false h1]
  simp only [groatref08_Get.j0]
  rw [if_neg (by decide)]
  by_cases h2 : i = s.size
  · rw [if_pos h2, if_pos h2]
  have hb := bt_range s i
  rw [if_neg h2, if_neg h2, if_pos (by omega), if_pos (by omega), rfirst_eq _ _ hb.1 hb.2, Option.bind_some, w64 (n := i + 1) (by omega) (by omega), w64 (n := bt s i) (by omega) (by omega), w64 (n := (s.size : Int) - i) (by omega) (by omega)]
  cases h3 : isFirst (bt s i) with
  | false => simp only [if_true]
  | true =>
    rw [if_neg (show ¬ true = false by decide)]
    by_cases h4 : bt s i % 32 = 31
    · have hc := bt_range s (i + 1)
      rw [if_pos h4, if_neg (by decide), if_neg (by decide), if_neg (show ¬ true = false by decide), if_neg (show ¬ bt s i % 32 ≠ 31 by omega), tag_two h3 h4 hc.1 hc.2, w64 (n := bt s (i + 1)) (by omega) (by omega), w64 (n := 256 * bt s i) (by omega) (by omega), w64 (n := 256 * bt s i + _) (by omega) (by omega), w64 (n := i + 2) (by omega) (by omega)]
      by_cases h5 : i + 1 = s.size
      · rw [if_pos h5, if_pos (by omega)]
      rw [if_neg h5, if_neg (show ¬ (s.size : Int) - i < 2 by omega), if_pos (by omega), if_pos (by omega)]
      by_cases h6 : bt s (i + 1) = 0
      · rw [if_pos h6, decide_eq_false (by omega)]; rfl
      rw [if_neg h6]
      by_cases h7 : bt s (i + 1) > 127
      · rw [if_pos h7, decide_eq_false (by omega)]; rfl
      · rw [if_neg h7, decide_eq_true (by omega), if_pos rfl, Int.mul_comm]
    · rw [if_neg h4, if_neg (by decide), if_pos rfl, if_neg (show ¬ true = false by decide), if_pos (show bt s i % 32 ≠ 31 from h4)]
theorem TagGets : groatlaw08_TagGets.Pure := by
  intro s i hs hi
  refine ⟨4, ?_⟩
  unfold groatlaw08_TagGets.f
  rw [awake_eq, Option.bind_some, if_pos rfl]
  simp only [groatlaw08_TagGets.j0]
  by_cases h : (s.size : Int) > 500
  · rw [if_pos (decide_eq_true h), awake_eq]; rfl
  · rw [if_neg (by simpa using h), get_eq _ _ _ (by omega), rget_eq _ _ _ (by omega)]
    simp
end Go.Proofs.Ytjbhdfnicbamoaa.Pure
