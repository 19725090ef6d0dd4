/- The law TagOne, over the print's own plain functions: bytes that are got are put as they were. No conditions. -/
import Derived.Test.YtjbhdfnicbamoaaPTagOnex1
import Derived.Test.YtjbhdfnicbamoaaGWords
namespace Go.Proofs.Ytjbhdfnicbamoaa.Pure
open Go.RowKit Go.Proofs.Ytjbhdfnicbamoaa.PTagOne Go.Proofs.YtjbhdfnicbamoaaW.PrintWords Go.Proofs.YtjbhdfnicbamoaaW.PrintLast Go.Proofs.Ytjbhdfnicbamoaa.G
/-! #### tag: what its functions compute, and the document's answer -/
def isFirst (x : Int) : Bool := decide (0 < x ∧ x ≤ 255 ∧ x / 32 % 2 = 0)
def isTag (x : Int) : Bool := decide ((0 < x ∧ x ≤ 255 ∧ x / 32 % 2 = 0 ∧ x % 32 ≠ 31) ∨ (255 < x ∧ x ≤ 65535 ∧ x / 256 / 32 % 2 = 0 ∧ x / 256 % 32 = 31 ∧ 1 ≤ x % 256 ∧ x % 256 ≤ 127))
def tagBytes (x : Int) : ByteArray := if x ≤ 255 then strOfNums [x % 256] else strOfNums [x / 256 % 256, x % 256]
theorem first_eq (x : Int) : tag_first.f x = some (isFirst x) := by
  unfold tag_first.f isFirst
  by_cases h : x > 0
  · rw [if_pos h]
    by_cases h2 : x ≤ 255
    · rw [if_pos h2, and32 (by omega) (by omega)]
      congr 1
      rw [Bool.eq_iff_iff]
      simp only [decide_eq_true_eq]
      omega
    · rw [if_neg h2]
      congr 1
      rw [Bool.eq_iff_iff]
      simp only [decide_eq_true_eq]
      constructor
      · intro h; cases h
      · omega
  · rw [if_neg h]
    congr 1
    rw [Bool.eq_iff_iff]
    simp only [decide_eq_true_eq]
    constructor
    · intro h; cases h
    · omega
theorem right_eq (x : Int) : tag_Right.f x = some (isTag x) := by
  unfold tag_Right.f
  by_cases h : x ≤ 255
  · rw [if_pos h, first_eq, Option.bind_some]
    by_cases h2 : isFirst x = true
    · have h3 := of_decide_eq_true h2
      rw [if_pos h2, and31 (by omega) (by omega)]
      congr 1
      rw [Bool.eq_iff_iff]
      simp only [bne_iff_ne, isTag, decide_eq_true_eq]
      omega
    · have h3 : ¬ _ := fun c => h2 (decide_eq_true c)
      rw [if_neg h2]
      congr 1
      rw [Bool.eq_iff_iff]
      simp only [isTag, decide_eq_true_eq]
      constructor
      · intro h; cases h
      · omega
  · rw [if_neg h]
    by_cases h1 : x ≤ 65535
    · rw [if_pos h1, first_eq, Option.bind_some]
      by_cases h2 : isFirst (x / 256) = true
      · have h3 := of_decide_eq_true h2
        rw [if_pos h2, and31 (by omega) (by omega)]
        by_cases h4 : x / 256 % 32 = 31
        · rw [if_pos h4, and255 (by omega) (by omega)]
          by_cases h5 : x % 256 ≥ 1
          · rw [if_pos h5]
            congr 1
            rw [Bool.eq_iff_iff]
            simp only [isTag, decide_eq_true_eq]
            omega
          · rw [if_neg h5]
            congr 1
            rw [Bool.eq_iff_iff]
            simp only [isTag, decide_eq_true_eq]
            constructor
            · intro h; cases h
            · omega
        · rw [if_neg h4]
          congr 1
          rw [Bool.eq_iff_iff]
          simp only [isTag, decide_eq_true_eq]
          constructor
          · intro h; cases h
          · omega
      · have h3 : ¬ _ := fun c => h2 (decide_eq_true c)
        rw [if_neg h2]
        congr 1
        rw [Bool.eq_iff_iff]
        simp only [isTag, decide_eq_true_eq]
        constructor
        · intro h; cases h
        · omega
    · rw [if_neg h1]
      congr 1
      rw [Bool.eq_iff_iff]
      simp only [isTag, decide_eq_true_eq]
      constructor
      · intro h; cases h
      · omega
theorem put_yes {x : Int} (h : isTag x = true) : tag_Put.f x = some (tagBytes x, true) := by
  unfold tag_Put.f tagBytes
  rw [right_eq, Option.bind_some, if_pos h]
  split <;> rfl
theorem put_no {x : Int} (h : isTag x = false) : tag_Put.f x = some (⟨#[]⟩, false) := by
  unfold tag_Put.f
  rw [right_eq, Option.bind_some, h]
  rfl
/-- what tag.Get answers -/
def getTag (s : ByteArray) (i : Int) : Int × Int × Int :=
  if i < 0 ∨ i > s.size then (0, 0, 1) else if i = s.size then (0, 0, 2) else
  if isFirst (bt s i) = false then (0, 0, 13) else if bt s i % 32 ≠ 31 then (bt s i, i + 1, 0) else
  if i + 1 = s.size then (0, 0, 2) else if isTag (bt s i * 256 + bt s (i + 1)) then (bt s i * 256 + bt s (i + 1), i + 2, 0) else (0, 0, 13)
theorem get_eq (k : Nat) (s : ByteArray) (i : Int) (hs : s.size ≤ 140737488351232 * 3) : tag_Get.f (k + 1) s i = some (getTag s i) := by
  unfold tag_Get.f getTag
  by_cases h0 : i < 0
  · rw [if_pos h0, if_pos (Or.inl h0)]; simp only [tag_Get.j0, if_true]
  rw [if_neg h0]
  by_cases h1 : i > s.size
  · rw [if_pos (Or.inr h1), decide_eq_true h1]; simp only [tag_Get.j0, if_true]
  rw [if_neg (by omega : ¬ (i < 0 ∨ i > s.size)), decide_eq_false h1]
  simp only [tag_Get.j0]
  rw [if_neg (by decide)]
  by_cases h2 : i = s.size
  · rw [if_pos h2, if_pos h2]
  rw [if_neg h2, if_neg h2, if_pos (by omega), if_pos (by omega)]
  have hb := bt_range s i
  rw [w64 (by omega) (by omega), first_eq, Option.bind_some]
  by_cases h3 : isFirst (bt s i) = true
  · rw [if_pos h3, if_neg (show ¬ isFirst (bt s i) = false by rw [h3]; decide), and31 (by omega) (by omega)]
    by_cases h4 : bt s i % 32 = 31
    · rw [if_pos h4, if_neg (by omega : ¬ (bt s i % 32 ≠ 31)), w64 (n := i + 1) (by omega) (by omega)]
      by_cases h5 : i + 1 = s.size
      · rw [if_pos h5, if_pos h5]
      · have hc := bt_range s (i + 1)
        rw [if_neg h5, if_neg h5, if_pos (by omega), if_pos (by omega), w64 (n := bt s (i + 1)) (by omega) (by omega), w64 (n := bt s i * 256) (by omega) (by omega),
          or8 (by omega) (by omega) (by omega) (by omega), right_eq, Option.bind_some, w64 (n := i + 2) (by omega) (by omega)]
        split <;> rfl
    · rw [if_neg h4, if_pos (show bt s i % 32 ≠ 31 from h4), w64 (n := i + 1) (by omega) (by omega)]
  · rw [if_neg h3, if_pos (by simpa using h3)]
theorem awake_eq (k : Nat) : groatlaw08_awake.f (k + 1) = some true := by
  unfold groatlaw08_awake.f
  rw [get_eq k _ _ (by decide), get_eq k _ _ (by decide), get_eq k _ _ (by decide), get_eq k _ _ (by decide), right_eq, right_eq, put_yes (x := 40706) (by decide)]
  decide +kernel
theorem take_one {s : ByteArray} (h : 1 ≤ s.size) : (s.extract 0 1).data.toList = [UInt8.ofNat (bt s 0).toNat] := by
  have hl := data_length s
  have e := byte_of_bt (s := s) (i := 0) (by omega)
  rw [ext_data]
  cases hs : s.data.toList with
  | nil => rw [hs] at hl; simp at hl; omega
  | cons a l => rw [hs] at e; simp only [List.getElem?_cons_zero, Option.some.injEq] at e; simp [e]
theorem take_two {s : ByteArray} (h : 2 ≤ s.size) : (s.extract 0 2).data.toList = [UInt8.ofNat (bt s 0).toNat, UInt8.ofNat (bt s 1).toNat] := by
  have hl := data_length s
  have e0 := byte_of_bt (s := s) (i := 0) (by omega)
  have e1 := byte_of_bt (s := s) (i := 1) (by omega)
  rw [ext_data]
  match hs : s.data.toList with
  | [] => rw [hs] at hl; simp at hl; omega
  | [_] => rw [hs] at hl; simp at hl; omega
  | a :: b :: l =>
    rw [hs] at e0 e1
    simp only [List.getElem?_cons_zero, List.getElem?_cons_succ, Option.some.injEq] at e0 e1
    simp [e0, e1]
theorem TagOne : groatlaw08_TagOne.Pure := by
  intro s hs
  refine ⟨4, ?_⟩
  unfold groatlaw08_TagOne.f
  rw [awake_eq, Option.bind_some, if_pos rfl]
  simp only [groatlaw08_TagOne.j0]
  by_cases h : (s.size : Int) > 500
  · rw [if_pos (decide_eq_true h), awake_eq]; rfl
  rw [if_neg (by simpa using h), get_eq _ _ _ (by omega)]
  unfold getTag
  have hb := bt_range s 0
  have hc := bt_range s 1
  by_cases h1 : (0 : Int) = s.size
  · rw [if_neg (by omega), if_pos h1]; rfl
  rw [if_neg (by omega), if_neg h1]
  by_cases h2 : isFirst (bt s 0) = false
  · rw [if_pos h2]; rfl
  rw [if_neg h2]
  have hf := of_decide_eq_true (show isFirst (bt s 0) = true by simpa using h2)
  by_cases h3 : bt s 0 % 32 ≠ 31
  · have ht : isTag (bt s 0) = true := decide_eq_true (by omega)
    rw [if_pos h3, Option.bind_some, if_pos rfl, put_yes ht, Option.bind_some, if_pos rfl, right_eq, Option.bind_some, if_pos ht, if_pos (show (0 : Int) + 1 ≥ 0 by decide), if_pos (show (0 : Int) + 1 ≤ s.size by omega), if_pos (show (0 : Int) ≤ 0 + 1 by decide)]
    congr 1
    rw [beq_iff_eq, toL, toL]
    show (tagBytes (bt s 0)).data.toList = (s.extract 0 1).data.toList
    unfold tagBytes
    rw [take_one (by omega), if_pos (by omega), strOfNums_data, Int.emod_eq_of_lt (by omega) (by omega)]
    rfl
  rw [if_neg h3]
  by_cases h4 : (0 : Int) + 1 = s.size
  · rw [if_pos h4]; rfl
  rw [if_neg h4]
  by_cases h5 : isTag (bt s 0 * 256 + bt s (0 + 1)) = true
  · have h6 : isTag (bt s 0 * 256 + bt s 1) = true := h5
    rw [if_pos h5, Option.bind_some, if_pos rfl]
    show (tag_Put.f (bt s 0 * 256 + bt s 1)).bind _ = _
    rw [put_yes h6, Option.bind_some, if_pos rfl]
    show (tag_Right.f (bt s 0 * 256 + bt s 1)).bind _ = _
    rw [right_eq, Option.bind_some, if_pos h6, if_pos (show (0 : Int) + 2 ≥ 0 by decide), if_pos (show (0 : Int) + 2 ≤ s.size by omega), if_pos (show (0 : Int) ≤ 0 + 2 by decide)]
    congr 1
    rw [beq_iff_eq, toL, toL]
    show (tagBytes (bt s 0 * 256 + bt s 1)).data.toList = (s.extract 0 2).data.toList
    unfold tagBytes
    rw [take_two (by omega), if_neg (by omega), strOfNums_data, show (bt s 0 * 256 + bt s 1) / 256 % 256 = bt s 0 by omega, show (bt s 0 * 256 + bt s 1) % 256 = bt s 1 by omega]
    rfl
  · rw [if_neg h5]; rfl
end Go.Proofs.Ytjbhdfnicbamoaa.Pure
