/- The law TagKinds, over plain functions: no tag's bytes begin another one's. No conditions. -/
import Derived.Test.YtjbhdfnicbamoaaQTagKindsx1
import Derived.Test.YtjbhdfnicbamoaaGWords
namespace Go.Proofs.Ytjbhdfnicbamoaa.Pure
open Go.RowKit Go.Proofs.Ytjbhdfnicbamoaa.QTagKinds Go.Proofs.YtjbhdfnicbamoaaW.PrintWords Go.Proofs.YtjbhdfnicbamoaaW.PrintLast Go.Proofs.Ytjbhdfnicbamoaa.G
/-! #### tag: what its functions compute, and the document's answer -/
def isFirst (x : Int) : Bool := decide (0 < x ∧ x ≤ 255 ∧ x / 32 % 2 = 0)
def isTag (x : Int) : Bool := decide ((0 < x ∧ x ≤ 255 ∧ x / 32 % 2 = 0 ∧ x % 32 ≠ 31) ∨ (255 < x ∧ x ≤ 65535 ∧ x / 256 / 32 % 2 = 0 ∧ x / 256 % 32 = 31 ∧ 1 ≤ x % 256 ∧ x % 256 ≤ 127))
def tagBytes (x : Int) : ByteArray := if x ≤ 255 then strOfNums [x % 256] else strOfNums [x / 256 % 256, x % 256]
theorem first_eq (x : Int) : tag_first.f x = some (isFirst x) := by
  unfold tag_first.f isFirst
  by_cases h : x > 0
  · rw [if_pos h]
    by_cases h2 : x ≤ 255
    · rw [if_pos h2, and32 (by omega) (by omega)]
      congr 1
      rw [Bool.eq_iff_iff]
      simp only [decide_eq_true_eq]
      omega
    · rw [if_neg h2]
      congr 1
      rw [Bool.eq_iff_iff]
      simp only [decide_eq_true_eq]
      constructor
      · intro h; cases h
      · omega
  · rw [if_neg h]
    congr 1
    rw [Bool.eq_iff_iff]
    simp only [decide_eq_true_eq]
    constructor
    · intro h; cases h
    · omega
theorem right_eq (x : Int) : tag_Right.f x = some (isTag x) := by
  unfold tag_Right.f
  by_cases h : x ≤ 255
  · rw [if_pos h, first_eq, Option.bind_some]
    by_cases h2 : isFirst x = true
    · have h3 := of_decide_eq_true h2
      rw [if_pos h2, and31 (by omega) (by omega)]
      congr 1
      rw [Bool.eq_iff_iff]
      simp only [bne_iff_ne, isTag, decide_eq_true_eq]
      omega
    · have h3 : ¬ _ := fun c => h2 (decide_eq_true c)
      rw [if_neg h2]
      congr 1
      rw [Bool.eq_iff_iff]
      simp only [isTag, decide_eq_true_eq]
      constructor
      · intro h; cases h
      · omega
  · rw [if_neg h]
    by_cases h1 : x ≤ 65535
    · rw [if_pos h1, first_eq, Option.bind_some]
      by_cases h2 : isFirst (x / 256) = true
      · have h3 := of_decide_eq_true h2
        rw [if_pos h2, and31 (by omega) (by omega)]
        by_cases h4 : x / 256 % 32 = 31
        · rw [if_pos h4, and255 (by omega) (by omega)]
          by_cases h5 : x % 256 ≥ 1
          · rw [if_pos h5]
            congr 1
            rw [Bool.eq_iff_iff]
            simp only [isTag, decide_eq_true_eq]
            omega
          · rw [if_neg h5]
            congr 1
            rw [Bool.eq_iff_iff]
            simp only [isTag, decide_eq_true_eq]
            constructor
            · intro h; cases h
            · omega
        · rw [if_neg h4]
          congr 1
          rw [Bool.eq_iff_iff]
          simp only [isTag, decide_eq_true_eq]
          constructor
          · intro h; cases h
          · omega
      · have h3 : ¬ _ := fun c => h2 (decide_eq_true c)
        rw [if_neg h2]
        congr 1
        rw [Bool.eq_iff_iff]
        simp only [isTag, decide_eq_true_eq]
        constructor
        · intro h; cases h
        · omega
    · rw [if_neg h1]
      congr 1
      rw [Bool.eq_iff_iff]
      simp only [isTag, decide_eq_true_eq]
      constructor
      · intro h; cases h
      · omega
theorem put_yes {x : Int} (h : isTag x = true) : tag_Put.f x = some (tagBytes x, true) := by
  unfold tag_Put.f tagBytes
  rw [right_eq, Option.bind_some, if_pos h]
  split <;> rfl
theorem put_no {x : Int} (h : isTag x = false) : tag_Put.f x = some (⟨#[]⟩, false) := by
  unfold tag_Put.f
  rw [right_eq, Option.bind_some, h]
  rfl
/-- what tag.Get answers -/
def getTag (s : ByteArray) (i : Int) : Int × Int × Int :=
  if i < 0 ∨ i > s.size then (0, 0, 1) else if i = s.size then (0, 0, 2) else
  if isFirst (bt s i) = false then (0, 0, 13) else if bt s i % 32 ≠ 31 then (bt s i, i + 1, 0) else
  if i + 1 = s.size then (0, 0, 2) else if isTag (bt s i * 256 + bt s (i + 1)) then (bt s i * 256 + bt s (i + 1), i + 2, 0) else (0, 0, 13)
theorem get_eq (k : Nat) (s : ByteArray) (i : Int) (hs : s.size ≤ 140737488351232 * 3) : tag_Get.f (k + 1) s i = some (getTag s i) := by
  unfold tag_Get.f getTag
  by_cases h0 : i < 0
  · rw [if_pos h0, if_pos (Or.inl h0)]; simp only [tag_Get.j0, if_true]
  rw [if_neg h0]
  by_cases h1 : i > s.size
  · rw [if_pos (Or.inr h1), decide_eq_true h1]; simp only [tag_Get.j0, if_true]
  rw [if_neg (by omega : ¬ (i < 0 ∨ i > s.size)), decide_eq_false h1]
  simp only [tag_Get.j0]
  rw [if_neg (by decide)]
  by_cases h2 : i = s.size
  · rw [if_pos h2, if_pos h2]
  rw [if_neg h2, if_neg h2, if_pos (by omega), if_pos (by omega)]
  have hb := bt_range s i
  rw [w64 (by omega) (by omega), first_eq, Option.bind_some]
  by_cases h3 : isFirst (bt s i) = true
  · rw [if_pos h3, if_neg (show ¬ isFirst (bt s i) = false by rw [h3]; decide), and31 (by omega) (by omega)]
    by_cases h4 : bt s i % 32 = 31
    · rw [if_pos h4, if_neg (by omega : ¬ (bt s i % 32 ≠ 31)), w64 (n := i + 1) (by omega) (by omega)]
      by_cases h5 : i + 1 = s.size
      · rw [if_pos h5, if_pos h5]
      · have hc := bt_range s (i + 1)
        rw [if_neg h5, if_neg h5, if_pos (by omega), if_pos (by omega), w64 (n := bt s (i + 1)) (by omega) (by omega), w64 (n := bt s i * 256) (by omega) (by omega),
          or8 (by omega) (by omega) (by omega) (by omega), right_eq, Option.bind_some, w64 (n := i + 2) (by omega) (by omega)]
        split <;> rfl
    · rw [if_neg h4, if_pos (show bt s i % 32 ≠ 31 from h4), w64 (n := i + 1) (by omega) (by omega)]
  · rw [if_neg h3, if_pos (by simpa using h3)]
theorem awake_eq (k : Nat) : groatlaw08_awake.f (k + 1) = some true := by
  unfold groatlaw08_awake.f
  rw [get_eq k _ _ (by decide), get_eq k _ _ (by decide), get_eq k _ _ (by decide), get_eq k _ _ (by decide), right_eq, right_eq, put_yes (x := 40706) (by decide)]
  decide +kernel
def tagNums (x : Int) : List Int := if x ≤ 255 then [x % 256] else [x / 256 % 256, x % 256]
theorem tagBytes_of (x : Int) : tagBytes x = strOfNums (tagNums x) := by unfold tagBytes tagNums; split <;> rfl
theorem tagNums_len (x : Int) : (tagNums x).length = if x ≤ 255 then 1 else 2 := by unfold tagNums; split <;> rfl
theorem cut_list (xs : List Int) (n : Nat) : ((strOfNums xs).extract 0 n).toList = (xs.take n).map fun v => UInt8.ofNat v.toNat := by
  rw [toL, ext_data, strOfNums_data, List.drop_zero, Nat.sub_zero, List.map_take]
theorem u8_eq {x y : Int} (h0 : 0 ≤ x ∧ x < 256) (h2 : 0 ≤ y ∧ y < 256) : UInt8.ofNat x.toNat = UInt8.ofNat y.toNat ↔ x = y :=
  ⟨one_eq h0.1 h0.2 h2.1 h2.2, fun h => by rw [h]⟩
theorem parts {a b : Int} (ha : isTag a = true) (hb : isTag b = true) : ((((strOfNums (tagNums a)).extract 0 (min (tagNums a).length (tagNums b).length)).toList == ((strOfNums (tagNums b)).extract 0 (min (tagNums a).length (tagNums b).length)).toList) == (a == b)) = true := by
  have h1 := of_decide_eq_true ha
  have h2 := of_decide_eq_true hb
  rw [cut_list, cut_list, beq_iff_eq, Bool.eq_iff_iff, beq_iff_eq, beq_iff_eq]
  unfold tagNums
  by_cases c1 : a ≤ 255 <;> by_cases c2 : b ≤ 255
  all_goals
    simp only [c1, c2, if_true, if_false, List.length_cons, List.length_nil, Nat.zero_add, Nat.reduceAdd, Nat.min_def, Nat.reduceLeDiff, List.take_succ_cons, List.take_zero, List.map_cons, List.map_nil, List.cons.injEq, and_true]
    repeat rw [u8_eq (by omega) (by omega)]
    omega
theorem mn_nat (x y : Nat) : mn (x : Int) (y : Int) = ((min x y : Nat) : Int) := by
  unfold mn
  split <;> omega
theorem TagKinds : groatlaw08_TagKinds.Pure := by
  intro a b _ _
  refine ⟨4, ?_⟩
  unfold groatlaw08_TagKinds.f
  cases ha : isTag a with
  | false =>
    rw [put_no ha]
    cases hb : isTag b with
    | false => rw [put_no hb, awake_eq]; rfl
    | true => rw [put_yes hb, awake_eq]; rfl
  | true =>
    rw [put_yes ha]
    cases hb : isTag b with
    | false => rw [put_no hb, awake_eq]; rfl
    | true =>
      rw [put_yes hb, awake_eq]
      simp only [Option.bind_some, if_true]
      rw [tagBytes_of, tagBytes_of, strOfNums_size, strOfNums_size, mn_nat, if_pos (by omega), if_pos (by omega), if_pos (by omega)]
      congr 1
      exact parts ha hb
end Go.Proofs.Ytjbhdfnicbamoaa.Pure
