/- Plain words on numbers, bits and byte strings for this seat's laws: nothing of the program in sight; no conditions. -/
import Derived.Test.YtebapdkfndlpgaaWWords
import Derived.Laws.BitsLemmas
import Derived.RowKit
namespace Go.Proofs.Ytebapdkfndlpgaa.G
open Go.RowKit Go.Proofs.YtebapdkfndlpgaaW.PrintWords
theorem i64_small (n : Int) (h0 : 0 ≤ n) (h1 : n < 2 ^ 62) : IntKind.i64.wrap n = n := by rw [IntKind.wrap_i64]; omega
theorem w64 {n : Int} (h0 : -9223372036854775808 ≤ n) (h1 : n < 9223372036854775808) : wrap64 n = n := by unfold wrap64; omega
theorem mask {x : Int} (i : Nat) (hi : i ≤ 62) (h0 : 0 ≤ x) (h1 : x < 4611686018427387904) : Go.bits .and .i64 x (2 ^ i - 1) = x % 2 ^ i :=
  bits_mask .i64 62 (by decide) i64_small i hi x h0 h1
theorem and31 {x : Int} (h0 : 0 ≤ x) (h1 : x < 4611686018427387904) : Go.bits .and .i64 x 31 = x % 32 := mask 5 (by decide) h0 h1
theorem and255 {x : Int} (h0 : 0 ≤ x) (h1 : x < 4611686018427387904) : Go.bits .and .i64 x 255 = x % 256 := mask 8 (by decide) h0 h1
theorem or8 {x y : Int} (h0 : 0 ≤ x) (h1 : x < 4611686018427387904 / 256) (h2 : 0 ≤ y) (h3 : y < 256) : Go.bits .or .i64 (x * 256) y = x * 256 + y :=
  bits_join .i64 62 (by decide) i64_small 8 (x * 256) y (by omega) (by omega) (by omega) h2 (by omega) (by omega)
theorem nat_and32 (a : Nat) : a &&& 32 = 32 * (a / 32 % 2) := by
  have h1 : (a &&& 32) / 2 ^ 5 = (a / 2 ^ 5) &&& (32 / 2 ^ 5) := Nat.and_div_two_pow
  have h2 : (a &&& 32) % 2 ^ 5 = (a % 2 ^ 5) &&& (32 % 2 ^ 5) := Nat.and_mod_two_pow
  have h3 : (a / 2 ^ 5) &&& (32 / 2 ^ 5) = a / 2 ^ 5 % 2 := by
    simp
  rw [h3] at h1
  simp only [Nat.reducePow, Nat.mod_self, Nat.and_zero] at h1 h2
  omega
theorem and32 {x : Int} (h0 : 0 ≤ x) (h1 : x < 4611686018427387904) : (Go.bits .and .i64 x 32 == 0) = decide (x / 32 % 2 = 0) := by
  obtain ⟨a, rfl⟩ := Int.eq_ofNat_of_zero_le h0
  have e : Go.bits .and .i64 (a : Int) 32 = ((a &&& 32 : Nat) : Int) := (bits_nat .i64 62 (by decide) i64_small a 32 (by omega) (by decide)).1
  rw [e, nat_and32, Bool.eq_iff_iff]
  simp only [beq_iff_eq, decide_eq_true_eq]
  omega
/-! byte strings -/
theorem toL (s : ByteArray) : s.toList = s.data.toList := ByteArray.toList_eq s
theorem str_ext {s t : ByteArray} (h : s.data.toList = t.data.toList) : s = t := by
  cases s; cases t; simp at h; simp [h]
theorem toL_inj {s t : ByteArray} (h : s.toList = t.toList) : s = t := str_ext (by rwa [toL, toL] at h)
theorem toL_of (xs : List Int) : (strOfNums xs).toList = xs.map fun n => UInt8.ofNat n.toNat := by rw [toL]; exact strOfNums_data xs
theorem bt_data (s : ByteArray) (i : Nat) : bt s i = ((s.data.toList[i]?.getD 0).toNat : Int) := by
  unfold bt
  split
  · rename_i h
    have h' : i < s.data.toList.length := by rw [data_length]; exact h
    rw [List.getElem?_eq_getElem h']
    rfl
  · rename_i h
    have h' : s.data.toList.length ≤ i := by rw [data_length]; simpa using h
    rw [List.getElem?_eq_none h']
    rfl
theorem bt_nat {s : ByteArray} {i : Int} (h : 0 ≤ i) : bt s i = ((s.data.toList[i.toNat]?.getD 0).toNat : Int) := by
  obtain ⟨n, rfl⟩ := Int.eq_ofNat_of_zero_le h
  exact bt_data s n
theorem app_data (s t : ByteArray) : (s ++ t).data.toList = s.data.toList ++ t.data.toList := by
  rw [ByteArray.data_append, Array.toList_append]
theorem app_size (s t : ByteArray) : (s ++ t).size = s.size + t.size := ByteArray.size_append
theorem ext_data (s : ByteArray) (a b : Nat) : (s.extract a b).data.toList = (s.data.toList.drop a).take (b - a) := by
  rw [ByteArray.data_extract, Array.toList_extract, List.extract_eq_take_drop]
theorem bt_mid (p s q : ByteArray) (i : Nat) (h : i < s.size) : bt ((p ++ s) ++ q) (p.size + i : Nat) = bt s i := by
  rw [bt_data, bt_data, app_data, app_data, List.append_assoc]
  have hp := data_length p
  have hs := data_length s
  rw [List.getElem?_append_right (by omega), List.getElem?_append_left (by omega)]
  rw [show p.size + i - p.data.toList.length = i by omega]
theorem num_back {x : Int} (h0 : 0 ≤ x) (h1 : x < 256) : ((UInt8.ofNat x.toNat).toNat : Int) = x := by
  rw [UInt8.toNat_ofNat']; omega
theorem bt_of (xs : List Int) (i : Nat) (h : ∀ x ∈ xs, 0 ≤ x ∧ x < 256) : bt (strOfNums xs) i = xs.getD i 0 := by
  rw [bt_data, strOfNums_data, List.getElem?_map, List.getD_eq_getElem?_getD]
  cases e : xs[i]? with
  | none => rfl
  | some v => exact num_back (h v (List.mem_of_getElem? e)).1 (h v (List.mem_of_getElem? e)).2
theorem byte_of_bt {s : ByteArray} {i : Nat} (h : i < s.size) : s.data.toList[i]? = some (UInt8.ofNat (bt s i).toNat) := by
  have hl := data_length s
  rw [bt_data, List.getElem?_eq_getElem (by omega)]
  simp
theorem one_eq {x y : Int} (h0 : 0 ≤ x) (h1 : x < 256) (h2 : 0 ≤ y) (h3 : y < 256) (h : UInt8.ofNat x.toNat = UInt8.ofNat y.toNat) : x = y := by
  rw [← num_back h0 h1, ← num_back h2 h3, h]
end Go.Proofs.Ytebapdkfndlpgaa.G
