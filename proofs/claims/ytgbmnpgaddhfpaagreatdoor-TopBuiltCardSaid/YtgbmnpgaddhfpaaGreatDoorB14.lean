/- Walks and plain laws beneath the law TopBuilt. No conditions but what each statement names. -/
import Derived.Laws.BitsAllLaws
import Derived.Test.YtgbmnpgaddhfpaaGreatDoorB13
set_option linter.unusedVariables false
set_option linter.unusedSimpArgs false
namespace Go.Proofs.YtgbmnpgaddhfpaaGreatDoor.T
open Go.RowKit Go.Proofs.YtgbmnpgaddhfpaaGreatDoorW.PrintWords Go.Proofs.YtgbmnpgaddhfpaaGreatDoorW.PrintLast Go.Proofs.YtgbmnpgaddhfpaaGreatDoorW.PrintMore
attribute [local go_sem] max2_int min2_int max_two min_two
open Go.Proofs.YtgbmnpgaddhfpaaGreatDoor.G
open Tryz
set_option maxRecDepth 100000
def sideR (st ver : Int) (l : List S87) (echo : List Int) (cs : List S129) : Prop :=
 (schemaCheck st ver l).1 = 0 ∧ (findS 39 l).2 = true ∧ (∀ j : Nat,j < echo.length → (findS (rd echo (j : Int)) l).2 = true ∧ rd echo (j : Int) ≠ 39 ∧ rd echo (j : Int) ∉ echo.take j) ∧
 (∀ j : Nat,j < cs.length → (0 ≤ (rd_T129 cs (j : Int)).f0 ∧ (rd_T129 cs (j : Int)).f0 ≤ 16) ∧ (∀ p ∈ cs.take j,p.f0 ≠ (rd_T129 cs (j : Int)).f0) ∧ specValue (findS 39 l).1 (rd_T129 cs (j : Int)).f1 = 0) ∧ (codeS 0 cs).2 = true
theorem rd_mem129 {l : List S129} {i : Nat} (h : i < l.length) : rd_T129 l (i : Int) ∈ l := by
 simp [rd_T129,List.getD_eq_getElem?_getD,List.getElem?_eq_getElem h]
theorem orB_nat {x b : Nat} (hx : x * 256 < 2 ^ 64) (hb : b < 256) : orB (x : Int) (b : Int) = ((x * 256 + b : Nat) : Int) := by
 unfold orB
 rw [show ((x : Int) * 256) = ((x * 256 : Nat) : Int) by omega,u64_small _ (by omega) (by omega),or_u64 hx (by omega),Nat.mul_comm,← Nat.two_pow_add_eq_or_of_lt (i := 8) (by omega)]
theorem bt_b8 {x : Int} {j : Nat} (hj : j < 8) : bt (b8 x) (j : Nat) = bytV x j := by
 have hr : ∀ k,0 ≤ bytV x k ∧ bytV x k < 256 := fun k => by unfold bytV;omega
 unfold b8
 rw [bt_of _ _ (by simp only [List.mem_cons,List.not_mem_nil,or_false];rintro y (rfl | rfl | rfl | rfl | rfl | rfl | rfl | rfl) <;> exact hr _)]
 rcases (show j = 0 ∨ j = 1 ∨ j = 2 ∨ j = 3 ∨ j = 4 ∨ j = 5 ∨ j = 6 ∨ j = 7 by omega) with rfl | rfl | rfl | rfl | rfl | rfl | rfl | rfl <;> rfl
theorem b8_sz (x : Int) : (b8 x).size = 8 := by unfold b8;rw [nums_size];rfl
theorem str8_eq {t : ByteArray} (h : t.size = 8) : str8 t = t := by
 have e : str8 t = rng 8 fun k => bt t (k : Nat) := rfl
 rw [e,rng_eq h fun k _ => rfl]
theorem bits_nat8 {t : ByteArray} {n : Nat} (hn : n ≤ 8) : ∃ v : Nat,bitsAt t n = v ∧ v < 256 ^ n ∧ ∀ j,j < n → bt t (j : Nat) = ((v / 256 ^ (n - 1 - j) % 256 : Nat) : Int) := by
 induction n with
 | zero => exact ⟨0,rfl,by decide,fun j hj => absurd hj (by omega)⟩
 | succ n ih =>
  obtain ⟨v,h1,h2,h3⟩ := ih (by omega)
  have hb := bt_range t (n : Nat)
  obtain ⟨c,hc⟩ := Int.eq_ofNat_of_zero_le hb.1
  have hc2 : c < 256 := by omega
  have hstep : bitsAt t (n + 1) = orB (bitsAt t n) (bt t (n : Nat)) := by
   unfold bitsAt
   rcases (show n = 0 ∨ n = 1 ∨ n = 2 ∨ n = 3 ∨ n = 4 ∨ n = 5 ∨ n = 6 ∨ n = 7 by omega) with rfl | rfl | rfl | rfl | rfl | rfl | rfl | rfl <;> rfl
  have hv : v * 256 < 2 ^ 64 := by
   have : 256 ^ n ≤ 256 ^ 7 := Nat.pow_le_pow_right (by decide) (by omega)
   omega
  refine ⟨v * 256 + c,by rw [hstep,h1,hc,orB_nat hv hc2],by have e : 256 ^ (n + 1) = 256 ^ n * 256 := Nat.pow_succ ..;rw [e];clear e hv h3 h1;generalize 256 ^ n = q at h2 ⊢;omega,fun j hj => ?_⟩
  by_cases e : j = n
  ·subst e
   rw [hc,show j + 1 - 1 - j = 0 by omega]
   simp
   omega
  ·rw [h3 j (by omega),show n + 1 - 1 - j = (n - 1 - j) + 1 by omega,Nat.pow_succ,Nat.mul_comm (256 ^ _),← Nat.div_div_eq_div_mul,show (v * 256 + c) / 256 = v by omega]
theorem bits_b8 {x : Nat} (hx : x < 2 ^ 64) : bitsAt (b8 x) 8 = x := by
 obtain ⟨v,h1,h2,h3⟩ := bits_nat8 (t := b8 x) (Nat.le_refl 8)
 rw [h1]
 have h4 : ∀ j,j < 8 → x / 2 ^ (8 * (7 - j)) % 256 = v / 256 ^ (8 - 1 - j) % 256 := fun j hj => by
  have := h3 j hj
  rw [bt_b8 hj] at this
  unfold bytV at this
  exact_mod_cast this
 have a0 := h4 0 (by omega)
 have a1 := h4 1 (by omega)
 have a2 := h4 2 (by omega)
 have a3 := h4 3 (by omega)
 have a4 := h4 4 (by omega)
 have a5 := h4 5 (by omega)
 have a6 := h4 6 (by omega)
 have a7 := h4 7 (by omega)
 simp at a0 a1 a2 a3 a4 a5 a6 a7 h2
 omega
theorem zero8_bits {t : ByteArray} (ht : t.size = 8) : zero8q t = true ↔ bitsAt t 8 = 0 := by
 have hz : zero8q t = true ↔ ∀ j,j < 8 → bt t (j : Nat) = 0 := by
  have hb := fun j => bt_data t j
  unfold zero8q bs8
  have e : ∀ j : Nat,bt t (j : Nat) = 0 ↔ t.data.toList[j]?.getD 0 = 0 := fun j => by
   rw [hb j]
   constructor
   ·intro h
    exact UInt8.toNat_inj.1 (by simpa using h)
   ·intro h
    rw [h];rfl
  simp only [beq_iff_eq,List.cons.injEq,and_true,← e]
  constructor
  ·rintro ⟨h0,h1,h2,h3,h4,h5,h6,h7⟩ j hj
   rcases (show j = 0 ∨ j = 1 ∨ j = 2 ∨ j = 3 ∨ j = 4 ∨ j = 5 ∨ j = 6 ∨ j = 7 by omega) with rfl | rfl | rfl | rfl | rfl | rfl | rfl | rfl <;> assumption
  ·intro h
   exact ⟨h 0 (by omega),h 1 (by omega),h 2 (by omega),h 3 (by omega),h 4 (by omega),h 5 (by omega),h 6 (by omega),h 7 (by omega)⟩
 obtain ⟨v,h1,h2,h3⟩ := bits_nat8 (t := t) (Nat.le_refl 8)
 rw [hz,h1]
 constructor
 ·intro h
  have h4 : ∀ j,j < 8 → v / 256 ^ (8 - 1 - j) % 256 = 0 := fun j hj => by have := h3 j hj;rw [h j hj] at this;omega
  have a0 := h4 0 (by omega)
  have a1 := h4 1 (by omega)
  have a2 := h4 2 (by omega)
  have a3 := h4 3 (by omega)
  have a4 := h4 4 (by omega)
  have a5 := h4 5 (by omega)
  have a6 := h4 6 (by omega)
  have a7 := h4 7 (by omega)
  simp at a0 a1 a2 a3 a4 a5 a6 a7 h2
  omega
 ·intro h j hj
  have : v = 0 := by omega
  rw [h3 j hj,this]
  simp
theorem take_rt {st : Int} (hst : st = 1 ∨ st = 2) {t : ByteArray} (ht : t.size = 8) (a c : ByteArray) :
  takeG st (a ++ (if st = 1 then hexP t else t) ++ c) a.size = (t,(a.size : Int) + (if st = 1 then hexP t else t).size,0) := by
 unfold takeG
 rcases hst with rfl | rfl
 ·have hz := hexP_sz t
  have he : (a ++ hexP t ++ c).extract (a.size : Int).toNat ((a.size : Int) + 16).toNat = hexP t := ex_mid (by omega) (by omega)
  rw [if_pos rfl,if_pos rfl,he,hexG_P,if_neg (by rw [app_size,app_size];omega),if_neg (by simp),hz,ht]
  rfl
 ·have he : (a ++ t ++ c).extract (a.size : Int).toNat ((a.size : Int) + 8).toNat = t := ex_mid (by omega) (by omega)
  rw [if_neg (by decide),if_neg (show ¬ (2 : Int) = 1 by decide),he,if_neg (by rw [app_size,app_size];omega),ht]
  rfl
theorem hexP_app (s t : ByteArray) : hexP (s ++ t) = hexP s ++ hexP t := by
 have hn : ∀ k,nib (s ++ t) k = if k < 2 * s.size then nib s k else nib t (k - 2 * s.size) := fun k => by
  unfold nib
  by_cases c : k < 2 * s.size
  ·rw [if_pos c,bt_app_l (by omega)]
  ·rw [if_neg c,bt_app_r (i := (k - 2 * s.size) / 2) (by omega)]
   simp only [show (k - 2 * s.size) % 2 = k % 2 by omega]
 refine bt_ext (by rw [hexP_sz,app_size,app_size,hexP_sz,hexP_sz];omega) fun i hi => ?_
 rw [hexP_sz,app_size] at hi
 rw [bt_hexP (by rw [app_size];exact hi),hn]
 have hz := hexP_sz s
 split
 ·rw [bt_app_l (by omega),bt_hexP (by omega)]
 ·rw [bt_app_r (i := i - 2 * s.size) (by omega),bt_hexP (by omega)]
theorem bm_rt {st : Int} (hst : st = 1 ∨ st = 2) {p : Int × Int} (hp : InR p) (a c : ByteArray) : bmG st (a ++ bmP st p ++ c) a.size = (p,(a.size : Int) + (bmP st p).size,0) := by
 obtain ⟨x,y,rfl,hx,hy⟩ := hp
 have hs : ∀ z,str8 (b8 z) = b8 z := fun z => str8_eq (b8_sz z)
 have hby := bits_b8 hy
 have ht := fun z a c => take_rt hst (b8_sz z) a c
 have ht2 := fun z (a c : ByteArray) (i : Int) (h : i = a.size) => h ▸ take_rt hst (b8_sz z) a c
 unfold bmP
 simp only [hs]
 by_cases e : zero8q (b8 (y : Int)) = true
 ·have hy0 : (y : Int) = 0 := by have := (zero8_bits (b8_sz _)).1 e;rw [hby] at this;exact this
  obtain rfl : y = 0 := by omega
  rw [if_pos e]
  unfold bmG
  rw [ht,if_neg (by simp),bits_b8 (by omega)]
  have ha : Go.bits .and .u64 (x : Int) 9223372036854775808 = 0 := by
   have := and_u64 (a := x) (b := 2 ^ 63) (by omega) (by decide)
   rw [show (9223372036854775808 : Int) = ((2 ^ 63 : Nat) : Int) by decide,this]
   have h2 : x &&& 2 ^ 63 = 0 := by
    apply Nat.eq_of_testBit_eq
    intro i
    rw [Nat.testBit_and,Nat.zero_testBit,Nat.testBit_two_pow]
    by_cases e : 63 = i
    ·subst e;rw [Nat.testBit_lt_two_pow hx];rfl
    ·simp [e]
   rw [h2];rfl
  rw [if_pos ha]
  rfl
 ·have hy0 : ¬ y = 0 := fun h => e (by subst h;exact (zero8_bits (b8_sz _)).2 (bits_b8 (by decide)))
  have hor : Go.bits .or .u64 (x : Int) 9223372036854775808 = ((x + 2 ^ 63 : Nat) : Int) := by
   rw [show (9223372036854775808 : Int) = ((2 ^ 63 : Nat) : Int) by decide,or_u64 (by omega) (by decide),Nat.or_comm]
   have := Nat.two_pow_add_eq_or_of_lt (i := 63) (b := x) hx 1
   rw [Nat.mul_one] at this
   omega
  rw [if_neg e]
  have hj : (if st = 1 then hexP (b8 (Go.bits .or .u64 (x : Int) 9223372036854775808) ++ b8 (y : Int)) else b8 (Go.bits .or .u64 (x : Int) 9223372036854775808) ++ b8 (y : Int)) = (if st = 1 then hexP (b8 (x + 2 ^ 63 : Nat)) else b8 (x + 2 ^ 63 : Nat)) ++ (if st = 1 then hexP (b8 (y : Int)) else b8 (y : Int)) := by
   rw [hor]
   split
   ·rw [hexP_app]
   ·rfl
  rw [hj]
  have h1 := ht (x + 2 ^ 63 : Nat) a ((if st = 1 then hexP (b8 (y : Int)) else b8 (y : Int)) ++ c)
  have h2 := ht2 (y : Int) (a ++ (if st = 1 then hexP (b8 (x + 2 ^ 63 : Nat)) else b8 (x + 2 ^ 63 : Nat))) c ((a.size : Int) + (if st = 1 then hexP (b8 (x + 2 ^ 63 : Nat)) else b8 (x + 2 ^ 63 : Nat)).size) (by rw [app_size];omega)
  simp only [← ByteArray.append_assoc] at h1 h2 ⊢
  unfold bmG
  rw [h1,if_neg (by simp),bits_b8 (by omega)]
  have hne : ¬ Go.bits .and .u64 ((x + 2 ^ 63 : Nat) : Int) 9223372036854775808 = 0 := by
   rw [show (9223372036854775808 : Int) = ((2 ^ 63 : Nat) : Int) by decide,and_u64 (by omega) (by decide)]
   intro h
   have h3 : (x + 2 ^ 63) &&& 2 ^ 63 = 0 := by omega
   have h4 : ((x + 2 ^ 63) &&& 2 ^ 63).testBit 63 = false := by rw [h3];simp
   rw [Nat.testBit_and,Nat.testBit_two_pow,Nat.add_comm,Nat.testBit_two_pow_add_eq,Nat.testBit_lt_two_pow hx] at h4
   exact absurd h4 (by decide)
  have hnot : Go.bits .andNot .u64 ((x + 2 ^ 63 : Nat) : Int) 9223372036854775808 = (x : Int) := by
   rw [show (9223372036854775808 : Int) = ((2 ^ 63 : Nat) : Int) by decide,Go.u64_andNot_nat _ _ (by omega) (by decide)]
   congr 1
   rw [show 18446744073709551615 - 2 ^ 63 = 2 ^ 63 - 1 by decide,Nat.and_two_pow_sub_one_eq_mod]
   omega
  rw [if_neg hne,h2,if_neg (by simp),if_neg e,hnot,hby,app_size]
  simp
  omega
theorem bl_le : ∀ (k x : Nat),x < 2 ^ k → x < 2 ^ 64 → Lib.bitLen x ≤ k
 | 0,x,h,_ => by
  have : x = 0 := by simp at h;exact h
  subst this
  decide
 | k + 1,x,h,hx => by
  by_cases c : x = 0
  ·subst c;exact Nat.zero_le _
  ·rw [Lib.bitLen_half x (by omega) hx]
   rw [Nat.pow_succ] at h
   have := bl_le k (x / 2) (by omega) (by omega)
   omega
theorem bl_top {x : Nat} (h0 : x ≠ 0) (hx : x < 2 ^ 64) : ∃ l,Lib.bitLen x = l + 1 ∧ x.testBit l = true ∧ ∀ j,l < j → x.testBit j = false := by
 have h1 : 1 ≤ Lib.bitLen x := bitLen_pow 0 x (by simp;omega) hx
 obtain ⟨l,hl⟩ : ∃ l,Lib.bitLen x = l + 1 := ⟨Lib.bitLen x - 1,by omega⟩
 have h2 : x < 2 ^ (l + 1) := by
  by_cases c : x < 2 ^ (l + 1)
  ·exact c
  ·have := bitLen_pow (l + 1) x (by omega) hx;omega
 have h3 : 2 ^ l ≤ x := by
  by_cases c : 2 ^ l ≤ x
  ·exact c
  ·have := bl_le l x (by omega) hx;omega
 refine ⟨l,hl,?_,fun j hj => Nat.testBit_lt_two_pow (Nat.lt_of_lt_of_le h2 (Nat.pow_le_pow_right (by decide) hj))⟩
 obtain ⟨d,hd⟩ : ∃ d,x = 2 ^ l + d := ⟨x - 2 ^ l,by omega⟩
 rw [hd,Nat.testBit_two_pow_add_eq,Nat.testBit_lt_two_pow (by rw [Nat.pow_succ] at h2;omega)]
 rfl
def hasN (p : Nat × Nat) (k : Nat) : Bool := if k ≤ 64 then p.1.testBit (64 - k) else p.2.testBit (128 - k)
theorem shU_bit {a n j : Nat} (hj : j < 64) : (shU (a : Int) (n : Nat)).toNat.testBit j = (decide (n ≤ j) && a.testBit (j - n)) := by
 rw [shU_eq,Int.toNat_natCast,show ((a : Int) * 2 ^ n % 18446744073709551616) = ((a * 2 ^ n % 2 ^ 64 : Nat) : Int) by rw [Int.natCast_emod,Int.natCast_mul,Int.natCast_pow];rfl,Int.toNat_natCast,Nat.testBit_mod_two_pow,Nat.testBit_mul_two_pow]
 simp [hj]
theorem half {a n : Nat} (hn : n ≤ 64) :
  (shU (a : Int) (n : Nat) = 0 ∧ ∀ j,n < j → j ≤ 64 → a.testBit (64 - j) = false) ∨
  (shU (a : Int) (n : Nat) ≠ 0 ∧ ∃ k : Nat,n < k ∧ k ≤ 64 ∧ (64 - (Lib.bitLen (shU (a : Int) (n : Nat)).toNat : Int)) + 1 = (k : Int) - n ∧ a.testBit (64 - k) = true ∧ ∀ j,n < j → j < k → a.testBit (64 - j) = false) := by
 have hr := shU_range (a : Int) (n : Nat)
 have hb := fun j hj => shU_bit (a := a) (n := n) (j := j) hj
 by_cases h : shU (a : Int) (n : Nat) = 0
 ·refine .inl ⟨h,fun j h1 h2 => ?_⟩
  have := hb (64 - j + n) (by omega)
  rw [h,d_T (by omega),Nat.add_sub_cancel] at this
  simpa using this.symm
 ·obtain ⟨l,h1,h2,h3⟩ := bl_top (x := (shU (a : Int) (n : Nat)).toNat) (by omega) (by omega)
  have h4 := bitLen_le64 (shU (a : Int) (n : Nat)).toNat
  have h5 := hb l (by omega)
  rw [h2] at h5
  have h6 := (Bool.and_eq_true_iff.1 h5.symm)
  have h7 : n ≤ l := of_decide_eq_true h6.1
  refine .inr ⟨h,64 - l + n,by omega,by omega,by omega,by rw [show 64 - (64 - l + n) = l - n by omega];exact h6.2,fun j h8 h9 => ?_⟩
  have := hb (64 - j + n) (by omega)
  rw [h3 _ (by omega),d_T (by omega),Nat.add_sub_cancel] at this
  simpa using this.symm
theorem nextS_spec (p : Nat × Nat) {n : Nat} (hn : n ≤ 128) : (nextS ((p.1 : Int),(p.2 : Int)) (n : Nat) = 0 ∧ ∀ j,n < j → j ≤ 128 → hasN p j = false) ∨
  ∃ k : Nat,nextS ((p.1 : Int),(p.2 : Int)) (n : Nat) = (k : Int) ∧ n < k ∧ k ≤ 128 ∧ hasN p k = true ∧ ∀ j,n < j → j < k → hasN p j = false := by
 unfold nextS lzS
 by_cases c : n < 64
 ·rw [if_pos (by omega)]
  rcases half (a := p.1) (n := n) (by omega) with ⟨h1,h2⟩ | ⟨h1,k,h2,h3,h4,h5,h6⟩
  ·rw [if_neg (by simpa using h1)]
   rcases half (a := p.2) (n := 0) (by omega) with ⟨g1,g2⟩ | ⟨g1,k,g2,g3,g4,g5,g6⟩
   ·rw [if_neg (by simpa using g1)]
    refine .inl ⟨rfl,fun j h3 h4 => ?_⟩
    unfold hasN
    split
    ·exact h2 j h3 (by omega)
    ·rw [show 128 - j = 64 - (j - 64) by omega];exact g2 _ (by omega) (by omega)
   ·rw [if_pos (by exact g1)]
    refine .inr ⟨64 + k,?_,by omega,by omega,?_,fun j h3 h4 => ?_⟩
    ·show (64 : Int) + (64 - (Lib.bitLen (shU (p.2 : Int) ((0 : Nat) : Int)).toNat : Int)) + 1 = _
     omega
    ·unfold hasN
     rw [if_neg (by omega),show 128 - (64 + k) = 64 - k by omega,g5]
    ·unfold hasN
     split
     ·exact h2 j h3 (by omega)
     ·rw [show 128 - j = 64 - (j - 64) by omega];exact g6 _ (by omega) (by omega)
  ·rw [if_pos (by exact h1)]
   refine .inr ⟨k,by show (n : Int) + (64 - (Lib.bitLen (shU (p.1 : Int) (n : Nat)).toNat : Int)) + 1 = _;omega,h2,by omega,?_,fun j h7 h8 => ?_⟩
   ·unfold hasN
    rw [if_pos h3,h5]
   ·unfold hasN
    rw [if_pos (by omega)]
    exact h6 j h7 h8
 ·rw [if_neg (by omega),show ((n : Int) - 64) = ((n - 64 : Nat) : Int) by omega]
  rcases half (a := p.2) (n := n - 64) (by omega) with ⟨g1,g2⟩ | ⟨g1,k,g2,g3,g4,g5,g6⟩
  ·rw [if_neg (by simpa using g1)]
   refine .inl ⟨rfl,fun j h3 h4 => ?_⟩
   unfold hasN
   rw [if_neg (by omega),show 128 - j = 64 - (j - 64) by omega];exact g2 _ (by omega) (by omega)
  ·rw [if_pos (by exact g1)]
   refine .inr ⟨64 + k,?_,by omega,by omega,?_,fun j h3 h4 => ?_⟩
   ·show (n : Int) + (64 - (Lib.bitLen (shU (p.2 : Int) ((n - 64 : Nat) : Int)).toNat : Int)) + 1 = _
    omega
   ·unfold hasN
    rw [if_neg (by omega),show 128 - (64 + k) = 64 - k by omega,g5]
   ·unfold hasN
    rw [if_neg (by omega),show 128 - j = 64 - (j - 64) by omega];exact g6 _ (by omega) (by omega)
def memL (p : Nat × Nat) (n : Nat) : List Nat := (List.range' (n + 1) (128 - n)).filter (hasN p)
theorem memL_none {p : Nat × Nat} {n : Nat} (h : ∀ j,n < j → j ≤ 128 → hasN p j = false) : memL p n = [] := by
 refine List.filter_eq_nil_iff.2 fun j hj => ?_
 have := List.mem_range'_1.1 hj
 rw [h j (by omega) (by omega)]
 simp
theorem memL_some {p : Nat × Nat} {n k : Nat} (h1 : n < k) (h2 : k ≤ 128) (h3 : hasN p k = true) (h : ∀ j,n < j → j < k → hasN p j = false) : memL p n = k :: memL p k := by
 have e : List.range' (n + 1) (128 - n) = List.range' (n + 1) (k - 1 - n) ++ List.range' k (128 - k + 1) := by
  have := @List.range'_append_1 (n + 1) (k - 1 - n) (128 - k + 1)
  rw [show n + 1 + (k - 1 - n) = k by omega,show k - 1 - n + (128 - k + 1) = 128 - n by omega] at this
  exact this.symm
 unfold memL
 rw [e,List.filter_append,List.filter_eq_nil_iff.2 (fun j hj => by have := List.mem_range'_1.1 hj;rw [h j (by omega) (by omega)];simp),List.nil_append,List.range'_succ,List.filter_cons_of_pos h3]
def decL (st : Int) (l : List S87) (b : ByteArray) : List Int → Int → List S63 → List S63 × Int × Int × Int
 | [],i,xs => (xs,0,0,i)
 | no :: r,i,xs => if (findS no l).2 = false then (xs,9,no,i) else
   if (cellG st (findS no l).1 b i).2.2 ≠ 0 then (xs,(cellG st (findS no l).1 b i).2.2,no,i) else
   decL st l b r (cellG st (findS no l).1 b i).2.1 (xs ++ [⟨no,(cellG st (findS no l).1 b i).1⟩])
theorem decLoop_L (st : Int) (l : List S87) (p : Nat × Nat) (b : ByteArray) : ∀ (d n : Nat) (i : Int) (xs : List S63),n ≤ 128 → 128 - n < d →
  decLoop st l ((p.1 : Int),(p.2 : Int)) b d (nextS ((p.1 : Int),(p.2 : Int)) (n : Nat)) i xs = decL st l b ((memL p n).map fun (k : Nat) => (k : Int)) i xs
 | 0,_,_,_,_,h => by omega
 | d + 1,n,i,xs,hn,hd => by
  rcases nextS_spec p hn with ⟨h1,h2⟩ | ⟨k,h1,h2,h3,h4,h5⟩
  ·rw [memL_none h2,h1,decLoop,if_pos rfl]
   rfl
  ·rw [memL_some h2 h3 h4 h5,h1,decLoop,if_neg (by omega),List.map_cons,decL,decLoop_L st l p b d k _ _ h3 (by omega)]
theorem hasN_set (k : Nat) (hk1 : 1 ≤ k) (hk : k ≤ 128) : ∀ (xs : List S63) (p : Nat × Nat),p.1 < 2 ^ 63 → p.2 < 2 ^ 64 → (∀ x ∈ xs,2 ≤ x.f0 ∧ x.f0 ≤ 128) →
  ∃ q : Nat × Nat,setS xs ((p.1 : Int),(p.2 : Int)) = ((q.1 : Int),(q.2 : Int)) ∧ q.1 < 2 ^ 63 ∧ q.2 < 2 ^ 64 ∧ (hasN q k = true ↔ hasN p k = true ∨ (k : Int) ∈ xs.map S63.f0)
 | [],p,h1,h2,_ => ⟨p,rfl,h1,h2,by simp⟩
 | x :: xs,p,h1,h2,hx => by
  obtain ⟨c,d,e,hc,hd⟩ := bitS_in (hx x (by simp)).1 (hx x (by simp)).2
  have hw : withS ((p.1 : Int),(p.2 : Int)) x.f0 = (((p.1 ||| c : Nat) : Int),((p.2 ||| d : Nat) : Int)) := by
   unfold withS eithS
   rw [e,or_u64 (by omega) (by omega),or_u64 h2 hd]
  obtain ⟨q,h3,h4,h5,h6⟩ := hasN_set k hk1 hk xs (p.1 ||| c,p.2 ||| d) (Nat.or_lt_two_pow h1 hc) (Nat.or_lt_two_pow h2 hd) (fun y hy => hx y (List.mem_cons_of_mem _ hy))
  refine ⟨q,by rw [setS,hw,h3],h4,h5,?_⟩
  rw [h6,List.map_cons,List.mem_cons]
  have hk2 : hasN (c,d) k = true ↔ (k : Int) = x.f0 := by
   have hr := hx x (by simp)
   obtain ⟨m,hm⟩ := Int.eq_ofNat_of_zero_le (show 0 ≤ x.f0 by omega)
   unfold bitS at e
   rw [if_neg (by omega)] at e
   have hp : ∀ j : Nat,j < 64 → IntKind.u64.wrap (2 ^ j) = ((2 ^ j : Nat) : Int) := fun j hj => by
    have h9 : (2 : Nat) ^ j < 2 ^ 64 := Nat.pow_lt_pow_right (by decide) hj
    rw [show ((2 : Int) ^ j) = ((2 ^ j : Nat) : Int) by simp]
    exact u64_small _ (Int.natCast_nonneg _) (by exact_mod_cast h9)
   unfold hasN
   split at e
   ·rw [hm,show ((64 : Int) - (m : Int)).toNat = 64 - m by omega,hp _ (by omega)] at e
    have e1 : 2 ^ (64 - m) = c := by have := congrArg Prod.fst e;simpa using Int.ofNat.inj this
    have e2 : 0 = d := by have := congrArg Prod.snd e;exact Int.ofNat.inj this
    rw [← e1,← e2,hm]
    split
    ·simp [Nat.testBit_two_pow];omega
    ·simp;omega
   ·rw [hm,show ((128 : Int) - (m : Int)).toNat = 128 - m by omega,hp _ (by omega)] at e
    have e1 : 0 = c := by have := congrArg Prod.fst e;exact Int.ofNat.inj this
    have e2 : 2 ^ (128 - m) = d := by have := congrArg Prod.snd e;simpa using Int.ofNat.inj this
    rw [← e1,← e2,hm]
    split
    ·simp;omega
    ·simp [Nat.testBit_two_pow];omega
  have ho : hasN (p.1 ||| c,p.2 ||| d) k = true ↔ hasN p k = true ∨ hasN (c,d) k = true := by
   unfold hasN
   split <;> simp [Nat.testBit_or]
  rw [ho,hk2,or_assoc]
theorem memL_of {l : List S87} {q : Nat × Nat} : ∀ {xs : List S63} {n : Nat},fieldsOk l n xs = true → (∀ x ∈ xs,x.f0 ≤ 128) → (∀ k : Nat,n < k → k ≤ 128 → (hasN q k = true ↔ (k : Int) ∈ xs.map S63.f0)) → (memL q n).map (fun (k : Nat) => (k : Int)) = xs.map S63.f0
 | [],n,_,_,h => by
  rw [memL_none fun j h1 h2 => by have := h j h1 h2;simpa using this]
  rfl
 | x :: xs,n,hf,hx,h => by
  obtain ⟨h1,h2,h3,h4⟩ := fieldsOk_cons hf
  obtain ⟨m,hm⟩ := Int.eq_ofNat_of_zero_le (show 0 ≤ x.f0 by omega)
  have h5 := hx x (by simp)
  have h6 := fieldsOk_lt h4
  rw [memL_some (k := m) (by omega) (by omega) ((h m (by omega) (by omega)).2 (by simp [hm])) fun j h7 h8 => ?_]
  ·rw [List.map_cons,List.map_cons,hm]
   congr 1
   refine memL_of (by rw [← hm];exact h4) (fun y hy => hx y (List.mem_cons_of_mem _ hy)) fun k h7 h8 => ?_
   rw [h k (by omega) h8,List.map_cons,List.mem_cons]
   constructor
   ·rintro (e | e)
    ·omega
    ·exact e
   ·exact .inr
  ·have h9 := h j h7 (by omega)
   by_cases c : hasN q j = true
   ·obtain ⟨y,hy,e⟩ := List.mem_map.1 (h9.1 c)
    rcases List.mem_cons.1 hy with rfl | hy
    ·omega
    ·have := h6 y hy;omega
   ·simpa using c
theorem encF_app (st : Int) (l : List S87) : ∀ (xs : List S63) (a : ByteArray),encF st l xs a = a ++ encF st l xs ⟨#[]⟩
 | [],a => by show a = a ++ ByteArray.empty;rw [ByteArray.append_empty]
 | x :: xs,a => by
  rw [encF,encF,encF_app st l xs (a ++ _),encF_app st l xs (⟨#[]⟩ ++ _),ByteArray.append_assoc,emp_app]
theorem decL_enc {st : Int} {l : List S87} (hst : st = 1 ∨ st = 2) : ∀ (xs : List S63) (a : ByteArray) (last : Int) (acc : List S63),fieldsOk l last xs = true →
  decL st l (encF st l xs a) (xs.map S63.f0) a.size acc = (acc ++ xs,0,0,((encF st l xs a).size : Int))
 | [],a,_,acc,_ => by show (acc,(0 : Int),(0 : Int),(a.size : Int)) = (acc ++ [],0,0,(a.size : Int));rw [List.append_nil]
 | x :: xs,a,last,acc,hf => by
  obtain ⟨h1,h2,h3,h4⟩ := fieldsOk_cons hf
  have hc := cell_rt hst h3 a (encF st l xs ⟨#[]⟩)
  have e : encF st l (x :: xs) a = a ++ cellP st (findS x.f0 l).1 x.f1 ++ encF st l xs ⟨#[]⟩ := by rw [encF,encF_app]
  have ih := decL_enc hst xs (a ++ cellP st (findS x.f0 l).1 x.f1) x.f0 (acc ++ [x]) h4
  rw [List.map_cons,decL,if_neg (by rw [h2];simp),e,hc,if_neg (by simp),← e,encF]
  rw [app_size,Int.natCast_add,List.append_assoc] at ih
  exact ih
theorem dec_enc {st ver : Int} {l : List S87} {m : ByteArray} {xs : List S63} (h : msgOk st ver l m xs = true) : decG st ver l (encS st l m xs) = ((m,xs),0,0) := by
 unfold msgOk at h
 simp only [Bool.and_eq_true,decide_eq_true_eq] at h
 obtain ⟨hs,hv,hf⟩ := h
 obtain ⟨hst,_,hl⟩ := schemaCheck_ok hs
 have hx := fieldsOk_memE hl xs 0 hf
 obtain ⟨q,h1,h2,h3,_⟩ := hasN_set 1 (by decide) (by decide) xs (0,0) (by decide) (by decide) (fun x hxx => (hx x hxx).1)
 have hmem : ∀ k : Nat,0 < k → k ≤ 128 → (hasN q k = true ↔ (k : Int) ∈ xs.map S63.f0) := fun k h4 h5 => by
  obtain ⟨q',g1,_,_,g4⟩ := hasN_set k h4 h5 xs (0,0) (by decide) (by decide) (fun x hxx => (hx x hxx).1)
  have : q' = q := by
   rw [h1] at g1
   have a := congrArg Prod.fst g1
   have b := congrArg Prod.snd g1
   exact Prod.ext (Int.ofNat.inj a).symm (Int.ofNat.inj b).symm
  subst this
  rw [g4]
  unfold hasN
  simp
 have hL := memL_of (q := q) (n := 0) hf (fun x hxx => (hx x hxx).1.2) hmem
 have e : encS st l m xs = typP st m ++ (bmP st (setS xs (0,0)) ++ encF st l xs ⟨#[]⟩) := by
  unfold encS
  rw [encF_app,ByteArray.append_assoc]
 have hb := bm_rt hst (p := setS xs (0,0)) ⟨q.1,q.2,h1,h2,h3⟩ (typP st m) (encF st l xs ⟨#[]⟩)
 have hd := decL_enc hst xs (typP st m ++ bmP st (setS xs (0,0))) 0 [] hf
 rw [app_size,Int.natCast_add] at hd
 have hd2 : decL st l (encS st l m xs) (xs.map S63.f0) ((typP st m).size + (bmP st (setS xs (0,0))).size : Int) [] = (xs,0,0,((encS st l m xs).size : Int)) := hd
 rw [ByteArray.append_assoc,← e] at hb
 unfold decG
 rw [show typG st ver (encS st l m xs) = (m,((typP st m).size : Int),0) by rw [e];exact typ_rt hst hv _,if_neg (by simp)]
 show decB st l m (encS st l m xs) ((typP st m).size : Int) = _
 have hdl := decLoop_L st l q (encS st l m xs) 129 0 ((typP st m).size + (bmP st (setS xs (0,0))).size : Int) [] (by omega) (by omega)
 rw [hL,hd2,← h1] at hdl
 unfold decB
 rw [hb,if_neg (by simp)]
 dsimp only
 have hdl2 : decLoop st l (setS xs (0,0)) (encS st l m xs) 129 (nextS (setS xs (0,0)) 0) ((typP st m).size + (bmP st (setS xs (0,0))).size : Int) [] = (xs,0,0,((encS st l m xs).size : Int)) := hdl
 rw [hdl2,if_neg (by simp),if_neg (by simp)]
structure Sd where
 st : Int
 ver : Int
 l : List S87
 ms : List S66
 rs : List S94
 echo : List Int
 cs : List S129
structure Ad where
 A1 : Option Addr
 c1 : Nat
 Am : Option Addr
 cm : Nat
 Ar : Option Addr
 cr : Nat
 Ae : Option Addr
 ce : Nat
 Ac : Option Addr
 cc : Nat
structure SdAt (w : World) (s : Sd) (p : Ad) : Prop where
 r1 : Kd.C k87 w p.A1 s.l.length s.l
 h1 : s.l.length ≤ p.c1
 n1 : s.l.length ≤ 4611686018427387904
 rm : Kd.C k66 w p.Am s.ms.length s.ms
 hm : s.ms.length ≤ p.cm
 nm : s.ms.length ≤ 4611686018427387904
 rr : Kd.C k94 w p.Ar s.rs.length s.rs
 hr : s.rs.length ≤ p.cr
 nr : s.rs.length ≤ 4611686018427387904
 re : Kd.C (Kd.int .i64) w p.Ae s.echo.length s.echo
 he : s.echo.length ≤ p.ce
 ne : s.echo.length ≤ 4611686018427387904
 rc : Kd.C k129 w p.Ac s.cs.length s.cs
 hc : s.cs.length ≤ p.cc
 nc : s.cs.length ≤ 4611686018427387904
 n4 : ∀ r ∈ s.rs,r.f4.length ≤ 4611686018427387904
theorem SdAt.step {w W : World} {s : Sd} {p : Ad} (h : SdAt w s p) (hb : Below w.heap.size w W) : SdAt W s p :=
 ⟨c_B h.r1 hb,h.h1,h.n1,c_B h.rm hb,h.hm,h.nm,c_B h.rr hb,h.hr,h.nr,c_B h.re hb,h.he,h.ne,c_B h.rc hb,h.hc,h.nc,h.n4⟩
def sdR (s : Sd) : Prop := sideR s.st s.ver s.l s.echo s.cs
theorem cells_15 {w : World} {g : Nat} {t : TypeId} {v0 v1 v2 v3 v4 v5 v6 v7 v8 v9 v10 v11 v12 v13 v14 : Value} (h : w.heap[g]? = some (.cells #[v0,v1,v2,v3,v4,v5,v6,v7,v8,v9,v10,v11,v12,v13,v14] t (0,0))) :
  w.cell? ⟨g,0,none⟩ = some v0 ∧ w.cell? ⟨g,1,none⟩ = some v1 ∧ w.cell? ⟨g,2,none⟩ = some v2 ∧ w.cell? ⟨g,3,none⟩ = some v3 ∧ w.cell? ⟨g,4,none⟩ = some v4 ∧ w.cell? ⟨g,5,none⟩ = some v5 ∧ w.cell? ⟨g,6,none⟩ = some v6 ∧ w.cell? ⟨g,7,none⟩ = some v7 ∧ w.cell? ⟨g,8,none⟩ = some v8 ∧ w.cell? ⟨g,9,none⟩ = some v9 ∧ w.cell? ⟨g,10,none⟩ = some v10 ∧ w.cell? ⟨g,11,none⟩ = some v11 ∧ w.cell? ⟨g,12,none⟩ = some v12 ∧ w.cell? ⟨g,13,none⟩ = some v13 ∧ w.cell? ⟨g,14,none⟩ = some v14 :=
 ⟨blk_cell h 0,blk_cell h 1,blk_cell h 2,blk_cell h 3,blk_cell h 4,blk_cell h 5,blk_cell h 6,blk_cell h 7,blk_cell h 8,blk_cell h 9,blk_cell h 10,blk_cell h 11,blk_cell h 12,blk_cell h 13,blk_cell h 14⟩
theorem groatref06_Put.at' (st : Int) (A : Option Addr) (c n : Nat) (l : List Int) (w : World) (hst : st = 1 ∨ st = 2) (h1 : 1 ∉ l) (h128 : ∀ m ∈ l,m ≤ 128) (hl1 : l.length ≤ 999999) (hn : l.length = n) (hr : Kd.C (Kd.int .i64) w A n l) (hc : n ≤ c) :
  Calls prog 65 #[.int .i64 st,.slice A n c] w fun e w' => (∃ ok,e = .returned (.tuple #[.string (bmR st l),.bool ok])) ∧ Below w.heap.size w w' := by
 subst hn
 exact groatref06_Put.at st A c l w hst h1 h128 hl1 hr hc
theorem lit64_nil {ops : Array Oper} {rest : List Oper} {o : Oper} {a : Act} {Q : Exit → Act → World → Prop} {w W : World} (hB : Below w.heap.size w W) (hgd : o.guard = none) {N : Tmp} (hd : o.dst = some N) (ho : o.op = .buildSlice 29 0 #[])
  (h : ∀ v1 w1,Kd.R (Kd.int .i64) 3 w1 w.heap.size (fun _ => True) v1 [] → Below w.heap.size w w1 → wpList prog ops Q rest (a.put o.dst v1) w1) : wpList prog ops Q (o :: rest) a W := by
 refine Kd.R_lit (Kd.int .i64) w.heap.size 3 hgd hd (xs := []) (inner := []) (ok := fun _ => True) (okp := fun _ => True) ?_ ⟨rfl,fun j p hj => by simp at hj⟩ (fun _ h => h) trivial hB hB.size (by decide) (fun v1 w1 hr hb _ _ => h v1 w1 hr hb)
 simp only [execOp,ho]
 go_simp
theorem app64one {ops : Array Oper} {rest : List Oper} {o : Oper} {a : Act} {Q : Exit → Act → World → Prop} {w W : World} {v : Value} {xs : List Int} (H : Kd.R (Kd.int .i64) 3 W w.heap.size (fun _ => True) v xs) (HB : Below w.heap.size w W) (hgd : o.guard = none) (s x : Operand) (y : Int)
  (ho : o.op = .call { callee := .builtin .append,args := #[s,x],argTypes := #[29,29] }) (hs : a.eval s = v) (hx : a.eval x = .slice (some ⟨W.heap.size,0,none⟩) 1 1) (hl : xs.length ≤ 1000000)
  (h : ∀ v1 w1,Kd.R (Kd.int .i64) 3 w1 w.heap.size (fun _ => True) v1 (xs ++ [y]) → Below w.heap.size w w1 → wpList prog ops Q rest (a.put o.dst v1) w1) : wpList prog ops Q (o :: rest) a (W.alloc (.cells #[.int .i64 y] 3)) := by
 refine Kd.R_append (Kd.int .i64) (w0 := w) w.heap.size hgd s x 29 3 (.int .i64 0) 8 ho underlying29 info3 rfl (by decide) (by omega) v xs y [.int .i64 y] (fun _ => True) (fun _ => False) hs hx rfl (fun _ hk => hk.elim) (fun _ _ => trivial) H HB (below_size HB) (by omega) ?_
 intro v1 w1 hr hb _ _
 exact h v1 w1 hr hb
set_option maxHeartbeats 2000000 in
theorem groatref16_Numbers.at (m : ByteArray) (A : Option Addr) (c : Nat) (xs : List S63) (w : World) (hl : xs.length ≤ 999999) (hr : Kd.C k63 w A xs.length xs) (hc : xs.length ≤ c) :
  Calls prog 66 #[.agg #[.string m,.slice A xs.length c]] w fun e w' => (∃ A2 c2,e = .returned (.slice A2 xs.length c2) ∧ xs.length ≤ c2 ∧ Kd.C (Kd.int .i64) w' A2 xs.length (xs.map S63.f0)) ∧ Below w.heap.size w w' := by
 have hu42 := underlying42
 have hu63 := underlying63
 have HR := aS hr
 have HC := aS hc
 have HL := aS hl
 have HBx := aS (blk_new w (.cells #[.string m,.slice A xs.length c] 42))
 have HW0 := aS (b_l (Below.refl _ w) (.cells #[.string m,.slice A xs.length c] 42))
 have HLT : Aside0 (w.heap.size < (w.alloc (.cells #[.string m,.slice A xs.length c] 42)).heap.size) := ⟨by rw [size_alloc];omega⟩
 clear hr hc hl
 go_enter func66,ntmps66
 go_wp2_with (first | ((with_reducible refine gate_dst (N := 5) rfl ?_);generalize w.alloc (.cells #[.string m,.slice A xs.length c] 42) = W0 at *;refine lit64_nil (Below.refl _ _) rfl (N := 5) rfl rfl ?_;intro v1 w1 hr1 hb1;have HO := aS hr1;have HB := aS hb1;clear hr1 hb1))
 go_loopg [3,4] xs.length (fun g v3 v4 w' => ∃ i : Nat,v4 = .int .i64 i ∧ i + g = xs.length ∧ Aside0 (Kd.R (Kd.int .i64) 3 w' W0.heap.size (fun _ => True) v3 ((xs.take i).map S63.f0)) ∧ Aside0 (Below W0.heap.size W0 w'))
 case atStart => exact ⟨0,rfl,by omega,HO,HB⟩
 case round =>
  clear HO HB
  obtain ⟨i,rfl,hi,HO,HB⟩ := hrel
  have HBw := aS (k_B HBx.out HB.out)
  obtain ⟨c0,c1⟩ := cells_2 HBw.out
  have HD : Aside0 (Below w.heap.size w wr) := ⟨b_s HW0.out HB.out⟩
  by_cases h : i < xs.length
  ·obtain ⟨g,rfl⟩ : ∃ g,gk = g + 1 := ⟨gk - 1,by omega⟩
   have e0 : decide ((i : Int) < xs.length) = true := d_T (by omega)
   obtain ⟨ad,rfl,hx0,hx1⟩ := at63 HR.out HD.out i h
   have q0 : (0 ≤ (i : Int)) = True := eq_true (by omega)
   have q1 : ((i : Int) < xs.length) = True := eq_true (by omega)
   have HT : Aside0 ((xs.take i).map S63.f0 ++ [(rd_T63 xs (i : Int)).f0] = (xs.take (i + 1)).map S63.f0) := ⟨by
    rw [List.take_succ_eq_append_getElem h,List.map_append]
    congr 2
    simp [rd_T63,List.getD_eq_getElem?_getD,h]⟩
   generalize rd_T63 xs (i : Int) = x at *
   go_wp2_with (first | ((with_reducible refine gate_builtin (b := .append) (xs := #[.tmp 13,.tmp 20]) rfl ?_);refine app64one HO.out HB.out rfl (.tmp 13) (.tmp 20) x.f0 rfl rfl rfl (by have := HL.out;simp;omega) ?_;intro v2 w2 hr2 hb2;have HO2 := aS hr2;have HB2 := aS hb2;clear hr2 hb2))
   go_roundg g
   case rel => exact ⟨i + 1,by have := HL.out;congr 1;unfold wrap64;omega,by omega,⟨by rw [← HT.out];exact HO2.out⟩,HB2⟩
   case measure => omega
  ·obtain rfl : i = xs.length := by omega
   have e0 : decide ((xs.length : Int) < xs.length) = false := d_F (by omega)
   have hE := HO.out
   rw [List.take_length] at hE
   obtain ⟨A2,c2,rfl⟩ := Kd.R_slice hE
   obtain ⟨_,hroom,HN⟩ := Kd.R_reads' hE
   rw [List.length_map] at hroom HN
   have HN := aS HN
   have HRM := aS hroom
   clear hE hroom
   go_wp2
   go_ret
   exact ⟨⟨A2,c2,by first | rfl | (simp;done),HRM.out,HN.out⟩,HD.out⟩
theorem bv_eq {l : List Int} {f : Int} {B : Nat} (hB : B < 256) (h : ∀ j : Nat,j < 8 → (f + (j : Int) ∈ l ↔ B.testBit (7 - j) = true)) : ∀ k : Nat,k ≤ 8 → bv l f k = ((B / 2 ^ (8 - k) : Nat) : Int)
 | 0,_ => by rw [bv];simp;omega
 | k + 1,hk => by
  rw [bv,bv_eq hB h k (by omega)]
  have h2 : B / 2 ^ (8 - k) = B / 2 ^ (8 - (k + 1)) / 2 := by rw [Nat.div_div_eq_div_mul,← Nat.pow_succ,show 8 - k = 8 - (k + 1) + 1 by omega]
  have h3 := h k (by omega)
  rw [Nat.testBit_eq_decide_div_mod_eq,decide_eq_true_eq,show 7 - k = 8 - (k + 1) by omega] at h3
  rw [h2]
  by_cases c : f + (k : Int) ∈ l
  ·have := h3.1 c
   rw [if_pos c]
   omega
  ·have : ¬ B / 2 ^ (8 - (k + 1)) % 2 = 1 := fun e => c (h3.2 e)
   rw [if_neg c]
   omega
theorem byF_b8 {l : List Int} {f : Int} {x : Nat} (h : ∀ k : Nat,k < 64 → (f + (k : Int) ∈ l ↔ x.testBit (63 - k) = true)) : strOfNums (byF l f 8) = b8 (x : Int) := by
 have e : b8 (x : Int) = strOfNums ((List.range 8).map fun i => bytV (x : Int) i) := rfl
 rw [e]
 unfold byF
 congr 1
 apply List.map_congr_left
 intro i hi
 have hi := List.mem_range.1 hi
 rw [bv_eq (B := x / 2 ^ (8 * (7 - i)) % 2 ^ 8) (Nat.mod_lt _ (by decide)) (fun j hj => ?_) 8 (Nat.le_refl _)]
 ·unfold bytV
  have : (2 : Nat) ^ (8 - 8) = 1 := rfl
  rw [this,Nat.div_one]
  rw [Int.natCast_emod,Int.natCast_ediv,Int.natCast_pow]
  rfl
 ·have := h (8 * i + j) (by omega)
  rw [show f + ((8 * i + j : Nat) : Int) = f + 8 * (i : Int) + (j : Int) by push_cast;omega] at this
  rw [this,Nat.testBit_mod_two_pow,Nat.testBit_div_two_pow,show 7 - j + 8 * (7 - i) = 63 - (8 * i + j) by omega,d_T (by omega),Bool.true_and]
theorem bmR_eq {st : Int} {xs : List S63} (hx : ∀ x ∈ xs,2 ≤ x.f0 ∧ x.f0 ≤ 128) : bmR st (xs.map S63.f0) = bmP st (setS xs (0,0)) := by
 obtain ⟨q,h1,h2,h3,_⟩ := hasN_set 1 (by decide) (by decide) xs (0,0) (by decide) (by decide) hx
 have hmem : ∀ k : Nat,0 < k → k ≤ 128 → (hasN q k = true ↔ (k : Int) ∈ xs.map S63.f0) := fun k h4 h5 => by
  obtain ⟨q',g1,_,_,g4⟩ := hasN_set k h4 h5 xs (0,0) (by decide) (by decide) hx
  have : q' = q := by
   rw [h1] at g1
   have a := congrArg Prod.fst g1
   have b := congrArg Prod.snd g1
   exact Prod.ext (Int.ofNat.inj a).symm (Int.ofNat.inj b).symm
  subst this
  rw [g4]
  unfold hasN
  simp
 have hlow : ∀ m ∈ xs.map S63.f0,2 ≤ m ∧ m ≤ 128 := fun m hm => by obtain ⟨x,h,rfl⟩ := List.mem_map.1 hm;exact hx x h
 have hs : ∀ z,str8 (b8 z) = b8 z := fun z => str8_eq (b8_sz z)
 have e1 : strOfNums (byF (xs.map S63.f0) 1 8) = b8 (q.1 : Int) := byF_b8 fun k hk => by
  have := hmem (k + 1) (by omega) (by omega)
  unfold hasN at this
  rw [if_pos (by omega)] at this
  rw [show (1 : Int) + k = ((k + 1 : Nat) : Int) by omega,← this,show 64 - (k + 1) = 63 - k by omega]
 have e2 : strOfNums (byF (xs.map S63.f0) 65 8) = b8 (q.2 : Int) := byF_b8 fun k hk => by
  have := hmem (k + 65) (by omega) (by omega)
  unfold hasN at this
  rw [if_neg (by omega)] at this
  rw [show (65 : Int) + k = ((k + 65 : Nat) : Int) by omega,← this,show 128 - (k + 65) = 63 - k by omega]
 have e3 : strOfNums (byF (1 :: xs.map S63.f0) 1 8) = b8 (Go.bits .or .u64 (q.1 : Int) 9223372036854775808) := by
  have hor : Go.bits .or .u64 (q.1 : Int) 9223372036854775808 = ((2 ^ 63 + q.1 : Nat) : Int) := by
   rw [show (9223372036854775808 : Int) = ((2 ^ 63 : Nat) : Int) by decide,or_u64 (by omega) (by decide),Nat.or_comm]
   have := Nat.two_pow_add_eq_or_of_lt (i := 63) (b := q.1) h2 1
   rw [Nat.mul_one] at this
   omega
  rw [hor]
  refine byF_b8 fun k hk => ?_
  rw [List.mem_cons]
  by_cases c : k = 0
  ·subst c
   rw [Nat.testBit_two_pow_add_eq,Nat.testBit_lt_two_pow h2]
   simp
  ·have := hmem (k + 1) (by omega) (by omega)
   unfold hasN at this
   rw [if_pos (by omega)] at this
   rw [Nat.testBit_two_pow_add_gt (by omega),show 63 - k = 64 - (k + 1) by omega,this,show (1 : Int) + k = ((k + 1 : Nat) : Int) by omega]
   constructor
   ·rintro (h | h)
    ·omega
    ·exact h
   ·exact .inr
 have hz : zero8q (b8 (q.2 : Int)) = true ↔ ¬ ∃ m ∈ xs.map S63.f0,65 ≤ m := by
  rw [zero8_bits (b8_sz _),bits_b8 h3]
  constructor
  ·rintro h ⟨m,hm,hm2⟩
   have h4 := hlow m hm
   obtain ⟨n,rfl⟩ := Int.eq_ofNat_of_zero_le (show 0 ≤ m by omega)
   have := (hmem n (by omega) (by omega)).2 hm
   unfold hasN at this
   rw [if_neg (by omega),show q.2 = 0 by omega] at this
   simp at this
  ·intro h
   have : q.2 = 0 := by
    apply Nat.eq_of_testBit_eq
    intro i
    rw [Nat.zero_testBit]
    by_cases c : i < 64
    ·cases e : q.2.testBit i with
     | false => rfl
     | true =>
      exfalso
      have h5 := hmem (128 - i) (by omega) (by omega)
      unfold hasN at h5
      rw [if_neg (by omega),show 128 - (128 - i) = i by omega] at h5
      exact h ⟨_,h5.1 e,by omega⟩
    ·exact Nat.testBit_lt_two_pow (Nat.lt_of_lt_of_le h3 (Nat.pow_le_pow_right (by decide) (by omega)))
   rw [this];rfl
 have h1' : setS xs (0,0) = ((q.1 : Int),(q.2 : Int)) := h1
 unfold bmR bmP
 rw [h1']
 simp only [hs,e1,e2,e3]
 by_cases c : ∃ m ∈ xs.map S63.f0,65 ≤ m
 ·have c2 : ¬ (zero8q (b8 (q.2 : Int)) = true) := fun h => hz.1 h c
  rw [if_pos c,if_neg c2]
 ·rw [if_neg c,if_pos (hz.2 c)]
theorem R_F {α : Type} {d : Kd α} {e : Nat} {w : World} {base : Nat} {v : Value} {xs : List α} {ok : Nat → Prop} (h : Kd.R d e w base (fun _ => True) v xs) (hok : ∀ k,base ≤ k → ok k) : ∃ A c,v = .slice A xs.length c ∧ xs.length ≤ c ∧ Kd.F d w ok A xs.length xs := by
 obtain ⟨A,c,rfl⟩ := Kd.R_slice h
 exact ⟨A,c,rfl,(Kd.R_reads' h).2.1,Kd.F_mono (Kd.N_F (Kd.R_N (Kd.R_bound h))) (fun k hk => hok k hk.2.1)⟩
theorem lit_F {α : Type} {d : Kd α} {W : World} {ok : Nat → Prop} {g e : Nat} {xs : List α} {inner : List Value} (hb : W.heap[g]? = some (.cells inner.toArray e (0,0))) (hg : ok g) (hn : xs.length ≤ 9223372036854775807) (hr : Reps (fun x c => Kd.FK d W ok x c) d.sz xs inner) : Kd.F d W ok (some ⟨g,0,none⟩) xs.length xs := by
 intro W' hW
 have hlt := blk_lt hb
 refine ⟨rfl,hn,fun _ => ⟨_,rfl,fun j p hj => ⟨(inner.drop (j * d.sz)).take d.sz,d.K_len (hr.2 j p hj W' hW),hr.2 j p hj W' hW,fun i u hu => ?_⟩⟩⟩
 rw [List.getElem?_take] at hu
 split at hu
 ·rw [List.getElem?_drop] at hu
  rw [add_plain,← hu]
  have := blk_cell ((hW g hg hlt).trans hb) (j * d.sz + i)
  simpa using this
 ·cases hu
theorem reps_map {α : Type} (R : α → List Value → Prop) (f : α → Value) (h : ∀ x,R x [f x]) (xs : List α) : Reps R 1 xs (xs.map f) := by
 refine ⟨by simp,fun j p hj => ?_⟩
 have h2 : ((xs.map f).drop (j * 1)).take 1 = [f p] := by
  obtain ⟨hl,e⟩ := List.getElem?_eq_some_iff.1 hj
  rw [Nat.mul_one,List.drop_eq_getElem_cons (by simpa using hl)]
  simp [e]
 rw [h2]
 exact h p
theorem str_F {W : World} {ok : Nat → Prop} {g e : Nat} {xs : List ByteArray} {cs : Array Value} (hb : W.heap[g]? = some (.cells cs e (0,0))) (hc : cs = (xs.map .string).toArray) (hg : ok g) (hn : xs.length ≤ 9223372036854775807) : Kd.F Kd.string W ok (some ⟨g,0,none⟩) xs.length xs := by
 subst hc
 exact lit_F hb hg hn (reps_map _ _ (fun x _ _ => rfl) xs)
theorem int_F {W : World} {ok : Nat → Prop} {g e : Nat} {xs : List Int} {cs : Array Value} (hb : W.heap[g]? = some (.cells cs e (0,0))) (hc : cs = (xs.map (.int .i64)).toArray) (hg : ok g) (hn : xs.length ≤ 9223372036854775807) : Kd.F (Kd.int .i64) W ok (some ⟨g,0,none⟩) xs.length xs := by
 subst hc
 exact lit_F hb hg hn (reps_map _ _ (fun x _ _ => rfl) xs)
theorem Foot.and {P Q : World → Prop} {W : World} {ok : Nat → Prop} (h : Foot P W ok) (h2 : Foot Q W ok) : Foot (fun W => P W ∧ Q W) W ok := fun W' hW => ⟨h W' hW,h2 W' hW⟩
theorem Foot.below {P : World → Prop} {W W1 : World} {ok : Nat → Prop} (h : Foot P W ok) (hb : Below W.heap.size W W1) : Foot P W1 ok := Foot.step h (fun k _ hk => hb.block k hk)
theorem pairs_at (k : Nat) (l : List ByteArray) (r : List S66) (n m : Nat) (hn : l.length = n) (hm : r.length = m) (h : groatref24_pairs.f k l = some r) (A : Option Addr) (c : Nat) (W : World) (hr : Kd.C Kd.string W A n l) (hc : n ≤ c) :
  Calls prog 70 #[.slice A n c] W fun e w' => ∃ A' c',e = .returned (.slice A' m c') ∧ m ≤ c' ∧ (∀ ok : Nat → Prop,(∀ k,W.heap.size ≤ k → ok k) → Kd.F k66 w' ok A' m r) ∧ Below W.heap.size W w' := by
 subst hn hm
 refine (groatref24_pairs.calls k A c l r W hr hc h).mono ?_
 rintro e w' ⟨v,rfl,ho,hb⟩
 obtain ⟨A',c',rfl,hc',_⟩ := R_F (ok := fun _ => True) ho (fun _ _ => trivial)
 refine ⟨A',c',rfl,hc',fun ok hok => ?_,hb⟩
 obtain ⟨A2,c2,e2,_,hF⟩ := R_F ho hok
 cases e2
 exact hF
theorem turn_at (k : Nat) (l r : List S66) (n m : Nat) (hn : l.length = n) (hm : r.length = m) (h : groatref19_Turn.f k l = some r) (A : Option Addr) (c : Nat) (W : World) (hr : Kd.C k66 W A n l) (hc : n ≤ c) :
  Calls prog 71 #[.slice A n c] W fun e w' => ∃ A' c',e = .returned (.slice A' m c') ∧ m ≤ c' ∧ (∀ ok : Nat → Prop,(∀ k,W.heap.size ≤ k → ok k) → Kd.F k66 w' ok A' m r) ∧ Below W.heap.size W w' := by
 subst hn hm
 refine (groatref19_Turn.calls k A c l r W hr hc h).mono ?_
 rintro e w' ⟨v,rfl,ho,hb⟩
 obtain ⟨A',c',rfl,hc',_⟩ := R_F (ok := fun _ => True) ho (fun _ _ => trivial)
 refine ⟨A',c',rfl,hc',fun ok hok => ?_,hb⟩
 obtain ⟨A2,c2,e2,_,hF⟩ := R_F ho hok
 cases e2
 exact hF
theorem codes_at (a b c : ByteArray) (W : World) :
  Calls prog 72 #[.string a,.string b,.string c] W fun e w' => ∃ A' c',e = .returned (.slice A' 6 c') ∧ 6 ≤ c' ∧ (∀ ok : Nat → Prop,(∀ k,W.heap.size ≤ k → ok k) → Kd.F k129 w' ok A' 6 [⟨0,a⟩,⟨2,b⟩,⟨3,b⟩,⟨12,b⟩,⟨9,b⟩,⟨15,c⟩]) ∧ Below W.heap.size W w' := by
 refine (groatref24_codes.calls a b c _ W rfl).mono ?_
 rintro e w' ⟨v,rfl,ho,hb⟩
 obtain ⟨A',c',rfl,hc',_⟩ := R_F (ok := fun _ => True) ho (fun _ _ => trivial)
 refine ⟨A',c',rfl,hc',fun ok hok => ?_,hb⟩
 obtain ⟨A2,c2,e2,_,hF⟩ := R_F ho hok
 cases e2
 exact hF
theorem schema_at (k : Nat) (a st ver : Int) (r : List S87) (m : Nat) (hm : r.length = m) (h : groatref14_Schema.f k a = some (st,ver,r)) (W : World) :
  Calls prog 25 #[.int .i64 a] W fun e w' => ∃ A' c',e = .returned (.agg #[.int .i64 st,.int .i64 ver,.slice A' m c']) ∧ m ≤ c' ∧ (∀ ok : Nat → Prop,(∀ k,W.heap.size ≤ k → ok k) → Kd.F k87 w' ok A' m r) ∧ Below W.heap.size W w' := by
 subst hm
 refine (groatref14_Schema.calls k a st ver r W h).mono ?_
 rintro e w' ⟨v,rfl,ho,hb⟩
 obtain ⟨A',c',rfl,hc',_⟩ := R_F (ok := fun _ => True) ho (fun _ _ => trivial)
 refine ⟨A',c',rfl,hc',fun ok hok => ?_,hb⟩
 obtain ⟨A2,c2,e2,_,hF⟩ := R_F ho hok
 cases e2
 exact hF
theorem kept_at (k : Nat) (r : List S94) (m : Nat) (hm : r.length = m) (h : groatref24_kept.f k = some r) (W : World) :
  Calls prog 62 #[] W fun e w' => ∃ A' c',e = .returned (.slice A' m c') ∧ Kd.N k94 94 w' W.heap.size (fun k => W.heap.size ≤ k) (.slice A' m c') r ∧ Below W.heap.size W w' := by
 subst hm
 refine (groatref24_kept.calls k r W h).mono ?_
 rintro e w' ⟨v,rfl,ho,hb⟩
 have hN := Kd.R_N (Kd.R_bound (Kd.S_R ho))
 obtain ⟨A',c',rfl⟩ := Kd.N_slice hN
 exact ⟨A',c',rfl,Kd.N_mono hN (fun k hk => hk.2.1),hb⟩
def typesL : List ByteArray := [⟨#[48,49,48,48]⟩,⟨#[49,49,48,48]⟩,⟨#[48,49,49,48]⟩,⟨#[49,49,49,48]⟩,⟨#[48,50,48,48]⟩,⟨#[49,50,48,48]⟩,⟨#[48,50,49,48]⟩,⟨#[49,50,49,48]⟩,⟨#[48,50,50,48]⟩,⟨#[49,50,50,48]⟩,⟨#[48,50,51,48]⟩,⟨#[49,50,51,48]⟩,⟨#[48,52,48,48]⟩,⟨#[49,52,48,48]⟩,⟨#[48,52,49,48]⟩,⟨#[49,52,49,48]⟩,⟨#[48,52,50,48]⟩,⟨#[49,52,50,48]⟩,⟨#[48,52,51,48]⟩,⟨#[49,52,51,48]⟩,⟨#[48,56,48,48]⟩,⟨#[49,56,48,52]⟩,⟨#[48,56,49,48]⟩,⟨#[49,56,49,52]⟩]
def entryL : List ByteArray := [⟨#[48,53,49]⟩,⟨#[53,49,48,49,48,49,53,49,49,51,52,52]⟩,⟨#[48,50,49]⟩,⟨#[50,49,48,49,48,49,50,49,49,51,52,52]⟩,⟨#[48,49,50]⟩,⟨#[49,48,48,49,52,48,49,48,48,49,49,48]⟩]
def actL : List ByteArray := [⟨#[48,48]⟩,⟨#[48,48,48]⟩,⟨#[48,53]⟩,⟨#[49,48,48]⟩,⟨#[49,52]⟩,⟨#[49,49,49]⟩,⟨#[53,49]⟩,⟨#[49,49,54]⟩,⟨#[53,52]⟩,⟨#[49,48,49]⟩,⟨#[57,49]⟩,⟨#[57,48,55]⟩,⟨#[57,54]⟩,⟨#[57,48,57]⟩]
def echoL : List Int := [2,3,4,7,11,12,32,37,41,42,70]
def typesP : List S66 := (groatref24_pairs.f 20 typesL).getD []
def entryP : List S66 := (groatref24_pairs.f 20 entryL).getD []
def actP : List S66 := (groatref24_pairs.f 20 actL).getD []
def typesQ : List S66 := (groatref19_Turn.f 20 typesP).getD []
def entryQ : List S66 := (groatref19_Turn.f 20 entryP).getD []
def actQ : List S66 := (groatref19_Turn.f 20 actP).getD []
def keptP : List S94 := (groatref24_kept.f 30).getD []
def schA : List S87 := ((groatref14_Schema.f 40 0).getD (0,0,[])).2.2
def schB : List S87 := ((groatref14_Schema.f 40 1).getD (0,0,[])).2.2
def there8 : List S94 := [⟨2,13,0,⟨#[]⟩,[]⟩,⟨2,18,0,⟨#[]⟩,[]⟩,⟨2,90,0,⟨#[]⟩,[]⟩,⟨5,22,22,⟨#[]⟩,entryP⟩,⟨5,39,39,⟨#[]⟩,actP⟩,⟨1,43,43,⟨#[]⟩,[]⟩,⟨1,48,48,⟨#[]⟩,[]⟩,⟨3,0,26,⟨#[53,57,57,57]⟩,[]⟩]
def back5 : List S94 := [⟨2,26,0,⟨#[]⟩,[]⟩,⟨2,43,0,⟨#[]⟩,[]⟩,⟨5,22,22,⟨#[]⟩,entryQ⟩,⟨5,39,39,⟨#[]⟩,actQ⟩,⟨1,48,48,⟨#[]⟩,[]⟩]
def codesP (a b c : ByteArray) : List S129 := [⟨0,a⟩,⟨2,b⟩,⟨3,b⟩,⟨12,b⟩,⟨9,b⟩,⟨15,c⟩]
def bs0 : Sd := ⟨1,0,schA,typesP,keptP ++ there8,echoL,codesP ⟨#[57,54]⟩ ⟨#[51,48]⟩ ⟨#[49,50]⟩⟩
def bs1 : Sd := ⟨2,1,schB,typesQ,keptP ++ back5,echoL,codesP ⟨#[57,48,57]⟩ ⟨#[57,48,52]⟩ ⟨#[57,48,50]⟩⟩
theorem types_eq : groatref24_pairs.f 20 typesL = some typesP := by kernel_rfl
theorem entry_eq : groatref24_pairs.f 20 entryL = some entryP := by kernel_rfl
theorem act_eq : groatref24_pairs.f 20 actL = some actP := by kernel_rfl
theorem typesQ_eq : groatref19_Turn.f 20 typesP = some typesQ := by kernel_rfl
theorem entryQ_eq : groatref19_Turn.f 20 entryP = some entryQ := by kernel_rfl
theorem actQ_eq : groatref19_Turn.f 20 actP = some actQ := by kernel_rfl
theorem kept_eq : groatref24_kept.f 30 = some keptP := by kernel_rfl
theorem schA_eq : groatref14_Schema.f 40 0 = some (1,0,schA) := by kernel_rfl
theorem schB_eq : groatref14_Schema.f 40 1 = some (2,1,schB) := by kernel_rfl
theorem lens : (typesP.length = 12 ∧ entryP.length = 3 ∧ actP.length = 7) ∧ (typesQ.length = 12 ∧ entryQ.length = 3 ∧ actQ.length = 7) ∧ keptP.length = 21 ∧ schA.length = 28 ∧ schB.length = 26 := by decide +kernel
set_option maxHeartbeats 1000000 in
theorem IndexI_no (A : Option Addr) (c : Nat) (xs : List Int) (t : Int) (w : World) (hl : xs.length ≤ 4611686018427387904) (hr : Kd.C (Kd.int .i64) w A xs.length xs) (hn : t ∉ xs) :
  Calls prog 185 #[.slice A xs.length c,.int .i64 t] w fun e w' => e = .returned (.int .i64 (-1)) ∧ w' = w := by
 have HR := aS hr
 have HN := aS hn
 clear hr hn
 go_enter func185,ntmps185
 go_wp2
 go_loopg [8] xs.length (fun g v8 w' => ∃ i : Nat,v8 = .int .i64 i ∧ i + g = xs.length ∧ w' = w)
 case atStart => exact ⟨0,rfl,Nat.zero_add _,rfl⟩
 case round =>
  obtain ⟨i,rfl,hi,rfl⟩ := hrel
  by_cases h : i < xs.length
  ·have e0 : decide ((i : Int) < xs.length) = true := d_T (by omega)
   obtain ⟨ad,rfl,hx0⟩ := at3 HR.out (Below.refl _ _) i h
   have q0 : (0 ≤ (i : Int)) = True := eq_true (by omega)
   have q1 : ((i : Int) < xs.length) = True := eq_true (by omega)
   have hm : rd xs (i : Int) ∈ xs := by simp [rd,List.getD_eq_getElem?_getD,List.getElem?_eq_getElem h]
   have e1 : (t == rd xs (i : Int)) = false := beq_eq_false_iff_ne.mpr (fun e => HN.out (by rw [e];exact hm))
   clear hm
   generalize rd xs (i : Int) = x at *
   go_wp2
   obtain ⟨g,rfl⟩ : ∃ g,gk = g + 1 := ⟨gk - 1,by omega⟩
   go_roundg g
   case rel => exact ⟨i + 1,rfl,by omega,rfl⟩
   case measure => omega
  ·have e0 : decide ((i : Int) < xs.length) = false := d_F (by omega)
   go_wp2
   go_ret
   exact ⟨rfl,rfl⟩
theorem ContainsI_no (A : Option Addr) (c : Nat) (xs : List Int) (t : Int) (w : World) (hl : xs.length ≤ 4611686018427387904) (hr : Kd.C (Kd.int .i64) w A xs.length xs) (hn : t ∉ xs) :
  Calls prog 163 #[.slice A xs.length c,.int .i64 t] w fun e w' => e = .returned (.bool false) ∧ w' = w := by
 have HR := aS hr
 have HN := aS hn
 clear hr hn
 go_enter func163,ntmps163
 go_wp2_with (first | (go_at_call 185;refine (IndexI_no A c xs t _ hl HR.out HN.out).mono ?_;rintro e w1 ⟨rfl,rfl⟩))
 go_ret
 exact ⟨rfl,rfl⟩
theorem reject_code1.at (x : S129) (B : Nat) (no : Int) (w : World) (h : w.cell? ⟨B,0,none⟩ = some (.int .i64 no)) (hne : x.f0 ≠ no) :
  Calls prog 165 #[.agg #[.int .i64 x.f0,.string x.f1],.pointer (some ⟨B,0,none⟩)] w fun e w' => e = .returned (.bool false) ∧ Below w.heap.size w w' := by
 have hu129 := underlying129
 have h2 : ∀ o,(w.alloc o).cell? ⟨B,0,none⟩ = some (.int .i64 no) := fun o => (below_cells (b_l (Below.refl _ _) o) _ (by rw [h];rfl)).trans h
 have e0 : (x.f0 == no) = false := beq_eq_false_iff_ne.mpr hne
 clear hne
 go_enter func165,ntmps165
 go_wp2
 go_ret
 exact ⟨rfl,b_l (Below.refl _ _) _⟩
set_option maxHeartbeats 1000000 in
theorem IndexFunc129_no (A : Option Addr) (c : Nat) (xs : List S129) (no : Int) (B : Nat) (w : World) (hl : xs.length ≤ 4611686018427387904) (hr : Kd.C k129 w A xs.length xs) (h : w.cell? ⟨B,0,none⟩ = some (.int .i64 no)) (hn : ∀ p ∈ xs,p.f0 ≠ no) :
  Calls prog 186 #[.slice A xs.length c,.func (.func 165) #[] #[.pointer (some ⟨B,0,none⟩)]] w fun e w' => e = .returned (.int .i64 (-1)) ∧ Below w.heap.size w w' := by
 have hu129 := underlying129
 have HR := aS hr
 have HB := aS h
 have HN := aS hn
 clear hr h hn
 go_enter func186,ntmps186
 go_wp2
 go_loopg [8] xs.length (fun g v8 w' => ∃ i : Nat,v8 = .int .i64 i ∧ i + g = xs.length ∧ Aside0 (Below w.heap.size w w'))
 case atStart => exact ⟨0,rfl,Nat.zero_add _,⟨Below.refl _ _⟩⟩
 case round =>
  obtain ⟨i,rfl,hi,H⟩ := hrel
  by_cases h : i < xs.length
  ·have e0 : decide ((i : Int) < xs.length) = true := d_T (by omega)
   obtain ⟨ad,rfl,hx0,hx1⟩ := at129 HR.out H.out i h
   have q0 : (0 ≤ (i : Int)) = True := eq_true (by omega)
   have q1 : ((i : Int) < xs.length) = True := eq_true (by omega)
   have HE := aS (HN.out _ (rd_mem129 h))
   generalize rd_T129 xs (i : Int) = x at *
   have hcl : Aside0 (wr.cell? ⟨B,0,none⟩ = some (.int .i64 no)) := ⟨(below_cells H.out _ (by rw [HB.out];rfl)).trans HB.out⟩
   go_wp2_with (first | (go_at_call 165;refine (reject_code1.at x B no _ hcl.out HE.out).mono ?_;rintro e w1 ⟨rfl,hb1⟩;have H_ := aS (b_s H.out hb1);clear H hb1;have H := H_;clear H_))
   obtain ⟨g,rfl⟩ : ∃ g,gk = g + 1 := ⟨gk - 1,by omega⟩
   go_roundg g
   case rel => exact ⟨i + 1,rfl,by omega,H⟩
   case measure => omega
  ·have e0 : decide ((i : Int) < xs.length) = false := d_F (by omega)
   go_wp2
   go_ret
   exact ⟨rfl,H.out⟩
theorem ContainsFunc129_no (A : Option Addr) (c : Nat) (xs : List S129) (no : Int) (B : Nat) (w : World) (hl : xs.length ≤ 4611686018427387904) (hr : Kd.C k129 w A xs.length xs) (h : w.cell? ⟨B,0,none⟩ = some (.int .i64 no)) (hn : ∀ p ∈ xs,p.f0 ≠ no) :
  Calls prog 164 #[.slice A xs.length c,.func (.func 165) #[] #[.pointer (some ⟨B,0,none⟩)]] w fun e w' => e = .returned (.bool false) ∧ Below w.heap.size w w' := by
 have HR := aS hr
 have HB := aS h
 have HN := aS hn
 clear hr h hn
 go_enter func164,ntmps164
 go_wp2_with (first | (go_at_call 186;refine (IndexFunc129_no A c xs no B _ hl HR.out HB.out HN.out).mono ?_;rintro e w1 ⟨rfl,hb1⟩))
 go_ret
 exact ⟨rfl,hb1⟩
set_option maxHeartbeats 2000000 in
theorem reject_echo.at (s : Sd) (p : Ad) (i : Nat) (w : World) (h1 : SdAt w s p) (h : i < s.echo.length) (hf : (findS (rd s.echo (i : Int)) s.l).2 = true) (h39 : rd s.echo (i : Int) ≠ 39) (hni : rd s.echo (i : Int) ∉ s.echo.take i) :
  Calls prog 131 #[.agg #[.int .i64 s.st,.int .i64 s.ver,.slice p.A1 s.l.length p.c1,.slice p.Am s.ms.length p.cm,.slice p.Ar s.rs.length p.cr,.slice p.Ae s.echo.length p.ce,.slice p.Ac s.cs.length p.cc],.int .i64 i] w fun e w' => e = .returned (.int .i64 0) ∧ Below w.heap.size w w' := by
 have hu32 := underlying32
 have hu24 := underlying24
 have hu87 := underlying87
 rcases p with ⟨A1,c1,Am,cm,Ar,cr,Ae,ce,Ac,cc⟩
 have ne := h1.ne
 have hre : Kd.C (Kd.int .i64) w Ae s.echo.length s.echo := h1.re
 have hhe : s.echo.length ≤ ce := h1.he
 obtain ⟨i3,hi3,_⟩ := info_parts info3
 have hcut := cut_to (P := prog) 29 3 .i64 underlying29 hi3 Ae s.echo.length ce (i : Int) (by omega) (by omega) hhe
 simp only [Int.toNat_natCast] at hcut
 obtain ⟨ade,rfl,hy⟩ := at3 hre (Below.refl _ _) i h
 have HS := aS h1
 have HRE := aS hre
 have q0 : (0 ≤ (i : Int)) = True := eq_true (by omega)
 have q1 : ((i : Int) < s.echo.length) = True := eq_true (by omega)
 have HI := aS h
 have HY : Aside0 (∀ W,Below w.heap.size w W → W.cell? (ade.add i) = some (.int .i64 (rd s.echo (i : Int)))) := ⟨fun W hb => (hb.cell (World.block_lt_of_cell? w _ hy)).trans hy⟩
 have HNI := aS hni
 have HF := aS hf
 have e39 : (rd s.echo (i : Int) == 39) = false := beq_eq_false_iff_ne.mpr h39
 clear h1 hy hni hf h39 hi3 hre hhe
 simp only at *
 generalize rd s.echo (i : Int) = y at *
 have D := aS (Box1.start w (.cells #[.int .i64 s.st,.int .i64 s.ver,.slice A1 s.l.length c1,.slice Am s.ms.length cm,.slice Ar s.rs.length cr,.slice (some ade) s.echo.length ce,.slice Ac s.cs.length cc] 32))
 obtain ⟨b0_,b1_,b2_,b3_,b4_,b5_,b6_⟩ := cells_7 D.out.h1
 have y0 := HY.out _ D.out.below
 have HC163 : Aside0 (∀ W,Below w.heap.size w W → Calls prog 163 #[.slice (some ade) i ce,.int .i64 y] W fun e w' => e = .returned (.bool false) ∧ w' = W) := ⟨fun W hb => by
  have hl : (s.echo.take i).length = i := by rw [List.length_take];have := HI.out;omega
  have h5 := ContainsI_no (some ade) ce (s.echo.take i) y W (by omega) (c_B (Kd.C_take HRE.out (Nat.le_of_lt HI.out)) hb) HNI.out
  rw [hl] at h5
  exact h5⟩
 clear D b0_ b1_ b2_ b3_ b4_ b5_ b6_ y0
 go_enter func131,ntmps131
 have D := aS (Box1.start w (.cells #[.int .i64 s.st,.int .i64 s.ver,.slice A1 s.l.length c1,.slice Am s.ms.length cm,.slice Ar s.rs.length cr,.slice (some ade) s.echo.length ce,.slice Ac s.cs.length cc] 32))
 have y0 := HY.out _ D.out.below
 go_wp2_with (first | (go_at_call 36;refine (schema_Find.at s.st s.ver A1 c1 s.l y _ HS.out.n1 (c_B HS.out.r1 D.out.below) HS.out.h1).mono ?_;rintro e w2 ⟨rfl,hb1⟩;rw [HF.out];simp only [v87];have D_ := aS (D.out.step hb1);clear D hb1 y0;have D := D_;clear D_;obtain ⟨b0_,b1_,b2_,b3_,b4_,b5_,b6_⟩ := cells_7 D.out.h1;have y0 := HY.out _ D.out.below;have BA := fun o => cells_7a D.out.h1 o;have YA := fun o => HY.out _ (b_s D.out.below (b_l (Below.refl _ _) o))) | (go_at_call 163;refine (HC163.out _ (b_s D.out.below (bO _))).mono ?_;rintro e w3 ⟨rfl,rfl⟩))
 go_ret
 exact ⟨rfl,b_s D.out.below (bO _)⟩
set_option maxHeartbeats 2000000 in
theorem reject_code.at (s : Sd) (p : Ad) (x : S87) (i : Nat) (w : World) (h1 : SdAt w s p) (h : i < s.cs.length) (h0 : 0 ≤ (rd_T129 s.cs (i : Int)).f0 ∧ (rd_T129 s.cs (i : Int)).f0 ≤ 16) (hni : ∀ p ∈ s.cs.take i,p.f0 ≠ (rd_T129 s.cs (i : Int)).f0) (hv : specValue x (rd_T129 s.cs (i : Int)).f1 = 0) :
  Calls prog 132 #[.agg #[.int .i64 s.st,.int .i64 s.ver,.slice p.A1 s.l.length p.c1,.slice p.Am s.ms.length p.cm,.slice p.Ar s.rs.length p.cr,.slice p.Ae s.echo.length p.ce,.slice p.Ac s.cs.length p.cc],.int .i64 i,.agg #[.int .i64 x.f0,.int .i64 x.f1,.int .i64 x.f2,.int .i64 x.f3,.int .i64 x.f4]] w fun e w' => e = .returned (.int .i64 0) ∧ Below w.heap.size w w' := by
 have hu32 := underlying32
 have hu87 := underlying87
 have hu129 := underlying129
 rcases p with ⟨A1,c1,Am,cm,Ar,cr,Ae,ce,Ac,cc⟩
 have nc := h1.nc
 have hrc : Kd.C k129 w Ac s.cs.length s.cs := h1.rc
 have hhc : s.cs.length ≤ cc := h1.hc
 obtain ⟨i3,hi3,_⟩ := info_parts info129
 have hcut := cut_to (P := prog) 30 129 .i64 underlying30 hi3 Ac s.cs.length cc (i : Int) (by omega) (by omega) hhc
 simp only [Int.toNat_natCast] at hcut
 obtain ⟨adc,rfl,hy0,hy1⟩ := at129 hrc (Below.refl _ _) i h
 have HRC := aS hrc
 have q0 : (0 ≤ (i : Int)) = True := eq_true (by omega)
 have q1 : ((i : Int) < s.cs.length) = True := eq_true (by omega)
 have HI := aS h
 have HY : Aside0 (∀ W,Below w.heap.size w W → W.cell? (adc.add (i * 2)) = some (.int .i64 (rd_T129 s.cs (i : Int)).f0) ∧ W.cell? ⟨(adc.add (i * 2)).block,(adc.add (i * 2)).off + 1,none⟩ = some (.string (rd_T129 s.cs (i : Int)).f1)) := ⟨fun W hb => ⟨(hb.cell (World.block_lt_of_cell? w _ hy0)).trans hy0,(hb.cell (World.block_lt_of_cell? w _ hy1)).trans hy1⟩⟩
 have HNI := aS hni
 have HV := aS hv
 have d0 : decide ((rd_T129 s.cs (i : Int)).f0 < 0) = false := d_F (by omega)
 have d1 : decide (16 < (rd_T129 s.cs (i : Int)).f0) = false := d_F (by omega)
 have HSZ : Aside0 ((rd_T129 s.cs (i : Int)).f1.size ≤ 1000000) := ⟨by have := (specValue_facts hv).2.2.2;omega⟩
 clear h1 hy0 hy1 hni hv h0 hi3 hrc hhc
 simp only at *
 generalize rd_T129 s.cs (i : Int) = y at *
 have HC164 : Aside0 (∀ (B : Nat) (W : World),Below w.heap.size w W → W.cell? ⟨B,0,none⟩ = some (.int .i64 y.f0) → Calls prog 164 #[.slice (some adc) i cc,.func (.func 165) #[] #[.pointer (some ⟨B,0,none⟩)]] W fun e w' => e = .returned (.bool false) ∧ Below W.heap.size W w') := ⟨fun B W hb hB => by
  have hl : (s.cs.take i).length = i := by rw [List.length_take];have := HI.out;omega
  have h5 := ContainsFunc129_no (some adc) cc (s.cs.take i) y.f0 B W (by omega) (c_B (Kd.C_take HRC.out (Nat.le_of_lt HI.out)) hb) hB HNI.out
  rw [hl] at h5
  exact h5⟩
 have D := aS (Box3.start w (.cells #[.int .i64 s.st,.int .i64 s.ver,.slice A1 s.l.length c1,.slice Am s.ms.length cm,.slice Ar s.rs.length cr,.slice Ae s.echo.length ce,.slice (some adc) s.cs.length cc] 32) (.cells #[.int .i64 x.f0,.int .i64 x.f1,.int .i64 x.f2,.int .i64 x.f3,.int .i64 x.f4] 87) (.cells #[.int .i64 y.f0,.string y.f1] 129))
 have Y2 := fun o o' => HY.out _ (b_l (b_l (Below.refl w.heap.size w) o) o')
 go_enter func132,ntmps132
 go_wp2_with (first | (go_at_call 164;refine (HC164.out _ _ D.out.below (blk_cell D.out.h3 0)).mono ?_;rintro e w2 ⟨rfl,hb1⟩;have D_ := aS (D.out.step hb1);clear D hb1 Y2;have D := D_;clear D_;obtain ⟨b0_,b1_,b2_,b3_,b4_,b5_,b6_⟩ := cells_7 D.out.h1;obtain ⟨x0,x1,x2,x3,x4⟩ := cells_5 D.out.h2;obtain ⟨z0,z1⟩ := cells_2 D.out.h3) | (go_at_call 90;refine (spec_Value.at x y.f1 _ HSZ.out).mono ?_;rintro e w3 ⟨rfl,hb1⟩;rw [HV.out];have D_ := aS (D.out.step hb1);clear D hb1;have D := D_;clear D_))
 go_ret
 exact ⟨rfl,D.out.below⟩
theorem codeS_snoc (e : Int) : ∀ (l : List S129) (p : S129),(codeS e (l ++ [p])).2 = ((codeS e l).2 || decide (p.f0 = e))
 | [],p => by
  rw [List.nil_append]
  by_cases h : p.f0 = e <;> simp [codeS,h]
 | x :: xs,p => by
  rw [List.cons_append,codeS,codeS]
  split
  ·rfl
  ·exact codeS_snoc e xs p
theorem codeS_take (e : Int) {l : List S129} {i : Nat} (h : i < l.length) : (codeS e (l.take (i + 1))).2 = ((codeS e (l.take i)).2 || decide ((rd_T129 l (i : Int)).f0 = e)) := by
 have hx : rd_T129 l (i : Int) = l[i] := by simp [rd_T129,List.getD_eq_getElem?_getD,List.getElem?_eq_getElem h]
 rw [List.take_succ_eq_append_getElem h,codeS_snoc,hx]
set_option maxHeartbeats 2000000 in
theorem reject_Check.at (s : Sd) (p : Ad) (w : World) (h1 : SdAt w s p) (hok : sdR s) :
  Calls prog 76 #[.agg #[.int .i64 s.st,.int .i64 s.ver,.slice p.A1 s.l.length p.c1,.slice p.Am s.ms.length p.cm,.slice p.Ar s.rs.length p.cr,.slice p.Ae s.echo.length p.ce,.slice p.Ac s.cs.length p.cc]] w fun e w' => e = .returned (.tuple #[.int .i64 0,.int .i64 0,.int .i64 0]) ∧ Below w.heap.size w w' := by
 have hu32 := underlying32
 have hu24 := underlying24
 have hu87 := underlying87
 have hu129 := underlying129
 rcases p with ⟨A1,c1,Am,cm,Ar,cr,Ae,ce,Ac,cc⟩
 have ne := h1.ne
 have nc := h1.nc
 have hrc : Kd.C k129 w Ac s.cs.length s.cs := h1.rc
 have HRC := aS hrc
 have HS := aS h1
 simp only at *
 obtain ⟨o1,o2,o3,o4,o5⟩ := hok
 obtain ⟨z1,hs1⟩ : ∃ z,schemaCheck s.st s.ver s.l = (0,z) := ⟨_,by rw [← o1]⟩
 have HS1 := aS hs1
 obtain ⟨x,hx⟩ : ∃ x,findS 39 s.l = (x,true) := ⟨(findS 39 s.l).1,by rw [← o2]⟩
 have HX := aS hx
 rw [hx] at o4
 have O3 := aS o3
 have O4 := aS o4
 have O5 := aS o5
 clear h1 o1 o2 o3 o4 o5 hs1 hx hrc
 have D := aS (Box1.start w (.cells #[.int .i64 s.st,.int .i64 s.ver,.slice A1 s.l.length c1,.slice Am s.ms.length cm,.slice Ar s.rs.length cr,.slice Ae s.echo.length ce,.slice Ac s.cs.length cc] 32))
 go_enter func76,ntmps76
 go_wp2_with (first | (go_at_call 32;refine (schema_Check.at s.st s.ver A1 c1 s.l _ HS.out.n1 (c_B HS.out.r1 D.out.below) HS.out.h1).mono ?_;rintro e w1 ⟨rfl,hb1⟩;rw [HS1.out];have D_ := aS (D.out.step hb1);clear D hb1;have D := D_;clear D_;obtain ⟨b0_,b1_,b2_,b3_,b4_,b5_,b6_⟩ := cells_7 D.out.h1) | (go_at_call 36;refine (schema_Find.at s.st s.ver A1 c1 s.l 39 _ HS.out.n1 (c_B HS.out.r1 D.out.below) HS.out.h1).mono ?_;rintro e w2 ⟨rfl,hb1⟩;rw [HX.out];simp only [v87];have D_ := aS (D.out.step hb1);clear D hb1 b0_ b1_ b2_ b3_ b4_ b5_ b6_;have D := D_;clear D_;have BA := fun o => cells_7a D.out.h1 o))
 have PX := aS (blk_new w2 (.cells #[.int .i64 x.f0,.int .i64 x.f1,.int .i64 x.f2,.int .i64 x.f3,.int .i64 x.f4] 87))
 have D_ := aS (D.out.step (b_l (Below.refl _ _) (.cells #[.int .i64 x.f0,.int .i64 x.f1,.int .i64 x.f2,.int .i64 x.f3,.int .i64 x.f4] 87)))
 clear D BA
 have D := D_
 clear D_
 generalize w2.alloc _ = w5 at *
 generalize w2.heap.size = g7 at *
 go_loopg [34] s.echo.length (fun g v34 w' => ∃ i : Nat,v34 = .int .i64 i ∧ i + g = s.echo.length ∧ Aside0 (Box1 w w' (.cells #[.int .i64 s.st,.int .i64 s.ver,.slice A1 s.l.length c1,.slice Am s.ms.length cm,.slice Ar s.rs.length cr,.slice Ae s.echo.length ce,.slice Ac s.cs.length cc] 32)) ∧ Aside0 (w'.heap[g7]? = some (.cells #[.int .i64 x.f0,.int .i64 x.f1,.int .i64 x.f2,.int .i64 x.f3,.int .i64 x.f4] 87 (0,0))))
 case atStart => exact ⟨0,rfl,Nat.zero_add _,D,PX⟩
 case round =>
  clear D PX
  obtain ⟨i,rfl,hi,D,PX⟩ := hrel
  obtain ⟨b0_,b1_,b2_,b3_,b4_,b5_,b6_⟩ := cells_7 D.out.h1
  obtain ⟨x0,x1,x2,x3,x4⟩ := cells_5 PX.out
  by_cases h : i < s.echo.length
  ·have e0 : decide ((i : Int) < s.echo.length) = true := d_T (by omega)
   have HO := aS (O3.out i h)
   go_wp2_with (first | (go_at_call 131;refine (reject_echo.at s ⟨A1,c1,Am,cm,Ar,cr,Ae,ce,Ac,cc⟩ i _ (HS.out.step D.out.below) h HO.out.1 HO.out.2.1 HO.out.2.2).mono ?_;rintro e w6 ⟨rfl,hb1⟩;have D_ := aS (D.out.step hb1);have PX_ := aS (k_B PX.out hb1);clear D PX hb1 b0_ b1_ b2_ b3_ b4_ b5_ b6_ x0 x1 x2 x3 x4;have D := D_;have PX := PX_;clear D_ PX_;obtain ⟨b0_,b1_,b2_,b3_,b4_,b5_,b6_⟩ := cells_7 D.out.h1;obtain ⟨x0,x1,x2,x3,x4⟩ := cells_5 PX.out))
   obtain ⟨g,rfl⟩ : ∃ g,gk = g + 1 := ⟨gk - 1,by omega⟩
   go_roundg g
   case rel => exact ⟨i + 1,rfl,by omega,D,PX⟩
   case measure => omega
  ·have e0 : decide ((i : Int) < s.echo.length) = false := d_F (by omega)
   go_wp2
   clear b0_ b1_ b2_ b3_ b4_ b5_ b6_ x0 x1 x2 x3 x4
   go_loopg [11,48] s.cs.length (fun g v11 v48 w' => ∃ (i : Nat) (b : Bool),v11 = .bool b ∧ v48 = .int .i64 i ∧ i + g = s.cs.length ∧ Aside0 (b = (codeS 0 (s.cs.take i)).2) ∧ Aside0 (Box1 w w' (.cells #[.int .i64 s.st,.int .i64 s.ver,.slice A1 s.l.length c1,.slice Am s.ms.length cm,.slice Ar s.rs.length cr,.slice Ae s.echo.length ce,.slice Ac s.cs.length cc] 32)) ∧ Aside0 (w'.heap[g7]? = some (.cells #[.int .i64 x.f0,.int .i64 x.f1,.int .i64 x.f2,.int .i64 x.f3,.int .i64 x.f4] 87 (0,0))))
   case atStart => exact ⟨0,false,rfl,rfl,Nat.zero_add _,⟨rfl⟩,D,PX⟩
   case round =>
    clear D PX h hi e0
    obtain ⟨i,b,rfl,rfl,hi,HB,D,PX⟩ := hrel
    obtain ⟨b0_,b1_,b2_,b3_,b4_,b5_,b6_⟩ := cells_7 D.out.h1
    obtain ⟨x0,x1,x2,x3,x4⟩ := cells_5 PX.out
    by_cases h : i < s.cs.length
    ·have e0 : decide ((i : Int) < s.cs.length) = true := d_T (by omega)
     obtain ⟨adc,rfl,hy0,hy1⟩ := at129 HRC.out D.out.below i h
     have q0 : (0 ≤ (i : Int)) = True := eq_true (by omega)
     have q1 : ((i : Int) < s.cs.length) = True := eq_true (by omega)
     have HO := aS (O4.out i h)
     have HT := aS (codeS_take 0 h)
     have HC132 : Aside0 (∀ W,Below w.heap.size w W → Calls prog 132 #[.agg #[.int .i64 s.st,.int .i64 s.ver,.slice A1 s.l.length c1,.slice Am s.ms.length cm,.slice Ar s.rs.length cr,.slice Ae s.echo.length ce,.slice (some adc) s.cs.length cc],.int .i64 i,.agg #[.int .i64 x.f0,.int .i64 x.f1,.int .i64 x.f2,.int .i64 x.f3,.int .i64 x.f4]] W fun e w' => e = .returned (.int .i64 0) ∧ Below W.heap.size W w') := ⟨fun W hb => reject_code.at s ⟨A1,c1,Am,cm,Ar,cr,Ae,ce,some adc,cc⟩ x i W (HS.out.step hb) h HO.out.1 HO.out.2.1 HO.out.2.2⟩
     generalize rd_T129 s.cs (i : Int) = y at *
     have B2 := fun o => cells_7a D.out.h1 o
     have X2 := fun o => cells_5a PX.out o
     cases b with
     | true =>
      go_wp2_with (first | (go_at_call 132;refine (HC132.out _ (b_s D.out.below (bO _))).mono ?_;rintro e w6 ⟨rfl,hb0⟩;have hb1 := below_a1 hb0;clear hb0 B2 X2 hy0 hy1;have D_ := aS (D.out.step hb1);have PX_ := aS (k_B PX.out hb1);clear D PX hb1 b0_ b1_ b2_ b3_ b4_ b5_ b6_ x0 x1 x2 x3 x4;have D := D_;have PX := PX_;clear D_ PX_;obtain ⟨b0_,b1_,b2_,b3_,b4_,b5_,b6_⟩ := cells_7 D.out.h1;obtain ⟨x0,x1,x2,x3,x4⟩ := cells_5 PX.out))
      obtain ⟨g,rfl⟩ : ∃ g,gk = g + 1 := ⟨gk - 1,by omega⟩
      go_roundg g
      case rel => exact ⟨i + 1,true,rfl,rfl,by omega,⟨by rw [HT.out,← HB.out];rfl⟩,D,PX⟩
      case measure => omega
     | false =>
      have ey : (y.f0 == 0) = decide (y.f0 = 0) := by rw [Bool.eq_iff_iff,beq_iff_eq,decide_eq_true_eq]
      go_wp2_with (first | (go_at_call 132;refine (HC132.out _ (b_s D.out.below (bO _))).mono ?_;rintro e w6 ⟨rfl,hb0⟩;have PY := aS (blk_nb hb0);have hb1 := below_a1 hb0;clear hb0 B2 X2 hy0 hy1;have D_ := aS (D.out.step hb1);have PX_ := aS (k_B PX.out hb1);clear D PX hb1 b0_ b1_ b2_ b3_ b4_ b5_ b6_ x0 x1 x2 x3 x4;have D := D_;have PX := PX_;clear D_ PX_;obtain ⟨b0_,b1_,b2_,b3_,b4_,b5_,b6_⟩ := cells_7 D.out.h1;obtain ⟨x0,x1,x2,x3,x4⟩ := cells_5 PX.out;obtain ⟨y0,y1⟩ := cells_2 PY.out))
      obtain ⟨g,rfl⟩ : ∃ g,gk = g + 1 := ⟨gk - 1,by omega⟩
      go_roundg g
      case rel => exact ⟨i + 1,decide (y.f0 = 0),rfl,rfl,by omega,⟨by rw [HT.out,← HB.out];rfl⟩,D,PX⟩
      case measure => omega
    ·have e0 : decide ((i : Int) < s.cs.length) = false := d_F (by omega)
     obtain rfl : b = true := by rw [HB.out,List.take_of_length_le (by omega)];exact O5.out
     go_wp2
     go_ret3
     exact ⟨rfl,D.out.below⟩
def ChkG (P : Prop) (e : Ending) : Prop := ∃ b : Bool,e = .returned (.bool b) ∧ (b = false → P)
set_option maxHeartbeats 4000000 in
theorem groatref17_Bytes.at (st ver : Int) (A : Option Addr) (c : Nat) (l : List S87) (m : ByteArray) (A2 : Option Addr) (c2 : Nat) (xs : List S63) (w : World) (hl : l.length ≤ 4611686018427387904) (hr : Kd.C k87 w A l.length l) (hc : l.length ≤ c) (hl2 : xs.length ≤ 1000) (hr2 : Kd.C k63 w A2 xs.length xs) (hc2 : xs.length ≤ c2) (hm : msgOk st ver l m xs = true) :
  Calls prog 24 #[.agg #[.int .i64 st,.int .i64 ver,.slice A l.length c],.agg #[.string m,.slice A2 xs.length c2]] w fun e w' => e = .returned (.string (encS st l m xs)) ∧ Below w.heap.size w w' := by
 have hu24 := underlying24
 have hu42 := underlying42
 have hu63 := underlying63
 have hu87 := underlying87
 have HR := aS hr
 have HC := aS hc
 have HR2 := aS hr2
 have HC2 := aS hc2
 have HX := aS hl2
 have HLL := aS hl
 have hm' := hm
 unfold msgOk at hm'
 simp only [Bool.and_eq_true,decide_eq_true_eq] at hm'
 obtain ⟨hs,hv,hok⟩ := hm'
 obtain ⟨hst,hver,hall⟩ := schemaCheck_ok hs
 have hmt : isMti m = true := by
  unfold verV at hv
  split at hv
  ·assumption
  ·cases hv
 have HTS : Aside0 ((typP st m).size ≤ 1000 ∧ (bmP st (setS xs (0,0))).size ≤ 2000000) := ⟨typP_size st m hmt,bmP_size _ _⟩
 have HM4 : Aside0 (m.size ≤ 1000000) := ⟨by have := (isMti_iff.1 hmt).1;omega⟩
 have hmem := fieldsOk_memE hall xs 0 hok
 have HN1 : Aside0 ((1 : Int) ∉ xs.map S63.f0) := ⟨fun h => by obtain ⟨x,hx,e⟩ := List.mem_map.1 h;have := (hmem x hx).1;omega⟩
 have HN128 : Aside0 (∀ n ∈ xs.map S63.f0,n ≤ 128) := ⟨fun n h => by obtain ⟨x,hx,rfl⟩ := List.mem_map.1 h;exact (hmem x hx).1.2⟩
 have HBM : Aside0 (bmR st (xs.map S63.f0) = bmP st (setS xs (0,0))) := ⟨bmR_eq fun x hx => (hmem x hx).1⟩
 have HST := aS hst
 have HF0 : Aside0 (∀ x ∈ xs,(findS x.f0 l).2 = true ∧ specValue (findS x.f0 l).1 x.f1 = 0 ∧ x.f1.size ≤ 999) := ⟨fun x hx => ⟨(fieldsOk_mem hok x hx).1,(fieldsOk_mem hok x hx).2,(hmem x hx).2⟩⟩
 obtain ⟨r,hg⟩ : ∃ r,encS st l m xs = r := ⟨_,rfl⟩
 rw [hg]
 rw [encS] at hg
 have HG := aS hg
 clear hr hc hr2 hc2 hl2 hs hv hok hall hmt hmem hg hver hm hst
 have D := aS (Box2.start w (.cells #[.int .i64 st,.int .i64 ver,.slice A l.length c] 24) (.cells #[.string m,.slice A2 xs.length c2] 42))
 obtain ⟨a0,a1,a2⟩ := cells_3 D.out.h1
 obtain ⟨b0,b1⟩ := cells_2 D.out.h2
 go_enter func24,ntmps24
 go_wp2
 generalize (w.alloc (.cells #[.int .i64 st,.int .i64 ver,.slice A l.length c] 24)).alloc (.cells #[.string m,.slice A2 xs.length c2] 42) = W0 at *
 go_cut [5] (fun v5 wc => v5 = .string (bmP st (setS xs (0,0))) ∧ Aside0 (Box2 w wc (.cells #[.int .i64 st,.int .i64 ver,.slice A l.length c] 24) (.cells #[.string m,.slice A2 xs.length c2] 42)))
 case first =>
  go_region_with (first | (go_at_call 66;refine (groatref16_Numbers.at m A2 c2 xs _ (by have := HX.out;omega) (c_B HR2.out (by repeat (first | exact D.out.below | apply below_drew1))) HC2.out).mono ?_;rintro e w4 ⟨⟨A3,c3,rfl,hroom,hN⟩,hb1⟩;have HNN := aS hN;have HRM := aS hroom;have D_ := aS (D.out.step (by first | exact hb1 | exact b_s (below_drew1 (Below.refl _ _)) hb1));clear a0 a1 a2 b0 b1 D hb1 hroom hN;have D := D_;clear D_;obtain ⟨a0,a1,a2⟩ := cells_3 D.out.h1;obtain ⟨b0,b1⟩ := cells_2 D.out.h2) | (go_at_call 65;refine (groatref06_Put.at' st A3 c3 _ (xs.map S63.f0) _ HST.out HN1.out HN128.out (by have := HX.out;simp;omega) (by simp) HNN.out HRM.out).mono ?_;rintro e w5 ⟨⟨ok,rfl⟩,hb1⟩;rw [HBM.out];have D_ := aS (D.out.step (by first | exact hb1 | exact b_s (below_drew1 (Below.refl _ _)) hb1));clear a0 a1 a2 b0 b1 D hb1 HNN HRM;have D := D_;clear D_;obtain ⟨a0,a1,a2⟩ := cells_3 D.out.h1;obtain ⟨b0,b1⟩ := cells_2 D.out.h2))
  all_goals go_wp2
  all_goals go_meet
  all_goals exact ⟨rfl,D⟩
 case rest =>
  clear D a0 a1 a2 b0 b1
  obtain ⟨rfl,D⟩ := hcut
  obtain ⟨a0,a1,a2⟩ := cells_3 D.out.h1
  obtain ⟨b0,b1⟩ := cells_2 D.out.h2
  have cS : (9223372036854775807 < (typP st m).size + (bmP st (setS xs (0,0))).size) = False := eq_false (by have := HTS.out;omega)
  go_wp2_with (first | (go_at_call 67;refine (groatref17_Type.at _ _ _ HST.out HM4.out).mono ?_;rintro e w2 ⟨rfl,hb1⟩;have D_ := aS (D.out.step hb1);clear D a0 a1 a2 b0 b1 hb1;have D := D_;clear D_;obtain ⟨a0,a1,a2⟩ := cells_3 D.out.h1;obtain ⟨b0,b1⟩ := cells_2 D.out.h2))
  have HS0 : Aside0 ((typP st m ++ bmP st (setS xs (0,0))).size ≤ 3000000) := ⟨by rw [app_size];have := HTS.out;omega⟩
  clear a0 a1 a2 b0 b1 cS
  go_loopg [7,8] xs.length (fun g v7 v8 w' => ∃ (i : Nat) (acc : ByteArray),v7 = .string acc ∧ v8 = .int .i64 i ∧ i + g = xs.length ∧ Aside0 (acc.size ≤ 3000000 + 2002000 * i) ∧ Aside0 (encF st l (xs.drop i) acc = r) ∧ Aside0 (Box2 w w' (.cells #[.int .i64 st,.int .i64 ver,.slice A l.length c] 24) (.cells #[.string m,.slice A2 xs.length c2] 42)))
  case atStart => exact ⟨0,_,rfl,rfl,Nat.zero_add _,HS0,HG,D⟩
  case round =>
  clear D HG HS0
  obtain ⟨i,acc,rfl,rfl,hi,HS,HF,D⟩ := hrel
  obtain ⟨a0,a1,a2⟩ := cells_3 D.out.h1
  obtain ⟨b0,b1⟩ := cells_2 D.out.h2
  by_cases h : i < xs.length
  ·obtain ⟨g,rfl⟩ : ∃ g,gk = g + 1 := ⟨gk - 1,by omega⟩
   have e0 : decide ((i : Int) < xs.length) = true := d_T (by omega)
   have q0 : (0 ≤ (i : Int)) = True := eq_true (by omega)
   have q1 : ((i : Int) < xs.length) = True := eq_true (by omega)
   obtain ⟨ad2,rfl,hx0,hx1⟩ := at63 HR2.out D.out.below i h
   have hmx : rd_T63 xs (i : Int) ∈ xs := by
    have : rd_T63 xs (i : Int) = xs[i] := by simp [rd_T63,List.getD_eq_getElem?_getD,h]
    rw [this];exact List.getElem_mem h
   have hf := HF.out
   rw [drop63 h,encF] at hf
   generalize rd_T63 xs (i : Int) = x at *
   obtain ⟨f1,f2,f3⟩ := HF0.out x hmx
   rcases placeS_cases x.f0 l with ⟨_,f4⟩ | ⟨k,f4,f5,f6⟩
   ·rw [f1] at f4;cases f4
   obtain ⟨ad,rfl,hy0,hy1,hy2,hy3,hy4⟩ := at87 HR.out D.out.below k f5
   rw [f6] at f2 hf
   have q2 : (0 ≤ (k : Int)) = True := eq_true (by omega)
   have q3 : ((k : Int) < l.length) = True := eq_true (by omega)
   have HPL := aS f4
   have HI := aS hi
   generalize rd_T87 l (k : Int) = y at *
   have HXF : Aside0 (specValue y x.f1 = 0 ∧ x.f1.size ≤ 1000000) := ⟨f2,by omega⟩
   have HCZ : Aside0 ((cellP st y x.f1).size ≤ 2002000) := ⟨cellP_size _ _ _ (by omega)⟩
   have HF2 := aS hf
   clear hmx f1 f2 f3 f4 f5 f6 hf HF hi
   go_wp2
   refine wp_region_below (by kernel_rfl) (by kernel_rfl) ?_
   iterate 4 ((with_reducible refine quiet_yes ?hw ?_);(case hw => kernel_rfl);apply Exists.intro;refine ⟨fun w' hw' => ?_,?_⟩;(have hc := below_cells hw';unfold Oper.quietAt;go_simp;first | done | (with_reducible rfl) | (with_reducible exact ⟨rfl,rfl⟩) | (go_at_call 56;exact (groatref13_Find.at st ver (some ad) c l x.f0 _ HLL.out (c_B HR.out (b_s D.out.below hw')) HC.out).mono fun e w2 ⟨he,hb⟩ => ⟨by rw [he,HPL.out],b_s hw' hb⟩) | (go_at_call 68;exact (groatref12_Put.at st y x.f1 _ HST.out HXF.out.1 HXF.out.2).mono fun e w2 ⟨he,hb⟩ => ⟨he,b_s hw' hb⟩) | rfl | exact ⟨rfl,rfl⟩))
   simp only [Act.put,sA,sB,sC]
   iterate 4 ((with_reducible refine quiet_yes ?hw ?_);(case hw => kernel_rfl);apply Exists.intro;refine ⟨fun w' hw' => ?_,?_⟩;(have hc := below_cells hw';unfold Oper.quietAt;go_simp;first | done | (with_reducible rfl) | (with_reducible exact ⟨rfl,rfl⟩) | (go_at_call 56;exact (groatref13_Find.at st ver (some ad) c l x.f0 _ HLL.out (c_B HR.out (b_s D.out.below hw')) HC.out).mono fun e w2 ⟨he,hb⟩ => ⟨by rw [he,HPL.out],b_s hw' hb⟩) | (go_at_call 68;exact (groatref12_Put.at st y x.f1 _ HST.out HXF.out.1 HXF.out.2).mono fun e w2 ⟨he,hb⟩ => ⟨he,b_s hw' hb⟩) | rfl | exact ⟨rfl,rfl⟩))
   simp only [Act.put,sA,sB,sC]
   iterate 4 ((with_reducible refine quiet_yes ?hw ?_);(case hw => kernel_rfl);apply Exists.intro;refine ⟨fun w' hw' => ?_,?_⟩;(have hc := below_cells hw';unfold Oper.quietAt;go_simp;first | done | (with_reducible rfl) | (with_reducible exact ⟨rfl,rfl⟩) | (go_at_call 56;exact (groatref13_Find.at st ver (some ad) c l x.f0 _ HLL.out (c_B HR.out (b_s D.out.below hw')) HC.out).mono fun e w2 ⟨he,hb⟩ => ⟨by rw [he,HPL.out],b_s hw' hb⟩) | (go_at_call 68;exact (groatref12_Put.at st y x.f1 _ HST.out HXF.out.1 HXF.out.2).mono fun e w2 ⟨he,hb⟩ => ⟨he,b_s hw' hb⟩) | rfl | exact ⟨rfl,rfl⟩))
   simp only [Act.put,sA,sB,sC]
   iterate 4 ((with_reducible refine quiet_yes ?hw ?_);(case hw => kernel_rfl);apply Exists.intro;refine ⟨fun w' hw' => ?_,?_⟩;(have hc := below_cells hw';unfold Oper.quietAt;go_simp;first | done | (with_reducible rfl) | (with_reducible exact ⟨rfl,rfl⟩) | (go_at_call 56;exact (groatref13_Find.at st ver (some ad) c l x.f0 _ HLL.out (c_B HR.out (b_s D.out.below hw')) HC.out).mono fun e w2 ⟨he,hb⟩ => ⟨by rw [he,HPL.out],b_s hw' hb⟩) | (go_at_call 68;exact (groatref12_Put.at st y x.f1 _ HST.out HXF.out.1 HXF.out.2).mono fun e w2 ⟨he,hb⟩ => ⟨he,b_s hw' hb⟩) | rfl | exact ⟨rfl,rfl⟩))
   simp only [Act.put,sA,sB,sC]
   iterate 4 ((with_reducible refine quiet_yes ?hw ?_);(case hw => kernel_rfl);apply Exists.intro;refine ⟨fun w' hw' => ?_,?_⟩;(have hc := below_cells hw';unfold Oper.quietAt;go_simp;first | done | (with_reducible rfl) | (with_reducible exact ⟨rfl,rfl⟩) | (go_at_call 56;exact (groatref13_Find.at st ver (some ad) c l x.f0 _ HLL.out (c_B HR.out (b_s D.out.below hw')) HC.out).mono fun e w2 ⟨he,hb⟩ => ⟨by rw [he,HPL.out],b_s hw' hb⟩) | (go_at_call 68;exact (groatref12_Put.at st y x.f1 _ HST.out HXF.out.1 HXF.out.2).mono fun e w2 ⟨he,hb⟩ => ⟨he,b_s hw' hb⟩) | rfl | exact ⟨rfl,rfl⟩))
   simp only [Act.put,sA,sB,sC]
   iterate 4 ((with_reducible refine quiet_yes ?hw ?_);(case hw => kernel_rfl);apply Exists.intro;refine ⟨fun w' hw' => ?_,?_⟩;(have hc := below_cells hw';unfold Oper.quietAt;go_simp;first | done | (with_reducible rfl) | (with_reducible exact ⟨rfl,rfl⟩) | (go_at_call 56;exact (groatref13_Find.at st ver (some ad) c l x.f0 _ HLL.out (c_B HR.out (b_s D.out.below hw')) HC.out).mono fun e w2 ⟨he,hb⟩ => ⟨by rw [he,HPL.out],b_s hw' hb⟩) | (go_at_call 68;exact (groatref12_Put.at st y x.f1 _ HST.out HXF.out.1 HXF.out.2).mono fun e w2 ⟨he,hb⟩ => ⟨he,b_s hw' hb⟩) | rfl | exact ⟨rfl,rfl⟩))
   simp only [Act.put,sA,sB,sC]
   iterate 2 ((with_reducible refine quiet_yes ?hw ?_);(case hw => kernel_rfl);apply Exists.intro;refine ⟨fun w' hw' => ?_,?_⟩;(have hc := below_cells hw';unfold Oper.quietAt;go_simp;first | done | (with_reducible rfl) | (with_reducible exact ⟨rfl,rfl⟩) | (go_at_call 56;exact (groatref13_Find.at st ver (some ad) c l x.f0 _ HLL.out (c_B HR.out (b_s D.out.below hw')) HC.out).mono fun e w2 ⟨he,hb⟩ => ⟨by rw [he,HPL.out],b_s hw' hb⟩) | (go_at_call 68;exact (groatref12_Put.at st y x.f1 _ HST.out HXF.out.1 HXF.out.2).mono fun e w2 ⟨he,hb⟩ => ⟨he,b_s hw' hb⟩) | rfl | exact ⟨rfl,rfl⟩))
   simp only [Act.put,sA,sB,sC]
   refine wpQuiet_nil ?_
   intro wq hw'
   have D_ := aS (D.out.step hw')
   clear hw' D a0 a1 a2 b0 b1 hx0 hx1 hy0 hy1 hy2 hy3 hy4
   have D := D_
   clear D_
   have cS : (9223372036854775807 < acc.size + (cellP st y x.f1).size) = False := eq_false (by have := HS.out;have := HCZ.out;have := HX.out;omega)
   go_wp2
   go_roundg g
   case rel => exact ⟨i + 1,_,rfl,by have := HX.out;congr 1;unfold wrap64;omega,by have := HI.out;omega,⟨by rw [app_size];have := HS.out;have := HCZ.out;omega⟩,HF2,D⟩
   case measure => have := HI.out;omega
  ·have e0 : decide ((i : Int) < xs.length) = false := d_F (by omega)
   have hf := HF.out
   rw [List.drop_of_length_le (by omega),encF] at hf
   subst hf
   go_wp2
   go_ret
   exact ⟨rfl,D.out.below⟩
end Go.Proofs.YtgbmnpgaddhfpaaGreatDoor.T
