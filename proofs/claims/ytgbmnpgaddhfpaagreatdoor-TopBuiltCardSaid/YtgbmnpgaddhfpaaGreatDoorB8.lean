/- Walks and plain laws beneath the law TopBuilt. No conditions but what each statement names. -/
import Derived.Test.YtgbmnpgaddhfpaaGreatDoorB6
set_option linter.unusedVariables false
set_option linter.unusedSimpArgs false
namespace Go.Proofs.YtgbmnpgaddhfpaaGreatDoor.T
open Go.RowKit Go.Proofs.YtgbmnpgaddhfpaaGreatDoorW.PrintWords Go.Proofs.YtgbmnpgaddhfpaaGreatDoorW.PrintLast Go.Proofs.YtgbmnpgaddhfpaaGreatDoorW.PrintMore
attribute [local go_sem] max2_int min2_int max_two min_two
open Go.Proofs.YtgbmnpgaddhfpaaGreatDoor.G
open Tryz
set_option maxRecDepth 100000
def idxS (no : Int) : List S63 → Int → Int
 | [],_ => -1
 | x :: xs,i => if no < x.f0 then i else idxS no xs (i + 1)
theorem msg_With1.at (x : S63) (B : Nat) (no : Int) (w : World) (h : w.cell? ⟨B,0,none⟩ = some (.int .i64 no)) :
  Calls prog 98 #[.agg #[.int .i64 x.f0,.string x.f1],.pointer (some ⟨B,0,none⟩)] w fun e w' => e = .returned (.bool (decide (no < x.f0))) ∧ Below w.heap.size w w' := by
 have hu63 := underlying63
 have h2 : ∀ o,(w.alloc o).cell? ⟨B,0,none⟩ = some (.int .i64 no) := fun o => (below_cells (b_l (Below.refl _ _) o) _ (by rw [h];rfl)).trans h
 go_enter func98,ntmps98
 go_wp2
 all_goals go_ret
 all_goals exact ⟨rfl,b_l (Below.refl _ _) _⟩
set_option maxHeartbeats 1000000 in
theorem IndexFunc63.at (A : Option Addr) (c : Nat) (xs : List S63) (no : Int) (B : Nat) (w : World) (hl : xs.length ≤ 4611686018427387904) (hr : Kd.C k63 w A xs.length xs) (h : w.cell? ⟨B,0,none⟩ = some (.int .i64 no)) :
  Calls prog 97 #[.slice A xs.length c,.func (.func 98) #[] #[.pointer (some ⟨B,0,none⟩)]] w fun e w' => e = .returned (.int .i64 (idxS no xs 0)) ∧ Below w.heap.size w w' := by
 have hu63 := underlying63
 have HR := aS hr
 have HB := aS h
 clear hr h
 go_enter func97,ntmps97
 go_wp2
 go_loopg [8] xs.length (fun g v8 w' => ∃ i : Nat,v8 = .int .i64 i ∧ i + g = xs.length ∧ Aside0 (idxS no (xs.drop i) i = idxS no xs 0) ∧ Aside0 (Below w.heap.size w w'))
 case atStart => exact ⟨0,rfl,Nat.zero_add _,⟨rfl⟩,⟨Below.refl _ _⟩⟩
 case round =>
  obtain ⟨i,rfl,hi,HF,H⟩ := hrel
  by_cases h : i < xs.length
  ·have e0 : decide ((i : Int) < xs.length) = true := d_T (by omega)
   obtain ⟨ad,rfl,hx0,hx1⟩ := at63 HR.out H.out i h
   have q0 : (0 ≤ (i : Int)) = True := eq_true (by omega)
   have q1 : ((i : Int) < xs.length) = True := eq_true (by omega)
   have hf := HF.out
   rw [drop63 h,idxS] at hf
   clear HF
   generalize rd_T63 xs (i : Int) = x at *
   have hcl : Aside0 (wr.cell? ⟨B,0,none⟩ = some (.int .i64 no)) := ⟨(below_cells H.out _ (by rw [HB.out];rfl)).trans HB.out⟩
   by_cases e : no < x.f0
   ·rw [if_pos e] at hf
    have HF := aS hf
    have e1 : decide (no < x.f0) = true := d_T e
    clear hf e
    go_wp2_with (first | (go_at_call 98;refine (msg_With1.at x B no _ hcl.out).mono ?_;rintro e w1 ⟨rfl,hb1⟩;rw [e1];have H_ := aS (b_s H.out hb1);clear H hb1;have H := H_;clear H_))
    go_ret
    exact ⟨by rw [← HF.out];rfl,H.out⟩
   ·rw [if_neg e] at hf
    have HF := aS hf
    have e1 : decide (no < x.f0) = false := d_F e
    clear hf e
    go_wp2_with (first | (go_at_call 98;refine (msg_With1.at x B no _ hcl.out).mono ?_;rintro e w1 ⟨rfl,hb1⟩;rw [e1];have H_ := aS (b_s H.out hb1);clear H hb1;have H := H_;clear H_))
    obtain ⟨g,rfl⟩ : ∃ g,gk = g + 1 := ⟨gk - 1,by omega⟩
    go_roundg g
    case rel => exact ⟨i + 1,rfl,by omega,HF,H⟩
    case measure => omega
  ·have e0 : decide ((i : Int) < xs.length) = false := d_F (by omega)
   have hf := HF.out
   rw [List.drop_of_length_le (by omega),idxS] at hf
   have HF := aS hf
   clear hf
   go_wp2
   go_ret
   exact ⟨by rw [← HF.out];rfl,H.out⟩
def rng (n : Nat) (f : Nat → Int) : ByteArray := strOfNums ((List.range n).map f)
theorem rng_size (n : Nat) (f : Nat → Int) : (rng n f).size = n := by
 have h : (rng n f).size = (rng n f).data.toList.length := (data_length _).symm
 rw [h,rng,strOfNums_data];simp
theorem bt_rng {n : Nat} {f : Nat → Int} (h : ∀ k,k < n → 0 ≤ f k ∧ f k < 256) {i : Nat} (hi : i < n) : bt (rng n f) (i : Nat) = f i := by
 rw [rng,bt_of _ _ (by intro x hx;obtain ⟨k,hk,rfl⟩ := List.mem_map.1 hx;exact h k (List.mem_range.1 hk))]
 simp [List.getD_eq_getElem?_getD,hi]
theorem bt_ext {s t : ByteArray} (h : s.size = t.size) (h2 : ∀ i : Nat,i < s.size → bt s i = bt t i) : s = t := by
 apply str_ext
 have a := data_length s
 have b := data_length t
 apply List.ext_getElem? fun i => ?_
 by_cases c : i < s.size
 ·rw [byte_of_bt c,byte_of_bt (by omega),h2 i c]
 ·rw [List.getElem?_eq_none (by omega),List.getElem?_eq_none (by omega)]
theorem rng_eq {n : Nat} {f : Nat → Int} {s : ByteArray} (h : s.size = n) (h2 : ∀ k,k < n → f k = bt s (k : Nat)) : rng n f = s := by
 refine bt_ext (by rw [rng_size,h]) fun i hi => ?_
 rw [rng_size] at hi
 rw [bt_rng (fun k hk => by rw [h2 k hk];have := bt_range s k;omega) hi,h2 i hi]
theorem bt_app_l {s t : ByteArray} {i : Nat} (h : i < s.size) : bt (s ++ t) i = bt s i := by
 have a := data_length s
 rw [bt_data,bt_data,app_data,List.getElem?_append_left (by omega)]
theorem bt_app_r {s t : ByteArray} {i j : Nat} (h : j = s.size + i) : bt (s ++ t) j = bt t i := by
 have a := data_length s
 subst h
 rw [bt_data,bt_data,app_data,List.getElem?_append_right (by omega),show s.size + i - s.data.toList.length = i by omega]
theorem bt_ex {s : ByteArray} {a b i : Nat} (h : a + i < b) : bt (s.extract a b) i = bt s (a + i : Nat) := by
 rw [bt_data,bt_data,ext_data,List.getElem?_take,if_pos (by omega),List.getElem?_drop]
theorem ex_size {s : ByteArray} {a b : Nat} (h : b ≤ s.size) : (s.extract a b).size = b - a := by rw [ByteArray.size_extract];omega
theorem ex_mid {p s q : ByteArray} {i j : Nat} (hi : i = p.size) (hj : j = p.size + s.size) : (p ++ s ++ q).extract i j = s := by
 have hz : (p ++ s ++ q).size = p.size + s.size + q.size := by rw [app_size,app_size]
 refine bt_ext (by rw [ex_size (by omega)];omega) fun k hk => ?_
 rw [ex_size (by omega)] at hk
 rw [bt_ex (by omega),bt_app_l (by rw [app_size];omega),bt_app_r (i := k) (by omega)]
def hx (d : Int) : Int := if d < 10 then 48 + d else 55 + d
def unhx (c : Int) : Int := if 48 ≤ c ∧ c ≤ 57 then c - 48 else if 65 ≤ c ∧ c ≤ 70 then c - 55 else -1
theorem unhx_hx {d : Int} (h0 : 0 ≤ d) (h1 : d < 16) : unhx (hx d) = d := by
 unfold hx unhx
 (repeat' split) <;> omega
theorem hx_lt {d : Int} (h0 : 0 ≤ d) (h1 : d < 16) : 0 ≤ hx d ∧ hx d < 256 := by unfold hx;split <;> omega
theorem unhx_lt (c : Int) : -1 ≤ unhx c ∧ unhx c < 16 := by unfold unhx;(repeat' split) <;> omega
def nib (b : ByteArray) (k : Nat) : Int := if k % 2 = 0 then bt b (k / 2 : Nat) / 16 else bt b (k / 2 : Nat) % 16
theorem nib_lt (b : ByteArray) (k : Nat) : 0 ≤ nib b k ∧ nib b k < 16 := by
 have := bt_range b (k / 2 : Nat)
 unfold nib
 split <;> omega
def hexP (s : ByteArray) : ByteArray := rng (2 * s.size) fun k => hx (nib s k)
def hexG (s : ByteArray) : ByteArray × Bool :=
 if (∀ j,j < s.size → 0 ≤ unhx (bt s (j : Nat))) ∧ s.size % 2 = 0 then (rng (s.size / 2) fun j => 16 * unhx (bt s (2 * j : Nat)) + unhx (bt s (2 * j + 1 : Nat)),true) else (⟨#[]⟩,false)
theorem hexP_sz (s : ByteArray) : (hexP s).size = 2 * s.size := rng_size _ _
theorem bt_hexP {s : ByteArray} {k : Nat} (h : k < 2 * s.size) : bt (hexP s) k = hx (nib s k) := bt_rng (fun k _ => hx_lt (nib_lt s k).1 (nib_lt s k).2) h
theorem hexG_P (s : ByteArray) : hexG (hexP s) = (s,true) := by
 have hz := hexP_sz s
 have hb := @bt_hexP s
 unfold hexG
 rw [if_pos ⟨fun j hj => by rw [hb (by omega),unhx_hx (nib_lt _ _).1 (nib_lt _ _).2];exact (nib_lt _ _).1,by omega⟩]
 rw [rng_eq (s := s) (by omega) fun k hk => ?_]
 rw [hb (by omega),hb (by omega),unhx_hx (nib_lt _ _).1 (nib_lt _ _).2,unhx_hx (nib_lt _ _).1 (nib_lt _ _).2]
 unfold nib
 rw [if_pos (by omega),if_neg (by omega),show 2 * k / 2 = k by omega,show (2 * k + 1) / 2 = k by omega]
 omega
theorem hexG_sz {s : ByteArray} (h : (hexG s).2 = true) : 2 * (hexG s).1.size = s.size := by
 unfold hexG at h ⊢
 split at h
 ·rename_i c
  rw [if_pos c]
  show 2 * (rng _ _).size = _
  rw [rng_size]
  omega
 ·cases h
def dg (s : ByteArray) (k : Nat) : Int := if k < s.size % 2 then 0 else bt s (k - s.size % 2 : Nat) - 48
def bcdP (s : ByteArray) : ByteArray × Bool := if s.size > 999 ∨ allD s = false then (⟨#[]⟩,false) else (rng ((s.size + 1) / 2) fun j => 16 * dg s (2 * j) + dg s (2 * j + 1),true)
def bcdC (b : ByteArray) (n : Int) : ByteArray × Int :=
 if (b.size : Int) < bcdSize n then (⟨#[]⟩,2) else if n % 2 ≠ 0 ∧ bt b 0 / 16 ≠ 0 then (⟨#[]⟩,4) else
 if ∀ k,k < 2 * (bcdSize n).toNat → nib b k ≤ 9 then (rng n.toNat fun k => 48 + nib b (k + (n % 2).toNat),0) else (⟨#[]⟩,3)
theorem allD_bt {s : ByteArray} (h : allD s = true) (i : Nat) (hi : i < s.size) : 48 ≤ bt s i ∧ bt s i ≤ 57 := by
 have := allD_at h hi
 rw [bt_get hi]
 omega
theorem dg_lt {s : ByteArray} (h : allD s = true) (k : Nat) (hk : k < s.size + s.size % 2) : 0 ≤ dg s k ∧ dg s k ≤ 9 := by
 unfold dg
 split
 ·omega
 ·have := allD_bt h (k - s.size % 2) (by omega)
  omega
theorem bcdP_sz {s : ByteArray} (h : (bcdP s).2 = true) : (bcdP s).1.size = (s.size + 1) / 2 := by
 unfold bcdP at h ⊢
 split at h
 ·cases h
 ·rename_i c
  rw [if_neg c]
  exact rng_size _ _
theorem bcdP_true {s : ByteArray} (h1 : s.size ≤ 999) (h2 : allD s = true) : bcdP s = (rng ((s.size + 1) / 2) fun j => 16 * dg s (2 * j) + dg s (2 * j + 1),true) := by
 unfold bcdP
 rw [if_neg (by rw [h2];simp;omega)]
theorem nib_bcdP {s : ByteArray} (h1 : s.size ≤ 999) (h2 : allD s = true) {k : Nat} (hk : k < s.size + s.size % 2) : nib (bcdP s).1 k = dg s k := by
 have hb : bt (bcdP s).1 (k / 2 : Nat) = 16 * dg s (2 * (k / 2)) + dg s (2 * (k / 2) + 1) := by
  rw [bcdP_true h1 h2]
  exact bt_rng (fun j hj => by have a := dg_lt h2 (2 * j) (by omega);have b := dg_lt h2 (2 * j + 1) (by omega);omega) (by omega)
 have a := dg_lt h2 (2 * (k / 2)) (by omega)
 have b := dg_lt h2 (2 * (k / 2) + 1) (by omega)
 unfold nib
 split
 ·rw [hb,show (2 * (k / 2)) = k by omega] at *
  omega
 ·rw [hb,show (2 * (k / 2) + 1) = k by omega] at *
  omega
theorem bcdSize_nat (n : Nat) : bcdSize (n : Int) = ((n + 1) / 2 : Nat) := by unfold bcdSize;split <;> omega
theorem bcdC_P {s : ByteArray} (h1 : s.size ≤ 999) (h2 : allD s = true) : bcdC (bcdP s).1 s.size = (s,0) := by
 have hz : (bcdP s).1.size = (s.size + 1) / 2 := bcdP_sz (by rw [bcdP_true h1 h2])
 have hn := fun k => @nib_bcdP s h1 h2 k
 unfold bcdC
 have c2 : ¬ ((s.size : Int) % 2 ≠ 0 ∧ bt (bcdP s).1 0 / 16 ≠ 0) := by
  intro ⟨a,b⟩
  apply b
  have := hn 0 (by omega)
  unfold nib dg at this
  rw [if_pos (by omega),if_pos (by omega)] at this
  exact this
 have c3 : ∀ k,k < 2 * (((s.size + 1) / 2 : Nat) : Int).toNat → nib (bcdP s).1 k ≤ 9 := by
  intro k hk
  rw [hn _ (by omega)]
  exact (dg_lt h2 k (by omega)).2
 rw [bcdSize_nat,if_neg (by omega),if_neg c2,if_pos c3,rng_eq (s := s) (by omega)]
 intro k hk
 rw [hn _ (by omega),dg,if_neg (by omega),show k + ((s.size : Int) % 2).toNat - s.size % 2 = k by omega]
 omega
theorem nib_two (b : ByteArray) (i : Nat) : nib b (2 * i) = bt b i / 16 ∧ nib b (2 * i + 1) = bt b i % 16 := by
 unfold nib
 rw [if_pos (by omega),if_neg (by omega),show 2 * i / 2 = i by omega,show (2 * i + 1) / 2 = i by omega]
 exact ⟨rfl,rfl⟩
theorem bcdLoop_C (b : ByteArray) (n : Int) : ∀ (d i : Nat),bcdLoop b n d i ((List.range (2 * i)).map fun k => 48 + nib b k) =
  if i = 0 ∧ 0 < d ∧ n % 2 ≠ 0 ∧ bt b 0 / 16 ≠ 0 then ([],4) else if ∀ k,k < 2 * (i + d) → 2 * i ≤ k → nib b k ≤ 9 then ((List.range (2 * (i + d))).map fun k => 48 + nib b k,0) else ([],3)
 | 0,i => by rw [bcdLoop,if_neg (by omega),if_pos (fun k h1 h2 => by omega)];rfl
 | d + 1,i => by
  have h2 := nib_two b i
  rw [bcdLoop]
  by_cases c : i = 0 ∧ n % 2 ≠ 0 ∧ bt b i / 16 ≠ 0
  ·rw [if_pos c,if_pos (by obtain ⟨rfl,c⟩ := c;exact ⟨rfl,by omega,c⟩)]
  ·have c5 : ¬ (i = 0 ∧ 0 < d + 1 ∧ n % 2 ≠ 0 ∧ bt b 0 / 16 ≠ 0) := fun ⟨h3,_,h4⟩ => c ⟨h3,by subst h3;exact h4⟩
   rw [if_neg c,if_neg c5]
   by_cases e : bt b i / 16 > 9 ∨ bt b i % 16 > 9
   ·rw [if_pos e,if_neg]
    intro f
    rcases e with e | e
    ·have := f (2 * i) (by omega) (by omega);omega
    ·have := f (2 * i + 1) (by omega) (by omega);omega
   ·rw [if_neg e]
    have h := bcdLoop_C b n d (i + 1)
    rw [show 2 * (i + 1) = 2 * i + 1 + 1 by omega,List.range_succ,List.range_succ,List.map_append,List.map_append,List.append_assoc,if_neg (by omega)] at h
    rw [show ([48 + bt b i / 16,48 + bt b i % 16] : List Int) = ([2 * i].map fun k => 48 + nib b k) ++ ([2 * i + 1].map fun k => 48 + nib b k) by simp [h2.1,h2.2],h,show i + 1 + d = i + (d + 1) by omega]
    by_cases f : ∀ k,k < 2 * (i + (d + 1)) → 2 * i ≤ k → nib b k ≤ 9
    ·rw [if_pos f,if_pos (fun k hk h5 => f k hk (by omega))]
    ·rw [if_neg f,if_neg]
     intro g
     apply f
     intro k h4 h3
     rcases (show k = 2 * i ∨ k = 2 * i + 1 ∨ 2 * (i + 1) ≤ k by omega) with rfl | rfl | h5
     ·omega
     ·omega
     ·exact g k h4 h5
theorem bcdG_C {b : ByteArray} {n : Int} (hn : 0 ≤ n) : bcdG b n = bcdC b n := by
 obtain ⟨m,rfl⟩ := Int.eq_ofNat_of_zero_le hn
 have h := bcdLoop_C b m ((m + 1) / 2) 0
 unfold bcdG bcdC
 rw [bcdSize_nat,Int.toNat_natCast]
 by_cases c : (b.size : Int) < ((m + 1) / 2 : Nat)
 ·rw [if_pos c,if_pos c]
 ·rw [if_neg c,if_neg c,show ([] : List Int) = ((List.range (2 * 0)).map fun k => 48 + nib b k) from rfl,h]
  by_cases e : (m : Int) % 2 ≠ 0 ∧ bt b 0 / 16 ≠ 0
  ·have e5 : 0 = 0 ∧ 0 < (m + 1) / 2 ∧ (m : Int) % 2 ≠ 0 ∧ bt b 0 / 16 ≠ 0 := ⟨rfl,by omega,e⟩
   rw [if_pos e,if_pos e5]
   rfl
  ·have e5 : ¬ (0 = 0 ∧ 0 < (m + 1) / 2 ∧ (m : Int) % 2 ≠ 0 ∧ bt b 0 / 16 ≠ 0) := fun f => e f.2.2
   rw [if_neg e,if_neg e5]
   by_cases f : ∀ k,k < 2 * ((m + 1) / 2) → nib b k ≤ 9
   ·have f5 : ∀ k,k < 2 * (0 + (m + 1) / 2) → 2 * 0 ≤ k → nib b k ≤ 9 := fun k hk _ => f k (by omega)
    rw [if_pos f,if_pos f5,if_pos rfl]
    show (strOfNums _,(0 : Int)) = (strOfNums _,0)
    congr 2
    apply List.ext_getElem
    ·simp;omega
    ·intro i h1 h2
     simp
     congr 1
     omega
   ·have f5 : ¬ ∀ k,k < 2 * (0 + (m + 1) / 2) → 2 * 0 ≤ k → nib b k ≤ 9 := fun g => f fun k hk => g k (by omega) (by omega)
    rw [if_neg f,if_neg f5]
    rfl
def digP (n wd : Int) : ByteArray × Bool := if n < 0 ∨ wd < 1 ∨ wd > 18 ∨ n ≥ 10 ^ wd.toNat then (⟨#[]⟩,false) else (rng wd.toNat fun j => 48 + n / 10 ^ (wd.toNat - 1 - j) % 10,true)
theorem num_rng (n : Nat) : ∀ (w : Nat),n < 10 ^ w → (((List.range w).map fun j => (48 + n / 10 ^ (w - 1 - j) % 10 : Int)).map fun (x : Int) => UInt8.ofNat x.toNat).foldl (fun (n : Int) c => 10 * n + ((c.toNat : Int) - 48)) 0 = n
 | 0,h => by simp at h;simp [h]
 | w + 1,h => by
  have ih := num_rng (n / 10) w (by rw [Nat.pow_succ] at h;omega)
  rw [List.range_succ,List.map_append,List.map_append,List.foldl_append]
  have e : ((List.range w).map fun j => (48 + (n : Int) / 10 ^ (w + 1 - 1 - j) % 10 : Int)) = ((List.range w).map fun j => (48 + ((n / 10 : Nat) : Int) / 10 ^ (w - 1 - j) % 10 : Int)) := by
   apply List.map_congr_left
   intro j hj
   have hj := List.mem_range.1 hj
   rw [show w + 1 - 1 - j = (w - 1 - j) + 1 by omega,Int.pow_succ,Int.mul_comm,← Int.ediv_ediv_of_nonneg (by omega)]
   rfl
  rw [e,ih]
  simp
  omega
theorem digG_P {n wd : Int} (h0 : 0 ≤ n) (h1 : 1 ≤ wd) (h2 : wd ≤ 18) (h3 : n < 10 ^ wd.toNat) : (digP n wd).2 = true ∧ (digP n wd).1.size = wd.toNat ∧ digG (digP n wd).1 = (n,true) ∧ allD (digP n wd).1 = true := by
 have e : digP n wd = (rng wd.toNat fun j => 48 + n / 10 ^ (wd.toNat - 1 - j) % 10,true) := by unfold digP;rw [if_neg (by omega)]
 rw [e]
 have hz : (rng wd.toNat fun j => 48 + n / 10 ^ (wd.toNat - 1 - j) % 10).size = wd.toNat := rng_size _ _
 have ha : allD (rng wd.toNat fun j => 48 + n / 10 ^ (wd.toNat - 1 - j) % 10) = true := by
  rw [allD,List.all_eq_true]
  intro x hx
  rw [rng,strOfNums_data] at hx
  obtain ⟨y,hy,rfl⟩ := List.mem_map.1 hx
  obtain ⟨j,hj,rfl⟩ := List.mem_map.1 hy
  rw [UInt8.toNat_ofNat']
  refine d_T ?_
  omega
 refine ⟨rfl,hz,?_,ha⟩
 unfold digG
 rw [if_neg (by rw [hz,ha];simp;omega)]
 obtain ⟨m,rfl⟩ := Int.eq_ofNat_of_zero_le h0
 have := num_rng m wd.toNat (by exact_mod_cast h3)
 rw [numD,rng,strOfNums_data,this]
theorem nums_size (xs : List Int) : (strOfNums xs).size = xs.length := by
 have hl := data_length (strOfNums xs)
 rw [strOfNums_data,List.length_map] at hl
 exact hl.symm
theorem hexG_size (s : ByteArray) (hs : s.size ≤ 1000000) : (hexG s).1.size ≤ 1000000 := by
 cases h : (hexG s).2 with
 | true => have := hexG_sz h;omega
 | false =>
  unfold hexG at h ⊢
  split
  ·rename_i c;rw [if_pos c] at h;cases h
  ·exact Nat.zero_le _
theorem hexP_size (s : ByteArray) (hs : s.size ≤ 1000000) : (hexP s).size ≤ 2000000 := by rw [hexP_sz];omega
theorem bcdP_size (s : ByteArray) : (bcdP s).1.size ≤ 1000 := by
 unfold bcdP
 split
 ·exact Nat.zero_le _
 ·show (rng _ _).size ≤ _;rw [rng_size];omega
theorem digP_size (n wd : Int) : (digP n wd).1.size ≤ 18 := by
 unfold digP
 split
 ·exact Nat.zero_le _
 ·show (rng _ _).size ≤ _;rw [rng_size];omega
section
section
variable {P : Program} {ops : Array Oper} {Q : Exit → Act → World → Prop}
theorem region_grow {id : Nat} {a0 : Act} {w : World} (hm : P.follows .mixedOrders = true) (k : Nat) (dst : Nat → Tmp) (post : Nat → Value → World → Prop) (R : Nat → Nat → Value → Value → Prop) (hk : k < ops.size)
  (hsym : ∀ i j u v,R i j u v → R j i v u) (hst : ∀ i u w w',post i u w → Below w.heap.size w w' → post i u w')
  (hlow : ∀ i o,i < k → ops[i]? = some o → o.guard = none ∧ o.dst = some (dst i) ∧ ∀ e ∈ o.after,Region.binds .any e = true → e.on < i)
  (hgrow : ∀ i o,i < k → ops[i]? = some o → ∀ (a : Act) (w1 : World),Below w.heap.size w w1 → Fr k dst a0 a → (∀ e ∈ o.after,Region.binds .any e = true → post e.on (a.eval (.tmp (dst e.on))) w1) → ∀ K' : Act → World → Prop,(∀ u w',Below w1.heap.size w1 w' → post i u w' → (∀ j v,j < k → j ≠ i → post j v w1 → R i j u v) → K' (a.put (some (dst i)) u) w') → o.wp P a w1 K' Q)
  (hinj : ∀ i j,i < k → j < k → dst i = dst j → i = j) (hsz : ∀ i,i < k → dst i < a0.tmps.size)
  (hlate : ∀ listed : Array Bool,(∀ i o,i < k → ops[i]? = some o → listed.getD i false = true → ∀ e ∈ o.after,Region.binds .any e = true → listed.getD e.on false = true) → ∀ i,k ≤ i → i ∈ Region.ready .any ops listed → (∀ j,k ≤ j → listed.getD j false = false) → ∀ j,j < k → listed.getD j false = true)
  (htail : ∀ a w' fuel,ops.size - k ≤ fuel → Below w.heap.size w w' → putL a0 ((List.range k).map fun i => (dst i,a.eval (.tmp (dst i)))) = a → (∀ i,i < k → post i (a.eval (.tmp (dst i))) w') → (∀ i j,i < k → j < k → j ≠ i → R i j (a.eval (.tmp (dst i))) (a.eval (.tmp (dst j)))) → wpAny P .any ops Q fuel (Array.replicate k true ++ Array.replicate (ops.size - k) false) a w') :
  (Code.region id ops true).wp P Q a0 w := by
 refine wp_region_any hm ?_
 refine wpAny_grow k dst post R a0 w hk hsym hst hlow hgrow hinj hsz hlate ?_ ops.size _ a0 _ (by simp) (fun j _ => ?_) (fun i o _ _ h => ?_) (by simp) ⟨rfl,rfl,fun _ _ => rfl⟩ ⟨rfl,rfl,rfl,Nat.le_refl _,fun _ _ => rfl⟩ (fun i _ h => ?_) (fun i j _ _ _ h => ?_)
 ·intro listed a w' fuel hs hl hall hn hf hb hp hr
  have e : listed = Array.replicate k true ++ Array.replicate (ops.size - k) false := by
   refine Array.ext (by simp [hs];omega) (fun i h1 h2 => ?_)
   by_cases c : i < k
   ·have := hall i c
    rw [Array.getElem_append_left (by simpa using c)]
    simpa [h1] using this
   ·have := hl i (by omega)
    rw [Array.getElem_append_right (by simp;omega)]
    simpa [h1] using this
  subst e
  refine htail a w' fuel ?_ hb (Fr.eq hf) hp hr
  refine Nat.le_trans ?_ hn
  simp
 ·simp only [Array.getD_eq_getD_getElem?,Array.getElem?_replicate];split <;> rfl
 all_goals
  exfalso
  have h' := h
  simp only [Array.getD_eq_getD_getElem?,Array.getElem?_replicate] at h'
  split at h' <;> exact absurd h' (by decide)
end
section
variable {P : Program} {ops : Array Oper} {Q : Exit → Act → World → Prop}
theorem region_vals {id : Nat} {a0 : Act} {w : World} (hm : P.follows .mixedOrders = true) (k : Nat) (dst : Nat → Tmp) (vals : Nat → Value) (hk : k < ops.size)
  (hlow : ∀ i o,i < k → ops[i]? = some o → o.guard = none ∧ o.dst = some (dst i) ∧ ∀ e ∈ o.after,Region.binds .any e = true → e.on < i)
  (hgrow : ∀ i o,i < k → ops[i]? = some o → ∀ (a : Act) (w1 : World),Below w.heap.size w w1 → Fr k dst a0 a → (∀ e ∈ o.after,Region.binds .any e = true → a.eval (.tmp (dst e.on)) = vals e.on) → ∀ K' : Act → World → Prop,(∀ w',Below w1.heap.size w1 w' → K' (a.put (some (dst i)) (vals i)) w') → o.wp P a w1 K' Q)
  (hinj : ∀ i j,i < k → j < k → dst i = dst j → i = j) (hsz : ∀ i,i < k → dst i < a0.tmps.size)
  (hlate : ∀ listed : Array Bool,(∀ i o,i < k → ops[i]? = some o → listed.getD i false = true → ∀ e ∈ o.after,Region.binds .any e = true → listed.getD e.on false = true) → ∀ i,k ≤ i → i ∈ Region.ready .any ops listed → (∀ j,k ≤ j → listed.getD j false = false) → ∀ j,j < k → listed.getD j false = true)
  (htail : ∀ w' fuel,ops.size - k ≤ fuel → Below w.heap.size w w' → wpAny P .any ops Q fuel (Array.replicate k true ++ Array.replicate (ops.size - k) false) (putL a0 ((List.range k).map fun i => (dst i,vals i))) w') :
  (Code.region id ops true).wp P Q a0 w := by
 refine region_grow hm k dst (fun i v _ => v = vals i) (fun _ _ _ _ => True) hk (fun _ _ _ _ _ => trivial) (fun _ _ _ _ h _ => h) hlow ?_ hinj hsz hlate ?_
 ·intro i o hi ho a w1 hb hf hp K' hK
  exact hgrow i o hi ho a w1 hb hf hp K' (fun w' hb' => hK _ w' hb' rfl (fun _ _ _ _ _ => trivial))
 ·intro a w' fuel hfl hb he hp _
  rw [← he]
  have e : ((List.range k).map fun i => (dst i,a.eval (.tmp (dst i)))) = ((List.range k).map fun i => (dst i,vals i)) :=
   List.map_congr_left (fun i hi => by rw [hp i (List.mem_range.1 hi)])
  rw [e]
  exact htail w' fuel hfl hb
end
theorem mem_ready' {md : Region.Mode} {ops : Array Oper} {listed : Array Bool} {i : Nat} (h : i ∈ Region.ready md ops listed) {o : Oper} (ho : ops[i]? = some o) : ∀ e ∈ o.after,Region.binds md e = true → listed.getD e.on false = true := by
 obtain ⟨_,o',ho',h'⟩ := mem_ready.1 h
 rw [ho] at ho';cases ho';exact h'
theorem two_boxes {W : World} {B0 B1 B2 : Nat} {t : TypeId} {a b c d : Value} (h1 : W.heap[B1]? = some (.cells #[a,b] t (0,0))) (h2 : W.heap[B2]? = some (.cells #[c,d] t (0,0))) (hne : B1 ≠ B2) (g1 : B0 ≤ B1) (g2 : B0 ≤ B2) (u0 u1 v0 v1 : Value) :
  ((((W.setCell ⟨B1,0,none⟩ u0).setCell ⟨B1,1,none⟩ u1).setCell ⟨B2,0,none⟩ v0).setCell ⟨B2,1,none⟩ v1).heap[B1]? = some (.cells #[u0,u1] t (0,0)) ∧ ((((W.setCell ⟨B1,0,none⟩ u0).setCell ⟨B1,1,none⟩ u1).setCell ⟨B2,0,none⟩ v0).setCell ⟨B2,1,none⟩ v1).heap[B2]? = some (.cells #[v0,v1] t (0,0)) ∧
  Below B0 W ((((W.setCell ⟨B1,0,none⟩ u0).setCell ⟨B1,1,none⟩ u1).setCell ⟨B2,0,none⟩ v0).setCell ⟨B2,1,none⟩ v1) :=
 ⟨T.far _ _ (T.far _ _ (blk_put (blk_put h1 0 _ rfl) 1 _ rfl) hne) hne,blk_put (blk_put (T.far _ _ (T.far _ _ h2 hne.symm) hne.symm) 0 _ rfl) 1 _ rfl,
 ((((Below.refl _ _).setCell (p := ⟨B1,0,none⟩) g1 _).setCell (p := ⟨B1,1,none⟩) g1 _).setCell (p := ⟨B2,0,none⟩) g2 _).setCell (p := ⟨B2,1,none⟩) g2 _⟩
end
set_option maxHeartbeats 2000000 in
theorem spec_Wider.at (x y : S87) (w : World) (h : widerS x y = true) : Calls prog 143 #[v87 x,v87 y] w fun e w' => e = .returned (.bool true) ∧ Below w.heap.size w w' := by
 have hu87 := underlying87
 unfold widerS at h
 simp only [Bool.and_eq_true,decide_eq_true_eq] at h
 obtain ⟨h1,h2,h3,h4,h5⟩ := h
 have e3 : decide (x.f3 ≤ y.f3) = true := d_T h3
 have e4 : decide (y.f4 ≤ x.f4) = true := d_T h4
 have H1 := aS h1
 have H2 := aS h2
 clear h1 h2 h3 h4
 unfold v87
 go_enter func143,ntmps143
 go_wp2_with (first | (go_at_call 77;have D0 := D;clear D0;refine (spec_Check.at y _).mono ?_;rintro e w2 ⟨rfl,hb1⟩;rw [H2.out];have D_ := aS (D.out.step hb1);clear D a0 a1 a2 a3 a4 b0 b1 b2 b3 b4 hb1;have D := D_;clear D_;obtain ⟨a0,a1,a2,a3,a4⟩ := cells_5 D.out.h1;obtain ⟨b0,b1,b2,b3,b4⟩ := cells_5 D.out.h2) | (go_at_call 77;refine (spec_Check.at x _).mono ?_;rintro e w1 ⟨rfl,hb1⟩;rw [H1.out];have D := aS (Box2.init hb1);clear hb1;obtain ⟨a0,a1,a2,a3,a4⟩ := cells_5 D.out.h1;obtain ⟨b0,b1,b2,b3,b4⟩ := cells_5 D.out.h2) | (go_at_call 170;refine (spec_classes.at _ _ _).mono ?_;rintro e w3 ⟨rfl,rfl⟩))
 go_ret
 exact ⟨rfl,D.out.below⟩
def paddedS (x : S87) : Bool := decide (x.f1 = 1) && decide (x.f2 = 1)
set_option maxHeartbeats 2000000 in
theorem rule_padded.at (x : S87) (w : World) (h : paddedS x = true) : Calls prog 144 #[v87 x] w fun e w' => e = .returned (.bool true) ∧ Below w.heap.size w w' := by
 have hu87 := underlying87
 unfold paddedS at h
 simp only [Bool.and_eq_true,decide_eq_true_eq] at h
 obtain ⟨h1,h2⟩ := h
 have e1 : (x.f1 == 1) = true := beq_iff_eq.mpr h1
 have e2 : (x.f2 == 1) = true := beq_iff_eq.mpr h2
 clear h1 h2
 unfold v87
 go_enter func144,ntmps144
 go_wp2
 go_ret
 exact ⟨rfl,b_l (Below.refl _ _) _⟩
def firstN (x : Int) : Int := if isFirst x = false then 0 else if x % 32 = 31 then 2 else 1
theorem groatref08_First.at (x : Int) (w : World) (h0 : 0 ≤ x) (h1 : x ≤ 255) : Calls prog 183 #[.int .u8 x] w fun e w' => e = .returned (.int .i64 (firstN x)) ∧ w' = w := by
 go_enter func183,ntmps183
 go_wp2
 all_goals go_ret
 all_goals refine ⟨ret_int ?_,rfl⟩
 all_goals try simp only [beq_eq_false_iff_ne,beq_iff_eq,ne_eq] at *
 all_goals (unfold firstN isFirst;(repeat' split) <;> first | rfl | (simp only [decide_eq_false_iff_not,decide_eq_true_eq,Bool.not_eq_false] at *;omega))
set_option maxHeartbeats 1000000 in
theorem groatref08_Get.at (s : ByteArray) (i : Int) (w : World) (hs : s.size ≤ 4611686018427387904) : Calls prog 156 #[.string s,.int .i64 i] w fun e w' => e = .returned (.tuple #[.int .i64 (getTag s i).1,.int .i64 (getTag s i).2.1,.int .i64 (getTag s i).2.2]) ∧ ∃ n,w' = w.drewN n := by
 unfold getTag
 by_cases h0 : i < 0
 ·rw [if_pos (.inl h0)]
  go_enter func156,ntmps156
  go_wp2
  go_ret3
  exact ⟨rfl,0,rfl⟩
 by_cases h1 : i > s.size
 ·rw [if_pos (.inr h1)]
  have d0 : decide (i < 0) = false := d_F h0
  have d1 : decide ((s.size : Int) < i) = true := d_T h1
  go_enter func156,ntmps156
  go_wp2
  go_ret3
  exact ⟨rfl,0,rfl⟩
 rw [if_neg (by omega : ¬ (i < 0 ∨ i > s.size))]
 obtain ⟨n,rfl⟩ : ∃ n : Nat,i = n := ⟨i.toNat,by omega⟩
 have d0 : decide ((n : Int) < 0) = false := d_F h0
 have d1 : decide ((s.size : Int) < n) = false := d_F h1
 by_cases h2 : n = s.size
 ·have d2 : ((n : Int) == (s.size : Int)) = true := beq_iff_eq.mpr (by omega)
  rw [if_pos (by omega)]
  go_enter func156,ntmps156
  go_wp2
  go_ret3
  exact ⟨rfl,0,rfl⟩
 have d2 : ((n : Int) == (s.size : Int)) = false := beq_eq_false_iff_ne.mpr (by omega)
 have hn : n < s.size := by omega
 have p : (0 ≤ (n : Int)) = True := eq_true (by omega)
 have q : ((n : Int) < s.size) = True := eq_true (by omega)
 have hb := bt_get hn
 have hr := bt_range s n
 rw [if_neg (by omega)]
 rw [hb] at hr ⊢
 have HF : Aside0 (firstN ((s[n]'hn).toNat : Int) = if isFirst ((s[n]'hn).toNat : Int) = false then 0 else if ((s[n]'hn).toNat : Int) % 32 = 31 then 2 else 1) := ⟨rfl⟩
 by_cases hf : isFirst ((s[n]'hn).toNat : Int) = false
 ·rw [if_pos hf]
  have H1 : Aside0 (firstN ((s[n]'hn).toNat : Int) = 0) := ⟨by rw [HF.out,if_pos hf]⟩
  clear HF hf
  go_enter func156,ntmps156
  go_wp2_with (first | (go_at_call 183;refine (groatref08_First.at _ _ (by omega) (by omega)).mono ?_;rintro e w1 ⟨rfl,rfl⟩;try rw [H1.out]))
  go_ret3
  exact ⟨rfl,0,rfl⟩
 rw [if_neg hf]
 by_cases h4 : ((s[n]'hn).toNat : Int) % 32 = 31
 ·rw [if_neg (by omega)]
  have H1 : Aside0 (firstN ((s[n]'hn).toNat : Int) = 2) := ⟨by rw [HF.out,if_neg hf,if_pos h4]⟩
  have hf1 : isFirst ((s[n]'hn).toNat : Int) = true := by simpa using hf
  unfold isFirst at hf1
  have hf2 := of_decide_eq_true hf1
  clear HF hf hf1
  by_cases h5 : n + 1 = s.size
  ·rw [if_pos (by omega)]
   have d3 : decide ((s.size : Int) - n < 2) = true := d_T (by omega)
   clear h4 hf2
   go_enter func156,ntmps156
   go_wp2_with (first | (go_at_call 183;refine (groatref08_First.at _ _ (by omega) (by omega)).mono ?_;rintro e w1 ⟨rfl,rfl⟩;try rw [H1.out]))
   go_ret3
   exact ⟨rfl,0,rfl⟩
  ·have hm : n + 1 < s.size := by omega
   have d3 : decide ((s.size : Int) - n < 2) = false := d_F (by omega)
   have p2 : (0 ≤ (n : Int) + 1) = True := eq_true (by omega)
   have q2 : ((n : Int) + 1 < s.size) = True := eq_true (by omega)
   have hb2 := bt_get hm
   have hr2 := bt_range s (n + 1 : Nat)
   rw [hb2] at hr2
   rw [if_neg (by omega),show (n : Int) + 1 = ((n + 1 : Nat) : Int) from rfl,hb2]
   have HT : Aside0 (isTag (((s[n]'hn).toNat : Int) * 256 + ((s[n + 1]'hm).toNat : Int)) = decide (1 ≤ ((s[n + 1]'hm).toNat : Int) ∧ ((s[n + 1]'hm).toNat : Int) ≤ 127)) := ⟨by
    unfold isTag
    rw [Bool.eq_iff_iff,decide_eq_true_eq,decide_eq_true_eq]
    omega⟩
   rw [HT.out]
   clear HT hf2 h4
   by_cases h6 : ((s[n + 1]'hm).toNat : Int) = 0
   ·rw [if_neg (by rw [h6];decide)]
    have d6 : (((s[n + 1]'hm).toNat : Int) == 0) = true := beq_iff_eq.mpr h6
    clear h6
    go_enter func156,ntmps156
    go_wp2_with (first | (go_at_call 183;refine (groatref08_First.at _ _ (by omega) (by omega)).mono ?_;rintro e w1 ⟨rfl,rfl⟩;try rw [H1.out]))
    go_ret3
    exact ⟨rfl,0,rfl⟩
   have d6 : (((s[n + 1]'hm).toNat : Int) == 0) = false := beq_eq_false_iff_ne.mpr h6
   by_cases h7 : 127 < ((s[n + 1]'hm).toNat : Int)
   ·rw [if_neg (by simp only [decide_eq_true_eq];omega)]
    have d7 : decide (127 < ((s[n + 1]'hm).toNat : Int)) = true := d_T h7
    go_enter func156,ntmps156
    go_wp2_with (first | (go_at_call 183;refine (groatref08_First.at _ _ (by omega) (by omega)).mono ?_;rintro e w1 ⟨rfl,rfl⟩;try rw [H1.out]))
    go_ret3
    exact ⟨rfl,0,rfl⟩
   have d7 : decide (127 < ((s[n + 1]'hm).toNat : Int)) = false := d_F h7
   rw [if_pos (by simp only [decide_eq_true_eq];omega)]
   clear h6 h7
   go_enter func156,ntmps156
   go_wp2_with (first | (go_at_call 183;refine (groatref08_First.at _ _ (by omega) (by omega)).mono ?_;rintro e w1 ⟨rfl,rfl⟩;try rw [H1.out]))
   go_quiet (fail)
   go_wp2
   go_ret3
   refine ⟨?_,_,rfl⟩
   rw [Int.mul_comm]
   rfl
 ·rw [if_pos h4]
  have H1 : Aside0 (firstN ((s[n]'hn).toNat : Int) = 1) := ⟨by rw [HF.out,if_neg hf,if_neg h4]⟩
  clear HF hf h4
  go_enter func156,ntmps156
  go_wp2_with (first | (go_at_call 183;refine (groatref08_First.at _ _ (by omega) (by omega)).mono ?_;rintro e w1 ⟨rfl,rfl⟩;try rw [H1.out]))
  go_ret3
  exact ⟨rfl,0,rfl⟩
set_option maxHeartbeats 1000000 in
theorem groatref09_Get.at (s : ByteArray) (i : Int) (w : World) (hs : s.size ≤ 4611686018427387904) : Calls prog 157 #[.string s,.int .i64 i] w fun e w' => e = .returned (.tuple #[.int .i64 (getLen s i).1,.int .i64 (getLen s i).2.1,.int .i64 (getLen s i).2.2]) ∧ ∃ n,w' = w.drewN n := by
 unfold getLen
 by_cases h0 : i < 0
 ·rw [if_pos (.inl h0)]
  go_enter func157,ntmps157
  go_wp2
  go_ret3
  exact ⟨rfl,0,rfl⟩
 by_cases h1 : i > s.size
 ·rw [if_pos (.inr h1)]
  have d0 : decide (i < 0) = false := d_F h0
  have d1 : decide ((s.size : Int) < i) = true := d_T h1
  go_enter func157,ntmps157
  go_wp2
  go_ret3
  exact ⟨rfl,0,rfl⟩
 rw [if_neg (by omega : ¬ (i < 0 ∨ i > s.size))]
 obtain ⟨n,rfl⟩ : ∃ n : Nat,i = n := ⟨i.toNat,by omega⟩
 have d0 : decide ((n : Int) < 0) = false := d_F h0
 have d1 : decide ((s.size : Int) < n) = false := d_F h1
 by_cases h2 : n = s.size
 ·have d2 : ((n : Int) == (s.size : Int)) = true := beq_iff_eq.mpr (by omega)
  rw [if_pos (by omega)]
  go_enter func157,ntmps157
  go_wp2
  go_ret3
  exact ⟨rfl,0,rfl⟩
 have d2 : ((n : Int) == (s.size : Int)) = false := beq_eq_false_iff_ne.mpr (by omega)
 have hn : n < s.size := by omega
 have p : (0 ≤ (n : Int)) = True := eq_true (by omega)
 have q : ((n : Int) < s.size) = True := eq_true (by omega)
 have hb := bt_get hn
 have hr := bt_range s n
 rw [if_neg (by omega)]
 rw [hb] at hr ⊢
 by_cases h3 : ((s[n]'hn).toNat : Int) ≤ 127
 ·have d3 : decide (((s[n]'hn).toNat : Int) < 128) = true := d_T (by omega)
  rw [if_pos h3]
  go_enter func157,ntmps157
  go_wp2
  go_ret3
  exact ⟨rfl,0,rfl⟩
 have d3 : decide (((s[n]'hn).toNat : Int) < 128) = false := d_F (by omega)
 rw [if_neg h3]
 by_cases h4 : ((s[n]'hn).toNat : Int) = 129
 ·have d4 : (((s[n]'hn).toNat : Int) != 129) = false := by rw [bne_eq_false_iff_eq];exact h4
  have d4' : (((s[n]'hn).toNat : Int) == 129) = true := beq_iff_eq.mpr h4
  rw [if_pos h4]
  by_cases h5 : (s.size : Int) - n < 2
  ·have d5 : decide ((s.size : Int) - n < ((s[n]'hn).toNat : Int) - 127) = true := d_T (by omega)
   rw [if_pos h5]
   clear h4
   go_enter func157,ntmps157
   go_wp2
   go_ret3
   exact ⟨rfl,0,rfl⟩
  ·have d5 : decide ((s.size : Int) - n < ((s[n]'hn).toNat : Int) - 127) = false := d_F (by omega)
   rw [if_neg h5]
   have hm : n + 1 < s.size := by omega
   have p2 : (0 ≤ (n : Int) + 1) = True := eq_true (by omega)
   have q2 : ((n : Int) + 1 < s.size) = True := eq_true (by omega)
   have hb2 := bt_get hm
   have hr2 := bt_range s (n + 1 : Nat)
   rw [hb2] at hr2
   rw [show (n : Int) + 1 = ((n + 1 : Nat) : Int) from rfl,hb2]
   clear h4
   by_cases h6 : ((s[n + 1]'hm).toNat : Int) ≤ 127
   ·have d6 : decide (((s[n + 1]'hm).toNat : Int) < 128) = true := d_T (by omega)
    rw [if_pos h6]
    go_enter func157,ntmps157
    go_wp2
    go_ret3
    exact ⟨rfl,0,rfl⟩
   ·have d6 : decide (((s[n + 1]'hm).toNat : Int) < 128) = false := d_F (by omega)
    rw [if_neg h6]
    go_enter func157,ntmps157
    go_wp2
    go_ret3
    exact ⟨rfl,0,rfl⟩
 have d4 : (((s[n]'hn).toNat : Int) != 129) = true := by rw [bne_iff_ne];exact h4
 have d4' : (((s[n]'hn).toNat : Int) == 129) = false := beq_eq_false_iff_ne.mpr h4
 rw [if_neg h4]
 by_cases h7 : ((s[n]'hn).toNat : Int) = 130
 ·have d7 : (((s[n]'hn).toNat : Int) != 130) = false := by rw [bne_eq_false_iff_eq];exact h7
  rw [if_pos h7]
  by_cases h5 : (s.size : Int) - n < 3
  ·have d5 : decide ((s.size : Int) - n < ((s[n]'hn).toNat : Int) - 127) = true := d_T (by omega)
   rw [if_pos h5]
   clear h7
   go_enter func157,ntmps157
   go_wp2
   go_ret3
   exact ⟨rfl,0,rfl⟩
  ·have d5 : decide ((s.size : Int) - n < ((s[n]'hn).toNat : Int) - 127) = false := d_F (by omega)
   rw [if_neg h5]
   have hm : n + 1 < s.size := by omega
   have p2 : (0 ≤ (n : Int) + 1) = True := eq_true (by omega)
   have q2 : ((n : Int) + 1 < s.size) = True := eq_true (by omega)
   have hb2 := bt_get hm
   have hr2 := bt_range s (n + 1 : Nat)
   rw [hb2] at hr2
   have hm3 : n + 2 < s.size := by omega
   have p3 : (0 ≤ (n : Int) + 2) = True := eq_true (by omega)
   have q3 : ((n : Int) + 2 < s.size) = True := eq_true (by omega)
   have hb3 := bt_get hm3
   have hr3 := bt_range s (n + 2 : Nat)
   rw [hb3] at hr3
   rw [show (n : Int) + 1 = ((n + 1 : Nat) : Int) from rfl,show (n : Int) + 2 = ((n + 2 : Nat) : Int) from rfl,hb2,hb3]
   clear h7
   by_cases h6 : ((s[n + 1]'hm).toNat : Int) = 0
   ·have d6 : (((s[n + 1]'hm).toNat : Int) == 0) = true := beq_iff_eq.mpr h6
    rw [if_pos h6]
    clear h6
    go_enter func157,ntmps157
    go_wp2
    go_ret3
    exact ⟨rfl,0,rfl⟩
   ·have d6 : (((s[n + 1]'hm).toNat : Int) == 0) = false := beq_eq_false_iff_ne.mpr h6
    rw [if_neg h6]
    go_enter func157,ntmps157
    go_wp2
    go_quiet (fail)
    go_wp2
    go_ret3
    refine ⟨?_,_,rfl⟩
    rw [Int.mul_comm]
    rfl
 have d7 : (((s[n]'hn).toNat : Int) != 130) = true := by rw [bne_iff_ne];exact h7
 rw [if_neg h7]
 go_enter func157,ntmps157
 go_wp2
 go_ret3
 exact ⟨rfl,0,rfl⟩
theorem results_cct {fn : Func} {p p' u : Tmp} {ty ty' : TypeId} {P : Program} (h : fn.results = #[.cell p ty,.cell p' ty',.tmp u]) (tmps : Array Value) (w : World) (g g' : Nat) (t t' : TypeId) (cs cs' : Array Value) (fr fr' : Nat × Nat) (d d' : TypeDesc)
  (hp : tmps.getD p undef = .pointer (some ⟨g,0,none⟩)) (hg : w.heap[g]? = some (.cells cs t fr))
  (hd : (match d with | .struct _ | .array _ _ => true | _ => false) = true) (hu : P.underlying ty = some d) (hi : (P.info? ty).map (·.size) = some cs.size)
  (hp' : tmps.getD p' undef = .pointer (some ⟨g',0,none⟩)) (hg' : w.heap[g']? = some (.cells cs' t' fr'))
  (hd' : (match d' with | .struct _ | .array _ _ => true | _ => false) = true) (hu' : P.underlying ty' = some d') (hi' : (P.info? ty').map (·.size) = some cs'.size) :
  (results fn tmps).run P w = .ok (.tuple #[.agg cs,.agg cs',tmps.getD u undef]) w := by
 have h1 : tmps[p]?.getD undef = .pointer (some ⟨g,0,none⟩) := by simpa using hp
 have h2 : tmps[p']?.getD undef = .pointer (some ⟨g',0,none⟩) := by simpa using hp'
 have r1 := run_loadVar_row w g t ty cs fr d hg hu (by revert hd;cases d <;> exact id) hi
 have r2 := run_loadVar_row w g' t' ty' cs' fr' d' hg' hu' (by revert hd';cases d' <;> exact id) hi'
 simp [results,h,h1,h2,asAddr,r1,r2]
structure Box5 (w W : World) (a b c d e : Obj) : Prop where
 h1 : W.heap[w.heap.size]? = some a
 h2 : W.heap[w.heap.size + 1]? = some b
 h3 : W.heap[w.heap.size + 1 + 1]? = some c
 h4 : W.heap[w.heap.size + 1 + 1 + 1]? = some d
 h5 : W.heap[w.heap.size + 1 + 1 + 1 + 1]? = some e
 below : Below w.heap.size w W
theorem Box5.start (w : World) (a b c d e : Obj) : Box5 w (((((w.alloc a).alloc b).alloc c).alloc d).alloc e) a b c d e := by
 have D := Box4.start w a b c d
 exact ⟨blk_alloc D.h1 _,blk_alloc D.h2 _,blk_alloc D.h3 _,blk_alloc D.h4 _,blk_top (by rw [size_alloc,size_alloc,size_alloc,size_alloc]),b_l D.below _⟩
theorem Box5.step {w W W' : World} {a b c d e : Obj} (D : Box5 w W a b c d e) (hb : Below W.heap.size W W') : Box5 w W' a b c d e :=
 ⟨k_B D.h1 hb,k_B D.h2 hb,k_B D.h3 hb,k_B D.h4 hb,k_B D.h5 hb,b_s D.below hb⟩
theorem Box5.init {w w1 : World} {a b c d e : Obj} (hb : Below (((((w.alloc a).alloc b).alloc c).alloc d).alloc e).heap.size (((((w.alloc a).alloc b).alloc c).alloc d).alloc e) w1) : Box5 w w1 a b c d e := (Box5.start w a b c d e).step hb
def st5 (W : World) (g : Nat) (v0 v1 v2 v3 v4 : Value) : World := ((((W.setCell ⟨g,0,none⟩ v0).setCell ⟨g,1,none⟩ v1).setCell ⟨g,2,none⟩ v2).setCell ⟨g,3,none⟩ v3).setCell ⟨g,4,none⟩ v4
theorem far5 {W : World} {k : Nat} {o : Obj} {g : Nat} (v0 v1 v2 v3 v4 : Value) (h : W.heap[k]? = some o) (hk : k ≠ g) : (st5 W g v0 v1 v2 v3 v4).heap[k]? = some o :=
 T.far _ _ (T.far _ _ (T.far _ _ (T.far _ _ (T.far _ _ h hk) hk) hk) hk) hk
theorem Box5.put4 {w W : World} {a b c e : Obj} {t : TypeId} {u0 u1 u2 u3 u4 : Value} (D : Box5 w W a b c (.cells #[u0,u1,u2,u3,u4] t) e) (v0 v1 v2 v3 v4 : Value) :
  Box5 w (st5 W (w.heap.size + 1 + 1 + 1) v0 v1 v2 v3 v4) a b c (.cells #[v0,v1,v2,v3,v4] t) e :=
 ⟨far5 _ _ _ _ _ D.h1 (by omega),far5 _ _ _ _ _ D.h2 (by omega),far5 _ _ _ _ _ D.h3 (by omega),put5 D.h4,far5 _ _ _ _ _ D.h5 (by omega),below5 D.below (by omega)⟩
theorem Box5.put5 {w W : World} {a b c d : Obj} {t : TypeId} {u0 u1 u2 u3 u4 : Value} (D : Box5 w W a b c d (.cells #[u0,u1,u2,u3,u4] t)) (v0 v1 v2 v3 v4 : Value) :
  Box5 w (st5 W (w.heap.size + 1 + 1 + 1 + 1) v0 v1 v2 v3 v4) a b c d (.cells #[v0,v1,v2,v3,v4] t) :=
 ⟨far5 _ _ _ _ _ D.h1 (by omega),far5 _ _ _ _ _ D.h2 (by omega),far5 _ _ _ _ _ D.h3 (by omega),far5 _ _ _ _ _ D.h4 (by omega),T.put5 D.h5,below5 D.below (by omega)⟩
theorem Box5.drew {w W : World} {a b c d e : Obj} (D : Box5 w W a b c d e) : Box5 w W.drew a b c d e := ⟨D.h1,D.h2,D.h3,D.h4,D.h5,below_drew1 D.below⟩
theorem froz_5 {w : World} {g : Nat} {t : TypeId} {cs : Array Value} (h : w.heap[g]? = some (.cells cs t (0,0))) : w.frozen? ⟨g,0,none⟩ = false ∧ w.frozen? ⟨g,1,none⟩ = false ∧ w.frozen? ⟨g,2,none⟩ = false ∧ w.frozen? ⟨g,3,none⟩ = false ∧ w.frozen? ⟨g,4,none⟩ = false := ⟨blk_frozen h 0,blk_frozen h 1,blk_frozen h 2,blk_frozen h 3,blk_frozen h 4⟩
def endsOk (r : S94) (a b : List S87) : Prop := (r.f0 = 3 → r.f1 = 0) ∧ (r.f0 ≠ 3 → (findS r.f1 a).2 = true) ∧ (r.f0 = 2 → r.f2 = 0) ∧ (r.f0 ≠ 2 → (findS r.f2 b).2 = true)
set_option maxHeartbeats 4000000 in
theorem rule_ends.at (r : S94) (B : Option Addr) (d : Nat) (st1 ver1 : Int) (A1 : Option Addr) (c1 : Nat) (l1 : List S87) (st2 ver2 : Int) (A2 : Option Addr) (c2 : Nat) (l2 : List S87) (w : World) (hl1 : l1.length ≤ 4611686018427387904) (hl2 : l2.length ≤ 4611686018427387904)
  (hr1 : Kd.C k87 w A1 l1.length l1) (hc1 : l1.length ≤ c1) (hr2 : Kd.C k87 w A2 l2.length l2) (hc2 : l2.length ≤ c2) (he : endsOk r l1 l2) :
  Calls prog 142 #[v94 r B d,.agg #[.int .i64 st1,.int .i64 ver1,.slice A1 l1.length c1],.agg #[.int .i64 st2,.int .i64 ver2,.slice A2 l2.length c2]] w fun e w' => e = .returned (.tuple #[v87 (findS r.f1 l1).1,v87 (findS r.f2 l2).1,.int .i64 0]) ∧ Below w.heap.size w w' := by
 have hu24 := underlying24
 have hu87 := underlying87
 have hu94 := underlying94
 have HR1 := aS hr1
 have HC1 := aS hc1
 have HR2 := aS hr2
 have HC2 := aS hc2
 obtain ⟨x,b1,hF1⟩ : ∃ x b1,findS r.f1 l1 = (x,b1) := ⟨_,_,rfl⟩
 obtain ⟨y,b2,hF2⟩ : ∃ y b2,findS r.f2 l2 = (y,b2) := ⟨_,_,rfl⟩
 have HF1 := aS hF1
 have HF2 := aS hF2
 obtain ⟨k1,k2,k3,k4⟩ := he
 rw [hF1] at k2 ⊢
 rw [hF2] at k4 ⊢
 clear hr1 hc1 hr2 hc2 hF1 hF2
 unfold v94 v87
 by_cases q3 : r.f0 = 3
 ·have e1 : (r.f0 == 3) = true := beq_iff_eq.mpr q3
  have e2 : (r.f1 == 0) = true := beq_iff_eq.mpr (k1 q3)
  have e3 : (r.f0 == 2) = false := beq_eq_false_iff_ne.mpr (by omega)
  have e4 : b2 = true := k4 (by omega)
  clear k1 k2 k3 k4 q3
  subst e4
  go_enter func142,ntmps142
  go_wp2_with (first | (go_at_call 36;have D0 := D;clear D0;refine (schema_Find.at st2 ver2 A2 c2 l2 r.f2 _ hl2 (c_B HR2.out (D.out.put4 _ _ _ _ _).below) HC2.out).mono ?_;rintro e w2 ⟨rfl,hb1⟩;rw [HF2.out];have D_ := aS ((D.out.put4 (.int .i64 x.f0) (.int .i64 x.f1) (.int .i64 x.f2) (.int .i64 x.f3) (.int .i64 x.f4)).step hb1);clear D hb1;clear a0 a1 a2 a3 a4 p0 p1 p2 q0 q1 q2 d0 d1 d2 d3 d4 f0 f1 f2 f3 f4 dd0 dd1 dd2 dd3 dd4 ff0 ff1 ff2 ff3 ff4;have D := D_;clear D_;unfold v87;obtain ⟨a0,a1,a2,a3,a4⟩ := cells_5 D.out.h1;obtain ⟨p0,p1,p2⟩ := cells_3 D.out.h2;obtain ⟨q0,q1,q2⟩ := cells_3 D.out.h3;obtain ⟨d0,d1,d2,d3,d4⟩ := cells_5 D.out.h4;obtain ⟨f0,f1,f2,f3,f4⟩ := cells_5 D.out.h5;obtain ⟨dd0,dd1,dd2,dd3,dd4⟩ := froz_5 D.out.h4;obtain ⟨ff0,ff1,ff2,ff3,ff4⟩ := froz_5 D.out.h5) | (go_at_call 36;refine (schema_Find.at st1 ver1 A1 c1 l1 r.f1 _ hl1 (c_B HR1.out (Box5.start w _ _ _ _ _).below) HC1.out).mono ?_;rintro e w1 ⟨rfl,hb1⟩;rw [HF1.out];have D := aS (Box5.init hb1);clear hb1;unfold v87;obtain ⟨a0,a1,a2,a3,a4⟩ := cells_5 D.out.h1;obtain ⟨p0,p1,p2⟩ := cells_3 D.out.h2;obtain ⟨q0,q1,q2⟩ := cells_3 D.out.h3;obtain ⟨d0,d1,d2,d3,d4⟩ := cells_5 D.out.h4;obtain ⟨f0,f1,f2,f3,f4⟩ := cells_5 D.out.h5;obtain ⟨dd0,dd1,dd2,dd3,dd4⟩ := froz_5 D.out.h4;obtain ⟨ff0,ff1,ff2,ff3,ff4⟩ := froz_5 D.out.h5))
  go_region
  all_goals go_wp2
  have Z := (((D.out.put5 (.int .i64 y.f0) (.int .i64 y.f1) (.int .i64 y.f2) (.int .i64 y.f3) (.int .i64 y.f4)).put4 (.int .i64 x.f0) (.int .i64 x.f1) (.int .i64 x.f2) (.int .i64 x.f3) (.int .i64 x.f4)).put5 (.int .i64 y.f0) (.int .i64 y.f1) (.int .i64 y.f2) (.int .i64 y.f3) (.int .i64 y.f4)).drew
  refine bodyPost_ret (results_cct rfl _ _ (w.heap.size + 1 + 1 + 1) (w.heap.size + 1 + 1 + 1 + 1) 87 87 _ _ (0,0) (0,0) _ _ rfl Z.h4 rfl hu87 (by kernel_rfl) rfl Z.h5 rfl hu87 (by kernel_rfl)) rfl ?_
  exact ⟨rfl,Z.below⟩
 ·have e1 : (r.f0 == 3) = false := beq_eq_false_iff_ne.mpr q3
  have e4 : b1 = true := k2 q3
  subst e4
  by_cases q2 : r.f0 = 2
  ·have e3 : (r.f0 == 2) = true := beq_iff_eq.mpr q2
   have e2 : (r.f2 == 0) = true := beq_iff_eq.mpr (k3 q2)
   clear k1 k2 k3 k4 q3 q2
   go_enter func142,ntmps142
   go_wp2_with (first | (go_at_call 36;have D0 := D;clear D0;refine (schema_Find.at st2 ver2 A2 c2 l2 r.f2 _ hl2 (c_B HR2.out (D.out.put4 _ _ _ _ _).below) HC2.out).mono ?_;rintro e w2 ⟨rfl,hb1⟩;rw [HF2.out];have D_ := aS ((D.out.put4 (.int .i64 x.f0) (.int .i64 x.f1) (.int .i64 x.f2) (.int .i64 x.f3) (.int .i64 x.f4)).step hb1);clear D hb1;clear a0 a1 a2 a3 a4 p0 p1 p2 q0 q1 q2 d0 d1 d2 d3 d4 f0 f1 f2 f3 f4 dd0 dd1 dd2 dd3 dd4 ff0 ff1 ff2 ff3 ff4;have D := D_;clear D_;unfold v87;obtain ⟨a0,a1,a2,a3,a4⟩ := cells_5 D.out.h1;obtain ⟨p0,p1,p2⟩ := cells_3 D.out.h2;obtain ⟨q0,q1,q2⟩ := cells_3 D.out.h3;obtain ⟨d0,d1,d2,d3,d4⟩ := cells_5 D.out.h4;obtain ⟨f0,f1,f2,f3,f4⟩ := cells_5 D.out.h5;obtain ⟨dd0,dd1,dd2,dd3,dd4⟩ := froz_5 D.out.h4;obtain ⟨ff0,ff1,ff2,ff3,ff4⟩ := froz_5 D.out.h5) | (go_at_call 36;refine (schema_Find.at st1 ver1 A1 c1 l1 r.f1 _ hl1 (c_B HR1.out (Box5.start w _ _ _ _ _).below) HC1.out).mono ?_;rintro e w1 ⟨rfl,hb1⟩;rw [HF1.out];have D := aS (Box5.init hb1);clear hb1;unfold v87;obtain ⟨a0,a1,a2,a3,a4⟩ := cells_5 D.out.h1;obtain ⟨p0,p1,p2⟩ := cells_3 D.out.h2;obtain ⟨q0,q1,q2⟩ := cells_3 D.out.h3;obtain ⟨d0,d1,d2,d3,d4⟩ := cells_5 D.out.h4;obtain ⟨f0,f1,f2,f3,f4⟩ := cells_5 D.out.h5;obtain ⟨dd0,dd1,dd2,dd3,dd4⟩ := froz_5 D.out.h4;obtain ⟨ff0,ff1,ff2,ff3,ff4⟩ := froz_5 D.out.h5))
   go_region
   all_goals go_wp2
   have Z := (((D.out.put5 (.int .i64 y.f0) (.int .i64 y.f1) (.int .i64 y.f2) (.int .i64 y.f3) (.int .i64 y.f4)).put4 (.int .i64 x.f0) (.int .i64 x.f1) (.int .i64 x.f2) (.int .i64 x.f3) (.int .i64 x.f4)).put5 (.int .i64 y.f0) (.int .i64 y.f1) (.int .i64 y.f2) (.int .i64 y.f3) (.int .i64 y.f4)).drew
   refine bodyPost_ret (results_cct rfl _ _ (w.heap.size + 1 + 1 + 1) (w.heap.size + 1 + 1 + 1 + 1) 87 87 _ _ (0,0) (0,0) _ _ rfl Z.h4 rfl hu87 (by kernel_rfl) rfl Z.h5 rfl hu87 (by kernel_rfl)) rfl ?_
   exact ⟨rfl,Z.below⟩
  ·have e3 : (r.f0 == 2) = false := beq_eq_false_iff_ne.mpr q2
   have e2 : b2 = true := k4 q2
   subst e2
   clear k1 k2 k3 k4 q3 q2
   go_enter func142,ntmps142
   go_wp2_with (first | (go_at_call 36;have D0 := D;clear D0;refine (schema_Find.at st2 ver2 A2 c2 l2 r.f2 _ hl2 (c_B HR2.out (D.out.put4 _ _ _ _ _).below) HC2.out).mono ?_;rintro e w2 ⟨rfl,hb1⟩;rw [HF2.out];have D_ := aS ((D.out.put4 (.int .i64 x.f0) (.int .i64 x.f1) (.int .i64 x.f2) (.int .i64 x.f3) (.int .i64 x.f4)).step hb1);clear D hb1;clear a0 a1 a2 a3 a4 p0 p1 p2 q0 q1 q2 d0 d1 d2 d3 d4 f0 f1 f2 f3 f4 dd0 dd1 dd2 dd3 dd4 ff0 ff1 ff2 ff3 ff4;have D := D_;clear D_;unfold v87;obtain ⟨a0,a1,a2,a3,a4⟩ := cells_5 D.out.h1;obtain ⟨p0,p1,p2⟩ := cells_3 D.out.h2;obtain ⟨q0,q1,q2⟩ := cells_3 D.out.h3;obtain ⟨d0,d1,d2,d3,d4⟩ := cells_5 D.out.h4;obtain ⟨f0,f1,f2,f3,f4⟩ := cells_5 D.out.h5;obtain ⟨dd0,dd1,dd2,dd3,dd4⟩ := froz_5 D.out.h4;obtain ⟨ff0,ff1,ff2,ff3,ff4⟩ := froz_5 D.out.h5) | (go_at_call 36;refine (schema_Find.at st1 ver1 A1 c1 l1 r.f1 _ hl1 (c_B HR1.out (Box5.start w _ _ _ _ _).below) HC1.out).mono ?_;rintro e w1 ⟨rfl,hb1⟩;rw [HF1.out];have D := aS (Box5.init hb1);clear hb1;unfold v87;obtain ⟨a0,a1,a2,a3,a4⟩ := cells_5 D.out.h1;obtain ⟨p0,p1,p2⟩ := cells_3 D.out.h2;obtain ⟨q0,q1,q2⟩ := cells_3 D.out.h3;obtain ⟨d0,d1,d2,d3,d4⟩ := cells_5 D.out.h4;obtain ⟨f0,f1,f2,f3,f4⟩ := cells_5 D.out.h5;obtain ⟨dd0,dd1,dd2,dd3,dd4⟩ := froz_5 D.out.h4;obtain ⟨ff0,ff1,ff2,ff3,ff4⟩ := froz_5 D.out.h5))
   go_region
   all_goals go_wp2
   have Z := (((D.out.put5 (.int .i64 y.f0) (.int .i64 y.f1) (.int .i64 y.f2) (.int .i64 y.f3) (.int .i64 y.f4)).put4 (.int .i64 x.f0) (.int .i64 x.f1) (.int .i64 x.f2) (.int .i64 x.f3) (.int .i64 x.f4)).put5 (.int .i64 y.f0) (.int .i64 y.f1) (.int .i64 y.f2) (.int .i64 y.f3) (.int .i64 y.f4)).drew
   refine bodyPost_ret (results_cct rfl _ _ (w.heap.size + 1 + 1 + 1) (w.heap.size + 1 + 1 + 1 + 1) 87 87 _ _ (0,0) (0,0) _ _ rfl Z.h4 rfl hu87 (by kernel_rfl) rfl Z.h5 rfl hu87 (by kernel_rfl)) rfl ?_
   exact ⟨rfl,Z.below⟩
def typG (st ver : Int) (b : ByteArray) : ByteArray × Int × Int :=
 if st = 2 then
  if (b.size : Int) < 2 then (⟨#[]⟩,0,2) else
  if (verV (bcdG (b.extract 0 2) 4).1).2 = false then (⟨#[]⟩,0,7) else if (verV (bcdG (b.extract 0 2) 4).1).1 ≠ ver then (⟨#[]⟩,0,7) else ((bcdG (b.extract 0 2) 4).1,2,0)
 else
  if (b.size : Int) < 4 then (⟨#[]⟩,0,2) else
  if (verV (b.extract 0 4)).2 = false then (⟨#[]⟩,0,7) else if (verV (b.extract 0 4)).1 ≠ ver then (⟨#[]⟩,0,7) else (b.extract 0 4,4,0)
set_option maxHeartbeats 1000000 in
theorem strict_typed.at (st ver : Int) (sl : Value) (b : ByteArray) (w : World) (hst : st = 1 ∨ st = 2) (hb : b.size ≤ 100000) (hsl : ∃ A n c,sl = .slice A n c) :
  Calls prog 33 #[.agg #[.int .i64 st,.int .i64 ver,sl],.string b] w fun e w' => e = .returned (.tuple #[.string (typG st ver b).1,.int .i64 (typG st ver b).2.1,.int .i64 (typG st ver b).2.2]) ∧ Below w.heap.size w w' := by
 have hu24 := underlying24
 obtain ⟨A,n,c,rfl⟩ := hsl
 have hb4 : bcdSize 4 = 2 := by decide
 obtain ⟨r,hg⟩ : ∃ r,typG st ver b = r := ⟨_,rfl⟩
 rw [hg]
 rw [typG] at hg
 rcases hst with rfl | rfl
 ·rw [if_neg (by decide)] at hg
  by_cases c1 : (b.size : Int) < 4
  ·have c0 : decide ((b.size : Int) < 4) = true := d_T (by omega)
   rw [if_pos c1] at hg
   have HG := aS hg
   clear hg c1
   go_enter func33,ntmps33
   go_wp2
   go_ret3
   obtain rfl := HG.out
   exact ⟨rfl,b_l (Below.refl _ _) _⟩
  ·have c0 : decide ((b.size : Int) < 4) = false := d_F (by omega)
   have p2 : ((4 : Int) ≤ (b.size : Int)) = True := eq_true (by omega)
   have p3 : (4 ≤ b.size) = True := eq_true (by omega)
   rw [if_neg c1] at hg
   obtain ⟨v1,v2,hv⟩ : ∃ v1 v2,verV (b.extract 0 4) = (v1,v2) := ⟨_,_,rfl⟩
   rw [hv] at hg
   have HG := aS hg
   clear hg c1
   go_enter func33,ntmps33
   go_wp2_with (first | (go_at_call 80;refine (mti_Version.at _ _).mono ?_;rintro e w2 ⟨rfl,hb1⟩;rw [hv];have B := aS (blk_nb hb1);have H := aS (below_a1 hb1);clear hb1;have k0 := blk_cell B.out 0;have k1 := blk_cell B.out 1;have k2 := blk_cell B.out 2))
   all_goals go_ret3
   all_goals obtain rfl := HG.out
   all_goals refine ⟨?_,H.out⟩
   all_goals (repeat' split) <;> first | rfl | simp_all
 ·rw [if_pos rfl] at hg
  by_cases c1 : (b.size : Int) < 2
  ·have c0 : decide ((b.size : Int) < 2) = true := d_T (by omega)
   rw [if_pos c1] at hg
   have HG := aS hg
   clear hg c1
   go_enter func33,ntmps33
   go_wp2_with (first | (go_at_call 78;refine (bcd_Size.at _ _ (by omega)).mono ?_;rintro e w1 ⟨rfl,rfl⟩;rw [hb4]))
   go_ret3
   obtain rfl := HG.out
   exact ⟨rfl,b_l (Below.refl _ _) _⟩
  ·have c0 : decide ((b.size : Int) < 2) = false := d_F (by omega)
   have p2 : ((2 : Int) ≤ (b.size : Int)) = True := eq_true (by omega)
   have p3 : (2 ≤ b.size) = True := eq_true (by omega)
   have HZ : Aside0 ((b.extract 0 2).size ≤ 1000000) := ⟨by rw [ByteArray.size_extract];omega⟩
   rw [if_neg c1] at hg
   obtain ⟨t1,t2,ht⟩ : ∃ t1 t2,bcdG (b.extract 0 2) 4 = (t1,t2) := ⟨_,_,rfl⟩
   obtain ⟨v1,v2,hv⟩ : ∃ v1 v2,verV t1 = (v1,v2) := ⟨_,_,rfl⟩
   rw [ht,hv] at hg
   have HG := aS hg
   clear hg c1
   go_enter func33,ntmps33
   go_wp2_with (first | (go_at_call 78;refine (bcd_Size.at _ _ (by omega)).mono ?_;rintro e w1 ⟨rfl,rfl⟩;rw [hb4]) | (go_at_call 79;refine (bcd_Get.at _ _ _ (by omega) HZ.out).mono ?_;rintro e w2 ⟨⟨pq,rfl⟩,hb1⟩;rw [ht];have B := aS (blk_nb hb1);have H := aS (below_a1 hb1);clear hb1;have k0 := blk_cell B.out 0;have k1 := blk_cell B.out 1;have k2 := blk_cell B.out 2) | (go_at_call 80;refine (mti_Version.at _ _).mono ?_;rintro e w2 ⟨rfl,hb1⟩;rw [hv];have B_ := aS (k_B B.out hb1);have H_ := aS (b_s H.out hb1);clear B H k0 k1 k2 hb1;have B := B_;have H := H_;clear B_ H_;have k0 := blk_cell B.out 0;have k1 := blk_cell B.out 1;have k2 := blk_cell B.out 2))
   all_goals go_ret3
   all_goals obtain rfl := HG.out
   all_goals refine ⟨?_,H.out⟩
   all_goals (repeat' split) <;> first | rfl | simp_all
def applyS (b : List S87) (r : S94) (t : ByteArray) : S63 × Int :=
 if r.f0 = 1 then (⟨r.f2,t⟩,0) else if r.f0 = 2 then (⟨0,⟨#[]⟩⟩,0) else if r.f0 = 3 then (⟨r.f2,r.f3⟩,0) else
 if r.f0 = 4 then (if (padS t (findS r.f2 b).1.f3).2 = false then (⟨0,⟨#[]⟩⟩,5) else (⟨r.f2,(padS t (findS r.f2 b).1.f3).1⟩,0)) else
 if (headS t r.f4).2 = false then (⟨0,⟨#[]⟩⟩,15) else (⟨r.f2,(headS t r.f4).1⟩,0)
def applyOk (b : List S87) (r : S94) (t : ByteArray) : Prop := (1 ≤ r.f0 ∧ r.f0 ≤ 5) ∧ (r.f0 = 4 → (findS r.f2 b).2 = true ∧ 1 ≤ (findS r.f2 b).1.f3 ∧ (findS r.f2 b).1.f3 ≤ 999 ∧ 1 ≤ t.size ∧ t.size ≤ 999 ∧ allD t = true)
set_option maxHeartbeats 2000000 in
theorem rule_Apply.at (r : S94) (B : Option Addr) (d : Nat) (st ver : Int) (A : Option Addr) (c : Nat) (l : List S87) (t : ByteArray) (w : World) (hl : l.length ≤ 4611686018427387904) (hr : Kd.C k87 w A l.length l) (hc : l.length ≤ c)
  (hl4 : r.f4.length ≤ 4611686018427387904) (hr4 : Kd.C k66 w B r.f4.length r.f4) (hc4 : r.f4.length ≤ d) (hok : applyOk l r t) :
  Calls prog 43 #[v94 r B d,.agg #[.int .i64 st,.int .i64 ver,.slice A l.length c],.string t] w fun e w' => e = .returned (.tuple #[.agg #[.int .i64 (applyS l r t).1.f0,.string (applyS l r t).1.f1],.int .i64 (applyS l r t).2]) ∧ Below w.heap.size w w' := by
 have hu24 := underlying24
 have hu94 := underlying94
 have hu63 := underlying63
 have hu87 := underlying87
 have HR := aS hr
 have HC := aS hc
 have HR4 := aS hr4
 have HC4 := aS hc4
 have HL4 := aS hl4
 obtain ⟨⟨hk1,hk2⟩,h4⟩ := hok
 clear hr hc hr4 hc4 hl4
 obtain ⟨q,hg⟩ : ∃ q,applyS l r t = q := ⟨_,rfl⟩
 rw [hg]
 rw [applyS] at hg
 unfold v94
 rcases r with ⟨kd,fr,t2,tx,ps⟩
 simp only at *
 rcases (show kd = 1 ∨ kd = 2 ∨ kd = 3 ∨ kd = 4 ∨ kd = 5 by omega) with rfl | rfl | rfl | rfl | rfl
 ·simp only [reduceIte,Int.reduceEq] at hg
  have HG := aS hg
  clear hg h4
  go_enter func43,ntmps43
  go_wp2
  refine bodyPost_ret (results_ct rfl _ _ (w.heap.size + 1 + 1) 63 _ (0,0) _ rfl (alloc3 w _ _ _) hu63 rfl (by kernel_rfl)) rfl ?_
  obtain rfl := HG.out
  exact ⟨rfl,b_l (bA _ _) _⟩
 ·simp only [reduceIte,Int.reduceEq] at hg
  have HG := aS hg
  clear hg h4
  go_enter func43,ntmps43
  go_wp2
  refine bodyPost_ret (results_ct rfl _ _ (w.heap.size + 1 + 1) 63 _ (0,0) _ rfl (alloc3 w _ _ _) hu63 rfl (by kernel_rfl)) rfl ?_
  obtain rfl := HG.out
  exact ⟨rfl,b_l (bA _ _) _⟩
 ·simp only [reduceIte,Int.reduceEq] at hg
  have HG := aS hg
  clear hg h4
  go_enter func43,ntmps43
  go_wp2
  refine bodyPost_ret (results_ct rfl _ _ (w.heap.size + 1 + 1) 63 _ (0,0) _ rfl (alloc3 w _ _ _) hu63 rfl (by kernel_rfl)) rfl ?_
  obtain rfl := HG.out
  exact ⟨rfl,b_l (bA _ _) _⟩
 ·simp only [reduceIte,Int.reduceEq] at hg
  obtain ⟨g1,g2,g3,g4,g5,g6⟩ := h4 rfl
  obtain ⟨y,hF⟩ : ∃ y,findS t2 l = (y,true) := ⟨_,by rw [← g1]⟩
  rw [hF] at hg g2 g3
  simp only at hg g2 g3
  have hp : Aside0 (1 ≤ y.f3 ∧ y.f3 ≤ 999 ∧ 1 ≤ t.size ∧ t.size ≤ 999 ∧ allD t = true) := ⟨⟨g2,g3,g4,g5,g6⟩⟩
  obtain ⟨p1,p2,hP⟩ : ∃ p1 p2,padS t y.f3 = (p1,p2) := ⟨_,_,rfl⟩
  rw [hP] at hg
  have HG := aS hg
  clear hg h4 g1 g2 g3 g4 g5 g6
  cases p2 with
  | false =>
   go_enter func43,ntmps43
   go_wp2_with (first | (go_at_call 36;refine (schema_Find.at st ver A c l _ _ hl (c_B HR.out (Box3.start w _ _ _).below) HC.out).mono ?_;rintro e w3 ⟨rfl,hb1⟩;rw [hF];have D := aS (Box3.init hb1);clear hb1;obtain ⟨a0,a1,a2,a3,a4⟩ := cells_5 D.out.h1;obtain ⟨b0,b1,b2⟩ := cells_3 D.out.h2;obtain ⟨c0,c1⟩ := cells_2 D.out.h3;obtain ⟨f0,f1⟩ := froz_2 D.out.h3;have AA := cells_5a D.out.h1;have BA := cells_3a D.out.h2;have CA := cells_2a D.out.h3;have FA := froz_2a D.out.h3;simp only [v87]) | (go_at_call 99;refine (digits_Pad.at _ _ _ hp.out.2.2.1 hp.out.2.2.2.1 hp.out.2.2.2.2 ⟨hp.out.1,hp.out.2.1⟩).mono ?_;rintro e w4 ⟨rfl,hb1⟩;rw [hP];have D_ := aS (D.out.step (below_a1 hb1));clear a0 a1 a2 a3 a4 b0 b1 b2 c0 c1 f0 f1 AA BA CA FA;clear D hb1;have D := D_;clear D_;obtain ⟨a0,a1,a2,a3,a4⟩ := cells_5 D.out.h1;obtain ⟨b0,b1,b2⟩ := cells_3 D.out.h2;obtain ⟨c0,c1⟩ := cells_2 D.out.h3;obtain ⟨f0,f1⟩ := froz_2 D.out.h3;have AA := cells_5a D.out.h1;have BA := cells_3a D.out.h2;have CA := cells_2a D.out.h3;have FA := froz_2a D.out.h3))
   refine bodyPost_ret (results_ct rfl _ _ (w.heap.size + 1 + 1) 63 _ (0,0) _ rfl (blk_put (blk_put D.out.h3 0 _ rfl) 1 _ rfl) hu63 rfl (by kernel_rfl)) rfl ?_
   obtain rfl := HG.out
   exact ⟨rfl,(D.out.below.setCell (p := ⟨w.heap.size + 1 + 1,0,none⟩) (by show w.heap.size ≤ w.heap.size + 1 + 1;omega) _).setCell (p := ⟨w.heap.size + 1 + 1,1,none⟩) (by show w.heap.size ≤ w.heap.size + 1 + 1;omega) _⟩
  | true =>
   go_enter func43,ntmps43
   go_wp2_with (first | (go_at_call 36;refine (schema_Find.at st ver A c l _ _ hl (c_B HR.out (Box3.start w _ _ _).below) HC.out).mono ?_;rintro e w3 ⟨rfl,hb1⟩;rw [hF];have D := aS (Box3.init hb1);clear hb1;obtain ⟨a0,a1,a2,a3,a4⟩ := cells_5 D.out.h1;obtain ⟨b0,b1,b2⟩ := cells_3 D.out.h2;obtain ⟨c0,c1⟩ := cells_2 D.out.h3;obtain ⟨f0,f1⟩ := froz_2 D.out.h3;have AA := cells_5a D.out.h1;have BA := cells_3a D.out.h2;have CA := cells_2a D.out.h3;have FA := froz_2a D.out.h3;simp only [v87]) | (go_at_call 99;refine (digits_Pad.at _ _ _ hp.out.2.2.1 hp.out.2.2.2.1 hp.out.2.2.2.2 ⟨hp.out.1,hp.out.2.1⟩).mono ?_;rintro e w4 ⟨rfl,hb1⟩;rw [hP];have D_ := aS (D.out.step (below_a1 hb1));clear a0 a1 a2 a3 a4 b0 b1 b2 c0 c1 f0 f1 AA BA CA FA;clear D hb1;have D := D_;clear D_;obtain ⟨a0,a1,a2,a3,a4⟩ := cells_5 D.out.h1;obtain ⟨b0,b1,b2⟩ := cells_3 D.out.h2;obtain ⟨c0,c1⟩ := cells_2 D.out.h3;obtain ⟨f0,f1⟩ := froz_2 D.out.h3;have AA := cells_5a D.out.h1;have BA := cells_3a D.out.h2;have CA := cells_2a D.out.h3;have FA := froz_2a D.out.h3))
   refine bodyPost_ret (results_ct rfl _ _ (w.heap.size + 1 + 1) 63 _ (0,0) _ rfl (blk_put (blk_put D.out.h3 0 _ rfl) 1 _ rfl) hu63 rfl (by kernel_rfl)) rfl ?_
   obtain rfl := HG.out
   exact ⟨rfl,(D.out.below.setCell (p := ⟨w.heap.size + 1 + 1,0,none⟩) (by show w.heap.size ≤ w.heap.size + 1 + 1;omega) _).setCell (p := ⟨w.heap.size + 1 + 1,1,none⟩) (by show w.heap.size ≤ w.heap.size + 1 + 1;omega) _⟩
 ·simp only [reduceIte,Int.reduceEq] at hg
  obtain ⟨p1,p2,hP⟩ : ∃ p1 p2,headS t ps = (p1,p2) := ⟨_,_,rfl⟩
  rw [hP] at hg
  have HG := aS hg
  clear hg h4
  cases p2 with
  | false =>
   go_enter func43,ntmps43
   go_wp2_with (first | (go_at_call 100;refine (codes_Apply.at _ _ ps _ _ HL4.out (c_B HR4.out (Box3.start w _ _ _).below) HC4.out).mono ?_;rintro e w3 ⟨rfl,hb1⟩;rw [hP];have D := aS (Box3.init hb1);clear hb1;obtain ⟨a0,a1,a2,a3,a4⟩ := cells_5 D.out.h1;obtain ⟨b0,b1,b2⟩ := cells_3 D.out.h2;obtain ⟨c0,c1⟩ := cells_2 D.out.h3;obtain ⟨f0,f1⟩ := froz_2 D.out.h3;have AA := cells_5a D.out.h1;have BA := cells_3a D.out.h2;have CA := cells_2a D.out.h3;have FA := froz_2a D.out.h3))
   refine bodyPost_ret (results_ct rfl _ _ (w.heap.size + 1 + 1) 63 _ (0,0) _ rfl (blk_put (blk_put D.out.h3 0 _ rfl) 1 _ rfl) hu63 rfl (by kernel_rfl)) rfl ?_
   obtain rfl := HG.out
   exact ⟨rfl,(D.out.below.setCell (p := ⟨w.heap.size + 1 + 1,0,none⟩) (by show w.heap.size ≤ w.heap.size + 1 + 1;omega) _).setCell (p := ⟨w.heap.size + 1 + 1,1,none⟩) (by show w.heap.size ≤ w.heap.size + 1 + 1;omega) _⟩
  | true =>
   go_enter func43,ntmps43
   go_wp2_with (first | (go_at_call 100;refine (codes_Apply.at _ _ ps _ _ HL4.out (c_B HR4.out (Box3.start w _ _ _).below) HC4.out).mono ?_;rintro e w3 ⟨rfl,hb1⟩;rw [hP];have D := aS (Box3.init hb1);clear hb1;obtain ⟨a0,a1,a2,a3,a4⟩ := cells_5 D.out.h1;obtain ⟨b0,b1,b2⟩ := cells_3 D.out.h2;obtain ⟨c0,c1⟩ := cells_2 D.out.h3;obtain ⟨f0,f1⟩ := froz_2 D.out.h3;have AA := cells_5a D.out.h1;have BA := cells_3a D.out.h2;have CA := cells_2a D.out.h3;have FA := froz_2a D.out.h3))
   refine bodyPost_ret (results_ct rfl _ _ (w.heap.size + 1 + 1) 63 _ (0,0) _ rfl (blk_put (blk_put D.out.h3 0 _ rfl) 1 _ rfl) hu63 rfl (by kernel_rfl)) rfl ?_
   obtain rfl := HG.out
   exact ⟨rfl,(D.out.below.setCell (p := ⟨w.heap.size + 1 + 1,0,none⟩) (by show w.heap.size ≤ w.heap.size + 1 + 1;omega) _).setCell (p := ⟨w.heap.size + 1 + 1,1,none⟩) (by show w.heap.size ≤ w.heap.size + 1 + 1;omega) _⟩
end Go.Proofs.YtgbmnpgaddhfpaaGreatDoor.T
