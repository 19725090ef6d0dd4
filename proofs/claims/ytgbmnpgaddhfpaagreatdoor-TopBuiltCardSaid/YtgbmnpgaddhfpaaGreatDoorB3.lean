/- Walks and plain laws beneath the law TopBuilt. No conditions but what each statement names. -/
import Derived.Test.YtgbmnpgaddhfpaaGreatDoorB1
set_option linter.unusedVariables false
set_option linter.unusedSimpArgs false
namespace Go.Proofs.YtgbmnpgaddhfpaaGreatDoor.T
open Go.RowKit Go.Proofs.YtgbmnpgaddhfpaaGreatDoorW.PrintWords Go.Proofs.YtgbmnpgaddhfpaaGreatDoorW.PrintLast Go.Proofs.YtgbmnpgaddhfpaaGreatDoorW.PrintMore
attribute [local go_sem] max2_int min2_int max_two min_two
open Go.Proofs.YtgbmnpgaddhfpaaGreatDoor.G
open Tryz
set_option maxRecDepth 100000
def berSz (n : Int) : Int := if n < 0 ∨ n > 65535 then 0 else if n > 255 then 3 else if n > 127 then 2 else 1
def getLen (s : ByteArray) (i : Int) : Int × Int × Int :=
 if i < 0 ∨ i > s.size then (0,0,1) else if i = s.size then (0,0,2) else
 if bt s i ≤ 127 then (bt s i,i + 1,0) else if bt s i = 129 then
  if (s.size : Int) - i < 2 then (0,0,2) else if bt s (i + 1) ≤ 127 then (0,0,14) else (bt s (i + 1),i + 2,0)
 else if bt s i = 130 then
  if (s.size : Int) - i < 3 then (0,0,2) else if bt s (i + 1) = 0 then (0,0,14) else (bt s (i + 1) * 256 + bt s (i + 2),i + 3,0)
 else (0,0,14)
theorem ber_Size.at (n : Int) (w : World) : Calls prog 189 #[.int .i64 n] w fun e w' => e = .returned (.int .i64 (berSz n)) ∧ w' = w := by
 go_enter func189,ntmps189
 go_wp2
 all_goals go_ret
 all_goals refine ⟨ret_int ?_,rfl⟩
 all_goals (unfold berSz;(repeat' split) <;> first | rfl | omega)
theorem sz1 {n : Int} (h0 : 0 ≤ n) (h1 : n ≤ 127) : berSz n = 1 := by unfold berSz;rw [if_neg (by omega),if_neg (by omega),if_neg (by omega)]
theorem sz2 {n : Int} (h0 : 127 < n) (h1 : n ≤ 255) : berSz n = 2 := by unfold berSz;rw [if_neg (by omega),if_neg (by omega),if_pos (by omega)]
theorem sz3 {n : Int} (h0 : 255 < n) (h1 : n ≤ 65535) : berSz n = 3 := by unfold berSz;rw [if_neg (by omega),if_pos (by omega)]
theorem sz_le {n : Int} (h1 : n ≤ 255) : berSz n ≤ 2 := by unfold berSz;(repeat' split) <;> omega
def lenAcc (s : ByteArray) (i v : Int) : Nat → Int
 | 0 => v
 | m + 1 => lenAcc s i v m * 256 + bt s (i + m)
theorem ber_Get.at (s : ByteArray) (i : Int) (w : World) (hs : s.size ≤ 4611686018427387904) : Calls prog 169 #[.string s,.int .i64 i] w fun e w' => e = .returned (.tuple #[.int .i64 (getLen s i).1,.int .i64 (getLen s i).2.1,.int .i64 (getLen s i).2.2]) ∧ w' = w := by
 by_cases h0 : i < 0
 ·rw [show getLen s i = (0,0,1) by unfold getLen;rw [if_pos (.inl h0)]]
  go_enter func169,ntmps169
  go_wp2
  go_ret3
  exact ⟨rfl,rfl⟩
 by_cases h1 : i > s.size
 ·rw [show getLen s i = (0,0,1) by unfold getLen;rw [if_pos (.inr h1)]]
  have d0 : decide (i < 0) = false := d_F h0
  have d1 : decide ((s.size : Int) < i) = true := d_T h1
  go_enter func169,ntmps169
  go_wp2
  go_ret3
  exact ⟨rfl,rfl⟩
 obtain ⟨n,rfl⟩ : ∃ n : Nat,i = n := ⟨i.toNat,by omega⟩
 have d0 : decide ((n : Int) < 0) = false := d_F h0
 have d1 : decide ((s.size : Int) < n) = false := d_F h1
 by_cases h2 : n = s.size
 ·have d2 : ((n : Int) == (s.size : Int)) = true := beq_iff_eq.mpr (by omega)
  rw [show getLen s n = (0,0,2) by unfold getLen;rw [if_neg (by omega),if_pos (by omega)]]
  go_enter func169,ntmps169
  go_wp2
  go_ret3
  exact ⟨rfl,rfl⟩
 have d2 : ((n : Int) == (s.size : Int)) = false := beq_eq_false_iff_ne.mpr (by omega)
 have hn : n < s.size := by omega
 have p : (0 ≤ (n : Int)) = True := eq_true (by omega)
 have q : ((n : Int) < s.size) = True := eq_true (by omega)
 have hb := bt_get hn
 have hr := bt_range s n
 rw [hb] at hr
 by_cases h3 : ((s[n]'hn).toNat : Int) ≤ 127
 ·have d3 : decide (127 < ((s[n]'hn).toNat : Int)) = false := d_F (by omega)
  rw [show getLen s n = (((s[n]'hn).toNat : Int),(n : Int) + 1,0) by unfold getLen;rw [if_neg (by omega),if_neg (by omega),hb,if_pos h3]]
  go_enter func169,ntmps169
  go_wp2
  go_loopg [7,45] 0 (fun g v7 v45 w' => v7 = .int .i64 ((s[n]'hn).toNat : Int) ∧ v45 = .int .i64 0 ∧ w' = w)
  case atStart => exact ⟨rfl,rfl,rfl⟩
  case round =>
   obtain ⟨rfl,rfl,rfl⟩ := hrel
   have z := sz1 hr.1 h3
   go_wp2_with (go_at_call 189;refine (ber_Size.at _ _).mono ?_;rintro e w1 ⟨rfl,rfl⟩;rw [z])
   go_ret3
   exact ⟨rfl,rfl⟩
 have d3 : decide (127 < ((s[n]'hn).toNat : Int)) = true := d_T (by omega)
 by_cases h4 : ((s[n]'hn).toNat : Int) = 129
 ·rw [h4] at d3
  by_cases h5 : (s.size : Int) - n < 2
  ·have d5 : decide ((s.size : Int) - ((n : Int) + 1) < 1) = true := d_T (by omega)
   rw [show getLen s n = (0,0,2) by unfold getLen;rw [if_neg (by omega),if_neg (by omega),hb,if_neg h3,if_pos h4,if_pos h5]]
   go_enter func169,ntmps169
   go_wp2
   go_ret3
   exact ⟨rfl,rfl⟩
  have d5 : decide ((s.size : Int) - ((n : Int) + 1) < 1) = false := d_F (by omega)
  have HG : Aside0 (getLen s n = if bt s ((n : Int) + 1) ≤ 127 then (0,0,14) else (bt s ((n : Int) + 1),(n : Int) + 2,0)) := ⟨by unfold getLen;rw [if_neg (by omega),if_neg (by omega),hb,if_neg h3,if_pos h4,if_neg h5]⟩
  go_enter func169,ntmps169
  go_wp2
  go_loopg [7,45] 1 (fun g v7 v45 w' => ∃ j : Nat,v7 = .int .i64 (lenAcc s ((n + 1 : Nat) : Int) 0 j) ∧ v45 = .int .i64 j ∧ j + g = 1 ∧ w' = w)
  case atStart => exact ⟨0,rfl,rfl,rfl,rfl⟩
  case round =>
   obtain ⟨j,rfl,rfl,hj,rfl⟩ := hrel
   by_cases c : j < 1
   ·have c0 : decide ((j : Int) < 1) = true := d_T (by omega)
    have hm : n + 1 + j < s.size := by omega
    have p3 : (0 ≤ (n : Int) + 1 + j) = True := eq_true (by omega)
    have q3 : ((n : Int) + 1 + j < s.size) = True := eq_true (by omega)
    have hb3 := bt_get hm
    have hr3 := bt_range s (n + 1 + j : Nat)
    rw [hb3] at hr3
    have hv : 0 ≤ lenAcc s ((n + 1 : Nat) : Int) 0 j ∧ lenAcc s ((n + 1 : Nat) : Int) 0 j ≤ 255 := by
     rcases j with _ | _ | j
     ·exact ⟨Int.le_refl 0,by show (0 : Int) ≤ 255;decide⟩
     ·have := bt_range s (((n + 1 : Nat) : Int) + (0 : Nat))
      unfold lenAcc lenAcc
      omega
     ·omega
    have hst : lenAcc s ((n + 1 : Nat) : Int) 0 (j + 1) = lenAcc s ((n + 1 : Nat) : Int) 0 j * 256 + ((s[n + 1 + j]'hm).toNat : Int) := by
     rw [lenAcc,show (((n + 1 : Nat) : Int) + (j : Int)) = ((n + 1 + j : Nat) : Int) from rfl,hb3]
    generalize lenAcc s ((n + 1 : Nat) : Int) 0 j = v at *
    have e8 := or8 (x := v) (y := ((s[n + 1 + j]'hm).toNat : Int)) (by omega) (by omega) (by omega) (by omega)
    go_wp2
    obtain ⟨g,rfl⟩ : ∃ g,gk = g + 1 := ⟨gk - 1,by omega⟩
    go_roundg g
    case rel => exact ⟨j + 1,by rw [hst],rfl,by omega,rfl⟩
    case measure => omega
   ·have c0 : decide ((j : Int) < 1) = false := d_F (by omega)
    obtain rfl : j = 1 := by omega
    have hV : lenAcc s ((n + 1 : Nat) : Int) 0 1 = bt s ((n : Int) + 1) := by
     show 0 * 256 + bt s (((n : Int) + 1) + 0) = _
     rw [Int.add_zero,Int.zero_mul,Int.zero_add]
    have hr3 := bt_range s ((n : Int) + 1)
    rw [hV]
    by_cases h6 : bt s ((n : Int) + 1) ≤ 127
    ·have z := sz1 hr3.1 h6
     go_wp2_with (go_at_call 189;refine (ber_Size.at _ _).mono ?_;rintro e w1 ⟨rfl,rfl⟩;rw [z])
     go_ret3
     exact ⟨by rw [HG.out,if_pos h6];rfl,rfl⟩
    ·have H6 := aS h6
     have z := sz2 (Int.not_le.1 h6) hr3.2
     go_wp2_with (go_at_call 189;refine (ber_Size.at _ _).mono ?_;rintro e w1 ⟨rfl,rfl⟩;rw [z])
     go_ret3
     exact ⟨by rw [HG.out,if_neg (Int.not_le.2 H6.out),show (n : Int) + 2 = (n : Int) + 1 + 1 by omega];rfl,rfl⟩
 by_cases h7 : ((s[n]'hn).toNat : Int) = 130
 ·rw [h7] at d3
  by_cases h5 : (s.size : Int) - n < 3
  ·have d5 : decide ((s.size : Int) - ((n : Int) + 1) < 2) = true := d_T (by omega)
   rw [show getLen s n = (0,0,2) by unfold getLen;rw [if_neg (by omega),if_neg (by omega),hb,if_neg h3,if_neg h4,if_pos h7,if_pos h5]]
   go_enter func169,ntmps169
   go_wp2
   go_ret3
   exact ⟨rfl,rfl⟩
  have d5 : decide ((s.size : Int) - ((n : Int) + 1) < 2) = false := d_F (by omega)
  have HG : Aside0 (getLen s n = if bt s ((n : Int) + 1) = 0 then (0,0,14) else (bt s ((n : Int) + 1) * 256 + bt s ((n : Int) + 2),(n : Int) + 3,0)) := ⟨by unfold getLen;rw [if_neg (by omega),if_neg (by omega),hb,if_neg h3,if_neg h4,if_pos h7,if_neg h5]⟩
  go_enter func169,ntmps169
  go_wp2
  go_loopg [7,45] 2 (fun g v7 v45 w' => ∃ j : Nat,v7 = .int .i64 (lenAcc s ((n + 1 : Nat) : Int) 0 j) ∧ v45 = .int .i64 j ∧ j + g = 2 ∧ w' = w)
  case atStart => exact ⟨0,rfl,rfl,rfl,rfl⟩
  case round =>
   obtain ⟨j,rfl,rfl,hj,rfl⟩ := hrel
   by_cases c : j < 2
   ·have c0 : decide ((j : Int) < 2) = true := d_T (by omega)
    have hm : n + 1 + j < s.size := by omega
    have p3 : (0 ≤ (n : Int) + 1 + j) = True := eq_true (by omega)
    have q3 : ((n : Int) + 1 + j < s.size) = True := eq_true (by omega)
    have hb3 := bt_get hm
    have hr3 := bt_range s (n + 1 + j : Nat)
    rw [hb3] at hr3
    have hv : 0 ≤ lenAcc s ((n + 1 : Nat) : Int) 0 j ∧ lenAcc s ((n + 1 : Nat) : Int) 0 j ≤ 255 := by
     rcases j with _ | _ | j
     ·exact ⟨Int.le_refl 0,by show (0 : Int) ≤ 255;decide⟩
     ·have := bt_range s (((n + 1 : Nat) : Int) + (0 : Nat))
      unfold lenAcc lenAcc
      omega
     ·omega
    have hst : lenAcc s ((n + 1 : Nat) : Int) 0 (j + 1) = lenAcc s ((n + 1 : Nat) : Int) 0 j * 256 + ((s[n + 1 + j]'hm).toNat : Int) := by
     rw [lenAcc,show (((n + 1 : Nat) : Int) + (j : Int)) = ((n + 1 + j : Nat) : Int) from rfl,hb3]
    generalize lenAcc s ((n + 1 : Nat) : Int) 0 j = v at *
    have e8 := or8 (x := v) (y := ((s[n + 1 + j]'hm).toNat : Int)) (by omega) (by omega) (by omega) (by omega)
    go_wp2
    obtain ⟨g,rfl⟩ : ∃ g,gk = g + 1 := ⟨gk - 1,by omega⟩
    go_roundg g
    case rel => exact ⟨j + 1,by rw [hst],rfl,by omega,rfl⟩
    case measure => omega
   ·have c0 : decide ((j : Int) < 2) = false := d_F (by omega)
    obtain rfl : j = 2 := by omega
    have hV : lenAcc s ((n + 1 : Nat) : Int) 0 2 = bt s ((n : Int) + 1) * 256 + bt s ((n : Int) + 2) := by
     show (0 * 256 + bt s (((n : Int) + 1) + 0)) * 256 + bt s (((n : Int) + 1) + 1) = _
     rw [Int.add_zero,Int.zero_mul,Int.zero_add,show (n : Int) + 1 + 1 = n + 2 by omega]
    have hr3 := bt_range s ((n : Int) + 1)
    have hr4 := bt_range s ((n : Int) + 2)
    rw [hV]
    by_cases h6 : bt s ((n : Int) + 1) = 0
    ·have z : (berSz (bt s ((n : Int) + 2)) == 3) = false := by
      have := sz_le (n := bt s ((n : Int) + 2)) (by omega)
      exact beq_eq_false_iff_ne.mpr (by omega)
     have z2 : (berSz (bt s ((n : Int) + 2)) != 3) = true := by rw [bne,z];rfl
     rw [h6,Int.zero_mul,Int.zero_add]
     have H6 := aS h6
     clear h6
     go_wp2_with (go_at_call 189;refine (ber_Size.at _ _).mono ?_;rintro e w1 ⟨rfl,rfl⟩)
     go_ret3
     exact ⟨by rw [HG.out,if_pos H6.out];rfl,rfl⟩
    ·have H6 := aS h6
     have z := sz3 (n := bt s ((n : Int) + 1) * 256 + bt s ((n : Int) + 2)) (by omega) (by omega)
     go_wp2_with (go_at_call 189;refine (ber_Size.at _ _).mono ?_;rintro e w1 ⟨rfl,rfl⟩;rw [z])
     go_ret3
     exact ⟨by rw [HG.out,if_neg H6.out,show (n : Int) + 3 = (n : Int) + 1 + 2 by omega];rfl,rfl⟩
 rw [show getLen s n = (0,0,14) by unfold getLen;rw [if_neg (by omega),if_neg (by omega),hb,if_neg h3,if_neg h4,if_neg h7]]
 by_cases h8 : ((s[n]'hn).toNat : Int) = 128
 ·have d8 : (((s[n]'hn).toNat : Int) == 128) = true := beq_iff_eq.mpr h8
  go_enter func169,ntmps169
  go_wp2
  go_ret3
  exact ⟨rfl,rfl⟩
 ·have d8 : (((s[n]'hn).toNat : Int) == 128) = false := beq_eq_false_iff_ne.mpr h8
  have d9 : decide (130 < ((s[n]'hn).toNat : Int)) = true := d_T (by omega)
  go_enter func169,ntmps169
  go_wp2
  go_ret3
  exact ⟨rfl,rfl⟩
end Go.Proofs.YtgbmnpgaddhfpaaGreatDoor.T
namespace Go.Proofs.YtgbmnpgaddhfpaaGreatDoor.T
open Go.RowKit Go.Proofs.YtgbmnpgaddhfpaaGreatDoorW.PrintWords Go.Proofs.YtgbmnpgaddhfpaaGreatDoorW.PrintLast Go.Proofs.YtgbmnpgaddhfpaaGreatDoorW.PrintMore
attribute [local go_sem] max2_int min2_int max_two min_two
open Tryz
set_option maxRecDepth 100000
def bothL : List (List Int) := [[2,1,2,12,19,1,2,12,19],[3,1,1,6,6,1,1,6,6],[4,1,1,12,12,1,1,12,12],[7,1,1,10,10,1,1,10,10],[11,1,1,6,6,1,1,6,6],[12,1,1,6,6,1,1,12,12],[13,1,1,4,4,0,0,0,0],[14,1,1,4,4,1,1,4,4],[18,1,1,4,4,0,0,0,0],[22,1,1,3,3,3,1,12,12],[23,1,1,3,3,1,1,3,3],[26,0,0,0,0,1,1,4,4],[32,1,2,1,11,1,2,1,11],[35,4,2,1,37,4,2,1,37],[37,3,1,12,12,3,1,12,12],[38,3,1,6,6,3,1,6,6],[39,3,1,2,2,1,1,3,3],[41,4,1,8,8,4,1,8,8],[42,4,1,15,15,4,1,15,15],[43,4,1,40,40,4,2,1,99],[48,4,3,1,999,4,3,1,999],[49,1,1,3,3,1,1,3,3],[52,5,1,8,8,5,1,8,8],[55,6,3,1,255,6,3,1,255],[64,5,1,8,8,5,1,8,8],[70,1,1,3,3,1,1,3,3],[90,1,1,42,42,0,0,0,0],[102,4,2,1,28,4,2,1,28],[128,5,1,8,8,5,1,8,8]]
def groatref14_both.f : Option (List (List Int)) := some bothL
def laidR (W : World) : List (List Int) → World
 | [] => W
 | r :: rs => laidR (W.alloc (.cells (r.map (.int .i64)).toArray 3)) rs
def slicesR (b : Nat) : List (List Int) → List Value
 | [] => []
 | r :: rs => .slice (some ⟨b,0,none⟩) r.length r.length :: slicesR (b + 1) rs
theorem int_reps (base : Nat) (ok : Nat → Prop) (w : World) (xs : List Int) : Reps ((Kd.int .i64).M w base ok) (Kd.int .i64).sz xs (xs.map (.int .i64)) := by
 refine ⟨by simp [Kd.int,Kd.scalar],fun j p hj => ?_⟩
 have h2 : ((xs.map (Value.int .i64)).drop (j * 1)).take 1 = [.int .i64 p] := by
  obtain ⟨hl,e⟩ := List.getElem?_eq_some_iff.1 hj
  rw [Nat.mul_one,List.drop_eq_getElem_cons (by simpa using hl)]
  simp [e]
 show (Kd.int .i64).M w base ok p (((xs.map (Value.int .i64)).drop (j * 1)).take 1)
 rw [h2]
 exact rfl
theorem slicesR_len : ∀ (rs : List (List Int)) (b : Nat),(slicesR b rs).length = rs.length
 | [],_ => rfl
 | r :: rs,b => by simp [slicesR,slicesR_len rs]
theorem litR (W : World) (base : Nat) (ok : Nat → Prop) (r : List Int) (hb : base ≤ W.heap.size) (hok : ok W.heap.size) (hl : r.length ≤ 1000) : (Kd.int .i64).R 3 (W.alloc (.cells (r.map (.int .i64)).toArray 3)) base ok (.slice (some ⟨W.heap.size,0,none⟩) r.length r.length) r := by
 refine ⟨fun k hk => ?_,r.map (.int .i64),?_,int_reps _ _ _ _⟩
 ·have : W.heap.size = k := by simpa [Value.ownBlock] using hk
  exact this ▸ hok
 ·have h2 := World.ownsRow_lit (base := base) (e := 3) (size := 1) W (r.map (.int .i64)).toArray r.length hb (by unfold maxLen;omega) (by simp)
  show World.ownsRow _ base 3 1 _ _ _
  simpa using h2
theorem laidR_all {base : Nat} {ok : Nat → Prop} : ∀ (rs : List (List Int)) (W : World),base ≤ W.heap.size → (∀ k,W.heap.size ≤ k → ok k) → (∀ r ∈ rs,r.length ≤ 1000) →
  (Below W.heap.size W (laidR W rs) ∧ (laidR W rs).heap.size = W.heap.size + rs.length) ∧ ∀ (j : Nat) (r : List Int),rs[j]? = some r → (slicesR W.heap.size rs)[j]? = some (.slice (some ⟨W.heap.size + j,0,none⟩) r.length r.length) ∧ (Kd.int .i64).R 3 (laidR W rs) base ok (.slice (some ⟨W.heap.size + j,0,none⟩) r.length r.length) r
 | [],W,_,_,_ => ⟨⟨Below.refl _ _,rfl⟩,fun j r h => by simp at h⟩
 | r :: rs,W,hb,hok,hl => by
  have hs : (W.alloc (.cells (r.map (.int .i64)).toArray 3)).heap.size = W.heap.size + 1 := size_alloc _ _
  obtain ⟨⟨h1,h3⟩,h2⟩ := laidR_all rs (W.alloc (.cells (r.map (.int .i64)).toArray 3)) (base := base) (ok := ok) (by omega) (fun k hk => hok k (by omega)) (fun r hr => hl r (List.mem_cons_of_mem _ hr))
  refine ⟨⟨b_s (bO _) h1,by show (laidR _ rs).heap.size = _;rw [h3,hs,List.length_cons];omega⟩,fun j x hj => ?_⟩
  rcases j with _ | j
  ·obtain rfl := Option.some.inj (show some r = some x from hj)
   exact ⟨rfl,Kd.R_below (litR W base ok r hb (hok _ (Nat.le_refl _)) (hl r (List.mem_cons_self ..))) h1⟩
  ·have h4 := h2 j x hj
   rw [hs,show W.heap.size + 1 + j = W.heap.size + (j + 1) by omega] at h4
   exact h4
theorem bothR (w : World) : Kd.R (Kd.slice 3 (Kd.int .i64)) 29 ((laidR w bothL).alloc (.cells (slicesR w.heap.size bothL).toArray 29)) w.heap.size (fun k => w.heap.size ≤ k) (.slice (some ⟨w.heap.size + 29,0,none⟩) 29 29) bothL := by
 obtain ⟨⟨h1,h3⟩,h2⟩ := laidR_all (base := w.heap.size) (ok := fun k => w.heap.size ≤ k) bothL w (Nat.le_refl _) (fun k hk => hk) (by decide)
 have hn : bothL.length = 29 := rfl
 rw [hn] at h3
 have hown : ∀ k,(Value.slice (some ⟨w.heap.size + 29,0,none⟩) 29 29).ownBlock = some k → w.heap.size + 29 = k := fun k hk => by simpa [Value.ownBlock] using hk
 refine ⟨fun k hk => by have := hown k hk;omega,slicesR w.heap.size bothL,?_,?_,fun j p hj => ?_⟩
 ·have h4 := World.ownsRow_lit (base := w.heap.size) (e := 29) (size := 1) (laidR w bothL) (slicesR w.heap.size bothL).toArray 29 (by rw [h3];omega) (by decide) (by simp [slicesR_len,hn])
  rw [h3] at h4
  show World.ownsRow _ w.heap.size 29 1 _ _ _
  simpa [hn] using h4
 ·rw [slicesR_len]
  rfl
 ·obtain ⟨e1,hR⟩ := h2 j p hj
  have e2 : ((slicesR w.heap.size bothL).drop (j * (Kd.slice 3 (Kd.int .i64)).sz)).take (Kd.slice 3 (Kd.int .i64)).sz = [.slice (some ⟨w.heap.size + j,0,none⟩) p.length p.length] := by
   show ((slicesR w.heap.size bothL).drop (j * 1)).take 1 = _
   obtain ⟨hl,e⟩ := List.getElem?_eq_some_iff.1 e1
   rw [Nat.mul_one,List.drop_eq_getElem_cons hl]
   simp [e]
  rw [e2]
  exact ⟨_,rfl,Kd.R_alloc (Kd.R_mono (Kd.R_bound hR) (fun k hk => ⟨hk.1,fun e => by have h5 := hown k e.symm;have h6 := hk.2.2.1;omega⟩)) _⟩
set_option maxHeartbeats 4000000 in
theorem both_walk (w : World) : Calls prog 69 #[] w fun e w' => e = .returned (.slice (some ⟨w.heap.size + 29,0,none⟩) 29 29) ∧ w' = (laidR w bothL).alloc (.cells (slicesR w.heap.size bothL).toArray 29) := by
 go_enter func69,ntmps69
 go_wp2
 go_ret
 exact ⟨rfl,rfl⟩
theorem groatref14_both.calls (r : List (List Int)) (w : World) (h : groatref14_both.f = some r) :
  Calls prog 69 #[] w fun e w' => ∃ v0_ : Value,e = .returned v0_ ∧ Kd.N (Kd.slice 3 (Kd.int .i64)) 29 w' w.heap.size (fun k_ => (w.heap.size ≤ k_)) v0_ r ∧ Below w.heap.size w w' := by
 obtain rfl := Option.some.inj h
 refine (both_walk w).mono ?_
 rintro e w' ⟨rfl,rfl⟩
 have hb := (laidR_all (base := w.heap.size) (ok := fun _ => True) bothL w (Nat.le_refl _) (fun _ _ => trivial) (by decide)).1.1
 exact ⟨_,rfl,Kd.R_N (bothR w),b_l hb _⟩
end Go.Proofs.YtgbmnpgaddhfpaaGreatDoor.T
