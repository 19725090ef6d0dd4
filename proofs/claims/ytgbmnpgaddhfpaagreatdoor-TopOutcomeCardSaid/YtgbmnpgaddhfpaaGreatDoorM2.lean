/- Walks and plain laws beneath the law TopOutcome. No conditions but what each statement names. -/
import Derived.Test.YtgbmnpgaddhfpaaGreatDoorM1
set_option linter.unusedVariables false
set_option linter.unusedSimpArgs false
namespace Go.Proofs.YtgbmnpgaddhfpaaGreatDoor.T
open Go.RowKit Go.Proofs.YtgbmnpgaddhfpaaGreatDoorW.PrintWords Go.Proofs.YtgbmnpgaddhfpaaGreatDoorW.PrintLast Go.Proofs.YtgbmnpgaddhfpaaGreatDoorW.PrintMore
attribute [local go_sem] max2_int min2_int max_two min_two
open Tryz
set_option maxRecDepth 100000
def findS (no : Int) : List S87 → S87 × Bool
 | [] => (⟨0,0,0,0,0⟩,false)
 | x :: xs => if x.f0 = no then (x,true) else findS no xs
set_option maxHeartbeats 800000 in
theorem schema_Find.at (st ver : Int) (A : Option Addr) (c : Nat) (l : List S87) (no : Int) (w : World) (hl : l.length ≤ 4611686018427387904) (hr : Kd.C k87 w A l.length l) (hc : l.length ≤ c) :
  Calls prog 36 #[.agg #[.int .i64 st,.int .i64 ver,.slice A l.length c],.int .i64 no] w fun e w' => e = .returned (.tuple #[v87 (findS no l).1,.bool (findS no l).2]) ∧ Below w.heap.size w w' := by
 have hu24 := underlying24
 have hu87 := underlying87
 have HR := aS hr
 have HC := aS hc
 clear hr hc
 go_enter func36,ntmps36
 go_wp2
 generalize hw1 : (w.alloc _).alloc _ = w1
 have HB1 : Aside0 (Below w.heap.size w w1) := ⟨by rw [← hw1];exact b_l (bO _) _⟩
 have HBK : Aside0 (w1.heap[w.heap.size + 1]? = some (.cells #[.int .i64 0,.int .i64 0,.int .i64 0,.int .i64 0,.int .i64 0] 87 (0,0))) := ⟨by rw [← hw1];unfold World.alloc;rw [Array.getElem?_push,Array.size_push,if_pos rfl]⟩
 clear hw1
 go_loopg [11] l.length (fun g v11 w' => ∃ i : Nat,v11 = .int .i64 i ∧ i + g = l.length ∧ findS no (l.drop i) = findS no l ∧ Aside0 (Below w1.heap.size w1 w'))
 case atStart => exact ⟨0,rfl,Nat.zero_add _,rfl,⟨Below.refl _ _⟩⟩
 case round =>
  obtain ⟨i,rfl,hi,hf,HB⟩ := hrel
  have HBW : Aside0 (Below w.heap.size w wr) := ⟨b_s HB1.out HB.out⟩
  have HBR : Aside0 (wr.heap[w.heap.size + 1]? = some (.cells #[.int .i64 0,.int .i64 0,.int .i64 0,.int .i64 0,.int .i64 0] 87 (0,0))) := ⟨(HB.out.block _ (blk_lt HBK.out)).trans HBK.out⟩
  by_cases c : i < l.length
  ·have c0 : decide ((i : Int) < l.length) = true := d_T (by omega)
   obtain ⟨ad,rfl,hx0,hx1,hx2,hx3,hx4⟩ := at87 HR.out HBW.out i c
   have p : (0 ≤ (i : Int)) = True := eq_true (by omega)
   have q : ((i : Int) < l.length) = True := eq_true (by omega)
   rw [drop87 c,findS] at hf
   by_cases e : (rd_T87 l i).f0 = no
   ·have e0 : ((rd_T87 l i).f0 == no) = true := beq_iff_eq.mpr e
    rw [if_pos e] at hf
    have HF := aS hf
    clear hf
    have hcz0 := fun o => blk_cell (blk_alloc HBR.out o) 0
    have hcz1 := fun o => blk_cell (blk_alloc HBR.out o) 1
    have hcz2 := fun o => blk_cell (blk_alloc HBR.out o) 2
    have hcz3 := fun o => blk_cell (blk_alloc HBR.out o) 3
    have hcz4 := fun o => blk_cell (blk_alloc HBR.out o) 4
    have hfz0 := fun o => blk_frozen (blk_alloc HBR.out o) 0
    have hfz1 := fun o => blk_frozen (blk_alloc HBR.out o) 1
    have hfz2 := fun o => blk_frozen (blk_alloc HBR.out o) 2
    have hfz3 := fun o => blk_frozen (blk_alloc HBR.out o) 3
    have hfz4 := fun o => blk_frozen (blk_alloc HBR.out o) 4
    go_wp2
    refine bodyPost_ret (results_ct rfl _ _ (w.heap.size + 1) 87 _ (0,0) _ rfl (put5 (blk_alloc HBR.out _)) hu87 rfl (by kernel_rfl)) rfl ?_
    exact ⟨by rw [← HF.out,← e];rfl,below5 (b_l HBW.out _) (Nat.le_succ _)⟩
   ·have e0 : ((rd_T87 l i).f0 == no) = false := beq_eq_false_iff_ne.mpr e
    rw [if_neg e] at hf
    have HF := aS hf
    clear hf
    go_wp2
    obtain ⟨g,rfl⟩ : ∃ g,gk = g + 1 := ⟨gk - 1,by omega⟩
    go_roundg g
    case rel => exact ⟨i + 1,rfl,by omega,HF.out,⟨below_then HB.out HB.out.size (bO _)⟩⟩
    case measure => omega
  ·have c0 : decide ((i : Int) < l.length) = false := d_F (by omega)
   rw [List.drop_of_length_le (by omega),findS] at hf
   have HF := aS hf
   clear hf
   have hcz0 := blk_cell HBR.out 0
   have hfz0 := blk_frozen HBR.out 0
   have hcz1 := blk_cell HBR.out 1
   have hfz1 := blk_frozen HBR.out 1
   have hcz2 := blk_cell HBR.out 2
   have hfz2 := blk_frozen HBR.out 2
   have hcz3 := blk_cell HBR.out 3
   have hfz3 := blk_frozen HBR.out 3
   have hcz4 := blk_cell HBR.out 4
   have hfz4 := blk_frozen HBR.out 4
   go_wp2
   refine bodyPost_ret (results_ct rfl _ _ (w.heap.size + 1) 87 _ (0,0) _ rfl (put5 HBR.out) hu87 rfl (by kernel_rfl)) rfl ?_
   exact ⟨by rw [← HF.out];rfl,below5 HBW.out (Nat.le_succ _)⟩
def most (form : Int) : Int := if form = 2 then 99 else if form = 3 then 999 else 0
def specCheck (x : S87) : Int :=
 if x.f0 < 2 ∨ x.f0 > 128 then 1 else if x.f1 < 1 ∨ x.f1 > 6 then 6 else if x.f2 < 1 ∨ x.f2 > 3 then 3 else
 if x.f3 < 1 ∨ x.f3 > x.f4 ∨ x.f4 > 999 then 5 else if x.f2 = 1 ∧ x.f3 ≠ x.f4 then 5 else if x.f2 ≠ 1 ∧ x.f4 > most x.f2 then 5 else if x.f2 = 1 ∧ x.f1 = 6 then 13 else 0
theorem class_Known.at (c : Int) (w : World) : Calls prog 133 #[.int .i64 c] w fun e w' => e = .returned (.bool (decide (1 ≤ c ∧ c ≤ 6))) ∧ w' = w := by
 go_enter func133,ntmps133
 go_wp2
 all_goals go_ret
 all_goals refine ⟨ret_bool ?_,rfl⟩
 all_goals simp only [beq_eq_false_iff_ne,beq_iff_eq,decide_eq_true_eq,decide_eq_false_iff_not,ne_eq] at *
 all_goals first | (rw [eq_comm,decide_eq_true_eq];omega) | (rw [eq_comm,decide_eq_false_iff_not];omega)
def width (form : Int) : Int := if form = 2 then 2 else if form = 3 then 3 else 0
theorem prefix_width.at (c : Int) (w : World) : Calls prog 137 #[.int .i64 c] w fun e w' => e = .returned (.int .i64 (width c)) ∧ w' = w := by
 go_enter func137,ntmps137
 go_wp2
 all_goals go_ret
 all_goals refine ⟨ret_int ?_,rfl⟩
 all_goals simp only [beq_eq_false_iff_ne,beq_iff_eq,ne_eq] at *
 all_goals (unfold width;(repeat' split) <;> first | rfl | omega)
def nines : Nat → Int
 | 0 => 0
 | n + 1 => 10 * nines n + 9
theorem prefix_Most.at (c : Int) (w : World) : Calls prog 134 #[.int .i64 c] w fun e w' => e = .returned (.int .i64 (most c)) ∧ w' = w := by
 have hm : ∃ n : Nat,n ≤ 3 ∧ most c = nines n ∧ width c = (n : Int) := by
  unfold most width
  split
  ·exact ⟨2,by decide,by decide,rfl⟩
  ·split
   ·exact ⟨3,by decide,by decide,rfl⟩
   ·exact ⟨0,by decide,by decide,rfl⟩
 obtain ⟨n,hn,hmn,he⟩ := hm
 rw [hmn]
 go_enter func134,ntmps134
 go_wp2_with (first | (go_at_call 137;refine (prefix_width.at _ _).mono ?_;rintro e w1 ⟨rfl,rfl⟩;rw [he]))
 go_loopg [3,6] n (fun g v3 v6 w' => ∃ i : Nat,v3 = .int .i64 (nines i) ∧ v6 = .int .i64 i ∧ i + g = n ∧ w' = w1)
 case atStart => exact ⟨0,rfl,rfl,Nat.zero_add _,rfl⟩
 case round =>
  obtain ⟨i,rfl,rfl,hi,rfl⟩ := hrel
  have hb : nines i ≤ 999 ∧ 0 ≤ nines i := by
   rcases i with _ | _ | _ | _ | i
   all_goals first | decide | omega
  by_cases c1 : i < n
  ·have c0 : decide ((i : Int) < n) = true := d_T (by omega)
   go_wp2
   obtain ⟨g,rfl⟩ : ∃ g,gk = g + 1 := ⟨gk - 1,by omega⟩
   go_roundg g
   case rel => exact ⟨i + 1,rfl,rfl,by omega,rfl⟩
   case measure => omega
  ·have c0 : decide ((i : Int) < n) = false := d_F (by omega)
   obtain rfl : i = n := by omega
   go_wp2
   go_ret
   exact ⟨rfl,rfl⟩
set_option maxHeartbeats 800000 in
theorem spec_Check.at (x : S87) (w : World) :
  Calls prog 77 #[v87 x] w fun e w' => e = .returned (.int .i64 (specCheck x)) ∧ Below w.heap.size w w' := by
 have hu87 := underlying87
 unfold v87
 go_enter func77,ntmps77
 go_wp2_with (first | (go_at_call 133;refine (class_Known.at _ _).mono ?_;rintro e w1 ⟨rfl,rfl⟩) | (go_at_call 134;refine (prefix_Most.at _ _).mono ?_;rintro e w1 ⟨rfl,rfl⟩))
 all_goals try (go_quiet (first | (go_at_call 134;exact Calls.quiet_of_same (prefix_Most.at _ _)));try go_wp2)
 all_goals go_ret
 all_goals refine ⟨ret_int ?_,by repeat (first | exact Below.refl _ _ | apply b_l | apply pw_below_drewN)⟩
 all_goals try simp only [beq_eq_false_iff_ne,beq_iff_eq,bne_iff_ne,bne_eq_false_iff_eq,decide_eq_true_eq,decide_eq_false_iff_not,ne_eq,Bool.not_eq_true',Bool.not_eq_false',Bool.not_eq_true,Bool.not_eq_false] at *
 all_goals (unfold specCheck;(repeat' split) <;> first | rfl | omega)
theorem blk_nb {w w1 : World} {o : Obj} (hb : Below (w.alloc o).heap.size (w.alloc o) w1) : w1.heap[w.heap.size]? = some o := (hb.block _ (by rw [size_alloc];omega)).trans (blk_new w o)
theorem blk_nb1 {w w1 : World} {a b : Obj} (hb : Below ((w.alloc a).alloc b).heap.size ((w.alloc a).alloc b) w1) : w1.heap[w.heap.size]? = some a := by
 refine (hb.block _ (by rw [size_alloc,size_alloc];omega)).trans ?_
 have h := (b_l (Below.refl (w.alloc a).heap.size (w.alloc a)) b).block w.heap.size (by rw [size_alloc];omega)
 exact h.trans (blk_new w a)
theorem blk_nb2 {w w1 : World} {a b : Obj} (hb : Below ((w.alloc a).alloc b).heap.size ((w.alloc a).alloc b) w1) : w1.heap[w.heap.size + 1]? = some b :=
 (hb.block _ (by rw [size_alloc,size_alloc];omega)).trans (alloc2 w a b)
theorem below_a1 {w w1 : World} {o : Obj} (hb : Below (w.alloc o).heap.size (w.alloc o) w1) : Below w.heap.size w w1 := b_s (bO _) hb
theorem below_a2 {w w1 : World} {a b : Obj} (hb : Below ((w.alloc a).alloc b).heap.size ((w.alloc a).alloc b) w1) : Below w.heap.size w w1 := b_s (bA _ _) hb
theorem four {w w1 : World} {a b c d : Obj} (hb : Below ((((w.alloc a).alloc b).alloc c).alloc d).heap.size ((((w.alloc a).alloc b).alloc c).alloc d) w1) :
  w1.heap[w.heap.size]? = some a ∧ w1.heap[w.heap.size + 1]? = some b ∧ w1.heap[w.heap.size + 1 + 1]? = some c ∧ w1.heap[w.heap.size + 1 + 1 + 1]? = some d ∧ Below w.heap.size w w1 :=
 ⟨k_B (blk_alloc (blk_alloc (blk_alloc (blk_new w a) b) c) d) hb,k_B (blk_alloc (blk_alloc (alloc2 w a b) c) d) hb,k_B (blk_alloc (alloc3 w a b c) d) hb,k_B (blk_top (by rw [size_alloc,size_alloc,size_alloc])) hb,b_s (b_l (b_l (bA _ _) _) _) hb⟩
def allD (s : ByteArray) : Bool := s.data.toList.all (fun c => decide (48 ≤ c.toNat ∧ c.toNat ≤ 57))
def digits_All.f (a0 : ByteArray) : Option Bool := some (allD a0)
theorem allD_step {s : ByteArray} {i : Nat} (h : i < s.size) : (s.data.toList.drop i).all (fun c => decide (48 ≤ c.toNat ∧ c.toNat ≤ 57)) = (decide (48 ≤ (s[i]'h).toNat ∧ (s[i]'h).toNat ≤ 57) && (s.data.toList.drop (i + 1)).all (fun c => decide (48 ≤ c.toNat ∧ c.toNat ≤ 57))) := by
 have hl : i < s.data.toList.length := by rw [Array.length_toList];exact h
 rw [List.drop_eq_getElem_cons hl,List.all_cons]
 rfl
theorem digits_All.calls (a0 : ByteArray) (r : Bool) (w : World) (h : digits_All.f a0 = some r) :
  Calls prog 109 #[.string a0] w fun e w' => e = .returned (.bool r) ∧ Below w.heap.size w w' := by
 obtain rfl : allD a0 = r := Option.some.inj h
 clear h
 go_enter func109,ntmps109
 go_wp2
 go_loopw [4] (fun _ w' => ∃ (pos : Nat),w' = w.iter a0 pos ∧ pos ≤ a0.size ∧ (a0.data.toList.drop pos).all (fun c => decide (48 ≤ c.toNat ∧ c.toNat ≤ 57)) = allD a0) (fun _ w' => a0.size - w'.iterPos w.heap.size)
 case atStart => exact ⟨0,rfl,Nat.zero_le _,rfl⟩
 case round =>
  obtain ⟨pos,rfl,hp0,hc⟩ := hrel
  by_cases hp : pos < a0.size
  ·have hnx : ∀ ty,(Instr.next (.pointer (some ⟨w.heap.size,0,none⟩)) true ty).run prog (w.iter a0 pos) = _ := fun ty => run_next_any w a0 pos ty hp
   rw [allD_step hp] at hc
   by_cases ha : (a0[pos]'hp).toNat < 128
   ·rw [decode_ascii a0 pos hp ha] at hnx
    simp only at hnx
    by_cases c1 : 48 ≤ (a0[pos]'hp).toNat ∧ (a0[pos]'hp).toNat ≤ 57
    ·have d1 : decide (((a0[pos]'hp).toNat : Int) < 48) = false := d_F (by omega)
     have d2 : decide (((a0[pos]'hp).toNat : Int) > 57) = false := d_F (by omega)
     have d3 : decide (57 < ((a0[pos]'hp).toNat : Int)) = false := d_F (by omega)
     rw [d_T c1,Bool.true_and] at hc
     go_wp2
     go_roundw
     case rel => exact ⟨pos + 1,rfl,hp,hc⟩
     case measure =>
      simp
      omega
    ·rw [d_F c1,Bool.false_and] at hc
     have HC := aS hc;clear hc
     by_cases d1 : ((a0[pos]'hp).toNat : Int) < 48
     ·have d2 : decide (((a0[pos]'hp).toNat : Int) < 48) = true := d_T d1
      go_wp2
      go_ret
      exact ⟨by rw [← HC.out];rfl,below_iter _ _ _⟩
     ·have d2 : decide (((a0[pos]'hp).toNat : Int) < 48) = false := d_F d1
      have d3 : decide (57 < ((a0[pos]'hp).toNat : Int)) = true := d_T (by omega)
      go_wp2
      go_ret
      exact ⟨by rw [← HC.out];rfl,below_iter _ _ _⟩
   ·have hd := (decode_high a0 pos hp (by omega)).1
    generalize Utf8.decode a0 pos = u at hnx hd
    obtain ⟨u1,u2⟩ := u
    simp only at hnx hd
    rw [d_F (by omega),Bool.false_and] at hc
    have HC := aS hc;clear hc
    have d2 : decide ((u1 : Int) < 48) = false := d_F (by omega)
    have d3 : decide (57 < (u1 : Int)) = true := d_T (by omega)
    go_wp2
    go_ret
    exact ⟨by rw [← HC.out];rfl,below_iter _ _ _⟩
  ·have hnx : ∀ ty,(Instr.next (.pointer (some ⟨w.heap.size,0,none⟩)) true ty).run prog (w.iter a0 pos) = _ := fun ty => run_next_end w a0 pos ty hp
   rw [List.drop_of_length_le (by rw [Array.length_toList];exact Nat.le_of_not_lt hp)] at hc
   have HC := aS hc;clear hc
   go_wp2
   go_ret
   exact ⟨by rw [← HC.out];rfl,below_iter _ _ _⟩
def numD (s : ByteArray) : Int := s.data.toList.foldl (fun n c => 10 * n + ((c.toNat : Int) - 48)) 0
def digits_Get.f (a0 : ByteArray) : Option (Int × Bool) := some (if a0.size = 0 ∨ a0.size > 18 ∨ allD a0 = false then (0,false) else (numD a0,true))
theorem numD_step {s : ByteArray} {i : Nat} (h : i < s.size) : (s.data.toList.take (i + 1)).foldl (fun (n : Int) c => 10 * n + ((c.toNat : Int) - 48)) 0 = 10 * (s.data.toList.take i).foldl (fun (n : Int) c => 10 * n + ((c.toNat : Int) - 48)) 0 + (((s[i]'h).toNat : Int) - 48) := by
 have hl : i < s.data.toList.length := by rw [Array.length_toList];exact h
 rw [List.take_succ_eq_append_getElem hl,List.foldl_append]
 rfl
theorem allD_at {s : ByteArray} (h : allD s = true) {i : Nat} (hi : i < s.size) : 48 ≤ (s[i]'hi).toNat ∧ (s[i]'hi).toNat ≤ 57 := by
 have hl : i < s.data.toList.length := by rw [Array.length_toList];exact hi
 have := List.all_eq_true.1 h (s.data.toList[i]) (List.getElem_mem hl)
 exact of_decide_eq_true this
theorem digits_Get.calls (a0 : ByteArray) (r1 : Int) (r2 : Bool) (w : World) (h : digits_Get.f a0 = some (r1,r2)) :
  Calls prog 138 #[.string a0] w fun e w' => e = .returned (.tuple #[.int .i64 r1,.bool r2]) ∧ Below w.heap.size w w' := by
 have h := Option.some.inj h
 by_cases c0 : a0.size = 0
 ·rw [if_pos (.inl c0)] at h
  obtain ⟨rfl,rfl⟩ := Prod.mk.inj h
  clear h
  have d0 : (a0.toList == ([] : List UInt8)) = true := by
   rw [beq_iff_eq,ByteArray.toList_eq,← List.length_eq_zero_iff,Array.length_toList];exact c0
  go_enter func138,ntmps138
  go_wp2
  go_ret2
  exact ⟨rfl,Below.refl _ _⟩
 have d0 : (a0.toList == ([] : List UInt8)) = false := by
  rw [beq_eq_false_iff_ne,ne_eq,ByteArray.toList_eq,← List.length_eq_zero_iff,Array.length_toList];exact c0
 by_cases c1 : a0.size > 18
 ·rw [if_pos (.inr (.inl c1))] at h
  obtain ⟨rfl,rfl⟩ := Prod.mk.inj h
  clear h
  have d1 : decide (18 < (a0.size : Int)) = true := d_T (by omega)
  go_enter func138,ntmps138
  go_wp2
  go_ret2
  exact ⟨rfl,Below.refl _ _⟩
 have d1 : decide (18 < (a0.size : Int)) = false := d_F (by omega)
 by_cases c2 : allD a0 = false
 ·rw [if_pos (.inr (.inr c2))] at h
  obtain ⟨rfl,rfl⟩ := Prod.mk.inj h
  clear h
  have A := congrArg some c2
  go_enter func138,ntmps138
  go_wp2_with (go_at_call 109;refine (digits_All.calls a0 false _ A).mono ?_;rintro e w1 ⟨rfl,hb⟩)
  go_ret2
  exact ⟨rfl,hb⟩
 have c3 : allD a0 = true := by simpa using c2
 rw [if_neg (fun c => c.elim c0 (fun c => c.elim c1 c2))] at h
 obtain ⟨rfl,rfl⟩ := Prod.mk.inj h
 clear h
 have A := congrArg some c3
 go_enter func138,ntmps138
 go_wp2_with (go_at_call 109;refine (digits_All.calls a0 true _ A).mono ?_;rintro e w1 ⟨rfl,hb⟩)
 go_loopw [4,6] (fun n _ w' => ∃ (pos : Nat),w' = w1.iter a0 pos ∧ n = .int .i64 ((a0.data.toList.take pos).foldl (fun (n : Int) c => 10 * n + ((c.toNat : Int) - 48)) 0) ∧ pos ≤ a0.size ∧ 0 ≤ (a0.data.toList.take pos).foldl (fun (n : Int) c => 10 * n + ((c.toNat : Int) - 48)) 0 ∧ (a0.data.toList.take pos).foldl (fun (n : Int) c => 10 * n + ((c.toNat : Int) - 48)) 0 < ((10 ^ pos : Nat) : Int)) (fun _ _ w' => a0.size - w'.iterPos w1.heap.size)
 case atStart => exact ⟨0,rfl,rfl,Nat.zero_le _,Int.le_refl 0,by show (0 : Int) < 1;decide⟩
 case round =>
  obtain ⟨pos,rfl,rfl,hp0,hv0,hv1⟩ := hrel
  by_cases hp : pos < a0.size
  ·have hnx : ∀ ty,(Instr.next (.pointer (some ⟨w1.heap.size,0,none⟩)) true ty).run prog (w1.iter a0 pos) = _ := fun ty => run_next_any w1 a0 pos ty hp
   have hd := allD_at c3 hp
   rw [decode_ascii a0 pos hp (by omega)] at hnx
   simp only at hnx
   have hst := numD_step hp
   have hpw : 10 ^ pos ≤ 10 ^ 17 := Nat.pow_le_pow_right (by decide) (by omega)
   have hps : 10 ^ (pos + 1) = 10 ^ pos * 10 := Nat.pow_succ ..
   generalize (a0.data.toList.take pos).foldl (fun (n : Int) c => 10 * n + ((c.toNat : Int) - 48)) 0 = v at *
   have e1 : wrap64 (10 * v) = 10 * v := by unfold wrap64;omega
   go_wp2
   go_roundw
   case rel => exact ⟨pos + 1,rfl,by rw [hst],hp,by rw [hst];omega,by rw [hst,hps];omega⟩
   case measure =>
    simp
    omega
  ·have hnx : ∀ ty,(Instr.next (.pointer (some ⟨w1.heap.size,0,none⟩)) true ty).run prog (w1.iter a0 pos) = _ := fun ty => run_next_end w1 a0 pos ty hp
   have hv : (a0.data.toList.take pos).foldl (fun (n : Int) c => 10 * n + ((c.toNat : Int) - 48)) 0 = numD a0 := by
    rw [List.take_of_length_le (by rw [Array.length_toList];exact Nat.le_of_not_lt hp)];rfl
   rw [hv]
   clear hv hv0 hv1
   go_wp2
   go_ret2
   exact ⟨rfl,below_then hb hb.size (below_iter _ _ _)⟩
theorem digits_All.at (s : ByteArray) (w : World) : Calls prog 109 #[.string s] w fun e w' => e = .returned (.bool (allD s)) ∧ Below w.heap.size w w' := digits_All.calls s _ w rfl
def digG (s : ByteArray) : Int × Bool := if s.size = 0 ∨ s.size > 18 ∨ allD s = false then (0,false) else (numD s,true)
theorem digits_Get.at (s : ByteArray) (w : World) : Calls prog 138 #[.string s] w fun e w' => e = .returned (.tuple #[.int .i64 (digG s).1,.bool (digG s).2]) ∧ Below w.heap.size w w' := digits_Get.calls s _ _ w rfl
section
structure Own8 (w W : World) (v : Value) (xs : List Int) : Prop where
 row : Kd.R (Kd.int .u8) 5 W w.heap.size (fun _ => True) v xs
 below : Below w.heap.size w W
theorem Own8.drewN {w W : World} {v : Value} {xs : List Int} (h : Own8 w W v xs) (n : Nat) : Own8 w (W.drewN n) v xs := ⟨Kd.R_drewN h.row n,below_drewN' h.below⟩
theorem Own8.cut {w W : World} {v : Value} {xs : List Int} (H : Own8 w W v xs) (k : Int) (h0 : 0 ≤ k) (h1 : k ≤ xs.length) : ∃ (A A1 : Option Addr) (c n1 c1 : Nat),v = .slice A xs.length c ∧ (∀ W' : World,(Instr.slice 101 (.slice A xs.length c) (some (.int .i64 k)) none none).run prog W' = .ok (.slice A1 n1 c1) W')
  ∧ (convert 101 9 (.slice A1 n1 c1)).run prog W = .ok (.string (strOfNums (xs.drop k.toNat))) W := by
 obtain ⟨A,c,rfl⟩ := Kd.R_slice H.row
 obtain ⟨i0,hi0,_,hsz,_⟩ := info_parts info5
 obtain ⟨_,hroom,hC⟩ := Kd.R_reads' H.row
 have hcut := cut_from (P := prog) 101 5 .i64 underlying101 hi0 1 hsz A xs.length c k h0 h1
 have hr := Kd.C_drop (m := k.toNat) (c := c) hC (by omega) hroom
 refine ⟨A,_,c,_,_,rfl,hcut,?_⟩
 have hl : (xs.drop k.toNat).length = xs.length - k.toNat := List.length_drop
 rw [← hl]
 exact Kd.C_string (P := prog) underlying101 underlying5 underlying9 hr
section
variable {ops : Array Oper} {rest : List Oper} {o : Oper} {a : Act} {Q : Exit → Act → World → Prop}
theorem make8 {w W : World} (hB : Below w.heap.size w W) (hgd : o.guard = none) {N : Tmp} (hd : o.dst = some N) (x y : Operand) (ho : o.op = .makeSlice 101 x y) (m : Nat) (hx : a.eval x = .int .i64 0) (hy : a.eval y = .int .i64 m)
  (hl : m ≤ 281474976710656) (h : ∀ v1 w1,Own8 w w1 v1 [] → wpList prog ops Q rest (a.put o.dst v1) w1) : wpList prog ops Q (o :: rest) a W := by
 refine Go.Proofs.YtgbmnpgaddhfpaaGreatDoor.G.R_make0 (Kd.int .u8) _ 5 hgd hd 101 x y ho m hx hy underlying101 _ 1 info5 rfl (by decide) (by decide) (0 : Int) (ok := fun _ => True) (okp := fun _ => True) rfl (fun _ hk => hk) trivial (by omega) hB hB.size ?_
 intro v1 w1 hr hb _ _
 exact h v1 w1 ⟨hr,hb⟩
theorem app8two {w W : World} {v : Value} {xs : List Int} (H : Own8 w W v xs) (hgd : o.guard = none) (s x : Operand) (y z : Int) (ho : o.op = .call { callee := .builtin .append,args := #[s,x],argTypes := #[101,101] })
  (hs : a.eval s = v) (hx : a.eval x = .slice (some ⟨W.heap.size,0,none⟩) 2 2) (hl : xs.length ≤ 140737488355326)
  (h : ∀ v1 w1,Own8 w w1 v1 (xs ++ [y,z]) → wpList prog ops Q rest (a.put o.dst v1) w1) : wpList prog ops Q (o :: rest) a (W.alloc (.cells #[.int .u8 y,.int .u8 z] 5)) := by
 refine Kd.R_append_rows (Kd.int .u8) (Rr := (Kd.int .u8).K (W.alloc (.cells #[.int .u8 y,.int .u8 z] 5))) (w0 := w) w.heap.size hgd s x 101 5 (.int .u8 0) 1 ho underlying101 info5 rfl (by decide) (by omega) v xs [y,z] (some ⟨W.heap.size,0,none⟩) 2 2 (fun _ => True) (fun _ => False) hs hx (Kd.R_alloc H.row _) ?_ (fun _ _ h => h) (fun _ h => h.elim) (fun _ _ => trivial) (b_l H.below _) (below_size (b_l H.below _)) (by omega) ?_
 ·refine ⟨rfl,by omega,fun _ => ⟨_,rfl,fun j p hj => ⟨[.int .u8 p],rfl,rfl,fun i u hu => ?_⟩⟩⟩
  have hblk : (W.alloc (.cells #[.int .u8 y,.int .u8 z] 5)).heap[W.heap.size]? = some (.cells #[.int .u8 y,.int .u8 z] 5 (0,0)) := blk_new _ _
  rcases i with _ | i
  ·rcases j with _ | _ | j
   ·simp at hj hu
    subst hj hu
    exact blk_cell hblk 0
   ·simp at hj hu
    subst hj hu
    exact blk_cell hblk 1
   ·simp at hj
  ·simp at hu
 ·intro v1 w1 hr hb _ _
  exact h v1 w1 ⟨hr,hb⟩
end
end
def vSet (p : Int × Int) : Value := .agg #[.int .u64 p.1,.int .u64 p.2]
def bitS (n : Int) : Int × Int := if n < 1 ∨ n > 128 then (0,0) else if n ≤ 64 then (IntKind.u64.wrap (2 ^ (64 - n).toNat),0) else (0,IntKind.u64.wrap (2 ^ (128 - n).toNat))
theorem ret_set {p q : Int × Int} (h : p = q) : Ending.returned (.agg #[.int .u64 p.1,.int .u64 p.2]) = Ending.returned (vSet q) := by rw [h];rfl
theorem fields_bit.at (n : Int) (w : World) : Calls prog 149 #[.int .i64 n] w fun e w' => e = .returned (vSet (bitS n)) ∧ Below w.heap.size w w' := by
 have hu82 := underlying82
 go_enter func149,ntmps149
 go_wp2
 all_goals refine bodyPost_ret (results_cell_row rfl _ _ w.heap.size 82 _ (0,0) _ rfl (blk_new _ _) hu82 rfl (by kernel_rfl)) rfl ?_
 all_goals refine ⟨ret_set (p := (_,_)) ?_,b_l (Below.refl _ _) _⟩
 all_goals (unfold bitS;(repeat' split) <;> first | rfl | omega)
def bothS (p q : Int × Int) : Int × Int := (Go.bits .and .u64 p.1 q.1,Go.bits .and .u64 p.2 q.2)
def eithS (p q : Int × Int) : Int × Int := (Go.bits .or .u64 p.1 q.1,Go.bits .or .u64 p.2 q.2)
theorem fields_Both.at (p q : Int × Int) (w : World) : Calls prog 94 #[vSet p,vSet q] w fun e w' => e = .returned (vSet (bothS p q)) ∧ Below w.heap.size w w' := by
 have hu82 := underlying82
 unfold vSet
 go_enter func94,ntmps94
 go_wp2
 refine bodyPost_ret (results_cell_row rfl _ _ (w.heap.size + 1 + 1) 82 _ (0,0) _ rfl (alloc3 _ _ _ _) hu82 rfl (by kernel_rfl)) rfl ?_
 exact ⟨rfl,b_l (bA _ _) _⟩
theorem fields_Either.at (p q : Int × Int) (w : World) : Calls prog 95 #[vSet p,vSet q] w fun e w' => e = .returned (vSet (eithS p q)) ∧ Below w.heap.size w w' := by
 have hu82 := underlying82
 unfold vSet
 go_enter func95,ntmps95
 go_wp2
 refine bodyPost_ret (results_cell_row rfl _ _ (w.heap.size + 1 + 1) 82 _ (0,0) _ rfl (alloc3 _ _ _ _) hu82 rfl (by kernel_rfl)) rfl ?_
 exact ⟨rfl,b_l (bA _ _) _⟩
theorem fields_Bits.at (a b : Int) (w : World) : Calls prog 84 #[.int .u64 a,.int .u64 b] w fun e w' => e = .returned (vSet (a,b)) ∧ Below w.heap.size w w' := by
 have hu82 := underlying82
 go_enter func84,ntmps84
 go_wp2
 refine bodyPost_ret (results_cell_row rfl _ _ w.heap.size 82 _ (0,0) _ rfl (blk_new _ _) hu82 rfl (by kernel_rfl)) rfl ?_
 exact ⟨rfl,b_l (Below.refl _ _) _⟩
def withS (p : Int × Int) (n : Int) : Int × Int := eithS p (bitS n)
def hasS (p : Int × Int) (n : Int) : Bool := if (bothS p (bitS n)).1 = 0 then if (bothS p (bitS n)).2 = 0 then false else true else true
set_option maxHeartbeats 1000000 in
theorem fields_With.at (p : Int × Int) (n : Int) (w : World) : Calls prog 107 #[vSet p,.int .i64 n] w fun e w' => e = .returned (vSet (withS p n)) ∧ Below w.heap.size w w' := by
 have hu82 := underlying82
 unfold vSet
 go_enter func107,ntmps107
 go_wp2
 go_region_with (first | (go_at_call 149;refine (fields_bit.at _ _).mono ?_;rintro e w1 ⟨rfl,hb⟩;have hc := below_cells hb;have hf := below_frozen hb) | (go_at_call 95;refine (fields_Either.at p _ _).mono ?_;rintro e w2 ⟨rfl,hb2⟩;have hc2 := below_cells hb2;have hf2 := below_frozen hb2;simp only [vSet,eithS,bothS]))
 all_goals go_wp2
 all_goals refine bodyPost_ret (results_cell_row rfl _ _ (w.heap.size + 1) 82 _ (0,0) _ rfl (blk_put (blk_put (k_B (k_B (show (World.drew ((w.alloc _).alloc _)).heap[w.heap.size + 1]? = some _ from alloc2 w _ _) hb) hb2) 0 _ rfl) 1 _ rfl) hu82 rfl (by kernel_rfl)) rfl ?_
 all_goals exact ⟨rfl,Below.setCell (p := ⟨_,1,none⟩) (Below.setCell (p := ⟨_,0,none⟩) (b_s (b_s (below_drew1 (bA _ _)) hb) hb2) (Nat.le_succ _) _) (Nat.le_succ _) _⟩
set_option maxHeartbeats 1000000 in
theorem fields_Has.at (p : Int × Int) (n : Int) (w : World) : Calls prog 103 #[vSet p,.int .i64 n] w fun e w' => e = .returned (.bool (hasS p n)) ∧ Below w.heap.size w w' := by
 have hu82 := underlying82
 unfold vSet
 go_enter func103,ntmps103
 go_wp2
 refine wp_region_below (by kernel_rfl) (by kernel_rfl) ?_
 refine wpQuiet_step (fun K hK => ?_)
 refine (if_pos rfl).mpr ⟨.agg #[.int .u64 p.1,.int .u64 p.2],fun w' hw' => ?_,hK _ ?_⟩
 ·have hc := below_cells hw'
  unfold Oper.quietAt
  go_simp
 clear hK K
 refine wpQuiet_step (fun K hK => ?_)
 refine (if_pos rfl).mpr ⟨.int .i64 n,fun w' hw' => ?_,hK _ ?_⟩
 ·unfold Oper.quietAt
  go_simp
 clear hK K
 refine wpQuiet_step (fun K hK => ?_)
 refine (if_pos rfl).mpr ⟨vSet (bitS n),fun w' hw' => ?_,hK _ ?_⟩
 ·unfold Oper.quietAt
  have h3 : Below (w.alloc (.cells #[.int .u64 p.1,.int .u64 p.2] 82)).heap.size (w.alloc (.cells #[.int .u64 p.1,.int .u64 p.2] 82)) w' := hw'
  rw [size_alloc] at h3
  go_simp
  go_at_call 149
  exact (fields_bit.at _ _).mono fun e w2 ⟨he,hb⟩ => ⟨he,below_then h3 (by have := h3.size;rwa [size_alloc] at this) hb⟩
 clear hK K
 refine wpQuiet_step (fun K hK => ?_)
 refine (if_pos rfl).mpr ⟨vSet (bothS p (bitS n)),fun w' hw' => ?_,hK _ ?_⟩
 ·unfold Oper.quietAt
  have h3 : Below (w.alloc (.cells #[.int .u64 p.1,.int .u64 p.2] 82)).heap.size (w.alloc (.cells #[.int .u64 p.1,.int .u64 p.2] 82)) w' := hw'
  rw [size_alloc] at h3
  go_simp
  go_at_call 94
  exact (fields_Both.at p _ _).mono fun e w2 ⟨he,hb⟩ => ⟨he,below_then h3 (by have := h3.size;rwa [size_alloc] at this) hb⟩
 clear hK K
 refine wpQuiet_step (fun K hK => ?_)
 refine (if_pos rfl).mpr ⟨vSet (0,0),fun w' hw' => ?_,hK _ ?_⟩
 ·unfold Oper.quietAt
  go_simp
  all_goals first | rfl | exact ⟨rfl,rfl⟩
 clear hK K
 refine wpQuiet_step (fun K hK => ?_)
 refine (if_pos rfl).mpr ⟨.bool (hasS p n),fun w' hw' => ?_,hK _ ?_⟩
 ·unfold Oper.quietAt
  simp only [vSet]
  go_simp
  unfold hasS
  by_cases c1 : (bothS p (bitS n)).1 = 0
  ·by_cases c2 : (bothS p (bitS n)).2 = 0
   ·rw [if_pos c1,if_pos c2,if_pos c1,if_pos c2]
    exact ⟨rfl,rfl⟩
   ·rw [if_pos c1,if_neg c2,if_pos c1,if_neg c2]
    exact ⟨rfl,rfl⟩
  ·rw [if_neg c1,if_neg c1]
   exact ⟨rfl,rfl⟩
 clear hK K
 refine wpQuiet_step (fun K hK => ?_)
 refine (if_pos rfl).mpr ⟨.bool (hasS p n),fun w' hw' => ?_,hK _ ?_⟩
 ·unfold Oper.quietAt
  go_simp
  all_goals first | rfl | exact ⟨rfl,rfl⟩
 clear hK K
 refine wpQuiet_nil ?_
 intro w' hw'
 go_wp2
 go_ret
 exact ⟨rfl,b_s (bO _) hw'⟩
def setsV (c : Int) : Int := if c = 1 then 1 else if c = 2 then 2 else if c = 3 then 3 else if c = 4 then 7 else if c = 5 ∨ c = 6 then 15 else 0
def ofV (b : Int) : Int := if 48 ≤ b ∧ b ≤ 57 then 1 else if (65 ≤ b ∧ b ≤ 90) ∨ (97 ≤ b ∧ b ≤ 122) then 2 else if 32 ≤ b ∧ b ≤ 126 then 4 else 8
def inCls (c b : Int) : Bool :=
 if c = 1 then decide (48 ≤ b ∧ b ≤ 57) else if c = 2 then decide ((65 ≤ b ∧ b ≤ 90) ∨ (97 ≤ b ∧ b ≤ 122)) else
 if c = 3 then decide ((48 ≤ b ∧ b ≤ 57) ∨ (65 ≤ b ∧ b ≤ 90) ∨ (97 ≤ b ∧ b ≤ 122)) else if c = 4 then decide (32 ≤ b ∧ b ≤ 126) else decide (c = 5 ∨ c = 6)
theorem and_eq (c b : Int) : (Go.bits .and .i64 (setsV c) (ofV b) == 0) = !inCls c b := by
 unfold setsV ofV inCls
 (repeat' split) <;> first | (exfalso;omega) | skip
 all_goals simp only [show (Go.bits .and .i64 1 1 == 0) = false by decide,show (Go.bits .and .i64 1 2 == 0) = true by decide,show (Go.bits .and .i64 1 4 == 0) = true by decide,show (Go.bits .and .i64 1 8 == 0) = true by decide,
  show (Go.bits .and .i64 2 1 == 0) = true by decide,show (Go.bits .and .i64 2 2 == 0) = false by decide,show (Go.bits .and .i64 2 4 == 0) = true by decide,show (Go.bits .and .i64 2 8 == 0) = true by decide,
  show (Go.bits .and .i64 3 1 == 0) = false by decide,show (Go.bits .and .i64 3 2 == 0) = false by decide,show (Go.bits .and .i64 3 4 == 0) = true by decide,show (Go.bits .and .i64 3 8 == 0) = true by decide,
  show (Go.bits .and .i64 7 1 == 0) = false by decide,show (Go.bits .and .i64 7 2 == 0) = false by decide,show (Go.bits .and .i64 7 4 == 0) = false by decide,show (Go.bits .and .i64 7 8 == 0) = true by decide,
  show (Go.bits .and .i64 15 1 == 0) = false by decide,show (Go.bits .and .i64 15 2 == 0) = false by decide,show (Go.bits .and .i64 15 4 == 0) = false by decide,show (Go.bits .and .i64 15 8 == 0) = false by decide,
  show (Go.bits .and .i64 0 1 == 0) = true by decide,show (Go.bits .and .i64 0 2 == 0) = true by decide,show (Go.bits .and .i64 0 4 == 0) = true by decide,show (Go.bits .and .i64 0 8 == 0) = true by decide]
 all_goals first | (rw [eq_comm,Bool.not_eq_true',decide_eq_false_iff_not];omega) | (rw [eq_comm,Bool.not_eq_false',decide_eq_true_eq];omega)
def firstNot (c : Int) : List UInt8 → Int → Int
 | [],_ => -1
 | b :: bs,i => if inCls c b.toNat then firstNot c bs (i + 1) else i
theorem class_sets.at (c : Int) (w : World) : Calls prog 166 #[.int .i64 c] w fun e w' => e = .returned (.int .i64 (setsV c)) ∧ w' = w := by
 go_enter func166,ntmps166
 go_wp2
 all_goals go_ret
 all_goals refine ⟨ret_int ?_,rfl⟩
 all_goals try simp only [beq_eq_false_iff_ne,beq_iff_eq,ne_eq] at *
 all_goals (unfold setsV;(repeat' split) <;> first | rfl | omega)
theorem class_of.at (b : Int) (w : World) : Calls prog 167 #[.int .u8 b] w fun e w' => e = .returned (.int .i64 (ofV b)) ∧ w' = w := by
 go_enter func167,ntmps167
 go_wp2
 all_goals go_ret
 all_goals refine ⟨ret_int ?_,rfl⟩
 all_goals try simp only [decide_eq_true_eq,decide_eq_false_iff_not,Bool.and_eq_true,Bool.or_eq_true,Bool.and_eq_false_iff,Bool.or_eq_false_iff] at *
 all_goals (unfold ofV;(repeat' split) <;> first | rfl | omega)
theorem drop_byte {s : ByteArray} {i : Nat} (h : i < s.size) : s.data.toList.drop i = (s[i]'h) :: s.data.toList.drop (i + 1) := by
 rw [List.drop_eq_getElem_cons (by rw [Array.length_toList];exact h)]
 rfl
theorem class_First.at (c : Int) (s : ByteArray) (w : World) (hs : s.size ≤ 4611686018427387904) : Calls prog 140 #[.int .i64 c,.string s] w fun e w' => e = .returned (.int .i64 (firstNot c s.data.toList 0)) ∧ w' = w := by
 go_enter func140,ntmps140
 go_wp2_with (first | (go_at_call 166;refine (class_sets.at _ _).mono ?_;rintro e w1 ⟨rfl,rfl⟩))
 go_loopg [6] s.size (fun g v6 w' => ∃ i : Nat,v6 = .int .i64 i ∧ i + g = s.size ∧ firstNot c (s.data.toList.drop i) i = firstNot c s.data.toList 0 ∧ w' = w1)
 case atStart => exact ⟨0,rfl,Nat.zero_add _,rfl,rfl⟩
 case round =>
  obtain ⟨i,rfl,hi,hf,rfl⟩ := hrel
  by_cases h : i < s.size
  ·have c0 : decide ((i : Int) < s.size) = true := d_T (by omega)
   have p : (0 ≤ (i : Int)) = True := eq_true (by omega)
   have q : ((i : Int) < s.size) = True := eq_true (by omega)
   rw [drop_byte h,firstNot] at hf
   have e0 := and_eq c ((s[i]'h).toNat : Int)
   cases hc : inCls c ((s[i]'h).toNat : Int) with
   | true =>
    rw [hc,Bool.not_true] at e0
    rw [hc,if_pos rfl] at hf
    have HF := aS hf
    clear hf hc
    go_wp2_with (first | (go_at_call 167;refine (class_of.at _ _).mono ?_;rintro e w1 ⟨rfl,rfl⟩))
    obtain ⟨g,rfl⟩ : ∃ g,gk = g + 1 := ⟨gk - 1,by omega⟩
    go_roundg g
    case rel => exact ⟨i + 1,rfl,by omega,HF.out,rfl⟩
    case measure => omega
   | false =>
    rw [hc,Bool.not_false] at e0
    rw [hc,if_neg (by decide)] at hf
    have HF := aS hf
    clear hf hc
    go_wp2_with (first | (go_at_call 167;refine (class_of.at _ _).mono ?_;rintro e w1 ⟨rfl,rfl⟩))
    go_ret
    exact ⟨by rw [← HF.out];rfl,rfl⟩
  ·have c0 : decide ((i : Int) < s.size) = false := d_F (by omega)
   rw [List.drop_of_length_le (by rw [Array.length_toList];exact Nat.le_of_not_lt h),firstNot] at hf
   have HF := aS hf
   clear hf
   go_wp2
   go_ret
   exact ⟨by rw [← HF.out];rfl,rfl⟩
end Go.Proofs.YtgbmnpgaddhfpaaGreatDoor.T
namespace Go.Proofs.YtgbmnpgaddhfpaaGreatDoor.T
open Go.RowKit Go.Proofs.YtgbmnpgaddhfpaaGreatDoorW.PrintWords Go.Proofs.YtgbmnpgaddhfpaaGreatDoorW.PrintLast Go.Proofs.YtgbmnpgaddhfpaaGreatDoorW.PrintMore
attribute [local go_sem] max2_int min2_int max_two min_two
open Go.Proofs.YtgbmnpgaddhfpaaGreatDoor.G
open Tryz
set_option maxRecDepth 100000
def isFirst (x : Int) : Bool := decide (0 < x ∧ x ≤ 255 ∧ x / 32 % 2 = 0)
def isTag (x : Int) : Bool := decide ((0 < x ∧ x ≤ 255 ∧ x / 32 % 2 = 0 ∧ x % 32 ≠ 31) ∨ (255 < x ∧ x ≤ 65535 ∧ x / 256 / 32 % 2 = 0 ∧ x / 256 % 32 = 31 ∧ 1 ≤ x % 256 ∧ x % 256 ≤ 127))
def getTag (s : ByteArray) (i : Int) : Int × Int × Int :=
 if i < 0 ∨ i > s.size then (0,0,1) else if i = s.size then (0,0,2) else
 if isFirst (bt s i) = false then (0,0,13) else if bt s i % 32 ≠ 31 then (bt s i,i + 1,0) else
 if i + 1 = s.size then (0,0,2) else if isTag (bt s i * 256 + bt s (i + 1)) then (bt s i * 256 + bt s (i + 1),i + 2,0) else (0,0,13)
theorem tag_first.at (x : Int) (w : World) : Calls prog 187 #[.int .i64 x] w fun e w' => e = .returned (.bool (isFirst x)) ∧ w' = w := by
 go_enter func187,ntmps187
 go_wp2
 all_goals go_ret
 all_goals refine ⟨ret_bool ?_,rfl⟩
 all_goals try rw [and32 (by omega) (by omega)]
 all_goals (rw [Bool.eq_iff_iff];simp only [isFirst,decide_eq_true_eq,Bool.false_eq_true,false_iff];omega)
theorem tag_Right.at (x : Int) (w : World) : Calls prog 188 #[.int .i64 x] w fun e w' => e = .returned (.bool (isTag x)) ∧ w' = w := by
 go_enter func188,ntmps188
 go_wp2_with (go_at_call 187;refine (tag_first.at _ _).mono ?_;rintro e w1 ⟨rfl,rfl⟩)
 all_goals go_ret
 all_goals refine ⟨ret_bool ?_,rfl⟩
 all_goals try simp only [isFirst,decide_eq_true_eq] at *
 all_goals try rw [and31 (x := x) (by omega) (by omega)] at *
 all_goals try rw [and31 (x := x / 256) (by omega) (by omega)] at *
 all_goals try rw [and255 (x := x) (by omega) (by omega)] at *
 all_goals (rw [Bool.eq_iff_iff];simp only [isTag,decide_eq_true_eq,bne_iff_ne,Bool.false_eq_true,false_iff];omega)
theorem tag_Get.at (s : ByteArray) (i : Int) (w : World) (hs : s.size ≤ 4611686018427387904) : Calls prog 168 #[.string s,.int .i64 i] w fun e w' => e = .returned (.tuple #[.int .i64 (getTag s i).1,.int .i64 (getTag s i).2.1,.int .i64 (getTag s i).2.2]) ∧ w' = w := by
 unfold getTag
 by_cases h0 : i < 0
 ·rw [if_pos (.inl h0)]
  go_enter func168,ntmps168
  go_wp2
  go_ret3
  exact ⟨rfl,rfl⟩
 by_cases h1 : i > s.size
 ·rw [if_pos (.inr h1)]
  have d0 : decide (i < 0) = false := d_F h0
  have d1 : decide ((s.size : Int) < i) = true := d_T h1
  go_enter func168,ntmps168
  go_wp2
  go_ret3
  exact ⟨rfl,rfl⟩
 rw [if_neg (by omega : ¬ (i < 0 ∨ i > s.size))]
 obtain ⟨n,rfl⟩ : ∃ n : Nat,i = n := ⟨i.toNat,by omega⟩
 have d0 : decide ((n : Int) < 0) = false := d_F h0
 have d1 : decide ((s.size : Int) < n) = false := d_F h1
 by_cases h2 : n = s.size
 ·have d2 : ((n : Int) == (s.size : Int)) = true := beq_iff_eq.mpr (by omega)
  rw [if_pos (by omega)]
  go_enter func168,ntmps168
  go_wp2
  go_ret3
  exact ⟨rfl,rfl⟩
 have d2 : ((n : Int) == (s.size : Int)) = false := beq_eq_false_iff_ne.mpr (by omega)
 have hn : n < s.size := by omega
 have p : (0 ≤ (n : Int)) = True := eq_true (by omega)
 have q : ((n : Int) < s.size) = True := eq_true (by omega)
 have hb := bt_get hn
 have hr := bt_range s n
 rw [if_neg (by omega)]
 rw [hb] at hr ⊢
 have e31 := and31 (x := ((s[n]'hn).toNat : Int)) (by omega) (by omega)
 cases hf : isFirst ((s[n]'hn).toNat : Int) with
 | false =>
  rw [if_pos rfl]
  go_enter func168,ntmps168
  go_wp2_with (first | (go_at_call 187;refine (tag_first.at _ _).mono ?_;rintro e w1 ⟨rfl,rfl⟩;try rw [hf]))
  go_ret3
  exact ⟨rfl,rfl⟩
 | true =>
  rw [if_neg (by decide)]
  by_cases h4 : ((s[n]'hn).toNat : Int) % 32 = 31
  ·have d4 : (((s[n]'hn).toNat : Int) % 32 == 31) = true := beq_iff_eq.mpr h4
   rw [if_neg (by omega)]
   by_cases h5 : n + 1 = s.size
   ·have d5 : ((n : Int) + 1 == (s.size : Int)) = true := beq_iff_eq.mpr (by omega)
    rw [if_pos (by omega)]
    go_enter func168,ntmps168
    go_wp2_with (first | (go_at_call 187;refine (tag_first.at _ _).mono ?_;rintro e w1 ⟨rfl,rfl⟩;try rw [hf]))
    go_ret3
    exact ⟨rfl,rfl⟩
   ·have d5 : ((n : Int) + 1 == (s.size : Int)) = false := beq_eq_false_iff_ne.mpr (by omega)
    have hm : n + 1 < s.size := by omega
    have p2 : (0 ≤ (n : Int) + 1) = True := eq_true (by omega)
    have q2 : ((n : Int) + 1 < s.size) = True := eq_true (by omega)
    have hb2 := bt_get hm
    have hr2 := bt_range s (n + 1 : Nat)
    rw [hb2] at hr2
    rw [if_neg (by omega),show (n : Int) + 1 = ((n + 1 : Nat) : Int) from rfl,hb2]
    have e8 := or8 (x := ((s[n]'hn).toNat : Int)) (y := ((s[n + 1]'hm).toNat : Int)) (by omega) (by omega) (by omega) (by omega)
    cases ht : isTag (((s[n]'hn).toNat : Int) * 256 + ((s[n + 1]'hm).toNat : Int)) with
    | true =>
     rw [if_pos rfl]
     go_enter func168,ntmps168
     go_wp2_with (first | (go_at_call 187;refine (tag_first.at _ _).mono ?_;rintro e w1 ⟨rfl,rfl⟩;try rw [hf]) | (go_at_call 188;refine (tag_Right.at _ _).mono ?_;rintro e w1 ⟨rfl,rfl⟩;try rw [ht]))
     go_ret3
     exact ⟨rfl,rfl⟩
    | false =>
     rw [if_neg (by decide)]
     go_enter func168,ntmps168
     go_wp2_with (first | (go_at_call 187;refine (tag_first.at _ _).mono ?_;rintro e w1 ⟨rfl,rfl⟩;try rw [hf]) | (go_at_call 188;refine (tag_Right.at _ _).mono ?_;rintro e w1 ⟨rfl,rfl⟩;try rw [ht]))
     go_ret3
     exact ⟨rfl,rfl⟩
  ·have d4 : (((s[n]'hn).toNat : Int) % 32 == 31) = false := beq_eq_false_iff_ne.mpr h4
   rw [if_pos h4]
   go_enter func168,ntmps168
   go_wp2_with (first | (go_at_call 187;refine (tag_first.at _ _).mono ?_;rintro e w1 ⟨rfl,rfl⟩;try rw [hf]))
   go_ret3
   exact ⟨rfl,rfl⟩
def berSz (n : Int) : Int := if n < 0 ∨ n > 65535 then 0 else if n > 255 then 3 else if n > 127 then 2 else 1
def getLen (s : ByteArray) (i : Int) : Int × Int × Int :=
 if i < 0 ∨ i > s.size then (0,0,1) else if i = s.size then (0,0,2) else
 if bt s i ≤ 127 then (bt s i,i + 1,0) else if bt s i = 129 then
  if (s.size : Int) - i < 2 then (0,0,2) else if bt s (i + 1) ≤ 127 then (0,0,14) else (bt s (i + 1),i + 2,0)
 else if bt s i = 130 then
  if (s.size : Int) - i < 3 then (0,0,2) else if bt s (i + 1) = 0 then (0,0,14) else (bt s (i + 1) * 256 + bt s (i + 2),i + 3,0)
 else (0,0,14)
theorem ber_Size.at (n : Int) (w : World) : Calls prog 189 #[.int .i64 n] w fun e w' => e = .returned (.int .i64 (berSz n)) ∧ w' = w := by
 go_enter func189,ntmps189
 go_wp2
 all_goals go_ret
 all_goals refine ⟨ret_int ?_,rfl⟩
 all_goals (unfold berSz;(repeat' split) <;> first | rfl | omega)
theorem sz1 {n : Int} (h0 : 0 ≤ n) (h1 : n ≤ 127) : berSz n = 1 := by unfold berSz;rw [if_neg (by omega),if_neg (by omega),if_neg (by omega)]
theorem sz2 {n : Int} (h0 : 127 < n) (h1 : n ≤ 255) : berSz n = 2 := by unfold berSz;rw [if_neg (by omega),if_neg (by omega),if_pos (by omega)]
theorem sz3 {n : Int} (h0 : 255 < n) (h1 : n ≤ 65535) : berSz n = 3 := by unfold berSz;rw [if_neg (by omega),if_pos (by omega)]
theorem sz_le {n : Int} (h1 : n ≤ 255) : berSz n ≤ 2 := by unfold berSz;(repeat' split) <;> omega
def lenAcc (s : ByteArray) (i v : Int) : Nat → Int
 | 0 => v
 | m + 1 => lenAcc s i v m * 256 + bt s (i + m)
theorem ber_Get.at (s : ByteArray) (i : Int) (w : World) (hs : s.size ≤ 4611686018427387904) : Calls prog 169 #[.string s,.int .i64 i] w fun e w' => e = .returned (.tuple #[.int .i64 (getLen s i).1,.int .i64 (getLen s i).2.1,.int .i64 (getLen s i).2.2]) ∧ w' = w := by
 by_cases h0 : i < 0
 ·rw [show getLen s i = (0,0,1) by unfold getLen;rw [if_pos (.inl h0)]]
  go_enter func169,ntmps169
  go_wp2
  go_ret3
  exact ⟨rfl,rfl⟩
 by_cases h1 : i > s.size
 ·rw [show getLen s i = (0,0,1) by unfold getLen;rw [if_pos (.inr h1)]]
  have d0 : decide (i < 0) = false := d_F h0
  have d1 : decide ((s.size : Int) < i) = true := d_T h1
  go_enter func169,ntmps169
  go_wp2
  go_ret3
  exact ⟨rfl,rfl⟩
 obtain ⟨n,rfl⟩ : ∃ n : Nat,i = n := ⟨i.toNat,by omega⟩
 have d0 : decide ((n : Int) < 0) = false := d_F h0
 have d1 : decide ((s.size : Int) < n) = false := d_F h1
 by_cases h2 : n = s.size
 ·have d2 : ((n : Int) == (s.size : Int)) = true := beq_iff_eq.mpr (by omega)
  rw [show getLen s n = (0,0,2) by unfold getLen;rw [if_neg (by omega),if_pos (by omega)]]
  go_enter func169,ntmps169
  go_wp2
  go_ret3
  exact ⟨rfl,rfl⟩
 have d2 : ((n : Int) == (s.size : Int)) = false := beq_eq_false_iff_ne.mpr (by omega)
 have hn : n < s.size := by omega
 have p : (0 ≤ (n : Int)) = True := eq_true (by omega)
 have q : ((n : Int) < s.size) = True := eq_true (by omega)
 have hb := bt_get hn
 have hr := bt_range s n
 rw [hb] at hr
 by_cases h3 : ((s[n]'hn).toNat : Int) ≤ 127
 ·have d3 : decide (127 < ((s[n]'hn).toNat : Int)) = false := d_F (by omega)
  rw [show getLen s n = (((s[n]'hn).toNat : Int),(n : Int) + 1,0) by unfold getLen;rw [if_neg (by omega),if_neg (by omega),hb,if_pos h3]]
  go_enter func169,ntmps169
  go_wp2
  go_loopg [7,45] 0 (fun g v7 v45 w' => v7 = .int .i64 ((s[n]'hn).toNat : Int) ∧ v45 = .int .i64 0 ∧ w' = w)
  case atStart => exact ⟨rfl,rfl,rfl⟩
  case round =>
   obtain ⟨rfl,rfl,rfl⟩ := hrel
   have z := sz1 hr.1 h3
   go_wp2_with (go_at_call 189;refine (ber_Size.at _ _).mono ?_;rintro e w1 ⟨rfl,rfl⟩;rw [z])
   go_ret3
   exact ⟨rfl,rfl⟩
 have d3 : decide (127 < ((s[n]'hn).toNat : Int)) = true := d_T (by omega)
 by_cases h4 : ((s[n]'hn).toNat : Int) = 129
 ·rw [h4] at d3
  by_cases h5 : (s.size : Int) - n < 2
  ·have d5 : decide ((s.size : Int) - ((n : Int) + 1) < 1) = true := d_T (by omega)
   rw [show getLen s n = (0,0,2) by unfold getLen;rw [if_neg (by omega),if_neg (by omega),hb,if_neg h3,if_pos h4,if_pos h5]]
   go_enter func169,ntmps169
   go_wp2
   go_ret3
   exact ⟨rfl,rfl⟩
  have d5 : decide ((s.size : Int) - ((n : Int) + 1) < 1) = false := d_F (by omega)
  have HG : Aside0 (getLen s n = if bt s ((n : Int) + 1) ≤ 127 then (0,0,14) else (bt s ((n : Int) + 1),(n : Int) + 2,0)) := ⟨by unfold getLen;rw [if_neg (by omega),if_neg (by omega),hb,if_neg h3,if_pos h4,if_neg h5]⟩
  go_enter func169,ntmps169
  go_wp2
  go_loopg [7,45] 1 (fun g v7 v45 w' => ∃ j : Nat,v7 = .int .i64 (lenAcc s ((n + 1 : Nat) : Int) 0 j) ∧ v45 = .int .i64 j ∧ j + g = 1 ∧ w' = w)
  case atStart => exact ⟨0,rfl,rfl,rfl,rfl⟩
  case round =>
   obtain ⟨j,rfl,rfl,hj,rfl⟩ := hrel
   by_cases c : j < 1
   ·have c0 : decide ((j : Int) < 1) = true := d_T (by omega)
    have hm : n + 1 + j < s.size := by omega
    have p3 : (0 ≤ (n : Int) + 1 + j) = True := eq_true (by omega)
    have q3 : ((n : Int) + 1 + j < s.size) = True := eq_true (by omega)
    have hb3 := bt_get hm
    have hr3 := bt_range s (n + 1 + j : Nat)
    rw [hb3] at hr3
    have hv : 0 ≤ lenAcc s ((n + 1 : Nat) : Int) 0 j ∧ lenAcc s ((n + 1 : Nat) : Int) 0 j ≤ 255 := by
     rcases j with _ | _ | j
     ·exact ⟨Int.le_refl 0,by show (0 : Int) ≤ 255;decide⟩
     ·have := bt_range s (((n + 1 : Nat) : Int) + (0 : Nat))
      unfold lenAcc lenAcc
      omega
     ·omega
    have hst : lenAcc s ((n + 1 : Nat) : Int) 0 (j + 1) = lenAcc s ((n + 1 : Nat) : Int) 0 j * 256 + ((s[n + 1 + j]'hm).toNat : Int) := by
     rw [lenAcc,show (((n + 1 : Nat) : Int) + (j : Int)) = ((n + 1 + j : Nat) : Int) from rfl,hb3]
    generalize lenAcc s ((n + 1 : Nat) : Int) 0 j = v at *
    have e8 := or8 (x := v) (y := ((s[n + 1 + j]'hm).toNat : Int)) (by omega) (by omega) (by omega) (by omega)
    go_wp2
    obtain ⟨g,rfl⟩ : ∃ g,gk = g + 1 := ⟨gk - 1,by omega⟩
    go_roundg g
    case rel => exact ⟨j + 1,by rw [hst],rfl,by omega,rfl⟩
    case measure => omega
   ·have c0 : decide ((j : Int) < 1) = false := d_F (by omega)
    obtain rfl : j = 1 := by omega
    have hV : lenAcc s ((n + 1 : Nat) : Int) 0 1 = bt s ((n : Int) + 1) := by
     show 0 * 256 + bt s (((n : Int) + 1) + 0) = _
     rw [Int.add_zero,Int.zero_mul,Int.zero_add]
    have hr3 := bt_range s ((n : Int) + 1)
    rw [hV]
    by_cases h6 : bt s ((n : Int) + 1) ≤ 127
    ·have z := sz1 hr3.1 h6
     go_wp2_with (go_at_call 189;refine (ber_Size.at _ _).mono ?_;rintro e w1 ⟨rfl,rfl⟩;rw [z])
     go_ret3
     exact ⟨by rw [HG.out,if_pos h6];rfl,rfl⟩
    ·have H6 := aS h6
     have z := sz2 (Int.not_le.1 h6) hr3.2
     go_wp2_with (go_at_call 189;refine (ber_Size.at _ _).mono ?_;rintro e w1 ⟨rfl,rfl⟩;rw [z])
     go_ret3
     exact ⟨by rw [HG.out,if_neg (Int.not_le.2 H6.out),show (n : Int) + 2 = (n : Int) + 1 + 1 by omega];rfl,rfl⟩
 by_cases h7 : ((s[n]'hn).toNat : Int) = 130
 ·rw [h7] at d3
  by_cases h5 : (s.size : Int) - n < 3
  ·have d5 : decide ((s.size : Int) - ((n : Int) + 1) < 2) = true := d_T (by omega)
   rw [show getLen s n = (0,0,2) by unfold getLen;rw [if_neg (by omega),if_neg (by omega),hb,if_neg h3,if_neg h4,if_pos h7,if_pos h5]]
   go_enter func169,ntmps169
   go_wp2
   go_ret3
   exact ⟨rfl,rfl⟩
  have d5 : decide ((s.size : Int) - ((n : Int) + 1) < 2) = false := d_F (by omega)
  have HG : Aside0 (getLen s n = if bt s ((n : Int) + 1) = 0 then (0,0,14) else (bt s ((n : Int) + 1) * 256 + bt s ((n : Int) + 2),(n : Int) + 3,0)) := ⟨by unfold getLen;rw [if_neg (by omega),if_neg (by omega),hb,if_neg h3,if_neg h4,if_pos h7,if_neg h5]⟩
  go_enter func169,ntmps169
  go_wp2
  go_loopg [7,45] 2 (fun g v7 v45 w' => ∃ j : Nat,v7 = .int .i64 (lenAcc s ((n + 1 : Nat) : Int) 0 j) ∧ v45 = .int .i64 j ∧ j + g = 2 ∧ w' = w)
  case atStart => exact ⟨0,rfl,rfl,rfl,rfl⟩
  case round =>
   obtain ⟨j,rfl,rfl,hj,rfl⟩ := hrel
   by_cases c : j < 2
   ·have c0 : decide ((j : Int) < 2) = true := d_T (by omega)
    have hm : n + 1 + j < s.size := by omega
    have p3 : (0 ≤ (n : Int) + 1 + j) = True := eq_true (by omega)
    have q3 : ((n : Int) + 1 + j < s.size) = True := eq_true (by omega)
    have hb3 := bt_get hm
    have hr3 := bt_range s (n + 1 + j : Nat)
    rw [hb3] at hr3
    have hv : 0 ≤ lenAcc s ((n + 1 : Nat) : Int) 0 j ∧ lenAcc s ((n + 1 : Nat) : Int) 0 j ≤ 255 := by
     rcases j with _ | _ | j
     ·exact ⟨Int.le_refl 0,by show (0 : Int) ≤ 255;decide⟩
     ·have := bt_range s (((n + 1 : Nat) : Int) + (0 : Nat))
      unfold lenAcc lenAcc
      omega
     ·omega
    have hst : lenAcc s ((n + 1 : Nat) : Int) 0 (j + 1) = lenAcc s ((n + 1 : Nat) : Int) 0 j * 256 + ((s[n + 1 + j]'hm).toNat : Int) := by
     rw [lenAcc,show (((n + 1 : Nat) : Int) + (j : Int)) = ((n + 1 + j : Nat) : Int) from rfl,hb3]
    generalize lenAcc s ((n + 1 : Nat) : Int) 0 j = v at *
    have e8 := or8 (x := v) (y := ((s[n + 1 + j]'hm).toNat : Int)) (by omega) (by omega) (by omega) (by omega)
    go_wp2
    obtain ⟨g,rfl⟩ : ∃ g,gk = g + 1 := ⟨gk - 1,by omega⟩
    go_roundg g
    case rel => exact ⟨j + 1,by rw [hst],rfl,by omega,rfl⟩
    case measure => omega
   ·have c0 : decide ((j : Int) < 2) = false := d_F (by omega)
    obtain rfl : j = 2 := by omega
    have hV : lenAcc s ((n + 1 : Nat) : Int) 0 2 = bt s ((n : Int) + 1) * 256 + bt s ((n : Int) + 2) := by
     show (0 * 256 + bt s (((n : Int) + 1) + 0)) * 256 + bt s (((n : Int) + 1) + 1) = _
     rw [Int.add_zero,Int.zero_mul,Int.zero_add,show (n : Int) + 1 + 1 = n + 2 by omega]
    have hr3 := bt_range s ((n : Int) + 1)
    have hr4 := bt_range s ((n : Int) + 2)
    rw [hV]
    by_cases h6 : bt s ((n : Int) + 1) = 0
    ·have z : (berSz (bt s ((n : Int) + 2)) == 3) = false := by
      have := sz_le (n := bt s ((n : Int) + 2)) (by omega)
      exact beq_eq_false_iff_ne.mpr (by omega)
     have z2 : (berSz (bt s ((n : Int) + 2)) != 3) = true := by rw [bne,z];rfl
     rw [h6,Int.zero_mul,Int.zero_add]
     have H6 := aS h6
     clear h6
     go_wp2_with (go_at_call 189;refine (ber_Size.at _ _).mono ?_;rintro e w1 ⟨rfl,rfl⟩)
     go_ret3
     exact ⟨by rw [HG.out,if_pos H6.out];rfl,rfl⟩
    ·have H6 := aS h6
     have z := sz3 (n := bt s ((n : Int) + 1) * 256 + bt s ((n : Int) + 2)) (by omega) (by omega)
     go_wp2_with (go_at_call 189;refine (ber_Size.at _ _).mono ?_;rintro e w1 ⟨rfl,rfl⟩;rw [z])
     go_ret3
     exact ⟨by rw [HG.out,if_neg H6.out,show (n : Int) + 3 = (n : Int) + 1 + 2 by omega];rfl,rfl⟩
 rw [show getLen s n = (0,0,14) by unfold getLen;rw [if_neg (by omega),if_neg (by omega),hb,if_neg h3,if_neg h4,if_neg h7]]
 by_cases h8 : ((s[n]'hn).toNat : Int) = 128
 ·have d8 : (((s[n]'hn).toNat : Int) == 128) = true := beq_iff_eq.mpr h8
  go_enter func169,ntmps169
  go_wp2
  go_ret3
  exact ⟨rfl,rfl⟩
 ·have d8 : (((s[n]'hn).toNat : Int) == 128) = false := beq_eq_false_iff_ne.mpr h8
  have d9 : decide (130 < ((s[n]'hn).toNat : Int)) = true := d_T (by omega)
  go_enter func169,ntmps169
  go_wp2
  go_ret3
  exact ⟨rfl,rfl⟩
end Go.Proofs.YtgbmnpgaddhfpaaGreatDoor.T
namespace Go.Proofs.YtgbmnpgaddhfpaaGreatDoor.T
open Go.RowKit Go.Proofs.YtgbmnpgaddhfpaaGreatDoorW.PrintWords Go.Proofs.YtgbmnpgaddhfpaaGreatDoorW.PrintLast Go.Proofs.YtgbmnpgaddhfpaaGreatDoorW.PrintMore
attribute [local go_sem] max2_int min2_int max_two min_two
open Tryz
set_option maxRecDepth 100000
def bothL : List (List Int) := [[2,1,2,12,19,1,2,12,19],[3,1,1,6,6,1,1,6,6],[4,1,1,12,12,1,1,12,12],[7,1,1,10,10,1,1,10,10],[11,1,1,6,6,1,1,6,6],[12,1,1,6,6,1,1,12,12],[13,1,1,4,4,0,0,0,0],[14,1,1,4,4,1,1,4,4],[18,1,1,4,4,0,0,0,0],[22,1,1,3,3,3,1,12,12],[23,1,1,3,3,1,1,3,3],[26,0,0,0,0,1,1,4,4],[32,1,2,1,11,1,2,1,11],[35,4,2,1,37,4,2,1,37],[37,3,1,12,12,3,1,12,12],[38,3,1,6,6,3,1,6,6],[39,3,1,2,2,1,1,3,3],[41,4,1,8,8,4,1,8,8],[42,4,1,15,15,4,1,15,15],[43,4,1,40,40,4,2,1,99],[48,4,3,1,999,4,3,1,999],[49,1,1,3,3,1,1,3,3],[52,5,1,8,8,5,1,8,8],[55,6,3,1,255,6,3,1,255],[64,5,1,8,8,5,1,8,8],[70,1,1,3,3,1,1,3,3],[90,1,1,42,42,0,0,0,0],[102,4,2,1,28,4,2,1,28],[128,5,1,8,8,5,1,8,8]]
def groatref14_both.f : Option (List (List Int)) := some bothL
def laidR (W : World) : List (List Int) → World
 | [] => W
 | r :: rs => laidR (W.alloc (.cells (r.map (.int .i64)).toArray 3)) rs
def slicesR (b : Nat) : List (List Int) → List Value
 | [] => []
 | r :: rs => .slice (some ⟨b,0,none⟩) r.length r.length :: slicesR (b + 1) rs
theorem int_reps (base : Nat) (ok : Nat → Prop) (w : World) (xs : List Int) : Reps ((Kd.int .i64).M w base ok) (Kd.int .i64).sz xs (xs.map (.int .i64)) := by
 refine ⟨by simp [Kd.int,Kd.scalar],fun j p hj => ?_⟩
 have h2 : ((xs.map (Value.int .i64)).drop (j * 1)).take 1 = [.int .i64 p] := by
  obtain ⟨hl,e⟩ := List.getElem?_eq_some_iff.1 hj
  rw [Nat.mul_one,List.drop_eq_getElem_cons (by simpa using hl)]
  simp [e]
 show (Kd.int .i64).M w base ok p (((xs.map (Value.int .i64)).drop (j * 1)).take 1)
 rw [h2]
 exact rfl
theorem slicesR_len : ∀ (rs : List (List Int)) (b : Nat),(slicesR b rs).length = rs.length
 | [],_ => rfl
 | r :: rs,b => by simp [slicesR,slicesR_len rs]
theorem litR (W : World) (base : Nat) (ok : Nat → Prop) (r : List Int) (hb : base ≤ W.heap.size) (hok : ok W.heap.size) (hl : r.length ≤ 1000) : (Kd.int .i64).R 3 (W.alloc (.cells (r.map (.int .i64)).toArray 3)) base ok (.slice (some ⟨W.heap.size,0,none⟩) r.length r.length) r := by
 refine ⟨fun k hk => ?_,r.map (.int .i64),?_,int_reps _ _ _ _⟩
 ·have : W.heap.size = k := by simpa [Value.ownBlock] using hk
  exact this ▸ hok
 ·have h2 := World.ownsRow_lit (base := base) (e := 3) (size := 1) W (r.map (.int .i64)).toArray r.length hb (by unfold maxLen;omega) (by simp)
  show World.ownsRow _ base 3 1 _ _ _
  simpa using h2
theorem laidR_all {base : Nat} {ok : Nat → Prop} : ∀ (rs : List (List Int)) (W : World),base ≤ W.heap.size → (∀ k,W.heap.size ≤ k → ok k) → (∀ r ∈ rs,r.length ≤ 1000) →
  (Below W.heap.size W (laidR W rs) ∧ (laidR W rs).heap.size = W.heap.size + rs.length) ∧ ∀ (j : Nat) (r : List Int),rs[j]? = some r → (slicesR W.heap.size rs)[j]? = some (.slice (some ⟨W.heap.size + j,0,none⟩) r.length r.length) ∧ (Kd.int .i64).R 3 (laidR W rs) base ok (.slice (some ⟨W.heap.size + j,0,none⟩) r.length r.length) r
 | [],W,_,_,_ => ⟨⟨Below.refl _ _,rfl⟩,fun j r h => by simp at h⟩
 | r :: rs,W,hb,hok,hl => by
  have hs : (W.alloc (.cells (r.map (.int .i64)).toArray 3)).heap.size = W.heap.size + 1 := size_alloc _ _
  obtain ⟨⟨h1,h3⟩,h2⟩ := laidR_all rs (W.alloc (.cells (r.map (.int .i64)).toArray 3)) (base := base) (ok := ok) (by omega) (fun k hk => hok k (by omega)) (fun r hr => hl r (List.mem_cons_of_mem _ hr))
  refine ⟨⟨b_s (bO _) h1,by show (laidR _ rs).heap.size = _;rw [h3,hs,List.length_cons];omega⟩,fun j x hj => ?_⟩
  rcases j with _ | j
  ·obtain rfl := Option.some.inj (show some r = some x from hj)
   exact ⟨rfl,Kd.R_below (litR W base ok r hb (hok _ (Nat.le_refl _)) (hl r (List.mem_cons_self ..))) h1⟩
  ·have h4 := h2 j x hj
   rw [hs,show W.heap.size + 1 + j = W.heap.size + (j + 1) by omega] at h4
   exact h4
theorem bothR (w : World) : Kd.R (Kd.slice 3 (Kd.int .i64)) 29 ((laidR w bothL).alloc (.cells (slicesR w.heap.size bothL).toArray 29)) w.heap.size (fun k => w.heap.size ≤ k) (.slice (some ⟨w.heap.size + 29,0,none⟩) 29 29) bothL := by
 obtain ⟨⟨h1,h3⟩,h2⟩ := laidR_all (base := w.heap.size) (ok := fun k => w.heap.size ≤ k) bothL w (Nat.le_refl _) (fun k hk => hk) (by decide)
 have hn : bothL.length = 29 := rfl
 rw [hn] at h3
 have hown : ∀ k,(Value.slice (some ⟨w.heap.size + 29,0,none⟩) 29 29).ownBlock = some k → w.heap.size + 29 = k := fun k hk => by simpa [Value.ownBlock] using hk
 refine ⟨fun k hk => by have := hown k hk;omega,slicesR w.heap.size bothL,?_,?_,fun j p hj => ?_⟩
 ·have h4 := World.ownsRow_lit (base := w.heap.size) (e := 29) (size := 1) (laidR w bothL) (slicesR w.heap.size bothL).toArray 29 (by rw [h3];omega) (by decide) (by simp [slicesR_len,hn])
  rw [h3] at h4
  show World.ownsRow _ w.heap.size 29 1 _ _ _
  simpa [hn] using h4
 ·rw [slicesR_len]
  rfl
 ·obtain ⟨e1,hR⟩ := h2 j p hj
  have e2 : ((slicesR w.heap.size bothL).drop (j * (Kd.slice 3 (Kd.int .i64)).sz)).take (Kd.slice 3 (Kd.int .i64)).sz = [.slice (some ⟨w.heap.size + j,0,none⟩) p.length p.length] := by
   show ((slicesR w.heap.size bothL).drop (j * 1)).take 1 = _
   obtain ⟨hl,e⟩ := List.getElem?_eq_some_iff.1 e1
   rw [Nat.mul_one,List.drop_eq_getElem_cons hl]
   simp [e]
  rw [e2]
  exact ⟨_,rfl,Kd.R_alloc (Kd.R_mono (Kd.R_bound hR) (fun k hk => ⟨hk.1,fun e => by have h5 := hown k e.symm;have h6 := hk.2.2.1;omega⟩)) _⟩
set_option maxHeartbeats 4000000 in
theorem both_walk (w : World) : Calls prog 69 #[] w fun e w' => e = .returned (.slice (some ⟨w.heap.size + 29,0,none⟩) 29 29) ∧ w' = (laidR w bothL).alloc (.cells (slicesR w.heap.size bothL).toArray 29) := by
 go_enter func69,ntmps69
 go_wp2
 go_ret
 exact ⟨rfl,rfl⟩
theorem groatref14_both.calls (r : List (List Int)) (w : World) (h : groatref14_both.f = some r) :
  Calls prog 69 #[] w fun e w' => ∃ v0_ : Value,e = .returned v0_ ∧ Kd.N (Kd.slice 3 (Kd.int .i64)) 29 w' w.heap.size (fun k_ => (w.heap.size ≤ k_)) v0_ r ∧ Below w.heap.size w w' := by
 obtain rfl := Option.some.inj h
 refine (both_walk w).mono ?_
 rintro e w' ⟨rfl,rfl⟩
 have hb := (laidR_all (base := w.heap.size) (ok := fun _ => True) bothL w (Nat.le_refl _) (fun _ _ => trivial) (by decide)).1.1
 exact ⟨_,rfl,Kd.R_N (bothR w),b_l hb _⟩
end Go.Proofs.YtgbmnpgaddhfpaaGreatDoor.T
