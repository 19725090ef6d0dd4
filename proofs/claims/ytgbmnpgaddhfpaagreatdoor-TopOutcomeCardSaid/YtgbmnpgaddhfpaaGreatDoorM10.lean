/- Walks and plain laws beneath the law TopOutcome. No conditions but what each statement names. -/
import Derived.Test.YtgbmnpgaddhfpaaGreatDoorM8
set_option linter.unusedVariables false
set_option linter.unusedSimpArgs false
namespace Go.Proofs.YtgbmnpgaddhfpaaGreatDoor.T
open Go.RowKit Go.Proofs.YtgbmnpgaddhfpaaGreatDoorW.PrintWords Go.Proofs.YtgbmnpgaddhfpaaGreatDoorW.PrintLast Go.Proofs.YtgbmnpgaddhfpaaGreatDoorW.PrintMore
attribute [local go_sem] max2_int min2_int max_two min_two
open Go.Proofs.YtgbmnpgaddhfpaaGreatDoor.G
open Tryz
set_option maxRecDepth 100000
def respM (m : ByteArray) : ByteArray := (m.extract 0 2 ++ strOfNums [bt m 2 + 1]) ++ m.extract 3 4
theorem one8d (x : Int) (W : World) : (convert 101 9 (.slice (some ⟨W.heap.size,0,none⟩) 1 1)).run prog (W.alloc (.cells #[.int .u8 x] 5)).drew = .ok (.string (strOfNums [x])) (W.alloc (.cells #[.int .u8 x] 5)).drew := by
 refine Kd.C_string (P := prog) (xs := [x]) underlying101 underlying5 underlying9 ?_
 refine ⟨rfl,by omega,fun _ => ⟨_,rfl,fun j p hj => ⟨[.int .u8 p],rfl,rfl,fun i u hu => ?_⟩⟩⟩
 rcases i with _ | i
 ·rcases j with _ | j
  ·simp only [List.getElem?_cons_zero,Option.some.injEq] at hu hj
   subst hu hj
   exact blk_cell (w := (W.alloc (.cells #[.int .u8 _] 5)).drew) (blk_new W _) 0
  ·exact absurd hj (by simp)
 ·exact absurd hu (by simp)
set_option maxHeartbeats 1000000 in
theorem mti_Response.at (m : ByteArray) (w : World) (hm : reqM m = true) : Calls prog 16 #[.string m] w fun e w' => e = .returned (.tuple #[.string (respM m),.bool true]) ∧ Below w.heap.size w w' := by
 have h4 : m.size = 4 ∧ allD m = true := by
  unfold reqM at hm
  simp only [Bool.and_eq_true] at hm
  exact isMti_iff.1 hm.1
 have hb := bt_get (s := m) (i := 2) (by omega)
 have hr := allD_at h4.2 (i := 2) (by omega)
 have hz : m.size = 4 := h4.1
 have hcv := one8d
 have e5 : IntKind.u8.wrap (((m[2]'(by omega)).toNat : Int) + 1) = bt m 2 + 1 := by rw [show bt m 2 = _ from hb,IntKind.wrap_u8];omega
 have hs1 : (strOfNums [bt m 2 + 1]).size = 1 := nums_size _
 have hs2 : (m.extract 0 2).size = 2 := by rw [ByteArray.size_extract];omega
 have hs3 : (m.extract 3 4).size = 1 := by rw [ByteArray.size_extract];omega
 have q : ((2 : Int) < m.size) = True := eq_true (by omega)
 have q2 : (2 < m.size) = True := eq_true (by omega)
 have q3 : ((2 : Int) ≤ m.size) = True := eq_true (by omega)
 have q4 : ((3 : Int) ≤ m.size) = True := eq_true (by omega)
 go_enter func16,ntmps16
 go_wp2_with (first | (go_at_call 13;refine (mti_Request.at _ _).mono ?_;rintro e w1 ⟨rfl,hb1⟩;rw [hm]))
 go_region_with (fail)
 all_goals go_wp2
 all_goals go_ret2
 all_goals exact ⟨rfl,by repeat (first | exact hb1 | apply below_drew1 | apply b_l)⟩
set_option maxHeartbeats 2000000 in
theorem groatref11_Value.at (x : S87) (t : ByteArray) (w : World) (ht : t.size ≤ 1000000) :
  Calls prog 64 #[v87 x,.string t] w fun e w' => e = .returned (.int .i64 (specValue x t)) ∧ Below w.heap.size w w' := by
 have hu87 := underlying87
 have ht0 : t.size ≤ 4611686018427387904 := by omega
 unfold v87
 go_enter func64,ntmps64
 go_wp2_with (first | (go_at_call 113;refine (groatref11_Check.at x _).mono ?_;rintro e w1 ⟨rfl,hb⟩;have hc := below_cells hb) | (go_at_call 118;refine (groatref04_First.at _ _ _ ht0).mono ?_;rintro e w2 ⟨rfl,rfl⟩) | (go_at_call 119;refine (groatref10_Get.at _ _ ht).mono ?_;rintro e w2 ⟨⟨v0,rfl⟩,hb2⟩))
 all_goals go_ret
 all_goals refine ⟨ret_int ?_,by first | exact b_s (bO _) hb | exact b_s (b_s (bO _) hb) hb2⟩
 all_goals (clear hu87;try clear hb2;clear hb)
 all_goals try simp only [beq_eq_false_iff_ne,beq_iff_eq,bne_iff_ne,bne_eq_false_iff_eq,ne_eq] at *
 all_goals (unfold specValue tlvErr;(repeat' split) <;> first | rfl | omega)
def tableOk (f t : S87) (l : List S66) : Prop := ∀ p ∈ l,specValue f p.f0 = 0 ∧ specValue t p.f1 = 0
set_option maxHeartbeats 4000000 in
theorem rule_table.at (A : Option Addr) (c : Nat) (l : List S66) (x y : S87) (w : World) (h256 : l.length ≤ 256) (hne : l.length ≠ 0) (hfr : freshS [] l = true) (hr : Kd.C k66 w A l.length l) (hc : l.length ≤ c) (ht : tableOk x y l) :
  Calls prog 145 #[.slice A l.length c,v87 x,v87 y] w fun e w' => e = .returned (.int .i64 0) ∧ Below w.heap.size w w' := by
 have hu66 := underlying66
 have hu87 := underlying87
 have HSZ : Aside0 (∀ p ∈ l,p.f0.size ≤ 1000000) := ⟨fun p hp => by have := (specValue_facts (ht p hp).1).2.2.2;omega⟩
 have HR := aS hr
 have HC := aS hc
 have HT := aS ht
 have HFR := aS hfr
 have c1 : ((l.length : Int) == 0) = false := beq_eq_false_iff_ne.mpr (by omega)
 clear hr hc ht hfr hne
 unfold v87
 go_enter func145,ntmps145
 go_wp2_with (first | (go_at_call 171;refine (codes_Check.at A c l _ h256 HSZ.out HFR.out (c_B HR.out (Box2.start w _ _).below) HC.out).mono ?_;rintro e w1 ⟨rfl,hb1⟩;have D := aS (Box2.init hb1);clear hb1;obtain ⟨a0,a1,a2,a3,a4⟩ := cells_5 D.out.h1;obtain ⟨b0,b1,b2,b3,b4⟩ := cells_5 D.out.h2))
 clear a0 a1 a2 a3 a4 b0 b1 b2 b3 b4
 go_loopg [27] l.length (fun g v27 w' => ∃ (i : Nat),v27 = .int .i64 i ∧ i + g = l.length ∧ Aside0 (Box2 w w' (.cells #[.int .i64 x.f0,.int .i64 x.f1,.int .i64 x.f2,.int .i64 x.f3,.int .i64 x.f4] 87) (.cells #[.int .i64 y.f0,.int .i64 y.f1,.int .i64 y.f2,.int .i64 y.f3,.int .i64 y.f4] 87)))
 case atStart => exact ⟨0,rfl,Nat.zero_add _,D⟩
 case round =>
  clear D
  obtain ⟨i,rfl,hi,D⟩ := hrel
  by_cases h : i < l.length
  ·have e0 : decide ((i : Int) < l.length) = true := d_T (by omega)
   obtain ⟨ad,rfl,hx0,hx1⟩ := at66 HR.out D.out.below i h
   have q0 : (0 ≤ (i : Int)) = True := eq_true (by omega)
   have q1 : ((i : Int) < l.length) = True := eq_true (by omega)
   have k := HT.out _ (rd_mem66 h)
   generalize rd_T66 l (i : Int) = p at *
   have K1 := aS k.1
   have K2 := aS k.2
   have S1 : Aside0 (p.f0.size ≤ 1000000) := ⟨by have := (specValue_facts k.1).2.2.2;omega⟩
   have S2 : Aside0 (p.f1.size ≤ 1000000) := ⟨by have := (specValue_facts k.2).2.2.2;omega⟩
   obtain ⟨a0,a1,a2,a3,a4⟩ := cells_5 D.out.h1
   obtain ⟨b0,b1,b2,b3,b4⟩ := cells_5 D.out.h2
   have AA := cells_5a D.out.h1
   clear k
   go_wp2_with (first | (go_at_call 90;have D0 := P20;clear D0;refine (spec_Value.at y p.f1 _ S2.out).mono ?_;rintro e w2 ⟨rfl,hb1⟩;rw [K2.out];have D_ := aS (D.out.step hb1);clear D P20 a0 a1 a2 a3 a4 b0 b1 b2 b3 b4 zp0 zp1;have D := D_;clear D_;obtain ⟨b0,b1,b2,b3,b4⟩ := cells_5 D.out.h2) | (go_at_call 90;refine (spec_Value.at x p.f0 _ S1.out).mono ?_;rintro e w1 ⟨rfl,hb1⟩;rw [K1.out];have P20 := aS (blk_nb hb1);obtain ⟨zp0,zp1⟩ := cells_2 P20.out;have D_ := aS (D.out.step (below_a1 hb1));clear D a0 a1 a2 a3 a4 b0 b1 b2 b3 b4 AA hb1;have D := D_;clear D_;obtain ⟨a0,a1,a2,a3,a4⟩ := cells_5 D.out.h1;obtain ⟨b0,b1,b2,b3,b4⟩ := cells_5 D.out.h2))
   obtain ⟨g,rfl⟩ : ∃ g,gk = g + 1 := ⟨gk - 1,by omega⟩
   go_roundg g
   case rel => exact ⟨i + 1,rfl,by omega,D⟩
   case measure => omega
  ·have e0 : decide ((i : Int) < l.length) = false := d_F (by omega)
   go_wp2
   go_ret
   exact ⟨rfl,D.out.below⟩
def decLoop (st : Int) (l : List S87) (p : Int × Int) (b : ByteArray) : Nat → Int → Int → List S63 → List S63 × Int × Int × Int
 | 0,_,i,xs => (xs,0,0,i)
 | d + 1,no,i,xs => if no = 0 then (xs,0,0,i) else if (findS no l).2 = false then (xs,9,no,i) else
   if (cellG st (findS no l).1 b i).2.2 ≠ 0 then (xs,(cellG st (findS no l).1 b i).2.2,no,i) else
   decLoop st l p b d (nextS p no) (cellG st (findS no l).1 b i).2.1 (xs ++ [⟨no,(cellG st (findS no l).1 b i).1⟩])
def decB (st : Int) (l : List S87) (m b : ByteArray) (i : Int) : (ByteArray × List S63) × Int × Int :=
 if (bmG st b i).2.2 ≠ 0 then ((m,[]),(bmG st b i).2.2,1) else
 if (decLoop st l (bmG st b i).1 b 129 (nextS (bmG st b i).1 0) (bmG st b i).2.1 []).2.1 ≠ 0 then
  ((m,(decLoop st l (bmG st b i).1 b 129 (nextS (bmG st b i).1 0) (bmG st b i).2.1 []).1),(decLoop st l (bmG st b i).1 b 129 (nextS (bmG st b i).1 0) (bmG st b i).2.1 []).2.1,(decLoop st l (bmG st b i).1 b 129 (nextS (bmG st b i).1 0) (bmG st b i).2.1 []).2.2.1) else
 if (decLoop st l (bmG st b i).1 b 129 (nextS (bmG st b i).1 0) (bmG st b i).2.1 []).2.2.2 < b.size then
  ((m,(decLoop st l (bmG st b i).1 b 129 (nextS (bmG st b i).1 0) (bmG st b i).2.1 []).1),12,129) else
 ((m,(decLoop st l (bmG st b i).1 b 129 (nextS (bmG st b i).1 0) (bmG st b i).2.1 []).1),0,0)
def decG (st ver : Int) (l : List S87) (b : ByteArray) : (ByteArray × List S63) × Int × Int :=
 if (typG st ver b).2.2 ≠ 0 then ((⟨#[]⟩,[]),(typG st ver b).2.2,0) else decB st l (typG st ver b).1 b (typG st ver b).2.1
theorem typG_ok {st ver : Int} {b : ByteArray} (h : (typG st ver b).2.2 = 0) : 0 ≤ (typG st ver b).2.1 ∧ (typG st ver b).2.1 ≤ b.size := by
 unfold typG at h ⊢
 (repeat' split at h) <;> first | (exact absurd h (by decide)) | skip
 ·rename_i a c d e
  rw [if_pos a,if_neg c,if_neg d,if_neg e]
  exact ⟨by show (0 : Int) ≤ 2;omega,by show (2 : Int) ≤ _;omega⟩
 ·rename_i a c d e
  rw [if_neg a,if_neg c,if_neg d,if_neg e]
  exact ⟨by show (0 : Int) ≤ 4;omega,by show (4 : Int) ≤ _;omega⟩
theorem bmG_ok {st : Int} {b : ByteArray} {i : Int} (h0 : 0 ≤ i) (h1 : i ≤ b.size) (h : (bmG st b i).2.2 = 0) : 0 ≤ (bmG st b i).2.1 ∧ (bmG st b i).2.1 ≤ b.size := by
 unfold bmG at h ⊢
 by_cases c : (takeG st b i).2.2 = 0
 ·have h2 := takeG_ok h0 h1 c
  rw [if_neg (by simpa using c)] at h ⊢
  split
  ·exact ⟨by show 0 ≤ (takeG st b i).2.1;omega,by show (takeG st b i).2.1 ≤ _;omega⟩
  ·rename_i d
   rw [if_neg d] at h
   by_cases e : (takeG st b (takeG st b i).2.1).2.2 = 0
   ·have h3 := takeG_ok (by omega) h2.2 e
    rw [if_neg (by simpa using e)] at h ⊢
    split
    ·rename_i f
     rw [if_pos f] at h
     exact absurd h (by decide)
    ·exact ⟨by show 0 ≤ (takeG st b (takeG st b i).2.1).2.1;omega,by show (takeG st b (takeG st b i).2.1).2.1 ≤ _;omega⟩
   ·rw [if_pos e] at h
    exact absurd h e
 ·rw [if_pos c] at h
  exact absurd h c
theorem cellM_ok {st : Int} {x : S87} {b : ByteArray} {n i : Int} (hn : 0 ≤ n) (h0 : 0 ≤ i) (h1 : i ≤ b.size) (h : (cellM st x b n i).2.2 = 0) : 0 ≤ (cellM st x b n i).2.1 ∧ (cellM st x b n i).2.1 ≤ b.size ∧ specValue x (cellM st x b n i).1 = 0 := by
 have hz : 0 ≤ cellSz st x n := by unfold cellSz bcdSize;(repeat' split) <;> omega
 have hF : ∀ t j,(cellF x t j).2.2 = 0 → specValue x (cellF x t j).1 = 0 ∧ (cellF x t j).2.1 = j := by
  intro t j hh
  unfold cellF at hh ⊢
  split at hh
  ·rename_i c;exact absurd hh c
  ·rename_i c;rw [if_neg c];exact ⟨by simpa using c,rfl⟩
 unfold cellM at h ⊢
 split at h
 ·exact absurd h (by decide)
 ·rename_i c
  rw [if_neg c]
  unfold cellT at h ⊢
  (repeat' split at h) <;> first | (exact absurd h (by decide)) | skip
  ·rename_i a e
   exact absurd h e
  ·rename_i a e
   rw [if_pos a,if_neg e]
   have := hF _ _ h
   exact ⟨by omega,by omega,this.1⟩
  ·rename_i a e f
   rw [if_neg a,if_pos e,if_neg f]
   have := hF _ _ h
   exact ⟨by omega,by omega,this.1⟩
  ·rename_i a e
   rw [if_neg a,if_neg e]
   have := hF _ _ h
   exact ⟨by omega,by omega,this.1⟩
theorem specCheck_facts {x : S87} (hx : specCheck x = 0) : 2 ≤ x.f0 ∧ x.f0 ≤ 128 ∧ 1 ≤ x.f1 ∧ x.f1 ≤ 6 ∧ 1 ≤ x.f3 ∧ x.f3 ≤ x.f4 ∧ x.f4 ≤ 999 ∧ (x.f2 = 1 ∨ x.f2 = 2 ∨ x.f2 = 3) := by
 unfold specCheck at hx
 (repeat' split at hx) <;> first | (exact absurd hx (by decide)) | omega
theorem cellG_ok {st : Int} {x : S87} {b : ByteArray} {i : Int} (hst : st = 1 ∨ st = 2) (hx : specCheck x = 0) (h0 : 0 ≤ i) (h1 : i ≤ b.size) (h : (cellG st x b i).2.2 = 0) : 0 ≤ (cellG st x b i).2.1 ∧ (cellG st x b i).2.1 ≤ b.size ∧ specValue x (cellG st x b i).1 = 0 := by
 have hf := specCheck_facts hx
 unfold cellG at h ⊢
 by_cases c : x.f2 = 1
 ·rw [if_pos c] at h ⊢
  exact cellM_ok (by omega) h0 h1 h
 ·rw [if_neg c] at h ⊢
  by_cases d : (prefG st x.f2 b i).2.2 = 0
  ·have hp := prefG_ok hst (by omega) h0 h1 d
   rw [if_neg (by simpa using d)] at h ⊢
   by_cases e : (prefG st x.f2 b i).1 < x.f3 ∨ (prefG st x.f2 b i).1 > x.f4
   ·rw [if_pos e] at h
    exact absurd h (by decide)
   ·rw [if_neg e] at h ⊢
    exact cellM_ok (by omega) (by omega) hp.2 h
  ·rw [if_pos d] at h
   exact absurd h d
theorem scF_ok : ∀ (l : List S87) (prev i : Int),0 ≤ i → (scF l prev i).1 = 0 → ∀ x ∈ l,specCheck x = 0
 | [],_,_,_,_,_,hx => by cases hx
 | y :: ys,prev,i,hi,h,x,hx => by
  rw [scF] at h
  split at h
  ·rename_i c;exact absurd h c
  ·rename_i c
   split at h
   ·exact absurd h (by simp)
   ·rcases List.mem_cons.1 hx with rfl | hx
    ·simpa using c
    ·exact scF_ok ys _ _ (by omega) h x hx
theorem schemaCheck_ok {st ver : Int} {l : List S87} (h : (schemaCheck st ver l).1 = 0) : (st = 1 ∨ st = 2) ∧ (0 ≤ ver ∧ ver ≤ 9) ∧ ∀ x ∈ l,specCheck x = 0 := by
 unfold schemaCheck at h
 split at h
 ·exact absurd h (by decide)
 ·split at h
  ·exact absurd h (by decide)
  ·exact ⟨by omega,by omega,scF_ok l 0 0 (by omega) h⟩
theorem findS_ok {no : Int} : ∀ {l : List S87},(findS no l).2 = true → (findS no l).1 ∈ l ∧ (findS no l).1.f0 = no
 | [],h => by cases h
 | x :: xs,h => by
  rw [findS] at h ⊢
  split at h
  ·rename_i c;rw [if_pos c];exact ⟨List.mem_cons_self,c⟩
  ·rename_i c;rw [if_neg c];have := findS_ok h;exact ⟨List.mem_cons_of_mem _ this.1,this.2⟩
structure Dec4 (w W : World) (st ver : Int) (sl : Value) (m : ByteArray) (v : Value) : Prop where
 b2 : W.heap[w.heap.size]? = some (.cells #[.int .i64 st,.int .i64 ver,sl] 24 (0,0))
 b4 : W.heap[w.heap.size + 1]? = some (.cells #[.string ⟨#[]⟩,.slice none 0 0] 42 (0,0))
 b5 : W.heap[w.heap.size + 1 + 1]? = some (.cells #[.int .i64 0,.int .i64 0] 45 (0,0))
 b6 : W.heap[w.heap.size + 1 + 1 + 1]? = some (.cells #[.string m,v] 42 (0,0))
 below : Below w.heap.size w W
theorem Dec4.init {w w1 : World} {st ver : Int} {sl : Value} (hb : Below ((((w.alloc (.cells #[.int .i64 st,.int .i64 ver,sl] 24)).alloc (.cells #[.string ⟨#[]⟩,.slice none 0 0] 42)).alloc (.cells #[.int .i64 0,.int .i64 0] 45)).alloc (.cells #[.string ⟨#[]⟩,.slice none 0 0] 42)).heap.size ((((w.alloc (.cells #[.int .i64 st,.int .i64 ver,sl] 24)).alloc (.cells #[.string ⟨#[]⟩,.slice none 0 0] 42)).alloc (.cells #[.int .i64 0,.int .i64 0] 45)).alloc (.cells #[.string ⟨#[]⟩,.slice none 0 0] 42)) w1) :
  Dec4 w w1 st ver sl ⟨#[]⟩ (.slice none 0 0) := by
 obtain ⟨a,b,c,d,e⟩ := four hb
 exact ⟨a,b,c,d,e⟩
theorem Dec4.step {w W W' : World} {st ver : Int} {sl : Value} {m : ByteArray} {v : Value} (D : Dec4 w W st ver sl m v) (hb : Below W.heap.size W W') : Dec4 w W' st ver sl m v :=
 ⟨k_B D.b2 hb,k_B D.b4 hb,k_B D.b5 hb,k_B D.b6 hb,b_s D.below hb⟩
theorem Dec4.facts {w W : World} {st ver : Int} {sl : Value} {m : ByteArray} {v : Value} (D : Dec4 w W st ver sl m v) :
  (W.cell? ⟨w.heap.size,0,none⟩ = some (.int .i64 st) ∧ W.cell? ⟨w.heap.size,1,none⟩ = some (.int .i64 ver) ∧ W.cell? ⟨w.heap.size,2,none⟩ = some sl) ∧
  (W.cell? ⟨w.heap.size + 1,0,none⟩ = some (.string ⟨#[]⟩) ∧ W.cell? ⟨w.heap.size + 1,1,none⟩ = some (.slice none 0 0)) ∧
  (W.cell? ⟨w.heap.size + 1 + 1,0,none⟩ = some (.int .i64 0) ∧ W.cell? ⟨w.heap.size + 1 + 1,1,none⟩ = some (.int .i64 0)) ∧
  (W.cell? ⟨w.heap.size + 1 + 1 + 1,0,none⟩ = some (.string m) ∧ W.cell? ⟨w.heap.size + 1 + 1 + 1,1,none⟩ = some v) :=
 ⟨⟨blk_cell D.b2 0,blk_cell D.b2 1,blk_cell D.b2 2⟩,⟨blk_cell D.b4 0,blk_cell D.b4 1⟩,⟨blk_cell D.b5 0,blk_cell D.b5 1⟩,⟨blk_cell D.b6 0,blk_cell D.b6 1⟩⟩
theorem Dec4.frozen {w W : World} {st ver : Int} {sl : Value} {m : ByteArray} {v : Value} (D : Dec4 w W st ver sl m v) :
  (W.frozen? ⟨w.heap.size + 1,0,none⟩ = false ∧ W.frozen? ⟨w.heap.size + 1,1,none⟩ = false) ∧
  (W.frozen? ⟨w.heap.size + 1 + 1,0,none⟩ = false ∧ W.frozen? ⟨w.heap.size + 1 + 1,1,none⟩ = false) ∧
  (W.frozen? ⟨w.heap.size + 1 + 1 + 1,0,none⟩ = false ∧ W.frozen? ⟨w.heap.size + 1 + 1 + 1,1,none⟩ = false) :=
 ⟨⟨blk_frozen D.b4 0,blk_frozen D.b4 1⟩,⟨blk_frozen D.b5 0,blk_frozen D.b5 1⟩,⟨blk_frozen D.b6 0,blk_frozen D.b6 1⟩⟩
theorem Dec4.mti {w W : World} {st ver : Int} {sl : Value} {m : ByteArray} {v : Value} (D : Dec4 w W st ver sl m v) (m' : ByteArray) : Dec4 w (W.setCell ⟨w.heap.size + 1 + 1 + 1,0,none⟩ (.string m')) st ver sl m' v :=
 ⟨far _ _ D.b2 (by show w.heap.size ≠ w.heap.size + 1 + 1 + 1;omega),far _ _ D.b4 (by show w.heap.size + 1 ≠ w.heap.size + 1 + 1 + 1;omega),far _ _ D.b5 (by show w.heap.size + 1 + 1 ≠ w.heap.size + 1 + 1 + 1;omega),blk_put D.b6 0 _ rfl,D.below.setCell (p := ⟨w.heap.size + 1 + 1 + 1,0,none⟩) (by show w.heap.size ≤ w.heap.size + 1 + 1 + 1;omega) _⟩
theorem Dec4.fields {w W : World} {st ver : Int} {sl : Value} {m : ByteArray} {v : Value} (D : Dec4 w W st ver sl m v) (v' : Value) : Dec4 w (W.setCell ⟨w.heap.size + 1 + 1 + 1,1,none⟩ v') st ver sl m v' :=
 ⟨far _ _ D.b2 (by show w.heap.size ≠ w.heap.size + 1 + 1 + 1;omega),far _ _ D.b4 (by show w.heap.size + 1 ≠ w.heap.size + 1 + 1 + 1;omega),far _ _ D.b5 (by show w.heap.size + 1 + 1 ≠ w.heap.size + 1 + 1 + 1;omega),blk_put D.b6 1 _ rfl,D.below.setCell (p := ⟨w.heap.size + 1 + 1 + 1,1,none⟩) (by show w.heap.size ≤ w.heap.size + 1 + 1 + 1;omega) _⟩
theorem Dec4.fin {w W : World} {st ver : Int} {sl : Value} {m : ByteArray} {v : Value} (D : Dec4 w W st ver sl m v) (u0 u1 x0 x1 : Value) :
  ((((W.setCell ⟨w.heap.size + 1,0,none⟩ u0).setCell ⟨w.heap.size + 1,1,none⟩ u1).setCell ⟨w.heap.size + 1 + 1,0,none⟩ x0).setCell ⟨w.heap.size + 1 + 1,1,none⟩ x1).heap[w.heap.size + 1]? = some (.cells #[u0,u1] 42 (0,0)) ∧
  ((((W.setCell ⟨w.heap.size + 1,0,none⟩ u0).setCell ⟨w.heap.size + 1,1,none⟩ u1).setCell ⟨w.heap.size + 1 + 1,0,none⟩ x0).setCell ⟨w.heap.size + 1 + 1,1,none⟩ x1).heap[w.heap.size + 1 + 1]? = some (.cells #[x0,x1] 45 (0,0)) ∧
  Below w.heap.size w ((((W.setCell ⟨w.heap.size + 1,0,none⟩ u0).setCell ⟨w.heap.size + 1,1,none⟩ u1).setCell ⟨w.heap.size + 1 + 1,0,none⟩ x0).setCell ⟨w.heap.size + 1 + 1,1,none⟩ x1) := by
 have h4 : ((W.setCell ⟨w.heap.size + 1,0,none⟩ u0).setCell ⟨w.heap.size + 1,1,none⟩ u1).heap[w.heap.size + 1]? = some (.cells #[u0,u1] 42 (0,0)) := blk_put (blk_put D.b4 0 _ rfl) 1 _ rfl
 have h5 : ((W.setCell ⟨w.heap.size + 1,0,none⟩ u0).setCell ⟨w.heap.size + 1,1,none⟩ u1).heap[w.heap.size + 1 + 1]? = some (.cells #[.int .i64 0,.int .i64 0] 45 (0,0)) :=
  far _ _ (far _ _ D.b5 (by show w.heap.size + 1 + 1 ≠ w.heap.size + 1;omega)) (by show w.heap.size + 1 + 1 ≠ w.heap.size + 1;omega)
 refine ⟨far _ _ (far _ _ h4 (by show w.heap.size + 1 ≠ w.heap.size + 1 + 1;omega)) (by show w.heap.size + 1 ≠ w.heap.size + 1 + 1;omega),blk_put (blk_put h5 0 _ rfl) 1 _ rfl,?_⟩
 exact (((D.below.setCell (p := ⟨w.heap.size + 1,0,none⟩) (Nat.le_succ _) _).setCell (p := ⟨w.heap.size + 1,1,none⟩) (Nat.le_succ _) _).setCell (p := ⟨w.heap.size + 1 + 1,0,none⟩) (by show w.heap.size ≤ w.heap.size + 1 + 1;omega) _).setCell (p := ⟨w.heap.size + 1 + 1,1,none⟩) (by show w.heap.size ≤ w.heap.size + 1 + 1;omega) _
theorem Dec4.grown {w W W' : World} {st ver : Int} {sl : Value} {m : ByteArray} {v v' : Value} {base : Nat} {ok : Nat → Prop} {xs : List S63} (D : Dec4 w W st ver sl m v) (HO : Kd.R k63 63 W base ok v' xs) (hg : W.grownBy W' v'.ownBlock) (hb : Below w.heap.size w W') : Dec4 w W' st ver sl m v :=
 ⟨blk_grown D.b2 hg (Kd.R_ne HO D.b2 (by decide)),blk_grown D.b4 hg (Kd.R_ne HO D.b4 (by decide)),blk_grown D.b5 hg (Kd.R_ne HO D.b5 (by decide)),blk_grown D.b6 hg (Kd.R_ne HO D.b6 (by decide)),hb⟩
def okD (n k : Nat) : Prop := k ≠ n + 1 ∧ k ≠ n + 1 + 1 ∧ k ≠ n + 1 + 1 + 1
theorem okD_fresh {w W : World} {st ver : Int} {sl : Value} {m : ByteArray} {v : Value} (D : Dec4 w W st ver sl m v) : ∀ k,W.heap.size ≤ k → okD w.heap.size k := fun k hk => by
 have := blk_lt D.b6
 exact ⟨by omega,by omega,by omega⟩
theorem Dec4.row {w W : World} {v u0 u1 x0 x1 : Value} {xs : List S63} (HO : Kd.R k63 63 W w.heap.size (okD w.heap.size) v xs) :
  ∃ A c,v = .slice A xs.length c ∧ xs.length ≤ c ∧ Kd.C k63 ((((W.setCell ⟨w.heap.size + 1,0,none⟩ u0).setCell ⟨w.heap.size + 1,1,none⟩ u1).setCell ⟨w.heap.size + 1 + 1,0,none⟩ x0).setCell ⟨w.heap.size + 1 + 1,1,none⟩ x1) A xs.length xs := by
 obtain ⟨A,c,rfl⟩ := Kd.R_slice HO
 have h1 := Kd.R_far HO (p := ⟨w.heap.size + 1,0,none⟩) (fun k hk => hk.1) u0
 have h2 := Kd.R_far h1 (p := ⟨w.heap.size + 1,1,none⟩) (fun k hk => hk.1) u1
 have h3 := Kd.R_far h2 (p := ⟨w.heap.size + 1 + 1,0,none⟩) (fun k hk => hk.2.1) x0
 have h4 := Kd.R_far h3 (p := ⟨w.heap.size + 1 + 1,1,none⟩) (fun k hk => hk.2.1) x1
 obtain ⟨_,h5,h6⟩ := Kd.R_reads' h4
 exact ⟨A,c,rfl,h5,h6⟩
def fieldsOk (l : List S87) : Int → List S63 → Bool
 | _,[] => true
 | last,x :: xs => decide (last < x.f0) && ((findS x.f0 l).2 && (decide (specValue (findS x.f0 l).1 x.f1 = 0) && fieldsOk l x.f0 xs))
def msgOk (st ver : Int) (l : List S87) (m : ByteArray) (xs : List S63) : Bool := decide ((schemaCheck st ver l).1 = 0) && (decide (verV m = (ver,true)) && fieldsOk l 0 xs)
theorem fieldsOk_cons {l : List S87} {last : Int} {x : S63} {xs : List S63} (h : fieldsOk l last (x :: xs) = true) : last < x.f0 ∧ (findS x.f0 l).2 = true ∧ specValue (findS x.f0 l).1 x.f1 = 0 ∧ fieldsOk l x.f0 xs = true := by
 rw [fieldsOk] at h
 simp only [Bool.and_eq_true,decide_eq_true_eq] at h
 exact h
set_option maxHeartbeats 2000000 in
theorem msg_Check.at (st ver : Int) (A : Option Addr) (c : Nat) (l : List S87) (m : ByteArray) (A2 : Option Addr) (c2 : Nat) (xs : List S63) (w : World) (hl : l.length ≤ 4611686018427387904) (hr : Kd.C k87 w A l.length l) (hc : l.length ≤ c) (hl2 : xs.length ≤ 4611686018427387904) (hr2 : Kd.C k63 w A2 xs.length xs) (hc2 : xs.length ≤ c2) (hm : msgOk st ver l m xs = true) :
  Calls prog 39 #[.agg #[.int .i64 st,.int .i64 ver,.slice A l.length c],.agg #[.string m,.slice A2 xs.length c2]] w fun e w' => e = .returned (.agg #[.int .i64 0,.int .i64 0]) ∧ Below w.heap.size w w' := by
 have hu24 := underlying24
 have hu42 := underlying42
 have hu45 := underlying45
 have hu63 := underlying63
 have hu87 := underlying87
 have HR := aS hr
 have HC := aS hc
 have HR2 := aS hr2
 have HC2 := aS hc2
 unfold msgOk at hm
 simp only [Bool.and_eq_true,decide_eq_true_eq] at hm
 obtain ⟨hs,hv,hok⟩ := hm
 obtain ⟨s2,hsc⟩ : ∃ s2,schemaCheck st ver l = (0,s2) := ⟨_,by rw [← hs]⟩
 have HOK := aS hok
 clear hr hc hr2 hc2 hs hok
 go_enter func39,ntmps39
 go_wp2_with (first | (go_at_call 32;refine (schema_Check.at st ver A c l _ hl (c_B HR.out (Box3.start w _ _ _).below) HC.out).mono ?_;rintro e w1 ⟨rfl,hb1⟩;rw [hsc];have D := aS (Box3.init hb1);clear hb1;obtain ⟨a0,a1,a2⟩ := cells_3 D.out.h1;obtain ⟨b0,b1⟩ := cells_2 D.out.h2) | (go_at_call 80;refine (mti_Version.at _ _).mono ?_;rintro e w2 ⟨rfl,hb1⟩;rw [hv];have D_ := aS (D.out.step hb1);clear D a0 a1 a2 b0 b1 hb1;have D := D_;clear D_;obtain ⟨a0,a1,a2⟩ := cells_3 D.out.h1;obtain ⟨b0,b1⟩ := cells_2 D.out.h2))
 clear a0 a1 a2 b0 b1
 go_loopg [9,41] xs.length (fun g v9 v41 w' => ∃ (i : Nat) (last : Int),v9 = .int .i64 last ∧ v41 = .int .i64 i ∧ i + g = xs.length ∧ Aside0 (fieldsOk l last (xs.drop i) = true) ∧ Aside0 (Box3 w w' (.cells #[.int .i64 st,.int .i64 ver,.slice A l.length c] 24) (.cells #[.string m,.slice A2 xs.length c2] 42) (.cells #[.int .i64 0,.int .i64 0] 45)))
 case atStart => exact ⟨0,0,rfl,rfl,Nat.zero_add _,HOK,D⟩
 case round =>
  clear D HOK
  obtain ⟨i,last,rfl,rfl,hi,HOK,D⟩ := hrel
  obtain ⟨a0,a1,a2⟩ := cells_3 D.out.h1
  have AA := cells_3a D.out.h1
  by_cases h : i < xs.length
  ·have e0 : decide ((i : Int) < xs.length) = true := d_T (by omega)
   obtain ⟨ad,rfl,hx0,hx1⟩ := at63 HR2.out D.out.below i h
   have q0 : (0 ≤ (i : Int)) = True := eq_true (by omega)
   have q1 : ((i : Int) < xs.length) = True := eq_true (by omega)
   have hf := HOK.out
   rw [drop63 h] at hf
   clear HOK
   obtain ⟨k1,k2,k3,k4⟩ := fieldsOk_cons hf
   generalize rd_T63 xs (i : Int) = x at *
   have HOK := aS k4
   have e1 : decide (x.f0 ≤ last) = false := d_F (by omega)
   obtain ⟨y,hF⟩ : ∃ y,findS x.f0 l = (y,true) := ⟨_,by rw [← k2]⟩
   rw [hF] at k3
   simp only at k3
   have HT : Aside0 (x.f1.size ≤ 1000000) := ⟨by have := (specValue_facts k3).2.2.2;omega⟩
   clear hf k1 k2 k4
   go_wp2_with (first | (go_at_call 36;refine (schema_Find.at st ver A c l _ _ hl (c_B HR.out (b_s D.out.below (bO _))) HC.out).mono ?_;rintro e w3 ⟨rfl,hb1⟩;rw [hF];have B := aS (blk_nb hb1);have D_ := aS (D.out.step (below_a1 hb1));clear D a0 a1 a2 AA hb1;have D := D_;clear D_;obtain ⟨d0,d1⟩ := cells_2 B.out;have DA := cells_2a B.out;simp only [v87]) | (go_at_call 90;refine (spec_Value.at y _ _ HT.out).mono ?_;rintro e w4 ⟨rfl,hb1⟩;rw [k3];have D_ := aS (D.out.step (below_a1 hb1));clear D B d0 d1 DA hb1;have D := D_;clear D_))
   obtain ⟨g,rfl⟩ : ∃ g,gk = g + 1 := ⟨gk - 1,by omega⟩
   go_roundg g
   case rel => exact ⟨i + 1,x.f0,rfl,rfl,by omega,HOK,D⟩
   case measure => omega
  ·have e0 : decide ((i : Int) < xs.length) = false := d_F (by omega)
   obtain ⟨c0,c1⟩ := cells_2 D.out.h3
   obtain ⟨f0,f1⟩ := froz_2 D.out.h3
   go_wp2
   refine bodyPost_ret (results_cell_row rfl _ _ (w.heap.size + 1 + 1) 45 _ (0,0) _ rfl (blk_put (blk_put D.out.h3 0 _ rfl) 1 _ rfl) hu45 rfl (by kernel_rfl)) rfl ?_
   exact ⟨rfl,(D.out.below.setCell (p := ⟨w.heap.size + 1 + 1,0,none⟩) (by show w.heap.size ≤ w.heap.size + 1 + 1;omega) _).setCell (p := ⟨w.heap.size + 1 + 1,1,none⟩) (by show w.heap.size ≤ w.heap.size + 1 + 1;omega) _⟩
end Go.Proofs.YtgbmnpgaddhfpaaGreatDoor.T
namespace Go.Proofs.YtgbmnpgaddhfpaaGreatDoor.T
open Go.RowKit Go.Proofs.YtgbmnpgaddhfpaaGreatDoorW.PrintWords Go.Proofs.YtgbmnpgaddhfpaaGreatDoorW.PrintLast Go.Proofs.YtgbmnpgaddhfpaaGreatDoorW.PrintMore
attribute [local go_sem] max2_int min2_int max_two min_two
open Go.Proofs.YtgbmnpgaddhfpaaGreatDoor.G
open Extern.Stop (cell)
open Tryz
set_option maxRecDepth 100000
def str8 (t : ByteArray) : ByteArray := strOfNums [bt t 0,bt t 1,bt t 2,bt t 3,bt t 4,bt t 5,bt t 6,bt t 7]
def bmP (st : Int) (p : Int × Int) : ByteArray :=
 if zero8q (b8 p.2) = true then if st = 1 then hexP (str8 (b8 p.1)) else str8 (b8 p.1)
 else if st = 1 then hexP (str8 (b8 (Go.bits .or .u64 p.1 9223372036854775808)) ++ str8 (b8 p.2)) else str8 (b8 (Go.bits .or .u64 p.1 9223372036854775808)) ++ str8 (b8 p.2)
theorem arr_string {t : ByteArray} {W : World} {g : Nat} (h : W.heap[g]? = some (.cells (cells8 t) 154 (0,0))) : (convert 101 9 (.slice (some ⟨g,0,none⟩) 8 8)).run prog W = .ok (.string (str8 t)) W := by
 refine Kd.C_string (P := prog) (xs := [bt t 0,bt t 1,bt t 2,bt t 3,bt t 4,bt t 5,bt t 6,bt t 7]) underlying101 underlying5 underlying9 ?_
 refine ⟨rfl,by omega,fun _ => ⟨_,rfl,fun j p hj => ⟨[.int .u8 p],rfl,rfl,fun i u hu => ?_⟩⟩⟩
 rcases i with _ | i
 ·simp only [List.getElem?_cons_zero,Option.some.injEq] at hu
  subst hu
  rcases j with _ | _ | _ | _ | _ | _ | _ | _ | j
  all_goals first | (simp only [List.getElem?_cons_zero,List.getElem?_cons_succ,Option.some.injEq] at hj;subst hj;exact blk_cell h _) | (exact absurd hj (by simp))
 ·exact absurd hu (by simp)
theorem or63_range (x : Int) : 0 ≤ Go.bits .or .u64 x 9223372036854775808 ∧ Go.bits .or .u64 x 9223372036854775808 < 18446744073709551616 := by
 have h := fun y => IntKind.wrap_u64 y
 unfold Go.bits
 constructor <;> (try simp only [IntKind.wrap_u64]) <;> omega
theorem str8_size (t : ByteArray) : (str8 t).size = 8 := by
 have := data_length (str8 t)
 unfold str8 at this ⊢
 rw [strOfNums_data] at this
 simpa using this.symm
theorem cv8 (t : ByteArray) (W : World) : (convert 101 9 (.slice (some ⟨W.heap.size,0,none⟩) 8 8)).run prog (W.alloc (.cells (cells8 t) 154)) = .ok (.string (str8 t)) (W.alloc (.cells (cells8 t) 154)) := arr_string (blk_new W _)
set_option maxHeartbeats 2000000 in
theorem bitmap_Put.at (st : Int) (p : Int × Int) (w : World) (hst : st = 1 ∨ st = 2) (h1 : hasS p 1 = false) (hp : (0 ≤ p.1 ∧ p.1 < 18446744073709551616) ∧ (0 ≤ p.2 ∧ p.2 < 18446744073709551616)) :
  Calls prog 47 #[.int .i64 st,vSet p] w fun e w' => e = .returned (.tuple #[.string (bmP st p),.int .i64 0]) ∧ Below w.heap.size w w' := by
 have hu82 := underlying82
 have hu154 := underlying154
 have hk : known st = true := by rcases hst with rfl | rfl <;> decide
 have hor := or63_range p.1
 obtain ⟨r,hg⟩ : ∃ r,bmP st p = r := ⟨_,rfl⟩
 rw [hg]
 rw [bmP] at hg
 have st1 := store_fresh8 (b8 p.2)
 have st2 := store_fresh8 (b8 p.1)
 have st3 := store_fresh8 (b8 (Go.bits .or .u64 p.1 9223372036854775808))
 have z0 : ∀ h : 0 < (cells8 (b8 p.2)).size,(cells8 (b8 p.2))[0] = .int .u8 (bt (b8 p.2) 0) := fun _ => rfl
 have z1 : ∀ h : 1 < (cells8 (b8 p.2)).size,(cells8 (b8 p.2))[1] = .int .u8 (bt (b8 p.2) 1) := fun _ => rfl
 have z2 : ∀ h : 2 < (cells8 (b8 p.2)).size,(cells8 (b8 p.2))[2] = .int .u8 (bt (b8 p.2) 2) := fun _ => rfl
 have z3 : ∀ h : 3 < (cells8 (b8 p.2)).size,(cells8 (b8 p.2))[3] = .int .u8 (bt (b8 p.2) 3) := fun _ => rfl
 have z4 : ∀ h : 4 < (cells8 (b8 p.2)).size,(cells8 (b8 p.2))[4] = .int .u8 (bt (b8 p.2) 4) := fun _ => rfl
 have z5 : ∀ h : 5 < (cells8 (b8 p.2)).size,(cells8 (b8 p.2))[5] = .int .u8 (bt (b8 p.2) 5) := fun _ => rfl
 have z6 : ∀ h : 6 < (cells8 (b8 p.2)).size,(cells8 (b8 p.2))[6] = .int .u8 (bt (b8 p.2) 6) := fun _ => rfl
 have z7 : ∀ h : 7 < (cells8 (b8 p.2)).size,(cells8 (b8 p.2))[7] = .int .u8 (bt (b8 p.2) 7) := fun _ => rfl
 have cv1 := cv8 (b8 p.2)
 have cv2 := cv8 (b8 p.1)
 have cv3 := cv8 (b8 (Go.bits .or .u64 p.1 9223372036854775808))
 have hE := eql8 (b8 p.2)
 obtain ⟨q,hq⟩ : ∃ q,zero8q (b8 p.2) = q := ⟨_,rfl⟩
 simp only [hq] at hE
 rw [hq] at hg
 clear hq
 unfold vSet
 have HZ1 : Aside0 ((str8 (b8 p.1)).size ≤ 1000000) := ⟨by rw [str8_size];omega⟩
 have HZ2 : Aside0 ((str8 (b8 (Go.bits .or .u64 p.1 9223372036854775808)) ++ str8 (b8 p.2)).size ≤ 1000000) := ⟨by rw [app_size,str8_size,str8_size];omega⟩
 have sz1 := str8_size (b8 p.2)
 have sz2 := str8_size (b8 (Go.bits .or .u64 p.1 9223372036854775808))
 have HG := aS hg
 clear hg
 cases q with
 | true =>
  rcases hst with rfl | rfl
  all_goals
   go_enter func47,ntmps47
   go_wp2_with (first | (go_at_call 81;refine (bitmap_known.at _ _).mono ?_;rintro e w1 ⟨rfl,rfl⟩;rw [hk]) | (go_at_call 103;refine (fields_Has.at p _ _).mono ?_;rintro e w2 ⟨rfl,hb1⟩;rw [h1];have B := aS (blk_nb hb1);have H := aS (below_a1 hb1);clear hb1;have k0 := blk_cell B.out 0;have k1 := blk_cell B.out 1) | (go_at_call 104;refine (fields_Halves.at p _).mono ?_;rintro e w3 ⟨rfl,hb3⟩;have H_ := aS (b_s H.out hb3);clear B H k0 k1 hb3;have H := H_;clear H_) | (go_at_call 105;refine (bitmap_bytes.at _ _ (by omega) (by omega)).mono ?_;rintro e w4 ⟨rfl,hb4⟩;have H_ := aS (b_s (by repeat (first | exact H.out | apply b_l)) hb4);clear H hb4;have H := H_;clear H_) | (go_at_call 106;refine (hexa_Put.at _ _ HZ1.out).mono ?_;rintro e w5 ⟨rfl,hb5⟩;have H_ := aS (b_s (by repeat (first | exact H.out | apply b_l)) hb5);clear H hb5;have H := H_;clear H_))
  all_goals go_ret2
  all_goals obtain rfl := HG.out
  all_goals exact ⟨rfl,by repeat (first | exact H.out | apply b_l)⟩
 | false =>
  rcases hst with rfl | rfl
  all_goals
   go_enter func47,ntmps47
   go_wp2_with (first | (go_at_call 81;refine (bitmap_known.at _ _).mono ?_;rintro e w1 ⟨rfl,rfl⟩;rw [hk]) | (go_at_call 103;refine (fields_Has.at p _ _).mono ?_;rintro e w2 ⟨rfl,hb1⟩;rw [h1];have B := aS (blk_nb hb1);have H := aS (below_a1 hb1);clear hb1;have k0 := blk_cell B.out 0;have k1 := blk_cell B.out 1) | (go_at_call 104;refine (fields_Halves.at p _).mono ?_;rintro e w3 ⟨rfl,hb3⟩;have H_ := aS (b_s H.out hb3);clear B H k0 k1 hb3;have H := H_;clear H_) | (go_at_call 105;refine (bitmap_bytes.at _ _ (by omega) (by omega)).mono ?_;rintro e w4 ⟨rfl,hb4⟩;have H_ := aS (b_s (by repeat (first | exact H.out | apply b_l)) hb4);clear H hb4;have H := H_;clear H_) | (go_at_call 106;refine (hexa_Put.at _ _ HZ2.out).mono ?_;rintro e w5 ⟨rfl,hb5⟩;have H_ := aS (b_s (by repeat (first | exact H.out | apply b_l)) hb5);clear H hb5;have H := H_;clear H_))
  all_goals go_ret2
  all_goals obtain rfl := HG.out
  all_goals exact ⟨rfl,by repeat (first | exact H.out | apply b_l)⟩
end Go.Proofs.YtgbmnpgaddhfpaaGreatDoor.T
namespace Go.Proofs.YtgbmnpgaddhfpaaGreatDoor.T
open Go.RowKit Go.Proofs.YtgbmnpgaddhfpaaGreatDoorW.PrintWords Go.Proofs.YtgbmnpgaddhfpaaGreatDoorW.PrintLast Go.Proofs.YtgbmnpgaddhfpaaGreatDoorW.PrintMore
attribute [local go_sem] max2_int min2_int max_two min_two
open Go.Proofs.YtgbmnpgaddhfpaaGreatDoor.G
open Tryz
set_option maxRecDepth 100000
def MsgAt (W : World) (v : Value) (xs : List S63) : Prop := (xs = [] ∧ v = .slice none 0 0) ∨ ∃ g : Nat,v = .slice (some ⟨g,0,none⟩) xs.length xs.length ∧ W.heap[g]? = some (.cells (flat63 xs).toArray 63 (0,0))
theorem MsgAt.reads {W : World} {v : Value} {xs : List S63} (h : MsgAt W v xs) (hx : xs.length ≤ 1000000) : ∃ A c,v = .slice A xs.length c ∧ xs.length ≤ c ∧ Kd.C k63 W A xs.length xs := by
 rcases h with ⟨rfl,rfl⟩ | ⟨g,rfl,hg⟩
 ·exact ⟨none,0,rfl,Nat.le_refl _,Kd.C_nil _ _⟩
 ·exact ⟨_,_,rfl,Nat.le_refl _,flat63_C (by omega) hg⟩
theorem MsgAt.step {W W' : World} {v : Value} {xs : List S63} (h : MsgAt W v xs) (hb : Below W.heap.size W W') : MsgAt W' v xs := by
 rcases h with h | ⟨g,h,hg⟩
 ·exact .inl h
 ·exact .inr ⟨g,h,k_B hg hb⟩
theorem MsgAt.far {W : World} {v : Value} {xs : List S63} (h : MsgAt W v xs) {b t : Nat} {cs : Array Value} (hb : W.heap[b]? = some (.cells cs t (0,0))) (ht : 63 ≠ t) (k : Nat) (u : Value) : MsgAt (W.setCell ⟨b,k,none⟩ u) v xs := by
 rcases h with h | ⟨g,h,hg⟩
 ·exact .inl h
 ·exact .inr ⟨g,h,T.far _ _ hg (blk_ne hg hb ht)⟩
theorem at3 {A : Option Addr} {l : List Int} {w wr : World} (HR : Kd.C (Kd.int .i64) w A l.length l) (HB : Below w.heap.size w wr) (i : Nat) (h : i < l.length) : ∃ ad,A = some ad ∧ wr.cell? (ad.add i) = some (.int .i64 (rd l (i : Int))) := by
 obtain ⟨ad,cs,e,_,hK,hc0⟩ := Kd.C_get HR (0 : Int) (i : Int) (by omega) (by omega)
 obtain rfl : cs = [.int .i64 (l.getD (i : Int).toNat 0)] := hK
 have h1 : w.cell? (ad.add ((i : Int).toNat * 1 + 0)) = some (.int .i64 (l.getD (i : Int).toNat 0)) := hc0 0 _ rfl
 have h2 : w.cell? (ad.add i) = some (.int .i64 (rd l (i : Int))) := by
  unfold rd
  simpa using h1
 exact ⟨ad,e,(HB.cell (World.block_lt_of_cell? w _ h2)).trans h2⟩
theorem dropI {l : List Int} {i : Nat} (h : i < l.length) : l.drop i = rd l i :: l.drop (i + 1) := by
 rw [List.drop_eq_getElem_cons h]
 simp [rd,List.getD_eq_getElem?_getD,List.getElem?_eq_getElem h]
def echoS (fs : List S63) : List Int → List S63 → List S63
 | [],acc => acc
 | no :: r,acc => echoS fs r (if (getS no fs).2 = true then withM no (getS no fs).1 acc else acc)
def buildS (fs : List S63) (echo : List Int) (cs : List S129) (e : Int) : List S63 := withM 39 (rejCode cs e) (echoS fs echo [])
theorem withM_len (no : Int) (t : ByteArray) (xs : List S63) : (withM no t xs).length ≤ xs.length + 1 := by
 unfold withM insS
 have h1 := placeW_le no (withoutS no xs)
 have h2 := withoutS_len no xs
 simp
 omega
theorem cells_7 {w : World} {g : Nat} {t : TypeId} {v0 v1 v2 v3 v4 v5 v6 : Value} (h : w.heap[g]? = some (.cells #[v0,v1,v2,v3,v4,v5,v6] t (0,0))) : w.cell? ⟨g,0,none⟩ = some v0 ∧ w.cell? ⟨g,1,none⟩ = some v1 ∧ w.cell? ⟨g,2,none⟩ = some v2 ∧ w.cell? ⟨g,3,none⟩ = some v3 ∧ w.cell? ⟨g,4,none⟩ = some v4 ∧ w.cell? ⟨g,5,none⟩ = some v5 ∧ w.cell? ⟨g,6,none⟩ = some v6 := ⟨blk_cell h 0,blk_cell h 1,blk_cell h 2,blk_cell h 3,blk_cell h 4,blk_cell h 5,blk_cell h 6⟩
theorem cells_7a {w : World} {g : Nat} {t : TypeId} {v0 v1 v2 v3 v4 v5 v6 : Value} (h : w.heap[g]? = some (.cells #[v0,v1,v2,v3,v4,v5,v6] t (0,0))) (o : Obj) : (w.alloc o).cell? ⟨g,0,none⟩ = some v0 ∧ (w.alloc o).cell? ⟨g,1,none⟩ = some v1 ∧ (w.alloc o).cell? ⟨g,2,none⟩ = some v2 ∧ (w.alloc o).cell? ⟨g,3,none⟩ = some v3 ∧ (w.alloc o).cell? ⟨g,4,none⟩ = some v4 ∧ (w.alloc o).cell? ⟨g,5,none⟩ = some v5 ∧ (w.alloc o).cell? ⟨g,6,none⟩ = some v6 := cells_7 (blk_alloc h o)
theorem Box4.far {w W : World} {a b c d : Obj} (D : Box4 w W a b c d) {g : Nat} (hg : w.heap.size + 1 + 1 + 1 < g) (k : Nat) (u : Value) : Box4 w (W.setCell ⟨g,k,none⟩ u) a b c d :=
 ⟨T.far _ _ D.h1 (by show w.heap.size ≠ g;omega),T.far _ _ D.h2 (by show w.heap.size + 1 ≠ g;omega),T.far _ _ D.h3 (by show w.heap.size + 1 + 1 ≠ g;omega),T.far _ _ D.h4 (by show w.heap.size + 1 + 1 + 1 ≠ g;omega),D.below.setCell (p := ⟨g,k,none⟩) (by show w.heap.size ≤ g;omega) _⟩
set_option maxHeartbeats 4000000 in
theorem reject_Build.at (st ver : Int) (s1 s2 s3 : Value) (A : Option Addr) (c : Nat) (echo : List Int) (Ac : Option Addr) (cc : Nat) (cs : List S129) (m : ByteArray) (Am : Option Addr) (cm : Nat) (fs : List S63) (err fld : Int) (w : World)
  (hs : (∃ a b c,s1 = .slice a b c) ∧ (∃ a b c,s2 = .slice a b c) ∧ (∃ a b c,s3 = .slice a b c)) (hle : echo.length ≤ 1000) (hre : Kd.C (Kd.int .i64) w A echo.length echo) (hce : echo.length ≤ c) (hlc : cs.length ≤ 1000) (hrc : Kd.C k129 w Ac cs.length cs) (hcc : cs.length ≤ cc)
  (hlm : fs.length ≤ 1000000) (hrm : Kd.C k63 w Am fs.length fs) (hcm : fs.length ≤ cm) (hq : reqM m = true) :
  Calls prog 14 #[.agg #[.int .i64 st,.int .i64 ver,s1,s2,s3,.slice A echo.length c,.slice Ac cs.length cc],.agg #[.string m,.slice Am fs.length cm],.agg #[.int .i64 err,.int .i64 fld]] w fun e w' => (∃ A' c',e = .returned (.tuple #[.agg #[.string (respM m),.slice A' (buildS fs echo cs err).length c'],.bool true]) ∧ (buildS fs echo cs err).length ≤ c' ∧ Kd.C k63 w' A' (buildS fs echo cs err).length (buildS fs echo cs err)) ∧ Below w.heap.size w w' := by
 have hu32 := underlying32
 have hu42 := underlying42
 have hu45 := underlying45
 obtain ⟨⟨a1,n1,c1,rfl⟩,⟨a2,n2,c2,rfl⟩,⟨a3,n3,c3,rfl⟩⟩ := hs
 have HRe := aS hre
 have HRc := aS hrc
 have HRm := aS hrm
 have HCm := aS hcm
 have HCc := aS hcc
 have HFL := aS hlm
 have HEL := aS hle
 have HCL := aS hlc
 clear hre hrc hrm hcm hcc hlm hlc
 go_enter func14,ntmps14
 go_wp2_with (first | (go_at_call 16;refine (mti_Response.at _ _ hq).mono ?_;rintro e w1 ⟨rfl,hb1⟩;have D := aS (Box4.init hb1);clear hb1;obtain ⟨s0,s1,s2,s3,s4,s5,s6⟩ := cells_7 D.out.h1;have SA := cells_7a D.out.h1))
 have G : Aside0 ((w1.alloc (.cells #[.string (respM m),.slice none 0 0] 42)).heap[w1.heap.size]? = some (.cells #[.string (respM m),.slice none 0 0] 42 (0,0))) := ⟨blk_new _ _⟩
 have D_ := aS (D.out.step (b_l (Below.refl _ _) (.cells #[.string (respM m),.slice none 0 0] 42)))
 have HG10 : Aside0 (w.heap.size + 1 + 1 + 1 < w1.heap.size) := ⟨blk_lt D.out.h4⟩
 clear D s0 s1 s2 s3 s4 s5 s6 SA
 have D := D_
 clear D_
 go_loopg [29] echo.length (fun g v29 w' => ∃ (i : Nat) (acc : List S63) (v : Value),v29 = .int .i64 i ∧ i + g = echo.length ∧ Aside0 (acc.length ≤ i) ∧ Aside0 (echoS fs (echo.drop i) acc = echoS fs echo []) ∧ Aside0 (MsgAt w' v acc) ∧ Aside0 (w'.heap[w1.heap.size]? = some (.cells #[.string (respM m),v] 42 (0,0))) ∧ Aside0 (Box4 w w' (.cells #[.int .i64 st,.int .i64 ver,.slice a1 n1 c1,.slice a2 n2 c2,.slice a3 n3 c3,.slice A echo.length c,.slice Ac cs.length cc] 32) (.cells #[.string m,.slice Am fs.length cm] 42) (.cells #[.int .i64 err,.int .i64 fld] 45) (.cells #[.string ⟨#[]⟩,.slice none 0 0] 42)))
 case atStart => exact ⟨0,[],_,rfl,Nat.zero_add _,⟨Nat.le_refl _⟩,⟨rfl⟩,⟨.inl ⟨rfl,rfl⟩⟩,G,D⟩
 case round =>
  clear D G
  obtain ⟨i,acc,v,rfl,hi,HAL,HF,M,G,D⟩ := hrel
  have HIL : Aside0 (i ≤ 1000) := ⟨by have := HEL.out;omega⟩
  obtain ⟨Av,cv,hv0,hcv0,_⟩ := M.out.reads (by have := HAL.out;have := HIL.out;omega)
  subst hv0
  have hcv := aS hcv0
  have HCv : Aside0 (∀ {W : World},MsgAt W (.slice Av acc.length cv) acc → Kd.C k63 W Av acc.length acc) := ⟨fun h => by obtain ⟨A',c',e',_,hC⟩ := h.reads (by have := HAL.out;have := HIL.out;omega);cases e';exact hC⟩
  clear hcv0
  obtain ⟨b0,b1⟩ := cells_2 D.out.h2
  obtain ⟨m0,m1⟩ := cells_2 G.out
  obtain ⟨fm0,fm1⟩ := froz_2 G.out
  by_cases h : i < echo.length
  ·have e0 : decide ((i : Int) < echo.length) = true := d_T (by omega)
   obtain ⟨ad,rfl,hx0⟩ := at3 HRe.out D.out.below i h
   have q0 : (0 ≤ (i : Int)) = True := eq_true (by omega)
   have q1 : ((i : Int) < echo.length) = True := eq_true (by omega)
   have hf := HF.out
   rw [dropI h,echoS] at hf
   clear HF
   generalize rd echo (i : Int) = no at *
   obtain ⟨tx,ok,hgt⟩ : ∃ tx ok,getS no fs = (tx,ok) := ⟨_,_,rfl⟩
   rw [hgt] at hf
   cases ok with
   | false =>
    have HF := aS hf
    clear hf
    go_wp2_with (first | (go_at_call 18;refine (msg_Get.at m Am cm fs no _ (by have := HFL.out;omega) (c_B HRm.out D.out.below) HCm.out).mono ?_;rintro e w3 ⟨rfl,hb1⟩;rw [hgt];have M_ := aS (M.out.step hb1);have D_ := aS (D.out.step hb1);have G_ := aS (k_B G.out hb1);clear b0 b1 m0 m1 fm0 fm1;clear D G;have D := D_;have G := G_;clear D_ G_;obtain ⟨b0,b1⟩ := cells_2 D.out.h2;obtain ⟨m0,m1⟩ := cells_2 G.out;obtain ⟨fm0,fm1⟩ := froz_2 G.out;clear M hb1;have M := M_;clear M_))
    obtain ⟨g,rfl⟩ : ∃ g,gk = g + 1 := ⟨gk - 1,by omega⟩
    go_roundg g
    case rel => exact ⟨i + 1,acc,_,rfl,by omega,⟨by have := HAL.out;omega⟩,HF,M,G,D⟩
    case measure => omega
   | true =>
    have HF := aS hf
    clear hf
    go_wp2_with (first | (go_at_call 18;refine (msg_Get.at m Am cm fs no _ (by have := HFL.out;omega) (c_B HRm.out D.out.below) HCm.out).mono ?_;rintro e w3 ⟨rfl,hb1⟩;rw [hgt];have M_ := aS (M.out.step hb1);have D_ := aS (D.out.step hb1);have G_ := aS (k_B G.out hb1);clear b0 b1 m0 m1 fm0 fm1;clear D G;have D := D_;have G := G_;clear D_ G_;obtain ⟨b0,b1⟩ := cells_2 D.out.h2;obtain ⟨m0,m1⟩ := cells_2 G.out;obtain ⟨fm0,fm1⟩ := froz_2 G.out;clear M hb1;have M := M_;clear M_) | (go_at_call 41;refine (msg_With.at (respM m) Av cv acc no tx _ (by have := HAL.out;have := HEL.out;omega) (by have := HCv.out M.out;exact this) hcv.out).mono ?_;rintro e w4 ⟨⟨g4,rfl,hg4,hG4⟩,hb1⟩;have M_ : Aside0 (MsgAt w4 (.slice (some ⟨g4,0,none⟩) (withM no tx acc).length (withM no tx acc).length) (withM no tx acc)) := ⟨.inr ⟨g4,rfl,hG4⟩⟩;have D_ := aS (D.out.step hb1);have G_ := aS (k_B G.out hb1);clear b0 b1 m0 m1 fm0 fm1;clear D G;have D := D_;have G := G_;clear D_ G_;obtain ⟨b0,b1⟩ := cells_2 D.out.h2;obtain ⟨m0,m1⟩ := cells_2 G.out;obtain ⟨fm0,fm1⟩ := froz_2 G.out;clear M hb1 hg4 hG4;have M := M_;clear M_))
    obtain ⟨g,rfl⟩ : ∃ g,gk = g + 1 := ⟨gk - 1,by omega⟩
    go_roundg g
    case rel => exact ⟨i + 1,withM no tx acc,_,rfl,by omega,⟨by have := HAL.out;have := withM_len no tx acc;omega⟩,HF,⟨(M.out.far G.out (by decide) 0 _).far (blk_put G.out 0 _ rfl) (by decide) 1 _⟩,⟨blk_put (blk_put G.out 0 _ rfl) 1 _ rfl⟩,⟨(D.out.far HG10.out 0 _).far HG10.out 1 _⟩⟩
    case measure => omega
  ·have e0 : decide ((i : Int) < echo.length) = false := d_F (by omega)
   have hf := HF.out
   rw [List.drop_of_length_le (by omega),echoS] at hf
   have HF := aS hf
   clear hf
   clear b0 b1 m0 m1 fm0 fm1
   obtain ⟨s0,s1,s2,s3,s4,s5,s6⟩ := cells_7 D.out.h1
   obtain ⟨x0,x1⟩ := cells_2 D.out.h3
   obtain ⟨y0,y1⟩ := cells_2 D.out.h4
   obtain ⟨fy0,fy1⟩ := froz_2 D.out.h4
   obtain ⟨m0,m1⟩ := cells_2 G.out
   go_wp2
   go_region_with (first | (go_at_call 19;refine (reject_Code.at .nilIface _ _ _ _ st ver Ac cc cs err _ (by have := HCL.out;omega) (c_B HRc.out (by repeat (first | exact D.out.below | apply below_drew1))) HCc.out ⟨⟨_,_,_,rfl⟩,⟨_,_,_,rfl⟩,⟨_,_,_,rfl⟩,⟨_,_,_,rfl⟩⟩).mono ?_;rintro e w3 ⟨rfl,hb1⟩;have hb2 : Below wr.heap.size wr w3 := (by first | exact hb1 | exact b_s (below_drew1 (Below.refl _ _)) hb1);have M_ := aS (M.out.step hb2);have D_ := aS (D.out.step hb2);have G_ := aS (k_B G.out hb2);clear s0 s1 s2 s3 s4 s5 s6 x0 x1 y0 y1 fy0 fy1 m0 m1;clear D G M hb1 hb2;have D := D_;have G := G_;have M := M_;clear D_ G_ M_;obtain ⟨s0,s1,s2,s3,s4,s5,s6⟩ := cells_7 D.out.h1;obtain ⟨x0,x1⟩ := cells_2 D.out.h3;obtain ⟨y0,y1⟩ := cells_2 D.out.h4;obtain ⟨fy0,fy1⟩ := froz_2 D.out.h4;obtain ⟨m0,m1⟩ := cells_2 G.out) | (go_at_call 41;refine (msg_With.at (respM m) Av cv acc 39 (rejCode cs err) _ (by have := HAL.out;have := HIL.out;omega) (by have := HCv.out M.out;exact this) hcv.out).mono ?_;rintro e w4 ⟨⟨g4,rfl,hg4,hG4⟩,hb1⟩;have M_ : Aside0 (MsgAt w4 (.slice (some ⟨g4,0,none⟩) (withM 39 (rejCode cs err) acc).length (withM 39 (rejCode cs err) acc).length) (withM 39 (rejCode cs err) acc)) := ⟨.inr ⟨g4,rfl,hG4⟩⟩;have D_ := aS (D.out.step hb1);have G_ := aS (k_B G.out hb1);clear s0 s1 s2 s3 s4 s5 s6 x0 x1 y0 y1 fy0 fy1 m0 m1;clear D G M hb1 hg4 hG4;have D := D_;have G := G_;have M := M_;clear D_ G_ M_;obtain ⟨s0,s1,s2,s3,s4,s5,s6⟩ := cells_7 D.out.h1;obtain ⟨x0,x1⟩ := cells_2 D.out.h3;obtain ⟨y0,y1⟩ := cells_2 D.out.h4;obtain ⟨fy0,fy1⟩ := froz_2 D.out.h4;obtain ⟨m0,m1⟩ := cells_2 G.out))
   all_goals go_wp2
   all_goals refine bodyPost_ret (results_ct rfl _ _ (w.heap.size + 1 + 1 + 1) 42 _ (0,0) _ rfl (blk_put (blk_put D.out.h4 0 _ rfl) 1 _ rfl) hu42 rfl (by kernel_rfl)) rfl ?_
   all_goals obtain ⟨Af,cf,hvf,hcf,hCf⟩ := ((M.out.far D.out.h4 (by decide) 0 (.string (respM m))).far (blk_put D.out.h4 0 _ rfl) (by decide) 1 (.slice (some ⟨g4,0,none⟩) (withM 39 (rejCode cs err) acc).length (withM 39 (rejCode cs err) acc).length)).reads (by have := HAL.out;have := HIL.out;have := withM_len 39 (rejCode cs err) acc;omega)
   all_goals rw [buildS,← HF.out]
   all_goals exact ⟨⟨Af,cf,by rw [← hvf];rfl,hcf,hCf⟩,(D.out.below.setCell (p := ⟨w.heap.size + 1 + 1 + 1,0,none⟩) (by show w.heap.size ≤ w.heap.size + 1 + 1 + 1;omega) _).setCell (p := ⟨w.heap.size + 1 + 1 + 1,1,none⟩) (by show w.heap.size ≤ w.heap.size + 1 + 1 + 1;omega) _⟩
def ruleOk (a b : List S87) (r : S94) : Prop :=
 (r.f0 = 1 ∨ r.f0 = 2 ∨ r.f0 = 3 ∨ r.f0 = 4 ∨ r.f0 = 5) ∧ endsOk r a b ∧ (r.f0 ≠ 3 → r.f3 = ⟨#[]⟩) ∧ (r.f0 ≠ 5 → r.f4 = []) ∧
 (r.f0 = 1 → widerS (findS r.f2 b).1 (findS r.f1 a).1 = true) ∧ (r.f0 = 3 → specValue (findS r.f2 b).1 r.f3 = 0) ∧
 (r.f0 = 4 → paddedS (findS r.f1 a).1 = true ∧ paddedS (findS r.f2 b).1 = true) ∧
 (r.f0 = 5 → r.f4.length ≤ 256 ∧ r.f4.length ≠ 0 ∧ freshS [] r.f4 = true ∧ tableOk (findS r.f1 a).1 (findS r.f2 b).1 r.f4)
theorem specCheck_min {x : S87} (h : specCheck x = 0) : 1 ≤ x.f3 := by
 unfold specCheck at h
 (repeat' split at h) <;> first | (exact absurd h (by decide)) | omega
theorem specValue_ne {x : S87} {s : ByteArray} (h : specValue x s = 0) : (s.data.toList == []) = false := by
 have hz := specValue_facts h
 have h3 := specCheck_min hz.1
 rw [beq_eq_false_iff_ne]
 intro e
 have h0 : s.size = 0 := by
  show s.data.size = 0
  rw [← Array.length_toList,e,List.length_nil]
 omega
set_option maxHeartbeats 4000000 in
theorem rule_Check.at (r : S94) (B : Option Addr) (d : Nat) (st1 ver1 : Int) (A1 : Option Addr) (c1 : Nat) (l1 : List S87) (st2 ver2 : Int) (A2 : Option Addr) (c2 : Nat) (l2 : List S87) (w : World) (hl1 : l1.length ≤ 4611686018427387904) (hl2 : l2.length ≤ 4611686018427387904)
  (hr1 : Kd.C k87 w A1 l1.length l1) (hc1 : l1.length ≤ c1) (hr2 : Kd.C k87 w A2 l2.length l2) (hc2 : l2.length ≤ c2) (hrp : Kd.C k66 w B r.f4.length r.f4) (hcp : r.f4.length ≤ d) (he : ruleOk l1 l2 r) :
  Calls prog 92 #[v94 r B d,.agg #[.int .i64 st1,.int .i64 ver1,.slice A1 l1.length c1],.agg #[.int .i64 st2,.int .i64 ver2,.slice A2 l2.length c2]] w fun e w' => e = .returned (.int .i64 0) ∧ Below w.heap.size w w' := by
 have hu24 := underlying24
 have hu87 := underlying87
 have hu94 := underlying94
 have HR1 := aS hr1
 have HC1 := aS hc1
 have HR2 := aS hr2
 have HC2 := aS hc2
 have HRP := aS hrp
 have HCP := aS hcp
 obtain ⟨k0,he,kt,kp,k1,k3,k4,k5⟩ := he
 have HE := aS he
 clear hr1 hc1 hr2 hc2 hrp hcp he
 obtain ⟨x,b1,hF1⟩ : ∃ x b1,findS r.f1 l1 = (x,b1) := ⟨_,_,rfl⟩
 obtain ⟨y,b2,hF2⟩ : ∃ y b2,findS r.f2 l2 = (y,b2) := ⟨_,_,rfl⟩
 have HF1 := aS hF1
 have HF2 := aS hF2
 rw [hF1] at k4 k5 k1
 rw [hF2] at k1 k3 k4 k5
 simp only at k1 k3 k4 k5
 clear hF1 hF2
 obtain ⟨k,f,t,s,ps⟩ := r
 simp only at k0 kt kp k1 k3 k4 k5
 rcases k0 with rfl | rfl | rfl | rfl | rfl
 ·have K1 := aS (k1 rfl);have es := kt (by decide);have ep := kp (by decide);subst es ep
  clear kt kp k1 k3 k4 k5
  unfold v94
  simp only
  go_enter func92,ntmps92
  go_wp2_with (first | (go_at_call 142;refine (rule_ends.at ⟨1,f,t,⟨#[]⟩,[]⟩ B d st1 ver1 A1 c1 l1 st2 ver2 A2 c2 l2 _ hl1 hl2 (c_B HR1.out (Box3.start w _ _ _).below) HC1.out (c_B HR2.out (Box3.start w _ _ _).below) HC2.out HE.out).mono ?_;rintro e w1 ⟨rfl,hb1⟩;have D := aS (Box3.init hb1);clear hb1;simp only [HF1.out,HF2.out];unfold v87;have PP := fun o o' => cells_5 (blk_alloc (blk_alloc D.out.h1 o) o')) | (go_at_call 143;refine (spec_Wider.at y x _ K1.out).mono ?_;rintro e w2 ⟨rfl,hb1⟩;have HB := aS hb1;clear hb1))
  all_goals go_ret
  all_goals exact ⟨rfl,b_s (b_l (b_l D.out.below _) _) HB.out⟩
 ·have es := kt (by decide);have ep := kp (by decide);subst es ep
  clear kt kp k1 k3 k4 k5
  unfold v94
  simp only
  go_enter func92,ntmps92
  go_wp2_with (first | (go_at_call 142;refine (rule_ends.at ⟨2,f,t,⟨#[]⟩,[]⟩ B d st1 ver1 A1 c1 l1 st2 ver2 A2 c2 l2 _ hl1 hl2 (c_B HR1.out (Box3.start w _ _ _).below) HC1.out (c_B HR2.out (Box3.start w _ _ _).below) HC2.out HE.out).mono ?_;rintro e w1 ⟨rfl,hb1⟩;have D := aS (Box3.init hb1);clear hb1;simp only [HF1.out,HF2.out];unfold v87;have PP := fun o o' => cells_5 (blk_alloc (blk_alloc D.out.h1 o) o')))
  go_ret
  exact ⟨rfl,b_l (b_l D.out.below _) _⟩
 ·have ep := kp (by decide);subst ep;have hv := k3 rfl;have hz := specValue_facts hv;have HSZ : Aside0 (s.size ≤ 1000000) := ⟨by have := hz.2.2.2;omega⟩;have es := specValue_ne hv;have K3 := aS hv;clear hv hz
  clear kt kp k1 k3 k4 k5
  unfold v94
  simp only
  go_enter func92,ntmps92
  go_wp2_with (first | (go_at_call 142;refine (rule_ends.at ⟨3,f,t,s,[]⟩ B d st1 ver1 A1 c1 l1 st2 ver2 A2 c2 l2 _ hl1 hl2 (c_B HR1.out (Box3.start w _ _ _).below) HC1.out (c_B HR2.out (Box3.start w _ _ _).below) HC2.out HE.out).mono ?_;rintro e w1 ⟨rfl,hb1⟩;have D := aS (Box3.init hb1);clear hb1;simp only [HF1.out,HF2.out];unfold v87;have PP := fun o o' => cells_5 (blk_alloc (blk_alloc D.out.h1 o) o')) | (go_at_call 90;refine (spec_Value.at y s _ HSZ.out).mono ?_;rintro e w2 ⟨rfl,hb1⟩;rw [K3.out];have HB := aS hb1;clear hb1))
  all_goals go_ret
  all_goals exact ⟨rfl,b_s (b_l (b_l D.out.below _) _) HB.out⟩
 ·have K1 := aS (k4 rfl).1;have K2 := aS (k4 rfl).2;have es := kt (by decide);have ep := kp (by decide);subst es ep
  clear kt kp k1 k3 k4 k5
  unfold v94
  simp only
  go_enter func92,ntmps92
  go_wp2_with (first | (go_at_call 142;refine (rule_ends.at ⟨4,f,t,⟨#[]⟩,[]⟩ B d st1 ver1 A1 c1 l1 st2 ver2 A2 c2 l2 _ hl1 hl2 (c_B HR1.out (Box3.start w _ _ _).below) HC1.out (c_B HR2.out (Box3.start w _ _ _).below) HC2.out HE.out).mono ?_;rintro e w1 ⟨rfl,hb1⟩;have D := aS (Box3.init hb1);clear hb1;simp only [HF1.out,HF2.out];unfold v87;have PP := fun o o' => cells_5 (blk_alloc (blk_alloc D.out.h1 o) o')) | (go_at_call 144;have D0 := D2;clear D0;refine (rule_padded.at y _ K2.out).mono ?_;rintro e w3 ⟨rfl,hb1⟩;have HB := aS hb1;clear hb1) | (go_at_call 144;refine (rule_padded.at x _ K1.out).mono ?_;rintro e w2 ⟨rfl,hb1⟩;have D2 := aS (Box2.init hb1);clear hb1;have Q := cells_5 D2.out.h2))
  go_ret
  exact ⟨rfl,b_s (b_s D.out.below D2.out.below) HB.out⟩
 ·have K := k5 rfl;have K1 := aS K.1;have K2 := aS K.2.1;have K3 := aS K.2.2.1;have K4 := aS K.2.2.2;have es := kt (by decide);subst es;have e1 : 0 < ps.length := (by have := K.2.1;omega);clear K
  clear kt kp k1 k3 k4 k5
  unfold v94
  simp only
  go_enter func92,ntmps92
  go_wp2_with (first | (go_at_call 142;refine (rule_ends.at ⟨5,f,t,⟨#[]⟩,ps⟩ B d st1 ver1 A1 c1 l1 st2 ver2 A2 c2 l2 _ hl1 hl2 (c_B HR1.out (Box3.start w _ _ _).below) HC1.out (c_B HR2.out (Box3.start w _ _ _).below) HC2.out HE.out).mono ?_;rintro e w1 ⟨rfl,hb1⟩;have D := aS (Box3.init hb1);clear hb1;simp only [HF1.out,HF2.out];unfold v87;have PP := fun o o' => cells_5 (blk_alloc (blk_alloc D.out.h1 o) o')) | (go_at_call 145;refine (rule_table.at B d ps x y _ K1.out K2.out K3.out (c_B HRP.out (b_l (b_l D.out.below _) _)) HCP.out K4.out).mono ?_;rintro e w2 ⟨rfl,hb1⟩;have HB := aS hb1;clear hb1))
  all_goals go_ret
  all_goals exact ⟨rfl,b_s (b_l (b_l D.out.below _) _) HB.out⟩
structure Box1 (w W : World) (a : Obj) : Prop where
 h1 : W.heap[w.heap.size]? = some a
 below : Below w.heap.size w W
theorem Box1.start (w : World) (a : Obj) : Box1 w (w.alloc a) a := ⟨blk_new w a,b_l (Below.refl _ _) _⟩
theorem Box1.step {w W W' : World} {a : Obj} (D : Box1 w W a) (hb : Below W.heap.size W W') : Box1 w W' a := ⟨k_B D.h1 hb,b_s D.below hb⟩
theorem Box1.init {w w1 : World} {a : Obj} (hb : Below (w.alloc a).heap.size (w.alloc a) w1) : Box1 w w1 a := (Box1.start w a).step hb
set_option maxHeartbeats 2000000 in
theorem groatref13_Check.at (st ver : Int) (A : Option Addr) (c : Nat) (l : List S87) (w : World) (hl : l.length ≤ 4611686018427387904) (hr : Kd.C k87 w A l.length l) (hc : l.length ≤ c) :
  Calls prog 110 #[.agg #[.int .i64 st,.int .i64 ver,.slice A l.length c]] w fun e w' => e = .returned (.tuple #[.int .i64 (schemaCheck st ver l).1,.int .i64 (schemaCheck st ver l).2]) ∧ Below w.heap.size w w' := by
 have hu24 := underlying24
 have hu87 := underlying87
 have HR := aS hr
 have HC := aS hc
 clear hr hc
 unfold schemaCheck
 by_cases c1 : st ≠ 1 ∧ st ≠ 2
 ·rw [if_pos c1]
  have d1 : (st != 1) = true := bne_iff_ne.mpr c1.1
  have d2 : (st != 2) = true := bne_iff_ne.mpr c1.2
  go_enter func110,ntmps110
  go_wp2
  go_ret2
  exact ⟨rfl,b_l (Below.refl _ _) _⟩
 rw [if_neg c1]
 have hst : st = 1 ∨ st = 2 := by omega
 clear c1
 by_cases c2 : ver < 0 ∨ ver > 9
 ·rw [if_pos c2]
  have hv : (decide (ver < 0) = true) ∨ (decide (ver < 0) = false ∧ decide (9 < ver) = true) := by simp only [decide_eq_true_eq,decide_eq_false_iff_not];omega
  rcases hst with rfl | rfl
  all_goals rcases hv with v1 | ⟨v1,v2⟩
  all_goals clear c2
  all_goals go_enter func110,ntmps110
  all_goals go_wp2
  all_goals go_ret2
  all_goals exact ⟨rfl,b_l (Below.refl _ _) _⟩
 rw [if_neg c2]
 have v1 : decide (ver < 0) = false := d_F (by omega)
 have v2 : decide (9 < ver) = false := d_F (by omega)
 clear c2
 have D := aS (Box1.start w (.cells #[.int .i64 st,.int .i64 ver,.slice A l.length c] 24))
 have HST := aS hst
 rcases hst with rfl | rfl
 all_goals
  go_enter func110,ntmps110
  go_wp2
  go_loopg [4,5] l.length (fun g v4 v5 w' => ∃ (i : Nat) (last : Int),v4 = .int .i64 last ∧ v5 = .int .i64 i ∧ i + g = l.length ∧ (i = 0 → last = 0) ∧ Aside0 (scF (l.drop i) last i = scF l 0 0) ∧ Aside0 (Box1 w w' (.cells #[.int .i64 _,.int .i64 ver,.slice A l.length c] 24)))
  case atStart => exact ⟨0,0,rfl,rfl,Nat.zero_add _,fun _ => rfl,⟨rfl⟩,D⟩
  case round =>
   clear D
   obtain ⟨i,last,rfl,rfl,hi,hz,HF,D⟩ := hrel
   obtain ⟨hb0,hb1,hb2⟩ := cells_3 D.out.h1
   by_cases h : i < l.length
   ·have c0 : decide ((i : Int) < l.length) = true := d_T (by omega)
    obtain ⟨ad,rfl,hx0,hx1,hx2,hx3,hx4⟩ := at87 HR.out D.out.below i h
    have p : (0 ≤ (i : Int)) = True := eq_true (by omega)
    have q : ((i : Int) < l.length) = True := eq_true (by omega)
    have hf := HF.out
    rw [drop87 h,scF] at hf
    clear HF
    have HX : Aside0 (∀ W,Below w.heap.size w W → W.cell? (ad.add (i * 5)) = some (.int .i64 (rd_T87 l (i : Int)).f0)) := ⟨fun W hb => by
     obtain ⟨ad',h',h0,_⟩ := at87 HR.out hb i h
     cases h'
     exact h0⟩
    generalize rd_T87 l (i : Int) = x at *
    by_cases e : specCheck x = 0
    ·rw [if_neg (by rw [e];decide)] at hf
     have hs2 := (specCheck_facts e).1
     have HE := aS e
     by_cases o : x.f0 ≤ last
     ·rw [if_pos ⟨by omega,o⟩] at hf
      have HF := aS hf
      clear hf hz e
      have o1 : decide (x.f0 ≤ last) = true := d_T o
      go_wp2_with (first | (go_at_call 113;refine (groatref11_Check.at x _).mono ?_;rintro e w2 ⟨rfl,hb⟩;rw [HE.out];have D_ := aS (D.out.step hb);clear D hb hb0 hb1 hb2 hx0 hx1 hx2 hx3 hx4;have D := D_;clear D_;obtain ⟨hb0,hb1,hb2⟩ := cells_3 D.out.h1;have hy0 := HX.out _ D.out.below))
      go_ret2
      exact ⟨by rw [← HF.out];rfl,D.out.below⟩
     ·rw [if_neg (fun c => o c.2)] at hf
      have HF := aS hf
      clear hf hz e
      have o1 : decide (x.f0 ≤ last) = false := d_F o
      go_wp2_with (first | (go_at_call 113;refine (groatref11_Check.at x _).mono ?_;rintro e w2 ⟨rfl,hb⟩;rw [HE.out];have D_ := aS (D.out.step hb);clear D hb hb0 hb1 hb2 hx0 hx1 hx2 hx3 hx4;have D := D_;clear D_;obtain ⟨hb0,hb1,hb2⟩ := cells_3 D.out.h1;have hy0 := HX.out _ D.out.below))
      obtain ⟨g,rfl⟩ : ∃ g,gk = g + 1 := ⟨gk - 1,by omega⟩
      go_roundg g
      case rel => exact ⟨i + 1,x.f0,rfl,rfl,by omega,fun c => by omega,HF,D⟩
      case measure => omega
    ·rw [if_pos e] at hf
     have HF := aS hf
     clear hf hz
     have e0 : (specCheck x != 0) = true := bne_iff_ne.mpr e
     go_wp2_with (first | (go_at_call 113;refine (groatref11_Check.at x _).mono ?_;rintro e w2 ⟨rfl,hb⟩;have D_ := aS (D.out.step hb);clear D hb hb0 hb1 hb2 hx0 hx1 hx2 hx3 hx4;have D := D_;clear D_;obtain ⟨hb0,hb1,hb2⟩ := cells_3 D.out.h1;have hy0 := HX.out _ D.out.below))
     go_ret2
     exact ⟨by rw [← HF.out];rfl,D.out.below⟩
   ·have c0 : decide ((i : Int) < l.length) = false := d_F (by omega)
    have hf := HF.out
    rw [List.drop_of_length_le (by omega),scF] at hf
    clear HF
    have HF := aS hf
    clear hf
    go_wp2
    go_ret2
    exact ⟨by rw [← HF.out];rfl,D.out.below⟩
theorem groatref13_Right.at (st ver : Int) (A : Option Addr) (c : Nat) (l : List S87) (w : World) (hl : l.length ≤ 4611686018427387904) (hr : Kd.C k87 w A l.length l) (hc : l.length ≤ c) :
  Calls prog 52 #[.agg #[.int .i64 st,.int .i64 ver,.slice A l.length c]] w fun e w' => e = .returned (.bool (decide ((schemaCheck st ver l).1 = 0))) ∧ Below w.heap.size w w' := by
 have hu24 := underlying24
 have HR := aS hr
 have HC := aS hc
 obtain ⟨z,hz⟩ : ∃ z,schemaCheck st ver l = z := ⟨_,rfl⟩
 have HZ := aS hz
 rw [hz]
 have e0 : (z.1 == 0) = decide (z.1 = 0) := by rw [Bool.eq_iff_iff,beq_iff_eq,decide_eq_true_eq]
 clear hr hc hz
 go_enter func52,ntmps52
 go_wp2_with (first | (go_at_call 110;refine (groatref13_Check.at st ver A c l _ hl (c_B HR.out (bO _)) HC.out).mono ?_;rintro e w2 ⟨rfl,hb⟩;rw [HZ.out]))
 go_ret
 exact ⟨rfl,below_a1 hb⟩
set_option maxHeartbeats 4000000 in
theorem strict_Decode.at (st ver : Int) (A : Option Addr) (c : Nat) (l : List S87) (b : ByteArray) (w : World) (hl : l.length ≤ 4611686018427387904) (hr : Kd.C k87 w A l.length l) (hc : l.length ≤ c) (hs : (schemaCheck st ver l).1 = 0) (hb : b.size ≤ 100000) :
  Calls prog 10 #[.agg #[.int .i64 st,.int .i64 ver,.slice A l.length c],.string b] w fun e w' => (∃ A' c',e = .returned (.tuple #[.agg #[.string (decG st ver l b).1.1,.slice A' (decG st ver l b).1.2.length c'],.agg #[.int .i64 (decG st ver l b).2.1,.int .i64 (decG st ver l b).2.2]]) ∧ (decG st ver l b).1.2.length ≤ c' ∧ Kd.C k63 w' A' (decG st ver l b).1.2.length (decG st ver l b).1.2) ∧ Below w.heap.size w w' := by
 have hu24 := underlying24
 have hu42 := underlying42
 have hu45 := underlying45
 have hu82 := underlying82
 have hu87 := underlying87
 obtain ⟨hst,hver,hall⟩ := schemaCheck_ok hs
 have HALL := aS hall
 have HR := aS hr
 have HC := aS hc
 have HBZ := aS hb
 obtain ⟨s2,hsc⟩ : ∃ s2,schemaCheck st ver l = (0,s2) := ⟨_,by rw [← hs]⟩
 clear hr hc hs hver hall hb
 obtain ⟨r,hg⟩ : ∃ r,decG st ver l b = r := ⟨_,rfl⟩
 rw [hg]
 rw [decG] at hg
 have hok := typG_ok (st := st) (ver := ver) (b := b)
 obtain ⟨t1,t2,t3,ht⟩ : ∃ t1 t2 t3,typG st ver b = (t1,t2,t3) := ⟨_,_,_,rfl⟩
 rw [ht] at hg hok
 simp only at hg hok
 by_cases k1 : t3 = 0
 ·have e1 : (t3 != 0) = false := bne_eq_false_iff_eq.mpr k1
  rw [if_neg (by omega),decB] at hg
  have hi := hok k1
  have HI0 : Aside0 (0 ≤ t2) := ⟨hi.1⟩
  have HI1 : Aside0 (t2 ≤ b.size) := ⟨hi.2⟩
  have hok2 := bmG_ok (st := st) hi.1 hi.2
  obtain ⟨p,i0,e3,hbm⟩ : ∃ p i0 e3,bmG st b t2 = (p,i0,e3) := ⟨_,_,_,rfl⟩
  rw [hbm] at hg hok2
  simp only at hg hok2
  clear hok hi k1
  by_cases k2 : e3 = 0
  ·have e2 : (e3 != 0) = false := bne_eq_false_iff_eq.mpr k2
   rw [if_neg (by omega)] at hg
   have hi := hok2 k2
   clear hok2 k2
   go_enter func10,ntmps10
   go_wp2_with (first | (go_at_call 32;refine (schema_Check.at st ver A c l _ hl (c_B HR.out (by repeat (first | exact Below.refl _ _ | apply b_l))) HC.out).mono ?_;rintro e w1 ⟨rfl,hb1⟩;rw [hsc];have D := aS (Dec4.init hb1);clear hb1;obtain ⟨⟨a0,a1,a2⟩,⟨b0,b1⟩,⟨c0,c1⟩,⟨d0,d1⟩⟩ := D.out.facts;obtain ⟨⟨fb0,fb1⟩,⟨fc0,fc1⟩,⟨fd0,fd1⟩⟩ := D.out.frozen;have DA := fun o => (Dec4.step D.out (b_l (Below.refl _ _) o)).facts;have DF := fun o => (Dec4.step D.out (b_l (Below.refl _ _) o)).frozen) | (go_at_call 33;refine (strict_typed.at _ _ _ _ _ hst HBZ.out ⟨_,_,_,rfl⟩).mono ?_;rintro e w2 ⟨rfl,hb1⟩;rw [ht];have D_ := aS (Dec4.step (D.out) hb1);clear a0 a1 a2 b0 b1 c0 c1 d0 d1 fb0 fb1 fc0 fc1 fd0 fd1 DA DF;clear D hb1;have D := D_;clear D_;obtain ⟨⟨a0,a1,a2⟩,⟨b0,b1⟩,⟨c0,c1⟩,⟨d0,d1⟩⟩ := D.out.facts;obtain ⟨⟨fb0,fb1⟩,⟨fc0,fc1⟩,⟨fd0,fd1⟩⟩ := D.out.frozen;have DA := fun o => (Dec4.step D.out (b_l (Below.refl _ _) o)).facts;have DF := fun o => (Dec4.step D.out (b_l (Below.refl _ _) o)).frozen) | (go_at_call 34;refine (bitmap_Get.at _ _ _ _ hst HI0.out HI1.out HBZ.out).mono ?_;rintro e w3 ⟨rfl,hb1⟩;rw [hbm];have D_ := aS (Dec4.step (D.out.mti _) hb1);clear a0 a1 a2 b0 b1 c0 c1 d0 d1 fb0 fb1 fc0 fc1 fd0 fd1 DA DF;clear D hb1;have D := D_;clear D_;obtain ⟨⟨a0,a1,a2⟩,⟨b0,b1⟩,⟨c0,c1⟩,⟨d0,d1⟩⟩ := D.out.facts;obtain ⟨⟨fb0,fb1⟩,⟨fc0,fc1⟩,⟨fd0,fd1⟩⟩ := D.out.frozen;have DA := fun o => (Dec4.step D.out (b_l (Below.refl _ _) o)).facts;have DF := fun o => (Dec4.step D.out (b_l (Below.refl _ _) o)).frozen;simp only [vSet]) | (go_at_call 35;refine (fields_Next.at p _ _ (by omega) (by omega)).mono ?_;rintro e w4 ⟨rfl,hb1⟩;have B12 := aS (blk_nb hb1);have D_ := aS (Dec4.step (Dec4.step D.out (bO _)) hb1);clear a0 a1 a2 b0 b1 c0 c1 d0 d1 fb0 fb1 fc0 fc1 fd0 fd1 DA DF;clear D hb1;have D := D_;clear D_;obtain ⟨⟨a0,a1,a2⟩,⟨b0,b1⟩,⟨c0,c1⟩,⟨d0,d1⟩⟩ := D.out.facts;obtain ⟨⟨fb0,fb1⟩,⟨fc0,fc1⟩,⟨fd0,fd1⟩⟩ := D.out.frozen;have DA := fun o => (Dec4.step D.out (b_l (Below.refl _ _) o)).facts;have DF := fun o => (Dec4.step D.out (b_l (Below.refl _ _) o)).frozen;have s0 := blk_cell B12.out 0;have s1 := blk_cell B12.out 1))
   have HI := aS hi
   have HN0 := nextS_range p 0 (by omega) (by omega)
   have HLP0 : Aside0 (Kd.R k63 63 w4 w.heap.size (okD w.heap.size) (.slice none 0 0) []) := ⟨Kd.R_nil _ _ _ _ _⟩
   clear a0 a1 a2 b0 b1 c0 c1 d0 d1 fb0 fb1 fc0 fc1 fd0 fd1 DA DF
   clear s0 s1
   go_loopg [10,13] 129 (fun g v10 v13 w' => ∃ (xs : List S63) (no i : Int) (v : Value),v10 = .int .i64 i ∧ v13 = .int .i64 no ∧ 0 ≤ i ∧ i ≤ b.size ∧ (no = 0 ∨ 0 < no ∧ no ≤ 128) ∧ (no ≠ 0 → 128 - no < g) ∧ Aside0 (xs.length + g ≤ 129) ∧ Aside0 (decLoop st l p b g no i xs = decLoop st l p b 129 (nextS p 0) i0 []) ∧ Aside0 (Dec4 w w' st ver (.slice A l.length c) t1 v) ∧ Aside0 (Kd.R k63 63 w' w.heap.size (okD w.heap.size) v xs) ∧ Aside0 (w'.heap[w3.heap.size]? = some (.cells #[.int .u64 p.1,.int .u64 p.2] 82 (0,0))))
   case atStart => exact ⟨[],_,_,_,rfl,rfl,HI.out.1,HI.out.2,by omega,by omega,⟨by simp⟩,⟨rfl⟩,D,HLP0,B12⟩
   case round =>
    clear HLP0 D B12 HI HN0
    obtain ⟨xs,no,i,v,rfl,rfl,hi0,hi1,hno,hg0,HLN,HF,D,HO,B12⟩ := hrel
    obtain ⟨Av,cv,hv0⟩ := Kd.R_slice HO.out
    subst hv0
    obtain ⟨⟨a0,a1,a2⟩,⟨b0,b1⟩,⟨c0,c1⟩,⟨d0,d1⟩⟩ := D.out.facts;obtain ⟨⟨fb0,fb1⟩,⟨fc0,fc1⟩,⟨fd0,fd1⟩⟩ := D.out.frozen;have DA := fun o => (Dec4.step D.out (b_l (Below.refl _ _) o)).facts;have DF := fun o => (Dec4.step D.out (b_l (Below.refl _ _) o)).frozen
    have s0 := blk_cell B12.out 0
    have s1 := blk_cell B12.out 1
    by_cases k3 : no = 0
    ·subst k3
     have hf : (xs,(0 : Int),(0 : Int),i) = decLoop st l p b 129 (nextS p 0) i0 [] := by
      rw [← HF.out]
      cases gk with
      | zero => rfl
      | succ g => rw [decLoop,if_pos rfl]
     rw [← hf,if_neg (by simp)] at hg
     simp only at hg
     by_cases k4 : i < b.size
     ·rw [if_pos k4] at hg
      have HG := aS hg
      have e5 : decide (i < (b.size : Int)) = true := d_T k4
      clear hg hf k4 HF
      go_wp2
      obtain ⟨z1,z2,z3⟩ := Dec4.fin D.out (.string t1) (.slice Av xs.length cv) (.int .i64 12) (.int .i64 129)
      obtain ⟨A',c',hv,hroom,hCr⟩ := Dec4.row (w := w) (u0 := .string t1) (u1 := .slice Av xs.length cv) (x0 := .int .i64 12) (x1 := .int .i64 129) HO.out
      refine bodyPost_ret (results_cc rfl _ _ (w.heap.size + 1) (w.heap.size + 1 + 1) 42 45 _ _ (0,0) (0,0) _ _ rfl z1 hu42 rfl (by kernel_rfl) rfl z2 hu45 rfl (by kernel_rfl)) rfl ?_
      obtain rfl := HG.out
      exact ⟨⟨A',c',by rw [← hv],hroom,hCr⟩,z3⟩
     ·rw [if_neg k4] at hg
      have HG := aS hg
      have e5 : decide (i < (b.size : Int)) = false := d_F k4
      clear hg hf k4 HF
      go_wp2
      obtain ⟨z1,z2,z3⟩ := Dec4.fin D.out (.string t1) (.slice Av xs.length cv) (.int .i64 0) (.int .i64 0)
      obtain ⟨A',c',hv,hroom,hCr⟩ := Dec4.row (w := w) (u0 := .string t1) (u1 := .slice Av xs.length cv) (x0 := .int .i64 0) (x1 := .int .i64 0) HO.out
      refine bodyPost_ret (results_cc rfl _ _ (w.heap.size + 1) (w.heap.size + 1 + 1) 42 45 _ _ (0,0) (0,0) _ _ rfl z1 hu42 rfl (by kernel_rfl) rfl z2 hu45 rfl (by kernel_rfl)) rfl ?_
      obtain rfl := HG.out
      exact ⟨⟨A',c',by rw [← hv],hroom,hCr⟩,z3⟩
    ·obtain ⟨g,rfl⟩ : ∃ g,gk = g + 1 := ⟨gk - 1,by have := hg0 k3;omega⟩
     have e4 : (no != 0) = true := bne_iff_ne.mpr k3
     have hf := HF.out
     clear HF
     rw [decLoop,if_neg k3] at hf
     have HN := nextS_range p no (by omega) (by omega)
     have hg1 := hg0 k3
     have hn1 : 0 < no ∧ no ≤ 128 := by omega
     have hfk := @findS_ok no l
     obtain ⟨x,ok,hF⟩ : ∃ x ok,findS no l = (x,ok) := ⟨_,_,rfl⟩
     rw [hF] at hf hfk
     simp only at hf hfk
     clear hg0 hno k3
     cases ok with
     | false =>
      rw [if_pos rfl] at hf
      rw [← hf,if_pos (by simp)] at hg
      have HG := aS hg
      clear hg hf hfk
      go_wp2_with (first | (go_at_call 36;refine (schema_Find.at st ver A c l _ _ hl (c_B HR.out D.out.below) HC.out).mono ?_;rintro e w5 ⟨rfl,hb1⟩;rw [hF];have D_ := aS (Dec4.step D.out hb1);have HO_ := aS (Kd.R_below HO.out hb1);have B12_ := aS (k_B B12.out hb1);clear a0 a1 a2 b0 b1 c0 c1 d0 d1 fb0 fb1 fc0 fc1 fd0 fd1 DA DF;clear D HO B12 s0 s1 hb1;have D := D_;have HO := HO_;have B12 := B12_;clear D_ HO_ B12_;have s0 := blk_cell B12.out 0;have s1 := blk_cell B12.out 1;obtain ⟨⟨a0,a1,a2⟩,⟨b0,b1⟩,⟨c0,c1⟩,⟨d0,d1⟩⟩ := D.out.facts;obtain ⟨⟨fb0,fb1⟩,⟨fc0,fc1⟩,⟨fd0,fd1⟩⟩ := D.out.frozen;have DA := fun o => (Dec4.step D.out (b_l (Below.refl _ _) o)).facts;have DF := fun o => (Dec4.step D.out (b_l (Below.refl _ _) o)).frozen;simp only [v87]))
      obtain ⟨z1,z2,z3⟩ := Dec4.fin (Dec4.step D.out (b_l (Below.refl _ _) (.cells #[.int .i64 x.f0,.int .i64 x.f1,.int .i64 x.f2,.int .i64 x.f3,.int .i64 x.f4] 87))) (.string t1) (.slice Av xs.length cv) (.int .i64 9) (.int .i64 no)
      obtain ⟨A',c',hv,hroom,hCr⟩ := Dec4.row (w := w) (u0 := .string t1) (u1 := .slice Av xs.length cv) (x0 := .int .i64 9) (x1 := .int .i64 no) (Kd.R_alloc HO.out (.cells #[.int .i64 x.f0,.int .i64 x.f1,.int .i64 x.f2,.int .i64 x.f3,.int .i64 x.f4] 87))
      refine bodyPost_ret (results_cc rfl _ _ (w.heap.size + 1) (w.heap.size + 1 + 1) 42 45 _ _ (0,0) (0,0) _ _ rfl z1 hu42 rfl (by kernel_rfl) rfl z2 hu45 rfl (by kernel_rfl)) rfl ?_
      obtain rfl := HG.out
      exact ⟨⟨A',c',by rw [← hv],hroom,hCr⟩,z3⟩
     | true =>
      have HX : Aside0 (specCheck x = 0) := ⟨HALL.out x (hfk rfl).1⟩
      rw [if_neg (by decide)] at hf
      have HI0 : Aside0 (0 ≤ i) := ⟨hi0⟩
      have HI1 : Aside0 (i ≤ b.size) := ⟨hi1⟩
      have hck := cellG_ok (st := st) hst HX.out hi0 hi1
      obtain ⟨tx,j,e7,hC⟩ : ∃ tx j e7,cellG st x b i = (tx,j,e7) := ⟨_,_,_,rfl⟩
      rw [hC] at hf hck
      simp only at hf hck
      clear hfk
      by_cases k5 : e7 = 0
      ·have e8 : (e7 != 0) = false := bne_eq_false_iff_eq.mpr k5
       rw [if_neg (by omega)] at hf
       have hj := hck k5
       have HJ := aS hj
       obtain ⟨ys,hys⟩ : ∃ ys,ys = xs ++ [(⟨no,tx⟩ : S63)] := ⟨_,rfl⟩
       rw [← hys] at hf
       have HF := aS hf
       have HYS := aS hys
       clear hf hck k5 hj hys
       go_wp2_with (first | (go_at_call 36;refine (schema_Find.at st ver A c l _ _ hl (c_B HR.out D.out.below) HC.out).mono ?_;rintro e w5 ⟨rfl,hb1⟩;rw [hF];have D_ := aS (Dec4.step D.out hb1);have HO_ := aS (Kd.R_below HO.out hb1);have B12_ := aS (k_B B12.out hb1);clear a0 a1 a2 b0 b1 c0 c1 d0 d1 fb0 fb1 fc0 fc1 fd0 fd1 DA DF;clear D HO B12 s0 s1 hb1;have D := D_;have HO := HO_;have B12 := B12_;clear D_ HO_ B12_;have s0 := blk_cell B12.out 0;have s1 := blk_cell B12.out 1;obtain ⟨⟨a0,a1,a2⟩,⟨b0,b1⟩,⟨c0,c1⟩,⟨d0,d1⟩⟩ := D.out.facts;obtain ⟨⟨fb0,fb1⟩,⟨fc0,fc1⟩,⟨fd0,fd1⟩⟩ := D.out.frozen;have DA := fun o => (Dec4.step D.out (b_l (Below.refl _ _) o)).facts;have DF := fun o => (Dec4.step D.out (b_l (Below.refl _ _) o)).frozen;simp only [v87]) | (go_at_call 37;refine (cell_Get.at st x b i _ hst HX.out HI0.out HI1.out HBZ.out).mono ?_;rintro e w6 ⟨rfl,hb2⟩;rw [hC];have hb1 := below_a1 hb2;clear hb2;have D_ := aS (Dec4.step D.out hb1);have HO_ := aS (Kd.R_below HO.out hb1);have B12_ := aS (k_B B12.out hb1);clear a0 a1 a2 b0 b1 c0 c1 d0 d1 fb0 fb1 fc0 fc1 fd0 fd1 DA DF;clear D HO B12 s0 s1 hb1;have D := D_;have HO := HO_;have B12 := B12_;clear D_ HO_ B12_;have s0 := blk_cell B12.out 0;have s1 := blk_cell B12.out 1;obtain ⟨⟨a0,a1,a2⟩,⟨b0,b1⟩,⟨c0,c1⟩,⟨d0,d1⟩⟩ := D.out.facts;obtain ⟨⟨fb0,fb1⟩,⟨fc0,fc1⟩,⟨fd0,fd1⟩⟩ := D.out.frozen;have DA := fun o => (Dec4.step D.out (b_l (Below.refl _ _) o)).facts;have DF := fun o => (Dec4.step D.out (b_l (Below.refl _ _) o)).frozen) | ((with_reducible refine gate_builtin (b := .append) (xs := #[.tmp 91,.tmp 95]) rfl ?_);at_builtin;go_loud (refine Kd.R_append k63 (w0 := w) w.heap.size rfl (.tmp 91) (.tmp 95) 40 63 (.agg #[(.int .i64 0),(.string ⟨#[]⟩)]) 24 rfl underlying40 info63 rfl (by decide) (by omega) (.slice Av xs.length cv) xs (⟨no,tx⟩ : S63) [.int .i64 no,.string tx] (okD w.heap.size) (fun _ => False) rfl rfl (k63_mkM _ _ _ (⟨no,tx⟩ : S63)) (fun _ hk => hk.elim) (okD_fresh D.out) HO.out D.out.below D.out.below.size (by have := HLN.out;omega) ?_;intro v1 w7 ho hb hg hat;rw [← HYS.out] at ho;obtain ⟨A1,cc1,hv1⟩ := Kd.R_slice ho;subst hv1;have HO_ := aS ho;have B12_ := aS (blk_grown B12.out hg (Kd.R_ne HO.out B12.out (by decide)));have D_ := aS (Dec4.grown D.out HO.out hg hb);clear a0 a1 a2 b0 b1 c0 c1 d0 d1 fb0 fb1 fc0 fc1 fd0 fd1 DA DF;clear D HO B12 s0 s1 ho hb hg hat;have D := D_;have HO := HO_;have B12 := B12_;clear D_ HO_ B12_;have s0 := blk_cell B12.out 0;have s1 := blk_cell B12.out 1;have s2 := fun u => blk_cell (far ⟨w.heap.size + 1 + 1 + 1,1,none⟩ u B12.out (blk_ne B12.out D.out.b6 (by decide))) 0;have s3 := fun u => blk_cell (far ⟨w.heap.size + 1 + 1 + 1,1,none⟩ u B12.out (blk_ne B12.out D.out.b6 (by decide))) 1;obtain ⟨⟨a0,a1,a2⟩,⟨b0,b1⟩,⟨c0,c1⟩,⟨d0,d1⟩⟩ := D.out.facts;obtain ⟨⟨fb0,fb1⟩,⟨fc0,fc1⟩,⟨fd0,fd1⟩⟩ := D.out.frozen;have DA := fun o => (Dec4.step D.out (b_l (Below.refl _ _) o)).facts;have DF := fun o => (Dec4.step D.out (b_l (Below.refl _ _) o)).frozen)) | (go_at_call 35;refine (fields_Next.at p _ _ (by omega) (by omega)).mono ?_;rintro e w8 ⟨rfl,hb1⟩;have D_ := aS (Dec4.step (D.out.fields (.slice A1 ys.length cc1)) hb1);have HO_ := aS (Kd.R_below (Kd.R_far HO.out (p := ⟨w.heap.size + 1 + 1 + 1,1,none⟩) (fun k hk => hk.2.2) (.slice A1 ys.length cc1)) hb1);have B12_ := aS (k_B (far ⟨w.heap.size + 1 + 1 + 1,1,none⟩ (.slice A1 ys.length cc1) B12.out (blk_ne B12.out D.out.b6 (by decide))) hb1);clear D HO B12;have D := D_;have HO := HO_;have B12 := B12_;clear D_ HO_ B12_))
       go_roundg g
       case measure => omega
       case rel => exact ⟨ys,nextS p no,j,_,rfl,rfl,HJ.out.1,HJ.out.2.1,by omega,by omega,⟨by rw [HYS.out,List.length_append,List.length_singleton];have := HLN.out;omega⟩,HF,D,HO,B12⟩
      ·have e8 : (e7 != 0) = true := bne_iff_ne.mpr k5
       rw [if_pos k5] at hf
       rw [← hf,if_pos (by simpa using k5)] at hg
       have HG := aS hg
       clear hg hf hck k5
       go_wp2_with (first | (go_at_call 36;refine (schema_Find.at st ver A c l _ _ hl (c_B HR.out D.out.below) HC.out).mono ?_;rintro e w5 ⟨rfl,hb1⟩;rw [hF];have D_ := aS (Dec4.step D.out hb1);have HO_ := aS (Kd.R_below HO.out hb1);have B12_ := aS (k_B B12.out hb1);clear a0 a1 a2 b0 b1 c0 c1 d0 d1 fb0 fb1 fc0 fc1 fd0 fd1 DA DF;clear D HO B12 s0 s1 hb1;have D := D_;have HO := HO_;have B12 := B12_;clear D_ HO_ B12_;have s0 := blk_cell B12.out 0;have s1 := blk_cell B12.out 1;obtain ⟨⟨a0,a1,a2⟩,⟨b0,b1⟩,⟨c0,c1⟩,⟨d0,d1⟩⟩ := D.out.facts;obtain ⟨⟨fb0,fb1⟩,⟨fc0,fc1⟩,⟨fd0,fd1⟩⟩ := D.out.frozen;have DA := fun o => (Dec4.step D.out (b_l (Below.refl _ _) o)).facts;have DF := fun o => (Dec4.step D.out (b_l (Below.refl _ _) o)).frozen;simp only [v87]) | (go_at_call 37;refine (cell_Get.at st x b i _ hst HX.out HI0.out HI1.out HBZ.out).mono ?_;rintro e w6 ⟨rfl,hb2⟩;rw [hC];have hb1 := below_a1 hb2;clear hb2;have D_ := aS (Dec4.step D.out hb1);have HO_ := aS (Kd.R_below HO.out hb1);have B12_ := aS (k_B B12.out hb1);clear a0 a1 a2 b0 b1 c0 c1 d0 d1 fb0 fb1 fc0 fc1 fd0 fd1 DA DF;clear D HO B12 s0 s1 hb1;have D := D_;have HO := HO_;have B12 := B12_;clear D_ HO_ B12_;have s0 := blk_cell B12.out 0;have s1 := blk_cell B12.out 1;obtain ⟨⟨a0,a1,a2⟩,⟨b0,b1⟩,⟨c0,c1⟩,⟨d0,d1⟩⟩ := D.out.facts;obtain ⟨⟨fb0,fb1⟩,⟨fc0,fc1⟩,⟨fd0,fd1⟩⟩ := D.out.frozen;have DA := fun o => (Dec4.step D.out (b_l (Below.refl _ _) o)).facts;have DF := fun o => (Dec4.step D.out (b_l (Below.refl _ _) o)).frozen))
       obtain ⟨z1,z2,z3⟩ := Dec4.fin D.out (.string t1) (.slice Av xs.length cv) (.int .i64 e7) (.int .i64 no)
       obtain ⟨A',c',hv,hroom,hCr⟩ := Dec4.row (w := w) (u0 := .string t1) (u1 := .slice Av xs.length cv) (x0 := .int .i64 e7) (x1 := .int .i64 no) HO.out
       refine bodyPost_ret (results_cc rfl _ _ (w.heap.size + 1) (w.heap.size + 1 + 1) 42 45 _ _ (0,0) (0,0) _ _ rfl z1 hu42 rfl (by kernel_rfl) rfl z2 hu45 rfl (by kernel_rfl)) rfl ?_
       obtain rfl := HG.out
       exact ⟨⟨A',c',by rw [← hv],hroom,hCr⟩,z3⟩
  ·have e2 : (e3 != 0) = true := bne_iff_ne.mpr k2
   rw [if_pos k2] at hg
   have HG := aS hg
   clear hg hok2 k2
   go_enter func10,ntmps10
   go_wp2_with (first | (go_at_call 32;refine (schema_Check.at st ver A c l _ hl (c_B HR.out (by repeat (first | exact Below.refl _ _ | apply b_l))) HC.out).mono ?_;rintro e w1 ⟨rfl,hb1⟩;rw [hsc];have D := aS (Dec4.init hb1);clear hb1;obtain ⟨⟨a0,a1,a2⟩,⟨b0,b1⟩,⟨c0,c1⟩,⟨d0,d1⟩⟩ := D.out.facts;obtain ⟨⟨fb0,fb1⟩,⟨fc0,fc1⟩,⟨fd0,fd1⟩⟩ := D.out.frozen;have DA := fun o => (Dec4.step D.out (b_l (Below.refl _ _) o)).facts;have DF := fun o => (Dec4.step D.out (b_l (Below.refl _ _) o)).frozen) | (go_at_call 33;refine (strict_typed.at _ _ _ _ _ hst HBZ.out ⟨_,_,_,rfl⟩).mono ?_;rintro e w2 ⟨rfl,hb1⟩;rw [ht];have D_ := aS (Dec4.step (D.out) hb1);clear a0 a1 a2 b0 b1 c0 c1 d0 d1 fb0 fb1 fc0 fc1 fd0 fd1 DA DF;clear D hb1;have D := D_;clear D_;obtain ⟨⟨a0,a1,a2⟩,⟨b0,b1⟩,⟨c0,c1⟩,⟨d0,d1⟩⟩ := D.out.facts;obtain ⟨⟨fb0,fb1⟩,⟨fc0,fc1⟩,⟨fd0,fd1⟩⟩ := D.out.frozen;have DA := fun o => (Dec4.step D.out (b_l (Below.refl _ _) o)).facts;have DF := fun o => (Dec4.step D.out (b_l (Below.refl _ _) o)).frozen) | (go_at_call 34;refine (bitmap_Get.at _ _ _ _ hst HI0.out HI1.out HBZ.out).mono ?_;rintro e w3 ⟨rfl,hb1⟩;rw [hbm];have D_ := aS (Dec4.step (D.out.mti _) hb1);clear a0 a1 a2 b0 b1 c0 c1 d0 d1 fb0 fb1 fc0 fc1 fd0 fd1 DA DF;clear D hb1;have D := D_;clear D_;obtain ⟨⟨a0,a1,a2⟩,⟨b0,b1⟩,⟨c0,c1⟩,⟨d0,d1⟩⟩ := D.out.facts;obtain ⟨⟨fb0,fb1⟩,⟨fc0,fc1⟩,⟨fd0,fd1⟩⟩ := D.out.frozen;have DA := fun o => (Dec4.step D.out (b_l (Below.refl _ _) o)).facts;have DF := fun o => (Dec4.step D.out (b_l (Below.refl _ _) o)).frozen;simp only [vSet]))
   obtain ⟨z1,z2,z3⟩ := Dec4.fin (Dec4.step D.out (b_l (Below.refl _ _) (.cells #[.int .u64 p.1,.int .u64 p.2] 82))) (.string t1) (.slice none 0 0) (.int .i64 e3) (.int .i64 1)
   refine bodyPost_ret (results_cc rfl _ _ (w.heap.size + 1) (w.heap.size + 1 + 1) 42 45 _ _ (0,0) (0,0) _ _ rfl z1 hu42 rfl (by kernel_rfl) rfl z2 hu45 rfl (by kernel_rfl)) rfl ?_
   obtain rfl := HG.out
   exact ⟨⟨none,0,rfl,Nat.le_refl _,Kd.C_nil _ _⟩,z3⟩
 ·have e1 : (t3 != 0) = true := bne_iff_ne.mpr k1
  rw [if_pos k1] at hg
  have HG := aS hg
  clear hg hok k1
  go_enter func10,ntmps10
  go_wp2_with (first | (go_at_call 32;refine (schema_Check.at st ver A c l _ hl (c_B HR.out (by repeat (first | exact Below.refl _ _ | apply b_l))) HC.out).mono ?_;rintro e w1 ⟨rfl,hb1⟩;rw [hsc];have D := aS (Dec4.init hb1);clear hb1;obtain ⟨⟨a0,a1,a2⟩,⟨b0,b1⟩,⟨c0,c1⟩,⟨d0,d1⟩⟩ := D.out.facts;obtain ⟨⟨fb0,fb1⟩,⟨fc0,fc1⟩,⟨fd0,fd1⟩⟩ := D.out.frozen;have DA := fun o => (Dec4.step D.out (b_l (Below.refl _ _) o)).facts;have DF := fun o => (Dec4.step D.out (b_l (Below.refl _ _) o)).frozen) | (go_at_call 33;refine (strict_typed.at _ _ _ _ _ hst HBZ.out ⟨_,_,_,rfl⟩).mono ?_;rintro e w2 ⟨rfl,hb1⟩;rw [ht];have D_ := aS (Dec4.step (D.out) hb1);clear a0 a1 a2 b0 b1 c0 c1 d0 d1 fb0 fb1 fc0 fc1 fd0 fd1 DA DF;clear D hb1;have D := D_;clear D_;obtain ⟨⟨a0,a1,a2⟩,⟨b0,b1⟩,⟨c0,c1⟩,⟨d0,d1⟩⟩ := D.out.facts;obtain ⟨⟨fb0,fb1⟩,⟨fc0,fc1⟩,⟨fd0,fd1⟩⟩ := D.out.frozen;have DA := fun o => (Dec4.step D.out (b_l (Below.refl _ _) o)).facts;have DF := fun o => (Dec4.step D.out (b_l (Below.refl _ _) o)).frozen))
  obtain ⟨z1,z2,z3⟩ := D.out.fin (.string ⟨#[]⟩) (.slice none 0 0) (.int .i64 t3) (.int .i64 0)
  refine bodyPost_ret (results_cc rfl _ _ (w.heap.size + 1) (w.heap.size + 1 + 1) 42 45 _ _ (0,0) (0,0) _ _ rfl z1 hu42 rfl (by kernel_rfl) rfl z2 hu45 rfl (by kernel_rfl)) rfl ?_
  obtain rfl := HG.out
  exact ⟨⟨none,0,rfl,Nat.le_refl _,Kd.C_nil _ _⟩,z3⟩
end Go.Proofs.YtgbmnpgaddhfpaaGreatDoor.T
