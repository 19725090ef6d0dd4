/- Walks and plain laws beneath the law TopBuilt. No conditions but what each statement names. -/
import Derived.Test.YtgbmnpgaddhfpaaGreatDoorB12
set_option linter.unusedVariables false
set_option linter.unusedSimpArgs false
namespace Go.Proofs.YtgbmnpgaddhfpaaGreatDoor.T
open Go.RowKit Go.Proofs.YtgbmnpgaddhfpaaGreatDoorW.PrintWords Go.Proofs.YtgbmnpgaddhfpaaGreatDoorW.PrintLast Go.Proofs.YtgbmnpgaddhfpaaGreatDoorW.PrintMore
attribute [local go_sem] max2_int min2_int max_two min_two
open Go.Proofs.YtgbmnpgaddhfpaaGreatDoor.G
open Tryz
set_option maxRecDepth 100000
theorem placeS_none {no : Int} : ∀ {l : List S87} {i : Int},0 ≤ i → placeS no l i < 0 → (findS no l) = (⟨0,0,0,0,0⟩,false)
 | [],_,_,_ => rfl
 | x :: xs,i,hi,h => by
  rw [placeS] at h
  rw [findS]
  split at h
  ·omega
  ·rename_i e
   rw [if_neg e]
   exact placeS_none (by omega) h
theorem placeS_some {no : Int} : ∀ {l : List S87} {i : Int},0 ≤ i → 0 ≤ placeS no l i → ∃ k : Nat,placeS no l i = i + k ∧ k < l.length ∧ findS no l = (rd_T87 l (k : Int),true)
 | [],_,_,h => by rw [placeS] at h;omega
 | x :: xs,i,hi,h => by
  rw [placeS] at h ⊢
  rw [findS]
  split at h
  ·rename_i e
   rw [if_pos e,if_pos e]
   exact ⟨0,by omega,by simp,rfl⟩
  ·rename_i e
   rw [if_neg e,if_neg e]
   obtain ⟨k,h1,h2,h3⟩ := placeS_some (by omega) h
   refine ⟨k + 1,by omega,by simp;omega,?_⟩
   rw [h3]
   congr 1
theorem placeS_cases (no : Int) (l : List S87) : (placeS no l 0 = -1 ∧ (findS no l).2 = false) ∨ ∃ k : Nat,placeS no l 0 = k ∧ k < l.length ∧ findS no l = (rd_T87 l (k : Int),true) := by
 by_cases h : 0 ≤ placeS no l 0
 ·obtain ⟨k,h1,h2,h3⟩ := placeS_some (Int.le_refl 0) h
  exact .inr ⟨k,by omega,h2,h3⟩
 ·have h1 := placeS_none (Int.le_refl 0) (by omega : placeS no l 0 < 0)
  refine .inl ⟨?_,by rw [h1]⟩
  have : ∀ {l : List S87} {i : Int},0 ≤ i → placeS no l i < 0 → placeS no l i = -1 := by
   intro l
   induction l with
   | nil => intro i _ _;rfl
   | cons x xs ih =>
    intro i hi h
    rw [placeS] at h ⊢
    split at h
    ·omega
    ·rename_i e;rw [if_neg e];exact ih (by omega) h
  exact this (Int.le_refl 0) (by omega)
theorem wi (i : Nat) (h : i ≤ 1000) : Value.int .i64 (wrap64 ((i : Int) + 1)) = Value.int .i64 ((i + 1 : Nat) : Int) := by
 have h : wrap64 ((i : Int) + 1) = (i : Int) + 1 := by unfold wrap64;omega
 rw [h];rfl
theorem ne4 {a b : Nat} (h : a + 1 + 1 + 1 + 1 + 1 < b) : (a + 1 + 1 + 1 + 1 = b) = False := eq_false (by omega)
theorem ne4' {a b : Nat} (h : a + 1 + 1 + 1 + 1 + 1 < b) : (b = a + 1 + 1 + 1 + 1) = False := eq_false (by omega)
theorem ne5 {a b : Nat} (h : a + 1 + 1 + 1 + 1 + 1 < b) : (a + 1 + 1 + 1 + 1 + 1 = b) = False := eq_false (by omega)
theorem ne5' {a b : Nat} (h : a + 1 + 1 + 1 + 1 + 1 < b) : (b = a + 1 + 1 + 1 + 1 + 1) = False := eq_false (by omega)
theorem rd_mem63 {l : List S63} {i : Nat} (h : i < l.length) : rd_T63 l (i : Int) ∈ l := by
 simp [rd_T63,List.getD_eq_getElem?_getD,List.getElem?_eq_getElem h]
set_option maxHeartbeats 8000000 in
theorem xlate_Translate.at (Am : Option Addr) (cm : Nat) (ms : List S66) (Ar : Option Addr) (cr : Nat) (rs : List S94) (st1 ver1 : Int) (A1 : Option Addr) (c1 : Nat) (l1 : List S87) (st2 ver2 : Int) (A2 : Option Addr) (c2 : Nat) (l2 : List S87) (m : ByteArray) (Ax : Option Addr) (cx : Nat) (xs : List S63) (w : World)
  (hck0 : ∀ W,Below w.heap.size w W → Calls prog 38 #[.agg #[.slice Am ms.length cm,.slice Ar rs.length cr],.agg #[.int .i64 st1,.int .i64 ver1,.slice A1 l1.length c1],.agg #[.int .i64 st2,.int .i64 ver2,.slice A2 l2.length c2]] W fun e W' => e = .returned (.tuple #[.int .i64 0,.int .i64 0,.int .i64 0]) ∧ Below W.heap.size W W')
  (hm0 : msgOk st1 ver1 l1 m xs = true) (hl1 : l1.length ≤ 4611686018427387904) (hl2 : l2.length ≤ 4611686018427387904) (hml : ms.length ≤ 1000) (hrl : rs.length ≤ 1000) (hxl : xs.length ≤ 1000)
  (hrm : Kd.C k66 w Am ms.length ms) (hcm : ms.length ≤ cm) (hrr : Kd.C k94 w Ar rs.length rs) (hcr : rs.length ≤ cr) (hr1 : Kd.C k87 w A1 l1.length l1) (hc1 : l1.length ≤ c1) (hr2 : Kd.C k87 w A2 l2.length l2) (hc2 : l2.length ≤ c2) (hrx : Kd.C k63 w Ax xs.length xs) (hcx : xs.length ≤ cx)
  (hap : ∀ x ∈ xs,∀ r,ruleS x.f0 rs = (r,true) → applyOk l2 r x.f1 ∧ r.f4.length ≤ 4611686018427387904) :
  Calls prog 11 #[.agg #[.slice Am ms.length cm,.slice Ar rs.length cr],.agg #[.int .i64 st1,.int .i64 ver1,.slice A1 l1.length c1],.agg #[.int .i64 st2,.int .i64 ver2,.slice A2 l2.length c2],.agg #[.string m,.slice Ax xs.length cx]] w fun e w' =>
   (∃ A' c',e = .returned (.tuple #[.agg #[.string (transS ms rs l2 m xs).1.1,.slice A' (transS ms rs l2 m xs).1.2.length c'],.agg #[.int .i64 (transS ms rs l2 m xs).2.1,.int .i64 (transS ms rs l2 m xs).2.2]]) ∧ (transS ms rs l2 m xs).1.2.length ≤ c' ∧ Kd.C k63 w' A' (transS ms rs l2 m xs).1.2.length (transS ms rs l2 m xs).1.2 ∧ MsgAt w' (.slice A' (transS ms rs l2 m xs).1.2.length c') (transS ms rs l2 m xs).1.2) ∧ Below w.heap.size w w' := by
 have hu28 := underlying28
 have hu24 := underlying24
 have hu42 := underlying42
 have hu45 := underlying45
 have hu63 := underlying63
 have hu94 := underlying94
 have hck := aS hck0
 have hm := aS hm0
 have HML := aS hml
 have HRL := aS hrl
 have HXL := aS hxl
 have HRm := aS hrm
 have HCm := aS hcm
 have HRr := aS hrr
 have HCr := aS hcr
 have HR1 := aS hr1
 have HC1 := aS hc1
 have HR2 := aS hr2
 have HC2 := aS hc2
 have HRx := aS hrx
 have HCx := aS hcx
 have HAP := aS hap
 clear hck0 hm0 hml hrl hxl hrm hcm hrr hcr hr1 hc1 hr2 hc2 hrx hcx hap
 obtain ⟨r,hg⟩ : ∃ r,transS ms rs l2 m xs = r := ⟨_,rfl⟩
 rw [hg]
 rw [transS] at hg
 obtain ⟨t,ok,hhd⟩ : ∃ t ok,headS m ms = (t,ok) := ⟨_,_,rfl⟩
 rw [hhd] at hg
 cases ok with
 | false =>
  rw [if_pos rfl] at hg
  have HG := aS hg
  clear hg
  go_enter func11,ntmps11
  go_wp2_with (first | (go_at_call 38;refine (hck.out _ (Box6.start w _ _ _ _ _ _).below).mono ?_;rintro e w1 ⟨rfl,hb1⟩;have D := aS (Box6.init hb1);clear hb1;obtain ⟨zp0,zp1⟩ := cells_2 D.out.h1;obtain ⟨zb0,zb1,zb2⟩ := cells_3 D.out.h2;obtain ⟨zc0,zc1,zc2⟩ := cells_3 D.out.h3;obtain ⟨zd0,zd1⟩ := cells_2 D.out.h4;obtain ⟨ze0,ze1⟩ := cells_2 D.out.h5;obtain ⟨zf0,zf1⟩ := cells_2 D.out.h6;obtain ⟨ye0,ye1⟩ := froz_2 D.out.h5;obtain ⟨yf0,yf1⟩ := froz_2 D.out.h6;have ZP := cells_2a D.out.h1;have ZC := cells_3a D.out.h3;have ZD := cells_2a D.out.h4;have ZE := cells_2a D.out.h5;have ZF := cells_2a D.out.h6;have YE := froz_2a D.out.h5;have YF := froz_2a D.out.h6) | (go_at_call 39;refine (msg_Check.at st1 ver1 A1 c1 l1 m Ax cx xs _ hl1 (c_B HR1.out D.out.below) HC1.out (by have := HXL.out;omega) (c_B HRx.out D.out.below) HCx.out hm.out).mono ?_;rintro e w2 ⟨rfl,hb1⟩;have D_ := aS (D.out.step hb1);clear zp0 zp1 zb0 zb1 zb2 zc0 zc1 zc2 zd0 zd1 ze0 ze1 zf0 zf1 ye0 ye1 yf0 yf1 ZP ZC ZD ZE ZF YE YF;clear D;have D := D_;clear D_;obtain ⟨zp0,zp1⟩ := cells_2 D.out.h1;obtain ⟨zb0,zb1,zb2⟩ := cells_3 D.out.h2;obtain ⟨zc0,zc1,zc2⟩ := cells_3 D.out.h3;obtain ⟨zd0,zd1⟩ := cells_2 D.out.h4;obtain ⟨ze0,ze1⟩ := cells_2 D.out.h5;obtain ⟨zf0,zf1⟩ := cells_2 D.out.h6;obtain ⟨ye0,ye1⟩ := froz_2 D.out.h5;obtain ⟨yf0,yf1⟩ := froz_2 D.out.h6;have ZP := cells_2a D.out.h1;have ZC := cells_3a D.out.h3;have ZD := cells_2a D.out.h4;have ZE := cells_2a D.out.h5;have ZF := cells_2a D.out.h6;have YE := froz_2a D.out.h5;have YF := froz_2a D.out.h6;clear hb1) | (go_at_call 40;refine (xlate_head.at Am cm ms _ m _ (by have := HML.out;omega) (c_B HRm.out (b_l D.out.below _)) HCm.out _ _ _ rfl).mono ?_;rintro e w3 ⟨rfl,hb1⟩;rw [hhd];have D_ := aS (D.out.step (below_a1 hb1));clear zp0 zp1 zb0 zb1 zb2 zc0 zc1 zc2 zd0 zd1 ze0 ze1 zf0 zf1 ye0 ye1 yf0 yf1 ZP ZC ZD ZE ZF YE YF;clear D;have D := D_;clear D_;obtain ⟨zp0,zp1⟩ := cells_2 D.out.h1;obtain ⟨zb0,zb1,zb2⟩ := cells_3 D.out.h2;obtain ⟨zc0,zc1,zc2⟩ := cells_3 D.out.h3;obtain ⟨zd0,zd1⟩ := cells_2 D.out.h4;obtain ⟨ze0,ze1⟩ := cells_2 D.out.h5;obtain ⟨zf0,zf1⟩ := cells_2 D.out.h6;obtain ⟨ye0,ye1⟩ := froz_2 D.out.h5;obtain ⟨yf0,yf1⟩ := froz_2 D.out.h6;have ZP := cells_2a D.out.h1;have ZC := cells_3a D.out.h3;have ZD := cells_2a D.out.h4;have ZE := cells_2a D.out.h5;have ZF := cells_2a D.out.h6;have YE := froz_2a D.out.h5;have YF := froz_2a D.out.h6;clear hb1))
  all_goals obtain ⟨z1,z2,z3⟩ := Box6.fin D.out (.string ⟨#[]⟩) (.slice none 0 0) (.int .i64 7) (.int .i64 0)
  all_goals refine bodyPost_ret (results_cc rfl _ _ (w.heap.size + 1 + 1 + 1 + 1) (w.heap.size + 1 + 1 + 1 + 1 + 1) 42 45 _ _ (0,0) (0,0) _ _ rfl z1 hu42 rfl (by kernel_rfl) rfl z2 hu45 rfl (by kernel_rfl)) rfl ?_
  all_goals obtain rfl := HG.out
  all_goals exact ⟨⟨none,0,rfl,Nat.le_refl _,Kd.C_nil _ _,.inl ⟨rfl,rfl⟩⟩,z3⟩
 | true =>
  rw [if_neg (by simp)] at hg
  simp only at hg
  go_enter func11,ntmps11
  go_wp2_with (first | (go_at_call 38;refine (hck.out _ (Box6.start w _ _ _ _ _ _).below).mono ?_;rintro e w1 ⟨rfl,hb1⟩;have D := aS (Box6.init hb1);clear hb1;obtain ⟨zp0,zp1⟩ := cells_2 D.out.h1;obtain ⟨zb0,zb1,zb2⟩ := cells_3 D.out.h2;obtain ⟨zc0,zc1,zc2⟩ := cells_3 D.out.h3;obtain ⟨zd0,zd1⟩ := cells_2 D.out.h4;obtain ⟨ze0,ze1⟩ := cells_2 D.out.h5;obtain ⟨zf0,zf1⟩ := cells_2 D.out.h6;obtain ⟨ye0,ye1⟩ := froz_2 D.out.h5;obtain ⟨yf0,yf1⟩ := froz_2 D.out.h6;have ZP := cells_2a D.out.h1;have ZC := cells_3a D.out.h3;have ZD := cells_2a D.out.h4;have ZE := cells_2a D.out.h5;have ZF := cells_2a D.out.h6;have YE := froz_2a D.out.h5;have YF := froz_2a D.out.h6) | (go_at_call 39;refine (msg_Check.at st1 ver1 A1 c1 l1 m Ax cx xs _ hl1 (c_B HR1.out D.out.below) HC1.out (by have := HXL.out;omega) (c_B HRx.out D.out.below) HCx.out hm.out).mono ?_;rintro e w2 ⟨rfl,hb1⟩;have D_ := aS (D.out.step hb1);clear zp0 zp1 zb0 zb1 zb2 zc0 zc1 zc2 zd0 zd1 ze0 ze1 zf0 zf1 ye0 ye1 yf0 yf1 ZP ZC ZD ZE ZF YE YF;clear D;have D := D_;clear D_;obtain ⟨zp0,zp1⟩ := cells_2 D.out.h1;obtain ⟨zb0,zb1,zb2⟩ := cells_3 D.out.h2;obtain ⟨zc0,zc1,zc2⟩ := cells_3 D.out.h3;obtain ⟨zd0,zd1⟩ := cells_2 D.out.h4;obtain ⟨ze0,ze1⟩ := cells_2 D.out.h5;obtain ⟨zf0,zf1⟩ := cells_2 D.out.h6;obtain ⟨ye0,ye1⟩ := froz_2 D.out.h5;obtain ⟨yf0,yf1⟩ := froz_2 D.out.h6;have ZP := cells_2a D.out.h1;have ZC := cells_3a D.out.h3;have ZD := cells_2a D.out.h4;have ZE := cells_2a D.out.h5;have ZF := cells_2a D.out.h6;have YE := froz_2a D.out.h5;have YF := froz_2a D.out.h6;clear hb1) | (go_at_call 40;refine (xlate_head.at Am cm ms _ m _ (by have := HML.out;omega) (c_B HRm.out (b_l D.out.below _)) HCm.out _ _ _ rfl).mono ?_;rintro e w3 ⟨rfl,hb1⟩;rw [hhd];have D_ := aS (D.out.step (below_a1 hb1));clear zp0 zp1 zb0 zb1 zb2 zc0 zc1 zc2 zd0 zd1 ze0 ze1 zf0 zf1 ye0 ye1 yf0 yf1 ZP ZC ZD ZE ZF YE YF;clear D;have D := D_;clear D_;obtain ⟨zp0,zp1⟩ := cells_2 D.out.h1;obtain ⟨zb0,zb1,zb2⟩ := cells_3 D.out.h2;obtain ⟨zc0,zc1,zc2⟩ := cells_3 D.out.h3;obtain ⟨zd0,zd1⟩ := cells_2 D.out.h4;obtain ⟨ze0,ze1⟩ := cells_2 D.out.h5;obtain ⟨zf0,zf1⟩ := cells_2 D.out.h6;obtain ⟨ye0,ye1⟩ := froz_2 D.out.h5;obtain ⟨yf0,yf1⟩ := froz_2 D.out.h6;have ZP := cells_2a D.out.h1;have ZC := cells_3a D.out.h3;have ZD := cells_2a D.out.h4;have ZE := cells_2a D.out.h5;have ZF := cells_2a D.out.h6;have YE := froz_2a D.out.h5;have YF := froz_2a D.out.h6;clear hb1))
  have G : Aside0 ((w3.alloc (.cells #[.string t,.slice none 0 0] 42)).heap[w3.heap.size]? = some (.cells #[.string t,.slice none 0 0] 42 (0,0))) := ⟨blk_new _ _⟩
  have HG10 : Aside0 (w.heap.size + 1 + 1 + 1 + 1 + 1 < w3.heap.size) := ⟨blk_lt D.out.h6⟩
  have D_ := aS (D.out.step (b_l (Below.refl _ _) (.cells #[.string t,.slice none 0 0] 42)))
  clear zp0 zp1 zb0 zb1 zb2 zc0 zc1 zc2 zd0 zd1 ze0 ze1 zf0 zf1 ye0 ye1 yf0 yf1 ZP ZC ZD ZE ZF YE YF
  clear D
  have D := D_
  clear D_
  go_loopg [61] rs.length (fun g v61 w' => ∃ (i : Nat) (acc : List S63) (v : Value),v61 = .int .i64 i ∧ i + g = rs.length ∧ Aside0 (acc.length ≤ i) ∧ Aside0 (constS (rs.drop i) acc = constS rs []) ∧ Aside0 (MsgAt w' v acc) ∧ Aside0 (w'.heap[w3.heap.size]? = some (.cells #[.string t,v] 42 (0,0))) ∧ Aside0 (Box6 w w' (.cells #[.slice Am ms.length cm,.slice Ar rs.length cr] 28) (.cells #[.int .i64 st1,.int .i64 ver1,.slice A1 l1.length c1] 24) (.cells #[.int .i64 st2,.int .i64 ver2,.slice A2 l2.length c2] 24) (.cells #[.string m,.slice Ax xs.length cx] 42) (.cells #[.string ⟨#[]⟩,.slice none 0 0] 42) (.cells #[.int .i64 0,.int .i64 0] 45)))
  case atStart => exact ⟨0,[],_,rfl,Nat.zero_add _,⟨Nat.le_refl _⟩,⟨rfl⟩,⟨.inl ⟨rfl,rfl⟩⟩,G,D⟩
  case round =>
   clear D G
   obtain ⟨i,acc,v,rfl,hi,HAL,HF,M,G,D⟩ := hrel
   have HIL : Aside0 (i ≤ rs.length) := ⟨by omega⟩
   obtain ⟨Av,cv,hv0,hcv0,_⟩ := M.out.reads (by have := HAL.out;have := HRL.out;have := HIL.out;omega)
   subst hv0
   have hcv := aS hcv0
   have HCv : Aside0 (∀ {W : World},MsgAt W (.slice Av acc.length cv) acc → Kd.C k63 W Av acc.length acc) := ⟨fun h => by obtain ⟨A',c',e',_,hC⟩ := h.reads (by have := HAL.out;have := HRL.out;have := HIL.out;omega);cases e';exact hC⟩
   clear hcv0
   obtain ⟨zp0,zp1⟩ := cells_2 D.out.h1
   obtain ⟨zb0,zb1,zb2⟩ := cells_3 D.out.h2
   obtain ⟨zc0,zc1,zc2⟩ := cells_3 D.out.h3
   obtain ⟨zd0,zd1⟩ := cells_2 D.out.h4
   obtain ⟨ze0,ze1⟩ := cells_2 D.out.h5
   obtain ⟨zf0,zf1⟩ := cells_2 D.out.h6
   obtain ⟨ye0,ye1⟩ := froz_2 D.out.h5
   obtain ⟨yf0,yf1⟩ := froz_2 D.out.h6
   have ZP := cells_2a D.out.h1
   have ZC := cells_3a D.out.h3
   have ZD := cells_2a D.out.h4
   have ZE := cells_2a D.out.h5
   have ZF := cells_2a D.out.h6
   have YE := froz_2a D.out.h5
   have YF := froz_2a D.out.h6
   obtain ⟨zm0,zm1⟩ := cells_2 G.out
   obtain ⟨ym0,ym1⟩ := froz_2 G.out
   have ZM := cells_2a G.out
   by_cases h : i < rs.length
   ·have e0 : decide ((i : Int) < rs.length) = true := d_T (by omega)
    obtain ⟨ad,A4,c4,rfl,hx0,hx1,hx2,hx3,hx4,hx5,hx6⟩ := at94 HRr.out D.out.below i h
    have q0 : (0 ≤ (i : Int)) = True := eq_true (by omega)
    have q1 : ((i : Int) < rs.length) = True := eq_true (by omega)
    have hf := HF.out
    rw [drop94 h,constS] at hf
    clear HF hx5 hx6
    generalize rd_T94 rs (i : Int) = x at *
    by_cases k : x.f0 = 3
    ·have e1 : (x.f0 == 3) = true := beq_iff_eq.mpr k
     rw [if_pos k] at hf
     have HF := aS hf
     clear hf k
     go_wp2_with (first | (go_at_call 41;refine (msg_With.at t Av cv acc x.f2 x.f3 _ (by have := HAL.out;have := HRL.out;have := HIL.out;omega) (HCv.out (M.out.step (b_l (Below.refl _ _) (.cells #[.int .i64 x.f0,.int .i64 x.f1,.int .i64 x.f2,.string x.f3,.slice A4 x.f4.length c4] 94)))) hcv.out).mono ?_;rintro e w6 ⟨⟨g4,rfl,hg4,hG4⟩,hb0⟩;have hb1 := below_a1 hb0;have M_ : Aside0 (MsgAt w6 (.slice (some ⟨g4,0,none⟩) (withM x.f2 x.f3 acc).length (withM x.f2 x.f3 acc).length) (withM x.f2 x.f3 acc)) := ⟨.inr ⟨g4,rfl,hG4⟩⟩;have D_ := aS (D.out.step hb1);have G_ := aS (k_B G.out hb1);clear zp0 zp1 zb0 zb1 zb2 zc0 zc1 zc2 zd0 zd1 ze0 ze1 zf0 zf1 ye0 ye1 yf0 yf1 ZP ZC ZD ZE ZF YE YF;clear zm0 zm1 ym0 ym1 ZM;clear D G M hb0 hb1 hg4 hG4;have D := D_;have G := G_;have M := M_;clear D_ G_ M_;obtain ⟨zp0,zp1⟩ := cells_2 D.out.h1;obtain ⟨zb0,zb1,zb2⟩ := cells_3 D.out.h2;obtain ⟨zc0,zc1,zc2⟩ := cells_3 D.out.h3;obtain ⟨zd0,zd1⟩ := cells_2 D.out.h4;obtain ⟨ze0,ze1⟩ := cells_2 D.out.h5;obtain ⟨zf0,zf1⟩ := cells_2 D.out.h6;obtain ⟨ye0,ye1⟩ := froz_2 D.out.h5;obtain ⟨yf0,yf1⟩ := froz_2 D.out.h6;have ZP := cells_2a D.out.h1;have ZC := cells_3a D.out.h3;have ZD := cells_2a D.out.h4;have ZE := cells_2a D.out.h5;have ZF := cells_2a D.out.h6;have YE := froz_2a D.out.h5;have YF := froz_2a D.out.h6;obtain ⟨zm0,zm1⟩ := cells_2 G.out;obtain ⟨ym0,ym1⟩ := froz_2 G.out;have ZM := cells_2a G.out))
     obtain ⟨g,rfl⟩ : ∃ g,gk = g + 1 := ⟨gk - 1,by omega⟩
     go_roundg g
     case rel => exact ⟨i + 1,withM x.f2 x.f3 acc,_,wi i (by have := HRL.out;have := HIL.out;omega),by omega,⟨by have := HAL.out;have := withM_len x.f2 x.f3 acc;omega⟩,HF,⟨(M.out.far G.out (by decide) 0 _).far (blk_put G.out 0 _ rfl) (by decide) 1 _⟩,⟨blk_put (blk_put G.out 0 _ rfl) 1 _ rfl⟩,⟨(D.out.far HG10.out 0 _).far HG10.out 1 _⟩⟩
     case measure => omega
    ·have e1 : (x.f0 == 3) = false := beq_eq_false_iff_ne.mpr k
     rw [if_neg k] at hf
     have HF := aS hf
     clear hf k
     go_wp2
     obtain ⟨g,rfl⟩ : ∃ g,gk = g + 1 := ⟨gk - 1,by omega⟩
     go_roundg g
     case rel => exact ⟨i + 1,acc,_,wi i (by have := HRL.out;have := HXL.out;have := HIL.out;omega),by omega,⟨by have := HAL.out;omega⟩,HF,⟨M.out.step (bO _)⟩,⟨blk_alloc G.out _⟩,⟨D.out.step (bO _)⟩⟩
     case measure => omega
   ·have e0 : decide ((i : Int) < rs.length) = false := d_F (by omega)
    have hf := HF.out
    rw [List.drop_of_length_le (by omega),constS] at hf
    clear HF
    have HF := aS hf
    clear hf
    go_wp2
    go_loopg [78] xs.length (fun g v78 w' => ∃ (i : Nat) (acc : List S63) (v : Value),v78 = .int .i64 i ∧ i + g = xs.length ∧ Aside0 (acc.length ≤ rs.length + i) ∧ Aside0 (transL l2 rs (xs.drop i) acc = transL l2 rs xs (constS rs [])) ∧ Aside0 (MsgAt w' v acc) ∧ Aside0 (w'.heap[w3.heap.size]? = some (.cells #[.string t,v] 42 (0,0))) ∧ Aside0 (Box6 w w' (.cells #[.slice Am ms.length cm,.slice Ar rs.length cr] 28) (.cells #[.int .i64 st1,.int .i64 ver1,.slice A1 l1.length c1] 24) (.cells #[.int .i64 st2,.int .i64 ver2,.slice A2 l2.length c2] 24) (.cells #[.string m,.slice Ax xs.length cx] 42) (.cells #[.string ⟨#[]⟩,.slice none 0 0] 42) (.cells #[.int .i64 0,.int .i64 0] 45)))
    case atStart => exact ⟨0,acc,_,rfl,Nat.zero_add _,⟨by have := HAL.out;omega⟩,⟨by rw [HF.out];rfl⟩,M,G,D⟩
    case round =>
     clear D G M HF HAL HCv hcv
     obtain ⟨i,acc,v,rfl,hi,HAL,HF,M,G,D⟩ := hrel
     have HIL : Aside0 (i ≤ xs.length) := ⟨by omega⟩
     obtain ⟨Av,cv,hv0,hcv0,_⟩ := M.out.reads (by have := HAL.out;have := HRL.out;have := HXL.out;have := HIL.out;omega)
     subst hv0
     have hcv := aS hcv0
     have HCv : Aside0 (∀ {W : World},MsgAt W (.slice Av acc.length cv) acc → Kd.C k63 W Av acc.length acc) := ⟨fun h => by obtain ⟨A',c',e',_,hC⟩ := h.reads (by have := HAL.out;have := HRL.out;have := HXL.out;have := HIL.out;omega);cases e';exact hC⟩
     clear hcv0
     obtain ⟨zp0,zp1⟩ := cells_2 D.out.h1
     obtain ⟨zb0,zb1,zb2⟩ := cells_3 D.out.h2
     obtain ⟨zc0,zc1,zc2⟩ := cells_3 D.out.h3
     obtain ⟨zd0,zd1⟩ := cells_2 D.out.h4
     obtain ⟨ze0,ze1⟩ := cells_2 D.out.h5
     obtain ⟨zf0,zf1⟩ := cells_2 D.out.h6
     obtain ⟨ye0,ye1⟩ := froz_2 D.out.h5
     obtain ⟨yf0,yf1⟩ := froz_2 D.out.h6
     have ZP := cells_2a D.out.h1
     have ZC := cells_3a D.out.h3
     have ZD := cells_2a D.out.h4
     have ZE := cells_2a D.out.h5
     have ZF := cells_2a D.out.h6
     have YE := froz_2a D.out.h5
     have YF := froz_2a D.out.h6
     obtain ⟨zm0,zm1⟩ := cells_2 G.out
     obtain ⟨ym0,ym1⟩ := froz_2 G.out
     have ZM := cells_2a G.out
     by_cases h : i < xs.length
     ·have e0 : decide ((i : Int) < xs.length) = true := d_T (by omega)
      obtain ⟨ad,rfl,hx0,hx1⟩ := at63 HRx.out D.out.below i h
      have q0 : (0 ≤ (i : Int)) = True := eq_true (by omega)
      have q1 : ((i : Int) < xs.length) = True := eq_true (by omega)
      have hf := HF.out
      rw [drop63 h,transL] at hf
      clear HF
      have hxm := rd_mem63 h
      generalize rd_T63 xs (i : Int) = x at *
      obtain ⟨ru,ok,hru⟩ : ∃ ru ok,ruleS x.f0 rs = (ru,ok) := ⟨_,_,rfl⟩
      rw [hru] at hf
      cases ok with
      | false =>
       rw [if_pos rfl] at hf
       rw [← hf,if_pos (by simp)] at hg
       have HG := aS hg
       clear hg hf hxm
       have n1 := ne4 (blk_lt D.out.h6)
       have n2 := ne5 (blk_lt D.out.h6)
       have n3 := ne4' (blk_lt D.out.h6)
       have n4 := ne5' (blk_lt D.out.h6)
       go_wp2_with (first | (go_at_call 42;refine (xlate_find.at _ Ar cr rs x.f0 _ (by have := HRL.out;omega) (c_B HRr.out (b_l D.out.below _)) HCr.out ⟨_,_,_,rfl⟩).mono ?_;rintro e w4 ⟨⟨B4,d4,rfl,hB4,hC4⟩,hb0⟩;rw [hru] at hB4 hC4 ⊢;have hb1 := below_a1 hb0;have B20 := aS (blk_nb hb0);have HB4 := aS hB4;have HC4 := aS (c_B hC4 hb0);have D_ := aS (D.out.step hb1);have G_ := aS (k_B G.out hb1);have M_ := aS (M.out.step hb1);clear zp0 zp1 zb0 zb1 zb2 zc0 zc1 zc2 zd0 zd1 ze0 ze1 zf0 zf1 ye0 ye1 yf0 yf1 ZP ZC ZD ZE ZF YE YF;clear zm0 zm1 ym0 ym1 ZM;clear D G M;have D := D_;have G := G_;have M := M_;clear D_ G_ M_;obtain ⟨zp0,zp1⟩ := cells_2 D.out.h1;obtain ⟨zb0,zb1,zb2⟩ := cells_3 D.out.h2;obtain ⟨zc0,zc1,zc2⟩ := cells_3 D.out.h3;obtain ⟨zd0,zd1⟩ := cells_2 D.out.h4;obtain ⟨ze0,ze1⟩ := cells_2 D.out.h5;obtain ⟨zf0,zf1⟩ := cells_2 D.out.h6;obtain ⟨ye0,ye1⟩ := froz_2 D.out.h5;obtain ⟨yf0,yf1⟩ := froz_2 D.out.h6;have ZP := cells_2a D.out.h1;have ZC := cells_3a D.out.h3;have ZD := cells_2a D.out.h4;have ZE := cells_2a D.out.h5;have ZF := cells_2a D.out.h6;have YE := froz_2a D.out.h5;have YF := froz_2a D.out.h6;obtain ⟨zm0,zm1⟩ := cells_2 G.out;obtain ⟨ym0,ym1⟩ := froz_2 G.out;have ZM := cells_2a G.out;obtain ⟨zx0,zx1⟩ := cells_2 B20.out;have ZX := cells_2a B20.out;clear hb0 hb1 hB4 hC4;simp only [v94]))
       go_region
       all_goals go_wp2
       all_goals obtain ⟨z1,z2,z3⟩ := Box6.fin (Box6.step D.out (b_l (Below.refl _ _) (.cells #[.int .i64 ru.f0,.int .i64 ru.f1,.int .i64 ru.f2,.string ru.f3,.slice B4 ru.f4.length d4] 94))) (.string ⟨#[]⟩) (.slice none 0 0) (.int .i64 9) (.int .i64 x.f0)
       all_goals refine bodyPost_ret (results_cc rfl _ _ (w.heap.size + 1 + 1 + 1 + 1) (w.heap.size + 1 + 1 + 1 + 1 + 1) 42 45 _ _ (0,0) (0,0) _ _ rfl z1 hu42 rfl (by kernel_rfl) rfl z2 hu45 rfl (by kernel_rfl)) rfl ?_
       all_goals obtain rfl := HG.out
       all_goals exact ⟨⟨none,0,rfl,Nat.le_refl _,Kd.C_nil _ _,.inl ⟨rfl,rfl⟩⟩,by first | exact z3 | exact below_drew1 z3⟩
      | true =>
       rw [if_neg (by simp)] at hf
       obtain ⟨hoka,hrul⟩ := HAP.out x hxm ru hru
       have HOKA := aS hoka
       have HRUL := aS hrul
       obtain ⟨y,ye,hap2⟩ : ∃ y ye,applyS l2 ru x.f1 = (y,ye) := ⟨_,_,rfl⟩
       simp only [hap2] at hf
       clear hoka hrul hxm
       by_cases k1 : ye = 0
       ·have e1 : (ye != 0) = false := bne_eq_false_iff_eq.mpr k1
        rw [if_neg (by simpa using k1)] at hf
        clear k1
        by_cases k2 : y.f0 = 0
        ·have e2 : (y.f0 != 0) = false := bne_eq_false_iff_eq.mpr k2
         rw [if_neg (by simpa using k2)] at hf
         have HF := aS hf
         clear hf k2
         go_wp2_with (first | (go_at_call 42;refine (xlate_find.at _ Ar cr rs x.f0 _ (by have := HRL.out;omega) (c_B HRr.out (b_l D.out.below _)) HCr.out ⟨_,_,_,rfl⟩).mono ?_;rintro e w4 ⟨⟨B4,d4,rfl,hB4,hC4⟩,hb0⟩;rw [hru] at hB4 hC4 ⊢;have hb1 := below_a1 hb0;have B20 := aS (blk_nb hb0);have HB4 := aS hB4;have HC4 := aS (c_B hC4 hb0);have D_ := aS (D.out.step hb1);have G_ := aS (k_B G.out hb1);have M_ := aS (M.out.step hb1);clear zp0 zp1 zb0 zb1 zb2 zc0 zc1 zc2 zd0 zd1 ze0 ze1 zf0 zf1 ye0 ye1 yf0 yf1 ZP ZC ZD ZE ZF YE YF;clear zm0 zm1 ym0 ym1 ZM;clear D G M;have D := D_;have G := G_;have M := M_;clear D_ G_ M_;obtain ⟨zp0,zp1⟩ := cells_2 D.out.h1;obtain ⟨zb0,zb1,zb2⟩ := cells_3 D.out.h2;obtain ⟨zc0,zc1,zc2⟩ := cells_3 D.out.h3;obtain ⟨zd0,zd1⟩ := cells_2 D.out.h4;obtain ⟨ze0,ze1⟩ := cells_2 D.out.h5;obtain ⟨zf0,zf1⟩ := cells_2 D.out.h6;obtain ⟨ye0,ye1⟩ := froz_2 D.out.h5;obtain ⟨yf0,yf1⟩ := froz_2 D.out.h6;have ZP := cells_2a D.out.h1;have ZC := cells_3a D.out.h3;have ZD := cells_2a D.out.h4;have ZE := cells_2a D.out.h5;have ZF := cells_2a D.out.h6;have YE := froz_2a D.out.h5;have YF := froz_2a D.out.h6;obtain ⟨zm0,zm1⟩ := cells_2 G.out;obtain ⟨ym0,ym1⟩ := froz_2 G.out;have ZM := cells_2a G.out;obtain ⟨zx0,zx1⟩ := cells_2 B20.out;have ZX := cells_2a B20.out;clear hb0 hb1 hB4 hC4;simp only [v94]) | (go_at_call 43;refine (rule_Apply.at ru B4 d4 st2 ver2 A2 c2 l2 x.f1 _ hl2 (c_B HR2.out (b_l D.out.below _)) HC2.out HRUL.out (Kd.C_alloc HC4.out _) HB4.out HOKA.out).mono ?_;rintro e w5 ⟨rfl,hb0⟩;rw [hap2];have hb1 := below_a1 hb0;have B20_ := aS (k_B B20.out hb1);clear B20 zx0 zx1 ZX HC4 HB4;have B20 := B20_;clear B20_;have D_ := aS (D.out.step hb1);have G_ := aS (k_B G.out hb1);have M_ := aS (M.out.step hb1);clear zp0 zp1 zb0 zb1 zb2 zc0 zc1 zc2 zd0 zd1 ze0 ze1 zf0 zf1 ye0 ye1 yf0 yf1 ZP ZC ZD ZE ZF YE YF;clear zm0 zm1 ym0 ym1 ZM;clear D G M;have D := D_;have G := G_;have M := M_;clear D_ G_ M_;obtain ⟨zp0,zp1⟩ := cells_2 D.out.h1;obtain ⟨zb0,zb1,zb2⟩ := cells_3 D.out.h2;obtain ⟨zc0,zc1,zc2⟩ := cells_3 D.out.h3;obtain ⟨zd0,zd1⟩ := cells_2 D.out.h4;obtain ⟨ze0,ze1⟩ := cells_2 D.out.h5;obtain ⟨zf0,zf1⟩ := cells_2 D.out.h6;obtain ⟨ye0,ye1⟩ := froz_2 D.out.h5;obtain ⟨yf0,yf1⟩ := froz_2 D.out.h6;have ZP := cells_2a D.out.h1;have ZC := cells_3a D.out.h3;have ZD := cells_2a D.out.h4;have ZE := cells_2a D.out.h5;have ZF := cells_2a D.out.h6;have YE := froz_2a D.out.h5;have YF := froz_2a D.out.h6;obtain ⟨zm0,zm1⟩ := cells_2 G.out;obtain ⟨ym0,ym1⟩ := froz_2 G.out;have ZM := cells_2a G.out;obtain ⟨zx0,zx1⟩ := cells_2 B20.out;have ZX := cells_2a B20.out;clear hb0 hb1))
         obtain ⟨g,rfl⟩ : ∃ g,gk = g + 1 := ⟨gk - 1,by omega⟩
         go_roundg g
         case rel => exact ⟨i + 1,acc,_,wi i (by have := HRL.out;have := HXL.out;have := HIL.out;omega),by omega,⟨by have := HAL.out;omega⟩,HF,⟨M.out.step (bO _)⟩,⟨blk_alloc G.out _⟩,⟨D.out.step (bO _)⟩⟩
         case measure => omega
        ·have e2 : (y.f0 != 0) = true := bne_iff_ne.mpr k2
         rw [if_pos k2] at hf
         have HF := aS hf
         clear hf k2
         go_wp2_with (first | (go_at_call 42;refine (xlate_find.at _ Ar cr rs x.f0 _ (by have := HRL.out;omega) (c_B HRr.out (b_l D.out.below _)) HCr.out ⟨_,_,_,rfl⟩).mono ?_;rintro e w4 ⟨⟨B4,d4,rfl,hB4,hC4⟩,hb0⟩;rw [hru] at hB4 hC4 ⊢;have hb1 := below_a1 hb0;have B20 := aS (blk_nb hb0);have HB4 := aS hB4;have HC4 := aS (c_B hC4 hb0);have D_ := aS (D.out.step hb1);have G_ := aS (k_B G.out hb1);have M_ := aS (M.out.step hb1);clear zp0 zp1 zb0 zb1 zb2 zc0 zc1 zc2 zd0 zd1 ze0 ze1 zf0 zf1 ye0 ye1 yf0 yf1 ZP ZC ZD ZE ZF YE YF;clear zm0 zm1 ym0 ym1 ZM;clear D G M;have D := D_;have G := G_;have M := M_;clear D_ G_ M_;obtain ⟨zp0,zp1⟩ := cells_2 D.out.h1;obtain ⟨zb0,zb1,zb2⟩ := cells_3 D.out.h2;obtain ⟨zc0,zc1,zc2⟩ := cells_3 D.out.h3;obtain ⟨zd0,zd1⟩ := cells_2 D.out.h4;obtain ⟨ze0,ze1⟩ := cells_2 D.out.h5;obtain ⟨zf0,zf1⟩ := cells_2 D.out.h6;obtain ⟨ye0,ye1⟩ := froz_2 D.out.h5;obtain ⟨yf0,yf1⟩ := froz_2 D.out.h6;have ZP := cells_2a D.out.h1;have ZC := cells_3a D.out.h3;have ZD := cells_2a D.out.h4;have ZE := cells_2a D.out.h5;have ZF := cells_2a D.out.h6;have YE := froz_2a D.out.h5;have YF := froz_2a D.out.h6;obtain ⟨zm0,zm1⟩ := cells_2 G.out;obtain ⟨ym0,ym1⟩ := froz_2 G.out;have ZM := cells_2a G.out;obtain ⟨zx0,zx1⟩ := cells_2 B20.out;have ZX := cells_2a B20.out;clear hb0 hb1 hB4 hC4;simp only [v94]) | (go_at_call 43;refine (rule_Apply.at ru B4 d4 st2 ver2 A2 c2 l2 x.f1 _ hl2 (c_B HR2.out (b_l D.out.below _)) HC2.out HRUL.out (Kd.C_alloc HC4.out _) HB4.out HOKA.out).mono ?_;rintro e w5 ⟨rfl,hb0⟩;rw [hap2];have hb1 := below_a1 hb0;have B20_ := aS (k_B B20.out hb1);clear B20 zx0 zx1 ZX HC4 HB4;have B20 := B20_;clear B20_;have D_ := aS (D.out.step hb1);have G_ := aS (k_B G.out hb1);have M_ := aS (M.out.step hb1);clear zp0 zp1 zb0 zb1 zb2 zc0 zc1 zc2 zd0 zd1 ze0 ze1 zf0 zf1 ye0 ye1 yf0 yf1 ZP ZC ZD ZE ZF YE YF;clear zm0 zm1 ym0 ym1 ZM;clear D G M;have D := D_;have G := G_;have M := M_;clear D_ G_ M_;obtain ⟨zp0,zp1⟩ := cells_2 D.out.h1;obtain ⟨zb0,zb1,zb2⟩ := cells_3 D.out.h2;obtain ⟨zc0,zc1,zc2⟩ := cells_3 D.out.h3;obtain ⟨zd0,zd1⟩ := cells_2 D.out.h4;obtain ⟨ze0,ze1⟩ := cells_2 D.out.h5;obtain ⟨zf0,zf1⟩ := cells_2 D.out.h6;obtain ⟨ye0,ye1⟩ := froz_2 D.out.h5;obtain ⟨yf0,yf1⟩ := froz_2 D.out.h6;have ZP := cells_2a D.out.h1;have ZC := cells_3a D.out.h3;have ZD := cells_2a D.out.h4;have ZE := cells_2a D.out.h5;have ZF := cells_2a D.out.h6;have YE := froz_2a D.out.h5;have YF := froz_2a D.out.h6;obtain ⟨zm0,zm1⟩ := cells_2 G.out;obtain ⟨ym0,ym1⟩ := froz_2 G.out;have ZM := cells_2a G.out;obtain ⟨zx0,zx1⟩ := cells_2 B20.out;have ZX := cells_2a B20.out;clear hb0 hb1) | (go_at_call 41;refine (msg_With.at t Av cv acc y.f0 y.f1 _ (by have := HAL.out;have := HRL.out;have := HXL.out;omega) (HCv.out (M.out.step (b_l (Below.refl _ _) (.cells #[.int .i64 y.f0,.string y.f1] 63)))) hcv.out).mono ?_;rintro e w6 ⟨⟨g4,rfl,hg4,hG4⟩,hb0⟩;have hb1 := below_a1 hb0;have M_ : Aside0 (MsgAt w6 (.slice (some ⟨g4,0,none⟩) (withM y.f0 y.f1 acc).length (withM y.f0 y.f1 acc).length) (withM y.f0 y.f1 acc)) := ⟨.inr ⟨g4,rfl,hG4⟩⟩;have D_ := aS (D.out.step hb1);have G_ := aS (k_B G.out hb1);clear zp0 zp1 zb0 zb1 zb2 zc0 zc1 zc2 zd0 zd1 ze0 ze1 zf0 zf1 ye0 ye1 yf0 yf1 ZP ZC ZD ZE ZF YE YF;clear zm0 zm1 ym0 ym1 ZM;clear D G M hb0 hb1 hg4 hG4;have D := D_;have G := G_;have M := M_;clear D_ G_ M_;obtain ⟨zp0,zp1⟩ := cells_2 D.out.h1;obtain ⟨zb0,zb1,zb2⟩ := cells_3 D.out.h2;obtain ⟨zc0,zc1,zc2⟩ := cells_3 D.out.h3;obtain ⟨zd0,zd1⟩ := cells_2 D.out.h4;obtain ⟨ze0,ze1⟩ := cells_2 D.out.h5;obtain ⟨zf0,zf1⟩ := cells_2 D.out.h6;obtain ⟨ye0,ye1⟩ := froz_2 D.out.h5;obtain ⟨yf0,yf1⟩ := froz_2 D.out.h6;have ZP := cells_2a D.out.h1;have ZC := cells_3a D.out.h3;have ZD := cells_2a D.out.h4;have ZE := cells_2a D.out.h5;have ZF := cells_2a D.out.h6;have YE := froz_2a D.out.h5;have YF := froz_2a D.out.h6;obtain ⟨zm0,zm1⟩ := cells_2 G.out;obtain ⟨ym0,ym1⟩ := froz_2 G.out;have ZM := cells_2a G.out))
         obtain ⟨g,rfl⟩ : ∃ g,gk = g + 1 := ⟨gk - 1,by omega⟩
         go_roundg g
         case rel => exact ⟨i + 1,withM y.f0 y.f1 acc,_,wi i (by have := HXL.out;have := HIL.out;omega),by omega,⟨by have := HAL.out;have := withM_len y.f0 y.f1 acc;omega⟩,HF,⟨(M.out.far G.out (by decide) 0 _).far (blk_put G.out 0 _ rfl) (by decide) 1 _⟩,⟨blk_put (blk_put G.out 0 _ rfl) 1 _ rfl⟩,⟨(D.out.far HG10.out 0 _).far HG10.out 1 _⟩⟩
         case measure => omega
       ·have e1 : (ye != 0) = true := bne_iff_ne.mpr k1
        rw [if_pos k1] at hf
        rw [← hf,if_pos (by simpa using k1)] at hg
        have HG := aS hg
        clear hg hf k1
        have n1 := ne4 (blk_lt D.out.h6)
        have n2 := ne5 (blk_lt D.out.h6)
        have n3 := ne4' (blk_lt D.out.h6)
        have n4 := ne5' (blk_lt D.out.h6)
        go_wp2_with (first | (go_at_call 42;refine (xlate_find.at _ Ar cr rs x.f0 _ (by have := HRL.out;omega) (c_B HRr.out (b_l D.out.below _)) HCr.out ⟨_,_,_,rfl⟩).mono ?_;rintro e w4 ⟨⟨B4,d4,rfl,hB4,hC4⟩,hb0⟩;rw [hru] at hB4 hC4 ⊢;have hb1 := below_a1 hb0;have B20 := aS (blk_nb hb0);have HB4 := aS hB4;have HC4 := aS (c_B hC4 hb0);have D_ := aS (D.out.step hb1);have G_ := aS (k_B G.out hb1);have M_ := aS (M.out.step hb1);clear zp0 zp1 zb0 zb1 zb2 zc0 zc1 zc2 zd0 zd1 ze0 ze1 zf0 zf1 ye0 ye1 yf0 yf1 ZP ZC ZD ZE ZF YE YF;clear zm0 zm1 ym0 ym1 ZM;clear D G M;have D := D_;have G := G_;have M := M_;clear D_ G_ M_;obtain ⟨zp0,zp1⟩ := cells_2 D.out.h1;obtain ⟨zb0,zb1,zb2⟩ := cells_3 D.out.h2;obtain ⟨zc0,zc1,zc2⟩ := cells_3 D.out.h3;obtain ⟨zd0,zd1⟩ := cells_2 D.out.h4;obtain ⟨ze0,ze1⟩ := cells_2 D.out.h5;obtain ⟨zf0,zf1⟩ := cells_2 D.out.h6;obtain ⟨ye0,ye1⟩ := froz_2 D.out.h5;obtain ⟨yf0,yf1⟩ := froz_2 D.out.h6;have ZP := cells_2a D.out.h1;have ZC := cells_3a D.out.h3;have ZD := cells_2a D.out.h4;have ZE := cells_2a D.out.h5;have ZF := cells_2a D.out.h6;have YE := froz_2a D.out.h5;have YF := froz_2a D.out.h6;obtain ⟨zm0,zm1⟩ := cells_2 G.out;obtain ⟨ym0,ym1⟩ := froz_2 G.out;have ZM := cells_2a G.out;obtain ⟨zx0,zx1⟩ := cells_2 B20.out;have ZX := cells_2a B20.out;clear hb0 hb1 hB4 hC4;simp only [v94]) | (go_at_call 43;refine (rule_Apply.at ru B4 d4 st2 ver2 A2 c2 l2 x.f1 _ hl2 (c_B HR2.out (b_l D.out.below _)) HC2.out HRUL.out (Kd.C_alloc HC4.out _) HB4.out HOKA.out).mono ?_;rintro e w5 ⟨rfl,hb0⟩;rw [hap2];have hb1 := below_a1 hb0;have B20_ := aS (k_B B20.out hb1);clear B20 zx0 zx1 ZX HC4 HB4;have B20 := B20_;clear B20_;have D_ := aS (D.out.step hb1);have G_ := aS (k_B G.out hb1);have M_ := aS (M.out.step hb1);clear zp0 zp1 zb0 zb1 zb2 zc0 zc1 zc2 zd0 zd1 ze0 ze1 zf0 zf1 ye0 ye1 yf0 yf1 ZP ZC ZD ZE ZF YE YF;clear zm0 zm1 ym0 ym1 ZM;clear D G M;have D := D_;have G := G_;have M := M_;clear D_ G_ M_;obtain ⟨zp0,zp1⟩ := cells_2 D.out.h1;obtain ⟨zb0,zb1,zb2⟩ := cells_3 D.out.h2;obtain ⟨zc0,zc1,zc2⟩ := cells_3 D.out.h3;obtain ⟨zd0,zd1⟩ := cells_2 D.out.h4;obtain ⟨ze0,ze1⟩ := cells_2 D.out.h5;obtain ⟨zf0,zf1⟩ := cells_2 D.out.h6;obtain ⟨ye0,ye1⟩ := froz_2 D.out.h5;obtain ⟨yf0,yf1⟩ := froz_2 D.out.h6;have ZP := cells_2a D.out.h1;have ZC := cells_3a D.out.h3;have ZD := cells_2a D.out.h4;have ZE := cells_2a D.out.h5;have ZF := cells_2a D.out.h6;have YE := froz_2a D.out.h5;have YF := froz_2a D.out.h6;obtain ⟨zm0,zm1⟩ := cells_2 G.out;obtain ⟨ym0,ym1⟩ := froz_2 G.out;have ZM := cells_2a G.out;obtain ⟨zx0,zx1⟩ := cells_2 B20.out;have ZX := cells_2a B20.out;clear hb0 hb1))
        go_region
        all_goals go_wp2
        all_goals obtain ⟨z1,z2,z3⟩ := Box6.fin (Box6.step D.out (b_l (Below.refl _ _) (.cells #[.int .i64 y.f0,.string y.f1] 63))) (.string ⟨#[]⟩) (.slice none 0 0) (.int .i64 ye) (.int .i64 x.f0)
        all_goals refine bodyPost_ret (results_cc rfl _ _ (w.heap.size + 1 + 1 + 1 + 1) (w.heap.size + 1 + 1 + 1 + 1 + 1) 42 45 _ _ (0,0) (0,0) _ _ rfl z1 hu42 rfl (by kernel_rfl) rfl z2 hu45 rfl (by kernel_rfl)) rfl ?_
        all_goals obtain rfl := HG.out
        all_goals exact ⟨⟨none,0,rfl,Nat.le_refl _,Kd.C_nil _ _,.inl ⟨rfl,rfl⟩⟩,by first | exact z3 | exact below_drew1 z3⟩
     ·have e0 : decide ((i : Int) < xs.length) = false := d_F (by omega)
      have hf := HF.out
      rw [List.drop_of_length_le (by omega),transL] at hf
      rw [← hf,if_neg (by simp)] at hg
      have HG := aS hg
      clear hf hg
      go_wp2
      obtain ⟨z1,z2,z3⟩ := Box6.fin D.out (.string t) (.slice Av acc.length cv) (.int .i64 0) (.int .i64 0)
      refine bodyPost_ret (results_cc rfl _ _ (w.heap.size + 1 + 1 + 1 + 1) (w.heap.size + 1 + 1 + 1 + 1 + 1) 42 45 _ _ (0,0) (0,0) _ _ rfl z1 hu42 rfl (by kernel_rfl) rfl z2 hu45 rfl (by kernel_rfl)) rfl ?_
      obtain rfl := HG.out
      have M4 := (((M.out.far D.out.h5 (by decide) 0 (.string t)).far (blk_put D.out.h5 0 _ rfl) (by decide) 1 (.slice Av acc.length cv)))
      have M5 := M4.far (T.far _ _ (T.far _ _ D.out.h6 (by show w.heap.size + 1 + 1 + 1 + 1 + 1 ≠ w.heap.size + 1 + 1 + 1 + 1;omega)) (by show w.heap.size + 1 + 1 + 1 + 1 + 1 ≠ w.heap.size + 1 + 1 + 1 + 1;omega)) (by decide) 0 (.int .i64 0)
      have M6 := M5.far (blk_put (T.far _ _ (T.far _ _ D.out.h6 (by show w.heap.size + 1 + 1 + 1 + 1 + 1 ≠ w.heap.size + 1 + 1 + 1 + 1;omega)) (by show w.heap.size + 1 + 1 + 1 + 1 + 1 ≠ w.heap.size + 1 + 1 + 1 + 1;omega)) 0 _ rfl) (by decide) 1 (.int .i64 0)
      exact ⟨⟨Av,cv,rfl,hcv.out,HCv.out M6,M6⟩,z3⟩
theorem bytes0 (a b : ByteArray) : [] ++ Lib.strCells a ++ Lib.strCells b = Lib.byteCells (a ++ b).data.toList := by rw [app_data];simp [Lib.byteCells,Lib.strCells]
set_option maxHeartbeats 4000000 in
theorem wire_Encode.at (st ver : Int) (A : Option Addr) (c : Nat) (l : List S87) (m : ByteArray) (A2 : Option Addr) (c2 : Nat) (xs : List S63) (w : World) (hl : l.length ≤ 4611686018427387904) (hr : Kd.C k87 w A l.length l) (hc : l.length ≤ c) (hl2 : xs.length ≤ 1000000) (hr2 : Kd.C k63 w A2 xs.length xs) (hc2 : xs.length ≤ c2) (hm : msgOk st ver l m xs = true) :
  Calls prog 12 #[.agg #[.int .i64 st,.int .i64 ver,.slice A l.length c],.agg #[.string m,.slice A2 xs.length c2]] w fun e w' => e = .returned (.tuple #[.string (encS st l m xs),.agg #[.int .i64 0,.int .i64 0]]) ∧ Below w.heap.size w w' := by
 have hu24 := underlying24
 have hu42 := underlying42
 have hu45 := underlying45
 have hu63 := underlying63
 have hu82 := underlying82
 have hu87 := underlying87
 have HR := aS hr
 have HC := aS hc
 have HR2 := aS hr2
 have HC2 := aS hc2
 have HX := aS hl2
 have hm' := hm
 unfold msgOk at hm'
 simp only [Bool.and_eq_true,decide_eq_true_eq] at hm'
 obtain ⟨hs,hv,hok⟩ := hm'
 obtain ⟨hst,hver,hall⟩ := schemaCheck_ok hs
 have hmt : isMti m = true := by
  unfold verV at hv
  split at hv
  ·assumption
  ·cases hv
 have HMT := aS hmt
 have HTS : Aside0 ((typP st m).size ≤ 1000) := ⟨typP_size st m hmt⟩
 have hmem := fieldsOk_memE hall xs 0 hok
 have hin := setS_in xs (0,0) ⟨0,0,rfl,by decide,by decide⟩ (fun x hx => (hmem x hx).1)
 obtain ⟨p,hset⟩ : ∃ p,setS xs (0,0) = p := ⟨_,rfl⟩
 rw [hset] at hin
 have HN1 : Aside0 (hasS p 1 = false) := ⟨InR_no1 hin⟩
 have HSR : Aside0 ((0 ≤ p.1 ∧ p.1 < 18446744073709551616) ∧ (0 ≤ p.2 ∧ p.2 < 18446744073709551616)) := ⟨by obtain ⟨a,b,rfl,h1,h2⟩ := hin;exact ⟨⟨by simp,by simp;omega⟩,⟨by simp,by simp;omega⟩⟩⟩
 have HOK := aS hok
 have HALL := aS hall
 have HM := aS hm
 obtain ⟨r,hg⟩ : ∃ r,encS st l m xs = r := ⟨_,rfl⟩
 rw [hg]
 rw [encS,hset] at hg
 have HG := aS hg
 clear hr hc hr2 hc2 hl2 hs hv hok hall hmt hmem hin hg hver
 go_enter func12,ntmps12
 go_wp2_with (first | (go_at_call 39;refine (msg_Check.at st ver A c l m A2 c2 xs _ hl (c_B HR.out (Box3.start w _ _ _).below) HC.out (by have := HX.out;omega) (c_B HR2.out (Box3.start w _ _ _).below) HC2.out hm).mono ?_;rintro e w1 ⟨rfl,hb1⟩;have D := aS (Box3.init hb1);clear hb1;obtain ⟨a0,a1,a2⟩ := cells_3 D.out.h1;obtain ⟨b0,b1⟩ := cells_2 D.out.h2;have AA := cells_3a D.out.h1;have BA := cells_2a D.out.h2;have AA2 := fun o p => cells_3 (blk_alloc (blk_alloc D.out.h1 o) p);have BA2 := fun o p => cells_2 (blk_alloc (blk_alloc D.out.h2 o) p)) | (go_at_call 46;refine (wire_Type.at _ _ _ hst HMT.out).mono ?_;rintro e w2 ⟨⟨ok,rfl⟩,hb1⟩;have D_ := aS ((EncW.init D.out).step hb1);clear D a0 a1 a2 b0 b1 AA BA AA2 BA2 hb1;have D := D_;clear D_;obtain ⟨a0,a1,a2⟩ := cells_3 D.out.b2;obtain ⟨b0,b1⟩ := cells_2 D.out.b3;have AA := cells_3a D.out.b2;have BA := cells_2a D.out.b3) | (go_at_call 44;refine (wire_put.at _ _ _ _ D.out.bld (by have := HTS.out;simp;omega) D.out.le).mono ?_;rintro e w3 ⟨rfl,hn,hb1⟩;have D_ := aS (D.out.put hb1 hn);clear a0 a1 a2 b0 b1 AA BA;clear D;have D := D_;clear D_;obtain ⟨a0,a1,a2⟩ := cells_3 D.out.b2;obtain ⟨b0,b1⟩ := cells_2 D.out.b3;have AA := cells_3a D.out.b2;have BA := cells_2a D.out.b3;clear hb1 hn))
 go_region_with (first | (go_at_call 48;refine (msg_Set.at m A2 c2 xs _ (by have := HX.out;omega) (c_B HR2.out (by repeat (first | exact D.out.below | apply below_drew1))) HC2.out).mono ?_;rintro e w4 ⟨rfl,hb1⟩;rw [hset];have D_ := aS (D.out.step (by first | exact hb1 | exact b_s (below_drew1 (Below.refl _ _)) hb1));clear a0 a1 a2 b0 b1 AA BA;clear D;have D := D_;clear D_;obtain ⟨a0,a1,a2⟩ := cells_3 D.out.b2;obtain ⟨b0,b1⟩ := cells_2 D.out.b3;have AA := cells_3a D.out.b2;have BA := cells_2a D.out.b3;clear hb1) | (go_at_call 47;refine (bitmap_Put.at _ p _ hst HN1.out HSR.out).mono ?_;rintro e w5 ⟨rfl,hb1⟩;have D_ := aS (D.out.step (by first | exact hb1 | exact b_s (below_drew1 (Below.refl _ _)) hb1));clear a0 a1 a2 b0 b1 AA BA;clear D;have D := D_;clear D_;obtain ⟨a0,a1,a2⟩ := cells_3 D.out.b2;obtain ⟨b0,b1⟩ := cells_2 D.out.b3;have AA := cells_3a D.out.b2;have BA := cells_2a D.out.b3;clear hb1))
 all_goals go_wp2_with (first | (go_at_call 44;refine (wire_put.at _ _ _ _ D.out.bld ?ln D.out.le).mono ?_;(case ln => have := HTS.out;have := bmP_size st p;simp [Lib.strCells_length];omega);rintro e w6 ⟨rfl,hn,hb1⟩;have D_ := aS (D.out.put hb1 hn);clear a0 a1 a2 b0 b1 AA BA;clear D;have D := D_;clear D_;obtain ⟨a0,a1,a2⟩ := cells_3 D.out.b2;obtain ⟨b0,b1⟩ := cells_2 D.out.b3;have AA := cells_3a D.out.b2;have BA := cells_2a D.out.b3;clear hb1 hn))
 all_goals
  rw [bytes0] at D
  have HS0 : Aside0 ((typP st m ++ bmP st p).size ≤ 3000000) := ⟨by rw [app_size];have := HTS.out;have := bmP_size st p;omega⟩
  clear a0 a1 a2 b0 b1 AA BA
  go_loopg [52] xs.length (fun g v52 w' => ∃ (i : Nat) (acc : ByteArray),v52 = .int .i64 i ∧ i + g = xs.length ∧ Aside0 (acc.size ≤ 3000000 + 2002000 * i) ∧ Aside0 (encF st l (xs.drop i) acc = r) ∧ Aside0 (∃ last,fieldsOk l last (xs.drop i) = true) ∧ Aside0 (EncW w w' st ver (.slice A l.length c) m (.slice A2 xs.length c2) (Lib.byteCells acc.data.toList) (w1.heap.size + 1)))
  case atStart => exact ⟨0,_,rfl,Nat.zero_add _,HS0,HG,⟨⟨0,HOK.out⟩⟩,D⟩
  case round =>
   clear D HOK HG HS0
   obtain ⟨i,acc,rfl,hi,HS,HF,HOK,D⟩ := hrel
   obtain ⟨a0,a1,a2⟩ := cells_3 D.out.b2
   obtain ⟨b0,b1⟩ := cells_2 D.out.b3
   have AA := cells_3a D.out.b2
   have BA := cells_2a D.out.b3
   by_cases h : i < xs.length
   ·have e0 : decide ((i : Int) < xs.length) = true := d_T (by omega)
    obtain ⟨ad,rfl,hx0,hx1⟩ := at63 HR2.out D.out.below i h
    have q0 : (0 ≤ (i : Int)) = True := eq_true (by omega)
    have q1 : ((i : Int) < xs.length) = True := eq_true (by omega)
    have hf := HF.out
    obtain ⟨last,hok⟩ := HOK.out
    rw [drop63 h] at hok hf
    rw [encF] at hf
    clear HF HOK
    obtain ⟨k1,k2,k3,k4⟩ := fieldsOk_cons hok
    generalize rd_T63 xs (i : Int) = x at *
    obtain ⟨y,hF⟩ : ∃ y,findS x.f0 l = (y,true) := ⟨_,by rw [← k2]⟩
    rw [hF] at k3 hf
    simp only at k3 hf
    have K3 := aS k3
    have HF := aS hf
    have HOK := aS k4
    have HXS : Aside0 ((cellP st y x.f1).size ≤ 2002000) := ⟨cellP_size st y x.f1 (by have := (specValue_facts k3).2.2.2;omega)⟩
    have HI : Aside0 (i ≤ 1000000) := ⟨by have := HX.out;omega⟩
    have HW9 : Aside0 (wrap64 ((i : Int) + 1) = ((i + 1 : Nat) : Int)) := ⟨by have := HI.out;unfold wrap64;omega⟩
    clear hf k1 k2 k3 k4 hok
    go_wp2_with (first | (go_at_call 36;refine (schema_Find.at st ver A c l _ _ hl (c_B HR.out (b_s D.out.below (bO _))) HC.out).mono ?_;rintro e w7 ⟨rfl,hb1⟩;rw [hF];have B := aS (blk_nb hb1);have D_ := aS (D.out.step (below_a1 hb1));clear a0 a1 a2 b0 b1 AA BA;clear D;have D := D_;clear D_;obtain ⟨a0,a1,a2⟩ := cells_3 D.out.b2;obtain ⟨b0,b1⟩ := cells_2 D.out.b3;have AA := cells_3a D.out.b2;have BA := cells_2a D.out.b3;clear hb1;obtain ⟨d0,d1⟩ := cells_2 B.out;have DA := cells_2a B.out;simp only [v87]) | (go_at_call 49;refine (cell_Put.at st y x.f1 _ hst K3.out).mono ?_;rintro e w8 ⟨rfl,hb1⟩;have D_ := aS (D.out.step (below_a1 hb1));clear a0 a1 a2 b0 b1 AA BA;clear D;have D := D_;clear D_;obtain ⟨a0,a1,a2⟩ := cells_3 D.out.b2;obtain ⟨b0,b1⟩ := cells_2 D.out.b3;have AA := cells_3a D.out.b2;have BA := cells_2a D.out.b3;clear hb1 B d0 d1 DA) | (go_at_call 44;refine (wire_put.at _ _ _ _ D.out.bld (by rw [bytes_len];have := HS.out;have := HXS.out;have := HI.out;omega) D.out.le).mono ?_;rintro e w9 ⟨rfl,hn,hb1⟩;rw [bytes_acc] at hn;have D_ := aS (D.out.put hb1 hn);clear a0 a1 a2 b0 b1 AA BA;clear D hb1 hn;have D := D_;clear D_))
    obtain ⟨g,rfl⟩ : ∃ g,gk = g + 1 := ⟨gk - 1,by omega⟩
    go_roundg g
    case rel => exact ⟨i + 1,_,congrArg (Value.int IntKind.i64) HW9.out,by omega,⟨by rw [app_size];have := HS.out;have := HXS.out;omega⟩,HF,⟨⟨x.f0,HOK.out⟩⟩,D⟩
    case measure => omega
   ·have e0 : decide ((i : Int) < xs.length) = false := d_F (by omega)
    have hf := HF.out
    rw [List.drop_of_length_le (by omega),encF] at hf
    have HF := aS hf
    clear hf HOK
    go_wp2_with (first | (go_at_call 50;refine (Tryz.Builder_String_any _ _ _ _ D.out.bld D.out.le).mono ?_;rintro e w9 ⟨rfl,hb1⟩;have B5 := aS ((hb1.block _ (by have := D.out.lt;omega)).trans D.out.b5);have HBf := aS (D.out.below.trans (hb1.mono (by have := D.out.lt;omega)));clear a0 a1 a2 b0 b1 AA BA;clear D hb1;obtain ⟨c0,c1⟩ := cells_2 B5.out;obtain ⟨f0,f1⟩ := froz_2 B5.out))
    refine bodyPost_ret (results_tc rfl _ _ (w.heap.size + 1 + 1) 45 _ (0,0) _ rfl (blk_put (blk_put B5.out 0 _ rfl) 1 _ rfl) hu45 rfl (by kernel_rfl)) rfl ?_
    rw [← HF.out]
    exact ⟨rfl,(HBf.out.setCell (p := ⟨w.heap.size + 1 + 1,0,none⟩) (by show w.heap.size ≤ w.heap.size + 1 + 1;omega) _).setCell (p := ⟨w.heap.size + 1 + 1,1,none⟩) (by show w.heap.size ≤ w.heap.size + 1 + 1;omega) _⟩
def bv (l : List Int) (f : Int) : Nat → Int
 | 0 => 0
 | k + 1 => 2 * bv l f k + if f + (k : Nat) ∈ l then 1 else 0
theorem bv_lt (l : List Int) (f : Int) : ∀ k : Nat,0 ≤ bv l f k ∧ bv l f k < 2 ^ k
 | 0 => by simp [bv]
 | k + 1 => by
  have := bv_lt l f k
  rw [bv,Int.pow_succ]
  split <;> omega
def byF (l : List Int) (f : Int) (n : Nat) : List Int := (List.range n).map fun i => bv l (f + 8 * (i : Nat)) 8
set_option maxHeartbeats 2000000 in
theorem groatref06_bytes.at (A : Option Addr) (c : Nat) (l : List Int) (f : Int) (w : World) (hf : 1 ≤ f ∧ f ≤ 100) (hl : l.length ≤ 1000000) (hr : Kd.C (Kd.int .i64) w A l.length l) (hc : l.length ≤ c) :
  Calls prog 121 #[.slice A l.length c,.int .i64 f] w fun e w' => e = .returned (.string (strOfNums (byF l f 8))) ∧ Below w.heap.size w w' := by
 have HR := aS hr
 have HC := aS hc
 have HL := aS hl
 clear hr hc hl
 go_enter func121,ntmps121
 go_wp2_with (first | ((with_reducible refine gate_dst (N := 9) rfl ?_);refine lit8_nil (Below.refl _ _) rfl (N := 9) rfl rfl ?_;intro v1 w1 HO;have HO := aS HO))
 go_loopg [5,6] 8 (fun g v5 v6 w' => ∃ i : Nat,v6 = .int .i64 i ∧ i + g = 8 ∧ Aside0 (Own8 w w' v5 (byF l f i)))
 case atStart => exact ⟨0,rfl,by omega,HO⟩
 case round =>
  clear HO
  obtain ⟨i,rfl,hi,HO⟩ := hrel
  by_cases hc : i < 8
  ·obtain ⟨g,rfl⟩ : ∃ g,gk = g + 1 := ⟨gk - 1,by omega⟩
   have c1 : decide ((i : Int) < 8) = true := d_T (by omega)
   go_wp2
   go_loopg [7,8] 8 (fun g v7 v8 w' => ∃ k : Nat,v7 = .int .u8 (bv l (f + 8 * (i : Nat)) k) ∧ v8 = .int .i64 k ∧ k + g = 8 ∧ Aside0 (w' = wr))
   case atStart => exact ⟨0,rfl,rfl,by omega,⟨rfl⟩⟩
   case round =>
    obtain ⟨k,rfl,rfl,hk,HW⟩ := hrel
    obtain rfl := HW.out
    clear HW
    have hb := bv_lt l (f + 8 * (i : Nat)) k
    by_cases hc2 : k < 8
    ·obtain ⟨g2,rfl⟩ : ∃ g2,gk = g2 + 1 := ⟨gk - 1,by omega⟩
     have c2 : decide ((k : Int) < 8) = true := d_T (by omega)
     have HK := aS (c_B HR.out HO.out.below)
     have hb2 : bv l (f + 8 * (i : Nat)) k < 128 := by
      have : (2 : Int) ^ k ≤ 2 ^ 7 := by exact_mod_cast Nat.pow_le_pow_right (n := 2) (by decide) (show k ≤ 7 by omega)
      omega
     have HV : Aside0 (bv l (f + 8 * (i : Nat)) (k + 1) = 2 * bv l (f + 8 * (i : Nat)) k + if f + 8 * (i : Nat) + (k : Nat) ∈ l then 1 else 0) := ⟨rfl⟩
     have HB := aS hb
     generalize hB : bv l (f + 8 * (i : Nat)) k = B at hb hb2 HV HB
     have w1 : IntKind.u8.wrap (B * 2) = 2 * B := by rw [IntKind.wrap_u8];omega
     have w2 : IntKind.u8.wrap (2 * B + 1) = 2 * B + 1 := by rw [IntKind.wrap_u8];omega
     have HI := aS hi
     clear hB hb hi
     by_cases m : f + 8 * (i : Int) + (k : Int) ∈ l
     ·have m1 : decide (f + 8 * (i : Int) + (k : Int) ∈ l) = true := d_T m
      have HV2 : Aside0 (bv l (f + 8 * (i : Nat)) (k + 1) = 2 * B + 1) := ⟨by rw [HV.out,if_pos m]⟩
      clear m
      go_wp2_with (first | (go_at_call 120;refine (groatref05_In.at A c l _ _ (by have := HL.out;omega) HK.out HC.out).mono ?_;rintro e w3 ⟨rfl,hw⟩;obtain rfl := hw.symm;rw [m1]))
      go_roundg g2
      case rel => exact ⟨k + 1,by rw [HV2.out],rfl,by omega,⟨rfl⟩⟩
      case measure => omega
     ·have m1 : decide (f + 8 * (i : Int) + (k : Int) ∈ l) = false := d_F m
      have HV2 : Aside0 (bv l (f + 8 * (i : Nat)) (k + 1) = 2 * B) := ⟨by rw [HV.out,if_neg m];omega⟩
      clear m
      go_wp2_with (first | (go_at_call 120;refine (groatref05_In.at A c l _ _ (by have := HL.out;omega) HK.out HC.out).mono ?_;rintro e w3 ⟨rfl,hw⟩;obtain rfl := hw.symm;rw [m1]))
      go_roundg g2
      case rel => exact ⟨k + 1,by rw [HV2.out],rfl,by omega,⟨rfl⟩⟩
      case measure => omega
    ·obtain rfl : k = 8 := by omega
     have c2 : decide (((8 : Nat) : Int) < 8) = false := by decide
     have HBv : Aside0 (byF l f i ++ [bv l (f + 8 * (i : Nat)) 8] = byF l f (i + 1)) := ⟨by unfold byF;rw [List.range_succ,List.map_append];rfl⟩
     generalize hB : bv l (f + 8 * (i : Nat)) 8 = B at hb HBv
     have HI := aS hi
     have w1 : IntKind.u8.wrap B = B := by rw [IntKind.wrap_u8];omega
     clear hB
     go_wp2_with (first | ((with_reducible refine gate_builtin (b := .append) (xs := #[.tmp 30,.tmp 32]) rfl ?_);refine app8 HO.out rfl (.tmp 30) (.tmp 32) _ rfl rfl rfl (by simp [byF];omega) ?_;intro v2 w3 HO2;have HO3 := aS HO2;clear HO2))
     go_roundg g
     case rel => exact ⟨i + 1,rfl,by have := HI.out;omega,⟨by rw [← HBv.out];exact HO3.out⟩⟩
     case measure => omega
  ·obtain rfl : i = 8 := by omega
   have c1 : decide (((8 : Nat) : Int) < 8) = false := by decide
   have hv := HO.out.str
   go_wp2
   go_ret
   exact ⟨rfl,HO.out.below⟩
def bmR (st : Int) (l : List Int) : ByteArray :=
 if ∃ m ∈ l,65 ≤ m then if st = 1 then hexP (strOfNums (byF (1 :: l) 1 8) ++ strOfNums (byF l 65 8)) else strOfNums (byF (1 :: l) 1 8) ++ strOfNums (byF l 65 8)
 else if st = 1 then hexP (strOfNums (byF l 1 8)) else strOfNums (byF l 1 8)
theorem byF_size (l : List Int) (f : Int) : (strOfNums (byF l f 8)).size = 8 := by rw [nums_size];simp [byF]
theorem lit64 {ops : Array Oper} {rest : List Oper} {o : Oper} {a : Act} {Q : Exit → Act → World → Prop} {w W : World} (hB : Below w.heap.size w W) (hgd : o.guard = none) {N : Tmp} (hd : o.dst = some N) (ho : o.op = .buildSlice 29 1 #[(0,.const (.int .i64 1))])
  (h : ∀ v1 w1,Kd.R (Kd.int .i64) 3 w1 w.heap.size (fun _ => True) v1 [1] → Below w.heap.size w w1 → wpList prog ops Q rest (a.put o.dst v1) w1) : wpList prog ops Q (o :: rest) a W := by
 refine Kd.R_lit (Kd.int .i64) w.heap.size 3 hgd hd (xs := [1]) (inner := [.int .i64 1]) (ok := fun _ => True) (okp := fun _ => True) ?_ ⟨rfl,fun j p hj => ?_⟩ (fun _ h => h) trivial hB hB.size (by decide) (fun v1 w1 hr hb _ _ => h v1 w1 hr hb)
 ·simp only [execOp,ho]
  go_simp
 ·rcases j with _ | j
  ·simp at hj
   subst hj
   exact rfl
  ·simp at hj
theorem app64 {ops : Array Oper} {rest : List Oper} {o : Oper} {a : Act} {Q : Exit → Act → World → Prop} {w W : World} {v : Value} {xs ys : List Int} {A : Option Addr} {c : Nat} (H : Kd.R (Kd.int .i64) 3 W w.heap.size (fun _ => True) v xs) (HB : Below w.heap.size w W) (HC : Kd.C (Kd.int .i64) W A ys.length ys)
  (hgd : o.guard = none) (s x : Operand) (ho : o.op = .call { callee := .builtin .append,args := #[s,x],argTypes := #[29,29] }) (hs : a.eval s = v) (hx : a.eval x = .slice A ys.length c) (hl : xs.length + ys.length ≤ 1000001)
  (h : ∀ v1 w1,Kd.R (Kd.int .i64) 3 w1 w.heap.size (fun _ => True) v1 (xs ++ ys) → Below w.heap.size w w1 → wpList prog ops Q rest (a.put o.dst v1) w1) : wpList prog ops Q (o :: rest) a W :=
 Kd.R_append_rows (Kd.int .i64) (Rr := (Kd.int .i64).K W) (w0 := w) w.heap.size hgd s x 29 3 (.int .i64 0) 8 ho underlying29 info3 rfl (by decide) (by omega) v xs ys A ys.length c (fun _ => True) (fun _ => False) hs hx H HC (fun _ _ h => h) (fun _ h => h.elim) (fun _ _ => trivial) HB (below_size HB) (by omega) (fun v1 w1 hr hb _ _ => h v1 w1 hr hb)
set_option maxHeartbeats 2000000 in
theorem groatref06_Put.at (st : Int) (A : Option Addr) (c : Nat) (l : List Int) (w : World) (hst : st = 1 ∨ st = 2) (h1 : 1 ∉ l) (h128 : ∀ m ∈ l,m ≤ 128) (hl1 : l.length ≤ 999999) (hr : Kd.C (Kd.int .i64) w A l.length l) (hc : l.length ≤ c) :
  Calls prog 65 #[.int .i64 st,.slice A l.length c] w fun e w' => (∃ ok,e = .returned (.tuple #[.string (bmR st l),.bool ok])) ∧ Below w.heap.size w w' := by
 have HR := aS hr
 have HC := aS hc
 have hl : l.length ≤ 1000000 := by omega
 have HL := aS hl
 have HL1 : Aside0 (l.length ≤ 999999) := ⟨hl1⟩
 have H128 := aS h128
 have m1 : decide ((1 : Int) ∈ l) = false := d_F h1
 have HS : Aside0 (9223372036854775807 < (strOfNums (byF (1 :: l) 1 8)).size + (strOfNums (byF l 65 8)).size → False) := ⟨by rw [byF_size,byF_size];omega⟩
 clear hr hc hl hl1 h1 h128
 rcases hst with rfl | rfl
 all_goals go_enter func65,ntmps65
 all_goals go_wp2_with (first | (go_at_call 120;refine (groatref05_In.at A c l _ _ (by have := HL.out;omega) HR.out HC.out).mono ?_;rintro e w3 ⟨rfl,hw⟩;obtain rfl := hw.symm;rw [m1]))
 all_goals go_loopg [6,7] 64 (fun g v6 v7 w' => ∃ n : Nat,v6 = .bool (decide (∃ m ∈ l,65 ≤ m ∧ m < 65 + (n : Int))) ∧ v7 = .int .i64 (65 + (n : Int)) ∧ n + g = 64 ∧ Aside0 (w' = w))
 iterate 2
  case atStart => exact ⟨0,by rw [d_F (by rintro ⟨m,_,h1,h2⟩;omega)],rfl,by omega,⟨rfl⟩⟩
 all_goals
  clear m1
  obtain ⟨n,rfl,rfl,hi,HW⟩ := hrel
  obtain rfl := HW.out
  clear HW
  by_cases hn : n < 64
  ·obtain ⟨g,rfl⟩ : ∃ g,gk = g + 1 := ⟨gk - 1,by omega⟩
   have c1 : decide (65 + (n : Int) ≤ 128) = true := d_T (by omega)
   have HV : Aside0 (decide (∃ m ∈ l,65 ≤ m ∧ m < 65 + ((n + 1 : Nat) : Int)) = (decide (∃ m ∈ l,65 ≤ m ∧ m < 65 + (n : Int)) || decide (65 + (n : Int) ∈ l))) := ⟨by
    rw [Bool.eq_iff_iff]
    simp only [decide_eq_true_eq,Bool.or_eq_true]
    constructor
    ·rintro ⟨m,h1,h2,h3⟩
     by_cases e : m = 65 + (n : Int)
     ·subst e;exact .inr h1
     ·exact .inl ⟨m,h1,h2,by omega⟩
    ·rintro (⟨m,h1,h2,h3⟩ | h)
     ·exact ⟨m,h1,h2,by omega⟩
     ·exact ⟨_,h,by omega,by omega⟩⟩
   generalize decide (∃ m ∈ l,65 ≤ m ∧ m < 65 + (n : Int)) = b at HV
   cases b
   all_goals go_wp2_with (first | (go_at_call 120;refine (groatref05_In.at A c l _ _ (by have := HL.out;omega) HR.out HC.out).mono ?_;rintro e w3 ⟨rfl,hw⟩;obtain rfl := hw.symm))
   all_goals go_roundg g
   all_goals first
    | exact ⟨n + 1,by rw [HV.out];first | rw [Bool.false_or] | rw [Bool.true_or],by rw [show (65 + ((n + 1 : Nat) : Int)) = 65 + (n : Int) + 1 by omega],by omega,⟨rfl⟩⟩
    | omega
  ·obtain rfl : n = 64 := by omega
   have c1 : decide (65 + ((64 : Nat) : Int) ≤ 128) = false := by decide
   have HV : Aside0 (decide (∃ m ∈ l,65 ≤ m ∧ m < 65 + ((64 : Nat) : Int)) = true ↔ ∃ m ∈ l,65 ≤ m) := ⟨by
    rw [decide_eq_true_eq]
    exact ⟨fun ⟨m,h1,h2,_⟩ => ⟨m,h1,h2⟩,fun ⟨m,h1,h2⟩ => ⟨m,h1,h2,by have := H128.out m h1;omega⟩⟩⟩
   generalize decide (∃ m ∈ l,65 ≤ m ∧ m < 65 + ((64 : Nat) : Int)) = b at HV
   have cS : (9223372036854775807 < (strOfNums (byF (1 :: l) 1 8)).size + (strOfNums (byF l 65 8)).size) = False := eq_false HS.out
   have hz1 := byF_size (1 :: l) 1
   have hz2 := byF_size l 65
   have hz3 := byF_size l 1
   have HZ : Aside0 ((strOfNums (byF (1 :: l) 1 8) ++ strOfNums (byF l 65 8)).size ≤ 1000000 ∧ (strOfNums (byF l 1 8)).size ≤ 1000000) := ⟨by rw [app_size];omega⟩
   clear hz1 hz2 hz3
   cases b
   all_goals go_wp2_with (first | (have D0 := hb5;clear D0;go_at_call 121;refine (groatref06_bytes.at A c l 65 _ (by omega) HL.out (c_B HR.out (b_s hb2 hb5)) HC.out).mono ?_;rintro e w7 ⟨rfl,hb7⟩;have H_ := b_s (b_s hb2 hb5) hb7;clear hb5 hb2;have hbE := H_;clear H_) | (have D0 := HN;clear D0;go_at_call 121;refine (groatref06_bytes.at A2 c2 (1 :: l) 1 _ (by omega) (by have := HL1.out;simp;omega) HN.out HRM.out).mono ?_;rintro e w5 ⟨rfl,hb5⟩;clear HN) | (go_at_call 121;refine (groatref06_bytes.at A c l 1 _ (by omega) HL.out HR.out HC.out).mono ?_;rintro e w4 ⟨rfl,hb4⟩;have hbE := hb4) | (go_at_call 122;(refine (groatref02_Put.at _ _ (by first | exact HZ.out.1 | exact HZ.out.2)).mono ?_;rintro e w6 ⟨rfl,hb6⟩;have H_ := b_s hbE hb6;clear hbE;have hbE := H_;clear H_)) | ((with_reducible refine gate_dst (N := 32) rfl ?_);refine lit64 hb4 rfl (N := 32) rfl rfl ?_;intro v1 w1 hr1 hb1;clear hb4 hbE) | ((with_reducible refine gate_builtin (b := .append) (xs := #[.tmp 32,.tmp 33]) rfl ?_);refine app64 hr1 hb1 (c_B HR.out hb1) rfl (.tmp 32) (.tmp 33) rfl rfl rfl (by have := HL.out;simp;omega) ?_;intro v2 w2 hr2 hb2;clear hr1 hb1;obtain ⟨A2,c2,rfl⟩ := Kd.R_slice hr2;obtain ⟨_,hroom,HN0⟩ := Kd.R_reads' hr2;have HN : Aside0 (Kd.C (Kd.int .i64) w2 A2 (1 :: l).length (1 :: l)) := ⟨HN0⟩;have HRM : Aside0 ((1 :: l).length ≤ c2) := ⟨hroom⟩;clear HN0 hroom hr2))
   all_goals go_ret2
   all_goals refine ⟨⟨true,?_⟩,hbE⟩
   all_goals unfold bmR
   all_goals first | (rw [if_pos (HV.out.1 (by first | rfl | trivial))];rfl) | (rw [if_neg (fun h => by have := HV.out.2 h;cases this)];rfl)
theorem fieldsOk_mk {l : List S87} {last : Int} {x : S63} {xs : List S63} (h1 : last < x.f0) (h2 : (findS x.f0 l).2 = true) (h3 : specValue (findS x.f0 l).1 x.f1 = 0) (h4 : fieldsOk l x.f0 xs = true) : fieldsOk l last (x :: xs) = true := by
 rw [fieldsOk,d_T h1,h2,d_T h3,h4];rfl
theorem fieldsOk_weak {l : List S87} {a b : Int} (hab : a ≤ b) : ∀ {xs : List S63},fieldsOk l b xs = true → fieldsOk l a xs = true
 | [],_ => rfl
 | x :: xs,h => by
  obtain ⟨h1,h2,h3,h4⟩ := fieldsOk_cons h
  exact fieldsOk_mk (by omega) h2 h3 h4
theorem fieldsOk_lt {l : List S87} : ∀ {last : Int} {xs : List S63},fieldsOk l last xs = true → ∀ x ∈ xs,last < x.f0
 | _,[],_,x,hx => by cases hx
 | last,y :: ys,h,x,hx => by
  obtain ⟨h1,h2,h3,h4⟩ := fieldsOk_cons h
  rcases List.mem_cons.1 hx with rfl | hx
  ·exact h1
  ·have := fieldsOk_lt h4 x hx;omega
theorem fieldsOk_mem {l : List S87} : ∀ {last : Int} {xs : List S63},fieldsOk l last xs = true → ∀ x ∈ xs,(findS x.f0 l).2 = true ∧ specValue (findS x.f0 l).1 x.f1 = 0
 | _,[],_,x,hx => by cases hx
 | last,y :: ys,h,x,hx => by
  obtain ⟨h1,h2,h3,h4⟩ := fieldsOk_cons h
  rcases List.mem_cons.1 hx with rfl | hx
  ·exact ⟨h2,h3⟩
  ·exact fieldsOk_mem h4 x hx
theorem fieldsOk_snoc {l : List S87} {no : Int} {t : ByteArray} (h2 : (findS no l).2 = true) (h3 : specValue (findS no l).1 t = 0) : ∀ {last : Int} {xs : List S63},fieldsOk l last xs = true → last < no → (∀ x ∈ xs,x.f0 < no) → fieldsOk l last (xs ++ [⟨no,t⟩]) = true
 | last,[],_,hl,_ => fieldsOk_mk hl h2 h3 rfl
 | last,y :: ys,h,hl,hx => by
  obtain ⟨k1,k2,k3,k4⟩ := fieldsOk_cons h
  exact fieldsOk_mk k1 k2 k3 (fieldsOk_snoc h2 h3 k4 (hx y List.mem_cons_self) (fun x hx' => hx x (List.mem_cons_of_mem _ hx')))
theorem decLoop_ok {st : Int} {l : List S87} {p : Int × Int} {b : ByteArray} (hst : st = 1 ∨ st = 2) (hl : ∀ x ∈ l,specCheck x = 0) : ∀ (d : Nat) (no i : Int) (xs : List S63),0 ≤ no → no ≤ 128 → 0 ≤ i → i ≤ b.size → fieldsOk l 0 xs = true → (no ≠ 0 → ∀ x ∈ xs,x.f0 < no) → fieldsOk l 0 (decLoop st l p b d no i xs).1 = true
 | 0,_,_,_,_,_,_,_,h,_ => h
 | d + 1,no,i,xs,h0,h1,i0,i1,h,hx => by
  rw [decLoop]
  by_cases c : no = 0
  ·rw [if_pos c];exact h
  rw [if_neg c]
  by_cases c2 : (findS no l).2 = false
  ·rw [if_pos c2];exact h
  rw [if_neg c2]
  have c2' : (findS no l).2 = true := by simpa using c2
  by_cases c3 : (cellG st (findS no l).1 b i).2.2 ≠ 0
  ·rw [if_pos c3];exact h
  rw [if_neg c3]
  have c3' : (cellG st (findS no l).1 b i).2.2 = 0 := by simpa using c3
  obtain ⟨g1,g2,g3⟩ := cellG_ok hst (hl _ (findS_ok c2').1) i0 i1 c3'
  have hn := nextS_range p no h0 h1
  refine decLoop_ok hst hl d _ _ _ (by omega) (by omega) g1 g2 (fieldsOk_snoc c2' g3 h (by omega) (hx c)) (fun hne x hx' => ?_)
  rcases List.mem_append.1 hx' with hx' | hx'
  ·have := hx c x hx';omega
  ·rw [List.mem_singleton.1 hx'];show no < _;omega
theorem typG_ver {st ver : Int} {b : ByteArray} (h : (typG st ver b).2.2 = 0) : verV (typG st ver b).1 = (ver,true) := by
 unfold typG at h ⊢
 (repeat' split at h) <;> first | (exact absurd h (by decide)) | skip
 ·rename_i a c d e
  rw [if_pos a,if_neg c,if_neg d,if_neg e]
  exact Prod.ext (by simpa using e) (by simpa using d)
 ·rename_i a c d e
  rw [if_neg a,if_neg c,if_neg d,if_neg e]
  exact Prod.ext (by simpa using e) (by simpa using d)
theorem decG_fields {st ver : Int} {l : List S87} {b : ByteArray} (hs : (schemaCheck st ver l).1 = 0) : fieldsOk l 0 (decG st ver l b).1.2 = true := by
 obtain ⟨hst,hv,hl⟩ := schemaCheck_ok hs
 unfold decG
 by_cases c : (typG st ver b).2.2 ≠ 0
 ·rw [if_pos c];rfl
 rw [if_neg c]
 have ht := typG_ok (by simpa using c : (typG st ver b).2.2 = 0)
 generalize (typG st ver b).2.1 = i at *
 generalize (typG st ver b).1 = m at *
 unfold decB
 by_cases c2 : (bmG st b i).2.2 ≠ 0
 ·rw [if_pos c2];rfl
 rw [if_neg c2]
 have hb := bmG_ok ht.1 ht.2 (by simpa using c2)
 have hn := nextS_range (bmG st b i).1 0 (by omega) (by omega)
 have hd := decLoop_ok (p := (bmG st b i).1) (b := b) hst hl 129 (nextS (bmG st b i).1 0) (bmG st b i).2.1 [] (by omega) (by omega) hb.1 hb.2 rfl (fun _ x hx => by cases hx)
 split
 ·exact hd
 ·split <;> exact hd
theorem decG_ver {st ver : Int} {l : List S87} {b : ByteArray} (h : (decG st ver l b).1.1 ≠ ⟨#[]⟩ ∨ (decG st ver l b).2.1 = 0) : verV (decG st ver l b).1.1 = (ver,true) := by
 unfold decG at h ⊢
 by_cases c : (typG st ver b).2.2 ≠ 0
 ·rw [if_pos c] at h
  rcases h with h | h
  ·exact absurd rfl h
  ·exact absurd h c
 rw [if_neg c]
 have ht := typG_ver (by simpa using c : (typG st ver b).2.2 = 0)
 have : (decB st l (typG st ver b).1 b (typG st ver b).2.1).1.1 = (typG st ver b).1 := by
  unfold decB
  (repeat' split) <;> rfl
 rw [this]
 exact ht
theorem decG_msgOk {st ver : Int} {l : List S87} {b : ByteArray} (hs : (schemaCheck st ver l).1 = 0) (h : (decG st ver l b).2.1 = 0) : msgOk st ver l (decG st ver l b).1.1 (decG st ver l b).1.2 = true := by
 unfold msgOk
 rw [d_T hs,d_T (decG_ver (.inr h)),decG_fields hs];rfl
def insR (no : Int) (t : ByteArray) : List S63 → List S63
 | [] => [⟨no,t⟩]
 | x :: xs => if no < x.f0 then ⟨no,t⟩ :: x :: xs else x :: insR no t xs
theorem idxS_shift (no : Int) : ∀ (xs : List S63) (i : Int),0 ≤ i → idxS no xs (i + 1) = if idxS no xs i < 0 then -1 else idxS no xs i + 1
 | [],i,_ => by simp [idxS]
 | x :: xs,i,hi => by
  by_cases c : no < x.f0
  ·rw [idxS,idxS,if_pos c,if_pos c,if_neg (by omega)]
  ·rw [idxS,idxS,if_neg c,if_neg c]
   exact idxS_shift no xs (i + 1) (by omega)
theorem insS_insR (no : Int) (t : ByteArray) : ∀ xs : List S63,insS no t xs = insR no t xs
 | [] => rfl
 | x :: xs => by
  have ih := insS_insR no t xs
  unfold insS placeW at ih ⊢
  rw [insR,idxS]
  by_cases c : no < x.f0
  ·rw [if_pos c,if_pos c,if_neg (by omega)];rfl
  ·rw [if_neg c,if_neg c,← ih,idxS_shift no xs 0 (by omega)]
   rcases idxS_range no xs 0 (by omega) with h | h
   ·rw [h]
    simp
   ·obtain ⟨n,hn⟩ : ∃ n : Nat,idxS no xs 0 = n := ⟨(idxS no xs 0).toNat,by omega⟩
    rw [hn,if_neg (show ¬ (n : Int) < 0 by omega),if_neg (show ¬ (n : Int) + 1 < 0 by omega),if_neg (show ¬ (n : Int) < 0 by omega),show ((n : Int) + 1).toNat = n + 1 by omega,Int.toNat_natCast]
    simp
theorem fieldsOk_insR {l : List S87} {no : Int} {t : ByteArray} (h2 : (findS no l).2 = true) (h3 : specValue (findS no l).1 t = 0) : ∀ {last : Int} {xs : List S63},fieldsOk l last xs = true → last < no → (∀ x ∈ xs,x.f0 ≠ no) → fieldsOk l last (insR no t xs) = true
 | last,[],_,hl,_ => fieldsOk_mk hl h2 h3 rfl
 | last,y :: ys,h,hl,hx => by
  obtain ⟨k1,k2,k3,k4⟩ := fieldsOk_cons h
  rw [insR]
  split
  ·exact fieldsOk_mk hl h2 h3 (fieldsOk_mk (by assumption) k2 k3 k4)
  ·exact fieldsOk_mk k1 k2 k3 (fieldsOk_insR h2 h3 k4 (by have := hx y List.mem_cons_self;omega) (fun x hx' => hx x (List.mem_cons_of_mem _ hx')))
theorem fieldsOk_without {l : List S87} (no : Int) : ∀ {last : Int} {xs : List S63},fieldsOk l last xs = true → fieldsOk l last (withoutS no xs) = true
 | _,[],_ => rfl
 | last,y :: ys,h => by
  obtain ⟨k1,k2,k3,k4⟩ := fieldsOk_cons h
  rw [withoutS]
  split
  ·exact fieldsOk_weak (by omega) (fieldsOk_without no k4)
  ·exact fieldsOk_mk k1 k2 k3 (fieldsOk_without no k4)
theorem without_ne (no : Int) : ∀ {xs : List S63},∀ x ∈ withoutS no xs,x.f0 ≠ no
 | [],x,hx => by cases hx
 | y :: ys,x,hx => by
  rw [withoutS] at hx
  split at hx
  ·exact without_ne no x hx
  ·rcases List.mem_cons.1 hx with rfl | hx
   ·assumption
   ·exact without_ne no x hx
theorem fieldsOk_withM {l : List S87} {no : Int} {t : ByteArray} {xs : List S63} (h0 : 0 < no) (h2 : (findS no l).2 = true) (h3 : specValue (findS no l).1 t = 0) (h : fieldsOk l 0 xs = true) : fieldsOk l 0 (withM no t xs) = true := by
 unfold withM
 rw [insS_insR]
 exact fieldsOk_insR h2 h3 (fieldsOk_without no h) h0 (without_ne no)
theorem firstNot_neg {c : Int} : ∀ {l : List UInt8} {i : Int},0 ≤ i → firstNot c l i < 0 → ∀ b ∈ l,inCls c b.toNat = true
 | [],_,_,_,b,hb => by cases hb
 | x :: xs,i,hi,h,b,hb => by
  rw [firstNot] at h
  split at h
  ·rename_i k
   rcases List.mem_cons.1 hb with rfl | hb
   ·exact k
   ·exact firstNot_neg (by omega) h b hb
  ·omega
theorem firstNot_all {c : Int} : ∀ {l : List UInt8} {i : Int},(∀ b ∈ l,inCls c b.toNat = true) → firstNot c l i = -1
 | [],_,_ => rfl
 | x :: xs,i,h => by
  rw [firstNot,if_pos (h x List.mem_cons_self)]
  exact firstNot_all (fun b hb => h b (List.mem_cons_of_mem _ hb))
theorem inCls_one {x : Int} : inCls 1 x = decide (48 ≤ x ∧ x ≤ 57) := rfl
theorem allD_first {t : ByteArray} : allD t = true ↔ ∀ b ∈ t.data.toList,inCls 1 b.toNat = true := by
 unfold allD
 rw [List.all_eq_true]
 constructor
 ·intro h b hb
  have := of_decide_eq_true (h b hb)
  rw [inCls_one]
  exact d_T (by omega)
 ·intro h b hb
  have := h b hb
  rw [inCls_one] at this
  have := of_decide_eq_true this
  exact d_T (by omega)
theorem specValue_all {x : S87} {t : ByteArray} (h : specValue x t = 0) : specCheck x = 0 ∧ x.f3 ≤ t.size ∧ t.size ≤ x.f4 ∧ (∀ b ∈ t.data.toList,inCls x.f1 b.toNat = true) ∧ (x.f1 = 6 → tlvErr t = 0) := by
 unfold specValue at h
 by_cases c1 : specCheck x ≠ 0
 ·rw [if_pos c1] at h;exact absurd h (by decide)
 rw [if_neg c1] at h
 by_cases c2 : (t.size : Int) < x.f3 ∨ (t.size : Int) > x.f4
 ·rw [if_pos c2] at h;exact absurd h (by decide)
 rw [if_neg c2] at h
 by_cases c3 : firstNot x.f1 t.data.toList 0 ≥ 0
 ·rw [if_pos c3] at h;exact absurd h (by decide)
 rw [if_neg c3] at h
 by_cases c4 : x.f1 = 6 ∧ tlvErr t ≠ 0
 ·rw [if_pos c4] at h;exact absurd h (by decide)
 exact ⟨by simpa using c1,by omega,by omega,firstNot_neg (i := 0) (by omega) (by omega),fun h6 => by
  by_cases c : tlvErr t = 0
  ·exact c
  ·exact absurd ⟨h6,c⟩ c4⟩
theorem specValue_mk {x : S87} {t : ByteArray} (h1 : specCheck x = 0) (h2 : x.f3 ≤ t.size) (h3 : t.size ≤ x.f4) (h4 : ∀ b ∈ t.data.toList,inCls x.f1 b.toNat = true) (h5 : x.f1 = 6 → tlvErr t = 0) : specValue x t = 0 := by
 unfold specValue
 rw [if_neg (show ¬ specCheck x ≠ 0 by simp [h1]),if_neg (show ¬ ((t.size : Int) < x.f3 ∨ (t.size : Int) > x.f4) by omega),if_neg (show ¬ (firstNot x.f1 t.data.toList 0 ≥ 0) by rw [firstNot_all h4];omega),if_neg (fun c => c.2 (h5 c.1))]
theorem wider_bytes {a b : Int} (h : widerC a b = true) (x : Int) (hx : inCls b x = true) : inCls a x = true := by
 unfold widerC at h
 simp only [Bool.and_eq_true,decide_eq_true_eq] at h
 obtain ⟨h1,h2,h3⟩ := h
 rcases (show a = 1 ∨ a = 2 ∨ a = 3 ∨ a = 4 ∨ a = 5 ∨ a = 6 by omega) with rfl | rfl | rfl | rfl | rfl | rfl <;>
 rcases (show b = 1 ∨ b = 2 ∨ b = 3 ∨ b = 4 ∨ b = 5 ∨ b = 6 by omega) with rfl | rfl | rfl | rfl | rfl | rfl <;>
 first | exact hx | exact absurd h3 (by decide +kernel) | (simp [inCls] at hx ⊢;try omega)
theorem specValue_wider {x y : S87} {t : ByteArray} (hw : widerS x y = true) (h : specValue y t = 0) : specValue x t = 0 := by
 unfold widerS at hw
 simp only [Bool.and_eq_true,decide_eq_true_eq] at hw
 obtain ⟨w1,w2,w3,w4,w5⟩ := hw
 obtain ⟨s1,s2,s3,s4,s5⟩ := specValue_all h
 unfold classesOk at w5
 by_cases c5 : x.f1 = 5
 ·exact specValue_mk w1 (by omega) (by omega) (fun b _ => by rw [c5];simp [inCls]) (fun c => by omega)
 rw [if_neg c5] at w5
 by_cases c6 : x.f1 = 6 ∨ y.f1 = 6
 ·rw [if_pos c6] at w5
  have he := of_decide_eq_true w5
  exact specValue_mk w1 (by omega) (by omega) (fun b hb => by rw [he];exact s4 b hb) (fun c => s5 (by omega))
 rw [if_neg c6] at w5
 exact specValue_mk w1 (by omega) (by omega) (fun b hb => wider_bytes w5 _ (s4 b hb)) (fun c => absurd (.inl c) c6)
theorem repeat_mem : ∀ (n : Nat) (b : UInt8),b ∈ Lib.repeatL ([48] : List UInt8) n → b = 48
 | 0,b,h => by simp [Lib.repeatL] at h
 | n + 1,b,h => by
  rw [Lib.repeatL] at h
  rcases List.mem_append.1 h with h | h
  ·simpa using h
  ·exact repeat_mem n b h
theorem padS_ok {t : ByteArray} {n : Int} (hn : 1 ≤ n) (hd : allD t = true) (h : (padS t n).2 = true) : ((padS t n).1.size : Int) = n ∧ allD (padS t n).1 = true := by
 unfold padS at h ⊢
 by_cases c : (t.size : Int) ≤ n
 ·rw [if_pos c]
  constructor
  ·show (((⟨(Lib.repeatL [48] (n - t.size).toNat).toArray⟩ : ByteArray) ++ t).size : Int) = n
   rw [ByteArray.size_append,show (⟨(Lib.repeatL [48] (n - t.size).toNat).toArray⟩ : ByteArray).size = (Lib.repeatL ([48] : List UInt8) (n - t.size).toNat).length from List.size_toArray,repeat_size]
   omega
  ·show allD ((⟨(Lib.repeatL [48] (n - t.size).toNat).toArray⟩ : ByteArray) ++ t) = true
   rw [allD_first] at hd ⊢
   intro b hb
   rw [ByteArray.data_append,Array.toList_append] at hb
   rcases List.mem_append.1 hb with hb | hb
   ·rw [repeat_mem _ _ hb];decide
   ·exact hd b hb
 ·rw [if_neg c] at h ⊢
  by_cases c2 : Lib.trimB (t.extract 0 ((t.size : Int) - n).toNat).data.toList 48 = []
  ·rw [if_pos c2]
   constructor
   ·show ((t.extract ((t.size : Int) - n).toNat t.size).size : Int) = n
    rw [ByteArray.size_extract];omega
   ·show allD (t.extract ((t.size : Int) - n).toNat t.size) = true
    rw [allD_first] at hd ⊢
    intro b hb
    rw [ByteArray.data_extract,Array.toList_extract] at hb
    exact hd b (List.mem_of_mem_drop (List.mem_of_mem_take hb))
  ·rw [if_neg c2] at h;exact absurd h (by decide)
theorem ruleS_ok {no : Int} : ∀ {l : List S94},(ruleS no l).2 = true → (ruleS no l).1 ∈ l ∧ (ruleS no l).1.f1 = no
 | [],h => by cases h
 | x :: xs,h => by
  rw [ruleS] at h ⊢
  split at h
  ·rename_i c;rw [if_pos c];exact ⟨List.mem_cons_self,c⟩
  ·rename_i c;rw [if_neg c];have := ruleS_ok h;exact ⟨List.mem_cons_of_mem _ this.1,this.2⟩
theorem headS_ok {t : ByteArray} : ∀ {l : List S66},(headS t l).2 = true → ∃ p ∈ l,p.f0 = t ∧ (headS t l).1 = p.f1
 | [],h => by cases h
 | x :: xs,h => by
  rw [headS] at h ⊢
  split at h
  ·rename_i c;rw [if_pos c];exact ⟨x,List.mem_cons_self,c,rfl⟩
  ·rename_i c;rw [if_neg c];obtain ⟨p,hp,h1,h2⟩ := headS_ok h;exact ⟨p,List.mem_cons_of_mem _ hp,h1,h2⟩
theorem apply_ok {a b : List S87} {r : S94} {t : ByteArray} (hb : ∀ x ∈ b,specCheck x = 0) (hr : ruleOk a b r) (h3 : r.f0 ≠ 3) (ht : specValue (findS r.f1 a).1 t = 0) :
  applyOk b r t ∧ r.f4.length ≤ 256 ∧ ((applyS b r t).2 = 0 → (applyS b r t).1.f0 ≠ 0 → 0 < (applyS b r t).1.f0 ∧ (findS (applyS b r t).1.f0 b).2 = true ∧ specValue (findS (applyS b r t).1.f0 b).1 (applyS b r t).1.f1 = 0) := by
 obtain ⟨hk,he,q3,q4,w1,w3,w4,w5⟩ := hr
 obtain ⟨e1,e2,e3,e4⟩ := he
 have pos : (findS r.f2 b).2 = true → 0 < r.f2 := fun h => by
  have := findS_ok h
  have := specCheck_facts (hb _ this.1)
  omega
 refine ⟨⟨by omega,fun h4 => ?_⟩,?_,fun h h0 => ?_⟩
 ·obtain ⟨p1,p2⟩ := w4 h4
  have hf := e4 (by omega)
  have hc := specCheck_facts (hb _ (findS_ok hf).1)
  unfold paddedS at p1 p2
  simp only [Bool.and_eq_true,decide_eq_true_eq] at p1 p2
  obtain ⟨s1,s2,s3,s4,s5⟩ := specValue_all ht
  have hc2 := specCheck_facts s1
  refine ⟨hf,by omega,by omega,by omega,by omega,?_⟩
  rw [allD_first]
  rw [p1.1] at s4
  exact s4
 ·by_cases h5 : r.f0 = 5
  ·exact (w5 h5).1
  ·rw [q4 h5];exact Nat.zero_le _
 ·unfold applyS at h h0 ⊢
  rcases hk with k | k | k | k | k
  ·rw [if_pos k]
   have hf := e4 (by omega)
   exact ⟨pos hf,hf,specValue_wider (w1 k) ht⟩
  ·rw [if_neg (by omega),if_pos k] at h0
   exact absurd rfl h0
  ·exact absurd k h3
  ·rw [if_neg (by omega),if_neg (by omega),if_neg (by omega),if_pos k] at h ⊢
   have hf := e4 (by omega)
   obtain ⟨p1,p2⟩ := w4 k
   unfold paddedS at p1 p2
   simp only [Bool.and_eq_true,decide_eq_true_eq] at p1 p2
   obtain ⟨s1,s2,s3,s4,s5⟩ := specValue_all ht
   have hcb := hb _ (findS_ok hf).1
   have hc := specCheck_facts hcb
   have hfx : (findS r.f2 b).1.f3 = (findS r.f2 b).1.f4 := by
    have h9 := hcb
    unfold specCheck at h9
    (repeat' split at h9) <;> first | (exact absurd h9 (by decide)) | skip
    all_goals omega
   by_cases c : (padS t (findS r.f2 b).1.f3).2 = false
   ·rw [if_pos c] at h;exact absurd h (by decide)
   rw [if_neg c]
   have hp := padS_ok (n := (findS r.f2 b).1.f3) (by omega) (by rw [allD_first];rw [p1.1] at s4;exact s4) (by simpa using c)
   have hz := hp.1
   refine ⟨pos hf,hf,?_⟩
   show specValue (findS r.f2 b).1 (padS t (findS r.f2 b).1.f3).1 = 0
   refine specValue_mk hcb (by omega) (by omega) (fun x hx => ?_) (fun c6 => by omega)
   rw [p2.1]
   exact allD_first.1 hp.2 x hx
  ·rw [if_neg (by omega),if_neg (by omega),if_neg (by omega),if_neg (by omega)] at h ⊢
   have hf := e4 (by omega)
   by_cases c : (headS t r.f4).2 = false
   ·rw [if_pos c] at h;exact absurd h (by decide)
   rw [if_neg c]
   obtain ⟨p,hp,_,h2⟩ := headS_ok (by simpa using c : (headS t r.f4).2 = true)
   refine ⟨pos hf,hf,?_⟩
   show specValue (findS r.f2 b).1 (headS t r.f4).1 = 0
   rw [h2]
   exact ((w5 k).2.2.2 p hp).2
theorem constS_ok {a b : List S87} (hb : ∀ x ∈ b,specCheck x = 0) : ∀ {rs : List S94} {acc : List S63},(∀ r ∈ rs,ruleOk a b r) → fieldsOk b 0 acc = true → fieldsOk b 0 (constS rs acc) = true
 | [],_,_,h => h
 | r :: rs,acc,hr,h => by
  rw [constS]
  refine constS_ok hb (fun r' h' => hr r' (List.mem_cons_of_mem _ h')) ?_
  split
  ·rename_i k
   obtain ⟨hk,he,q3,q4,w1,w3,w4,w5⟩ := hr r List.mem_cons_self
   have hf := he.2.2.2 (by omega)
   have h1 := findS_ok hf
   have h2 := specCheck_facts (hb _ h1.1)
   exact fieldsOk_withM (by omega) hf (w3 k) h
  ·exact h
theorem transL_ok {a b : List S87} (ha : ∀ x ∈ a,specCheck x = 0) (hb : ∀ x ∈ b,specCheck x = 0) {rs : List S94} (hr : ∀ r ∈ rs,ruleOk a b r) : ∀ {last : Int} {xs acc : List S63},0 ≤ last → fieldsOk a last xs = true → fieldsOk b 0 acc = true → (transL b rs xs acc).2.1 = 0 → fieldsOk b 0 (transL b rs xs acc).1 = true
 | _,[],_,_,_,h,_ => h
 | last,x :: xs,acc,hl,hx,h,h0 => by
  obtain ⟨k1,k2,k3,k4⟩ := fieldsOk_cons hx
  rw [transL] at h0 ⊢
  by_cases c : (ruleS x.f0 rs).2 = false
  ·rw [if_pos c] at h0;exact absurd h0 (by show (9 : Int) ≠ 0;omega)
  rw [if_neg c] at h0 ⊢
  by_cases c2 : (applyS b (ruleS x.f0 rs).1 x.f1).2 ≠ 0
  ·rw [if_pos c2] at h0;exact absurd h0 c2
  rw [if_neg c2] at h0 ⊢
  have hm := ruleS_ok (by simpa using c : (ruleS x.f0 rs).2 = true)
  have hro := hr _ hm.1
  have h3 : (ruleS x.f0 rs).1.f0 ≠ 3 := fun e => by have := hro.2.1.1 e;omega
  have hap := apply_ok hb hro h3 (t := x.f1) (by rw [hm.2];exact k3)
  refine transL_ok ha hb hr (by omega) k4 ?_ h0
  split
  ·rename_i e
   obtain ⟨p1,p2,p3⟩ := hap.2.2 (by simpa using c2) e
   exact fieldsOk_withM p1 p2 p3 h
  ·exact h
theorem transS_ok {ms : List S66} {rs : List S94} {st1 ver1 st2 ver2 : Int} {l1 l2 : List S87} {m : ByteArray} {xs : List S63} (hm : mapOk ms rs st1 ver1 l1 st2 ver2 l2) (hx : msgOk st1 ver1 l1 m xs = true) (h0 : (transS ms rs l2 m xs).2.1 = 0) :
  msgOk st2 ver2 l2 (transS ms rs l2 m xs).1.1 (transS ms rs l2 m xs).1.2 = true := by
 obtain ⟨m1,m2,m3,m4,m5,m6,m7,m8⟩ := hm
 unfold msgOk at hx ⊢
 simp only [Bool.and_eq_true,decide_eq_true_eq] at hx ⊢
 have ha := (schemaCheck_ok m1).2.2
 have hb := (schemaCheck_ok m2).2.2
 refine ⟨m2,?_⟩
 unfold transS at h0 ⊢
 by_cases c : (headS m ms).2 = false
 ·rw [if_pos c] at h0;exact absurd h0 (by show (7 : Int) ≠ 0;omega)
 rw [if_neg c] at h0 ⊢
 by_cases c2 : (transL l2 rs xs (constS rs [])).2.1 ≠ 0
 ·rw [if_pos c2] at h0;exact absurd h0 c2
 rw [if_neg c2]
 obtain ⟨p,hp,_,h2⟩ := headS_ok (by simpa using c : (headS m ms).2 = true)
 refine ⟨?_,transL_ok ha hb m7 (Int.le_refl 0) hx.2.2 (constS_ok hb m7 rfl) (by simpa using c2)⟩
 show verV (headS m ms).1 = _
 rw [h2]
 exact (m4 p hp).2.1
theorem trans_hap {ms : List S66} {rs : List S94} {st1 ver1 st2 ver2 : Int} {l1 l2 : List S87} {m : ByteArray} {xs : List S63} (hm : mapOk ms rs st1 ver1 l1 st2 ver2 l2) (hx : msgOk st1 ver1 l1 m xs = true) :
  ∀ x ∈ xs,∀ r,ruleS x.f0 rs = (r,true) → applyOk l2 r x.f1 ∧ r.f4.length ≤ 4611686018427387904 := by
 intro x hxm r hr
 obtain ⟨m1,m2,m3,m4,m5,m6,m7,m8⟩ := hm
 unfold msgOk at hx
 simp only [Bool.and_eq_true,decide_eq_true_eq] at hx
 have h1 := ruleS_ok (no := x.f0) (l := rs) (by rw [hr])
 rw [hr] at h1
 have hro := m7 _ h1.1
 have h3 : r.f0 ≠ 3 := fun e => by have := hro.2.1.1 e;have := fieldsOk_lt hx.2.2 x hxm;have := h1.2;omega
 have := apply_ok (schemaCheck_ok m2).2.2 hro h3 (t := x.f1) (by rw [h1.2];exact (fieldsOk_mem hx.2.2 x hxm).2)
 have h5 : r.f4.length ≤ 256 := this.2.1
 exact ⟨this.1,by omega⟩
def sideOk (st ver : Int) (l : List S87) (echo : List Int) (cs : List S129) : Prop :=
 (schemaCheck st ver l).1 = 0 ∧ (findS 39 l).2 = true ∧ (∀ no ∈ echo,(findS no l).2 = true) ∧ (∀ c ∈ cs,specValue (findS 39 l).1 c.f1 = 0) ∧ (codeS 0 cs).2 = true
theorem codeS_ok {e : Int} : ∀ {l : List S129},(codeS e l).2 = true → ∃ p ∈ l,p.f0 = e ∧ (codeS e l).1 = p.f1
 | [],h => by cases h
 | x :: xs,h => by
  rw [codeS] at h ⊢
  split at h
  ·rename_i c;rw [if_pos c];exact ⟨x,List.mem_cons_self,c,rfl⟩
  ·rename_i c;rw [if_neg c];obtain ⟨p,hp,h1,h2⟩ := codeS_ok h;exact ⟨p,List.mem_cons_of_mem _ hp,h1,h2⟩
theorem getS_ok {no : Int} : ∀ {l : List S63},(getS no l).2 = true → ∃ x ∈ l,x.f0 = no ∧ (getS no l).1 = x.f1
 | [],h => by cases h
 | x :: xs,h => by
  rw [getS] at h ⊢
  split at h
  ·rename_i c;rw [if_pos c];exact ⟨x,List.mem_cons_self,c,rfl⟩
  ·rename_i c;rw [if_neg c];obtain ⟨p,hp,h1,h2⟩ := getS_ok h;exact ⟨p,List.mem_cons_of_mem _ hp,h1,h2⟩
theorem echoS_ok {l : List S87} (hl : ∀ x ∈ l,specCheck x = 0) {fs : List S63} (hf : ∀ x ∈ fs,(findS x.f0 l).2 = true ∧ specValue (findS x.f0 l).1 x.f1 = 0) : ∀ {echo : List Int} {acc : List S63},fieldsOk l 0 acc = true → fieldsOk l 0 (echoS fs echo acc) = true
 | [],_,h => h
 | no :: r,acc,h => by
  rw [echoS]
  refine echoS_ok hl hf ?_
  split
  ·rename_i c
   obtain ⟨x,hx,h1,h2⟩ := getS_ok c
   have := hf x hx
   have h3 := findS_ok this.1
   have h4 := specCheck_facts (hl _ h3.1)
   rw [h2,← h1]
   exact fieldsOk_withM (by omega) this.1 this.2 h
  ·exact h
theorem buildS_ok {st ver : Int} {l : List S87} {echo : List Int} {cs : List S129} {fs : List S63} (hs : sideOk st ver l echo cs) (hf : fieldsOk l 0 fs = true) (e : Int) : fieldsOk l 0 (buildS fs echo cs e) = true := by
 obtain ⟨h1,h2,h3,h4,h5⟩ := hs
 have hl := (schemaCheck_ok h1).2.2
 unfold buildS
 refine fieldsOk_withM (by omega) h2 ?_ (echoS_ok hl (fieldsOk_mem hf) rfl)
 unfold rejCode
 split
 ·rename_i c
  obtain ⟨p,hp,_,h⟩ := codeS_ok c
  rw [h];exact h4 p hp
 ·obtain ⟨p,hp,_,h⟩ := codeS_ok h5
  rw [h];exact h4 p hp
theorem reqM_facts {m : ByteArray} (h : reqM m = true) : m.size = 4 ∧ allD m = true ∧ (bt m 2 = 48 ∨ bt m 2 = 50) := by
 unfold reqM at h
 simp only [Bool.and_eq_true,Bool.or_eq_true,decide_eq_true_eq] at h
 obtain ⟨h1,h2⟩ := h
 have := isMti_iff.1 h1
 exact ⟨this.1,this.2,h2⟩
theorem four_bytes {m : ByteArray} (h : m.size = 4) : ∃ a b c d : UInt8,m = ⟨#[a,b,c,d]⟩ := by
 obtain ⟨l,rfl⟩ : ∃ l : List UInt8,m = ⟨l.toArray⟩ := ⟨m.data.toList,by simp⟩
 have hl : l.length = 4 := by simpa [ByteArray.size] using h
 match l,hl with
 | [a,b,c,d],_ => exact ⟨a,b,c,d,rfl⟩
theorem resp_four (a b c d : UInt8) : (respM ⟨#[a,b,c,d]⟩).data.toList = [a,b,UInt8.ofNat (c.toNat + 1),d] := by
 have h2 : bt ⟨#[a,b,c,d]⟩ 2 = (c.toNat : Int) := bt_data ⟨#[a,b,c,d]⟩ 2
 unfold respM
 rw [h2,ByteArray.data_append,Array.toList_append,ByteArray.data_append,Array.toList_append,strOfNums_data,ByteArray.data_extract,ByteArray.data_extract]
 simp
theorem respM_ver {m : ByteArray} (h : reqM m = true) : verV (respM m) = verV m := by
 obtain ⟨h1,h2,h3⟩ := reqM_facts h
 obtain ⟨a,b,c,d,rfl⟩ := four_bytes h1
 have hm : isMti ⟨#[a,b,c,d]⟩ = true := isMti_iff.2 ⟨h1,h2⟩
 have hr := resp_four a b c d
 have hc : c.toNat = 48 ∨ c.toNat = 50 := by
  have h2 : bt ⟨#[a,b,c,d]⟩ 2 = (c.toNat : Int) := bt_data ⟨#[a,b,c,d]⟩ 2
  rw [h2] at h3
  omega
 have hr4 : isMti (respM ⟨#[a,b,c,d]⟩) = true := by
  refine isMti_iff.2 ⟨?_,?_⟩
  ·have : (respM ⟨#[a,b,c,d]⟩).data.toList.length = 4 := by rw [hr];rfl
   rwa [Array.length_toList] at this
  ·unfold allD at h2 ⊢
   rw [hr]
   simp only [List.all_cons,List.all_nil,Bool.and_true,Bool.and_eq_true,decide_eq_true_eq] at h2 ⊢
   have e : (UInt8.ofNat (c.toNat + 1)).toNat = c.toNat + 1 := by rw [UInt8.toNat_ofNat'];omega
   rw [e]
   exact ⟨h2.1,h2.2.1,by omega,h2.2.2.2⟩
 have hb : bt (respM ⟨#[a,b,c,d]⟩) 0 = bt ⟨#[a,b,c,d]⟩ 0 := by
  have e1 := bt_data (respM ⟨#[a,b,c,d]⟩) 0
  have e2 := bt_data ⟨#[a,b,c,d]⟩ 0
  rw [hr] at e1
  exact e1.trans e2.symm
 unfold verV
 rw [if_pos hr4,if_pos hm,hb]
theorem build_msgOk {st ver : Int} {l : List S87} {echo : List Int} {cs : List S129} {b : ByteArray} (hs : sideOk st ver l echo cs) (hq : reqM (decG st ver l b).1.1 = true) (e : Int) : msgOk st ver l (respM (decG st ver l b).1.1) (buildS (decG st ver l b).1.2 echo cs e) = true := by
 have hne : (decG st ver l b).1.1 ≠ ⟨#[]⟩ := fun h => by
  have := (reqM_facts hq).1
  rw [h] at this
  exact absurd this (by decide)
 unfold msgOk
 rw [d_T hs.1,respM_ver hq,d_T (decG_ver (.inl hne)),buildS_ok hs (decG_fields hs.1) e]
 rfl
section
section
variable {P : Program} {ops : Array Oper} {C : World → Prop} {Q : Act → Prop}
theorem quiet_yes {o : Oper} {rest : List Oper} {a : Act} (hw : Region.wanted o (yielded ops a.tmps) = true) (h : o.quiet P a C (wpQuiet P ops C Q rest)) : wpQuiet P ops C Q (o :: rest) a :=
 wpQuiet_step (fun K hK => by rw [if_pos hw];exact Oper.quiet_mono hK h)
theorem quiet_no {o : Oper} {rest : List Oper} {a : Act} (hw : Region.wanted o (yielded ops a.tmps) = false) (h : wpQuiet P ops C Q rest (a.put o.dst undef)) : wpQuiet P ops C Q (o :: rest) a :=
 wpQuiet_step (fun K hK => by rw [if_neg (by rw [hw];exact Bool.false_ne_true)];exact hK _ h)
end
end
theorem emp_app (t : ByteArray) : (⟨#[]⟩ : ByteArray) ++ t = t := ByteArray.empty_append
theorem bcdG_P {s : ByteArray} (h1 : s.size ≤ 999) (h2 : allD s = true) {n : Int} (hn : n = s.size) : bcdG (bcdP s).1 n = (s,0) := by
 subst hn
 rw [bcdG_C (by omega),bcdC_P h1 h2]
theorem preP_rt {st f n : Int} (hst : st = 1 ∨ st = 2) (hf : f = 2 ∨ f = 3) (h0 : 0 ≤ n) (h1 : n ≤ most f) (a c : ByteArray) :
  prefG st f (a ++ (preP st f n).1 ++ c) a.size = (n,(a.size : Int) + (preP st f n).1.size,0) := by
 have hw : 1 ≤ width f ∧ width f ≤ 18 ∧ n < 10 ^ (width f).toNat ∧ width f = 2 ∨ 1 ≤ width f ∧ width f ≤ 18 ∧ n < 10 ^ (width f).toNat ∧ width f = 3 := by
  rcases hf with rfl | rfl
  ·exact .inl ⟨by decide,by decide,by have : most 2 = 99 := rfl;rw [this] at h1;show n < 10 ^ 2;omega,rfl⟩
  ·exact .inr ⟨by decide,by decide,by have : most 3 = 999 := rfl;rw [this] at h1;show n < 10 ^ 3;omega,rfl⟩
 obtain ⟨p1,p2,p3,p4⟩ := digG_P h0 (by omega) (by omega) (show n < 10 ^ (width f).toNat by rcases hw with h | h <;> exact h.2.2.1)
 have hnot : ¬ ((digP n (width f)).2 = false) := by rw [p1];simp
 have hP : (preP st f n).1 = if st = 2 then (bcdP (digP n (width f)).1).1 else (digP n (width f)).1 := by
  unfold preP
  rw [if_neg hnot]
  split <;> rfl
 have hb := bcdG_P (by omega) p4 (n := width f) (by omega)
 have hq := bcdP_sz (s := (digP n (width f)).1) (by rw [bcdP_true (by omega) p4])
 have hz : ((preP st f n).1.size : Int) = preSz st f := by
  rw [hP]
  unfold preSz
  rcases hst with rfl | rfl
  ·rw [if_neg (by decide),if_neg (by decide)]
   omega
  ·rw [if_pos rfl,if_pos rfl,hq]
   rw [p2]
   rcases hw with h | h <;> rw [h.2.2.2] <;> decide
 have he : (a ++ (preP st f n).1 ++ c).extract (a.size : Int).toNat ((a.size : Int) + preSz st f).toNat = (preP st f n).1 := ex_mid (by omega) (by omega)
 unfold prefG
 rw [he,if_neg (by rw [app_size,app_size];omega),hz]
 rcases hst with rfl | rfl
 ·rw [if_neg (show ¬ (1 : Int) = 2 by decide),show (preP 1 f n).1 = (digP n (width f)).1 from hP,p3,if_neg (by simp)]
 ·rw [if_pos rfl,show (preP 2 f n).1 = (bcdP (digP n (width f)).1).1 from hP,hb,if_neg (by simp),p3,if_neg (by simp)]
theorem typ_rt {st ver : Int} {m : ByteArray} (hst : st = 1 ∨ st = 2) (hm : verV m = (ver,true)) (c : ByteArray) : typG st ver (typP st m ++ c) = (m,((typP st m).size : Int),0) := by
 have h4 := isMti_iff.1 (show isMti m = true by unfold verV at hm;split at hm;assumption;cases hm)
 have he : ∀ t : ByteArray,(t ++ c).extract 0 t.size = t := fun t => by
  have := ex_mid (p := ⟨#[]⟩) (s := t) (q := c) (i := 0) (j := t.size) rfl (by show _ = 0 + _;omega)
  rwa [emp_app] at this
 unfold typG typP
 rcases hst with rfl | rfl
 ·have e4 := he m
  rw [h4.1] at e4
  rw [if_neg (show ¬ (1 : Int) = 2 by decide),if_pos rfl,if_neg (by rw [app_size];omega),e4,hm,if_neg (by simp),if_neg (by simp),h4.1]
  rfl
 ·have hb := bcdG_P (by omega) h4.2 (n := 4) (by omega)
  have hq := bcdP_sz (s := m) (by rw [bcdP_true (by omega) h4.2])
  rw [h4.1] at hq
  have e4 := he (bcdP m).1
  rw [hq] at e4
  rw [if_pos rfl,if_neg (show ¬ (2 : Int) = 1 by decide),if_neg (by rw [app_size,hq];omega),e4,hb,hm,if_neg (by simp),if_neg (by simp),hq]
  rfl
theorem cell_rt {st : Int} {x : S87} {t : ByteArray} (hst : st = 1 ∨ st = 2) (hv : specValue x t = 0) (a c : ByteArray) :
  cellG st x (a ++ cellP st x t ++ c) a.size = (t,(a.size : Int) + (cellP st x t).size,0) := by
 obtain ⟨hs,h3,h4,h5,_⟩ := specValue_all hv
 have hf := specCheck_facts hs
 have hm : x.f2 ≠ 1 → x.f4 ≤ most x.f2 := fun h => by
  unfold specCheck at hs
  (repeat' split at hs) <;> first | (exact absurd hs (by decide)) | omega
 have h1 : x.f2 = 1 → x.f3 = x.f4 := fun h => by
  unfold specCheck at hs
  (repeat' split at hs) <;> first | (exact absurd hs (by decide)) | omega
 have hF : ∀ j,cellF x t j = (t,j,0) := fun j => by unfold cellF;rw [if_neg (by rw [hv];simp)]
 have hM : ∀ p,cellM st x (p ++ (if howV st x.f1 = 1 then (bcdP t).1 else if howV st x.f1 = 2 then hexP t else t) ++ c) t.size p.size = (t,(p.size : Int) + (if howV st x.f1 = 1 then (bcdP t).1 else if howV st x.f1 = 2 then hexP t else t).size,0) := by
  intro p
  have key : ∀ C : ByteArray,(C.size : Int) = cellSz st x t.size → cellT st x C t.size (p.size + C.size) = (t,(p.size : Int) + C.size,0) → cellM st x (p ++ C ++ c) t.size p.size = (t,(p.size : Int) + C.size,0) := by
   intro C hC hT
   have he : (p ++ C ++ c).extract (p.size : Int).toNat ((p.size : Int) + cellSz st x t.size).toNat = C := ex_mid (by omega) (by omega)
   unfold cellM
   rw [he,if_neg (by rw [app_size,app_size];omega),← hC,hT]
  by_cases k1 : howV st x.f1 = 1
  ·have hc : x.f1 = 1 := by unfold howV at k1;(repeat' split at k1) <;> omega
   have ha : allD t = true := allD_first.2 (hc ▸ h5)
   rw [if_pos k1]
   refine key _ ?_ ?_
   ·rw [bcdP_sz (by rw [bcdP_true (by omega) ha])]
    unfold cellSz
    rw [if_pos k1,bcdSize_nat]
   ·unfold cellT
    rw [if_pos k1,bcdG_P (by omega) ha rfl,if_neg (by simp),hF]
  ·rw [if_neg k1]
   by_cases k2 : howV st x.f1 = 2
   ·rw [if_pos k2]
    refine key _ ?_ ?_
    ·unfold cellSz
     rw [if_neg k1,if_pos k2,hexP_sz]
     omega
    ·unfold cellT
     rw [if_neg k1,if_pos k2,hexG_P,if_neg (by simp),hF]
   ·rw [if_neg k2]
    refine key _ ?_ ?_
    ·unfold cellSz
     rw [if_neg k1,if_neg k2]
    ·unfold cellT
     rw [if_neg k1,if_neg k2,hF]
 unfold cellG cellP
 by_cases e : x.f2 = 1
 ·have := h1 e
  rw [if_pos e,if_pos e,emp_app,show x.f3 = t.size by omega,hM a]
 ·rw [if_neg e,if_neg e]
  have hp := preP_rt hst (show x.f2 = 2 ∨ x.f2 = 3 by omega) (n := t.size) (by omega) (by have := hm e;omega) a ((if howV st x.f1 = 1 then (bcdP t).1 else if howV st x.f1 = 2 then hexP t else t) ++ c)
  have h9 := hM (a ++ (preP st x.f2 t.size).1)
  simp only [← ByteArray.append_assoc] at hp h9 ⊢
  rw [hp,if_neg (by simp),if_neg (by show ¬ ((t.size : Int) < _ ∨ _);omega)]
  rw [show ((a.size : Int) + (preP st x.f2 t.size).1.size,(0 : Int)).1 = ((a ++ (preP st x.f2 t.size).1).size : Int) by rw [app_size];rfl,h9,app_size,app_size]
  congr 2
  omega
end Go.Proofs.YtgbmnpgaddhfpaaGreatDoor.T
