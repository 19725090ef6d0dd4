/- Walks and plain laws beneath the law TopOutcome. No conditions but what each statement names. -/
import Derived.Test.YtgbmnpgaddhfpaaGreatDoorM11
set_option linter.unusedVariables false
set_option linter.unusedSimpArgs false
namespace Go.Proofs.YtgbmnpgaddhfpaaGreatDoor.T
open Go.RowKit Go.Proofs.YtgbmnpgaddhfpaaGreatDoorW.PrintWords Go.Proofs.YtgbmnpgaddhfpaaGreatDoorW.PrintLast Go.Proofs.YtgbmnpgaddhfpaaGreatDoorW.PrintMore
attribute [local go_sem] max2_int min2_int max_two min_two
open Go.Proofs.YtgbmnpgaddhfpaaGreatDoor.G
open Tryz
set_option maxRecDepth 100000
def Chk2 (P : Prop) (e : Ending) : Prop := ∃ r q : Int,e = .returned (.tuple #[.int .i64 r,.int .i64 q]) ∧ (r = 0 → P)
theorem plP_range (t : ByteArray) : ∀ (l : List S66) (i : Int),0 ≤ i → plP t l i = -1 ∨ i ≤ plP t l i ∧ plP t l i < i + l.length
 | [],_,_ => .inl rfl
 | x :: xs,i,hi => by
  rw [plP]
  split
  ·exact .inr ⟨by omega,by simp;omega⟩
  ·rcases plP_range t xs (i + 1) (by omega) with h | h
   ·exact .inl h
   ·exact .inr ⟨by omega,by simp;omega⟩
theorem plP_none {t : ByteArray} : ∀ {l : List S66} {i : Int},0 ≤ i → plP t l i < 0 → ∀ p ∈ l,p.f0 ≠ t
 | [],_,_,_,p,hp => by cases hp
 | x :: xs,i,hi,h,p,hp => by
  rw [plP] at h
  split at h
  ·omega
  ·rcases List.mem_cons.1 hp with rfl | hp
   ·assumption
   ·exact plP_none (by omega) h p hp
theorem headS_none {t : ByteArray} : ∀ {l : List S66},(∀ p ∈ l,p.f0 ≠ t) → headS t l = (⟨#[]⟩,false)
 | [],_ => rfl
 | x :: xs,h => by
  rw [headS,if_neg (h x List.mem_cons_self)]
  exact headS_none (fun p hp => h p (List.mem_cons_of_mem _ hp))
theorem plP_head {t : ByteArray} : ∀ {l : List S66} {i : Int} {k : Nat},0 ≤ i → plP t l i = i + k → ∃ p,l[k]? = some p ∧ headS t l = (p.f1,true)
 | [],i,k,hi,h => by rw [plP] at h;omega
 | x :: xs,i,k,hi,h => by
  rw [plP] at h
  rw [headS]
  split at h
  ·obtain rfl : k = 0 := by omega
   rename_i e
   rw [if_pos e]
   exact ⟨x,rfl,rfl⟩
  ·rename_i e
   rw [if_neg e]
   rcases plP_range t xs (i + 1) (by omega) with h' | h'
   ·omega
   obtain ⟨j,rfl⟩ : ∃ j,k = j + 1 := ⟨k - 1,by omega⟩
   exact plP_head (i := i + 1) (k := j) (by omega) (by omega)
theorem rd_of66 {l : List S66} {k : Nat} {p : S66} (h : l[k]? = some p) : rd_T66 l (k : Int) = p := by
 simp [rd_T66,List.getD_eq_getElem?_getD,h]
set_option maxHeartbeats 1000000 in
theorem groatref19_Apply.at (A : Option Addr) (c : Nat) (l : List S66) (t : ByteArray) (w : World) (hl : l.length ≤ 4611686018427387904) (hr : Kd.C k66 w A l.length l) (hc : l.length ≤ c) :
  Calls prog 59 #[.slice A l.length c,.string t] w fun e w' => e = .returned (.tuple #[.string (headS t l).1,.bool (headS t l).2]) ∧ w' = w := by
 have hu66 := underlying66
 have HR := aS hr
 have HC := aS hc
 clear hr hc
 obtain ⟨n,hn⟩ : ∃ n,plP t l 0 = n := ⟨_,rfl⟩
 have HN : Aside0 (plP t (l.take l.length) 0 = n) := ⟨by rw [List.take_length];exact hn⟩
 have hrg := plP_range t l 0 (by omega)
 rw [hn] at hrg
 rcases hrg with h | h
 ·have c0 : decide (n < 0) = true := d_T (by omega)
  have HH : Aside0 (headS t l = (⟨#[]⟩,false)) := ⟨headS_none (plP_none (i := 0) (by omega) (by rw [hn];omega))⟩
  clear hn h
  go_enter func59,ntmps59
  go_wp2_with (go_at_call 116;refine (groatref19_find.at A c l.length l t _ (Nat.le_refl _) hl HR.out HC.out).mono ?_;rintro e w1 ⟨rfl,rfl⟩;rw [HN.out])
  go_ret2
  exact ⟨by rw [HH.out];rfl,rfl⟩
 ·obtain ⟨k,rfl⟩ : ∃ k : Nat,n = k := ⟨n.toNat,by omega⟩
  obtain ⟨p,hp,hh⟩ := plP_head (i := 0) (k := k) (Int.le_refl 0) (by rw [hn];omega)
  have HH := aS hh
  have hk : k < l.length := by omega
  obtain ⟨ad,rfl,hx0,hx1⟩ := at66 HR.out (Below.refl _ _) k hk
  rw [rd_of66 hp] at hx0 hx1
  have c0 : decide ((k : Int) < 0) = false := d_F (by omega)
  have p0 : (0 ≤ (k : Int)) = True := eq_true (by omega)
  have q0 : ((k : Int) < l.length) = True := eq_true (by omega)
  clear hn h hh hp
  go_enter func59,ntmps59
  go_wp2_with (go_at_call 116;refine (groatref19_find.at (some ad) c l.length l t _ (Nat.le_refl _) hl HR.out HC.out).mono ?_;rintro e w1 ⟨rfl,rfl⟩;rw [HN.out])
  go_ret2
  exact ⟨by rw [HH.out];rfl,rfl⟩
def twiceS (a b : S94) : Bool := (decide (a.f1 ≠ 0) && decide (a.f1 = b.f1)) || (decide (a.f2 ≠ 0) && decide (a.f2 = b.f2))
set_option maxHeartbeats 1000000 in
theorem groatref21_twice.at (a b : S94) (B1 B2 : Option Addr) (d1 d2 : Nat) (w : World) : Calls prog 130 #[v94 a B1 d1,v94 b B2 d2] w fun e w' => e = .returned (.bool (twiceS a b)) ∧ Below w.heap.size w w' := by
 have hu94 := underlying94
 unfold v94
 have e1 : (a.f1 != 0) = decide (a.f1 ≠ 0) := by rw [Bool.eq_iff_iff,bne_iff_ne,decide_eq_true_eq]
 have e2 : (a.f1 == b.f1) = decide (a.f1 = b.f1) := by rw [Bool.eq_iff_iff,beq_iff_eq,decide_eq_true_eq]
 have e3 : (a.f2 != 0) = decide (a.f2 ≠ 0) := by rw [Bool.eq_iff_iff,bne_iff_ne,decide_eq_true_eq]
 have e4 : (a.f2 == b.f2) = decide (a.f2 = b.f2) := by rw [Bool.eq_iff_iff,beq_iff_eq,decide_eq_true_eq]
 have HT : Aside0 (twiceS a b = ((decide (a.f1 ≠ 0) && decide (a.f1 = b.f1)) || (decide (a.f2 ≠ 0) && decide (a.f2 = b.f2)))) := ⟨rfl⟩
 by_cases h1 : a.f1 ≠ 0
 ·rw [d_T h1] at e1 HT
  by_cases h2 : a.f1 = b.f1
  ·rw [d_T h2] at e2 HT
   clear h1 h2
   go_enter func130,ntmps130
   go_wp2
   all_goals go_ret
   all_goals exact ⟨by rw [HT.out];rfl,b_l (bO _) _⟩
  ·rw [d_F h2] at e2 HT
   clear h1 h2
   by_cases h3 : a.f2 ≠ 0
   ·rw [d_T h3] at e3 HT
    by_cases h4 : a.f2 = b.f2
    ·rw [d_T h4] at e4 HT
     clear h3 h4
     go_enter func130,ntmps130
     go_wp2
     all_goals go_ret
     all_goals exact ⟨by rw [HT.out];rfl,b_l (bO _) _⟩
    ·rw [d_F h4] at e4 HT
     clear h3 h4
     go_enter func130,ntmps130
     go_wp2
     all_goals go_ret
     all_goals exact ⟨by rw [HT.out];rfl,b_l (bO _) _⟩
   ·rw [d_F h3] at e3 HT
    clear h3
    go_enter func130,ntmps130
    go_wp2
    all_goals go_ret
    all_goals exact ⟨by rw [HT.out];rfl,b_l (bO _) _⟩
 ·rw [d_F h1] at e1 HT
  clear h1
  by_cases h3 : a.f2 ≠ 0
  ·rw [d_T h3] at e3 HT
   by_cases h4 : a.f2 = b.f2
   ·rw [d_T h4] at e4 HT
    clear h3 h4
    go_enter func130,ntmps130
    go_wp2
    all_goals go_ret
    all_goals exact ⟨by rw [HT.out];rfl,b_l (bO _) _⟩
   ·rw [d_F h4] at e4 HT
    clear h3 h4
    go_enter func130,ntmps130
    go_wp2
    all_goals go_ret
    all_goals exact ⟨by rw [HT.out];rfl,b_l (bO _) _⟩
  ·rw [d_F h3] at e3 HT
   clear h3
   go_enter func130,ntmps130
   go_wp2
   all_goals go_ret
   all_goals exact ⟨by rw [HT.out];rfl,b_l (bO _) _⟩
def tblOk (l : List S66) : Prop := l.length ≤ 256 ∧ freshS [] l = true
theorem freshS_of {l : List S66} : ∀ (seen : List (List UInt8)) (k : Nat),(∀ s,s ∈ seen → ∃ p ∈ l.take k,p.f0.data.toList = s) → (∀ j : Nat,j < l.length → ∀ p ∈ l.take j,p.f0 ≠ (rd_T66 l (j : Int)).f0) → freshS seen (l.drop k) = true := by
 intro seen k
 induction hd : l.length - k generalizing seen k with
 | zero =>
  intro _ _
  rw [List.drop_of_length_le (by omega)]
  rfl
 | succ n ih =>
  intro h1 h2
  have hk : k < l.length := by omega
  rw [drop66 hk,freshS]
  rw [d_T,Bool.true_and]
  ·refine ih _ (k + 1) (by omega) (fun s hs => ?_) h2
   rcases List.mem_cons.1 hs with rfl | hs
   ·refine ⟨rd_T66 l (k : Int),?_,rfl⟩
    rw [List.take_succ_eq_append_getElem hk]
    refine List.mem_append_right _ ?_
    simp [rd_T66,List.getD_eq_getElem?_getD,List.getElem?_eq_getElem hk]
   ·obtain ⟨p,hp,e⟩ := h1 s hs
    exact ⟨p,by rw [List.take_succ_eq_append_getElem hk];exact List.mem_append_left _ hp,e⟩
  ·intro hc
   obtain ⟨p,hp,e⟩ := h1 _ hc
   refine h2 k hk p hp ?_
   cases hp0 : p.f0;cases hq0 : (rd_T66 l (k : Int)).f0
   rw [hp0,hq0] at e
   congr 1
   exact Array.toList_inj.1 e
set_option maxHeartbeats 1000000 in
theorem groatref19_Check.at (A : Option Addr) (c : Nat) (l : List S66) (w : World) (hl : l.length ≤ 4611686018427387904) (hr : Kd.C k66 w A l.length l) (hc : l.length ≤ c) :
  Calls prog 162 #[.slice A l.length c] w fun e w' => Chk2 (tblOk l) e ∧ w' = w := by
 have hu66 := underlying66
 have HR := aS hr
 have HC := aS hc
 clear hr hc
 by_cases h : l.length > 256
 ·have c0 : decide (256 < l.length) = true := d_T h
  have c1 : decide (256 < (l.length : Int)) = true := d_T (by omega)
  clear h
  go_enter func162,ntmps162
  go_wp2
  go_ret2
  exact ⟨⟨_,_,rfl,fun h => absurd h (by decide)⟩,rfl⟩
 have c0 : decide (256 < (l.length : Int)) = false := d_F (by omega)
 have c1 : decide (256 < l.length) = false := d_F h
 have H256 := aS (Nat.le_of_not_lt h)
 clear h
 go_enter func162,ntmps162
 go_wp2
 go_loopg [4] l.length (fun g v4 w' => ∃ i : Nat,v4 = .int .i64 i ∧ i + g = l.length ∧ Aside0 (∀ j : Nat,j < i → ∀ p ∈ l.take j,p.f0 ≠ (rd_T66 l (j : Int)).f0) ∧ w' = w)
 case atStart => exact ⟨0,rfl,Nat.zero_add _,⟨fun j hj => by omega⟩,rfl⟩
 case round =>
  obtain ⟨i,rfl,hi,HF,rfl⟩ := hrel
  by_cases h : i < l.length
  ·have d0 : decide ((i : Int) < l.length) = true := d_T (by omega)
   obtain ⟨ad,rfl,hx0,hx1⟩ := at66 HR.out (Below.refl _ _) i h
   have p : (0 ≤ (i : Int)) = True := eq_true (by omega)
   have q : ((i : Int) < l.length) = True := eq_true (by omega)
   obtain ⟨n,hn⟩ : ∃ n,plP (rd_T66 l (i : Int)).f0 (l.take i) 0 = n := ⟨_,rfl⟩
   have HN := aS hn
   have HX : Aside0 (n < 0 → ∀ p ∈ l.take i,p.f0 ≠ (rd_T66 l (i : Int)).f0) := ⟨fun h => plP_none (Int.le_refl 0) (by rw [hn];exact h)⟩
   clear hn
   by_cases e : 0 ≤ n
   ·have d1 : decide (0 ≤ n) = true := d_T e
    clear e
    go_wp2_with (go_at_call 116;refine (groatref19_find.at (some ad) c i l _ _ (by omega) hl HR.out HC.out).mono ?_;rintro e w1 ⟨rfl,rfl⟩;rw [HN.out])
    go_ret2
    exact ⟨⟨_,_,rfl,fun h => absurd h (by decide)⟩,rfl⟩
   ·have d1 : decide (0 ≤ n) = false := d_F e
    have HE := aS e
    clear e
    go_wp2_with (go_at_call 116;refine (groatref19_find.at (some ad) c i l _ _ (by omega) hl HR.out HC.out).mono ?_;rintro e w1 ⟨rfl,rfl⟩;rw [HN.out])
    obtain ⟨g,rfl⟩ : ∃ g,gk = g + 1 := ⟨gk - 1,by omega⟩
    go_roundg g
    case rel =>
     refine ⟨i + 1,rfl,by omega,⟨fun j hj => ?_⟩,rfl⟩
     by_cases hji : j < i
     ·exact HF.out j hji
     ·obtain rfl : j = i := by omega
      exact HX.out (by have := HE.out;omega)
    case measure => omega
  ·have d0 : decide ((i : Int) < l.length) = false := d_F (by omega)
   have HP : Aside0 (tblOk l) := ⟨⟨H256.out,freshS_of [] 0 (fun s hs => by cases hs) (fun j hj => HF.out j (by omega))⟩⟩
   go_wp2
   go_ret2
   exact ⟨⟨_,_,rfl,fun _ => HP.out⟩,rfl⟩
theorem wi (i : Nat) (h : i ≤ 1000) : Value.int .i64 (wrap64 ((i : Int) + 1)) = Value.int .i64 ((i + 1 : Nat) : Int) := by
 have h : wrap64 ((i : Int) + 1) = (i : Int) + 1 := by unfold wrap64;omega
 rw [h];rfl
theorem ne4 {a b : Nat} (h : a + 1 + 1 + 1 + 1 + 1 < b) : (a + 1 + 1 + 1 + 1 = b) = False := eq_false (by omega)
theorem ne4' {a b : Nat} (h : a + 1 + 1 + 1 + 1 + 1 < b) : (b = a + 1 + 1 + 1 + 1) = False := eq_false (by omega)
theorem ne5 {a b : Nat} (h : a + 1 + 1 + 1 + 1 + 1 < b) : (a + 1 + 1 + 1 + 1 + 1 = b) = False := eq_false (by omega)
theorem ne5' {a b : Nat} (h : a + 1 + 1 + 1 + 1 + 1 < b) : (b = a + 1 + 1 + 1 + 1 + 1) = False := eq_false (by omega)
theorem rd_mem63 {l : List S63} {i : Nat} (h : i < l.length) : rd_T63 l (i : Int) ∈ l := by
 simp [rd_T63,List.getD_eq_getElem?_getD,List.getElem?_eq_getElem h]
set_option maxHeartbeats 8000000 in
theorem xlate_Translate.at (Am : Option Addr) (cm : Nat) (ms : List S66) (Ar : Option Addr) (cr : Nat) (rs : List S94) (st1 ver1 : Int) (A1 : Option Addr) (c1 : Nat) (l1 : List S87) (st2 ver2 : Int) (A2 : Option Addr) (c2 : Nat) (l2 : List S87) (m : ByteArray) (Ax : Option Addr) (cx : Nat) (xs : List S63) (w : World)
  (hck0 : ∀ W,Below w.heap.size w W → Calls prog 38 #[.agg #[.slice Am ms.length cm,.slice Ar rs.length cr],.agg #[.int .i64 st1,.int .i64 ver1,.slice A1 l1.length c1],.agg #[.int .i64 st2,.int .i64 ver2,.slice A2 l2.length c2]] W fun e W' => e = .returned (.tuple #[.int .i64 0,.int .i64 0,.int .i64 0]) ∧ Below W.heap.size W W')
  (hm0 : msgOk st1 ver1 l1 m xs = true) (hl1 : l1.length ≤ 4611686018427387904) (hl2 : l2.length ≤ 4611686018427387904) (hml : ms.length ≤ 1000) (hrl : rs.length ≤ 1000) (hxl : xs.length ≤ 1000)
  (hrm : Kd.C k66 w Am ms.length ms) (hcm : ms.length ≤ cm) (hrr : Kd.C k94 w Ar rs.length rs) (hcr : rs.length ≤ cr) (hr1 : Kd.C k87 w A1 l1.length l1) (hc1 : l1.length ≤ c1) (hr2 : Kd.C k87 w A2 l2.length l2) (hc2 : l2.length ≤ c2) (hrx : Kd.C k63 w Ax xs.length xs) (hcx : xs.length ≤ cx)
  (hap : ∀ x ∈ xs,∀ r,ruleS x.f0 rs = (r,true) → applyOk l2 r x.f1 ∧ r.f4.length ≤ 4611686018427387904) :
  Calls prog 11 #[.agg #[.slice Am ms.length cm,.slice Ar rs.length cr],.agg #[.int .i64 st1,.int .i64 ver1,.slice A1 l1.length c1],.agg #[.int .i64 st2,.int .i64 ver2,.slice A2 l2.length c2],.agg #[.string m,.slice Ax xs.length cx]] w fun e w' =>
   (∃ A' c',e = .returned (.tuple #[.agg #[.string (transS ms rs l2 m xs).1.1,.slice A' (transS ms rs l2 m xs).1.2.length c'],.agg #[.int .i64 (transS ms rs l2 m xs).2.1,.int .i64 (transS ms rs l2 m xs).2.2]]) ∧ (transS ms rs l2 m xs).1.2.length ≤ c' ∧ Kd.C k63 w' A' (transS ms rs l2 m xs).1.2.length (transS ms rs l2 m xs).1.2 ∧ MsgAt w' (.slice A' (transS ms rs l2 m xs).1.2.length c') (transS ms rs l2 m xs).1.2) ∧ Below w.heap.size w w' := by
 have hu28 := underlying28
 have hu24 := underlying24
 have hu42 := underlying42
 have hu45 := underlying45
 have hu63 := underlying63
 have hu94 := underlying94
 have hck := aS hck0
 have hm := aS hm0
 have HML := aS hml
 have HRL := aS hrl
 have HXL := aS hxl
 have HRm := aS hrm
 have HCm := aS hcm
 have HRr := aS hrr
 have HCr := aS hcr
 have HR1 := aS hr1
 have HC1 := aS hc1
 have HR2 := aS hr2
 have HC2 := aS hc2
 have HRx := aS hrx
 have HCx := aS hcx
 have HAP := aS hap
 clear hck0 hm0 hml hrl hxl hrm hcm hrr hcr hr1 hc1 hr2 hc2 hrx hcx hap
 obtain ⟨r,hg⟩ : ∃ r,transS ms rs l2 m xs = r := ⟨_,rfl⟩
 rw [hg]
 rw [transS] at hg
 obtain ⟨t,ok,hhd⟩ : ∃ t ok,headS m ms = (t,ok) := ⟨_,_,rfl⟩
 rw [hhd] at hg
 cases ok with
 | false =>
  rw [if_pos rfl] at hg
  have HG := aS hg
  clear hg
  go_enter func11,ntmps11
  go_wp2_with (first | (go_at_call 38;refine (hck.out _ (Box6.start w _ _ _ _ _ _).below).mono ?_;rintro e w1 ⟨rfl,hb1⟩;have D := aS (Box6.init hb1);clear hb1;obtain ⟨zp0,zp1⟩ := cells_2 D.out.h1;obtain ⟨zb0,zb1,zb2⟩ := cells_3 D.out.h2;obtain ⟨zc0,zc1,zc2⟩ := cells_3 D.out.h3;obtain ⟨zd0,zd1⟩ := cells_2 D.out.h4;obtain ⟨ze0,ze1⟩ := cells_2 D.out.h5;obtain ⟨zf0,zf1⟩ := cells_2 D.out.h6;obtain ⟨ye0,ye1⟩ := froz_2 D.out.h5;obtain ⟨yf0,yf1⟩ := froz_2 D.out.h6;have ZP := cells_2a D.out.h1;have ZC := cells_3a D.out.h3;have ZD := cells_2a D.out.h4;have ZE := cells_2a D.out.h5;have ZF := cells_2a D.out.h6;have YE := froz_2a D.out.h5;have YF := froz_2a D.out.h6) | (go_at_call 39;refine (msg_Check.at st1 ver1 A1 c1 l1 m Ax cx xs _ hl1 (c_B HR1.out D.out.below) HC1.out (by have := HXL.out;omega) (c_B HRx.out D.out.below) HCx.out hm.out).mono ?_;rintro e w2 ⟨rfl,hb1⟩;have D_ := aS (D.out.step hb1);clear zp0 zp1 zb0 zb1 zb2 zc0 zc1 zc2 zd0 zd1 ze0 ze1 zf0 zf1 ye0 ye1 yf0 yf1 ZP ZC ZD ZE ZF YE YF;clear D;have D := D_;clear D_;obtain ⟨zp0,zp1⟩ := cells_2 D.out.h1;obtain ⟨zb0,zb1,zb2⟩ := cells_3 D.out.h2;obtain ⟨zc0,zc1,zc2⟩ := cells_3 D.out.h3;obtain ⟨zd0,zd1⟩ := cells_2 D.out.h4;obtain ⟨ze0,ze1⟩ := cells_2 D.out.h5;obtain ⟨zf0,zf1⟩ := cells_2 D.out.h6;obtain ⟨ye0,ye1⟩ := froz_2 D.out.h5;obtain ⟨yf0,yf1⟩ := froz_2 D.out.h6;have ZP := cells_2a D.out.h1;have ZC := cells_3a D.out.h3;have ZD := cells_2a D.out.h4;have ZE := cells_2a D.out.h5;have ZF := cells_2a D.out.h6;have YE := froz_2a D.out.h5;have YF := froz_2a D.out.h6;clear hb1) | (go_at_call 40;refine (xlate_head.at Am cm ms _ m _ (by have := HML.out;omega) (c_B HRm.out (b_l D.out.below _)) HCm.out _ _ _ rfl).mono ?_;rintro e w3 ⟨rfl,hb1⟩;rw [hhd];have D_ := aS (D.out.step (below_a1 hb1));clear zp0 zp1 zb0 zb1 zb2 zc0 zc1 zc2 zd0 zd1 ze0 ze1 zf0 zf1 ye0 ye1 yf0 yf1 ZP ZC ZD ZE ZF YE YF;clear D;have D := D_;clear D_;obtain ⟨zp0,zp1⟩ := cells_2 D.out.h1;obtain ⟨zb0,zb1,zb2⟩ := cells_3 D.out.h2;obtain ⟨zc0,zc1,zc2⟩ := cells_3 D.out.h3;obtain ⟨zd0,zd1⟩ := cells_2 D.out.h4;obtain ⟨ze0,ze1⟩ := cells_2 D.out.h5;obtain ⟨zf0,zf1⟩ := cells_2 D.out.h6;obtain ⟨ye0,ye1⟩ := froz_2 D.out.h5;obtain ⟨yf0,yf1⟩ := froz_2 D.out.h6;have ZP := cells_2a D.out.h1;have ZC := cells_3a D.out.h3;have ZD := cells_2a D.out.h4;have ZE := cells_2a D.out.h5;have ZF := cells_2a D.out.h6;have YE := froz_2a D.out.h5;have YF := froz_2a D.out.h6;clear hb1))
  all_goals obtain ⟨z1,z2,z3⟩ := Box6.fin D.out (.string ⟨#[]⟩) (.slice none 0 0) (.int .i64 7) (.int .i64 0)
  all_goals refine bodyPost_ret (results_cc rfl _ _ (w.heap.size + 1 + 1 + 1 + 1) (w.heap.size + 1 + 1 + 1 + 1 + 1) 42 45 _ _ (0,0) (0,0) _ _ rfl z1 hu42 rfl (by kernel_rfl) rfl z2 hu45 rfl (by kernel_rfl)) rfl ?_
  all_goals obtain rfl := HG.out
  all_goals exact ⟨⟨none,0,rfl,Nat.le_refl _,Kd.C_nil _ _,.inl ⟨rfl,rfl⟩⟩,z3⟩
 | true =>
  rw [if_neg (by simp)] at hg
  simp only at hg
  go_enter func11,ntmps11
  go_wp2_with (first | (go_at_call 38;refine (hck.out _ (Box6.start w _ _ _ _ _ _).below).mono ?_;rintro e w1 ⟨rfl,hb1⟩;have D := aS (Box6.init hb1);clear hb1;obtain ⟨zp0,zp1⟩ := cells_2 D.out.h1;obtain ⟨zb0,zb1,zb2⟩ := cells_3 D.out.h2;obtain ⟨zc0,zc1,zc2⟩ := cells_3 D.out.h3;obtain ⟨zd0,zd1⟩ := cells_2 D.out.h4;obtain ⟨ze0,ze1⟩ := cells_2 D.out.h5;obtain ⟨zf0,zf1⟩ := cells_2 D.out.h6;obtain ⟨ye0,ye1⟩ := froz_2 D.out.h5;obtain ⟨yf0,yf1⟩ := froz_2 D.out.h6;have ZP := cells_2a D.out.h1;have ZC := cells_3a D.out.h3;have ZD := cells_2a D.out.h4;have ZE := cells_2a D.out.h5;have ZF := cells_2a D.out.h6;have YE := froz_2a D.out.h5;have YF := froz_2a D.out.h6) | (go_at_call 39;refine (msg_Check.at st1 ver1 A1 c1 l1 m Ax cx xs _ hl1 (c_B HR1.out D.out.below) HC1.out (by have := HXL.out;omega) (c_B HRx.out D.out.below) HCx.out hm.out).mono ?_;rintro e w2 ⟨rfl,hb1⟩;have D_ := aS (D.out.step hb1);clear zp0 zp1 zb0 zb1 zb2 zc0 zc1 zc2 zd0 zd1 ze0 ze1 zf0 zf1 ye0 ye1 yf0 yf1 ZP ZC ZD ZE ZF YE YF;clear D;have D := D_;clear D_;obtain ⟨zp0,zp1⟩ := cells_2 D.out.h1;obtain ⟨zb0,zb1,zb2⟩ := cells_3 D.out.h2;obtain ⟨zc0,zc1,zc2⟩ := cells_3 D.out.h3;obtain ⟨zd0,zd1⟩ := cells_2 D.out.h4;obtain ⟨ze0,ze1⟩ := cells_2 D.out.h5;obtain ⟨zf0,zf1⟩ := cells_2 D.out.h6;obtain ⟨ye0,ye1⟩ := froz_2 D.out.h5;obtain ⟨yf0,yf1⟩ := froz_2 D.out.h6;have ZP := cells_2a D.out.h1;have ZC := cells_3a D.out.h3;have ZD := cells_2a D.out.h4;have ZE := cells_2a D.out.h5;have ZF := cells_2a D.out.h6;have YE := froz_2a D.out.h5;have YF := froz_2a D.out.h6;clear hb1) | (go_at_call 40;refine (xlate_head.at Am cm ms _ m _ (by have := HML.out;omega) (c_B HRm.out (b_l D.out.below _)) HCm.out _ _ _ rfl).mono ?_;rintro e w3 ⟨rfl,hb1⟩;rw [hhd];have D_ := aS (D.out.step (below_a1 hb1));clear zp0 zp1 zb0 zb1 zb2 zc0 zc1 zc2 zd0 zd1 ze0 ze1 zf0 zf1 ye0 ye1 yf0 yf1 ZP ZC ZD ZE ZF YE YF;clear D;have D := D_;clear D_;obtain ⟨zp0,zp1⟩ := cells_2 D.out.h1;obtain ⟨zb0,zb1,zb2⟩ := cells_3 D.out.h2;obtain ⟨zc0,zc1,zc2⟩ := cells_3 D.out.h3;obtain ⟨zd0,zd1⟩ := cells_2 D.out.h4;obtain ⟨ze0,ze1⟩ := cells_2 D.out.h5;obtain ⟨zf0,zf1⟩ := cells_2 D.out.h6;obtain ⟨ye0,ye1⟩ := froz_2 D.out.h5;obtain ⟨yf0,yf1⟩ := froz_2 D.out.h6;have ZP := cells_2a D.out.h1;have ZC := cells_3a D.out.h3;have ZD := cells_2a D.out.h4;have ZE := cells_2a D.out.h5;have ZF := cells_2a D.out.h6;have YE := froz_2a D.out.h5;have YF := froz_2a D.out.h6;clear hb1))
  have G : Aside0 ((w3.alloc (.cells #[.string t,.slice none 0 0] 42)).heap[w3.heap.size]? = some (.cells #[.string t,.slice none 0 0] 42 (0,0))) := ⟨blk_new _ _⟩
  have HG10 : Aside0 (w.heap.size + 1 + 1 + 1 + 1 + 1 < w3.heap.size) := ⟨blk_lt D.out.h6⟩
  have D_ := aS (D.out.step (b_l (Below.refl _ _) (.cells #[.string t,.slice none 0 0] 42)))
  clear zp0 zp1 zb0 zb1 zb2 zc0 zc1 zc2 zd0 zd1 ze0 ze1 zf0 zf1 ye0 ye1 yf0 yf1 ZP ZC ZD ZE ZF YE YF
  clear D
  have D := D_
  clear D_
  go_loopg [61] rs.length (fun g v61 w' => ∃ (i : Nat) (acc : List S63) (v : Value),v61 = .int .i64 i ∧ i + g = rs.length ∧ Aside0 (acc.length ≤ i) ∧ Aside0 (constS (rs.drop i) acc = constS rs []) ∧ Aside0 (MsgAt w' v acc) ∧ Aside0 (w'.heap[w3.heap.size]? = some (.cells #[.string t,v] 42 (0,0))) ∧ Aside0 (Box6 w w' (.cells #[.slice Am ms.length cm,.slice Ar rs.length cr] 28) (.cells #[.int .i64 st1,.int .i64 ver1,.slice A1 l1.length c1] 24) (.cells #[.int .i64 st2,.int .i64 ver2,.slice A2 l2.length c2] 24) (.cells #[.string m,.slice Ax xs.length cx] 42) (.cells #[.string ⟨#[]⟩,.slice none 0 0] 42) (.cells #[.int .i64 0,.int .i64 0] 45)))
  case atStart => exact ⟨0,[],_,rfl,Nat.zero_add _,⟨Nat.le_refl _⟩,⟨rfl⟩,⟨.inl ⟨rfl,rfl⟩⟩,G,D⟩
  case round =>
   clear D G
   obtain ⟨i,acc,v,rfl,hi,HAL,HF,M,G,D⟩ := hrel
   have HIL : Aside0 (i ≤ rs.length) := ⟨by omega⟩
   obtain ⟨Av,cv,hv0,hcv0,_⟩ := M.out.reads (by have := HAL.out;have := HRL.out;have := HIL.out;omega)
   subst hv0
   have hcv := aS hcv0
   have HCv : Aside0 (∀ {W : World},MsgAt W (.slice Av acc.length cv) acc → Kd.C k63 W Av acc.length acc) := ⟨fun h => by obtain ⟨A',c',e',_,hC⟩ := h.reads (by have := HAL.out;have := HRL.out;have := HIL.out;omega);cases e';exact hC⟩
   clear hcv0
   obtain ⟨zp0,zp1⟩ := cells_2 D.out.h1
   obtain ⟨zb0,zb1,zb2⟩ := cells_3 D.out.h2
   obtain ⟨zc0,zc1,zc2⟩ := cells_3 D.out.h3
   obtain ⟨zd0,zd1⟩ := cells_2 D.out.h4
   obtain ⟨ze0,ze1⟩ := cells_2 D.out.h5
   obtain ⟨zf0,zf1⟩ := cells_2 D.out.h6
   obtain ⟨ye0,ye1⟩ := froz_2 D.out.h5
   obtain ⟨yf0,yf1⟩ := froz_2 D.out.h6
   have ZP := cells_2a D.out.h1
   have ZC := cells_3a D.out.h3
   have ZD := cells_2a D.out.h4
   have ZE := cells_2a D.out.h5
   have ZF := cells_2a D.out.h6
   have YE := froz_2a D.out.h5
   have YF := froz_2a D.out.h6
   obtain ⟨zm0,zm1⟩ := cells_2 G.out
   obtain ⟨ym0,ym1⟩ := froz_2 G.out
   have ZM := cells_2a G.out
   by_cases h : i < rs.length
   ·have e0 : decide ((i : Int) < rs.length) = true := d_T (by omega)
    obtain ⟨ad,A4,c4,rfl,hx0,hx1,hx2,hx3,hx4,hx5,hx6⟩ := at94 HRr.out D.out.below i h
    have q0 : (0 ≤ (i : Int)) = True := eq_true (by omega)
    have q1 : ((i : Int) < rs.length) = True := eq_true (by omega)
    have hf := HF.out
    rw [drop94 h,constS] at hf
    clear HF hx5 hx6
    generalize rd_T94 rs (i : Int) = x at *
    by_cases k : x.f0 = 3
    ·have e1 : (x.f0 == 3) = true := beq_iff_eq.mpr k
     rw [if_pos k] at hf
     have HF := aS hf
     clear hf k
     go_wp2_with (first | (go_at_call 41;refine (msg_With.at t Av cv acc x.f2 x.f3 _ (by have := HAL.out;have := HRL.out;have := HIL.out;omega) (HCv.out (M.out.step (b_l (Below.refl _ _) (.cells #[.int .i64 x.f0,.int .i64 x.f1,.int .i64 x.f2,.string x.f3,.slice A4 x.f4.length c4] 94)))) hcv.out).mono ?_;rintro e w6 ⟨⟨g4,rfl,hg4,hG4⟩,hb0⟩;have hb1 := below_a1 hb0;have M_ : Aside0 (MsgAt w6 (.slice (some ⟨g4,0,none⟩) (withM x.f2 x.f3 acc).length (withM x.f2 x.f3 acc).length) (withM x.f2 x.f3 acc)) := ⟨.inr ⟨g4,rfl,hG4⟩⟩;have D_ := aS (D.out.step hb1);have G_ := aS (k_B G.out hb1);clear zp0 zp1 zb0 zb1 zb2 zc0 zc1 zc2 zd0 zd1 ze0 ze1 zf0 zf1 ye0 ye1 yf0 yf1 ZP ZC ZD ZE ZF YE YF;clear zm0 zm1 ym0 ym1 ZM;clear D G M hb0 hb1 hg4 hG4;have D := D_;have G := G_;have M := M_;clear D_ G_ M_;obtain ⟨zp0,zp1⟩ := cells_2 D.out.h1;obtain ⟨zb0,zb1,zb2⟩ := cells_3 D.out.h2;obtain ⟨zc0,zc1,zc2⟩ := cells_3 D.out.h3;obtain ⟨zd0,zd1⟩ := cells_2 D.out.h4;obtain ⟨ze0,ze1⟩ := cells_2 D.out.h5;obtain ⟨zf0,zf1⟩ := cells_2 D.out.h6;obtain ⟨ye0,ye1⟩ := froz_2 D.out.h5;obtain ⟨yf0,yf1⟩ := froz_2 D.out.h6;have ZP := cells_2a D.out.h1;have ZC := cells_3a D.out.h3;have ZD := cells_2a D.out.h4;have ZE := cells_2a D.out.h5;have ZF := cells_2a D.out.h6;have YE := froz_2a D.out.h5;have YF := froz_2a D.out.h6;obtain ⟨zm0,zm1⟩ := cells_2 G.out;obtain ⟨ym0,ym1⟩ := froz_2 G.out;have ZM := cells_2a G.out))
     obtain ⟨g,rfl⟩ : ∃ g,gk = g + 1 := ⟨gk - 1,by omega⟩
     go_roundg g
     case rel => exact ⟨i + 1,withM x.f2 x.f3 acc,_,wi i (by have := HRL.out;have := HIL.out;omega),by omega,⟨by have := HAL.out;have := withM_len x.f2 x.f3 acc;omega⟩,HF,⟨(M.out.far G.out (by decide) 0 _).far (blk_put G.out 0 _ rfl) (by decide) 1 _⟩,⟨blk_put (blk_put G.out 0 _ rfl) 1 _ rfl⟩,⟨(D.out.far HG10.out 0 _).far HG10.out 1 _⟩⟩
     case measure => omega
    ·have e1 : (x.f0 == 3) = false := beq_eq_false_iff_ne.mpr k
     rw [if_neg k] at hf
     have HF := aS hf
     clear hf k
     go_wp2
     obtain ⟨g,rfl⟩ : ∃ g,gk = g + 1 := ⟨gk - 1,by omega⟩
     go_roundg g
     case rel => exact ⟨i + 1,acc,_,wi i (by have := HRL.out;have := HXL.out;have := HIL.out;omega),by omega,⟨by have := HAL.out;omega⟩,HF,⟨M.out.step (bO _)⟩,⟨blk_alloc G.out _⟩,⟨D.out.step (bO _)⟩⟩
     case measure => omega
   ·have e0 : decide ((i : Int) < rs.length) = false := d_F (by omega)
    have hf := HF.out
    rw [List.drop_of_length_le (by omega),constS] at hf
    clear HF
    have HF := aS hf
    clear hf
    go_wp2
    go_loopg [78] xs.length (fun g v78 w' => ∃ (i : Nat) (acc : List S63) (v : Value),v78 = .int .i64 i ∧ i + g = xs.length ∧ Aside0 (acc.length ≤ rs.length + i) ∧ Aside0 (transL l2 rs (xs.drop i) acc = transL l2 rs xs (constS rs [])) ∧ Aside0 (MsgAt w' v acc) ∧ Aside0 (w'.heap[w3.heap.size]? = some (.cells #[.string t,v] 42 (0,0))) ∧ Aside0 (Box6 w w' (.cells #[.slice Am ms.length cm,.slice Ar rs.length cr] 28) (.cells #[.int .i64 st1,.int .i64 ver1,.slice A1 l1.length c1] 24) (.cells #[.int .i64 st2,.int .i64 ver2,.slice A2 l2.length c2] 24) (.cells #[.string m,.slice Ax xs.length cx] 42) (.cells #[.string ⟨#[]⟩,.slice none 0 0] 42) (.cells #[.int .i64 0,.int .i64 0] 45)))
    case atStart => exact ⟨0,acc,_,rfl,Nat.zero_add _,⟨by have := HAL.out;omega⟩,⟨by rw [HF.out];rfl⟩,M,G,D⟩
    case round =>
     clear D G M HF HAL HCv hcv
     obtain ⟨i,acc,v,rfl,hi,HAL,HF,M,G,D⟩ := hrel
     have HIL : Aside0 (i ≤ xs.length) := ⟨by omega⟩
     obtain ⟨Av,cv,hv0,hcv0,_⟩ := M.out.reads (by have := HAL.out;have := HRL.out;have := HXL.out;have := HIL.out;omega)
     subst hv0
     have hcv := aS hcv0
     have HCv : Aside0 (∀ {W : World},MsgAt W (.slice Av acc.length cv) acc → Kd.C k63 W Av acc.length acc) := ⟨fun h => by obtain ⟨A',c',e',_,hC⟩ := h.reads (by have := HAL.out;have := HRL.out;have := HXL.out;have := HIL.out;omega);cases e';exact hC⟩
     clear hcv0
     obtain ⟨zp0,zp1⟩ := cells_2 D.out.h1
     obtain ⟨zb0,zb1,zb2⟩ := cells_3 D.out.h2
     obtain ⟨zc0,zc1,zc2⟩ := cells_3 D.out.h3
     obtain ⟨zd0,zd1⟩ := cells_2 D.out.h4
     obtain ⟨ze0,ze1⟩ := cells_2 D.out.h5
     obtain ⟨zf0,zf1⟩ := cells_2 D.out.h6
     obtain ⟨ye0,ye1⟩ := froz_2 D.out.h5
     obtain ⟨yf0,yf1⟩ := froz_2 D.out.h6
     have ZP := cells_2a D.out.h1
     have ZC := cells_3a D.out.h3
     have ZD := cells_2a D.out.h4
     have ZE := cells_2a D.out.h5
     have ZF := cells_2a D.out.h6
     have YE := froz_2a D.out.h5
     have YF := froz_2a D.out.h6
     obtain ⟨zm0,zm1⟩ := cells_2 G.out
     obtain ⟨ym0,ym1⟩ := froz_2 G.out
     have ZM := cells_2a G.out
     by_cases h : i < xs.length
     ·have e0 : decide ((i : Int) < xs.length) = true := d_T (by omega)
      obtain ⟨ad,rfl,hx0,hx1⟩ := at63 HRx.out D.out.below i h
      have q0 : (0 ≤ (i : Int)) = True := eq_true (by omega)
      have q1 : ((i : Int) < xs.length) = True := eq_true (by omega)
      have hf := HF.out
      rw [drop63 h,transL] at hf
      clear HF
      have hxm := rd_mem63 h
      generalize rd_T63 xs (i : Int) = x at *
      obtain ⟨ru,ok,hru⟩ : ∃ ru ok,ruleS x.f0 rs = (ru,ok) := ⟨_,_,rfl⟩
      rw [hru] at hf
      cases ok with
      | false =>
       rw [if_pos rfl] at hf
       rw [← hf,if_pos (by simp)] at hg
       have HG := aS hg
       clear hg hf hxm
       have n1 := ne4 (blk_lt D.out.h6)
       have n2 := ne5 (blk_lt D.out.h6)
       have n3 := ne4' (blk_lt D.out.h6)
       have n4 := ne5' (blk_lt D.out.h6)
       go_wp2_with (first | (go_at_call 42;refine (xlate_find.at _ Ar cr rs x.f0 _ (by have := HRL.out;omega) (c_B HRr.out (b_l D.out.below _)) HCr.out ⟨_,_,_,rfl⟩).mono ?_;rintro e w4 ⟨⟨B4,d4,rfl,hB4,hC4⟩,hb0⟩;rw [hru] at hB4 hC4 ⊢;have hb1 := below_a1 hb0;have B20 := aS (blk_nb hb0);have HB4 := aS hB4;have HC4 := aS (c_B hC4 hb0);have D_ := aS (D.out.step hb1);have G_ := aS (k_B G.out hb1);have M_ := aS (M.out.step hb1);clear zp0 zp1 zb0 zb1 zb2 zc0 zc1 zc2 zd0 zd1 ze0 ze1 zf0 zf1 ye0 ye1 yf0 yf1 ZP ZC ZD ZE ZF YE YF;clear zm0 zm1 ym0 ym1 ZM;clear D G M;have D := D_;have G := G_;have M := M_;clear D_ G_ M_;obtain ⟨zp0,zp1⟩ := cells_2 D.out.h1;obtain ⟨zb0,zb1,zb2⟩ := cells_3 D.out.h2;obtain ⟨zc0,zc1,zc2⟩ := cells_3 D.out.h3;obtain ⟨zd0,zd1⟩ := cells_2 D.out.h4;obtain ⟨ze0,ze1⟩ := cells_2 D.out.h5;obtain ⟨zf0,zf1⟩ := cells_2 D.out.h6;obtain ⟨ye0,ye1⟩ := froz_2 D.out.h5;obtain ⟨yf0,yf1⟩ := froz_2 D.out.h6;have ZP := cells_2a D.out.h1;have ZC := cells_3a D.out.h3;have ZD := cells_2a D.out.h4;have ZE := cells_2a D.out.h5;have ZF := cells_2a D.out.h6;have YE := froz_2a D.out.h5;have YF := froz_2a D.out.h6;obtain ⟨zm0,zm1⟩ := cells_2 G.out;obtain ⟨ym0,ym1⟩ := froz_2 G.out;have ZM := cells_2a G.out;obtain ⟨zx0,zx1⟩ := cells_2 B20.out;have ZX := cells_2a B20.out;clear hb0 hb1 hB4 hC4;simp only [v94]))
       go_region
       all_goals go_wp2
       all_goals obtain ⟨z1,z2,z3⟩ := Box6.fin (Box6.step D.out (b_l (Below.refl _ _) (.cells #[.int .i64 ru.f0,.int .i64 ru.f1,.int .i64 ru.f2,.string ru.f3,.slice B4 ru.f4.length d4] 94))) (.string ⟨#[]⟩) (.slice none 0 0) (.int .i64 9) (.int .i64 x.f0)
       all_goals refine bodyPost_ret (results_cc rfl _ _ (w.heap.size + 1 + 1 + 1 + 1) (w.heap.size + 1 + 1 + 1 + 1 + 1) 42 45 _ _ (0,0) (0,0) _ _ rfl z1 hu42 rfl (by kernel_rfl) rfl z2 hu45 rfl (by kernel_rfl)) rfl ?_
       all_goals obtain rfl := HG.out
       all_goals exact ⟨⟨none,0,rfl,Nat.le_refl _,Kd.C_nil _ _,.inl ⟨rfl,rfl⟩⟩,by first | exact z3 | exact below_drew1 z3⟩
      | true =>
       rw [if_neg (by simp)] at hf
       obtain ⟨hoka,hrul⟩ := HAP.out x hxm ru hru
       have HOKA := aS hoka
       have HRUL := aS hrul
       obtain ⟨y,ye,hap2⟩ : ∃ y ye,applyS l2 ru x.f1 = (y,ye) := ⟨_,_,rfl⟩
       simp only [hap2] at hf
       clear hoka hrul hxm
       by_cases k1 : ye = 0
       ·have e1 : (ye != 0) = false := bne_eq_false_iff_eq.mpr k1
        rw [if_neg (by simpa using k1)] at hf
        clear k1
        by_cases k2 : y.f0 = 0
        ·have e2 : (y.f0 != 0) = false := bne_eq_false_iff_eq.mpr k2
         rw [if_neg (by simpa using k2)] at hf
         have HF := aS hf
         clear hf k2
         go_wp2_with (first | (go_at_call 42;refine (xlate_find.at _ Ar cr rs x.f0 _ (by have := HRL.out;omega) (c_B HRr.out (b_l D.out.below _)) HCr.out ⟨_,_,_,rfl⟩).mono ?_;rintro e w4 ⟨⟨B4,d4,rfl,hB4,hC4⟩,hb0⟩;rw [hru] at hB4 hC4 ⊢;have hb1 := below_a1 hb0;have B20 := aS (blk_nb hb0);have HB4 := aS hB4;have HC4 := aS (c_B hC4 hb0);have D_ := aS (D.out.step hb1);have G_ := aS (k_B G.out hb1);have M_ := aS (M.out.step hb1);clear zp0 zp1 zb0 zb1 zb2 zc0 zc1 zc2 zd0 zd1 ze0 ze1 zf0 zf1 ye0 ye1 yf0 yf1 ZP ZC ZD ZE ZF YE YF;clear zm0 zm1 ym0 ym1 ZM;clear D G M;have D := D_;have G := G_;have M := M_;clear D_ G_ M_;obtain ⟨zp0,zp1⟩ := cells_2 D.out.h1;obtain ⟨zb0,zb1,zb2⟩ := cells_3 D.out.h2;obtain ⟨zc0,zc1,zc2⟩ := cells_3 D.out.h3;obtain ⟨zd0,zd1⟩ := cells_2 D.out.h4;obtain ⟨ze0,ze1⟩ := cells_2 D.out.h5;obtain ⟨zf0,zf1⟩ := cells_2 D.out.h6;obtain ⟨ye0,ye1⟩ := froz_2 D.out.h5;obtain ⟨yf0,yf1⟩ := froz_2 D.out.h6;have ZP := cells_2a D.out.h1;have ZC := cells_3a D.out.h3;have ZD := cells_2a D.out.h4;have ZE := cells_2a D.out.h5;have ZF := cells_2a D.out.h6;have YE := froz_2a D.out.h5;have YF := froz_2a D.out.h6;obtain ⟨zm0,zm1⟩ := cells_2 G.out;obtain ⟨ym0,ym1⟩ := froz_2 G.out;have ZM := cells_2a G.out;obtain ⟨zx0,zx1⟩ := cells_2 B20.out;have ZX := cells_2a B20.out;clear hb0 hb1 hB4 hC4;simp only [v94]) | (go_at_call 43;refine (rule_Apply.at ru B4 d4 st2 ver2 A2 c2 l2 x.f1 _ hl2 (c_B HR2.out (b_l D.out.below _)) HC2.out HRUL.out (Kd.C_alloc HC4.out _) HB4.out HOKA.out).mono ?_;rintro e w5 ⟨rfl,hb0⟩;rw [hap2];have hb1 := below_a1 hb0;have B20_ := aS (k_B B20.out hb1);clear B20 zx0 zx1 ZX HC4 HB4;have B20 := B20_;clear B20_;have D_ := aS (D.out.step hb1);have G_ := aS (k_B G.out hb1);have M_ := aS (M.out.step hb1);clear zp0 zp1 zb0 zb1 zb2 zc0 zc1 zc2 zd0 zd1 ze0 ze1 zf0 zf1 ye0 ye1 yf0 yf1 ZP ZC ZD ZE ZF YE YF;clear zm0 zm1 ym0 ym1 ZM;clear D G M;have D := D_;have G := G_;have M := M_;clear D_ G_ M_;obtain ⟨zp0,zp1⟩ := cells_2 D.out.h1;obtain ⟨zb0,zb1,zb2⟩ := cells_3 D.out.h2;obtain ⟨zc0,zc1,zc2⟩ := cells_3 D.out.h3;obtain ⟨zd0,zd1⟩ := cells_2 D.out.h4;obtain ⟨ze0,ze1⟩ := cells_2 D.out.h5;obtain ⟨zf0,zf1⟩ := cells_2 D.out.h6;obtain ⟨ye0,ye1⟩ := froz_2 D.out.h5;obtain ⟨yf0,yf1⟩ := froz_2 D.out.h6;have ZP := cells_2a D.out.h1;have ZC := cells_3a D.out.h3;have ZD := cells_2a D.out.h4;have ZE := cells_2a D.out.h5;have ZF := cells_2a D.out.h6;have YE := froz_2a D.out.h5;have YF := froz_2a D.out.h6;obtain ⟨zm0,zm1⟩ := cells_2 G.out;obtain ⟨ym0,ym1⟩ := froz_2 G.out;have ZM := cells_2a G.out;obtain ⟨zx0,zx1⟩ := cells_2 B20.out;have ZX := cells_2a B20.out;clear hb0 hb1))
         obtain ⟨g,rfl⟩ : ∃ g,gk = g + 1 := ⟨gk - 1,by omega⟩
         go_roundg g
         case rel => exact ⟨i + 1,acc,_,wi i (by have := HRL.out;have := HXL.out;have := HIL.out;omega),by omega,⟨by have := HAL.out;omega⟩,HF,⟨M.out.step (bO _)⟩,⟨blk_alloc G.out _⟩,⟨D.out.step (bO _)⟩⟩
         case measure => omega
        ·have e2 : (y.f0 != 0) = true := bne_iff_ne.mpr k2
         rw [if_pos k2] at hf
         have HF := aS hf
         clear hf k2
         go_wp2_with (first | (go_at_call 42;refine (xlate_find.at _ Ar cr rs x.f0 _ (by have := HRL.out;omega) (c_B HRr.out (b_l D.out.below _)) HCr.out ⟨_,_,_,rfl⟩).mono ?_;rintro e w4 ⟨⟨B4,d4,rfl,hB4,hC4⟩,hb0⟩;rw [hru] at hB4 hC4 ⊢;have hb1 := below_a1 hb0;have B20 := aS (blk_nb hb0);have HB4 := aS hB4;have HC4 := aS (c_B hC4 hb0);have D_ := aS (D.out.step hb1);have G_ := aS (k_B G.out hb1);have M_ := aS (M.out.step hb1);clear zp0 zp1 zb0 zb1 zb2 zc0 zc1 zc2 zd0 zd1 ze0 ze1 zf0 zf1 ye0 ye1 yf0 yf1 ZP ZC ZD ZE ZF YE YF;clear zm0 zm1 ym0 ym1 ZM;clear D G M;have D := D_;have G := G_;have M := M_;clear D_ G_ M_;obtain ⟨zp0,zp1⟩ := cells_2 D.out.h1;obtain ⟨zb0,zb1,zb2⟩ := cells_3 D.out.h2;obtain ⟨zc0,zc1,zc2⟩ := cells_3 D.out.h3;obtain ⟨zd0,zd1⟩ := cells_2 D.out.h4;obtain ⟨ze0,ze1⟩ := cells_2 D.out.h5;obtain ⟨zf0,zf1⟩ := cells_2 D.out.h6;obtain ⟨ye0,ye1⟩ := froz_2 D.out.h5;obtain ⟨yf0,yf1⟩ := froz_2 D.out.h6;have ZP := cells_2a D.out.h1;have ZC := cells_3a D.out.h3;have ZD := cells_2a D.out.h4;have ZE := cells_2a D.out.h5;have ZF := cells_2a D.out.h6;have YE := froz_2a D.out.h5;have YF := froz_2a D.out.h6;obtain ⟨zm0,zm1⟩ := cells_2 G.out;obtain ⟨ym0,ym1⟩ := froz_2 G.out;have ZM := cells_2a G.out;obtain ⟨zx0,zx1⟩ := cells_2 B20.out;have ZX := cells_2a B20.out;clear hb0 hb1 hB4 hC4;simp only [v94]) | (go_at_call 43;refine (rule_Apply.at ru B4 d4 st2 ver2 A2 c2 l2 x.f1 _ hl2 (c_B HR2.out (b_l D.out.below _)) HC2.out HRUL.out (Kd.C_alloc HC4.out _) HB4.out HOKA.out).mono ?_;rintro e w5 ⟨rfl,hb0⟩;rw [hap2];have hb1 := below_a1 hb0;have B20_ := aS (k_B B20.out hb1);clear B20 zx0 zx1 ZX HC4 HB4;have B20 := B20_;clear B20_;have D_ := aS (D.out.step hb1);have G_ := aS (k_B G.out hb1);have M_ := aS (M.out.step hb1);clear zp0 zp1 zb0 zb1 zb2 zc0 zc1 zc2 zd0 zd1 ze0 ze1 zf0 zf1 ye0 ye1 yf0 yf1 ZP ZC ZD ZE ZF YE YF;clear zm0 zm1 ym0 ym1 ZM;clear D G M;have D := D_;have G := G_;have M := M_;clear D_ G_ M_;obtain ⟨zp0,zp1⟩ := cells_2 D.out.h1;obtain ⟨zb0,zb1,zb2⟩ := cells_3 D.out.h2;obtain ⟨zc0,zc1,zc2⟩ := cells_3 D.out.h3;obtain ⟨zd0,zd1⟩ := cells_2 D.out.h4;obtain ⟨ze0,ze1⟩ := cells_2 D.out.h5;obtain ⟨zf0,zf1⟩ := cells_2 D.out.h6;obtain ⟨ye0,ye1⟩ := froz_2 D.out.h5;obtain ⟨yf0,yf1⟩ := froz_2 D.out.h6;have ZP := cells_2a D.out.h1;have ZC := cells_3a D.out.h3;have ZD := cells_2a D.out.h4;have ZE := cells_2a D.out.h5;have ZF := cells_2a D.out.h6;have YE := froz_2a D.out.h5;have YF := froz_2a D.out.h6;obtain ⟨zm0,zm1⟩ := cells_2 G.out;obtain ⟨ym0,ym1⟩ := froz_2 G.out;have ZM := cells_2a G.out;obtain ⟨zx0,zx1⟩ := cells_2 B20.out;have ZX := cells_2a B20.out;clear hb0 hb1) | (go_at_call 41;refine (msg_With.at t Av cv acc y.f0 y.f1 _ (by have := HAL.out;have := HRL.out;have := HXL.out;omega) (HCv.out (M.out.step (b_l (Below.refl _ _) (.cells #[.int .i64 y.f0,.string y.f1] 63)))) hcv.out).mono ?_;rintro e w6 ⟨⟨g4,rfl,hg4,hG4⟩,hb0⟩;have hb1 := below_a1 hb0;have M_ : Aside0 (MsgAt w6 (.slice (some ⟨g4,0,none⟩) (withM y.f0 y.f1 acc).length (withM y.f0 y.f1 acc).length) (withM y.f0 y.f1 acc)) := ⟨.inr ⟨g4,rfl,hG4⟩⟩;have D_ := aS (D.out.step hb1);have G_ := aS (k_B G.out hb1);clear zp0 zp1 zb0 zb1 zb2 zc0 zc1 zc2 zd0 zd1 ze0 ze1 zf0 zf1 ye0 ye1 yf0 yf1 ZP ZC ZD ZE ZF YE YF;clear zm0 zm1 ym0 ym1 ZM;clear D G M hb0 hb1 hg4 hG4;have D := D_;have G := G_;have M := M_;clear D_ G_ M_;obtain ⟨zp0,zp1⟩ := cells_2 D.out.h1;obtain ⟨zb0,zb1,zb2⟩ := cells_3 D.out.h2;obtain ⟨zc0,zc1,zc2⟩ := cells_3 D.out.h3;obtain ⟨zd0,zd1⟩ := cells_2 D.out.h4;obtain ⟨ze0,ze1⟩ := cells_2 D.out.h5;obtain ⟨zf0,zf1⟩ := cells_2 D.out.h6;obtain ⟨ye0,ye1⟩ := froz_2 D.out.h5;obtain ⟨yf0,yf1⟩ := froz_2 D.out.h6;have ZP := cells_2a D.out.h1;have ZC := cells_3a D.out.h3;have ZD := cells_2a D.out.h4;have ZE := cells_2a D.out.h5;have ZF := cells_2a D.out.h6;have YE := froz_2a D.out.h5;have YF := froz_2a D.out.h6;obtain ⟨zm0,zm1⟩ := cells_2 G.out;obtain ⟨ym0,ym1⟩ := froz_2 G.out;have ZM := cells_2a G.out))
         obtain ⟨g,rfl⟩ : ∃ g,gk = g + 1 := ⟨gk - 1,by omega⟩
         go_roundg g
         case rel => exact ⟨i + 1,withM y.f0 y.f1 acc,_,wi i (by have := HXL.out;have := HIL.out;omega),by omega,⟨by have := HAL.out;have := withM_len y.f0 y.f1 acc;omega⟩,HF,⟨(M.out.far G.out (by decide) 0 _).far (blk_put G.out 0 _ rfl) (by decide) 1 _⟩,⟨blk_put (blk_put G.out 0 _ rfl) 1 _ rfl⟩,⟨(D.out.far HG10.out 0 _).far HG10.out 1 _⟩⟩
         case measure => omega
       ·have e1 : (ye != 0) = true := bne_iff_ne.mpr k1
        rw [if_pos k1] at hf
        rw [← hf,if_pos (by simpa using k1)] at hg
        have HG := aS hg
        clear hg hf k1
        have n1 := ne4 (blk_lt D.out.h6)
        have n2 := ne5 (blk_lt D.out.h6)
        have n3 := ne4' (blk_lt D.out.h6)
        have n4 := ne5' (blk_lt D.out.h6)
        go_wp2_with (first | (go_at_call 42;refine (xlate_find.at _ Ar cr rs x.f0 _ (by have := HRL.out;omega) (c_B HRr.out (b_l D.out.below _)) HCr.out ⟨_,_,_,rfl⟩).mono ?_;rintro e w4 ⟨⟨B4,d4,rfl,hB4,hC4⟩,hb0⟩;rw [hru] at hB4 hC4 ⊢;have hb1 := below_a1 hb0;have B20 := aS (blk_nb hb0);have HB4 := aS hB4;have HC4 := aS (c_B hC4 hb0);have D_ := aS (D.out.step hb1);have G_ := aS (k_B G.out hb1);have M_ := aS (M.out.step hb1);clear zp0 zp1 zb0 zb1 zb2 zc0 zc1 zc2 zd0 zd1 ze0 ze1 zf0 zf1 ye0 ye1 yf0 yf1 ZP ZC ZD ZE ZF YE YF;clear zm0 zm1 ym0 ym1 ZM;clear D G M;have D := D_;have G := G_;have M := M_;clear D_ G_ M_;obtain ⟨zp0,zp1⟩ := cells_2 D.out.h1;obtain ⟨zb0,zb1,zb2⟩ := cells_3 D.out.h2;obtain ⟨zc0,zc1,zc2⟩ := cells_3 D.out.h3;obtain ⟨zd0,zd1⟩ := cells_2 D.out.h4;obtain ⟨ze0,ze1⟩ := cells_2 D.out.h5;obtain ⟨zf0,zf1⟩ := cells_2 D.out.h6;obtain ⟨ye0,ye1⟩ := froz_2 D.out.h5;obtain ⟨yf0,yf1⟩ := froz_2 D.out.h6;have ZP := cells_2a D.out.h1;have ZC := cells_3a D.out.h3;have ZD := cells_2a D.out.h4;have ZE := cells_2a D.out.h5;have ZF := cells_2a D.out.h6;have YE := froz_2a D.out.h5;have YF := froz_2a D.out.h6;obtain ⟨zm0,zm1⟩ := cells_2 G.out;obtain ⟨ym0,ym1⟩ := froz_2 G.out;have ZM := cells_2a G.out;obtain ⟨zx0,zx1⟩ := cells_2 B20.out;have ZX := cells_2a B20.out;clear hb0 hb1 hB4 hC4;simp only [v94]) | (go_at_call 43;refine (rule_Apply.at ru B4 d4 st2 ver2 A2 c2 l2 x.f1 _ hl2 (c_B HR2.out (b_l D.out.below _)) HC2.out HRUL.out (Kd.C_alloc HC4.out _) HB4.out HOKA.out).mono ?_;rintro e w5 ⟨rfl,hb0⟩;rw [hap2];have hb1 := below_a1 hb0;have B20_ := aS (k_B B20.out hb1);clear B20 zx0 zx1 ZX HC4 HB4;have B20 := B20_;clear B20_;have D_ := aS (D.out.step hb1);have G_ := aS (k_B G.out hb1);have M_ := aS (M.out.step hb1);clear zp0 zp1 zb0 zb1 zb2 zc0 zc1 zc2 zd0 zd1 ze0 ze1 zf0 zf1 ye0 ye1 yf0 yf1 ZP ZC ZD ZE ZF YE YF;clear zm0 zm1 ym0 ym1 ZM;clear D G M;have D := D_;have G := G_;have M := M_;clear D_ G_ M_;obtain ⟨zp0,zp1⟩ := cells_2 D.out.h1;obtain ⟨zb0,zb1,zb2⟩ := cells_3 D.out.h2;obtain ⟨zc0,zc1,zc2⟩ := cells_3 D.out.h3;obtain ⟨zd0,zd1⟩ := cells_2 D.out.h4;obtain ⟨ze0,ze1⟩ := cells_2 D.out.h5;obtain ⟨zf0,zf1⟩ := cells_2 D.out.h6;obtain ⟨ye0,ye1⟩ := froz_2 D.out.h5;obtain ⟨yf0,yf1⟩ := froz_2 D.out.h6;have ZP := cells_2a D.out.h1;have ZC := cells_3a D.out.h3;have ZD := cells_2a D.out.h4;have ZE := cells_2a D.out.h5;have ZF := cells_2a D.out.h6;have YE := froz_2a D.out.h5;have YF := froz_2a D.out.h6;obtain ⟨zm0,zm1⟩ := cells_2 G.out;obtain ⟨ym0,ym1⟩ := froz_2 G.out;have ZM := cells_2a G.out;obtain ⟨zx0,zx1⟩ := cells_2 B20.out;have ZX := cells_2a B20.out;clear hb0 hb1))
        go_region
        all_goals go_wp2
        all_goals obtain ⟨z1,z2,z3⟩ := Box6.fin (Box6.step D.out (b_l (Below.refl _ _) (.cells #[.int .i64 y.f0,.string y.f1] 63))) (.string ⟨#[]⟩) (.slice none 0 0) (.int .i64 ye) (.int .i64 x.f0)
        all_goals refine bodyPost_ret (results_cc rfl _ _ (w.heap.size + 1 + 1 + 1 + 1) (w.heap.size + 1 + 1 + 1 + 1 + 1) 42 45 _ _ (0,0) (0,0) _ _ rfl z1 hu42 rfl (by kernel_rfl) rfl z2 hu45 rfl (by kernel_rfl)) rfl ?_
        all_goals obtain rfl := HG.out
        all_goals exact ⟨⟨none,0,rfl,Nat.le_refl _,Kd.C_nil _ _,.inl ⟨rfl,rfl⟩⟩,by first | exact z3 | exact below_drew1 z3⟩
     ·have e0 : decide ((i : Int) < xs.length) = false := d_F (by omega)
      have hf := HF.out
      rw [List.drop_of_length_le (by omega),transL] at hf
      rw [← hf,if_neg (by simp)] at hg
      have HG := aS hg
      clear hf hg
      go_wp2
      obtain ⟨z1,z2,z3⟩ := Box6.fin D.out (.string t) (.slice Av acc.length cv) (.int .i64 0) (.int .i64 0)
      refine bodyPost_ret (results_cc rfl _ _ (w.heap.size + 1 + 1 + 1 + 1) (w.heap.size + 1 + 1 + 1 + 1 + 1) 42 45 _ _ (0,0) (0,0) _ _ rfl z1 hu42 rfl (by kernel_rfl) rfl z2 hu45 rfl (by kernel_rfl)) rfl ?_
      obtain rfl := HG.out
      have M4 := (((M.out.far D.out.h5 (by decide) 0 (.string t)).far (blk_put D.out.h5 0 _ rfl) (by decide) 1 (.slice Av acc.length cv)))
      have M5 := M4.far (T.far _ _ (T.far _ _ D.out.h6 (by show w.heap.size + 1 + 1 + 1 + 1 + 1 ≠ w.heap.size + 1 + 1 + 1 + 1;omega)) (by show w.heap.size + 1 + 1 + 1 + 1 + 1 ≠ w.heap.size + 1 + 1 + 1 + 1;omega)) (by decide) 0 (.int .i64 0)
      have M6 := M5.far (blk_put (T.far _ _ (T.far _ _ D.out.h6 (by show w.heap.size + 1 + 1 + 1 + 1 + 1 ≠ w.heap.size + 1 + 1 + 1 + 1;omega)) (by show w.heap.size + 1 + 1 + 1 + 1 + 1 ≠ w.heap.size + 1 + 1 + 1 + 1;omega)) 0 _ rfl) (by decide) 1 (.int .i64 0)
      exact ⟨⟨Av,cv,rfl,hcv.out,HCv.out M6,M6⟩,z3⟩
theorem bytes0 (a b : ByteArray) : [] ++ Lib.strCells a ++ Lib.strCells b = Lib.byteCells (a ++ b).data.toList := by rw [app_data];simp [Lib.byteCells,Lib.strCells]
set_option maxHeartbeats 4000000 in
theorem wire_Encode.at (st ver : Int) (A : Option Addr) (c : Nat) (l : List S87) (m : ByteArray) (A2 : Option Addr) (c2 : Nat) (xs : List S63) (w : World) (hl : l.length ≤ 4611686018427387904) (hr : Kd.C k87 w A l.length l) (hc : l.length ≤ c) (hl2 : xs.length ≤ 1000000) (hr2 : Kd.C k63 w A2 xs.length xs) (hc2 : xs.length ≤ c2) (hm : msgOk st ver l m xs = true) :
  Calls prog 12 #[.agg #[.int .i64 st,.int .i64 ver,.slice A l.length c],.agg #[.string m,.slice A2 xs.length c2]] w fun e w' => e = .returned (.tuple #[.string (encS st l m xs),.agg #[.int .i64 0,.int .i64 0]]) ∧ Below w.heap.size w w' := by
 have hu24 := underlying24
 have hu42 := underlying42
 have hu45 := underlying45
 have hu63 := underlying63
 have hu82 := underlying82
 have hu87 := underlying87
 have HR := aS hr
 have HC := aS hc
 have HR2 := aS hr2
 have HC2 := aS hc2
 have HX := aS hl2
 have hm' := hm
 unfold msgOk at hm'
 simp only [Bool.and_eq_true,decide_eq_true_eq] at hm'
 obtain ⟨hs,hv,hok⟩ := hm'
 obtain ⟨hst,hver,hall⟩ := schemaCheck_ok hs
 have hmt : isMti m = true := by
  unfold verV at hv
  split at hv
  ·assumption
  ·cases hv
 have HMT := aS hmt
 have HTS : Aside0 ((typP st m).size ≤ 1000) := ⟨typP_size st m hmt⟩
 have hmem := fieldsOk_memE hall xs 0 hok
 have hin := setS_in xs (0,0) ⟨0,0,rfl,by decide,by decide⟩ (fun x hx => (hmem x hx).1)
 obtain ⟨p,hset⟩ : ∃ p,setS xs (0,0) = p := ⟨_,rfl⟩
 rw [hset] at hin
 have HN1 : Aside0 (hasS p 1 = false) := ⟨InR_no1 hin⟩
 have HSR : Aside0 ((0 ≤ p.1 ∧ p.1 < 18446744073709551616) ∧ (0 ≤ p.2 ∧ p.2 < 18446744073709551616)) := ⟨by obtain ⟨a,b,rfl,h1,h2⟩ := hin;exact ⟨⟨by simp,by simp;omega⟩,⟨by simp,by simp;omega⟩⟩⟩
 have HOK := aS hok
 have HALL := aS hall
 have HM := aS hm
 obtain ⟨r,hg⟩ : ∃ r,encS st l m xs = r := ⟨_,rfl⟩
 rw [hg]
 rw [encS,hset] at hg
 have HG := aS hg
 clear hr hc hr2 hc2 hl2 hs hv hok hall hmt hmem hin hg hver
 go_enter func12,ntmps12
 go_wp2_with (first | (go_at_call 39;refine (msg_Check.at st ver A c l m A2 c2 xs _ hl (c_B HR.out (Box3.start w _ _ _).below) HC.out (by have := HX.out;omega) (c_B HR2.out (Box3.start w _ _ _).below) HC2.out hm).mono ?_;rintro e w1 ⟨rfl,hb1⟩;have D := aS (Box3.init hb1);clear hb1;obtain ⟨a0,a1,a2⟩ := cells_3 D.out.h1;obtain ⟨b0,b1⟩ := cells_2 D.out.h2;have AA := cells_3a D.out.h1;have BA := cells_2a D.out.h2;have AA2 := fun o p => cells_3 (blk_alloc (blk_alloc D.out.h1 o) p);have BA2 := fun o p => cells_2 (blk_alloc (blk_alloc D.out.h2 o) p)) | (go_at_call 46;refine (wire_Type.at _ _ _ hst HMT.out).mono ?_;rintro e w2 ⟨⟨ok,rfl⟩,hb1⟩;have D_ := aS ((EncW.init D.out).step hb1);clear D a0 a1 a2 b0 b1 AA BA AA2 BA2 hb1;have D := D_;clear D_;obtain ⟨a0,a1,a2⟩ := cells_3 D.out.b2;obtain ⟨b0,b1⟩ := cells_2 D.out.b3;have AA := cells_3a D.out.b2;have BA := cells_2a D.out.b3) | (go_at_call 44;refine (wire_put.at _ _ _ _ D.out.bld (by have := HTS.out;simp;omega) D.out.le).mono ?_;rintro e w3 ⟨rfl,hn,hb1⟩;have D_ := aS (D.out.put hb1 hn);clear a0 a1 a2 b0 b1 AA BA;clear D;have D := D_;clear D_;obtain ⟨a0,a1,a2⟩ := cells_3 D.out.b2;obtain ⟨b0,b1⟩ := cells_2 D.out.b3;have AA := cells_3a D.out.b2;have BA := cells_2a D.out.b3;clear hb1 hn))
 go_region_with (first | (go_at_call 48;refine (msg_Set.at m A2 c2 xs _ (by have := HX.out;omega) (c_B HR2.out (by repeat (first | exact D.out.below | apply below_drew1))) HC2.out).mono ?_;rintro e w4 ⟨rfl,hb1⟩;rw [hset];have D_ := aS (D.out.step (by first | exact hb1 | exact b_s (below_drew1 (Below.refl _ _)) hb1));clear a0 a1 a2 b0 b1 AA BA;clear D;have D := D_;clear D_;obtain ⟨a0,a1,a2⟩ := cells_3 D.out.b2;obtain ⟨b0,b1⟩ := cells_2 D.out.b3;have AA := cells_3a D.out.b2;have BA := cells_2a D.out.b3;clear hb1) | (go_at_call 47;refine (bitmap_Put.at _ p _ hst HN1.out HSR.out).mono ?_;rintro e w5 ⟨rfl,hb1⟩;have D_ := aS (D.out.step (by first | exact hb1 | exact b_s (below_drew1 (Below.refl _ _)) hb1));clear a0 a1 a2 b0 b1 AA BA;clear D;have D := D_;clear D_;obtain ⟨a0,a1,a2⟩ := cells_3 D.out.b2;obtain ⟨b0,b1⟩ := cells_2 D.out.b3;have AA := cells_3a D.out.b2;have BA := cells_2a D.out.b3;clear hb1))
 all_goals go_wp2_with (first | (go_at_call 44;refine (wire_put.at _ _ _ _ D.out.bld ?ln D.out.le).mono ?_;(case ln => have := HTS.out;have := bmP_size st p;simp [Lib.strCells_length];omega);rintro e w6 ⟨rfl,hn,hb1⟩;have D_ := aS (D.out.put hb1 hn);clear a0 a1 a2 b0 b1 AA BA;clear D;have D := D_;clear D_;obtain ⟨a0,a1,a2⟩ := cells_3 D.out.b2;obtain ⟨b0,b1⟩ := cells_2 D.out.b3;have AA := cells_3a D.out.b2;have BA := cells_2a D.out.b3;clear hb1 hn))
 all_goals
  rw [bytes0] at D
  have HS0 : Aside0 ((typP st m ++ bmP st p).size ≤ 3000000) := ⟨by rw [app_size];have := HTS.out;have := bmP_size st p;omega⟩
  clear a0 a1 a2 b0 b1 AA BA
  go_loopg [52] xs.length (fun g v52 w' => ∃ (i : Nat) (acc : ByteArray),v52 = .int .i64 i ∧ i + g = xs.length ∧ Aside0 (acc.size ≤ 3000000 + 2002000 * i) ∧ Aside0 (encF st l (xs.drop i) acc = r) ∧ Aside0 (∃ last,fieldsOk l last (xs.drop i) = true) ∧ Aside0 (EncW w w' st ver (.slice A l.length c) m (.slice A2 xs.length c2) (Lib.byteCells acc.data.toList) (w1.heap.size + 1)))
  case atStart => exact ⟨0,_,rfl,Nat.zero_add _,HS0,HG,⟨⟨0,HOK.out⟩⟩,D⟩
  case round =>
   clear D HOK HG HS0
   obtain ⟨i,acc,rfl,hi,HS,HF,HOK,D⟩ := hrel
   obtain ⟨a0,a1,a2⟩ := cells_3 D.out.b2
   obtain ⟨b0,b1⟩ := cells_2 D.out.b3
   have AA := cells_3a D.out.b2
   have BA := cells_2a D.out.b3
   by_cases h : i < xs.length
   ·have e0 : decide ((i : Int) < xs.length) = true := d_T (by omega)
    obtain ⟨ad,rfl,hx0,hx1⟩ := at63 HR2.out D.out.below i h
    have q0 : (0 ≤ (i : Int)) = True := eq_true (by omega)
    have q1 : ((i : Int) < xs.length) = True := eq_true (by omega)
    have hf := HF.out
    obtain ⟨last,hok⟩ := HOK.out
    rw [drop63 h] at hok hf
    rw [encF] at hf
    clear HF HOK
    obtain ⟨k1,k2,k3,k4⟩ := fieldsOk_cons hok
    generalize rd_T63 xs (i : Int) = x at *
    obtain ⟨y,hF⟩ : ∃ y,findS x.f0 l = (y,true) := ⟨_,by rw [← k2]⟩
    rw [hF] at k3 hf
    simp only at k3 hf
    have K3 := aS k3
    have HF := aS hf
    have HOK := aS k4
    have HXS : Aside0 ((cellP st y x.f1).size ≤ 2002000) := ⟨cellP_size st y x.f1 (by have := (specValue_facts k3).2.2.2;omega)⟩
    have HI : Aside0 (i ≤ 1000000) := ⟨by have := HX.out;omega⟩
    have HW9 : Aside0 (wrap64 ((i : Int) + 1) = ((i + 1 : Nat) : Int)) := ⟨by have := HI.out;unfold wrap64;omega⟩
    clear hf k1 k2 k3 k4 hok
    go_wp2_with (first | (go_at_call 36;refine (schema_Find.at st ver A c l _ _ hl (c_B HR.out (b_s D.out.below (bO _))) HC.out).mono ?_;rintro e w7 ⟨rfl,hb1⟩;rw [hF];have B := aS (blk_nb hb1);have D_ := aS (D.out.step (below_a1 hb1));clear a0 a1 a2 b0 b1 AA BA;clear D;have D := D_;clear D_;obtain ⟨a0,a1,a2⟩ := cells_3 D.out.b2;obtain ⟨b0,b1⟩ := cells_2 D.out.b3;have AA := cells_3a D.out.b2;have BA := cells_2a D.out.b3;clear hb1;obtain ⟨d0,d1⟩ := cells_2 B.out;have DA := cells_2a B.out;simp only [v87]) | (go_at_call 49;refine (cell_Put.at st y x.f1 _ hst K3.out).mono ?_;rintro e w8 ⟨rfl,hb1⟩;have D_ := aS (D.out.step (below_a1 hb1));clear a0 a1 a2 b0 b1 AA BA;clear D;have D := D_;clear D_;obtain ⟨a0,a1,a2⟩ := cells_3 D.out.b2;obtain ⟨b0,b1⟩ := cells_2 D.out.b3;have AA := cells_3a D.out.b2;have BA := cells_2a D.out.b3;clear hb1 B d0 d1 DA) | (go_at_call 44;refine (wire_put.at _ _ _ _ D.out.bld (by rw [bytes_len];have := HS.out;have := HXS.out;have := HI.out;omega) D.out.le).mono ?_;rintro e w9 ⟨rfl,hn,hb1⟩;rw [bytes_acc] at hn;have D_ := aS (D.out.put hb1 hn);clear a0 a1 a2 b0 b1 AA BA;clear D hb1 hn;have D := D_;clear D_))
    obtain ⟨g,rfl⟩ : ∃ g,gk = g + 1 := ⟨gk - 1,by omega⟩
    go_roundg g
    case rel => exact ⟨i + 1,_,congrArg (Value.int IntKind.i64) HW9.out,by omega,⟨by rw [app_size];have := HS.out;have := HXS.out;omega⟩,HF,⟨⟨x.f0,HOK.out⟩⟩,D⟩
    case measure => omega
   ·have e0 : decide ((i : Int) < xs.length) = false := d_F (by omega)
    have hf := HF.out
    rw [List.drop_of_length_le (by omega),encF] at hf
    have HF := aS hf
    clear hf HOK
    go_wp2_with (first | (go_at_call 50;refine (Tryz.Builder_String_any _ _ _ _ D.out.bld D.out.le).mono ?_;rintro e w9 ⟨rfl,hb1⟩;have B5 := aS ((hb1.block _ (by have := D.out.lt;omega)).trans D.out.b5);have HBf := aS (D.out.below.trans (hb1.mono (by have := D.out.lt;omega)));clear a0 a1 a2 b0 b1 AA BA;clear D hb1;obtain ⟨c0,c1⟩ := cells_2 B5.out;obtain ⟨f0,f1⟩ := froz_2 B5.out))
    refine bodyPost_ret (results_tc rfl _ _ (w.heap.size + 1 + 1) 45 _ (0,0) _ rfl (blk_put (blk_put B5.out 0 _ rfl) 1 _ rfl) hu45 rfl (by kernel_rfl)) rfl ?_
    rw [← HF.out]
    exact ⟨rfl,(HBf.out.setCell (p := ⟨w.heap.size + 1 + 1,0,none⟩) (by show w.heap.size ≤ w.heap.size + 1 + 1;omega) _).setCell (p := ⟨w.heap.size + 1 + 1,1,none⟩) (by show w.heap.size ≤ w.heap.size + 1 + 1;omega) _⟩
end Go.Proofs.YtgbmnpgaddhfpaaGreatDoor.T
