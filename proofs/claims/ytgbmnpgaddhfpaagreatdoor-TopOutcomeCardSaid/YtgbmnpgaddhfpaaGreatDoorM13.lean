/- Walks and plain laws beneath the law TopOutcome. No conditions but what each statement names. -/
import Derived.Test.YtgbmnpgaddhfpaaGreatDoorM12
set_option linter.unusedVariables false
set_option linter.unusedSimpArgs false
namespace Go.Proofs.YtgbmnpgaddhfpaaGreatDoor.T
open Go.RowKit Go.Proofs.YtgbmnpgaddhfpaaGreatDoorW.PrintWords Go.Proofs.YtgbmnpgaddhfpaaGreatDoorW.PrintLast Go.Proofs.YtgbmnpgaddhfpaaGreatDoorW.PrintMore
attribute [local go_sem] max2_int min2_int max_two min_two
open Go.Proofs.YtgbmnpgaddhfpaaGreatDoor.G
open Tryz
set_option maxRecDepth 100000
def Chk1 (P : Prop) (e : Ending) : Prop := ∃ r : Int,e = .returned (.int .i64 r) ∧ (r = 0 → P)
theorem placeS_none {no : Int} : ∀ {l : List S87} {i : Int},0 ≤ i → placeS no l i < 0 → (findS no l) = (⟨0,0,0,0,0⟩,false)
 | [],_,_,_ => rfl
 | x :: xs,i,hi,h => by
  rw [placeS] at h
  rw [findS]
  split at h
  ·omega
  ·rename_i e
   rw [if_neg e]
   exact placeS_none (by omega) h
theorem placeS_some {no : Int} : ∀ {l : List S87} {i : Int},0 ≤ i → 0 ≤ placeS no l i → ∃ k : Nat,placeS no l i = i + k ∧ k < l.length ∧ findS no l = (rd_T87 l (k : Int),true)
 | [],_,_,h => by rw [placeS] at h;omega
 | x :: xs,i,hi,h => by
  rw [placeS] at h ⊢
  rw [findS]
  split at h
  ·rename_i e
   rw [if_pos e,if_pos e]
   exact ⟨0,by omega,by simp,rfl⟩
  ·rename_i e
   rw [if_neg e,if_neg e]
   obtain ⟨k,h1,h2,h3⟩ := placeS_some (by omega) h
   refine ⟨k + 1,by omega,by simp;omega,?_⟩
   rw [h3]
   congr 1
theorem placeS_cases (no : Int) (l : List S87) : (placeS no l 0 = -1 ∧ (findS no l).2 = false) ∨ ∃ k : Nat,placeS no l 0 = k ∧ k < l.length ∧ findS no l = (rd_T87 l (k : Int),true) := by
 by_cases h : 0 ≤ placeS no l 0
 ·obtain ⟨k,h1,h2,h3⟩ := placeS_some (Int.le_refl 0) h
  exact .inr ⟨k,by omega,h2,h3⟩
 ·have h1 := placeS_none (Int.le_refl 0) (by omega : placeS no l 0 < 0)
  refine .inl ⟨?_,by rw [h1]⟩
  have : ∀ {l : List S87} {i : Int},0 ≤ i → placeS no l i < 0 → placeS no l i = -1 := by
   intro l
   induction l with
   | nil => intro i _ _;rfl
   | cons x xs ih =>
    intro i hi h
    rw [placeS] at h ⊢
    split at h
    ·omega
    ·rename_i e;rw [if_neg e];exact ih (by omega) h
  exact this (Int.le_refl 0) (by omega)
theorem ruleOk_1 {l1 l2 : List S87} {fr t2 : Int} {x y : S87} (h1 : findS fr l1 = (x,true)) (h2 : findS t2 l2 = (y,true)) (h : widerS y x = true) : ruleOk l1 l2 ⟨1,fr,t2,⟨#[]⟩,[]⟩ := by
 unfold ruleOk endsOk
 simp [h1,h2,h]
theorem ruleOk_2 {l1 l2 : List S87} {fr : Int} {x : S87} (h1 : findS fr l1 = (x,true)) : ruleOk l1 l2 ⟨2,fr,0,⟨#[]⟩,[]⟩ := by
 unfold ruleOk endsOk
 simp [h1]
theorem ruleOk_3 {l1 l2 : List S87} {t2 : Int} {tx : ByteArray} {y : S87} (h2 : findS t2 l2 = (y,true)) (h : specValue y tx = 0) : ruleOk l1 l2 ⟨3,0,t2,tx,[]⟩ := by
 unfold ruleOk endsOk
 simp [h2,h]
theorem ruleOk_4 {l1 l2 : List S87} {fr t2 : Int} {x y : S87} (h1 : findS fr l1 = (x,true)) (h2 : findS t2 l2 = (y,true)) (a : x.f1 = 1) (b : x.f2 = 1) (c : y.f1 = 1) (e : y.f2 = 1) : ruleOk l1 l2 ⟨4,fr,t2,⟨#[]⟩,[]⟩ := by
 unfold ruleOk endsOk paddedS
 simp [h1,h2,a,b,c,e]
theorem ruleOk_5 {l1 l2 : List S87} {fr t2 : Int} {ps : List S66} {x y : S87} (h1 : findS fr l1 = (x,true)) (h2 : findS t2 l2 = (y,true)) (h : tblOk ps) (h0 : ps.length ≠ 0) (ht : tableOk x y ps) : ruleOk l1 l2 ⟨5,fr,t2,⟨#[]⟩,ps⟩ := by
 unfold ruleOk endsOk
 unfold tblOk at h
 have h0' : ps ≠ [] := fun e => h0 (by rw [e];rfl)
 simp [h1,h2,h.1,h.2,h0',ht]
set_option maxHeartbeats 4000000 in
theorem groatref20_Check1.at (fr t2' : Int) (tx : ByteArray) (ps : List S66) (B : Option Addr) (d : Nat) (st1 ver1 : Int) (A1 : Option Addr) (c1 : Nat) (l1 : List S87) (st2 ver2 : Int) (A2 : Option Addr) (c2 : Nat) (l2 : List S87) (w : World) (hl1 : l1.length ≤ 4611686018427387904) (hl2 : l2.length ≤ 4611686018427387904)
  (hr1 : Kd.C k87 w A1 l1.length l1) (hc1 : l1.length ≤ c1) (hr2 : Kd.C k87 w A2 l2.length l2) (hc2 : l2.length ≤ c2) (hrp : Kd.C k66 w B ps.length ps) (hcp : ps.length ≤ d) (hpl : ps.length ≤ 4611686018427387904) (htx : tx.size ≤ 1000000) (hps : ∀ p ∈ ps,p.f0.size ≤ 1000000 ∧ p.f1.size ≤ 1000000) :
  Calls prog 129 #[.agg #[.int .i64 1,.int .i64 fr,.int .i64 t2',.string tx,.slice B ps.length d],.agg #[.int .i64 st1,.int .i64 ver1,.slice A1 l1.length c1],.agg #[.int .i64 st2,.int .i64 ver2,.slice A2 l2.length c2]] w fun e w' => Chk1 (ruleOk l1 l2 ⟨1,fr,t2',tx,ps⟩) e ∧ Below w.heap.size w w' := by
 have hu24 := underlying24
 have hu87 := underlying87
 have hu94 := underlying94
 have hu66 := underlying66
 have HR1 := aS hr1
 have HC1 := aS hc1
 have HR2 := aS hr2
 have HC2 := aS hc2
 have HRp := aS hrp
 have HCp := aS hcp
 have HTX := aS htx
 have HPS := aS hps
 clear hr1 hc1 hr2 hc2 hrp hcp htx hps
 obtain ⟨n1,hn1⟩ : ∃ n,placeS fr l1 0 = n := ⟨_,rfl⟩
 obtain ⟨n2,hn2⟩ : ∃ n,placeS t2' l2 0 = n := ⟨_,rfl⟩
 have hp1 := placeS_cases fr l1
 have hp2 := placeS_cases t2' l2
 rw [hn1] at hp1
 rw [hn2] at hp2
 have HP1 := aS hn1
 have HP2 := aS hn2
 clear hn1 hn2
 rcases hp1 with ⟨rfl,_⟩ | ⟨k1,rfl,h1,hf1⟩
 ·clear hp2
  go_enter func129,ntmps129
  go_wp2_with (first | (go_at_call 56;have D0 := D;clear D0;refine (groatref13_Find.at st2 ver2 _ c2 l2 _ _ hl2 (c_B HR2.out D.out.below) HC2.out).mono ?_;rintro e w2 ⟨rfl,hb1⟩;rw [HP2.out];have D_ := aS (D.out.step hb1);clear r0 r1 r2 r3 r4 s0 s1 s2 t0 t1 t2;clear D hb1;have D := D_;clear D_;obtain ⟨r0,r1,r2,r3,r4⟩ := cells_5 D.out.h1;obtain ⟨s0,s1,s2⟩ := cells_3 D.out.h2;obtain ⟨t0,t1,t2⟩ := cells_3 D.out.h3) | (go_at_call 56;refine (groatref13_Find.at st1 ver1 _ c1 l1 _ _ hl1 (c_B HR1.out (Box3.start w _ _ _).below) HC1.out).mono ?_;rintro e w1 ⟨rfl,hb1⟩;rw [HP1.out];have D := aS (Box3.init hb1);clear hb1;obtain ⟨r0,r1,r2,r3,r4⟩ := cells_5 D.out.h1;obtain ⟨s0,s1,s2⟩ := cells_3 D.out.h2;obtain ⟨t0,t1,t2⟩ := cells_3 D.out.h3))
  all_goals go_ret
  all_goals exact ⟨⟨_,rfl,fun h => absurd h (by decide)⟩,by first | exact D.out.below | exact (Box3.start w _ _ _).below⟩
 have d1 : decide ((k1 : Int) < 0) = false := d_F (by omega)
 have HF1 := aS hf1
 clear hf1
 rcases hp2 with ⟨rfl,_⟩ | ⟨k2,rfl,h2,hf2⟩
 ·skip
  go_enter func129,ntmps129
  go_wp2_with (first | (go_at_call 56;have D0 := D;clear D0;refine (groatref13_Find.at st2 ver2 _ c2 l2 _ _ hl2 (c_B HR2.out D.out.below) HC2.out).mono ?_;rintro e w2 ⟨rfl,hb1⟩;rw [HP2.out];have D_ := aS (D.out.step hb1);clear r0 r1 r2 r3 r4 s0 s1 s2 t0 t1 t2;clear D hb1;have D := D_;clear D_;obtain ⟨r0,r1,r2,r3,r4⟩ := cells_5 D.out.h1;obtain ⟨s0,s1,s2⟩ := cells_3 D.out.h2;obtain ⟨t0,t1,t2⟩ := cells_3 D.out.h3) | (go_at_call 56;refine (groatref13_Find.at st1 ver1 _ c1 l1 _ _ hl1 (c_B HR1.out (Box3.start w _ _ _).below) HC1.out).mono ?_;rintro e w1 ⟨rfl,hb1⟩;rw [HP1.out];have D := aS (Box3.init hb1);clear hb1;obtain ⟨r0,r1,r2,r3,r4⟩ := cells_5 D.out.h1;obtain ⟨s0,s1,s2⟩ := cells_3 D.out.h2;obtain ⟨t0,t1,t2⟩ := cells_3 D.out.h3))
  all_goals go_ret
  all_goals exact ⟨⟨_,rfl,fun h => absurd h (by decide)⟩,by first | exact D.out.below | exact (Box3.start w _ _ _).below⟩
 have d2 : decide ((k2 : Int) < 0) = false := d_F (by omega)
 have HF2 := aS hf2
 clear hf2
 rcases (Decidable.em (tx = ⟨#[]⟩)).symm with ht | ht
 ·have e0 : (tx.toList == ([] : List UInt8)) = false := by
   rw [beq_eq_false_iff_ne,ne_eq]
   intro h
   rw [ByteArray.toList_eq] at h
   exact ht (by cases tx;simp_all)
  have e1 : (tx.toList != ([] : List UInt8)) = true := by rw [bne,e0];rfl
  clear ht
  go_enter func129,ntmps129
  go_wp2_with (first | (go_at_call 56;have D0 := D;clear D0;refine (groatref13_Find.at st2 ver2 _ c2 l2 _ _ hl2 (c_B HR2.out D.out.below) HC2.out).mono ?_;rintro e w2 ⟨rfl,hb1⟩;rw [HP2.out];have D_ := aS (D.out.step hb1);clear r0 r1 r2 r3 r4 s0 s1 s2 t0 t1 t2;clear D hb1;have D := D_;clear D_;obtain ⟨r0,r1,r2,r3,r4⟩ := cells_5 D.out.h1;obtain ⟨s0,s1,s2⟩ := cells_3 D.out.h2;obtain ⟨t0,t1,t2⟩ := cells_3 D.out.h3) | (go_at_call 56;refine (groatref13_Find.at st1 ver1 _ c1 l1 _ _ hl1 (c_B HR1.out (Box3.start w _ _ _).below) HC1.out).mono ?_;rintro e w1 ⟨rfl,hb1⟩;rw [HP1.out];have D := aS (Box3.init hb1);clear hb1;obtain ⟨r0,r1,r2,r3,r4⟩ := cells_5 D.out.h1;obtain ⟨s0,s1,s2⟩ := cells_3 D.out.h2;obtain ⟨t0,t1,t2⟩ := cells_3 D.out.h3))
  all_goals go_ret
  all_goals exact ⟨⟨_,rfl,fun h => absurd h (by decide)⟩,by first | exact D.out.below | exact (Box3.start w _ _ _).below⟩
 subst ht
 rcases (Decidable.em (0 < ps.length)) with h0 | h0
 ·have e0 : decide (0 < (ps.length : Int)) = true := d_T (by omega)
  have e1 : decide (0 < ps.length) = true := d_T h0
  skip
  go_enter func129,ntmps129
  go_wp2_with (first | (go_at_call 56;have D0 := D;clear D0;refine (groatref13_Find.at st2 ver2 _ c2 l2 _ _ hl2 (c_B HR2.out D.out.below) HC2.out).mono ?_;rintro e w2 ⟨rfl,hb1⟩;rw [HP2.out];have D_ := aS (D.out.step hb1);clear r0 r1 r2 r3 r4 s0 s1 s2 t0 t1 t2;clear D hb1;have D := D_;clear D_;obtain ⟨r0,r1,r2,r3,r4⟩ := cells_5 D.out.h1;obtain ⟨s0,s1,s2⟩ := cells_3 D.out.h2;obtain ⟨t0,t1,t2⟩ := cells_3 D.out.h3) | (go_at_call 56;refine (groatref13_Find.at st1 ver1 _ c1 l1 _ _ hl1 (c_B HR1.out (Box3.start w _ _ _).below) HC1.out).mono ?_;rintro e w1 ⟨rfl,hb1⟩;rw [HP1.out];have D := aS (Box3.init hb1);clear hb1;obtain ⟨r0,r1,r2,r3,r4⟩ := cells_5 D.out.h1;obtain ⟨s0,s1,s2⟩ := cells_3 D.out.h2;obtain ⟨t0,t1,t2⟩ := cells_3 D.out.h3))
  all_goals go_ret
  all_goals exact ⟨⟨_,rfl,fun h => absurd h (by decide)⟩,by first | exact D.out.below | exact (Box3.start w _ _ _).below⟩
 obtain rfl : ps = [] := List.length_eq_zero_iff.1 (by omega)
 clear h0
 obtain ⟨ad1,rfl,hx0,hx1,hx2,hx3,hx4⟩ := at87 HR1.out (Below.refl _ _) k1 h1
 have p1 : (0 ≤ (k1 : Int)) = True := eq_true (by omega)
 have q1 : ((k1 : Int) < l1.length) = True := eq_true (by omega)
 generalize rd_T87 l1 (k1 : Int) = x at *
 have HX : Aside0 (∀ W,Below w.heap.size w W → W.cell? (ad1.add (k1 * 5)) = some (.int .i64 x.f0) ∧ W.cell? ⟨(ad1.add (k1 * 5)).block,(ad1.add (k1 * 5)).off + 1,none⟩ = some (.int .i64 x.f1) ∧ W.cell? ⟨(ad1.add (k1 * 5)).block,(ad1.add (k1 * 5)).off + 2,none⟩ = some (.int .i64 x.f2) ∧ W.cell? ⟨(ad1.add (k1 * 5)).block,(ad1.add (k1 * 5)).off + 3,none⟩ = some (.int .i64 x.f3) ∧ W.cell? ⟨(ad1.add (k1 * 5)).block,(ad1.add (k1 * 5)).off + 4,none⟩ = some (.int .i64 x.f4)) :=
  ⟨fun W hb => have up : ∀ {a : Addr} {v : Value},w.cell? a = some v → W.cell? a = some v := fun hx => (hb.cell (World.block_lt_of_cell? w _ hx)).trans hx
   ⟨up hx0,up hx1,up hx2,up hx3,up hx4⟩⟩
 clear hx0 hx1 hx2 hx3 hx4
 obtain ⟨ad2,rfl,hx0,hx1,hx2,hx3,hx4⟩ := at87 HR2.out (Below.refl _ _) k2 h2
 have p2 : (0 ≤ (k2 : Int)) = True := eq_true (by omega)
 have q2 : ((k2 : Int) < l2.length) = True := eq_true (by omega)
 generalize rd_T87 l2 (k2 : Int) = y at *
 have HY : Aside0 (∀ W,Below w.heap.size w W → W.cell? (ad2.add (k2 * 5)) = some (.int .i64 y.f0) ∧ W.cell? ⟨(ad2.add (k2 * 5)).block,(ad2.add (k2 * 5)).off + 1,none⟩ = some (.int .i64 y.f1) ∧ W.cell? ⟨(ad2.add (k2 * 5)).block,(ad2.add (k2 * 5)).off + 2,none⟩ = some (.int .i64 y.f2) ∧ W.cell? ⟨(ad2.add (k2 * 5)).block,(ad2.add (k2 * 5)).off + 3,none⟩ = some (.int .i64 y.f3) ∧ W.cell? ⟨(ad2.add (k2 * 5)).block,(ad2.add (k2 * 5)).off + 4,none⟩ = some (.int .i64 y.f4)) :=
  ⟨fun W hb => have up : ∀ {a : Addr} {v : Value},w.cell? a = some v → W.cell? a = some v := fun hx => (hb.cell (World.block_lt_of_cell? w _ hx)).trans hx
   ⟨up hx0,up hx1,up hx2,up hx3,up hx4⟩⟩
 clear hx0 hx1 hx2 hx3 hx4
 go_enter func129,ntmps129
 go_wp2_with (first | (go_at_call 56;have D0 := D;clear D0;refine (groatref13_Find.at st2 ver2 _ c2 l2 _ _ hl2 (c_B HR2.out D.out.below) HC2.out).mono ?_;rintro e w2 ⟨rfl,hb1⟩;rw [HP2.out];have D_ := aS (D.out.step hb1);clear r0 r1 r2 r3 r4 s0 s1 s2 t0 t1 t2;clear D hb1;have D := D_;clear D_;obtain ⟨r0,r1,r2,r3,r4⟩ := cells_5 D.out.h1;obtain ⟨s0,s1,s2⟩ := cells_3 D.out.h2;obtain ⟨t0,t1,t2⟩ := cells_3 D.out.h3) | (go_at_call 56;refine (groatref13_Find.at st1 ver1 _ c1 l1 _ _ hl1 (c_B HR1.out (Box3.start w _ _ _).below) HC1.out).mono ?_;rintro e w1 ⟨rfl,hb1⟩;rw [HP1.out];have D := aS (Box3.init hb1);clear hb1;obtain ⟨r0,r1,r2,r3,r4⟩ := cells_5 D.out.h1;obtain ⟨s0,s1,s2⟩ := cells_3 D.out.h2;obtain ⟨t0,t1,t2⟩ := cells_3 D.out.h3))
 obtain ⟨u0,u1,u2,u3,u4⟩ := HX.out _ D.out.below
 obtain ⟨v0,v1,v2,v3,v4⟩ := HY.out _ D.out.below
 refine wp_region_below (by kernel_rfl) (by kernel_rfl) ?_
 repeat (refine wpQuiet_step (fun K hK => ?_);refine (if_pos rfl).mpr ?_;apply Exists.intro;refine ⟨fun w' hw' => ?_,hK _ ?_⟩;(have hc := below_cells hw';unfold Oper.quietAt;go_simp;first | done | rfl | exact ⟨rfl,rfl⟩ | (go_at_call 161;exact (groatref11_Wider.at y x _).mono fun e w2 ⟨he,hb⟩ => ⟨he,b_s hw' hb⟩));clear hK K)
 refine wpQuiet_nil ?_
 intro wq hw'
 have HB := aS (b_s D.out.below hw')
 have HR : Aside0 (widerS y x = true → ruleOk l1 l2 ⟨1,fr,t2',⟨#[]⟩,[]⟩) := ⟨fun h => ruleOk_1 HF1.out HF2.out h⟩
 clear hw' D r0 r1 r2 r3 r4 s0 s1 s2 t0 t1 t2 u0 u1 u2 u3 u4 v0 v1 v2 v3 v4
 simp only [Act.put,sA,sB,sC]
 cases hw : widerS y x with
 | true =>
  have HX2 := aS (HR.out hw)
  clear hw
  go_wp2
  go_ret
  exact ⟨⟨_,rfl,fun _ => HX2.out⟩,HB.out⟩
 | false =>
  clear hw
  go_wp2
  go_ret
  exact ⟨⟨_,rfl,fun h => absurd h (by decide)⟩,HB.out⟩
set_option maxHeartbeats 4000000 in
theorem groatref20_Check2.at (fr t2' : Int) (tx : ByteArray) (ps : List S66) (B : Option Addr) (d : Nat) (st1 ver1 : Int) (A1 : Option Addr) (c1 : Nat) (l1 : List S87) (st2 ver2 : Int) (A2 : Option Addr) (c2 : Nat) (l2 : List S87) (w : World) (hl1 : l1.length ≤ 4611686018427387904) (hl2 : l2.length ≤ 4611686018427387904)
  (hr1 : Kd.C k87 w A1 l1.length l1) (hc1 : l1.length ≤ c1) (hr2 : Kd.C k87 w A2 l2.length l2) (hc2 : l2.length ≤ c2) (hrp : Kd.C k66 w B ps.length ps) (hcp : ps.length ≤ d) (hpl : ps.length ≤ 4611686018427387904) (htx : tx.size ≤ 1000000) (hps : ∀ p ∈ ps,p.f0.size ≤ 1000000 ∧ p.f1.size ≤ 1000000) :
  Calls prog 129 #[.agg #[.int .i64 2,.int .i64 fr,.int .i64 t2',.string tx,.slice B ps.length d],.agg #[.int .i64 st1,.int .i64 ver1,.slice A1 l1.length c1],.agg #[.int .i64 st2,.int .i64 ver2,.slice A2 l2.length c2]] w fun e w' => Chk1 (ruleOk l1 l2 ⟨2,fr,t2',tx,ps⟩) e ∧ Below w.heap.size w w' := by
 have hu24 := underlying24
 have hu87 := underlying87
 have hu94 := underlying94
 have hu66 := underlying66
 have HR1 := aS hr1
 have HC1 := aS hc1
 have HR2 := aS hr2
 have HC2 := aS hc2
 have HRp := aS hrp
 have HCp := aS hcp
 have HTX := aS htx
 have HPS := aS hps
 clear hr1 hc1 hr2 hc2 hrp hcp htx hps
 obtain ⟨n1,hn1⟩ : ∃ n,placeS fr l1 0 = n := ⟨_,rfl⟩
 obtain ⟨n2,hn2⟩ : ∃ n,placeS t2' l2 0 = n := ⟨_,rfl⟩
 have hp1 := placeS_cases fr l1
 have hp2 := placeS_cases t2' l2
 rw [hn1] at hp1
 rw [hn2] at hp2
 have HP1 := aS hn1
 have HP2 := aS hn2
 clear hn1 hn2
 clear hp2
 rcases hp1 with ⟨rfl,_⟩ | ⟨k1,rfl,h1,hf1⟩
 ·skip
  go_enter func129,ntmps129
  go_wp2_with (first | (go_at_call 56;have D0 := D;clear D0;refine (groatref13_Find.at st2 ver2 _ c2 l2 _ _ hl2 (c_B HR2.out D.out.below) HC2.out).mono ?_;rintro e w2 ⟨rfl,hb1⟩;rw [HP2.out];have D_ := aS (D.out.step hb1);clear r0 r1 r2 r3 r4 s0 s1 s2 t0 t1 t2;clear D hb1;have D := D_;clear D_;obtain ⟨r0,r1,r2,r3,r4⟩ := cells_5 D.out.h1;obtain ⟨s0,s1,s2⟩ := cells_3 D.out.h2;obtain ⟨t0,t1,t2⟩ := cells_3 D.out.h3) | (go_at_call 56;refine (groatref13_Find.at st1 ver1 _ c1 l1 _ _ hl1 (c_B HR1.out (Box3.start w _ _ _).below) HC1.out).mono ?_;rintro e w1 ⟨rfl,hb1⟩;rw [HP1.out];have D := aS (Box3.init hb1);clear hb1;obtain ⟨r0,r1,r2,r3,r4⟩ := cells_5 D.out.h1;obtain ⟨s0,s1,s2⟩ := cells_3 D.out.h2;obtain ⟨t0,t1,t2⟩ := cells_3 D.out.h3))
  all_goals go_ret
  all_goals exact ⟨⟨_,rfl,fun h => absurd h (by decide)⟩,by first | exact D.out.below | exact (Box3.start w _ _ _).below⟩
 have d1 : decide ((k1 : Int) < 0) = false := d_F (by omega)
 have HF1 := aS hf1
 clear hf1
 rcases (Decidable.em (t2' = 0)).symm with ht | ht
 ·have e0 : (t2' != 0) = true := bne_iff_ne.mpr ht
  clear ht
  go_enter func129,ntmps129
  go_wp2_with (first | (go_at_call 56;have D0 := D;clear D0;refine (groatref13_Find.at st2 ver2 _ c2 l2 _ _ hl2 (c_B HR2.out D.out.below) HC2.out).mono ?_;rintro e w2 ⟨rfl,hb1⟩;rw [HP2.out];have D_ := aS (D.out.step hb1);clear r0 r1 r2 r3 r4 s0 s1 s2 t0 t1 t2;clear D hb1;have D := D_;clear D_;obtain ⟨r0,r1,r2,r3,r4⟩ := cells_5 D.out.h1;obtain ⟨s0,s1,s2⟩ := cells_3 D.out.h2;obtain ⟨t0,t1,t2⟩ := cells_3 D.out.h3) | (go_at_call 56;refine (groatref13_Find.at st1 ver1 _ c1 l1 _ _ hl1 (c_B HR1.out (Box3.start w _ _ _).below) HC1.out).mono ?_;rintro e w1 ⟨rfl,hb1⟩;rw [HP1.out];have D := aS (Box3.init hb1);clear hb1;obtain ⟨r0,r1,r2,r3,r4⟩ := cells_5 D.out.h1;obtain ⟨s0,s1,s2⟩ := cells_3 D.out.h2;obtain ⟨t0,t1,t2⟩ := cells_3 D.out.h3))
  all_goals go_ret
  all_goals exact ⟨⟨_,rfl,fun h => absurd h (by decide)⟩,by first | exact D.out.below | exact (Box3.start w _ _ _).below⟩
 subst ht
 rcases (Decidable.em (tx = ⟨#[]⟩)).symm with ht | ht
 ·have e0 : (tx.toList == ([] : List UInt8)) = false := by
   rw [beq_eq_false_iff_ne,ne_eq]
   intro h
   rw [ByteArray.toList_eq] at h
   exact ht (by cases tx;simp_all)
  have e1 : (tx.toList != ([] : List UInt8)) = true := by rw [bne,e0];rfl
  clear ht
  go_enter func129,ntmps129
  go_wp2_with (first | (go_at_call 56;have D0 := D;clear D0;refine (groatref13_Find.at st2 ver2 _ c2 l2 _ _ hl2 (c_B HR2.out D.out.below) HC2.out).mono ?_;rintro e w2 ⟨rfl,hb1⟩;rw [HP2.out];have D_ := aS (D.out.step hb1);clear r0 r1 r2 r3 r4 s0 s1 s2 t0 t1 t2;clear D hb1;have D := D_;clear D_;obtain ⟨r0,r1,r2,r3,r4⟩ := cells_5 D.out.h1;obtain ⟨s0,s1,s2⟩ := cells_3 D.out.h2;obtain ⟨t0,t1,t2⟩ := cells_3 D.out.h3) | (go_at_call 56;refine (groatref13_Find.at st1 ver1 _ c1 l1 _ _ hl1 (c_B HR1.out (Box3.start w _ _ _).below) HC1.out).mono ?_;rintro e w1 ⟨rfl,hb1⟩;rw [HP1.out];have D := aS (Box3.init hb1);clear hb1;obtain ⟨r0,r1,r2,r3,r4⟩ := cells_5 D.out.h1;obtain ⟨s0,s1,s2⟩ := cells_3 D.out.h2;obtain ⟨t0,t1,t2⟩ := cells_3 D.out.h3))
  all_goals go_ret
  all_goals exact ⟨⟨_,rfl,fun h => absurd h (by decide)⟩,by first | exact D.out.below | exact (Box3.start w _ _ _).below⟩
 subst ht
 rcases (Decidable.em (0 < ps.length)) with h0 | h0
 ·have e0 : decide (0 < (ps.length : Int)) = true := d_T (by omega)
  have e1 : decide (0 < ps.length) = true := d_T h0
  skip
  go_enter func129,ntmps129
  go_wp2_with (first | (go_at_call 56;have D0 := D;clear D0;refine (groatref13_Find.at st2 ver2 _ c2 l2 _ _ hl2 (c_B HR2.out D.out.below) HC2.out).mono ?_;rintro e w2 ⟨rfl,hb1⟩;rw [HP2.out];have D_ := aS (D.out.step hb1);clear r0 r1 r2 r3 r4 s0 s1 s2 t0 t1 t2;clear D hb1;have D := D_;clear D_;obtain ⟨r0,r1,r2,r3,r4⟩ := cells_5 D.out.h1;obtain ⟨s0,s1,s2⟩ := cells_3 D.out.h2;obtain ⟨t0,t1,t2⟩ := cells_3 D.out.h3) | (go_at_call 56;refine (groatref13_Find.at st1 ver1 _ c1 l1 _ _ hl1 (c_B HR1.out (Box3.start w _ _ _).below) HC1.out).mono ?_;rintro e w1 ⟨rfl,hb1⟩;rw [HP1.out];have D := aS (Box3.init hb1);clear hb1;obtain ⟨r0,r1,r2,r3,r4⟩ := cells_5 D.out.h1;obtain ⟨s0,s1,s2⟩ := cells_3 D.out.h2;obtain ⟨t0,t1,t2⟩ := cells_3 D.out.h3))
  all_goals go_ret
  all_goals exact ⟨⟨_,rfl,fun h => absurd h (by decide)⟩,by first | exact D.out.below | exact (Box3.start w _ _ _).below⟩
 obtain rfl : ps = [] := List.length_eq_zero_iff.1 (by omega)
 clear h0
 go_enter func129,ntmps129
 go_wp2_with (first | (go_at_call 56;have D0 := D;clear D0;refine (groatref13_Find.at st2 ver2 _ c2 l2 _ _ hl2 (c_B HR2.out D.out.below) HC2.out).mono ?_;rintro e w2 ⟨rfl,hb1⟩;rw [HP2.out];have D_ := aS (D.out.step hb1);clear r0 r1 r2 r3 r4 s0 s1 s2 t0 t1 t2;clear D hb1;have D := D_;clear D_;obtain ⟨r0,r1,r2,r3,r4⟩ := cells_5 D.out.h1;obtain ⟨s0,s1,s2⟩ := cells_3 D.out.h2;obtain ⟨t0,t1,t2⟩ := cells_3 D.out.h3) | (go_at_call 56;refine (groatref13_Find.at st1 ver1 _ c1 l1 _ _ hl1 (c_B HR1.out (Box3.start w _ _ _).below) HC1.out).mono ?_;rintro e w1 ⟨rfl,hb1⟩;rw [HP1.out];have D := aS (Box3.init hb1);clear hb1;obtain ⟨r0,r1,r2,r3,r4⟩ := cells_5 D.out.h1;obtain ⟨s0,s1,s2⟩ := cells_3 D.out.h2;obtain ⟨t0,t1,t2⟩ := cells_3 D.out.h3))
 all_goals go_ret
 all_goals exact ⟨⟨_,rfl,fun _ => ruleOk_2 HF1.out⟩,by first | exact D.out.below | exact (Box3.start w _ _ _).below⟩
set_option maxHeartbeats 4000000 in
theorem groatref20_Check3.at (fr t2' : Int) (tx : ByteArray) (ps : List S66) (B : Option Addr) (d : Nat) (st1 ver1 : Int) (A1 : Option Addr) (c1 : Nat) (l1 : List S87) (st2 ver2 : Int) (A2 : Option Addr) (c2 : Nat) (l2 : List S87) (w : World) (hl1 : l1.length ≤ 4611686018427387904) (hl2 : l2.length ≤ 4611686018427387904)
  (hr1 : Kd.C k87 w A1 l1.length l1) (hc1 : l1.length ≤ c1) (hr2 : Kd.C k87 w A2 l2.length l2) (hc2 : l2.length ≤ c2) (hrp : Kd.C k66 w B ps.length ps) (hcp : ps.length ≤ d) (hpl : ps.length ≤ 4611686018427387904) (htx : tx.size ≤ 1000000) (hps : ∀ p ∈ ps,p.f0.size ≤ 1000000 ∧ p.f1.size ≤ 1000000) :
  Calls prog 129 #[.agg #[.int .i64 3,.int .i64 fr,.int .i64 t2',.string tx,.slice B ps.length d],.agg #[.int .i64 st1,.int .i64 ver1,.slice A1 l1.length c1],.agg #[.int .i64 st2,.int .i64 ver2,.slice A2 l2.length c2]] w fun e w' => Chk1 (ruleOk l1 l2 ⟨3,fr,t2',tx,ps⟩) e ∧ Below w.heap.size w w' := by
 have hu24 := underlying24
 have hu87 := underlying87
 have hu94 := underlying94
 have hu66 := underlying66
 have HR1 := aS hr1
 have HC1 := aS hc1
 have HR2 := aS hr2
 have HC2 := aS hc2
 have HRp := aS hrp
 have HCp := aS hcp
 have HTX := aS htx
 have HPS := aS hps
 clear hr1 hc1 hr2 hc2 hrp hcp htx hps
 obtain ⟨n1,hn1⟩ : ∃ n,placeS fr l1 0 = n := ⟨_,rfl⟩
 obtain ⟨n2,hn2⟩ : ∃ n,placeS t2' l2 0 = n := ⟨_,rfl⟩
 have hp1 := placeS_cases fr l1
 have hp2 := placeS_cases t2' l2
 rw [hn1] at hp1
 rw [hn2] at hp2
 have HP1 := aS hn1
 have HP2 := aS hn2
 clear hn1 hn2
 clear hp1
 rcases (Decidable.em (fr = 0)).symm with ht | ht
 ·have e0 : (fr != 0) = true := bne_iff_ne.mpr ht
  clear ht hp2
  go_enter func129,ntmps129
  go_wp2_with (first | (go_at_call 56;have D0 := D;clear D0;refine (groatref13_Find.at st2 ver2 _ c2 l2 _ _ hl2 (c_B HR2.out D.out.below) HC2.out).mono ?_;rintro e w2 ⟨rfl,hb1⟩;rw [HP2.out];have D_ := aS (D.out.step hb1);clear r0 r1 r2 r3 r4 s0 s1 s2 t0 t1 t2;clear D hb1;have D := D_;clear D_;obtain ⟨r0,r1,r2,r3,r4⟩ := cells_5 D.out.h1;obtain ⟨s0,s1,s2⟩ := cells_3 D.out.h2;obtain ⟨t0,t1,t2⟩ := cells_3 D.out.h3) | (go_at_call 56;refine (groatref13_Find.at st1 ver1 _ c1 l1 _ _ hl1 (c_B HR1.out (Box3.start w _ _ _).below) HC1.out).mono ?_;rintro e w1 ⟨rfl,hb1⟩;rw [HP1.out];have D := aS (Box3.init hb1);clear hb1;obtain ⟨r0,r1,r2,r3,r4⟩ := cells_5 D.out.h1;obtain ⟨s0,s1,s2⟩ := cells_3 D.out.h2;obtain ⟨t0,t1,t2⟩ := cells_3 D.out.h3))
  all_goals go_ret
  all_goals exact ⟨⟨_,rfl,fun h => absurd h (by decide)⟩,by first | exact D.out.below | exact (Box3.start w _ _ _).below⟩
 subst ht
 rcases hp2 with ⟨rfl,_⟩ | ⟨k2,rfl,h2,hf2⟩
 ·skip
  go_enter func129,ntmps129
  go_wp2_with (first | (go_at_call 56;have D0 := D;clear D0;refine (groatref13_Find.at st2 ver2 _ c2 l2 _ _ hl2 (c_B HR2.out D.out.below) HC2.out).mono ?_;rintro e w2 ⟨rfl,hb1⟩;rw [HP2.out];have D_ := aS (D.out.step hb1);clear r0 r1 r2 r3 r4 s0 s1 s2 t0 t1 t2;clear D hb1;have D := D_;clear D_;obtain ⟨r0,r1,r2,r3,r4⟩ := cells_5 D.out.h1;obtain ⟨s0,s1,s2⟩ := cells_3 D.out.h2;obtain ⟨t0,t1,t2⟩ := cells_3 D.out.h3) | (go_at_call 56;refine (groatref13_Find.at st1 ver1 _ c1 l1 _ _ hl1 (c_B HR1.out (Box3.start w _ _ _).below) HC1.out).mono ?_;rintro e w1 ⟨rfl,hb1⟩;rw [HP1.out];have D := aS (Box3.init hb1);clear hb1;obtain ⟨r0,r1,r2,r3,r4⟩ := cells_5 D.out.h1;obtain ⟨s0,s1,s2⟩ := cells_3 D.out.h2;obtain ⟨t0,t1,t2⟩ := cells_3 D.out.h3))
  all_goals go_ret
  all_goals exact ⟨⟨_,rfl,fun h => absurd h (by decide)⟩,by first | exact D.out.below | exact (Box3.start w _ _ _).below⟩
 have d2 : decide ((k2 : Int) < 0) = false := d_F (by omega)
 have HF2 := aS hf2
 clear hf2
 rcases (Decidable.em (0 < ps.length)) with h0 | h0
 ·have e0 : decide (0 < (ps.length : Int)) = true := d_T (by omega)
  have e1 : decide (0 < ps.length) = true := d_T h0
  skip
  go_enter func129,ntmps129
  go_wp2_with (first | (go_at_call 56;have D0 := D;clear D0;refine (groatref13_Find.at st2 ver2 _ c2 l2 _ _ hl2 (c_B HR2.out D.out.below) HC2.out).mono ?_;rintro e w2 ⟨rfl,hb1⟩;rw [HP2.out];have D_ := aS (D.out.step hb1);clear r0 r1 r2 r3 r4 s0 s1 s2 t0 t1 t2;clear D hb1;have D := D_;clear D_;obtain ⟨r0,r1,r2,r3,r4⟩ := cells_5 D.out.h1;obtain ⟨s0,s1,s2⟩ := cells_3 D.out.h2;obtain ⟨t0,t1,t2⟩ := cells_3 D.out.h3) | (go_at_call 56;refine (groatref13_Find.at st1 ver1 _ c1 l1 _ _ hl1 (c_B HR1.out (Box3.start w _ _ _).below) HC1.out).mono ?_;rintro e w1 ⟨rfl,hb1⟩;rw [HP1.out];have D := aS (Box3.init hb1);clear hb1;obtain ⟨r0,r1,r2,r3,r4⟩ := cells_5 D.out.h1;obtain ⟨s0,s1,s2⟩ := cells_3 D.out.h2;obtain ⟨t0,t1,t2⟩ := cells_3 D.out.h3))
  all_goals go_ret
  all_goals exact ⟨⟨_,rfl,fun h => absurd h (by decide)⟩,by first | exact D.out.below | exact (Box3.start w _ _ _).below⟩
 obtain rfl : ps = [] := List.length_eq_zero_iff.1 (by omega)
 clear h0
 obtain ⟨ad2,rfl,hx0,hx1,hx2,hx3,hx4⟩ := at87 HR2.out (Below.refl _ _) k2 h2
 have p2 : (0 ≤ (k2 : Int)) = True := eq_true (by omega)
 have q2 : ((k2 : Int) < l2.length) = True := eq_true (by omega)
 generalize rd_T87 l2 (k2 : Int) = y at *
 have HY : Aside0 (∀ W,Below w.heap.size w W → W.cell? (ad2.add (k2 * 5)) = some (.int .i64 y.f0) ∧ W.cell? ⟨(ad2.add (k2 * 5)).block,(ad2.add (k2 * 5)).off + 1,none⟩ = some (.int .i64 y.f1) ∧ W.cell? ⟨(ad2.add (k2 * 5)).block,(ad2.add (k2 * 5)).off + 2,none⟩ = some (.int .i64 y.f2) ∧ W.cell? ⟨(ad2.add (k2 * 5)).block,(ad2.add (k2 * 5)).off + 3,none⟩ = some (.int .i64 y.f3) ∧ W.cell? ⟨(ad2.add (k2 * 5)).block,(ad2.add (k2 * 5)).off + 4,none⟩ = some (.int .i64 y.f4)) :=
  ⟨fun W hb => have up : ∀ {a : Addr} {v : Value},w.cell? a = some v → W.cell? a = some v := fun hx => (hb.cell (World.block_lt_of_cell? w _ hx)).trans hx
   ⟨up hx0,up hx1,up hx2,up hx3,up hx4⟩⟩
 clear hx0 hx1 hx2 hx3 hx4
 rcases (Decidable.em (tx = ⟨#[]⟩)).symm with ht | ht
 ·have e0 : (tx.toList == ([] : List UInt8)) = false := by
   rw [beq_eq_false_iff_ne,ne_eq]
   intro h
   rw [ByteArray.toList_eq] at h
   exact ht (by cases tx;simp_all)
  have e1 : (tx.toList != ([] : List UInt8)) = true := by rw [bne,e0];rfl
  clear ht
  go_enter func129,ntmps129
  go_wp2_with (first | (go_at_call 56;have D0 := D;clear D0;refine (groatref13_Find.at st2 ver2 _ c2 l2 _ _ hl2 (c_B HR2.out D.out.below) HC2.out).mono ?_;rintro e w2 ⟨rfl,hb1⟩;rw [HP2.out];have D_ := aS (D.out.step hb1);clear r0 r1 r2 r3 r4 s0 s1 s2 t0 t1 t2;clear D hb1;have D := D_;clear D_;obtain ⟨r0,r1,r2,r3,r4⟩ := cells_5 D.out.h1;obtain ⟨s0,s1,s2⟩ := cells_3 D.out.h2;obtain ⟨t0,t1,t2⟩ := cells_3 D.out.h3) | (go_at_call 56;refine (groatref13_Find.at st1 ver1 _ c1 l1 _ _ hl1 (c_B HR1.out (Box3.start w _ _ _).below) HC1.out).mono ?_;rintro e w1 ⟨rfl,hb1⟩;rw [HP1.out];have D := aS (Box3.init hb1);clear hb1;obtain ⟨r0,r1,r2,r3,r4⟩ := cells_5 D.out.h1;obtain ⟨s0,s1,s2⟩ := cells_3 D.out.h2;obtain ⟨t0,t1,t2⟩ := cells_3 D.out.h3))
  obtain ⟨v0,v1,v2,v3,v4⟩ := HY.out _ D.out.below
  refine wp_region_below (by kernel_rfl) (by kernel_rfl) ?_
  repeat (refine wpQuiet_step (fun K hK => ?_);refine (if_pos rfl).mpr ?_;apply Exists.intro;refine ⟨fun w' hw' => ?_,hK _ ?_⟩;(have hc := below_cells hw';unfold Oper.quietAt;go_simp;first | done | rfl | exact ⟨rfl,rfl⟩ | (go_at_call 64;exact (groatref11_Value.at y tx _ HTX.out).mono fun e w2 ⟨he,hb⟩ => ⟨he,b_s hw' hb⟩));clear hK K)
  refine wpQuiet_nil ?_
  intro wq hw'
  have HB := aS (b_s D.out.below hw')
  have HR : Aside0 (specValue y tx = 0 → ruleOk l1 l2 ⟨3,0,t2',tx,[]⟩) := ⟨fun h => ruleOk_3 HF2.out h⟩
  clear hw' D r0 r1 r2 r3 r4 s0 s1 s2 t0 t1 t2 v0 v1 v2 v3 v4
  simp only [Act.put,sA,sB,sC]
  go_wp2
  go_ret
  exact ⟨⟨_,rfl,HR.out⟩,HB.out⟩
 subst ht
 go_enter func129,ntmps129
 go_wp2_with (first | (go_at_call 56;have D0 := D;clear D0;refine (groatref13_Find.at st2 ver2 _ c2 l2 _ _ hl2 (c_B HR2.out D.out.below) HC2.out).mono ?_;rintro e w2 ⟨rfl,hb1⟩;rw [HP2.out];have D_ := aS (D.out.step hb1);clear r0 r1 r2 r3 r4 s0 s1 s2 t0 t1 t2;clear D hb1;have D := D_;clear D_;obtain ⟨r0,r1,r2,r3,r4⟩ := cells_5 D.out.h1;obtain ⟨s0,s1,s2⟩ := cells_3 D.out.h2;obtain ⟨t0,t1,t2⟩ := cells_3 D.out.h3) | (go_at_call 56;refine (groatref13_Find.at st1 ver1 _ c1 l1 _ _ hl1 (c_B HR1.out (Box3.start w _ _ _).below) HC1.out).mono ?_;rintro e w1 ⟨rfl,hb1⟩;rw [HP1.out];have D := aS (Box3.init hb1);clear hb1;obtain ⟨r0,r1,r2,r3,r4⟩ := cells_5 D.out.h1;obtain ⟨s0,s1,s2⟩ := cells_3 D.out.h2;obtain ⟨t0,t1,t2⟩ := cells_3 D.out.h3))
 obtain ⟨v0,v1,v2,v3,v4⟩ := HY.out _ D.out.below
 refine wp_region_below (by kernel_rfl) (by kernel_rfl) ?_
 repeat (refine wpQuiet_step (fun K hK => ?_);refine (if_pos rfl).mpr ?_;apply Exists.intro;refine ⟨fun w' hw' => ?_,hK _ ?_⟩;(have hc := below_cells hw';unfold Oper.quietAt;go_simp;first | done | rfl | exact ⟨rfl,rfl⟩ | (go_at_call 64;exact (groatref11_Value.at y _ _ HTX.out).mono fun e w2 ⟨he,hb⟩ => ⟨he,b_s hw' hb⟩));clear hK K)
 refine wpQuiet_nil ?_
 intro wq hw'
 have HB := aS (b_s D.out.below hw')
 have HR : Aside0 (specValue y ⟨#[]⟩ = 0 → ruleOk l1 l2 ⟨3,0,t2',⟨#[]⟩,[]⟩) := ⟨fun h => ruleOk_3 HF2.out h⟩
 clear hw' D r0 r1 r2 r3 r4 s0 s1 s2 t0 t1 t2 v0 v1 v2 v3 v4
 simp only [Act.put,sA,sB,sC]
 go_wp2
 go_ret
 exact ⟨⟨_,rfl,HR.out⟩,HB.out⟩
set_option maxHeartbeats 4000000 in
theorem groatref20_Check4.at (fr t2' : Int) (tx : ByteArray) (ps : List S66) (B : Option Addr) (d : Nat) (st1 ver1 : Int) (A1 : Option Addr) (c1 : Nat) (l1 : List S87) (st2 ver2 : Int) (A2 : Option Addr) (c2 : Nat) (l2 : List S87) (w : World) (hl1 : l1.length ≤ 4611686018427387904) (hl2 : l2.length ≤ 4611686018427387904)
  (hr1 : Kd.C k87 w A1 l1.length l1) (hc1 : l1.length ≤ c1) (hr2 : Kd.C k87 w A2 l2.length l2) (hc2 : l2.length ≤ c2) (hrp : Kd.C k66 w B ps.length ps) (hcp : ps.length ≤ d) (hpl : ps.length ≤ 4611686018427387904) (htx : tx.size ≤ 1000000) (hps : ∀ p ∈ ps,p.f0.size ≤ 1000000 ∧ p.f1.size ≤ 1000000) :
  Calls prog 129 #[.agg #[.int .i64 4,.int .i64 fr,.int .i64 t2',.string tx,.slice B ps.length d],.agg #[.int .i64 st1,.int .i64 ver1,.slice A1 l1.length c1],.agg #[.int .i64 st2,.int .i64 ver2,.slice A2 l2.length c2]] w fun e w' => Chk1 (ruleOk l1 l2 ⟨4,fr,t2',tx,ps⟩) e ∧ Below w.heap.size w w' := by
 have hu24 := underlying24
 have hu87 := underlying87
 have hu94 := underlying94
 have hu66 := underlying66
 have HR1 := aS hr1
 have HC1 := aS hc1
 have HR2 := aS hr2
 have HC2 := aS hc2
 have HRp := aS hrp
 have HCp := aS hcp
 have HTX := aS htx
 have HPS := aS hps
 clear hr1 hc1 hr2 hc2 hrp hcp htx hps
 obtain ⟨n1,hn1⟩ : ∃ n,placeS fr l1 0 = n := ⟨_,rfl⟩
 obtain ⟨n2,hn2⟩ : ∃ n,placeS t2' l2 0 = n := ⟨_,rfl⟩
 have hp1 := placeS_cases fr l1
 have hp2 := placeS_cases t2' l2
 rw [hn1] at hp1
 rw [hn2] at hp2
 have HP1 := aS hn1
 have HP2 := aS hn2
 clear hn1 hn2
 rcases hp1 with ⟨rfl,_⟩ | ⟨k1,rfl,h1,hf1⟩
 ·clear hp2
  go_enter func129,ntmps129
  go_wp2_with (first | (go_at_call 56;have D0 := D;clear D0;refine (groatref13_Find.at st2 ver2 _ c2 l2 _ _ hl2 (c_B HR2.out D.out.below) HC2.out).mono ?_;rintro e w2 ⟨rfl,hb1⟩;rw [HP2.out];have D_ := aS (D.out.step hb1);clear r0 r1 r2 r3 r4 s0 s1 s2 t0 t1 t2;clear D hb1;have D := D_;clear D_;obtain ⟨r0,r1,r2,r3,r4⟩ := cells_5 D.out.h1;obtain ⟨s0,s1,s2⟩ := cells_3 D.out.h2;obtain ⟨t0,t1,t2⟩ := cells_3 D.out.h3) | (go_at_call 56;refine (groatref13_Find.at st1 ver1 _ c1 l1 _ _ hl1 (c_B HR1.out (Box3.start w _ _ _).below) HC1.out).mono ?_;rintro e w1 ⟨rfl,hb1⟩;rw [HP1.out];have D := aS (Box3.init hb1);clear hb1;obtain ⟨r0,r1,r2,r3,r4⟩ := cells_5 D.out.h1;obtain ⟨s0,s1,s2⟩ := cells_3 D.out.h2;obtain ⟨t0,t1,t2⟩ := cells_3 D.out.h3))
  all_goals go_ret
  all_goals exact ⟨⟨_,rfl,fun h => absurd h (by decide)⟩,by first | exact D.out.below | exact (Box3.start w _ _ _).below⟩
 have d1 : decide ((k1 : Int) < 0) = false := d_F (by omega)
 have HF1 := aS hf1
 clear hf1
 rcases hp2 with ⟨rfl,_⟩ | ⟨k2,rfl,h2,hf2⟩
 ·skip
  go_enter func129,ntmps129
  go_wp2_with (first | (go_at_call 56;have D0 := D;clear D0;refine (groatref13_Find.at st2 ver2 _ c2 l2 _ _ hl2 (c_B HR2.out D.out.below) HC2.out).mono ?_;rintro e w2 ⟨rfl,hb1⟩;rw [HP2.out];have D_ := aS (D.out.step hb1);clear r0 r1 r2 r3 r4 s0 s1 s2 t0 t1 t2;clear D hb1;have D := D_;clear D_;obtain ⟨r0,r1,r2,r3,r4⟩ := cells_5 D.out.h1;obtain ⟨s0,s1,s2⟩ := cells_3 D.out.h2;obtain ⟨t0,t1,t2⟩ := cells_3 D.out.h3) | (go_at_call 56;refine (groatref13_Find.at st1 ver1 _ c1 l1 _ _ hl1 (c_B HR1.out (Box3.start w _ _ _).below) HC1.out).mono ?_;rintro e w1 ⟨rfl,hb1⟩;rw [HP1.out];have D := aS (Box3.init hb1);clear hb1;obtain ⟨r0,r1,r2,r3,r4⟩ := cells_5 D.out.h1;obtain ⟨s0,s1,s2⟩ := cells_3 D.out.h2;obtain ⟨t0,t1,t2⟩ := cells_3 D.out.h3))
  all_goals go_ret
  all_goals exact ⟨⟨_,rfl,fun h => absurd h (by decide)⟩,by first | exact D.out.below | exact (Box3.start w _ _ _).below⟩
 have d2 : decide ((k2 : Int) < 0) = false := d_F (by omega)
 have HF2 := aS hf2
 clear hf2
 rcases (Decidable.em (tx = ⟨#[]⟩)).symm with ht | ht
 ·have e0 : (tx.toList == ([] : List UInt8)) = false := by
   rw [beq_eq_false_iff_ne,ne_eq]
   intro h
   rw [ByteArray.toList_eq] at h
   exact ht (by cases tx;simp_all)
  have e1 : (tx.toList != ([] : List UInt8)) = true := by rw [bne,e0];rfl
  clear ht
  go_enter func129,ntmps129
  go_wp2_with (first | (go_at_call 56;have D0 := D;clear D0;refine (groatref13_Find.at st2 ver2 _ c2 l2 _ _ hl2 (c_B HR2.out D.out.below) HC2.out).mono ?_;rintro e w2 ⟨rfl,hb1⟩;rw [HP2.out];have D_ := aS (D.out.step hb1);clear r0 r1 r2 r3 r4 s0 s1 s2 t0 t1 t2;clear D hb1;have D := D_;clear D_;obtain ⟨r0,r1,r2,r3,r4⟩ := cells_5 D.out.h1;obtain ⟨s0,s1,s2⟩ := cells_3 D.out.h2;obtain ⟨t0,t1,t2⟩ := cells_3 D.out.h3) | (go_at_call 56;refine (groatref13_Find.at st1 ver1 _ c1 l1 _ _ hl1 (c_B HR1.out (Box3.start w _ _ _).below) HC1.out).mono ?_;rintro e w1 ⟨rfl,hb1⟩;rw [HP1.out];have D := aS (Box3.init hb1);clear hb1;obtain ⟨r0,r1,r2,r3,r4⟩ := cells_5 D.out.h1;obtain ⟨s0,s1,s2⟩ := cells_3 D.out.h2;obtain ⟨t0,t1,t2⟩ := cells_3 D.out.h3))
  all_goals go_ret
  all_goals exact ⟨⟨_,rfl,fun h => absurd h (by decide)⟩,by first | exact D.out.below | exact (Box3.start w _ _ _).below⟩
 subst ht
 rcases (Decidable.em (0 < ps.length)) with h0 | h0
 ·have e0 : decide (0 < (ps.length : Int)) = true := d_T (by omega)
  have e1 : decide (0 < ps.length) = true := d_T h0
  skip
  go_enter func129,ntmps129
  go_wp2_with (first | (go_at_call 56;have D0 := D;clear D0;refine (groatref13_Find.at st2 ver2 _ c2 l2 _ _ hl2 (c_B HR2.out D.out.below) HC2.out).mono ?_;rintro e w2 ⟨rfl,hb1⟩;rw [HP2.out];have D_ := aS (D.out.step hb1);clear r0 r1 r2 r3 r4 s0 s1 s2 t0 t1 t2;clear D hb1;have D := D_;clear D_;obtain ⟨r0,r1,r2,r3,r4⟩ := cells_5 D.out.h1;obtain ⟨s0,s1,s2⟩ := cells_3 D.out.h2;obtain ⟨t0,t1,t2⟩ := cells_3 D.out.h3) | (go_at_call 56;refine (groatref13_Find.at st1 ver1 _ c1 l1 _ _ hl1 (c_B HR1.out (Box3.start w _ _ _).below) HC1.out).mono ?_;rintro e w1 ⟨rfl,hb1⟩;rw [HP1.out];have D := aS (Box3.init hb1);clear hb1;obtain ⟨r0,r1,r2,r3,r4⟩ := cells_5 D.out.h1;obtain ⟨s0,s1,s2⟩ := cells_3 D.out.h2;obtain ⟨t0,t1,t2⟩ := cells_3 D.out.h3))
  all_goals go_ret
  all_goals exact ⟨⟨_,rfl,fun h => absurd h (by decide)⟩,by first | exact D.out.below | exact (Box3.start w _ _ _).below⟩
 obtain rfl : ps = [] := List.length_eq_zero_iff.1 (by omega)
 clear h0
 obtain ⟨ad1,rfl,hx0,hx1,hx2,hx3,hx4⟩ := at87 HR1.out (Below.refl _ _) k1 h1
 have p1 : (0 ≤ (k1 : Int)) = True := eq_true (by omega)
 have q1 : ((k1 : Int) < l1.length) = True := eq_true (by omega)
 generalize rd_T87 l1 (k1 : Int) = x at *
 have HX : Aside0 (∀ W,Below w.heap.size w W → W.cell? (ad1.add (k1 * 5)) = some (.int .i64 x.f0) ∧ W.cell? ⟨(ad1.add (k1 * 5)).block,(ad1.add (k1 * 5)).off + 1,none⟩ = some (.int .i64 x.f1) ∧ W.cell? ⟨(ad1.add (k1 * 5)).block,(ad1.add (k1 * 5)).off + 2,none⟩ = some (.int .i64 x.f2) ∧ W.cell? ⟨(ad1.add (k1 * 5)).block,(ad1.add (k1 * 5)).off + 3,none⟩ = some (.int .i64 x.f3) ∧ W.cell? ⟨(ad1.add (k1 * 5)).block,(ad1.add (k1 * 5)).off + 4,none⟩ = some (.int .i64 x.f4)) :=
  ⟨fun W hb => have up : ∀ {a : Addr} {v : Value},w.cell? a = some v → W.cell? a = some v := fun hx => (hb.cell (World.block_lt_of_cell? w _ hx)).trans hx
   ⟨up hx0,up hx1,up hx2,up hx3,up hx4⟩⟩
 clear hx0 hx1 hx2 hx3 hx4
 obtain ⟨ad2,rfl,hx0,hx1,hx2,hx3,hx4⟩ := at87 HR2.out (Below.refl _ _) k2 h2
 have p2 : (0 ≤ (k2 : Int)) = True := eq_true (by omega)
 have q2 : ((k2 : Int) < l2.length) = True := eq_true (by omega)
 generalize rd_T87 l2 (k2 : Int) = y at *
 have HY : Aside0 (∀ W,Below w.heap.size w W → W.cell? (ad2.add (k2 * 5)) = some (.int .i64 y.f0) ∧ W.cell? ⟨(ad2.add (k2 * 5)).block,(ad2.add (k2 * 5)).off + 1,none⟩ = some (.int .i64 y.f1) ∧ W.cell? ⟨(ad2.add (k2 * 5)).block,(ad2.add (k2 * 5)).off + 2,none⟩ = some (.int .i64 y.f2) ∧ W.cell? ⟨(ad2.add (k2 * 5)).block,(ad2.add (k2 * 5)).off + 3,none⟩ = some (.int .i64 y.f3) ∧ W.cell? ⟨(ad2.add (k2 * 5)).block,(ad2.add (k2 * 5)).off + 4,none⟩ = some (.int .i64 y.f4)) :=
  ⟨fun W hb => have up : ∀ {a : Addr} {v : Value},w.cell? a = some v → W.cell? a = some v := fun hx => (hb.cell (World.block_lt_of_cell? w _ hx)).trans hx
   ⟨up hx0,up hx1,up hx2,up hx3,up hx4⟩⟩
 clear hx0 hx1 hx2 hx3 hx4
 have HR : Aside0 (x.f1 = 1 → x.f2 = 1 → y.f1 = 1 → y.f2 = 1 → ruleOk l1 l2 ⟨4,fr,t2',⟨#[]⟩,[]⟩) := ⟨fun a b c e => ruleOk_4 HF1.out HF2.out a b c e⟩
 go_enter func129,ntmps129
 go_wp2_with (first | (go_at_call 56;have D0 := D;clear D0;refine (groatref13_Find.at st2 ver2 _ c2 l2 _ _ hl2 (c_B HR2.out D.out.below) HC2.out).mono ?_;rintro e w2 ⟨rfl,hb1⟩;rw [HP2.out];have D_ := aS (D.out.step hb1);clear r0 r1 r2 r3 r4 s0 s1 s2 t0 t1 t2;clear D hb1;have D := D_;clear D_;obtain ⟨r0,r1,r2,r3,r4⟩ := cells_5 D.out.h1;obtain ⟨s0,s1,s2⟩ := cells_3 D.out.h2;obtain ⟨t0,t1,t2⟩ := cells_3 D.out.h3;obtain ⟨u0,u1,u2,u3,u4⟩ := HX.out _ D.out.below;obtain ⟨v0,v1,v2,v3,v4⟩ := HY.out _ D.out.below;have XA := fun o => HX.out _ (b_s D.out.below (b_l (Below.refl _ _) o));have YA := fun o => HY.out _ (b_s D.out.below (b_l (Below.refl _ _) o));have S3 := cells_3a D.out.h3) | (go_at_call 56;refine (groatref13_Find.at st1 ver1 _ c1 l1 _ _ hl1 (c_B HR1.out (Box3.start w _ _ _).below) HC1.out).mono ?_;rintro e w1 ⟨rfl,hb1⟩;rw [HP1.out];have D := aS (Box3.init hb1);clear hb1;obtain ⟨r0,r1,r2,r3,r4⟩ := cells_5 D.out.h1;obtain ⟨s0,s1,s2⟩ := cells_3 D.out.h2;obtain ⟨t0,t1,t2⟩ := cells_3 D.out.h3))
 all_goals go_ret
 all_goals first | exact ⟨⟨_,rfl,fun h => absurd h (by decide)⟩,b_s D.out.below (bA _ _)⟩ | skip
 all_goals first | exact ⟨⟨_,rfl,fun _ => HR.out (by first | omega | exact bne_eq_false_iff_eq.1 (by assumption)) (by first | omega | exact bne_eq_false_iff_eq.1 (by assumption)) (by first | omega | exact bne_eq_false_iff_eq.1 (by assumption)) (by first | omega | exact bne_eq_false_iff_eq.1 (by assumption))⟩,b_s D.out.below (bA _ _)⟩
set_option maxHeartbeats 4000000 in
theorem groatref20_Check5.at (fr t2' : Int) (tx : ByteArray) (ps : List S66) (B : Option Addr) (d : Nat) (st1 ver1 : Int) (A1 : Option Addr) (c1 : Nat) (l1 : List S87) (st2 ver2 : Int) (A2 : Option Addr) (c2 : Nat) (l2 : List S87) (w : World) (hl1 : l1.length ≤ 4611686018427387904) (hl2 : l2.length ≤ 4611686018427387904)
  (hr1 : Kd.C k87 w A1 l1.length l1) (hc1 : l1.length ≤ c1) (hr2 : Kd.C k87 w A2 l2.length l2) (hc2 : l2.length ≤ c2) (hrp : Kd.C k66 w B ps.length ps) (hcp : ps.length ≤ d) (hpl : ps.length ≤ 4611686018427387904) (htx : tx.size ≤ 1000000) (hps : ∀ p ∈ ps,p.f0.size ≤ 1000000 ∧ p.f1.size ≤ 1000000) :
  Calls prog 129 #[.agg #[.int .i64 5,.int .i64 fr,.int .i64 t2',.string tx,.slice B ps.length d],.agg #[.int .i64 st1,.int .i64 ver1,.slice A1 l1.length c1],.agg #[.int .i64 st2,.int .i64 ver2,.slice A2 l2.length c2]] w fun e w' => Chk1 (ruleOk l1 l2 ⟨5,fr,t2',tx,ps⟩) e ∧ Below w.heap.size w w' := by
 have hu24 := underlying24
 have hu87 := underlying87
 have hu94 := underlying94
 have hu66 := underlying66
 have HR1 := aS hr1
 have HC1 := aS hc1
 have HR2 := aS hr2
 have HC2 := aS hc2
 have HRp := aS hrp
 have HCp := aS hcp
 have HTX := aS htx
 have HPS := aS hps
 clear hr1 hc1 hr2 hc2 hrp hcp htx hps
 obtain ⟨n1,hn1⟩ : ∃ n,placeS fr l1 0 = n := ⟨_,rfl⟩
 obtain ⟨n2,hn2⟩ : ∃ n,placeS t2' l2 0 = n := ⟨_,rfl⟩
 have hp1 := placeS_cases fr l1
 have hp2 := placeS_cases t2' l2
 rw [hn1] at hp1
 rw [hn2] at hp2
 have HP1 := aS hn1
 have HP2 := aS hn2
 clear hn1 hn2
 rcases hp1 with ⟨rfl,_⟩ | ⟨k1,rfl,h1,hf1⟩
 ·clear hp2
  go_enter func129,ntmps129
  go_wp2_with (first | (go_at_call 56;have D0 := D;clear D0;refine (groatref13_Find.at st2 ver2 _ c2 l2 _ _ hl2 (c_B HR2.out D.out.below) HC2.out).mono ?_;rintro e w2 ⟨rfl,hb1⟩;rw [HP2.out];have D_ := aS (D.out.step hb1);clear r0 r1 r2 r3 r4 s0 s1 s2 t0 t1 t2;clear D hb1;have D := D_;clear D_;obtain ⟨r0,r1,r2,r3,r4⟩ := cells_5 D.out.h1;obtain ⟨s0,s1,s2⟩ := cells_3 D.out.h2;obtain ⟨t0,t1,t2⟩ := cells_3 D.out.h3) | (go_at_call 56;refine (groatref13_Find.at st1 ver1 _ c1 l1 _ _ hl1 (c_B HR1.out (Box3.start w _ _ _).below) HC1.out).mono ?_;rintro e w1 ⟨rfl,hb1⟩;rw [HP1.out];have D := aS (Box3.init hb1);clear hb1;obtain ⟨r0,r1,r2,r3,r4⟩ := cells_5 D.out.h1;obtain ⟨s0,s1,s2⟩ := cells_3 D.out.h2;obtain ⟨t0,t1,t2⟩ := cells_3 D.out.h3))
  all_goals go_ret
  all_goals exact ⟨⟨_,rfl,fun h => absurd h (by decide)⟩,by first | exact D.out.below | exact (Box3.start w _ _ _).below⟩
 have d1 : decide ((k1 : Int) < 0) = false := d_F (by omega)
 have HF1 := aS hf1
 clear hf1
 rcases hp2 with ⟨rfl,_⟩ | ⟨k2,rfl,h2,hf2⟩
 ·skip
  go_enter func129,ntmps129
  go_wp2_with (first | (go_at_call 56;have D0 := D;clear D0;refine (groatref13_Find.at st2 ver2 _ c2 l2 _ _ hl2 (c_B HR2.out D.out.below) HC2.out).mono ?_;rintro e w2 ⟨rfl,hb1⟩;rw [HP2.out];have D_ := aS (D.out.step hb1);clear r0 r1 r2 r3 r4 s0 s1 s2 t0 t1 t2;clear D hb1;have D := D_;clear D_;obtain ⟨r0,r1,r2,r3,r4⟩ := cells_5 D.out.h1;obtain ⟨s0,s1,s2⟩ := cells_3 D.out.h2;obtain ⟨t0,t1,t2⟩ := cells_3 D.out.h3) | (go_at_call 56;refine (groatref13_Find.at st1 ver1 _ c1 l1 _ _ hl1 (c_B HR1.out (Box3.start w _ _ _).below) HC1.out).mono ?_;rintro e w1 ⟨rfl,hb1⟩;rw [HP1.out];have D := aS (Box3.init hb1);clear hb1;obtain ⟨r0,r1,r2,r3,r4⟩ := cells_5 D.out.h1;obtain ⟨s0,s1,s2⟩ := cells_3 D.out.h2;obtain ⟨t0,t1,t2⟩ := cells_3 D.out.h3))
  all_goals go_ret
  all_goals exact ⟨⟨_,rfl,fun h => absurd h (by decide)⟩,by first | exact D.out.below | exact (Box3.start w _ _ _).below⟩
 have d2 : decide ((k2 : Int) < 0) = false := d_F (by omega)
 have HF2 := aS hf2
 clear hf2
 rcases (Decidable.em (tx = ⟨#[]⟩)).symm with ht | ht
 ·have e0 : (tx.toList == ([] : List UInt8)) = false := by
   rw [beq_eq_false_iff_ne,ne_eq]
   intro h
   rw [ByteArray.toList_eq] at h
   exact ht (by cases tx;simp_all)
  have e1 : (tx.toList != ([] : List UInt8)) = true := by rw [bne,e0];rfl
  clear ht
  go_enter func129,ntmps129
  go_wp2_with (first | (go_at_call 56;have D0 := D;clear D0;refine (groatref13_Find.at st2 ver2 _ c2 l2 _ _ hl2 (c_B HR2.out D.out.below) HC2.out).mono ?_;rintro e w2 ⟨rfl,hb1⟩;rw [HP2.out];have D_ := aS (D.out.step hb1);clear r0 r1 r2 r3 r4 s0 s1 s2 t0 t1 t2;clear D hb1;have D := D_;clear D_;obtain ⟨r0,r1,r2,r3,r4⟩ := cells_5 D.out.h1;obtain ⟨s0,s1,s2⟩ := cells_3 D.out.h2;obtain ⟨t0,t1,t2⟩ := cells_3 D.out.h3) | (go_at_call 56;refine (groatref13_Find.at st1 ver1 _ c1 l1 _ _ hl1 (c_B HR1.out (Box3.start w _ _ _).below) HC1.out).mono ?_;rintro e w1 ⟨rfl,hb1⟩;rw [HP1.out];have D := aS (Box3.init hb1);clear hb1;obtain ⟨r0,r1,r2,r3,r4⟩ := cells_5 D.out.h1;obtain ⟨s0,s1,s2⟩ := cells_3 D.out.h2;obtain ⟨t0,t1,t2⟩ := cells_3 D.out.h3))
  all_goals go_ret
  all_goals exact ⟨⟨_,rfl,fun h => absurd h (by decide)⟩,by first | exact D.out.below | exact (Box3.start w _ _ _).below⟩
 subst ht
 rcases (Decidable.em (0 < ps.length)).symm with h0 | h0
 ·have e0 : decide (0 < (ps.length : Int)) = false := d_F (by omega)
  have e1 : decide (0 < ps.length) = false := d_F h0
  have e2 : ((ps.length : Int) == 0) = true := beq_iff_eq.mpr (by omega)
  clear h0
  go_enter func129,ntmps129
  go_wp2_with (first | (go_at_call 162;refine (groatref19_Check.at B d ps _ hpl (c_B HRp.out D.out.below) HCp.out).mono ?_;rintro e w3 ⟨⟨rr,qq,rfl,hrr⟩,rfl⟩;have HRR := aS hrr;clear hrr) | (go_at_call 56;have D0 := D;clear D0;refine (groatref13_Find.at st2 ver2 _ c2 l2 _ _ hl2 (c_B HR2.out D.out.below) HC2.out).mono ?_;rintro e w2 ⟨rfl,hb1⟩;rw [HP2.out];have D_ := aS (D.out.step hb1);clear r0 r1 r2 r3 r4 s0 s1 s2 t0 t1 t2;clear D hb1;have D := D_;clear D_;obtain ⟨r0,r1,r2,r3,r4⟩ := cells_5 D.out.h1;obtain ⟨s0,s1,s2⟩ := cells_3 D.out.h2;obtain ⟨t0,t1,t2⟩ := cells_3 D.out.h3) | (go_at_call 56;refine (groatref13_Find.at st1 ver1 _ c1 l1 _ _ hl1 (c_B HR1.out (Box3.start w _ _ _).below) HC1.out).mono ?_;rintro e w1 ⟨rfl,hb1⟩;rw [HP1.out];have D := aS (Box3.init hb1);clear hb1;obtain ⟨r0,r1,r2,r3,r4⟩ := cells_5 D.out.h1;obtain ⟨s0,s1,s2⟩ := cells_3 D.out.h2;obtain ⟨t0,t1,t2⟩ := cells_3 D.out.h3))
  all_goals have HB := aS D.out.below
  all_goals go_ret
  all_goals exact ⟨⟨_,rfl,fun h => absurd h (by decide)⟩,HB.out⟩
 have e0 : decide (0 < (ps.length : Int)) = true := d_T (by omega)
 have e1 : decide (0 < ps.length) = true := d_T h0
 have e2 : ((ps.length : Int) == 0) = false := beq_eq_false_iff_ne.mpr (by omega)
 have H0 := aS h0
 clear h0
 obtain ⟨ad1,rfl,hx0,hx1,hx2,hx3,hx4⟩ := at87 HR1.out (Below.refl _ _) k1 h1
 have p1 : (0 ≤ (k1 : Int)) = True := eq_true (by omega)
 have q1 : ((k1 : Int) < l1.length) = True := eq_true (by omega)
 generalize rd_T87 l1 (k1 : Int) = x at *
 have HX : Aside0 (∀ W,Below w.heap.size w W → W.cell? (ad1.add (k1 * 5)) = some (.int .i64 x.f0) ∧ W.cell? ⟨(ad1.add (k1 * 5)).block,(ad1.add (k1 * 5)).off + 1,none⟩ = some (.int .i64 x.f1) ∧ W.cell? ⟨(ad1.add (k1 * 5)).block,(ad1.add (k1 * 5)).off + 2,none⟩ = some (.int .i64 x.f2) ∧ W.cell? ⟨(ad1.add (k1 * 5)).block,(ad1.add (k1 * 5)).off + 3,none⟩ = some (.int .i64 x.f3) ∧ W.cell? ⟨(ad1.add (k1 * 5)).block,(ad1.add (k1 * 5)).off + 4,none⟩ = some (.int .i64 x.f4)) :=
  ⟨fun W hb => have up : ∀ {a : Addr} {v : Value},w.cell? a = some v → W.cell? a = some v := fun hx => (hb.cell (World.block_lt_of_cell? w _ hx)).trans hx
   ⟨up hx0,up hx1,up hx2,up hx3,up hx4⟩⟩
 clear hx0 hx1 hx2 hx3 hx4
 obtain ⟨ad2,rfl,hx0,hx1,hx2,hx3,hx4⟩ := at87 HR2.out (Below.refl _ _) k2 h2
 have p2 : (0 ≤ (k2 : Int)) = True := eq_true (by omega)
 have q2 : ((k2 : Int) < l2.length) = True := eq_true (by omega)
 generalize rd_T87 l2 (k2 : Int) = y at *
 have HY : Aside0 (∀ W,Below w.heap.size w W → W.cell? (ad2.add (k2 * 5)) = some (.int .i64 y.f0) ∧ W.cell? ⟨(ad2.add (k2 * 5)).block,(ad2.add (k2 * 5)).off + 1,none⟩ = some (.int .i64 y.f1) ∧ W.cell? ⟨(ad2.add (k2 * 5)).block,(ad2.add (k2 * 5)).off + 2,none⟩ = some (.int .i64 y.f2) ∧ W.cell? ⟨(ad2.add (k2 * 5)).block,(ad2.add (k2 * 5)).off + 3,none⟩ = some (.int .i64 y.f3) ∧ W.cell? ⟨(ad2.add (k2 * 5)).block,(ad2.add (k2 * 5)).off + 4,none⟩ = some (.int .i64 y.f4)) :=
  ⟨fun W hb => have up : ∀ {a : Addr} {v : Value},w.cell? a = some v → W.cell? a = some v := fun hx => (hb.cell (World.block_lt_of_cell? w _ hx)).trans hx
   ⟨up hx0,up hx1,up hx2,up hx3,up hx4⟩⟩
 clear hx0 hx1 hx2 hx3 hx4
 go_enter func129,ntmps129
 go_wp2_with (first | (go_at_call 162;refine (groatref19_Check.at B d ps _ hpl (c_B HRp.out D.out.below) HCp.out).mono ?_;rintro e w3 ⟨⟨rr,qq,rfl,hrr⟩,rfl⟩;have HRR := aS hrr;clear hrr) | (go_at_call 56;have D0 := D;clear D0;refine (groatref13_Find.at st2 ver2 _ c2 l2 _ _ hl2 (c_B HR2.out D.out.below) HC2.out).mono ?_;rintro e w2 ⟨rfl,hb1⟩;rw [HP2.out];have D_ := aS (D.out.step hb1);clear r0 r1 r2 r3 r4 s0 s1 s2 t0 t1 t2;clear D hb1;have D := D_;clear D_;obtain ⟨r0,r1,r2,r3,r4⟩ := cells_5 D.out.h1;obtain ⟨s0,s1,s2⟩ := cells_3 D.out.h2;obtain ⟨t0,t1,t2⟩ := cells_3 D.out.h3) | (go_at_call 56;refine (groatref13_Find.at st1 ver1 _ c1 l1 _ _ hl1 (c_B HR1.out (Box3.start w _ _ _).below) HC1.out).mono ?_;rintro e w1 ⟨rfl,hb1⟩;rw [HP1.out];have D := aS (Box3.init hb1);clear hb1;obtain ⟨r0,r1,r2,r3,r4⟩ := cells_5 D.out.h1;obtain ⟨s0,s1,s2⟩ := cells_3 D.out.h2;obtain ⟨t0,t1,t2⟩ := cells_3 D.out.h3))
 all_goals first | (have HB := aS D.out.below;go_ret;exact ⟨⟨_,rfl,fun h => absurd h (by decide)⟩,HB.out⟩) | skip
 rename_i hrr0
 have HTB := aS (HRR.out hrr0)
 clear HRR hrr0 r0 r1 r2 r3 r4 s0 s1 s2 t0 t1 t2
 go_loopg [13] ps.length (fun g v13 w' => ∃ i : Nat,v13 = .int .i64 i ∧ i + g = ps.length ∧ Aside0 (∀ p ∈ ps.take i,specValue x p.f0 = 0 ∧ specValue y p.f1 = 0) ∧ Aside0 (Box3 w w' (.cells #[.int .i64 5,.int .i64 fr,.int .i64 t2',.string ⟨#[]⟩,.slice B ps.length d] 94) (.cells #[.int .i64 st1,.int .i64 ver1,.slice (some ad1) l1.length c1] 24) (.cells #[.int .i64 st2,.int .i64 ver2,.slice (some ad2) l2.length c2] 24)))
 case atStart => exact ⟨0,rfl,Nat.zero_add _,⟨fun p hp => by cases hp⟩,D⟩
 case round =>
  clear D e0 e1 e2
  obtain ⟨i,rfl,hi,HF,D⟩ := hrel
  obtain ⟨r0,r1,r2,r3,r4⟩ := cells_5 D.out.h1;obtain ⟨s0,s1,s2⟩ := cells_3 D.out.h2;obtain ⟨t0,t1,t2⟩ := cells_3 D.out.h3
  by_cases h : i < ps.length
  ·have e0 : decide ((i : Int) < ps.length) = true := d_T (by omega)
   obtain ⟨adp,rfl,hz0,hz1⟩ := at66 HRp.out (Below.refl _ _) i h
   have HZ : Aside0 (∀ W,Below w.heap.size w W → W.cell? (adp.add (i * 2)) = some (.string (rd_T66 ps (i : Int)).f0) ∧ W.cell? ⟨(adp.add (i * 2)).block,(adp.add (i * 2)).off + 1,none⟩ = some (.string (rd_T66 ps (i : Int)).f1)) :=
    ⟨fun W hb => ⟨(hb.cell (World.block_lt_of_cell? w _ hz0)).trans hz0,(hb.cell (World.block_lt_of_cell? w _ hz1)).trans hz1⟩⟩
   have HSZ := aS (HPS.out _ (rd_mem66 h))
   have HTK : Aside0 (specValue x (rd_T66 ps (i : Int)).f0 = 0 → specValue y (rd_T66 ps (i : Int)).f1 = 0 → ∀ p ∈ ps.take (i + 1),specValue x p.f0 = 0 ∧ specValue y p.f1 = 0) := ⟨fun a b p hp => by
    rw [List.take_succ_eq_append_getElem h] at hp
    rcases List.mem_append.1 hp with hp | hp
    ·exact HF.out p hp
    ·have e : rd_T66 ps (i : Int) = ps[i] := by simp [rd_T66,List.getD_eq_getElem?_getD,List.getElem?_eq_getElem h]
     rw [List.mem_singleton.1 hp,← e]
     exact ⟨a,b⟩⟩
   clear hz0 hz1
   have q3 : (0 ≤ (i : Int)) = True := eq_true (by omega)
   have q4 : ((i : Int) < ps.length) = True := eq_true (by omega)
   generalize rd_T66 ps (i : Int) = z at *
   go_wp2
   obtain ⟨u0,u1,u2,u3,u4⟩ := HX.out _ D.out.below
   obtain ⟨z0,z1⟩ := HZ.out _ D.out.below
   refine wp_region_below (by kernel_rfl) (by kernel_rfl) ?_
   repeat (refine wpQuiet_step (fun K hK => ?_);refine (if_pos rfl).mpr ?_;apply Exists.intro;refine ⟨fun w' hw' => ?_,hK _ ?_⟩;(have hc := below_cells hw';unfold Oper.quietAt;go_simp;first | done | rfl | exact ⟨rfl,rfl⟩ | (go_at_call 64;exact (groatref11_Value.at x z.f0 _ HSZ.out.1).mono fun e w2 ⟨he,hb⟩ => ⟨he,b_s hw' hb⟩));clear hK K)
   refine wpQuiet_nil ?_
   intro wq hw'
   have D_ := aS (D.out.step hw')
   clear hw' D r0 r1 r2 r3 r4 s0 s1 s2 t0 t1 t2 u0 u1 u2 u3 u4 z0 z1
   have D := D_
   clear D_
   obtain ⟨r0,r1,r2,r3,r4⟩ := cells_5 D.out.h1;obtain ⟨s0,s1,s2⟩ := cells_3 D.out.h2;obtain ⟨t0,t1,t2⟩ := cells_3 D.out.h3
   obtain ⟨v1,hv1⟩ : ∃ v,specValue x z.f0 = v := ⟨_,rfl⟩
   rw [hv1] at HTK ⊢
   clear hv1
   simp only [Act.put,sA,sB,sC]
   by_cases hv : v1 = 0
   ·have b1 : (v1 != 0) = false := bne_eq_false_iff_eq.mpr hv
    go_wp2
    obtain ⟨u0,u1,u2,u3,u4⟩ := HY.out _ D.out.below
    obtain ⟨z0,z1⟩ := HZ.out _ D.out.below
    refine wp_region_below (by kernel_rfl) (by kernel_rfl) ?_
    repeat (refine wpQuiet_step (fun K hK => ?_);refine (if_pos rfl).mpr ?_;apply Exists.intro;refine ⟨fun w' hw' => ?_,hK _ ?_⟩;(have hc := below_cells hw';unfold Oper.quietAt;go_simp;first | done | rfl | exact ⟨rfl,rfl⟩ | (go_at_call 64;exact (groatref11_Value.at y z.f1 _ HSZ.out.2).mono fun e w2 ⟨he,hb⟩ => ⟨he,b_s hw' hb⟩));clear hK K)
    refine wpQuiet_nil ?_
    intro wq hw'
    have D_ := aS (D.out.step hw')
    clear hw' D r0 r1 r2 r3 r4 s0 s1 s2 t0 t1 t2 u0 u1 u2 u3 u4 z0 z1
    have D := D_
    clear D_
    obtain ⟨r0,r1,r2,r3,r4⟩ := cells_5 D.out.h1;obtain ⟨s0,s1,s2⟩ := cells_3 D.out.h2;obtain ⟨t0,t1,t2⟩ := cells_3 D.out.h3
    obtain ⟨v2,hv2⟩ : ∃ v,specValue y z.f1 = v := ⟨_,rfl⟩
    rw [hv2] at HTK ⊢
    clear hv2
    simp only [Act.put,sA,sB,sC]
    by_cases hv' : v2 = 0
    ·have b2 : (v2 != 0) = false := bne_eq_false_iff_eq.mpr hv'
     have HN := aS (HTK.out hv hv')
     clear hv hv'
     go_wp2
     obtain ⟨g,rfl⟩ : ∃ g,gk = g + 1 := ⟨gk - 1,by omega⟩
     go_roundg g
     case rel => exact ⟨i + 1,rfl,by omega,HN,D⟩
     case measure => omega
    ·have b2 : (v2 != 0) = true := bne_iff_ne.mpr hv'
     have HN := aS hv'
     clear hv hv'
     go_wp2
     go_ret
     exact ⟨⟨_,rfl,fun h => absurd h HN.out⟩,D.out.below⟩
   ·have b1 : (v1 != 0) = true := bne_iff_ne.mpr hv
    have HN := aS hv
    clear hv
    go_wp2
    go_ret
    exact ⟨⟨_,rfl,fun h => absurd h HN.out⟩,D.out.below⟩
  ·have e0 : decide ((i : Int) < ps.length) = false := d_F (by omega)
   have HR : Aside0 (ruleOk l1 l2 ⟨5,fr,t2',⟨#[]⟩,ps⟩) := ⟨ruleOk_5 HF1.out HF2.out HTB.out (by have := H0.out;omega) (fun p hp => HF.out p (by rw [List.take_of_length_le (by omega)];exact hp))⟩
   go_wp2
   go_ret
   exact ⟨⟨_,rfl,fun _ => HR.out⟩,D.out.below⟩
set_option maxHeartbeats 1000000 in
theorem groatref20_Check.at (r : S94) (B : Option Addr) (d : Nat) (st1 ver1 : Int) (A1 : Option Addr) (c1 : Nat) (l1 : List S87) (st2 ver2 : Int) (A2 : Option Addr) (c2 : Nat) (l2 : List S87) (w : World) (hl1 : l1.length ≤ 4611686018427387904) (hl2 : l2.length ≤ 4611686018427387904)
  (hr1 : Kd.C k87 w A1 l1.length l1) (hc1 : l1.length ≤ c1) (hr2 : Kd.C k87 w A2 l2.length l2) (hc2 : l2.length ≤ c2) (hrp : Kd.C k66 w B r.f4.length r.f4) (hcp : r.f4.length ≤ d) (hpl : r.f4.length ≤ 4611686018427387904) (htx : r.f3.size ≤ 1000000) (hps : ∀ p ∈ r.f4,p.f0.size ≤ 1000000 ∧ p.f1.size ≤ 1000000) :
  Calls prog 129 #[v94 r B d,.agg #[.int .i64 st1,.int .i64 ver1,.slice A1 l1.length c1],.agg #[.int .i64 st2,.int .i64 ver2,.slice A2 l2.length c2]] w fun e w' => Chk1 (ruleOk l1 l2 r) e ∧ Below w.heap.size w w' := by
 rcases r with ⟨kd,fr,t2',tx,ps⟩
 simp only [v94]
 by_cases h1 : kd = 1
 ·subst h1;exact groatref20_Check1.at fr t2' tx ps B d st1 ver1 A1 c1 l1 st2 ver2 A2 c2 l2 w hl1 hl2 hr1 hc1 hr2 hc2 hrp hcp hpl htx hps
 by_cases h2 : kd = 2
 ·subst h2;exact groatref20_Check2.at fr t2' tx ps B d st1 ver1 A1 c1 l1 st2 ver2 A2 c2 l2 w hl1 hl2 hr1 hc1 hr2 hc2 hrp hcp hpl htx hps
 by_cases h3 : kd = 3
 ·subst h3;exact groatref20_Check3.at fr t2' tx ps B d st1 ver1 A1 c1 l1 st2 ver2 A2 c2 l2 w hl1 hl2 hr1 hc1 hr2 hc2 hrp hcp hpl htx hps
 by_cases h4 : kd = 4
 ·subst h4;exact groatref20_Check4.at fr t2' tx ps B d st1 ver1 A1 c1 l1 st2 ver2 A2 c2 l2 w hl1 hl2 hr1 hc1 hr2 hc2 hrp hcp hpl htx hps
 by_cases h5 : kd = 5
 ·subst h5;exact groatref20_Check5.at fr t2' tx ps B d st1 ver1 A1 c1 l1 st2 ver2 A2 c2 l2 w hl1 hl2 hr1 hc1 hr2 hc2 hrp hcp hpl htx hps
 have hu24 := underlying24
 have hu94 := underlying94
 clear hr1 hc1 hr2 hc2 hrp hcp htx hps
 by_cases h6 : kd < 1
 ·have d1 : decide (kd < 1) = true := d_T h6
  clear h1 h2 h3 h4 h5 h6
  go_enter func129,ntmps129
  go_wp2
  go_ret
  exact ⟨⟨_,rfl,fun h => absurd h (by decide)⟩,(Box3.start w _ _ _).below⟩
 ·have d1 : decide (kd < 1) = false := d_F h6
  have d2 : decide (5 < kd) = true := d_T (by omega)
  clear h1 h2 h3 h4 h5 h6
  go_enter func129,ntmps129
  go_wp2
  go_ret
  exact ⟨⟨_,rfl,fun h => absurd h (by decide)⟩,(Box3.start w _ _ _).below⟩
theorem fieldsOk_mk {l : List S87} {last : Int} {x : S63} {xs : List S63} (h1 : last < x.f0) (h2 : (findS x.f0 l).2 = true) (h3 : specValue (findS x.f0 l).1 x.f1 = 0) (h4 : fieldsOk l x.f0 xs = true) : fieldsOk l last (x :: xs) = true := by
 rw [fieldsOk,d_T h1,h2,d_T h3,h4];rfl
theorem fieldsOk_weak {l : List S87} {a b : Int} (hab : a ≤ b) : ∀ {xs : List S63},fieldsOk l b xs = true → fieldsOk l a xs = true
 | [],_ => rfl
 | x :: xs,h => by
  obtain ⟨h1,h2,h3,h4⟩ := fieldsOk_cons h
  exact fieldsOk_mk (by omega) h2 h3 h4
theorem fieldsOk_lt {l : List S87} : ∀ {last : Int} {xs : List S63},fieldsOk l last xs = true → ∀ x ∈ xs,last < x.f0
 | _,[],_,x,hx => by cases hx
 | last,y :: ys,h,x,hx => by
  obtain ⟨h1,h2,h3,h4⟩ := fieldsOk_cons h
  rcases List.mem_cons.1 hx with rfl | hx
  ·exact h1
  ·have := fieldsOk_lt h4 x hx;omega
theorem fieldsOk_mem {l : List S87} : ∀ {last : Int} {xs : List S63},fieldsOk l last xs = true → ∀ x ∈ xs,(findS x.f0 l).2 = true ∧ specValue (findS x.f0 l).1 x.f1 = 0
 | _,[],_,x,hx => by cases hx
 | last,y :: ys,h,x,hx => by
  obtain ⟨h1,h2,h3,h4⟩ := fieldsOk_cons h
  rcases List.mem_cons.1 hx with rfl | hx
  ·exact ⟨h2,h3⟩
  ·exact fieldsOk_mem h4 x hx
theorem fieldsOk_snoc {l : List S87} {no : Int} {t : ByteArray} (h2 : (findS no l).2 = true) (h3 : specValue (findS no l).1 t = 0) : ∀ {last : Int} {xs : List S63},fieldsOk l last xs = true → last < no → (∀ x ∈ xs,x.f0 < no) → fieldsOk l last (xs ++ [⟨no,t⟩]) = true
 | last,[],_,hl,_ => fieldsOk_mk hl h2 h3 rfl
 | last,y :: ys,h,hl,hx => by
  obtain ⟨k1,k2,k3,k4⟩ := fieldsOk_cons h
  exact fieldsOk_mk k1 k2 k3 (fieldsOk_snoc h2 h3 k4 (hx y List.mem_cons_self) (fun x hx' => hx x (List.mem_cons_of_mem _ hx')))
theorem decLoop_ok {st : Int} {l : List S87} {p : Int × Int} {b : ByteArray} (hst : st = 1 ∨ st = 2) (hl : ∀ x ∈ l,specCheck x = 0) : ∀ (d : Nat) (no i : Int) (xs : List S63),0 ≤ no → no ≤ 128 → 0 ≤ i → i ≤ b.size → fieldsOk l 0 xs = true → (no ≠ 0 → ∀ x ∈ xs,x.f0 < no) → fieldsOk l 0 (decLoop st l p b d no i xs).1 = true
 | 0,_,_,_,_,_,_,_,h,_ => h
 | d + 1,no,i,xs,h0,h1,i0,i1,h,hx => by
  rw [decLoop]
  by_cases c : no = 0
  ·rw [if_pos c];exact h
  rw [if_neg c]
  by_cases c2 : (findS no l).2 = false
  ·rw [if_pos c2];exact h
  rw [if_neg c2]
  have c2' : (findS no l).2 = true := by simpa using c2
  by_cases c3 : (cellG st (findS no l).1 b i).2.2 ≠ 0
  ·rw [if_pos c3];exact h
  rw [if_neg c3]
  have c3' : (cellG st (findS no l).1 b i).2.2 = 0 := by simpa using c3
  obtain ⟨g1,g2,g3⟩ := cellG_ok hst (hl _ (findS_ok c2').1) i0 i1 c3'
  have hn := nextS_range p no h0 h1
  refine decLoop_ok hst hl d _ _ _ (by omega) (by omega) g1 g2 (fieldsOk_snoc c2' g3 h (by omega) (hx c)) (fun hne x hx' => ?_)
  rcases List.mem_append.1 hx' with hx' | hx'
  ·have := hx c x hx';omega
  ·rw [List.mem_singleton.1 hx'];show no < _;omega
theorem typG_ver {st ver : Int} {b : ByteArray} (h : (typG st ver b).2.2 = 0) : verV (typG st ver b).1 = (ver,true) := by
 unfold typG at h ⊢
 (repeat' split at h) <;> first | (exact absurd h (by decide)) | skip
 ·rename_i a c d e
  rw [if_pos a,if_neg c,if_neg d,if_neg e]
  exact Prod.ext (by simpa using e) (by simpa using d)
 ·rename_i a c d e
  rw [if_neg a,if_neg c,if_neg d,if_neg e]
  exact Prod.ext (by simpa using e) (by simpa using d)
theorem decG_fields {st ver : Int} {l : List S87} {b : ByteArray} (hs : (schemaCheck st ver l).1 = 0) : fieldsOk l 0 (decG st ver l b).1.2 = true := by
 obtain ⟨hst,hv,hl⟩ := schemaCheck_ok hs
 unfold decG
 by_cases c : (typG st ver b).2.2 ≠ 0
 ·rw [if_pos c];rfl
 rw [if_neg c]
 have ht := typG_ok (by simpa using c : (typG st ver b).2.2 = 0)
 generalize (typG st ver b).2.1 = i at *
 generalize (typG st ver b).1 = m at *
 unfold decB
 by_cases c2 : (bmG st b i).2.2 ≠ 0
 ·rw [if_pos c2];rfl
 rw [if_neg c2]
 have hb := bmG_ok ht.1 ht.2 (by simpa using c2)
 have hn := nextS_range (bmG st b i).1 0 (by omega) (by omega)
 have hd := decLoop_ok (p := (bmG st b i).1) (b := b) hst hl 129 (nextS (bmG st b i).1 0) (bmG st b i).2.1 [] (by omega) (by omega) hb.1 hb.2 rfl (fun _ x hx => by cases hx)
 split
 ·exact hd
 ·split <;> exact hd
theorem decG_ver {st ver : Int} {l : List S87} {b : ByteArray} (h : (decG st ver l b).1.1 ≠ ⟨#[]⟩ ∨ (decG st ver l b).2.1 = 0) : verV (decG st ver l b).1.1 = (ver,true) := by
 unfold decG at h ⊢
 by_cases c : (typG st ver b).2.2 ≠ 0
 ·rw [if_pos c] at h
  rcases h with h | h
  ·exact absurd rfl h
  ·exact absurd h c
 rw [if_neg c]
 have ht := typG_ver (by simpa using c : (typG st ver b).2.2 = 0)
 have : (decB st l (typG st ver b).1 b (typG st ver b).2.1).1.1 = (typG st ver b).1 := by
  unfold decB
  (repeat' split) <;> rfl
 rw [this]
 exact ht
theorem decG_msgOk {st ver : Int} {l : List S87} {b : ByteArray} (hs : (schemaCheck st ver l).1 = 0) (h : (decG st ver l b).2.1 = 0) : msgOk st ver l (decG st ver l b).1.1 (decG st ver l b).1.2 = true := by
 unfold msgOk
 rw [d_T hs,d_T (decG_ver (.inr h)),decG_fields hs];rfl
def insR (no : Int) (t : ByteArray) : List S63 → List S63
 | [] => [⟨no,t⟩]
 | x :: xs => if no < x.f0 then ⟨no,t⟩ :: x :: xs else x :: insR no t xs
theorem idxS_shift (no : Int) : ∀ (xs : List S63) (i : Int),0 ≤ i → idxS no xs (i + 1) = if idxS no xs i < 0 then -1 else idxS no xs i + 1
 | [],i,_ => by simp [idxS]
 | x :: xs,i,hi => by
  by_cases c : no < x.f0
  ·rw [idxS,idxS,if_pos c,if_pos c,if_neg (by omega)]
  ·rw [idxS,idxS,if_neg c,if_neg c]
   exact idxS_shift no xs (i + 1) (by omega)
theorem insS_insR (no : Int) (t : ByteArray) : ∀ xs : List S63,insS no t xs = insR no t xs
 | [] => rfl
 | x :: xs => by
  have ih := insS_insR no t xs
  unfold insS placeW at ih ⊢
  rw [insR,idxS]
  by_cases c : no < x.f0
  ·rw [if_pos c,if_pos c,if_neg (by omega)];rfl
  ·rw [if_neg c,if_neg c,← ih,idxS_shift no xs 0 (by omega)]
   rcases idxS_range no xs 0 (by omega) with h | h
   ·rw [h]
    simp
   ·obtain ⟨n,hn⟩ : ∃ n : Nat,idxS no xs 0 = n := ⟨(idxS no xs 0).toNat,by omega⟩
    rw [hn,if_neg (show ¬ (n : Int) < 0 by omega),if_neg (show ¬ (n : Int) + 1 < 0 by omega),if_neg (show ¬ (n : Int) < 0 by omega),show ((n : Int) + 1).toNat = n + 1 by omega,Int.toNat_natCast]
    simp
theorem fieldsOk_insR {l : List S87} {no : Int} {t : ByteArray} (h2 : (findS no l).2 = true) (h3 : specValue (findS no l).1 t = 0) : ∀ {last : Int} {xs : List S63},fieldsOk l last xs = true → last < no → (∀ x ∈ xs,x.f0 ≠ no) → fieldsOk l last (insR no t xs) = true
 | last,[],_,hl,_ => fieldsOk_mk hl h2 h3 rfl
 | last,y :: ys,h,hl,hx => by
  obtain ⟨k1,k2,k3,k4⟩ := fieldsOk_cons h
  rw [insR]
  split
  ·exact fieldsOk_mk hl h2 h3 (fieldsOk_mk (by assumption) k2 k3 k4)
  ·exact fieldsOk_mk k1 k2 k3 (fieldsOk_insR h2 h3 k4 (by have := hx y List.mem_cons_self;omega) (fun x hx' => hx x (List.mem_cons_of_mem _ hx')))
theorem fieldsOk_without {l : List S87} (no : Int) : ∀ {last : Int} {xs : List S63},fieldsOk l last xs = true → fieldsOk l last (withoutS no xs) = true
 | _,[],_ => rfl
 | last,y :: ys,h => by
  obtain ⟨k1,k2,k3,k4⟩ := fieldsOk_cons h
  rw [withoutS]
  split
  ·exact fieldsOk_weak (by omega) (fieldsOk_without no k4)
  ·exact fieldsOk_mk k1 k2 k3 (fieldsOk_without no k4)
theorem without_ne (no : Int) : ∀ {xs : List S63},∀ x ∈ withoutS no xs,x.f0 ≠ no
 | [],x,hx => by cases hx
 | y :: ys,x,hx => by
  rw [withoutS] at hx
  split at hx
  ·exact without_ne no x hx
  ·rcases List.mem_cons.1 hx with rfl | hx
   ·assumption
   ·exact without_ne no x hx
theorem fieldsOk_withM {l : List S87} {no : Int} {t : ByteArray} {xs : List S63} (h0 : 0 < no) (h2 : (findS no l).2 = true) (h3 : specValue (findS no l).1 t = 0) (h : fieldsOk l 0 xs = true) : fieldsOk l 0 (withM no t xs) = true := by
 unfold withM
 rw [insS_insR]
 exact fieldsOk_insR h2 h3 (fieldsOk_without no h) h0 (without_ne no)
theorem firstNot_neg {c : Int} : ∀ {l : List UInt8} {i : Int},0 ≤ i → firstNot c l i < 0 → ∀ b ∈ l,inCls c b.toNat = true
 | [],_,_,_,b,hb => by cases hb
 | x :: xs,i,hi,h,b,hb => by
  rw [firstNot] at h
  split at h
  ·rename_i k
   rcases List.mem_cons.1 hb with rfl | hb
   ·exact k
   ·exact firstNot_neg (by omega) h b hb
  ·omega
theorem firstNot_all {c : Int} : ∀ {l : List UInt8} {i : Int},(∀ b ∈ l,inCls c b.toNat = true) → firstNot c l i = -1
 | [],_,_ => rfl
 | x :: xs,i,h => by
  rw [firstNot,if_pos (h x List.mem_cons_self)]
  exact firstNot_all (fun b hb => h b (List.mem_cons_of_mem _ hb))
theorem inCls_one {x : Int} : inCls 1 x = decide (48 ≤ x ∧ x ≤ 57) := rfl
theorem allD_first {t : ByteArray} : allD t = true ↔ ∀ b ∈ t.data.toList,inCls 1 b.toNat = true := by
 unfold allD
 rw [List.all_eq_true]
 constructor
 ·intro h b hb
  have := of_decide_eq_true (h b hb)
  rw [inCls_one]
  exact d_T (by omega)
 ·intro h b hb
  have := h b hb
  rw [inCls_one] at this
  have := of_decide_eq_true this
  exact d_T (by omega)
theorem specValue_all {x : S87} {t : ByteArray} (h : specValue x t = 0) : specCheck x = 0 ∧ x.f3 ≤ t.size ∧ t.size ≤ x.f4 ∧ (∀ b ∈ t.data.toList,inCls x.f1 b.toNat = true) ∧ (x.f1 = 6 → tlvErr t = 0) := by
 unfold specValue at h
 by_cases c1 : specCheck x ≠ 0
 ·rw [if_pos c1] at h;exact absurd h (by decide)
 rw [if_neg c1] at h
 by_cases c2 : (t.size : Int) < x.f3 ∨ (t.size : Int) > x.f4
 ·rw [if_pos c2] at h;exact absurd h (by decide)
 rw [if_neg c2] at h
 by_cases c3 : firstNot x.f1 t.data.toList 0 ≥ 0
 ·rw [if_pos c3] at h;exact absurd h (by decide)
 rw [if_neg c3] at h
 by_cases c4 : x.f1 = 6 ∧ tlvErr t ≠ 0
 ·rw [if_pos c4] at h;exact absurd h (by decide)
 exact ⟨by simpa using c1,by omega,by omega,firstNot_neg (i := 0) (by omega) (by omega),fun h6 => by
  by_cases c : tlvErr t = 0
  ·exact c
  ·exact absurd ⟨h6,c⟩ c4⟩
theorem specValue_mk {x : S87} {t : ByteArray} (h1 : specCheck x = 0) (h2 : x.f3 ≤ t.size) (h3 : t.size ≤ x.f4) (h4 : ∀ b ∈ t.data.toList,inCls x.f1 b.toNat = true) (h5 : x.f1 = 6 → tlvErr t = 0) : specValue x t = 0 := by
 unfold specValue
 rw [if_neg (show ¬ specCheck x ≠ 0 by simp [h1]),if_neg (show ¬ ((t.size : Int) < x.f3 ∨ (t.size : Int) > x.f4) by omega),if_neg (show ¬ (firstNot x.f1 t.data.toList 0 ≥ 0) by rw [firstNot_all h4];omega),if_neg (fun c => c.2 (h5 c.1))]
theorem wider_bytes {a b : Int} (h : widerC a b = true) (x : Int) (hx : inCls b x = true) : inCls a x = true := by
 unfold widerC at h
 simp only [Bool.and_eq_true,decide_eq_true_eq] at h
 obtain ⟨h1,h2,h3⟩ := h
 rcases (show a = 1 ∨ a = 2 ∨ a = 3 ∨ a = 4 ∨ a = 5 ∨ a = 6 by omega) with rfl | rfl | rfl | rfl | rfl | rfl <;>
 rcases (show b = 1 ∨ b = 2 ∨ b = 3 ∨ b = 4 ∨ b = 5 ∨ b = 6 by omega) with rfl | rfl | rfl | rfl | rfl | rfl <;>
 first | exact hx | exact absurd h3 (by decide +kernel) | (simp [inCls] at hx ⊢;try omega)
theorem specValue_wider {x y : S87} {t : ByteArray} (hw : widerS x y = true) (h : specValue y t = 0) : specValue x t = 0 := by
 unfold widerS at hw
 simp only [Bool.and_eq_true,decide_eq_true_eq] at hw
 obtain ⟨w1,w2,w3,w4,w5⟩ := hw
 obtain ⟨s1,s2,s3,s4,s5⟩ := specValue_all h
 unfold classesOk at w5
 by_cases c5 : x.f1 = 5
 ·exact specValue_mk w1 (by omega) (by omega) (fun b _ => by rw [c5];simp [inCls]) (fun c => by omega)
 rw [if_neg c5] at w5
 by_cases c6 : x.f1 = 6 ∨ y.f1 = 6
 ·rw [if_pos c6] at w5
  have he := of_decide_eq_true w5
  exact specValue_mk w1 (by omega) (by omega) (fun b hb => by rw [he];exact s4 b hb) (fun c => s5 (by omega))
 rw [if_neg c6] at w5
 exact specValue_mk w1 (by omega) (by omega) (fun b hb => wider_bytes w5 _ (s4 b hb)) (fun c => absurd (.inl c) c6)
theorem repeat_mem : ∀ (n : Nat) (b : UInt8),b ∈ Lib.repeatL ([48] : List UInt8) n → b = 48
 | 0,b,h => by simp [Lib.repeatL] at h
 | n + 1,b,h => by
  rw [Lib.repeatL] at h
  rcases List.mem_append.1 h with h | h
  ·simpa using h
  ·exact repeat_mem n b h
theorem padS_ok {t : ByteArray} {n : Int} (hn : 1 ≤ n) (hd : allD t = true) (h : (padS t n).2 = true) : ((padS t n).1.size : Int) = n ∧ allD (padS t n).1 = true := by
 unfold padS at h ⊢
 by_cases c : (t.size : Int) ≤ n
 ·rw [if_pos c]
  constructor
  ·show (((⟨(Lib.repeatL [48] (n - t.size).toNat).toArray⟩ : ByteArray) ++ t).size : Int) = n
   rw [ByteArray.size_append,show (⟨(Lib.repeatL [48] (n - t.size).toNat).toArray⟩ : ByteArray).size = (Lib.repeatL ([48] : List UInt8) (n - t.size).toNat).length from List.size_toArray,repeat_size]
   omega
  ·show allD ((⟨(Lib.repeatL [48] (n - t.size).toNat).toArray⟩ : ByteArray) ++ t) = true
   rw [allD_first] at hd ⊢
   intro b hb
   rw [ByteArray.data_append,Array.toList_append] at hb
   rcases List.mem_append.1 hb with hb | hb
   ·rw [repeat_mem _ _ hb];decide
   ·exact hd b hb
 ·rw [if_neg c] at h ⊢
  by_cases c2 : Lib.trimB (t.extract 0 ((t.size : Int) - n).toNat).data.toList 48 = []
  ·rw [if_pos c2]
   constructor
   ·show ((t.extract ((t.size : Int) - n).toNat t.size).size : Int) = n
    rw [ByteArray.size_extract];omega
   ·show allD (t.extract ((t.size : Int) - n).toNat t.size) = true
    rw [allD_first] at hd ⊢
    intro b hb
    rw [ByteArray.data_extract,Array.toList_extract] at hb
    exact hd b (List.mem_of_mem_drop (List.mem_of_mem_take hb))
  ·rw [if_neg c2] at h;exact absurd h (by decide)
theorem ruleS_ok {no : Int} : ∀ {l : List S94},(ruleS no l).2 = true → (ruleS no l).1 ∈ l ∧ (ruleS no l).1.f1 = no
 | [],h => by cases h
 | x :: xs,h => by
  rw [ruleS] at h ⊢
  split at h
  ·rename_i c;rw [if_pos c];exact ⟨List.mem_cons_self,c⟩
  ·rename_i c;rw [if_neg c];have := ruleS_ok h;exact ⟨List.mem_cons_of_mem _ this.1,this.2⟩
theorem headS_ok {t : ByteArray} : ∀ {l : List S66},(headS t l).2 = true → ∃ p ∈ l,p.f0 = t ∧ (headS t l).1 = p.f1
 | [],h => by cases h
 | x :: xs,h => by
  rw [headS] at h ⊢
  split at h
  ·rename_i c;rw [if_pos c];exact ⟨x,List.mem_cons_self,c,rfl⟩
  ·rename_i c;rw [if_neg c];obtain ⟨p,hp,h1,h2⟩ := headS_ok h;exact ⟨p,List.mem_cons_of_mem _ hp,h1,h2⟩
theorem apply_ok {a b : List S87} {r : S94} {t : ByteArray} (hb : ∀ x ∈ b,specCheck x = 0) (hr : ruleOk a b r) (h3 : r.f0 ≠ 3) (ht : specValue (findS r.f1 a).1 t = 0) :
  applyOk b r t ∧ r.f4.length ≤ 256 ∧ ((applyS b r t).2 = 0 → (applyS b r t).1.f0 ≠ 0 → 0 < (applyS b r t).1.f0 ∧ (findS (applyS b r t).1.f0 b).2 = true ∧ specValue (findS (applyS b r t).1.f0 b).1 (applyS b r t).1.f1 = 0) := by
 obtain ⟨hk,he,q3,q4,w1,w3,w4,w5⟩ := hr
 obtain ⟨e1,e2,e3,e4⟩ := he
 have pos : (findS r.f2 b).2 = true → 0 < r.f2 := fun h => by
  have := findS_ok h
  have := specCheck_facts (hb _ this.1)
  omega
 refine ⟨⟨by omega,fun h4 => ?_⟩,?_,fun h h0 => ?_⟩
 ·obtain ⟨p1,p2⟩ := w4 h4
  have hf := e4 (by omega)
  have hc := specCheck_facts (hb _ (findS_ok hf).1)
  unfold paddedS at p1 p2
  simp only [Bool.and_eq_true,decide_eq_true_eq] at p1 p2
  obtain ⟨s1,s2,s3,s4,s5⟩ := specValue_all ht
  have hc2 := specCheck_facts s1
  refine ⟨hf,by omega,by omega,by omega,by omega,?_⟩
  rw [allD_first]
  rw [p1.1] at s4
  exact s4
 ·by_cases h5 : r.f0 = 5
  ·exact (w5 h5).1
  ·rw [q4 h5];exact Nat.zero_le _
 ·unfold applyS at h h0 ⊢
  rcases hk with k | k | k | k | k
  ·rw [if_pos k]
   have hf := e4 (by omega)
   exact ⟨pos hf,hf,specValue_wider (w1 k) ht⟩
  ·rw [if_neg (by omega),if_pos k] at h0
   exact absurd rfl h0
  ·exact absurd k h3
  ·rw [if_neg (by omega),if_neg (by omega),if_neg (by omega),if_pos k] at h ⊢
   have hf := e4 (by omega)
   obtain ⟨p1,p2⟩ := w4 k
   unfold paddedS at p1 p2
   simp only [Bool.and_eq_true,decide_eq_true_eq] at p1 p2
   obtain ⟨s1,s2,s3,s4,s5⟩ := specValue_all ht
   have hcb := hb _ (findS_ok hf).1
   have hc := specCheck_facts hcb
   have hfx : (findS r.f2 b).1.f3 = (findS r.f2 b).1.f4 := by
    have h9 := hcb
    unfold specCheck at h9
    (repeat' split at h9) <;> first | (exact absurd h9 (by decide)) | skip
    all_goals omega
   by_cases c : (padS t (findS r.f2 b).1.f3).2 = false
   ·rw [if_pos c] at h;exact absurd h (by decide)
   rw [if_neg c]
   have hp := padS_ok (n := (findS r.f2 b).1.f3) (by omega) (by rw [allD_first];rw [p1.1] at s4;exact s4) (by simpa using c)
   have hz := hp.1
   refine ⟨pos hf,hf,?_⟩
   show specValue (findS r.f2 b).1 (padS t (findS r.f2 b).1.f3).1 = 0
   refine specValue_mk hcb (by omega) (by omega) (fun x hx => ?_) (fun c6 => by omega)
   rw [p2.1]
   exact allD_first.1 hp.2 x hx
  ·rw [if_neg (by omega),if_neg (by omega),if_neg (by omega),if_neg (by omega)] at h ⊢
   have hf := e4 (by omega)
   by_cases c : (headS t r.f4).2 = false
   ·rw [if_pos c] at h;exact absurd h (by decide)
   rw [if_neg c]
   obtain ⟨p,hp,_,h2⟩ := headS_ok (by simpa using c : (headS t r.f4).2 = true)
   refine ⟨pos hf,hf,?_⟩
   show specValue (findS r.f2 b).1 (headS t r.f4).1 = 0
   rw [h2]
   exact ((w5 k).2.2.2 p hp).2
theorem constS_ok {a b : List S87} (hb : ∀ x ∈ b,specCheck x = 0) : ∀ {rs : List S94} {acc : List S63},(∀ r ∈ rs,ruleOk a b r) → fieldsOk b 0 acc = true → fieldsOk b 0 (constS rs acc) = true
 | [],_,_,h => h
 | r :: rs,acc,hr,h => by
  rw [constS]
  refine constS_ok hb (fun r' h' => hr r' (List.mem_cons_of_mem _ h')) ?_
  split
  ·rename_i k
   obtain ⟨hk,he,q3,q4,w1,w3,w4,w5⟩ := hr r List.mem_cons_self
   have hf := he.2.2.2 (by omega)
   have h1 := findS_ok hf
   have h2 := specCheck_facts (hb _ h1.1)
   exact fieldsOk_withM (by omega) hf (w3 k) h
  ·exact h
theorem transL_ok {a b : List S87} (ha : ∀ x ∈ a,specCheck x = 0) (hb : ∀ x ∈ b,specCheck x = 0) {rs : List S94} (hr : ∀ r ∈ rs,ruleOk a b r) : ∀ {last : Int} {xs acc : List S63},0 ≤ last → fieldsOk a last xs = true → fieldsOk b 0 acc = true → (transL b rs xs acc).2.1 = 0 → fieldsOk b 0 (transL b rs xs acc).1 = true
 | _,[],_,_,_,h,_ => h
 | last,x :: xs,acc,hl,hx,h,h0 => by
  obtain ⟨k1,k2,k3,k4⟩ := fieldsOk_cons hx
  rw [transL] at h0 ⊢
  by_cases c : (ruleS x.f0 rs).2 = false
  ·rw [if_pos c] at h0;exact absurd h0 (by show (9 : Int) ≠ 0;omega)
  rw [if_neg c] at h0 ⊢
  by_cases c2 : (applyS b (ruleS x.f0 rs).1 x.f1).2 ≠ 0
  ·rw [if_pos c2] at h0;exact absurd h0 c2
  rw [if_neg c2] at h0 ⊢
  have hm := ruleS_ok (by simpa using c : (ruleS x.f0 rs).2 = true)
  have hro := hr _ hm.1
  have h3 : (ruleS x.f0 rs).1.f0 ≠ 3 := fun e => by have := hro.2.1.1 e;omega
  have hap := apply_ok hb hro h3 (t := x.f1) (by rw [hm.2];exact k3)
  refine transL_ok ha hb hr (by omega) k4 ?_ h0
  split
  ·rename_i e
   obtain ⟨p1,p2,p3⟩ := hap.2.2 (by simpa using c2) e
   exact fieldsOk_withM p1 p2 p3 h
  ·exact h
theorem transS_ok {ms : List S66} {rs : List S94} {st1 ver1 st2 ver2 : Int} {l1 l2 : List S87} {m : ByteArray} {xs : List S63} (hm : mapOk ms rs st1 ver1 l1 st2 ver2 l2) (hx : msgOk st1 ver1 l1 m xs = true) (h0 : (transS ms rs l2 m xs).2.1 = 0) :
  msgOk st2 ver2 l2 (transS ms rs l2 m xs).1.1 (transS ms rs l2 m xs).1.2 = true := by
 obtain ⟨m1,m2,m3,m4,m5,m6,m7,m8⟩ := hm
 unfold msgOk at hx ⊢
 simp only [Bool.and_eq_true,decide_eq_true_eq] at hx ⊢
 have ha := (schemaCheck_ok m1).2.2
 have hb := (schemaCheck_ok m2).2.2
 refine ⟨m2,?_⟩
 unfold transS at h0 ⊢
 by_cases c : (headS m ms).2 = false
 ·rw [if_pos c] at h0;exact absurd h0 (by show (7 : Int) ≠ 0;omega)
 rw [if_neg c] at h0 ⊢
 by_cases c2 : (transL l2 rs xs (constS rs [])).2.1 ≠ 0
 ·rw [if_pos c2] at h0;exact absurd h0 c2
 rw [if_neg c2]
 obtain ⟨p,hp,_,h2⟩ := headS_ok (by simpa using c : (headS m ms).2 = true)
 refine ⟨?_,transL_ok ha hb m7 (Int.le_refl 0) hx.2.2 (constS_ok hb m7 rfl) (by simpa using c2)⟩
 show verV (headS m ms).1 = _
 rw [h2]
 exact (m4 p hp).2.1
theorem trans_hap {ms : List S66} {rs : List S94} {st1 ver1 st2 ver2 : Int} {l1 l2 : List S87} {m : ByteArray} {xs : List S63} (hm : mapOk ms rs st1 ver1 l1 st2 ver2 l2) (hx : msgOk st1 ver1 l1 m xs = true) :
  ∀ x ∈ xs,∀ r,ruleS x.f0 rs = (r,true) → applyOk l2 r x.f1 ∧ r.f4.length ≤ 4611686018427387904 := by
 intro x hxm r hr
 obtain ⟨m1,m2,m3,m4,m5,m6,m7,m8⟩ := hm
 unfold msgOk at hx
 simp only [Bool.and_eq_true,decide_eq_true_eq] at hx
 have h1 := ruleS_ok (no := x.f0) (l := rs) (by rw [hr])
 rw [hr] at h1
 have hro := m7 _ h1.1
 have h3 : r.f0 ≠ 3 := fun e => by have := hro.2.1.1 e;have := fieldsOk_lt hx.2.2 x hxm;have := h1.2;omega
 have := apply_ok (schemaCheck_ok m2).2.2 hro h3 (t := x.f1) (by rw [h1.2];exact (fieldsOk_mem hx.2.2 x hxm).2)
 have h5 : r.f4.length ≤ 256 := this.2.1
 exact ⟨this.1,by omega⟩
def sideOk (st ver : Int) (l : List S87) (echo : List Int) (cs : List S129) : Prop :=
 (schemaCheck st ver l).1 = 0 ∧ (findS 39 l).2 = true ∧ (∀ no ∈ echo,(findS no l).2 = true) ∧ (∀ c ∈ cs,specValue (findS 39 l).1 c.f1 = 0) ∧ (codeS 0 cs).2 = true
theorem codeS_ok {e : Int} : ∀ {l : List S129},(codeS e l).2 = true → ∃ p ∈ l,p.f0 = e ∧ (codeS e l).1 = p.f1
 | [],h => by cases h
 | x :: xs,h => by
  rw [codeS] at h ⊢
  split at h
  ·rename_i c;rw [if_pos c];exact ⟨x,List.mem_cons_self,c,rfl⟩
  ·rename_i c;rw [if_neg c];obtain ⟨p,hp,h1,h2⟩ := codeS_ok h;exact ⟨p,List.mem_cons_of_mem _ hp,h1,h2⟩
theorem getS_ok {no : Int} : ∀ {l : List S63},(getS no l).2 = true → ∃ x ∈ l,x.f0 = no ∧ (getS no l).1 = x.f1
 | [],h => by cases h
 | x :: xs,h => by
  rw [getS] at h ⊢
  split at h
  ·rename_i c;rw [if_pos c];exact ⟨x,List.mem_cons_self,c,rfl⟩
  ·rename_i c;rw [if_neg c];obtain ⟨p,hp,h1,h2⟩ := getS_ok h;exact ⟨p,List.mem_cons_of_mem _ hp,h1,h2⟩
theorem echoS_ok {l : List S87} (hl : ∀ x ∈ l,specCheck x = 0) {fs : List S63} (hf : ∀ x ∈ fs,(findS x.f0 l).2 = true ∧ specValue (findS x.f0 l).1 x.f1 = 0) : ∀ {echo : List Int} {acc : List S63},fieldsOk l 0 acc = true → fieldsOk l 0 (echoS fs echo acc) = true
 | [],_,h => h
 | no :: r,acc,h => by
  rw [echoS]
  refine echoS_ok hl hf ?_
  split
  ·rename_i c
   obtain ⟨x,hx,h1,h2⟩ := getS_ok c
   have := hf x hx
   have h3 := findS_ok this.1
   have h4 := specCheck_facts (hl _ h3.1)
   rw [h2,← h1]
   exact fieldsOk_withM (by omega) this.1 this.2 h
  ·exact h
theorem buildS_ok {st ver : Int} {l : List S87} {echo : List Int} {cs : List S129} {fs : List S63} (hs : sideOk st ver l echo cs) (hf : fieldsOk l 0 fs = true) (e : Int) : fieldsOk l 0 (buildS fs echo cs e) = true := by
 obtain ⟨h1,h2,h3,h4,h5⟩ := hs
 have hl := (schemaCheck_ok h1).2.2
 unfold buildS
 refine fieldsOk_withM (by omega) h2 ?_ (echoS_ok hl (fieldsOk_mem hf) rfl)
 unfold rejCode
 split
 ·rename_i c
  obtain ⟨p,hp,_,h⟩ := codeS_ok c
  rw [h];exact h4 p hp
 ·obtain ⟨p,hp,_,h⟩ := codeS_ok h5
  rw [h];exact h4 p hp
theorem reqM_facts {m : ByteArray} (h : reqM m = true) : m.size = 4 ∧ allD m = true ∧ (bt m 2 = 48 ∨ bt m 2 = 50) := by
 unfold reqM at h
 simp only [Bool.and_eq_true,Bool.or_eq_true,decide_eq_true_eq] at h
 obtain ⟨h1,h2⟩ := h
 have := isMti_iff.1 h1
 exact ⟨this.1,this.2,h2⟩
theorem four_bytes {m : ByteArray} (h : m.size = 4) : ∃ a b c d : UInt8,m = ⟨#[a,b,c,d]⟩ := by
 obtain ⟨l,rfl⟩ : ∃ l : List UInt8,m = ⟨l.toArray⟩ := ⟨m.data.toList,by simp⟩
 have hl : l.length = 4 := by simpa [ByteArray.size] using h
 match l,hl with
 | [a,b,c,d],_ => exact ⟨a,b,c,d,rfl⟩
theorem resp_four (a b c d : UInt8) : (respM ⟨#[a,b,c,d]⟩).data.toList = [a,b,UInt8.ofNat (c.toNat + 1),d] := by
 have h2 : bt ⟨#[a,b,c,d]⟩ 2 = (c.toNat : Int) := bt_data ⟨#[a,b,c,d]⟩ 2
 unfold respM
 rw [h2,ByteArray.data_append,Array.toList_append,ByteArray.data_append,Array.toList_append,strOfNums_data,ByteArray.data_extract,ByteArray.data_extract]
 simp
theorem respM_ver {m : ByteArray} (h : reqM m = true) : verV (respM m) = verV m := by
 obtain ⟨h1,h2,h3⟩ := reqM_facts h
 obtain ⟨a,b,c,d,rfl⟩ := four_bytes h1
 have hm : isMti ⟨#[a,b,c,d]⟩ = true := isMti_iff.2 ⟨h1,h2⟩
 have hr := resp_four a b c d
 have hc : c.toNat = 48 ∨ c.toNat = 50 := by
  have h2 : bt ⟨#[a,b,c,d]⟩ 2 = (c.toNat : Int) := bt_data ⟨#[a,b,c,d]⟩ 2
  rw [h2] at h3
  omega
 have hr4 : isMti (respM ⟨#[a,b,c,d]⟩) = true := by
  refine isMti_iff.2 ⟨?_,?_⟩
  ·have : (respM ⟨#[a,b,c,d]⟩).data.toList.length = 4 := by rw [hr];rfl
   rwa [Array.length_toList] at this
  ·unfold allD at h2 ⊢
   rw [hr]
   simp only [List.all_cons,List.all_nil,Bool.and_true,Bool.and_eq_true,decide_eq_true_eq] at h2 ⊢
   have e : (UInt8.ofNat (c.toNat + 1)).toNat = c.toNat + 1 := by rw [UInt8.toNat_ofNat'];omega
   rw [e]
   exact ⟨h2.1,h2.2.1,by omega,h2.2.2.2⟩
 have hb : bt (respM ⟨#[a,b,c,d]⟩) 0 = bt ⟨#[a,b,c,d]⟩ 0 := by
  have e1 := bt_data (respM ⟨#[a,b,c,d]⟩) 0
  have e2 := bt_data ⟨#[a,b,c,d]⟩ 0
  rw [hr] at e1
  exact e1.trans e2.symm
 unfold verV
 rw [if_pos hr4,if_pos hm,hb]
theorem build_msgOk {st ver : Int} {l : List S87} {echo : List Int} {cs : List S129} {b : ByteArray} (hs : sideOk st ver l echo cs) (hq : reqM (decG st ver l b).1.1 = true) (e : Int) : msgOk st ver l (respM (decG st ver l b).1.1) (buildS (decG st ver l b).1.2 echo cs e) = true := by
 have hne : (decG st ver l b).1.1 ≠ ⟨#[]⟩ := fun h => by
  have := (reqM_facts hq).1
  rw [h] at this
  exact absurd this (by decide)
 unfold msgOk
 rw [d_T hs.1,respM_ver hq,d_T (decG_ver (.inl hne)),buildS_ok hs (decG_fields hs.1) e]
 rfl
set_option maxHeartbeats 1000000 in
theorem groatref01_Get.at (s : ByteArray) (w : World) (hs : s.size ≤ 4611686018427387904) : Calls prog 153 #[.string s] w fun e w' => e = .returned (.tuple #[.int .i64 (digG s).1,.bool (digG s).2]) ∧ w' = w := by
 unfold digG
 by_cases c0 : s.size = 0
 ·rw [if_pos (.inl c0)]
  have d0 : decide ((s.size : Int) < 1) = true := d_T (by omega)
  go_enter func153,ntmps153
  go_wp2
  go_ret2
  exact ⟨rfl,rfl⟩
 have d0 : decide ((s.size : Int) < 1) = false := d_F (by omega)
 by_cases c1 : s.size > 18
 ·rw [if_pos (.inr (.inl c1))]
  have d1 : decide (18 < (s.size : Int)) = true := d_T (by omega)
  go_enter func153,ntmps153
  go_wp2
  go_ret2
  exact ⟨rfl,rfl⟩
 have d1 : decide (18 < (s.size : Int)) = false := d_F (by omega)
 by_cases c2 : allD s = false
 ·rw [if_pos (.inr (.inr c2))]
  have H2 := aS c2
  clear c2
  go_enter func153,ntmps153
  go_wp2_with (go_at_call 111;refine (groatref01_All.at s _ hs).mono ?_;rintro e w1 ⟨rfl,rfl⟩;rw [H2.out])
  go_ret2
  exact ⟨rfl,rfl⟩
 have c3 : allD s = true := by simpa using c2
 rw [if_neg (fun c => c.elim c0 (fun c => c.elim c1 c2))]
 have H2 := aS c3
 clear c2 c3 c0
 go_enter func153,ntmps153
 go_wp2_with (go_at_call 111;refine (groatref01_All.at s _ hs).mono ?_;rintro e w1 ⟨rfl,rfl⟩;rw [H2.out])
 go_loopg [4,5] s.size (fun g v4 v5 w' => ∃ (i : Nat) (v : Int),v4 = .int .i64 v ∧ v5 = .int .i64 i ∧ i + g = s.size ∧ Aside0 (v = (s.data.toList.take i).foldl (fun (n : Int) c => 10 * n + ((c.toNat : Int) - 48)) 0) ∧ 0 ≤ v ∧ v < ((10 ^ i : Nat) : Int) ∧ w' = w1)
 case atStart => exact ⟨0,0,rfl,rfl,Nat.zero_add _,⟨rfl⟩,Int.le_refl 0,by decide,rfl⟩
 case round =>
  obtain ⟨i,v,rfl,rfl,hi,HV,hv0,hv1,rfl⟩ := hrel
  by_cases hp : i < s.size
  ·have e0 : decide ((i : Int) < s.size) = true := d_T (by omega)
   have q0 : (0 ≤ (i : Int)) = True := eq_true (by omega)
   have q1 : ((i : Int) < s.size) = True := eq_true (by omega)
   have hd := allD_at H2.out hp
   have hst := numD_step hp
   rw [← HV.out] at hst
   have HS := aS hst
   have hpw : (10 : Nat) ^ i ≤ 10 ^ 17 := Nat.pow_le_pow_right (by decide) (by omega)
   have hps : (10 : Nat) ^ (i + 1) = 10 ^ i * 10 := Nat.pow_succ ..
   have hv2 : v < 100000000000000000 := by omega
   have e1 : wrap64 (10 * v) = 10 * v := by unfold wrap64;omega
   have HP : Aside0 (10 * v + (((s[i]'hp).toNat : Int) - 48) < ((10 ^ (i + 1) : Nat) : Int)) := ⟨by rw [hps];omega⟩
   clear hst hps hpw hv1
   go_wp2
   obtain ⟨g,rfl⟩ : ∃ g,gk = g + 1 := ⟨gk - 1,by omega⟩
   go_roundg g
   case rel => exact ⟨i + 1,10 * v + (((s[i]'hp).toNat : Int) - 48),by congr 1;omega,rfl,by omega,⟨HS.out.symm⟩,by omega,HP.out,rfl⟩
   case measure => omega
  ·have e0 : decide ((i : Int) < s.size) = false := d_F (by omega)
   have HN : Aside0 (v = numD s) := ⟨by rw [HV.out,List.take_of_length_le (by rw [Array.length_toList];exact Nat.le_of_not_lt hp)];rfl⟩
   clear hv1
   go_wp2
   go_ret2
   exact ⟨by rw [← HN.out];rfl,rfl⟩
theorem numD_four (a b c d : UInt8) : numD ⟨#[a,b,c,d]⟩ = 1000 * ((a.toNat : Int) - 48) + 100 * ((b.toNat : Int) - 48) + 10 * ((c.toNat : Int) - 48) + ((d.toNat : Int) - 48) := by
 show 10 * (10 * (10 * (10 * (0 : Int) + ((a.toNat : Int) - 48)) + ((b.toNat : Int) - 48)) + ((c.toNat : Int) - 48)) + ((d.toNat : Int) - 48) = _
 omega
theorem reqM_dig {m : ByteArray} (h4 : m.size = 4) (hd : allD m = true) : reqM m = decide (numD m / 10 % 10 = 0 ∨ numD m / 10 % 10 = 2) ∧ 0 ≤ numD m ∧ numD m < 10000 := by
 obtain ⟨a,b,c,d,rfl⟩ := four_bytes h4
 have hc : bt ⟨#[a,b,c,d]⟩ 2 = (c.toNat : Int) := bt_data ⟨#[a,b,c,d]⟩ 2
 have hd2 := hd
 unfold allD at hd2
 simp only [List.all_cons,List.all_nil,Bool.and_true,Bool.and_eq_true,decide_eq_true_eq] at hd2
 rw [numD_four]
 unfold reqM
 rw [isMti_iff.2 ⟨h4,hd⟩,hc,Bool.true_and,← Bool.decide_or]
 refine ⟨?_,by omega,by omega⟩
 congr 1
 apply propext
 omega
set_option maxHeartbeats 1000000 in
theorem groatref15_Request.at (m : ByteArray) (w : World) (hs : m.size ≤ 4611686018427387904) : Calls prog 128 #[.string m] w fun e w' => e = .returned (.bool (reqM m)) ∧ w' = w := by
 by_cases h4 : m.size = 4
 ·have c4 : ((m.size : Int) == 4) = true := beq_iff_eq.mpr (by omega)
  by_cases hd : allD m = true
  ·obtain ⟨h1,h2,h3⟩ := reqM_dig h4 hd
   have HG : Aside0 (digG m = (numD m,true)) := ⟨by unfold digG;rw [if_neg (fun c => c.elim (by omega) (fun c => c.elim (by omega) (fun c => by rw [hd] at c;cases c)))]⟩
   have H1 := aS h1
   generalize numD m = n at *
   clear hd h1 h4
   have t1 : n.tdiv 10 = n / 10 := Int.tdiv_eq_ediv_of_nonneg h2
   have t2 : (n / 10).tmod 10 = n / 10 % 10 := Int.tmod_eq_emod_of_nonneg (by omega)
   go_enter func128,ntmps128
   go_wp2_with (go_at_call 153;refine (groatref01_Get.at m _ hs).mono ?_;rintro e w1 ⟨rfl,rfl⟩;rw [HG.out])
   all_goals go_ret
   all_goals refine ⟨ret_bool ?_,rfl⟩
   all_goals rw [H1.out,Bool.eq_iff_iff,decide_eq_true_eq]
   all_goals first | (rw [Bool.or_eq_true,beq_iff_eq,beq_iff_eq];done) | (simp only [true_iff,false_iff,Bool.false_eq_true];omega)
  ·have HG : Aside0 (digG m = (0,false)) := ⟨by unfold digG;rw [if_pos (.inr (.inr (by simpa using hd)))]⟩
   have HR : Aside0 (reqM m = false) := ⟨by
    unfold reqM isMti
    rw [show allD m = false by simpa using hd,Bool.and_false,Bool.false_and]⟩
   clear hd h4
   go_enter func128,ntmps128
   go_wp2_with (go_at_call 153;refine (groatref01_Get.at m _ hs).mono ?_;rintro e w1 ⟨rfl,rfl⟩;rw [HG.out])
   go_ret
   exact ⟨by rw [HR.out];rfl,rfl⟩
 ·have c4 : ((m.size : Int) == 4) = false := beq_eq_false_iff_ne.mpr (by omega)
  have HR : Aside0 (reqM m = false) := ⟨by
    unfold reqM isMti
    rw [d_F h4,Bool.false_and,Bool.false_and]⟩
  obtain ⟨n,ok,hg⟩ : ∃ n ok,digG m = (n,ok) := ⟨_,_,rfl⟩
  have HG := aS hg
  clear hg h4
  go_enter func128,ntmps128
  go_wp2_with (go_at_call 153;refine (groatref01_Get.at m _ hs).mono ?_;rintro e w1 ⟨rfl,rfl⟩;rw [HG.out])
  all_goals go_ret
  all_goals exact ⟨by rw [HR.out];rfl,rfl⟩
theorem groatref21_version.at (m : ByteArray) (v : Int) (w : World) (hs : m.size ≤ 4611686018427387904) : Calls prog 127 #[.string m,.int .i64 v] w fun e w' => e = .returned (.bool (decide (verV m = (v,true)))) ∧ w' = w := by
 cases h : isMti m with
 | true =>
  have h4 := isMti_iff.1 h
  have hd := allD_at h4.2 (i := 0) (by omega)
  have hb0 := bt_get (s := m) (i := 0) (by omega)
  have p : (0 < m.size) = True := eq_true (by omega)
  have q : ((0 : Int) < m.size) = True := eq_true (by omega)
  have e0 : ((((m[0]'(by omega)).toNat : Int) - 48) == v) = decide (verV m = (v,true)) := by
   unfold verV
   rw [if_pos h,Bool.eq_iff_iff,beq_iff_eq,decide_eq_true_eq,Prod.mk.injEq,show bt m 0 = _ from hb0]
   simp
  have H0 := aS e0
  have H := aS h
  clear e0 h hb0
  go_enter func127,ntmps127
  go_wp2_with (first | (go_at_call 54;refine (groatref15_Right.at _ _ hs).mono ?_;rintro e w1 ⟨rfl,rfl⟩;rw [H.out]))
  go_ret
  exact ⟨ret_bool H0.out,rfl⟩
 | false =>
  have e0 : decide (verV m = (v,true)) = false := d_F (by unfold verV;rw [h];simp)
  rw [e0]
  have H := aS h
  clear h e0
  go_enter func127,ntmps127
  go_wp2_with (first | (go_at_call 54;refine (groatref15_Right.at _ _ hs).mono ?_;rintro e w1 ⟨rfl,rfl⟩;rw [H.out]))
  go_ret
  exact ⟨rfl,rfl⟩
end Go.Proofs.YtgbmnpgaddhfpaaGreatDoor.T
